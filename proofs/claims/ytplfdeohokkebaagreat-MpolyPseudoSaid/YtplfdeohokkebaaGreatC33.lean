/- Validity: the program's. -/
import Derived.Test.YtplfdeohokkebaaGreatC32
set_option linter.unusedVariables false
set_option linter.unusedSimpArgs false
namespace Go.Proofs.YtplfdeohokkebaaGreat
open Go.RowKit Q Go.WideMaps Go.Maps
theorem term_ones {w : World} {r : List Value} {q : Rat} {e : Ex} (h : IsRatC w r q) : (exC e ++ r).toArray.all (·.oneCell') = true := by
 rw [Array.all_eq_true_iff_forall_mem]
 intro v hv
 rcases List.mem_append.1 (by simpa using hv) with hv | hv
 ·exact exC_one e v hv
 ·exact h.one v hv
set_option maxHeartbeats 8000000 in
set_option maxRecDepth 100000 in
theorem validm_any (v : Value) (l : List Trm) (w : World) (h : IsPoly w v l) (hr : ∀ t ∈ l, Rk t.2) (hl : l.length ≤ 1000000) : Calls Tryz.prog 16 #[v] w (Ret w (.bool (vldB l))) := by
 obtain ⟨ap, cp, rfl, hcp⟩ := h.shape
 have hall := vldB_iff (l := l)
 generalize vldB l = R at *
 replace hall := Lib.hid hall
 replace hr := Lib.hid hr
 go_enter Tryz.func16, Tryz.ntmps16
 go_wp2
 go_loopw [7] (fun i wr => ∃ k : Nat, k ≤ l.length ∧ i = .int .i64 k ∧ Hid (∀ j, j < k → okAt l j = true) ∧ Below w.heap.size w wr) (fun i _ => l.length - (intOf i).toNat)
 case atStart => exact ⟨0, by omega, rfl, Lib.hid (fun j h => by omega), Below.refl _ _⟩
 case round =>
  obtain ⟨k, hk, rfl, hpre, hbr⟩ := hrel
  by_cases hkl : k < l.length
  ·have hjq : l[k]? = some l[k] := List.getElem?_eq_getElem hkl
   generalize l[k] = t at hjq
   obtain ⟨b1, o1, cs1, rfl, -, hE1, hC⟩ := h.get hjq
   obtain ⟨r1, rfl, hr1⟩ := hE1
   change Cells monoT w b1 (o1 + k * 8) _ at hC
   have hkt := hr.out t (List.mem_of_getElem? hjq)
   have hkl' : (k : Int) < l.length := by omega
   have hl1 := hr1.len
   have hsg := fun W (hb : Below w.heap.size w W) => rsign_any _ _ W (hr1.on hb).rat
   have hstop : okAt l k = false → Hid (R = false) := fun hf => by
    cases hR : R
    ·exact Lib.hid rfl
    ·have := (hall.out.1 hR) k hkl
     rw [hf] at this; cases this
   have hstep : okAt l k = true → Hid (∀ j, j < k + 1 → okAt l j = true) := fun ht j hj => by
    rcases Nat.lt_or_ge j k with h' | h'
    ·exact hpre.out j h'
    ·obtain rfl : j = k := by omega
     exact ht
   have h8 : (exC t.1 ++ r1).length = 8 := by rw [List.length_append, hl1]; rfl
   have hrg := (hC.on hbr).range
   go_upto_region 4 with (first
    | (refine wpList_index_at rfl _ _ 38 rfl monoT Tryz.underlying38 _ 8 96 (by kernel_rfl) _ _ _ rfl .i64 _ rfl k rfl hkl b1 o1 rfl ?_)
    | (refine wpList_load_mid rfl 37 _ rfl _ _ rfl _ _ hrg Tryz.underlying37 rfl (by rw [h8]; kernel_rfl) ?_)
    | (refine wpList_store_blk rfl _ (.tmp 4) (.tmp 11) rfl _ _ _ _ rfl rfl (Blk.new wr monoT [.int .i64 0, .int .i64 0, .int .i64 0, .int .i64 0, .bool false, .slice none 0 0, .bool false, .slice none 0 0]) (by simp [exC, hl1]) (by simp only [List.size_toArray, h8]; exact info37) (term_ones hr1) ?_; intro W3 R3 gr3))
   have BB : Blk W3 wr.heap.size monoT (exC t.1 ++ r1) := by simpa using R3
   have hba : Below wr.heap.size wr (wr.alloc (.cells #[.int .i64 0, .int .i64 0, .int .i64 0, .int .i64 0, .bool false, .slice none 0 0, .bool false, .slice none 0 0] monoT)) := (Below.refl _ _).alloc (Nat.le_refl _) _
   replace hbr := hbr.trans ((hba.trans (grown_below gr3 (by simp) (Nat.le_refl _))).mono hbr.size)
   clear hrg R3 gr3 hba
   generalize wr.heap.size = mb at *
   by_cases hn : t.1.nat = true
   ·have hnt := hn
    by_cases hc : t.2 = 0
    ·have hst := hstop (by simp [okAt, hjq, hc])
     rw [show sgnZ t.2.num = 0 by rw [hc]; rfl] at hsg
     clear hstep hstop hpre hjq hn
     refine wp_region_L mixed (none) (0) (Okr.none) [.eq (.pointer (some ⟨mb, 0, none⟩)), .eq (.agg (exC t.1).toArray), .ret (.bool true), .eq (.bool false), .eq (.bool false), .eq (.pointer (some ⟨mb, 0 + 4, none⟩)), .eq (.agg (r1).toArray), .ret (.bool true), .eq (.bool false), .eq (.bool false), .eq (.bool false), .eq (.pointer (some ⟨mb, 0 + 4, none⟩)), .eq (.agg (r1).toArray), .ret (.int .i64 0), .eq (.bool true), .eq (.bool true), .eq (.bool true), .eq undef, .eq undef, .eq undef, .eq undef, .eq undef, .eq undef, .eq undef, .eq undef, .eq undef, .eq undef, .eq undef, .eq undef, .eq undef, .eq undef, .eq (.bool true)] [12, 13, 14, 15, 16, 17, 18, 19, 20, 21, 22, 23, 24, 25, 26, 27, 28, 29, 30, 31, 32, 33, 34, 35, 36, 37, 38, 39, 40, 41, 42, 43] rfl rfl rfl rfl ⟨?_, ?_, ?_, ?_, ?_, ?_, ?_, ?_, ?_, ?_, ?_, ?_, ?_, ?_, ?_, ?_, ?_, ?_, ?_, ?_, ?_, ?_, ?_, ?_, ?_, ?_, ?_, ?_, ?_, ?_, ?_, ?_, trivial⟩ ?_
     ·intro A w1 hA hL hS he
      have h4 : A.eval (.tmp 4) = .pointer (some ⟨mb, 0, none⟩) := hA 4 rfl
      refine goOn_plain rfl ?_
      exact stepG_pure rfl rfl (execOp_field rfl (by rw [h4]; exact run_field37_0 _ _ _))
     ·intro A w1 hA hL hS he
      have hb := hL.below
      have h12 : A.eval (.tmp 12) = _ := he.1 rfl
      refine goOn_plain rfl ?_
      exact stepG_pure rfl rfl (execOp_load rfl (by rw [h12]; exact run_loadAt_mid w1 _ _ _ _ _ (blk_ex (BB.on hb)) Tryz.underlying29 rfl (by rw [show (exC t.1).length = 4 from rfl]; kernel_rfl)))
     ·intro A w1 hA hL hS he
      have hb := hS rfl
      have h13 : A.eval (.tmp 13) = _ := he.1 rfl
      have hf0 : A.eval (.func 62) = .func (.func 62) #[] #[] := rfl
      refine goOn_plain rfl ?_
      refine stepG_call (f := 62) (args := #[.agg (exC t.1).toArray]) rfl rfl ?_ ?_
      ·generalize A.eval = ev at *
       go_simp
      ·refine (hnt ▸ natural_any t.1 _).mono ?_
       rintro e w' ⟨rfl, hb'⟩
       exact ⟨_, rfl, hb', rfl⟩
     ·intro A w1 hA hL hS he
      have h14 : A.eval (.tmp 14) = _ := he.1 rfl
      refine goOn_plain rfl (stepG_pure rfl rfl ?_)
      generalize A.eval = ev at *
      go_simp
     ·exact fun A w1 hA hL hS he => goOn_plain rfl (stepG_mv rfl rfl (he.1 rfl))
     ·intro A w1 hA hL hS he
      have h16 : A.eval (.tmp 16) = _ := he.1 rfl
      have h4 : A.eval (.tmp 4) = .pointer (some ⟨mb, 0, none⟩) := hA 4 rfl
      refine goOn_yes rfl rfl h16 ?_
      exact stepG_pure rfl rfl (execOp_field rfl (by rw [h4]; exact run_field37_1 _ _ _))
     ·intro A w1 hA hL hS he
      have hb := hL.below
      have h16 : A.eval (.tmp 16) = _ := he.2.1 rfl
      have h17 : A.eval (.tmp 17) = _ := he.1 rfl
      refine goOn_yes rfl rfl h16 ?_
      exact stepG_pure rfl rfl (execOp_load rfl (by rw [h17]; exact run_loadAt_mid w1 _ _ _ _ _ (blk_rat (BB.on hb)) Tryz.underlying34 rfl (by rw [hl1]; kernel_rfl)))
     ·intro A w1 hA hL hS he
      have hb := hS rfl
      have h16 : A.eval (.tmp 16) = _ := he.2.1 rfl
      have h18 : A.eval (.tmp 18) = _ := he.1 rfl
      have hf0 : A.eval (.func 63) = .func (.func 63) #[] #[] := rfl
      refine goOn_yes rfl rfl h16 ?_
      refine stepG_call (f := 63) (args := #[.agg (r1).toArray]) rfl rfl ?_ ?_
      ·generalize A.eval = ev at *
       go_simp
      ·refine (rvalid_any _ _ _ (hr1.on (hbr.trans (hb.mono hbr.size))).rat hkt).mono ?_
       rintro e w' ⟨rfl, hb'⟩
       exact ⟨_, rfl, hb', rfl⟩
     ·intro A w1 hA hL hS he
      have h16 : A.eval (.tmp 16) = _ := he.2.1 rfl
      have h19 : A.eval (.tmp 19) = _ := he.1 rfl
      refine goOn_yes rfl rfl h16 ?_
      refine stepG_pure rfl rfl ?_
      generalize A.eval = ev at *
      go_simp
     ·exact fun A w1 hA hL hS he => goOn_plain rfl (stepG_pk rfl (he.1 rfl) rfl (he.2.1 rfl))
     ·exact fun A w1 hA hL hS he => goOn_plain rfl (stepG_mv rfl rfl (he.1 rfl))
     ·intro A w1 hA hL hS he
      have h22 : A.eval (.tmp 22) = _ := he.1 rfl
      have h4 : A.eval (.tmp 4) = .pointer (some ⟨mb, 0, none⟩) := hA 4 rfl
      refine goOn_yes rfl rfl h22 ?_
      exact stepG_pure rfl rfl (execOp_field rfl (by rw [h4]; exact run_field37_1 _ _ _))
     ·intro A w1 hA hL hS he
      have hb := hL.below
      have h22 : A.eval (.tmp 22) = _ := he.2.1 rfl
      have h23 : A.eval (.tmp 23) = _ := he.1 rfl
      refine goOn_yes rfl rfl h22 ?_
      exact stepG_pure rfl rfl (execOp_load rfl (by rw [h23]; exact run_loadAt_mid w1 _ _ _ _ _ (blk_rat (BB.on hb)) Tryz.underlying34 rfl (by rw [hl1]; kernel_rfl)))
     ·intro A w1 hA hL hS he
      have hb := hS rfl
      have h22 : A.eval (.tmp 22) = _ := he.2.1 rfl
      have h24 : A.eval (.tmp 24) = _ := he.1 rfl
      have hf0 : A.eval (.func 64) = .func (.func 64) #[] #[] := rfl
      refine goOn_yes rfl rfl h22 ?_
      refine stepG_call (f := 64) (args := #[.agg (r1).toArray]) rfl rfl ?_ ?_
      ·generalize A.eval = ev at *
       go_simp
      ·refine (hsg _ (hbr.trans (hb.mono hbr.size))).mono ?_
       rintro e w' ⟨rfl, hb'⟩
       exact ⟨_, rfl, hb', rfl⟩
     ·intro A w1 hA hL hS he
      have h22 : A.eval (.tmp 22) = _ := he.2.1 rfl
      have h25 : A.eval (.tmp 25) = _ := he.1 rfl
      have hc0 : A.eval (.const (.int .i64 0)) = .int .i64 0 := rfl
      refine goOn_yes rfl rfl h22 ?_
      refine stepG_pure rfl rfl ?_
      generalize A.eval = ev at *
      go_simp
     ·exact fun A w1 hA hL hS he => goOn_plain rfl (stepG_pk rfl (he.1 rfl) rfl (he.2.1 rfl))
     ·exact fun A w1 hA hL hS he => goOn_plain rfl (stepG_mv rfl rfl (he.1 rfl))
     ·exact fun A w1 hA hL hS he => goOn_no (x := true) rfl rfl (he.1 rfl) rfl rfl
     ·exact fun A w1 hA hL hS he => goOn_no (x := true) rfl rfl (he.2.1 rfl) rfl rfl
     ·exact fun A w1 hA hL hS he => goOn_no (x := true) rfl rfl (he.2.1 rfl) rfl rfl
     ·exact fun A w1 hA hL hS he => goOn_undef rfl rfl (he.1 rfl) rfl
     ·exact fun A w1 hA hL hS he => goOn_undef rfl rfl (he.1 rfl) rfl
     ·exact fun A w1 hA hL hS he => goOn_undef rfl rfl (he.2.1 rfl) rfl
     ·exact fun A w1 hA hL hS he => goOn_undef rfl rfl (he.2.2.1 rfl) rfl
     ·exact fun A w1 hA hL hS he => goOn_undef rfl rfl (he.2.1 rfl) rfl
     ·exact fun A w1 hA hL hS he => goOn_undef rfl rfl (he.2.1 rfl) rfl
     ·exact fun A w1 hA hL hS he => goOn_undef rfl rfl (he.1 rfl) rfl
     ·exact fun A w1 hA hL hS he => goOn_undef rfl rfl (he.2.1 rfl) rfl
     ·exact fun A w1 hA hL hS he => goOn_undef rfl rfl (he.2.2.1 rfl) rfl
     ·exact fun A w1 hA hL hS he => goOn_undef rfl rfl (he.2.1 rfl) rfl
     ·exact fun A w1 hA hL hS he => goOn_no (x := true) rfl rfl (he.2.2.1 rfl) rfl rfl
     ·exact fun A w1 hA hL hS he => goOn_plain rfl (stepG_pk rfl (he.1 rfl) rfl rfl)
     ·intro W2 hL2
      simp only [TailL, FactL.eq, FactL.ret, List.length_cons, List.length_nil, List.drop_succ_cons, List.drop_zero]
      go_frame
      go_wp2
      go_ret
      exact ⟨by rw [hst.out] <;> rfl, hbr.trans (hL2.below.mono hbr.size)⟩
    ·have hs0 := sgnZ_ne hc
     generalize sgnZ t.2.num = sg at hs0 hsg
     have hs1 : (sg == 0) = false := by simpa using hs0
     cases k with
     | zero =>
      have hst := hstep (by simp [okAt, hjq, hc, hn])
      clear hstep hstop hpre hjq hn hc
      simp only [Nat.zero_add] at hst
      refine wp_region_L mixed (none) (0) (Okr.none) [.eq (.pointer (some ⟨mb, 0, none⟩)), .eq (.agg (exC t.1).toArray), .ret (.bool true), .eq (.bool false), .eq (.bool false), .eq (.pointer (some ⟨mb, 0 + 4, none⟩)), .eq (.agg (r1).toArray), .ret (.bool true), .eq (.bool false), .eq (.bool false), .eq (.bool false), .eq (.pointer (some ⟨mb, 0 + 4, none⟩)), .eq (.agg (r1).toArray), .ret (.int .i64 sg), .eq (.bool false), .eq (.bool false), .eq (.bool false), .eq (.int .i64 0), .eq (.bool false), .eq (.bool false), .eq undef, .eq undef, .eq undef, .eq undef, .eq undef, .eq undef, .eq undef, .eq undef, .eq undef, .eq undef, .eq (.bool false), .eq (.bool false)] [12, 13, 14, 15, 16, 17, 18, 19, 20, 21, 22, 23, 24, 25, 26, 27, 28, 29, 30, 31, 32, 33, 34, 35, 36, 37, 38, 39, 40, 41, 42, 43] rfl rfl rfl rfl ⟨?_, ?_, ?_, ?_, ?_, ?_, ?_, ?_, ?_, ?_, ?_, ?_, ?_, ?_, ?_, ?_, ?_, ?_, ?_, ?_, ?_, ?_, ?_, ?_, ?_, ?_, ?_, ?_, ?_, ?_, ?_, ?_, trivial⟩ ?_
      ·intro A w1 hA hL hS he
       have h4 : A.eval (.tmp 4) = .pointer (some ⟨mb, 0, none⟩) := hA 4 rfl
       refine goOn_plain rfl ?_
       exact stepG_pure rfl rfl (execOp_field rfl (by rw [h4]; exact run_field37_0 _ _ _))
      ·intro A w1 hA hL hS he
       have hb := hL.below
       have h12 : A.eval (.tmp 12) = _ := he.1 rfl
       refine goOn_plain rfl ?_
       exact stepG_pure rfl rfl (execOp_load rfl (by rw [h12]; exact run_loadAt_mid w1 _ _ _ _ _ (blk_ex (BB.on hb)) Tryz.underlying29 rfl (by rw [show (exC t.1).length = 4 from rfl]; kernel_rfl)))
      ·intro A w1 hA hL hS he
       have hb := hS rfl
       have h13 : A.eval (.tmp 13) = _ := he.1 rfl
       have hf0 : A.eval (.func 62) = .func (.func 62) #[] #[] := rfl
       refine goOn_plain rfl ?_
       refine stepG_call (f := 62) (args := #[.agg (exC t.1).toArray]) rfl rfl ?_ ?_
       ·generalize A.eval = ev at *
        go_simp
       ·refine (hnt ▸ natural_any t.1 _).mono ?_
        rintro e w' ⟨rfl, hb'⟩
        exact ⟨_, rfl, hb', rfl⟩
      ·intro A w1 hA hL hS he
       have h14 : A.eval (.tmp 14) = _ := he.1 rfl
       refine goOn_plain rfl (stepG_pure rfl rfl ?_)
       generalize A.eval = ev at *
       go_simp
      ·exact fun A w1 hA hL hS he => goOn_plain rfl (stepG_mv rfl rfl (he.1 rfl))
      ·intro A w1 hA hL hS he
       have h16 : A.eval (.tmp 16) = _ := he.1 rfl
       have h4 : A.eval (.tmp 4) = .pointer (some ⟨mb, 0, none⟩) := hA 4 rfl
       refine goOn_yes rfl rfl h16 ?_
       exact stepG_pure rfl rfl (execOp_field rfl (by rw [h4]; exact run_field37_1 _ _ _))
      ·intro A w1 hA hL hS he
       have hb := hL.below
       have h16 : A.eval (.tmp 16) = _ := he.2.1 rfl
       have h17 : A.eval (.tmp 17) = _ := he.1 rfl
       refine goOn_yes rfl rfl h16 ?_
       exact stepG_pure rfl rfl (execOp_load rfl (by rw [h17]; exact run_loadAt_mid w1 _ _ _ _ _ (blk_rat (BB.on hb)) Tryz.underlying34 rfl (by rw [hl1]; kernel_rfl)))
      ·intro A w1 hA hL hS he
       have hb := hS rfl
       have h16 : A.eval (.tmp 16) = _ := he.2.1 rfl
       have h18 : A.eval (.tmp 18) = _ := he.1 rfl
       have hf0 : A.eval (.func 63) = .func (.func 63) #[] #[] := rfl
       refine goOn_yes rfl rfl h16 ?_
       refine stepG_call (f := 63) (args := #[.agg (r1).toArray]) rfl rfl ?_ ?_
       ·generalize A.eval = ev at *
        go_simp
       ·refine (rvalid_any _ _ _ (hr1.on (hbr.trans (hb.mono hbr.size))).rat hkt).mono ?_
        rintro e w' ⟨rfl, hb'⟩
        exact ⟨_, rfl, hb', rfl⟩
      ·intro A w1 hA hL hS he
       have h16 : A.eval (.tmp 16) = _ := he.2.1 rfl
       have h19 : A.eval (.tmp 19) = _ := he.1 rfl
       refine goOn_yes rfl rfl h16 ?_
       refine stepG_pure rfl rfl ?_
       generalize A.eval = ev at *
       go_simp
      ·exact fun A w1 hA hL hS he => goOn_plain rfl (stepG_pk rfl (he.1 rfl) rfl (he.2.1 rfl))
      ·exact fun A w1 hA hL hS he => goOn_plain rfl (stepG_mv rfl rfl (he.1 rfl))
      ·intro A w1 hA hL hS he
       have h22 : A.eval (.tmp 22) = _ := he.1 rfl
       have h4 : A.eval (.tmp 4) = .pointer (some ⟨mb, 0, none⟩) := hA 4 rfl
       refine goOn_yes rfl rfl h22 ?_
       exact stepG_pure rfl rfl (execOp_field rfl (by rw [h4]; exact run_field37_1 _ _ _))
      ·intro A w1 hA hL hS he
       have hb := hL.below
       have h22 : A.eval (.tmp 22) = _ := he.2.1 rfl
       have h23 : A.eval (.tmp 23) = _ := he.1 rfl
       refine goOn_yes rfl rfl h22 ?_
       exact stepG_pure rfl rfl (execOp_load rfl (by rw [h23]; exact run_loadAt_mid w1 _ _ _ _ _ (blk_rat (BB.on hb)) Tryz.underlying34 rfl (by rw [hl1]; kernel_rfl)))
      ·intro A w1 hA hL hS he
       have hb := hS rfl
       have h22 : A.eval (.tmp 22) = _ := he.2.1 rfl
       have h24 : A.eval (.tmp 24) = _ := he.1 rfl
       have hf0 : A.eval (.func 64) = .func (.func 64) #[] #[] := rfl
       refine goOn_yes rfl rfl h22 ?_
       refine stepG_call (f := 64) (args := #[.agg (r1).toArray]) rfl rfl ?_ ?_
       ·generalize A.eval = ev at *
        go_simp
       ·refine (hsg _ (hbr.trans (hb.mono hbr.size))).mono ?_
        rintro e w' ⟨rfl, hb'⟩
        exact ⟨_, rfl, hb', rfl⟩
      ·intro A w1 hA hL hS he
       have h22 : A.eval (.tmp 22) = _ := he.2.1 rfl
       have h25 : A.eval (.tmp 25) = _ := he.1 rfl
       have hc0 : A.eval (.const (.int .i64 0)) = .int .i64 0 := rfl
       refine goOn_yes rfl rfl h22 ?_
       refine stepG_pure rfl rfl ?_
       generalize A.eval = ev at *
       go_simp
      ·exact fun A w1 hA hL hS he => goOn_plain rfl (stepG_pk rfl (he.1 rfl) rfl (he.2.1 rfl))
      ·exact fun A w1 hA hL hS he => goOn_plain rfl (stepG_mv rfl rfl (he.1 rfl))
      ·exact fun A w1 hA hL hS he => goOn_yes rfl rfl (he.1 rfl) (stepG_mv rfl rfl (hA 3 rfl))
      ·intro A w1 hA hL hS he
       have h28 : A.eval (.tmp 28) = _ := he.2.1 rfl
       have h29 : A.eval (.tmp 29) = _ := he.1 rfl
       have hc0 : A.eval (.const (.int .i64 0)) = .int .i64 0 := rfl
       refine goOn_yes rfl rfl h28 ?_
       refine stepG_pure rfl rfl ?_
       generalize A.eval = ev at *
       go_simp
      ·exact fun A w1 hA hL hS he => goOn_yes rfl rfl (he.2.1 rfl) (stepG_mv rfl rfl (he.1 rfl))
      ·exact fun A w1 hA hL hS he => goOn_no (x := false) rfl rfl (he.1 rfl) rfl rfl
      ·exact fun A w1 hA hL hS he => goOn_no (x := false) rfl rfl (he.1 rfl) rfl rfl
      ·exact fun A w1 hA hL hS he => goOn_no (x := false) rfl rfl (he.2.1 rfl) rfl rfl
      ·exact fun A w1 hA hL hS he => goOn_no (x := false) rfl rfl (he.2.2.1 rfl) rfl rfl
      ·exact fun A w1 hA hL hS he => goOn_no (x := false) rfl rfl (he.2.1 rfl) rfl rfl
      ·exact fun A w1 hA hL hS he => goOn_no (x := false) rfl rfl (he.2.1 rfl) rfl rfl
      ·exact fun A w1 hA hL hS he => goOn_no (x := false) rfl rfl (he.1 rfl) rfl rfl
      ·exact fun A w1 hA hL hS he => goOn_no (x := false) rfl rfl (he.2.1 rfl) rfl rfl
      ·exact fun A w1 hA hL hS he => goOn_no (x := false) rfl rfl (he.2.2.1 rfl) rfl rfl
      ·exact fun A w1 hA hL hS he => goOn_no (x := false) rfl rfl (he.2.1 rfl) rfl rfl
      ·exact fun A w1 hA hL hS he => goOn_yes rfl rfl (he.2.2.1 rfl) (stepG_pk rfl (he.1 rfl) rfl rfl)
      ·exact fun A w1 hA hL hS he => goOn_plain rfl (stepG_pk rfl (he.1 rfl) rfl (he.2.1 rfl))
      ·intro W2 hL2
       simp only [TailL, FactL.eq, FactL.ret, List.length_cons, List.length_nil, List.drop_succ_cons, List.drop_zero]
       go_frame
       go_wp2
       go_roundw
       case rel => exact ⟨1, by omega, by go_num, hst, hbr.trans (hL2.below.mono hbr.size)⟩
       case measure => simp [intOf]; omega
     | succ i =>
      have hil : i < l.length := by omega
      have hji : l[i]? = some l[i] := List.getElem?_eq_getElem hil
      generalize l[i] = s at hji
      obtain ⟨b2, o2, cs2, e2, -, hE2, hCp⟩ := h.get hji
      cases e2
      obtain ⟨r2, rfl, hr2⟩ := hE2
      change Cells monoT w b1 (o1 + i * 8) _ at hCp
      have hk0 : ((0 : Int) < ((i + 1 : Nat) : Int)) := by omega
      have hki : (((i + 1 : Nat) : Int) - 1) = (i : Int) := by omega
      by_cases hg : s.1.gt t.1 = true
      ·have hcm : cmpE s.1 t.1 = 1 := by
        rcases cmpE_cases s.1 t.1 with ⟨-, h⟩ | ⟨h, -⟩ | ⟨h, -⟩
        ·exact h
        ·rw [Ex.gt_asymm h] at hg; cases hg
        ·rw [h, Ex.gt_irrefl] at hg; cases hg
       have hst := hstep (by simp [okAt, hjq, hji, hc, hn, hg])
       clear hstep hstop hpre hjq hji hn hc hg
       refine wp_region_L mixed (none) (0) (Okr.none) [.eq (.pointer (some ⟨mb, 0, none⟩)), .eq (.agg (exC t.1).toArray), .ret (.bool true), .eq (.bool false), .eq (.bool false), .eq (.pointer (some ⟨mb, 0 + 4, none⟩)), .eq (.agg (r1).toArray), .ret (.bool true), .eq (.bool false), .eq (.bool false), .eq (.bool false), .eq (.pointer (some ⟨mb, 0 + 4, none⟩)), .eq (.agg (r1).toArray), .ret (.int .i64 sg), .eq (.bool false), .eq (.bool false), .eq (.bool false), .eq (.int .i64 (i + 1 : Nat)), .eq (.bool true), .eq (.bool true), .eq (.slice (some ⟨b1, o1, none⟩) l.length cp), .eq (.int .i64 (i + 1 : Nat)), .eq (.int .i64 i), .eq (.pointer (some ⟨b1, o1 + i * 8, none⟩)), .eq (.pointer (some ⟨b1, o1 + i * 8, none⟩)), .eq (.agg (exC s.1).toArray), .eq (.pointer (some ⟨mb, 0, none⟩)), .eq (.agg (exC t.1).toArray), .ret (.int .i64 (cmpE s.1 t.1)), .eq (.bool false), .eq (.bool false), .eq (.bool false)] [12, 13, 14, 15, 16, 17, 18, 19, 20, 21, 22, 23, 24, 25, 26, 27, 28, 29, 30, 31, 32, 33, 34, 35, 36, 37, 38, 39, 40, 41, 42, 43] rfl rfl rfl rfl ⟨?_, ?_, ?_, ?_, ?_, ?_, ?_, ?_, ?_, ?_, ?_, ?_, ?_, ?_, ?_, ?_, ?_, ?_, ?_, ?_, ?_, ?_, ?_, ?_, ?_, ?_, ?_, ?_, ?_, ?_, ?_, ?_, trivial⟩ ?_
       ·intro A w1 hA hL hS he
        have h4 : A.eval (.tmp 4) = .pointer (some ⟨mb, 0, none⟩) := hA 4 rfl
        refine goOn_plain rfl ?_
        exact stepG_pure rfl rfl (execOp_field rfl (by rw [h4]; exact run_field37_0 _ _ _))
       ·intro A w1 hA hL hS he
        have hb := hL.below
        have h12 : A.eval (.tmp 12) = _ := he.1 rfl
        refine goOn_plain rfl ?_
        exact stepG_pure rfl rfl (execOp_load rfl (by rw [h12]; exact run_loadAt_mid w1 _ _ _ _ _ (blk_ex (BB.on hb)) Tryz.underlying29 rfl (by rw [show (exC t.1).length = 4 from rfl]; kernel_rfl)))
       ·intro A w1 hA hL hS he
        have hb := hS rfl
        have h13 : A.eval (.tmp 13) = _ := he.1 rfl
        have hf0 : A.eval (.func 62) = .func (.func 62) #[] #[] := rfl
        refine goOn_plain rfl ?_
        refine stepG_call (f := 62) (args := #[.agg (exC t.1).toArray]) rfl rfl ?_ ?_
        ·generalize A.eval = ev at *
         go_simp
        ·refine (hnt ▸ natural_any t.1 _).mono ?_
         rintro e w' ⟨rfl, hb'⟩
         exact ⟨_, rfl, hb', rfl⟩
       ·intro A w1 hA hL hS he
        have h14 : A.eval (.tmp 14) = _ := he.1 rfl
        refine goOn_plain rfl (stepG_pure rfl rfl ?_)
        generalize A.eval = ev at *
        go_simp
       ·exact fun A w1 hA hL hS he => goOn_plain rfl (stepG_mv rfl rfl (he.1 rfl))
       ·intro A w1 hA hL hS he
        have h16 : A.eval (.tmp 16) = _ := he.1 rfl
        have h4 : A.eval (.tmp 4) = .pointer (some ⟨mb, 0, none⟩) := hA 4 rfl
        refine goOn_yes rfl rfl h16 ?_
        exact stepG_pure rfl rfl (execOp_field rfl (by rw [h4]; exact run_field37_1 _ _ _))
       ·intro A w1 hA hL hS he
        have hb := hL.below
        have h16 : A.eval (.tmp 16) = _ := he.2.1 rfl
        have h17 : A.eval (.tmp 17) = _ := he.1 rfl
        refine goOn_yes rfl rfl h16 ?_
        exact stepG_pure rfl rfl (execOp_load rfl (by rw [h17]; exact run_loadAt_mid w1 _ _ _ _ _ (blk_rat (BB.on hb)) Tryz.underlying34 rfl (by rw [hl1]; kernel_rfl)))
       ·intro A w1 hA hL hS he
        have hb := hS rfl
        have h16 : A.eval (.tmp 16) = _ := he.2.1 rfl
        have h18 : A.eval (.tmp 18) = _ := he.1 rfl
        have hf0 : A.eval (.func 63) = .func (.func 63) #[] #[] := rfl
        refine goOn_yes rfl rfl h16 ?_
        refine stepG_call (f := 63) (args := #[.agg (r1).toArray]) rfl rfl ?_ ?_
        ·generalize A.eval = ev at *
         go_simp
        ·refine (rvalid_any _ _ _ (hr1.on (hbr.trans (hb.mono hbr.size))).rat hkt).mono ?_
         rintro e w' ⟨rfl, hb'⟩
         exact ⟨_, rfl, hb', rfl⟩
       ·intro A w1 hA hL hS he
        have h16 : A.eval (.tmp 16) = _ := he.2.1 rfl
        have h19 : A.eval (.tmp 19) = _ := he.1 rfl
        refine goOn_yes rfl rfl h16 ?_
        refine stepG_pure rfl rfl ?_
        generalize A.eval = ev at *
        go_simp
       ·exact fun A w1 hA hL hS he => goOn_plain rfl (stepG_pk rfl (he.1 rfl) rfl (he.2.1 rfl))
       ·exact fun A w1 hA hL hS he => goOn_plain rfl (stepG_mv rfl rfl (he.1 rfl))
       ·intro A w1 hA hL hS he
        have h22 : A.eval (.tmp 22) = _ := he.1 rfl
        have h4 : A.eval (.tmp 4) = .pointer (some ⟨mb, 0, none⟩) := hA 4 rfl
        refine goOn_yes rfl rfl h22 ?_
        exact stepG_pure rfl rfl (execOp_field rfl (by rw [h4]; exact run_field37_1 _ _ _))
       ·intro A w1 hA hL hS he
        have hb := hL.below
        have h22 : A.eval (.tmp 22) = _ := he.2.1 rfl
        have h23 : A.eval (.tmp 23) = _ := he.1 rfl
        refine goOn_yes rfl rfl h22 ?_
        exact stepG_pure rfl rfl (execOp_load rfl (by rw [h23]; exact run_loadAt_mid w1 _ _ _ _ _ (blk_rat (BB.on hb)) Tryz.underlying34 rfl (by rw [hl1]; kernel_rfl)))
       ·intro A w1 hA hL hS he
        have hb := hS rfl
        have h22 : A.eval (.tmp 22) = _ := he.2.1 rfl
        have h24 : A.eval (.tmp 24) = _ := he.1 rfl
        have hf0 : A.eval (.func 64) = .func (.func 64) #[] #[] := rfl
        refine goOn_yes rfl rfl h22 ?_
        refine stepG_call (f := 64) (args := #[.agg (r1).toArray]) rfl rfl ?_ ?_
        ·generalize A.eval = ev at *
         go_simp
        ·refine (hsg _ (hbr.trans (hb.mono hbr.size))).mono ?_
         rintro e w' ⟨rfl, hb'⟩
         exact ⟨_, rfl, hb', rfl⟩
       ·intro A w1 hA hL hS he
        have h22 : A.eval (.tmp 22) = _ := he.2.1 rfl
        have h25 : A.eval (.tmp 25) = _ := he.1 rfl
        have hc0 : A.eval (.const (.int .i64 0)) = .int .i64 0 := rfl
        refine goOn_yes rfl rfl h22 ?_
        refine stepG_pure rfl rfl ?_
        generalize A.eval = ev at *
        go_simp
       ·exact fun A w1 hA hL hS he => goOn_plain rfl (stepG_pk rfl (he.1 rfl) rfl (he.2.1 rfl))
       ·exact fun A w1 hA hL hS he => goOn_plain rfl (stepG_mv rfl rfl (he.1 rfl))
       ·exact fun A w1 hA hL hS he => goOn_yes rfl rfl (he.1 rfl) (stepG_mv rfl rfl (hA 3 rfl))
       ·intro A w1 hA hL hS he
        have h28 : A.eval (.tmp 28) = _ := he.2.1 rfl
        have h29 : A.eval (.tmp 29) = _ := he.1 rfl
        have hc0 : A.eval (.const (.int .i64 0)) = .int .i64 0 := rfl
        refine goOn_yes rfl rfl h28 ?_
        refine stepG_pure rfl rfl ?_
        generalize A.eval = ev at *
        go_simp
       ·exact fun A w1 hA hL hS he => goOn_yes rfl rfl (he.2.1 rfl) (stepG_mv rfl rfl (he.1 rfl))
       ·exact fun A w1 hA hL hS he => goOn_yes rfl rfl (he.1 rfl) (stepG_mv rfl rfl (hA 0 rfl))
       ·exact fun A w1 hA hL hS he => goOn_yes rfl rfl (he.1 rfl) (stepG_mv rfl rfl (hA 3 rfl))
       ·intro A w1 hA hL hS he
        have h31 : A.eval (.tmp 31) = _ := he.2.1 rfl
        have h33 : A.eval (.tmp 33) = _ := he.1 rfl
        have hc0 : A.eval (.const (.int .i64 1)) = .int .i64 1 := rfl
        refine goOn_yes rfl rfl h31 ?_
        refine stepG_pure rfl rfl ?_
        generalize A.eval = ev at *
        go_simp
        rw [wrap_id (by omega)]
       ·intro A w1 hA hL hS he
        have h31 : A.eval (.tmp 31) = _ := he.2.2.1 rfl
        have h32 : A.eval (.tmp 32) = _ := he.1 rfl
        have h34 : A.eval (.tmp 34) = _ := he.2.1 rfl
        refine goOn_yes rfl rfl h31 ?_
        exact stepG_pure rfl rfl (execOp_index rfl (by rw [h32, h34]; exact run_index Tryz.underlying38 (by kernel_rfl) w1 b1 o1 _ _ i .i64 _ (by first | rfl | simp | omega) (hil)))
       ·intro A w1 hA hL hS he
        have h31 : A.eval (.tmp 31) = _ := he.2.1 rfl
        have h35 : A.eval (.tmp 35) = _ := he.1 rfl
        refine goOn_yes rfl rfl h31 ?_
        exact stepG_pure rfl rfl (execOp_field rfl (by rw [h35]; exact run_field37_0 _ _ _))
       ·intro A w1 hA hL hS he
        have hb := hL.below
        have h31 : A.eval (.tmp 31) = _ := he.2.1 rfl
        have h36 : A.eval (.tmp 36) = _ := he.1 rfl
        refine goOn_yes rfl rfl h31 ?_
        exact stepG_pure rfl rfl (execOp_load rfl (by rw [h36]; exact run_loadAt_mid w1 _ _ _ _ _ (cells_ex (hCp.on (hbr.trans (hb.mono hbr.size)))) Tryz.underlying29 rfl (by rw [show (exC s.1).length = 4 from rfl]; kernel_rfl)))
       ·intro A w1 hA hL hS he
        have h31 : A.eval (.tmp 31) = _ := he.1 rfl
        have h4 : A.eval (.tmp 4) = .pointer (some ⟨mb, 0, none⟩) := hA 4 rfl
        refine goOn_yes rfl rfl h31 ?_
        exact stepG_pure rfl rfl (execOp_field rfl (by rw [h4]; exact run_field37_0 _ _ _))
       ·intro A w1 hA hL hS he
        have hb := hL.below
        have h31 : A.eval (.tmp 31) = _ := he.2.1 rfl
        have h38 : A.eval (.tmp 38) = _ := he.1 rfl
        refine goOn_yes rfl rfl h31 ?_
        exact stepG_pure rfl rfl (execOp_load rfl (by rw [h38]; exact run_loadAt_mid w1 _ _ _ _ _ (blk_ex (BB.on hb)) Tryz.underlying29 rfl (by rw [show (exC t.1).length = 4 from rfl]; kernel_rfl)))
       ·intro A w1 hA hL hS he
        have hb := hS rfl
        have h31 : A.eval (.tmp 31) = _ := he.2.2.1 rfl
        have h37 : A.eval (.tmp 37) = _ := he.1 rfl
        have h39 : A.eval (.tmp 39) = _ := he.2.1 rfl
        have hf0 : A.eval (.func 65) = .func (.func 65) #[] #[] := rfl
        refine goOn_yes rfl rfl h31 ?_
        refine stepG_call (f := 65) (args := #[.agg (exC s.1).toArray, .agg (exC t.1).toArray]) rfl rfl ?_ ?_
        ·generalize A.eval = ev at *
         go_simp
        ·refine (compare_ex _ _ _).mono ?_
         rintro e w' ⟨rfl, hb'⟩
         exact ⟨_, rfl, hb', rfl⟩
       ·intro A w1 hA hL hS he
        have h31 : A.eval (.tmp 31) = _ := he.2.1 rfl
        have h40 : A.eval (.tmp 40) = _ := he.1 rfl
        have hc0 : A.eval (.const (.int .i64 0)) = .int .i64 0 := rfl
        refine goOn_yes rfl rfl h31 ?_
        refine stepG_pure rfl rfl ?_
        generalize A.eval = ev at *
        go_simp
       ·exact fun A w1 hA hL hS he => goOn_yes rfl rfl (he.2.2.1 rfl) (stepG_pk rfl (he.1 rfl) rfl (he.2.1 rfl))
       ·exact fun A w1 hA hL hS he => goOn_plain rfl (stepG_pk rfl (he.1 rfl) rfl (he.2.1 rfl))
       ·intro W2 hL2
        simp only [TailL, FactL.eq, FactL.ret, List.length_cons, List.length_nil, List.drop_succ_cons, List.drop_zero]
        go_frame
        go_wp2
        go_roundw
        case rel => exact ⟨i + 1 + 1, by omega, by go_num, hst, hbr.trans (hL2.below.mono hbr.size)⟩
        case measure => simp [intOf]; omega
      ·have hg' : s.1.gt t.1 = false := by simpa using hg
       have hcm : cmpE s.1 t.1 ≤ 0 := by
        rcases cmpE_cases s.1 t.1 with ⟨h, -⟩ | ⟨-, h⟩ | ⟨-, h⟩
        ·exact absurd h hg
        ·omega
        ·omega
       have hst := hstop (by simp [okAt, hjq, hji, hg'])
       clear hstep hstop hpre hjq hji hn hc hg hg'
       refine wp_region_L mixed (none) (0) (Okr.none) [.eq (.pointer (some ⟨mb, 0, none⟩)), .eq (.agg (exC t.1).toArray), .ret (.bool true), .eq (.bool false), .eq (.bool false), .eq (.pointer (some ⟨mb, 0 + 4, none⟩)), .eq (.agg (r1).toArray), .ret (.bool true), .eq (.bool false), .eq (.bool false), .eq (.bool false), .eq (.pointer (some ⟨mb, 0 + 4, none⟩)), .eq (.agg (r1).toArray), .ret (.int .i64 sg), .eq (.bool false), .eq (.bool false), .eq (.bool false), .eq (.int .i64 (i + 1 : Nat)), .eq (.bool true), .eq (.bool true), .eq (.slice (some ⟨b1, o1, none⟩) l.length cp), .eq (.int .i64 (i + 1 : Nat)), .eq (.int .i64 i), .eq (.pointer (some ⟨b1, o1 + i * 8, none⟩)), .eq (.pointer (some ⟨b1, o1 + i * 8, none⟩)), .eq (.agg (exC s.1).toArray), .eq (.pointer (some ⟨mb, 0, none⟩)), .eq (.agg (exC t.1).toArray), .ret (.int .i64 (cmpE s.1 t.1)), .eq (.bool true), .eq (.bool true), .eq (.bool true)] [12, 13, 14, 15, 16, 17, 18, 19, 20, 21, 22, 23, 24, 25, 26, 27, 28, 29, 30, 31, 32, 33, 34, 35, 36, 37, 38, 39, 40, 41, 42, 43] rfl rfl rfl rfl ⟨?_, ?_, ?_, ?_, ?_, ?_, ?_, ?_, ?_, ?_, ?_, ?_, ?_, ?_, ?_, ?_, ?_, ?_, ?_, ?_, ?_, ?_, ?_, ?_, ?_, ?_, ?_, ?_, ?_, ?_, ?_, ?_, trivial⟩ ?_
       ·intro A w1 hA hL hS he
        have h4 : A.eval (.tmp 4) = .pointer (some ⟨mb, 0, none⟩) := hA 4 rfl
        refine goOn_plain rfl ?_
        exact stepG_pure rfl rfl (execOp_field rfl (by rw [h4]; exact run_field37_0 _ _ _))
       ·intro A w1 hA hL hS he
        have hb := hL.below
        have h12 : A.eval (.tmp 12) = _ := he.1 rfl
        refine goOn_plain rfl ?_
        exact stepG_pure rfl rfl (execOp_load rfl (by rw [h12]; exact run_loadAt_mid w1 _ _ _ _ _ (blk_ex (BB.on hb)) Tryz.underlying29 rfl (by rw [show (exC t.1).length = 4 from rfl]; kernel_rfl)))
       ·intro A w1 hA hL hS he
        have hb := hS rfl
        have h13 : A.eval (.tmp 13) = _ := he.1 rfl
        have hf0 : A.eval (.func 62) = .func (.func 62) #[] #[] := rfl
        refine goOn_plain rfl ?_
        refine stepG_call (f := 62) (args := #[.agg (exC t.1).toArray]) rfl rfl ?_ ?_
        ·generalize A.eval = ev at *
         go_simp
        ·refine (hnt ▸ natural_any t.1 _).mono ?_
         rintro e w' ⟨rfl, hb'⟩
         exact ⟨_, rfl, hb', rfl⟩
       ·intro A w1 hA hL hS he
        have h14 : A.eval (.tmp 14) = _ := he.1 rfl
        refine goOn_plain rfl (stepG_pure rfl rfl ?_)
        generalize A.eval = ev at *
        go_simp
       ·exact fun A w1 hA hL hS he => goOn_plain rfl (stepG_mv rfl rfl (he.1 rfl))
       ·intro A w1 hA hL hS he
        have h16 : A.eval (.tmp 16) = _ := he.1 rfl
        have h4 : A.eval (.tmp 4) = .pointer (some ⟨mb, 0, none⟩) := hA 4 rfl
        refine goOn_yes rfl rfl h16 ?_
        exact stepG_pure rfl rfl (execOp_field rfl (by rw [h4]; exact run_field37_1 _ _ _))
       ·intro A w1 hA hL hS he
        have hb := hL.below
        have h16 : A.eval (.tmp 16) = _ := he.2.1 rfl
        have h17 : A.eval (.tmp 17) = _ := he.1 rfl
        refine goOn_yes rfl rfl h16 ?_
        exact stepG_pure rfl rfl (execOp_load rfl (by rw [h17]; exact run_loadAt_mid w1 _ _ _ _ _ (blk_rat (BB.on hb)) Tryz.underlying34 rfl (by rw [hl1]; kernel_rfl)))
       ·intro A w1 hA hL hS he
        have hb := hS rfl
        have h16 : A.eval (.tmp 16) = _ := he.2.1 rfl
        have h18 : A.eval (.tmp 18) = _ := he.1 rfl
        have hf0 : A.eval (.func 63) = .func (.func 63) #[] #[] := rfl
        refine goOn_yes rfl rfl h16 ?_
        refine stepG_call (f := 63) (args := #[.agg (r1).toArray]) rfl rfl ?_ ?_
        ·generalize A.eval = ev at *
         go_simp
        ·refine (rvalid_any _ _ _ (hr1.on (hbr.trans (hb.mono hbr.size))).rat hkt).mono ?_
         rintro e w' ⟨rfl, hb'⟩
         exact ⟨_, rfl, hb', rfl⟩
       ·intro A w1 hA hL hS he
        have h16 : A.eval (.tmp 16) = _ := he.2.1 rfl
        have h19 : A.eval (.tmp 19) = _ := he.1 rfl
        refine goOn_yes rfl rfl h16 ?_
        refine stepG_pure rfl rfl ?_
        generalize A.eval = ev at *
        go_simp
       ·exact fun A w1 hA hL hS he => goOn_plain rfl (stepG_pk rfl (he.1 rfl) rfl (he.2.1 rfl))
       ·exact fun A w1 hA hL hS he => goOn_plain rfl (stepG_mv rfl rfl (he.1 rfl))
       ·intro A w1 hA hL hS he
        have h22 : A.eval (.tmp 22) = _ := he.1 rfl
        have h4 : A.eval (.tmp 4) = .pointer (some ⟨mb, 0, none⟩) := hA 4 rfl
        refine goOn_yes rfl rfl h22 ?_
        exact stepG_pure rfl rfl (execOp_field rfl (by rw [h4]; exact run_field37_1 _ _ _))
       ·intro A w1 hA hL hS he
        have hb := hL.below
        have h22 : A.eval (.tmp 22) = _ := he.2.1 rfl
        have h23 : A.eval (.tmp 23) = _ := he.1 rfl
        refine goOn_yes rfl rfl h22 ?_
        exact stepG_pure rfl rfl (execOp_load rfl (by rw [h23]; exact run_loadAt_mid w1 _ _ _ _ _ (blk_rat (BB.on hb)) Tryz.underlying34 rfl (by rw [hl1]; kernel_rfl)))
       ·intro A w1 hA hL hS he
        have hb := hS rfl
        have h22 : A.eval (.tmp 22) = _ := he.2.1 rfl
        have h24 : A.eval (.tmp 24) = _ := he.1 rfl
        have hf0 : A.eval (.func 64) = .func (.func 64) #[] #[] := rfl
        refine goOn_yes rfl rfl h22 ?_
        refine stepG_call (f := 64) (args := #[.agg (r1).toArray]) rfl rfl ?_ ?_
        ·generalize A.eval = ev at *
         go_simp
        ·refine (hsg _ (hbr.trans (hb.mono hbr.size))).mono ?_
         rintro e w' ⟨rfl, hb'⟩
         exact ⟨_, rfl, hb', rfl⟩
       ·intro A w1 hA hL hS he
        have h22 : A.eval (.tmp 22) = _ := he.2.1 rfl
        have h25 : A.eval (.tmp 25) = _ := he.1 rfl
        have hc0 : A.eval (.const (.int .i64 0)) = .int .i64 0 := rfl
        refine goOn_yes rfl rfl h22 ?_
        refine stepG_pure rfl rfl ?_
        generalize A.eval = ev at *
        go_simp
       ·exact fun A w1 hA hL hS he => goOn_plain rfl (stepG_pk rfl (he.1 rfl) rfl (he.2.1 rfl))
       ·exact fun A w1 hA hL hS he => goOn_plain rfl (stepG_mv rfl rfl (he.1 rfl))
       ·exact fun A w1 hA hL hS he => goOn_yes rfl rfl (he.1 rfl) (stepG_mv rfl rfl (hA 3 rfl))
       ·intro A w1 hA hL hS he
        have h28 : A.eval (.tmp 28) = _ := he.2.1 rfl
        have h29 : A.eval (.tmp 29) = _ := he.1 rfl
        have hc0 : A.eval (.const (.int .i64 0)) = .int .i64 0 := rfl
        refine goOn_yes rfl rfl h28 ?_
        refine stepG_pure rfl rfl ?_
        generalize A.eval = ev at *
        go_simp
       ·exact fun A w1 hA hL hS he => goOn_yes rfl rfl (he.2.1 rfl) (stepG_mv rfl rfl (he.1 rfl))
       ·exact fun A w1 hA hL hS he => goOn_yes rfl rfl (he.1 rfl) (stepG_mv rfl rfl (hA 0 rfl))
       ·exact fun A w1 hA hL hS he => goOn_yes rfl rfl (he.1 rfl) (stepG_mv rfl rfl (hA 3 rfl))
       ·intro A w1 hA hL hS he
        have h31 : A.eval (.tmp 31) = _ := he.2.1 rfl
        have h33 : A.eval (.tmp 33) = _ := he.1 rfl
        have hc0 : A.eval (.const (.int .i64 1)) = .int .i64 1 := rfl
        refine goOn_yes rfl rfl h31 ?_
        refine stepG_pure rfl rfl ?_
        generalize A.eval = ev at *
        go_simp
        rw [wrap_id (by omega)]
       ·intro A w1 hA hL hS he
        have h31 : A.eval (.tmp 31) = _ := he.2.2.1 rfl
        have h32 : A.eval (.tmp 32) = _ := he.1 rfl
        have h34 : A.eval (.tmp 34) = _ := he.2.1 rfl
        refine goOn_yes rfl rfl h31 ?_
        exact stepG_pure rfl rfl (execOp_index rfl (by rw [h32, h34]; exact run_index Tryz.underlying38 (by kernel_rfl) w1 b1 o1 _ _ i .i64 _ (by first | rfl | simp | omega) (hil)))
       ·intro A w1 hA hL hS he
        have h31 : A.eval (.tmp 31) = _ := he.2.1 rfl
        have h35 : A.eval (.tmp 35) = _ := he.1 rfl
        refine goOn_yes rfl rfl h31 ?_
        exact stepG_pure rfl rfl (execOp_field rfl (by rw [h35]; exact run_field37_0 _ _ _))
       ·intro A w1 hA hL hS he
        have hb := hL.below
        have h31 : A.eval (.tmp 31) = _ := he.2.1 rfl
        have h36 : A.eval (.tmp 36) = _ := he.1 rfl
        refine goOn_yes rfl rfl h31 ?_
        exact stepG_pure rfl rfl (execOp_load rfl (by rw [h36]; exact run_loadAt_mid w1 _ _ _ _ _ (cells_ex (hCp.on (hbr.trans (hb.mono hbr.size)))) Tryz.underlying29 rfl (by rw [show (exC s.1).length = 4 from rfl]; kernel_rfl)))
       ·intro A w1 hA hL hS he
        have h31 : A.eval (.tmp 31) = _ := he.1 rfl
        have h4 : A.eval (.tmp 4) = .pointer (some ⟨mb, 0, none⟩) := hA 4 rfl
        refine goOn_yes rfl rfl h31 ?_
        exact stepG_pure rfl rfl (execOp_field rfl (by rw [h4]; exact run_field37_0 _ _ _))
       ·intro A w1 hA hL hS he
        have hb := hL.below
        have h31 : A.eval (.tmp 31) = _ := he.2.1 rfl
        have h38 : A.eval (.tmp 38) = _ := he.1 rfl
        refine goOn_yes rfl rfl h31 ?_
        exact stepG_pure rfl rfl (execOp_load rfl (by rw [h38]; exact run_loadAt_mid w1 _ _ _ _ _ (blk_ex (BB.on hb)) Tryz.underlying29 rfl (by rw [show (exC t.1).length = 4 from rfl]; kernel_rfl)))
       ·intro A w1 hA hL hS he
        have hb := hS rfl
        have h31 : A.eval (.tmp 31) = _ := he.2.2.1 rfl
        have h37 : A.eval (.tmp 37) = _ := he.1 rfl
        have h39 : A.eval (.tmp 39) = _ := he.2.1 rfl
        have hf0 : A.eval (.func 65) = .func (.func 65) #[] #[] := rfl
        refine goOn_yes rfl rfl h31 ?_
        refine stepG_call (f := 65) (args := #[.agg (exC s.1).toArray, .agg (exC t.1).toArray]) rfl rfl ?_ ?_
        ·generalize A.eval = ev at *
         go_simp
        ·refine (compare_ex _ _ _).mono ?_
         rintro e w' ⟨rfl, hb'⟩
         exact ⟨_, rfl, hb', rfl⟩
       ·intro A w1 hA hL hS he
        have h31 : A.eval (.tmp 31) = _ := he.2.1 rfl
        have h40 : A.eval (.tmp 40) = _ := he.1 rfl
        have hc0 : A.eval (.const (.int .i64 0)) = .int .i64 0 := rfl
        refine goOn_yes rfl rfl h31 ?_
        refine stepG_pure rfl rfl ?_
        generalize A.eval = ev at *
        go_simp
       ·exact fun A w1 hA hL hS he => goOn_yes rfl rfl (he.2.2.1 rfl) (stepG_pk rfl (he.1 rfl) rfl (he.2.1 rfl))
       ·exact fun A w1 hA hL hS he => goOn_plain rfl (stepG_pk rfl (he.1 rfl) rfl (he.2.1 rfl))
       ·intro W2 hL2
        simp only [TailL, FactL.eq, FactL.ret, List.length_cons, List.length_nil, List.drop_succ_cons, List.drop_zero]
        go_frame
        go_wp2
        go_ret
        exact ⟨by rw [hst.out] <;> rfl, hbr.trans (hL2.below.mono hbr.size)⟩
   ·have hn' : t.1.nat = false := by simpa using hn
    have hnt := hn'
    have hst := hstop (by simp [okAt, hjq, hn'])
    clear hstep hstop hpre hjq hn hn'
    refine wp_region_L mixed (none) (0) (Okr.none) [.eq (.pointer (some ⟨mb, 0, none⟩)), .eq (.agg (exC t.1).toArray), .ret (.bool false), .eq (.bool true), .eq (.bool true), .eq undef, .eq undef, .eq undef, .eq undef, .eq (.bool true), .eq (.bool true), .eq undef, .eq undef, .eq undef, .eq undef, .eq (.bool true), .eq (.bool true), .eq undef, .eq undef, .eq undef, .eq undef, .eq undef, .eq undef, .eq undef, .eq undef, .eq undef, .eq undef, .eq undef, .eq undef, .eq undef, .eq undef, .eq (.bool true)] [12, 13, 14, 15, 16, 17, 18, 19, 20, 21, 22, 23, 24, 25, 26, 27, 28, 29, 30, 31, 32, 33, 34, 35, 36, 37, 38, 39, 40, 41, 42, 43] rfl rfl rfl rfl ⟨?_, ?_, ?_, ?_, ?_, ?_, ?_, ?_, ?_, ?_, ?_, ?_, ?_, ?_, ?_, ?_, ?_, ?_, ?_, ?_, ?_, ?_, ?_, ?_, ?_, ?_, ?_, ?_, ?_, ?_, ?_, ?_, trivial⟩ ?_
    ·intro A w1 hA hL hS he
     have h4 : A.eval (.tmp 4) = .pointer (some ⟨mb, 0, none⟩) := hA 4 rfl
     refine goOn_plain rfl ?_
     exact stepG_pure rfl rfl (execOp_field rfl (by rw [h4]; exact run_field37_0 _ _ _))
    ·intro A w1 hA hL hS he
     have hb := hL.below
     have h12 : A.eval (.tmp 12) = _ := he.1 rfl
     refine goOn_plain rfl ?_
     exact stepG_pure rfl rfl (execOp_load rfl (by rw [h12]; exact run_loadAt_mid w1 _ _ _ _ _ (blk_ex (BB.on hb)) Tryz.underlying29 rfl (by rw [show (exC t.1).length = 4 from rfl]; kernel_rfl)))
    ·intro A w1 hA hL hS he
     have hb := hS rfl
     have h13 : A.eval (.tmp 13) = _ := he.1 rfl
     have hf0 : A.eval (.func 62) = .func (.func 62) #[] #[] := rfl
     refine goOn_plain rfl ?_
     refine stepG_call (f := 62) (args := #[.agg (exC t.1).toArray]) rfl rfl ?_ ?_
     ·generalize A.eval = ev at *
      go_simp
     ·refine (hnt ▸ natural_any t.1 _).mono ?_
      rintro e w' ⟨rfl, hb'⟩
      exact ⟨_, rfl, hb', rfl⟩
    ·intro A w1 hA hL hS he
     have h14 : A.eval (.tmp 14) = _ := he.1 rfl
     refine goOn_plain rfl (stepG_pure rfl rfl ?_)
     generalize A.eval = ev at *
     go_simp
    ·exact fun A w1 hA hL hS he => goOn_plain rfl (stepG_mv rfl rfl (he.1 rfl))
    ·exact fun A w1 hA hL hS he => goOn_no (x := true) rfl rfl (he.1 rfl) rfl rfl
    ·exact fun A w1 hA hL hS he => goOn_no (x := true) rfl rfl (he.2.1 rfl) rfl rfl
    ·exact fun A w1 hA hL hS he => goOn_no (x := true) rfl rfl (he.2.1 rfl) rfl rfl
    ·exact fun A w1 hA hL hS he => goOn_no (x := true) rfl rfl (he.2.1 rfl) rfl rfl
    ·exact fun A w1 hA hL hS he => goOn_plain rfl (stepG_pk rfl (he.1 rfl) rfl rfl)
    ·exact fun A w1 hA hL hS he => goOn_plain rfl (stepG_mv rfl rfl (he.1 rfl))
    ·exact fun A w1 hA hL hS he => goOn_no (x := true) rfl rfl (he.1 rfl) rfl rfl
    ·exact fun A w1 hA hL hS he => goOn_no (x := true) rfl rfl (he.2.1 rfl) rfl rfl
    ·exact fun A w1 hA hL hS he => goOn_no (x := true) rfl rfl (he.2.1 rfl) rfl rfl
    ·exact fun A w1 hA hL hS he => goOn_no (x := true) rfl rfl (he.2.1 rfl) rfl rfl
    ·exact fun A w1 hA hL hS he => goOn_plain rfl (stepG_pk rfl (he.1 rfl) rfl rfl)
    ·exact fun A w1 hA hL hS he => goOn_plain rfl (stepG_mv rfl rfl (he.1 rfl))
    ·exact fun A w1 hA hL hS he => goOn_no (x := true) rfl rfl (he.1 rfl) rfl rfl
    ·exact fun A w1 hA hL hS he => goOn_no (x := true) rfl rfl (he.2.1 rfl) rfl rfl
    ·exact fun A w1 hA hL hS he => goOn_no (x := true) rfl rfl (he.2.1 rfl) rfl rfl
    ·exact fun A w1 hA hL hS he => goOn_undef rfl rfl (he.1 rfl) rfl
    ·exact fun A w1 hA hL hS he => goOn_undef rfl rfl (he.1 rfl) rfl
    ·exact fun A w1 hA hL hS he => goOn_undef rfl rfl (he.2.1 rfl) rfl
    ·exact fun A w1 hA hL hS he => goOn_undef rfl rfl (he.2.2.1 rfl) rfl
    ·exact fun A w1 hA hL hS he => goOn_undef rfl rfl (he.2.1 rfl) rfl
    ·exact fun A w1 hA hL hS he => goOn_undef rfl rfl (he.2.1 rfl) rfl
    ·exact fun A w1 hA hL hS he => goOn_undef rfl rfl (he.1 rfl) rfl
    ·exact fun A w1 hA hL hS he => goOn_undef rfl rfl (he.2.1 rfl) rfl
    ·exact fun A w1 hA hL hS he => goOn_undef rfl rfl (he.2.2.1 rfl) rfl
    ·exact fun A w1 hA hL hS he => goOn_undef rfl rfl (he.2.1 rfl) rfl
    ·exact fun A w1 hA hL hS he => goOn_no (x := true) rfl rfl (he.2.2.1 rfl) rfl rfl
    ·exact fun A w1 hA hL hS he => goOn_plain rfl (stepG_pk rfl (he.1 rfl) rfl rfl)
    ·intro W2 hL2
     simp only [TailL, FactL.eq, FactL.ret, List.length_cons, List.length_nil, List.drop_succ_cons, List.drop_zero]
     go_frame
     go_wp2
     go_ret
     exact ⟨by rw [hst.out] <;> rfl, hbr.trans (hL2.below.mono hbr.size)⟩
  ·obtain rfl : k = l.length := by omega
   have hst : Hid (R = true) := hall.out.2 (fun i hi => hpre.out i hi)
   go_wp2
   go_ret
   exact ⟨by rw [hst.out] <;> rfl, hbr⟩
end Go.Proofs.YtplfdeohokkebaaGreat
