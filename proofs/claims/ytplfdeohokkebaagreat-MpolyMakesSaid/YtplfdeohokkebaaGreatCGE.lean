/- law07.MpolyMakes: the walk. -/
import Derived.Test.YtplfdeohokkebaaGreatC37
import Derived.Test.YtplfdeohokkebaaGreatCE6
import Derived.Deep.CutBlock
set_option linter.unusedVariables false
set_option linter.unusedSimpArgs false
namespace Q
open Go Go.Proofs.YtplfdeohokkebaaGreat
theorem canon_len (l : List Trm) : (canon l).length ≤ l.length := by
 have : ∀ (l r : List Trm), (l.foldl ins r).length ≤ r.length + l.length := by
  intro l
  induction l with
  | nil => intro r; simp
  | cons m l ih =>
   intro r
   have h1 := ih (ins r m)
   have h2 := ins_length r m
   simp only [List.foldl_cons, List.length_cons]
   omega
 have h := this l []
 simp only [List.length_nil, Nat.zero_add] at h
 exact h
def sumN (l : List Trm) (e : Ex) : Rat := if e.nat = true then cf l e else 0
theorem sumN_snoc {l : List Trm} {k : Nat} {t : Trm} (h : l[k]? = some t) (e : Ex) : sumN (l.take (k + 1)) e = if decide (t.1 = e) && e.nat then sumN (l.take k) e + t.2 else sumN (l.take k) e := by
 unfold sumN
 rw [List.take_add_one, h, cf_append, Option.toList_some, cf_cons, cf_nil]
 by_cases h1 : t.1 = e <;> by_cases h2 : e.nat = true <;> simp [h1, h2] <;> grind
theorem cf_snocV {l : List Trm} (hl : Vld l) {k : Nat} {t : Trm} (h : l[k]? = some t) (e : Ex) : cf (l.take (k + 1)) e = if t.1 = e then t.2 else cf (l.take k) e := by
 rw [List.take_add_one, h, cf_append, Option.toList_some, cf_cons, cf_nil]
 by_cases h1 : t.1 = e
 ·rw [if_pos h1, if_pos h1]
  have : cf (l.take k) e = 0 := cf_out fun s hs => by
   have hk : k < l.length := (List.getElem?_eq_some_iff.1 h).1
   obtain ⟨j, hj, rfl⟩ := List.getElem_of_mem hs
   rw [List.length_take] at hj
   have hp := List.pairwise_iff_getElem.1 hl.1 j k (by omega) hk (by omega)
   rw [List.getElem_take, ← h1]
   have ht : l[k] = t := by rw [List.getElem?_eq_getElem hk] at h; exact Option.some.inj h
   rw [ht] at hp
   exact Ex.gt_ne hp
  rw [this]; grind
 ·rw [if_neg h1, if_neg h1]; grind
end Q
namespace Go.Proofs.YtplfdeohokkebaaGreat
open Go.RowKit Q Go.WideMaps Go.Maps
theorem sumN_rs {s : Sz} {l : List Trm} (h : Bd s l) (hs : s.ok) (k : Nat) (e : Ex) : Rs (sumN (l.take k) e) := by
 obtain ⟨h1, h2⟩ := bd_cf_dv (s := s) (h.take k).d e
 unfold sumN
 split
 ·exact rs_of_dv hs h1 (Rat.le_trans h2 (h.take k).b)
 ·exact rs_of_dv hs (Dv.zero _) (by simp only [rabs]; split <;> first | grind | exact Rat.natCast_nonneg)
set_option maxHeartbeats 16000000 in
set_option maxRecDepth 100000 in
theorem makes_any (vl : Value) (L : List Drw) (w : World) (hL : IsDraw w vl L) : Calls Tryz.prog 3 #[vl] w (Ret w (.bool true)) := by
 obtain ⟨al, cl, rfl, hcl⟩ := hL.shape
 go_enter Tryz.func3, Tryz.ntmps3
 go_upto_region 2 with (go_at_call 12; refine (sanity_any _).mono ?_; rintro e w1 ⟨rfl, hb1⟩)
 have hown0 : OwnPoly w.heap.size (w1.alloc (.cells #[] 37)) (.slice (some ⟨w1.heap.size, 0, none⟩) 0 0) [] := own_lit0' elTerm hb1.size
 have hb0 : Below w.heap.size w (w1.alloc (.cells #[] 37)) := hb1.trans (((Below.refl _ _).alloc (Nat.le_refl _) _).mono hb1.size)
 replace hL := Lib.hid hL
 go_upto_block 0 with (fail)
 generalize w1.alloc (.cells #[] 37) = W1 at *
 generalize w1.heap.size = s1 at *
 go_cut [4, 5] from 14 to 69 (fun v4 v5 wc => Hid (OwnPoly w.heap.size wc v4 ((L.take 12).map rawT)) ∧ Below w.heap.size w wc)
 case first =>
  go_wp2_with (fail)
  go_loopw [4, 5] (fun vr vi wr => ∃ i : Nat, vi = .int .i64 i ∧ i ≤ L.length ∧ i ≤ 12 ∧ Hid (OwnPoly w.heap.size wr vr ((L.take i).map rawT)) ∧ Below w.heap.size w wr) (fun _ vi _ => 12 - (intOf vi).toNat)
  case atStart => exact ⟨0, rfl, by omega, by omega, Lib.hid hown0, hb0⟩
  case round =>
   clear hown0 hb0 hb1
   obtain ⟨i, rfl, hi, hi12, hown, hbr⟩ := hrel
   by_cases h1 : i < L.length
   ·have g1 : (i : Int) < (L.length : Int) := by omega
    by_cases h2 : i < 12
    ·have g2 : (i : Int) < 12 := by omega
     have hjq : L[i]? = some L[i] := List.getElem?_eq_getElem h1
     generalize L[i] = t at hjq
     have hsn := Lib.hid (map_snoc rawT hjq)
     obtain ⟨T9, b, off, rfl, hok, hC⟩ := hL.out.get hjq
     have hz : ∀ (j : Nat) (v : Value) W, (drawC t)[j]? = some v → Below w.heap.size w W → W.cell? ⟨b, off + i * 5 + j, none⟩ = some v := fun j v W hj hb => by
      rw [(hC.on hb).cell j (List.getElem?_eq_some_iff.1 hj).1]; exact hj
     obtain ⟨⟨a0, b0⟩, ⟨a1, b1⟩, ⟨a2, b2⟩, ⟨a3, b3⟩, a4, b4⟩ := hok
     obtain ⟨x0, x1, x2, x3, x4⟩ := t
     simp only at a0 b0 a1 b1 a2 b2 a3 b3 a4 b4
     have z0 := fun W hb => hz 0 (.int .u8 x0) W rfl hb
     have z1 := fun W hb => hz 1 (.int .u8 x1) W rfl hb
     have z2 := fun W hb => hz 2 (.int .u8 x2) W rfl hb
     have z3 := fun W hb => hz 3 (.int .u8 x3) W rfl hb
     have z4 := fun W hb => hz 4 (.int .i8 x4) W rfl hb
     simp only [Nat.add_zero] at z0
     have w0 : IntKind.i64.wrap x0 = x0 := wrap_id (by omega)
     have w1 : IntKind.i64.wrap x1 = x1 := wrap_id (by omega)
     have w2 : IntKind.i64.wrap x2 = x2 := wrap_id (by omega)
     have w3 : IntKind.i64.wrap x3 = x3 := wrap_id (by omega)
     have w4 : IntKind.i64.wrap x4 = x4 := wrap_id (by omega)
     have w5 : IntKind.i64.wrap (x1 % 4 - 1) = x1 % 4 - 1 := wrap_id (by omega)
     have t0 : x0.tmod 3 = x0 % 3 := Int.tmod_eq_emod_of_nonneg a0
     have t1 : x1.tmod 4 = x1 % 4 := Int.tmod_eq_emod_of_nonneg a1
     have t2 : x2.tmod 2 = x2 % 2 := Int.tmod_eq_emod_of_nonneg a2
     have t3 : x3.tmod 2 = x3 % 2 := Int.tmod_eq_emod_of_nonneg a3
     obtain ⟨c, hc, hc4⟩ : ∃ c : Int, x4.tmod 4 = c ∧ c.natAbs < 4 := ⟨_, rfl, by rw [Int.natAbs_tmod]; exact Nat.mod_lt _ (by decide)⟩
     have hrt : Hid (rawT (x0, x1, x2, x3, x4) = ((x0 % 3, x1 % 4 - 1, x2 % 2, x3 % 2), ((c : Int) : Rat))) := Lib.hid (by rw [← hc]; rfl)
     have hlt : ((L.take i).map rawT).length ≤ 12 := by simp; omega
     replace hown := hown.out
     have hbase : ∀ k, u4.ownBlock = some k → w.heap.size ≤ k := fun k hk => (hown.base_le k hk).1
     have hwh := Lib.hid (fun W => whole2_any c W (by omega) (by omega))
     clear hz hC a0 b0 a1 b1 a2 b2 a3 b3 a4 b4 hc4
     replace z0 := Lib.hid z0
     replace z1 := Lib.hid z1
     replace z2 := Lib.hid z2
     replace z3 := Lib.hid z3
     replace z4 := Lib.hid z4
     go_upto_region 6 with (fail)
     refine wp_region_L mixed (u4.ownBlock) (monoT) (hown.okr) [.eq (u4), .eq (.slice (some ⟨b, off, none⟩) L.length cl), .eq (.int .i64 i), .eq (.pointer (some ⟨b, off + i * 5, none⟩)), .eq (.pointer (some ⟨b, off + i * 5, none⟩)), .eq (.pointer (some ⟨b, off + i * 5, none⟩)), .eq (.int .u8 x0), .eq (.int .i64 x0), .eq (.int .i64 (x0 % 3)), .eq (.slice (some ⟨b, off, none⟩) L.length cl), .eq (.int .i64 i), .eq (.pointer (some ⟨b, off + i * 5, none⟩)), .eq (.pointer (some ⟨b, off + i * 5, none⟩)), .eq (.pointer (some ⟨b, off + i * 5 + 1, none⟩)), .eq (.int .u8 x1), .eq (.int .i64 x1), .eq (.int .i64 (x1 % 4)), .eq (.int .i64 (x1 % 4 - 1)), .eq (.slice (some ⟨b, off, none⟩) L.length cl), .eq (.int .i64 i), .eq (.pointer (some ⟨b, off + i * 5, none⟩)), .eq (.pointer (some ⟨b, off + i * 5, none⟩)), .eq (.pointer (some ⟨b, off + i * 5 + 2, none⟩)), .eq (.int .u8 x2), .eq (.int .i64 x2), .eq (.int .i64 (x2 % 2)), .eq (.slice (some ⟨b, off, none⟩) L.length cl), .eq (.int .i64 i), .eq (.pointer (some ⟨b, off + i * 5, none⟩)), .eq (.pointer (some ⟨b, off + i * 5, none⟩)), .eq (.pointer (some ⟨b, off + i * 5 + 3, none⟩)), .eq (.int .u8 x3), .eq (.int .i64 x3), .eq (.int .i64 (x3 % 2)), .eq (.agg #[.int .i64 (x0 % 3), .int .i64 (x1 % 4 - 1), .int .i64 (x2 % 2), .int .i64 (x3 % 2)]), .eq (.slice (some ⟨b, off, none⟩) L.length cl), .eq (.int .i64 i), .eq (.pointer (some ⟨b, off + i * 5, none⟩)), .eq (.pointer (some ⟨b, off + i * 5 + 4, none⟩)), .eq (.int .i8 x4), .eq (.int .i64 x4), .eq (.int .i64 c), .rat (by decide) (((c : Int) : Rat)), .term (by decide) (((x0 % 3, x1 % 4 - 1, x2 % 2, x3 % 2)), (((c : Int) : Rat))), .new1 elTerm elTerm_okT (((x0 % 3, x1 % 4 - 1, x2 % 2, x3 % 2), ((c : Int) : Rat))), .row elTerm (w.heap.size) wr.heap.size (((L.take i).map rawT) ++ [((x0 % 3, x1 % 4 - 1, x2 % 2, x3 % 2), ((c : Int) : Rat))])] [24, 25, 26, 27, 28, 29, 30, 31, 32, 33, 34, 35, 36, 37, 38, 39, 40, 41, 42, 43, 44, 45, 46, 47, 48, 49, 50, 51, 52, 53, 54, 55, 56, 57, 58, 59, 60, 61, 62, 63, 64, 65, 66, 67, 68, 69] rfl rfl rfl rfl ⟨?_, ?_, ?_, ?_, ?_, ?_, ?_, ?_, ?_, ?_, ?_, ?_, ?_, ?_, ?_, ?_, ?_, ?_, ?_, ?_, ?_, ?_, ?_, ?_, ?_, ?_, ?_, ?_, ?_, ?_, ?_, ?_, ?_, ?_, ?_, ?_, ?_, ?_, ?_, ?_, ?_, ?_, ?_, ?_, ?_, ?_, trivial⟩ ?_
     ·exact fun A w1 hA hL hS he => goOn_plain rfl (stepG_mv rfl rfl (hA 4 rfl))
     ·exact fun A w1 hA hL hS he => goOn_plain rfl (stepG_mv rfl rfl (hA 0 rfl))
     ·exact fun A w1 hA hL hS he => goOn_plain rfl (stepG_mv rfl rfl (hA 5 rfl))
     ·intro A w1 hA hL hS he
      have h25 : A.eval (.tmp 25) = _ := he.1 rfl
      have h26 : A.eval (.tmp 26) = _ := he.2.1 rfl
      refine goOn_plain rfl ?_
      exact stepG_pure rfl rfl (execOp_index rfl (by rw [h25, h26]; exact run_index Tryz.underlying22 (by kernel_rfl) w1 b off _ _ i .i64 _ (by first | rfl | simp | omega) (h1)))
     ·intro A w1 hA hL hS he
      have h27 : A.eval (.tmp 27) = _ := he.1 rfl
      refine goOn_plain rfl (stepG_pure rfl rfl ?_)
      generalize A.eval = ev at *
      go_simp
     ·intro A w1 hA hL hS he
      have h28 : A.eval (.tmp 28) = _ := he.1 rfl
      have hc0 : A.eval (.const (.int .i64 0)) = .int .i64 0 := rfl
      refine goOn_plain rfl (stepG_pure rfl rfl ?_)
      generalize A.eval = ev at *
      go_simp
     ·intro A w1 hA hL hS he
      have hbw : Below w.heap.size w w1 := hbr.trans (hL.belowAt hbr.size hbase)
      have h29 : A.eval (.tmp 29) = _ := he.1 rfl
      refine goOn_plain rfl ?_
      have c0 := z0.out _ hbw
      refine stepG_pure rfl rfl ?_
      generalize A.eval = ev at *
      go_simp
     ·intro A w1 hA hL hS he
      have h30 : A.eval (.tmp 30) = _ := he.1 rfl
      refine goOn_plain rfl (stepG_pure rfl rfl ?_)
      generalize A.eval = ev at *
      go_simp
     ·intro A w1 hA hL hS he
      have h31 : A.eval (.tmp 31) = _ := he.1 rfl
      have hc0 : A.eval (.const (.int .i64 3)) = .int .i64 3 := rfl
      refine goOn_plain rfl (stepG_pure rfl rfl ?_)
      generalize A.eval = ev at *
      go_simp
     ·exact fun A w1 hA hL hS he => goOn_plain rfl (stepG_mv rfl rfl (hA 0 rfl))
     ·exact fun A w1 hA hL hS he => goOn_plain rfl (stepG_mv rfl rfl (hA 5 rfl))
     ·intro A w1 hA hL hS he
      have h33 : A.eval (.tmp 33) = _ := he.1 rfl
      have h34 : A.eval (.tmp 34) = _ := he.2.1 rfl
      refine goOn_plain rfl ?_
      exact stepG_pure rfl rfl (execOp_index rfl (by rw [h33, h34]; exact run_index Tryz.underlying22 (by kernel_rfl) w1 b off _ _ i .i64 _ (by first | rfl | simp | omega) (h1)))
     ·intro A w1 hA hL hS he
      have h35 : A.eval (.tmp 35) = _ := he.1 rfl
      refine goOn_plain rfl (stepG_pure rfl rfl ?_)
      generalize A.eval = ev at *
      go_simp
     ·intro A w1 hA hL hS he
      have h36 : A.eval (.tmp 36) = _ := he.1 rfl
      have hc0 : A.eval (.const (.int .i64 1)) = .int .i64 1 := rfl
      refine goOn_plain rfl (stepG_pure rfl rfl ?_)
      generalize A.eval = ev at *
      go_simp
     ·intro A w1 hA hL hS he
      have hbw : Below w.heap.size w w1 := hbr.trans (hL.belowAt hbr.size hbase)
      have h37 : A.eval (.tmp 37) = _ := he.1 rfl
      refine goOn_plain rfl ?_
      have c0 := z1.out _ hbw
      refine stepG_pure rfl rfl ?_
      generalize A.eval = ev at *
      go_simp
     ·intro A w1 hA hL hS he
      have h38 : A.eval (.tmp 38) = _ := he.1 rfl
      refine goOn_plain rfl (stepG_pure rfl rfl ?_)
      generalize A.eval = ev at *
      go_simp
     ·intro A w1 hA hL hS he
      have h39 : A.eval (.tmp 39) = _ := he.1 rfl
      have hc0 : A.eval (.const (.int .i64 4)) = .int .i64 4 := rfl
      refine goOn_plain rfl (stepG_pure rfl rfl ?_)
      generalize A.eval = ev at *
      go_simp
     ·intro A w1 hA hL hS he
      have h40 : A.eval (.tmp 40) = _ := he.1 rfl
      have hc0 : A.eval (.const (.int .i64 1)) = .int .i64 1 := rfl
      refine goOn_plain rfl (stepG_pure rfl rfl ?_)
      generalize A.eval = ev at *
      go_simp
     ·exact fun A w1 hA hL hS he => goOn_plain rfl (stepG_mv rfl rfl (hA 0 rfl))
     ·exact fun A w1 hA hL hS he => goOn_plain rfl (stepG_mv rfl rfl (hA 5 rfl))
     ·intro A w1 hA hL hS he
      have h42 : A.eval (.tmp 42) = _ := he.1 rfl
      have h43 : A.eval (.tmp 43) = _ := he.2.1 rfl
      refine goOn_plain rfl ?_
      exact stepG_pure rfl rfl (execOp_index rfl (by rw [h42, h43]; exact run_index Tryz.underlying22 (by kernel_rfl) w1 b off _ _ i .i64 _ (by first | rfl | simp | omega) (h1)))
     ·intro A w1 hA hL hS he
      have h44 : A.eval (.tmp 44) = _ := he.1 rfl
      refine goOn_plain rfl (stepG_pure rfl rfl ?_)
      generalize A.eval = ev at *
      go_simp
     ·intro A w1 hA hL hS he
      have h45 : A.eval (.tmp 45) = _ := he.1 rfl
      have hc0 : A.eval (.const (.int .i64 2)) = .int .i64 2 := rfl
      refine goOn_plain rfl (stepG_pure rfl rfl ?_)
      generalize A.eval = ev at *
      go_simp
     ·intro A w1 hA hL hS he
      have hbw : Below w.heap.size w w1 := hbr.trans (hL.belowAt hbr.size hbase)
      have h46 : A.eval (.tmp 46) = _ := he.1 rfl
      refine goOn_plain rfl ?_
      have c0 := z2.out _ hbw
      refine stepG_pure rfl rfl ?_
      generalize A.eval = ev at *
      go_simp
     ·intro A w1 hA hL hS he
      have h47 : A.eval (.tmp 47) = _ := he.1 rfl
      refine goOn_plain rfl (stepG_pure rfl rfl ?_)
      generalize A.eval = ev at *
      go_simp
     ·intro A w1 hA hL hS he
      have h48 : A.eval (.tmp 48) = _ := he.1 rfl
      have hc0 : A.eval (.const (.int .i64 2)) = .int .i64 2 := rfl
      refine goOn_plain rfl (stepG_pure rfl rfl ?_)
      generalize A.eval = ev at *
      go_simp
     ·exact fun A w1 hA hL hS he => goOn_plain rfl (stepG_mv rfl rfl (hA 0 rfl))
     ·exact fun A w1 hA hL hS he => goOn_plain rfl (stepG_mv rfl rfl (hA 5 rfl))
     ·intro A w1 hA hL hS he
      have h50 : A.eval (.tmp 50) = _ := he.1 rfl
      have h51 : A.eval (.tmp 51) = _ := he.2.1 rfl
      refine goOn_plain rfl ?_
      exact stepG_pure rfl rfl (execOp_index rfl (by rw [h50, h51]; exact run_index Tryz.underlying22 (by kernel_rfl) w1 b off _ _ i .i64 _ (by first | rfl | simp | omega) (h1)))
     ·intro A w1 hA hL hS he
      have h52 : A.eval (.tmp 52) = _ := he.1 rfl
      refine goOn_plain rfl (stepG_pure rfl rfl ?_)
      generalize A.eval = ev at *
      go_simp
     ·intro A w1 hA hL hS he
      have h53 : A.eval (.tmp 53) = _ := he.1 rfl
      have hc0 : A.eval (.const (.int .i64 3)) = .int .i64 3 := rfl
      refine goOn_plain rfl (stepG_pure rfl rfl ?_)
      generalize A.eval = ev at *
      go_simp
     ·intro A w1 hA hL hS he
      have hbw : Below w.heap.size w w1 := hbr.trans (hL.belowAt hbr.size hbase)
      have h54 : A.eval (.tmp 54) = _ := he.1 rfl
      refine goOn_plain rfl ?_
      have c0 := z3.out _ hbw
      refine stepG_pure rfl rfl ?_
      generalize A.eval = ev at *
      go_simp
     ·intro A w1 hA hL hS he
      have h55 : A.eval (.tmp 55) = _ := he.1 rfl
      refine goOn_plain rfl (stepG_pure rfl rfl ?_)
      generalize A.eval = ev at *
      go_simp
     ·intro A w1 hA hL hS he
      have h56 : A.eval (.tmp 56) = _ := he.1 rfl
      have hc0 : A.eval (.const (.int .i64 2)) = .int .i64 2 := rfl
      refine goOn_plain rfl (stepG_pure rfl rfl ?_)
      generalize A.eval = ev at *
      go_simp
     ·intro A w1 hA hL hS he
      have h32 : A.eval (.tmp 32) = _ := he.1 rfl
      have h41 : A.eval (.tmp 41) = _ := he.2.1 rfl
      have h49 : A.eval (.tmp 49) = _ := he.2.2.1 rfl
      have h57 : A.eval (.tmp 57) = _ := he.2.2.2.1 rfl
      refine goOn_plain rfl (stepG_pure rfl rfl ?_)
      generalize A.eval = ev at *
      go_simp
     ·exact fun A w1 hA hL hS he => goOn_plain rfl (stepG_mv rfl rfl (hA 0 rfl))
     ·exact fun A w1 hA hL hS he => goOn_plain rfl (stepG_mv rfl rfl (hA 5 rfl))
     ·intro A w1 hA hL hS he
      have h59 : A.eval (.tmp 59) = _ := he.1 rfl
      have h60 : A.eval (.tmp 60) = _ := he.2.1 rfl
      refine goOn_plain rfl ?_
      exact stepG_pure rfl rfl (execOp_index rfl (by rw [h59, h60]; exact run_index Tryz.underlying22 (by kernel_rfl) w1 b off _ _ i .i64 _ (by first | rfl | simp | omega) (h1)))
     ·intro A w1 hA hL hS he
      have h61 : A.eval (.tmp 61) = _ := he.1 rfl
      refine goOn_plain rfl (stepG_pure rfl rfl ?_)
      generalize A.eval = ev at *
      go_simp
     ·intro A w1 hA hL hS he
      have hbw : Below w.heap.size w w1 := hbr.trans (hL.belowAt hbr.size hbase)
      have h62 : A.eval (.tmp 62) = _ := he.1 rfl
      refine goOn_plain rfl ?_
      have c0 := z4.out _ hbw
      refine stepG_pure rfl rfl ?_
      generalize A.eval = ev at *
      go_simp
     ·intro A w1 hA hL hS he
      have h63 : A.eval (.tmp 63) = _ := he.1 rfl
      refine goOn_plain rfl (stepG_pure rfl rfl ?_)
      generalize A.eval = ev at *
      go_simp
     ·intro A w1 hA hL hS he
      have h64 : A.eval (.tmp 64) = _ := he.1 rfl
      have hc0 : A.eval (.const (.int .i64 4)) = .int .i64 4 := rfl
      refine goOn_plain rfl (stepG_pure rfl rfl ?_)
      generalize A.eval = ev at *
      go_simp
     ·intro A w1 hA hL hS he
      have hb := hS rfl
      have h65 : A.eval (.tmp 65) = _ := he.1 rfl
      have hf0 : A.eval (.func 13) = .func (.func 13) #[] #[] := rfl
      refine goOn_plain rfl ?_
      refine stepG_call (f := 13) (args := #[.int .i64 c]) rfl rfl ?_ ?_
      ·generalize A.eval = ev at *
       go_simp
      ·refine (hwh.out _).mono ?_
       rintro e w' ⟨v, rfl, hi, hb'⟩
       exact ⟨_, rfl, hb', hi⟩
     ·intro A w1 hA hL hS he
      have h58 : A.eval (.tmp 58) = _ := he.1 rfl
      have f66 : ((.rat (by decide) (((c : Int) : Rat)) : FactL (Lr (u4.ownBlock) (monoT)))).p (A.eval (.tmp 66)) w1 := he.2.1 rfl
      obtain ⟨v66, h66⟩ : ∃ v, A.eval (.tmp 66) = v := ⟨_, rfl⟩
      rw [h66] at f66
      refine goOn_plain rfl ?_
      obtain ⟨n_, a_, k_, c_, n', a', k', c', rfl⟩ := rat_agg f66
      exact stepG_value (c := .agg (exC ((x0 % 3, x1 % 4 - 1, x2 % 2, x3 % 2)) ++ ([.bool n_, .slice a_ k_ c_, .bool n', .slice a' k' c'] : List Value)).toArray) rfl rfl (Below.refl _ _) ⟨_, rfl, ⟨_, rfl, f66.cellsC⟩⟩ (execOp_build rfl (by simp only [List.map_toArray, List.map_cons, List.map_nil, h58, h66]; exact run_build37 _ ((x0 % 3, x1 % 4 - 1, x2 % 2, x3 % 2)) _ rfl))
     ·intro A w1 hA hL hS he
      have f67 : ((.term (by decide) (((x0 % 3, x1 % 4 - 1, x2 % 2, x3 % 2)), (((c : Int) : Rat))) : FactL (Lr (u4.ownBlock) (monoT)))).p (A.eval (.tmp 67)) w1 := he.1 rfl
      obtain ⟨v67, h67⟩ : ∃ v, A.eval (.tmp 67) = v := ⟨_, rfl⟩
      rw [h67] at f67
      refine goOn_plain rfl ?_
      obtain ⟨c67, rfl, e67⟩ := f67
      refine stepG_new1 rfl rfl ((hown.okr).lr hL) (e := elTerm) (t := ((x0 % 3, x1 % 4 - 1, x2 % 2, x3 % 2), ((c : Int) : Rat))) e67 (execOp_buildSlice rfl ?_) (fun _ _ h => h)
      simp only [List.map_toArray, List.map_cons, List.map_nil, h67]
      exact run_new1_elTerm _ _ (elTerm.len e67)
     ·intro A w1 hA hL hS he
      have hb := hS rfl
      have hbw : Below w.heap.size w w1 := hbr.trans (hL.belowAt hbr.size hbase)
      have h24 : A.eval (.tmp 24) = _ := he.1 rfl
      have f68 : ((.new1 elTerm elTerm_okT (((x0 % 3, x1 % 4 - 1, x2 % 2, x3 % 2), ((c : Int) : Rat))) : FactL (Lr (u4.ownBlock) (monoT)))).p (A.eval (.tmp 68)) w1 := he.2.1 rfl
      obtain ⟨v68, h68⟩ : ∃ v, A.eval (.tmp 68) = v := ⟨_, rfl⟩
      rw [h68] at f68
      refine goOn_plain rfl ?_
      exact stepG_append rfl rfl rfl Tryz.underlying24 info_elTerm h24 h68 (hown.on hb) rfl rfl (isSl_of_new f68) (by simp only [List.length_cons, List.length_nil]; omega) (hbw.size) hL.1.size (fun _ _ h1 h2 => ⟨h1, h2⟩)
     ·intro W5 hL5
      simp only [TailL, FactL.eq, FactL.rat, FactL.term, FactL.new1, FactL.row, FactL.asPure, FactL.of, FactL.fragile, List.length_cons, List.length_nil, List.drop_succ_cons, List.drop_zero]
      rintro v66 - v67 - v68 - v69 ⟨hown5, hnew⟩
      go_frame
      have hbW5 := hbr.trans (hL5.belowAt hbr.size hbase)
      clear z0 z1 z2 z3 z4 w0 w1 w2 w3 w4 w5 t0 t1 t2 t3 hc hwh
      go_wp2
      go_roundw
      case measure => simp [intOf]; omega
      case rel => exact ⟨i + 1, by go_num, by omega, by omega, Lib.hid (by rw [hsn.out, hrt.out]; exact hown5), hbW5⟩
    ·have g2 : ¬ (i : Int) < 12 := by omega
     obtain rfl : i = 12 := by omega
     go_wp2
     go_meet
     case rel => exact ⟨hown, hbr⟩
   ·have g1 : ¬ (i : Int) < (L.length : Int) := by omega
    go_wp2
    go_meet
    case rel => exact ⟨by rwa [show L.take 12 = L.take i by rw [List.take_of_length_le (by omega), List.take_of_length_le (by omega)]], hbr⟩
 case rest =>
  clear hown0 hb0 hb1
  obtain ⟨hown, hbr⟩ := hcut
  have hB := raw_bd (L := L.take 12) (by rw [List.length_take]; omega)
  have hraw := hown.out.isSl
  clear hL hown
  generalize (L.take 12).map rawT = l at *
  obtain ⟨ar, cr, rfl, -⟩ := hraw.shape
  have hrs := Lib.hid (hB.rs raw_ok)
  have hll := hB.len raw_ok
  have PC : Pk ⟨1, 36, 2, 12⟩ (canon l) := ⟨canon_val l, hB.canon, raw_ok⟩
  have hcl' := canon_len l
  have hsr := Lib.hid (sumN_rs hB raw_ok)
  have hcf := Lib.hid (fun e => (cf_canon l e).symm)
  go_upto_region 7 with (fail)
  refine wp_region_S trivial (none) (0) (Okr.none) [.eq (.slice ar l.length cr), .poly (by decide) (by decide) ((canon l))] [70, 71] rfl rfl rfl rfl ⟨?_, ?_, trivial⟩ ?_
  ·exact fun A w1 hA hL hS he => goOn_plain rfl (stepG_mv rfl rfl (hA 4 rfl))
  ·intro A w1 hA hL hS he
   have hb := hS rfl
   have h70 : A.eval (.tmp 70) = _ := he.1 rfl
   have hf0 : A.eval (.func 14) = .func (.func 14) #[] #[] := rfl
   refine goOn_plain rfl ?_
   refine stepG_call (f := 14) (args := #[.slice ar l.length cr]) rfl rfl ?_ ?_
   ·generalize A.eval = ev at *
    go_simp
   ·refine (make_any _ l _ (hraw.on hb) (hB.okl raw_ok)).mono ?_
    rintro e w' ⟨v, rfl, hi, hb'⟩
    exact ⟨_, rfl, hb', hi⟩
  intro w2 hL
  simp only [TailL, FactL.eq, FactL.poly, FactL.ret, FactL.of, List.length_cons, List.length_nil, List.drop_succ_cons, List.drop_zero]
  rintro vp hp
  go_frame
  have hb := hL.below
  replace hraw := hraw.on hb
  replace hbr := hbr.trans (hb.mono hbr.size)
  clear hL hb
  obtain ⟨ap, cp, rfl, -⟩ := hp.shape
  have q1 := fun W (hb : Below w2.heap.size w2 W) => validm_any _ l W (hraw.on hb) (fun t ht => (hrs.out t ht).rk) hll
  have q2 := fun W (hb : Below w2.heap.size w2 W) => valid7_any _ l W (hraw.on hb) hrs.out hll
  have q3 := fun W (hb : Below w2.heap.size w2 W) => (vldB_vld.2 PC.v) ▸ validm_any _ (canon l) W (hp.on hb) PC.rk PC.len
  have q4 := fun W (hb : Below w2.heap.size w2 W) => make7_any _ l _ W (hraw.on hb) hB raw_ok
  generalize vldB l = g at *
  replace q1 := Lib.hid q1
  replace q2 := Lib.hid q2
  replace q3 := Lib.hid q3
  replace q4 := Lib.hid q4
  have gg : (g != g) = false := by simp
  go_upto_region 8 with (fail)
  refine wp_region_S trivial (none) (0) (Okr.none) [.eq (.slice ap (canon l).length cp), .ret (.bool true), .eq (.bool false), .eq (.bool false), .eq (.slice ap (canon l).length cp), .ret (.bool true), .eq (.bool false), .eq (.bool false), .eq (.bool false), .eq (.slice ar l.length cr), .ret (.bool g), .eq (.slice ar l.length cr), .ret (.bool g), .eq (.bool false), .eq (.bool false), .eq (.bool false), .eq (.slice ap (canon l).length cp), .eq (.slice ar l.length cr), .poly (by decide) (by decide) ((canon l)), .ret (.bool true), .eq (.bool false), .eq (.bool false)] [72, 73, 74, 75, 76, 77, 78, 79, 80, 81, 82, 83, 84, 85, 86, 87, 88, 89, 90, 91, 92, 93] rfl rfl rfl rfl ⟨?_, ?_, ?_, ?_, ?_, ?_, ?_, ?_, ?_, ?_, ?_, ?_, ?_, ?_, ?_, ?_, ?_, ?_, ?_, ?_, ?_, ?_, trivial⟩ ?_
  ·exact fun A w1 hA hL hS he => goOn_plain rfl (stepG_mv rfl rfl (hA 6 rfl))
  ·intro A w1 hA hL hS he
   have hb := hS rfl
   have h72 : A.eval (.tmp 72) = _ := he.1 rfl
   have hf0 : A.eval (.func 15) = .func (.func 15) #[] #[] := rfl
   refine goOn_plain rfl ?_
   refine stepG_call (f := 15) (args := #[.slice ap (canon l).length cp]) rfl rfl ?_ ?_
   ·generalize A.eval = ev at *
    go_simp
   ·refine (valid7K PC (hp.on hb)).mono ?_
    rintro e w' ⟨rfl, hb'⟩
    exact ⟨_, rfl, hb', rfl⟩
  ·intro A w1 hA hL hS he
   have h73 : A.eval (.tmp 73) = _ := he.1 rfl
   refine goOn_plain rfl (stepG_pure rfl rfl ?_)
   generalize A.eval = ev at *
   go_simp
  ·exact fun A w1 hA hL hS he => goOn_plain rfl (stepG_mv rfl rfl (he.1 rfl))
  ·exact fun A w1 hA hL hS he => goOn_yes rfl rfl (he.1 rfl) (stepG_mv rfl rfl (hA 6 rfl))
  ·intro A w1 hA hL hS he
   have hb := hS rfl
   have h75 : A.eval (.tmp 75) = _ := he.2.1 rfl
   have h76 : A.eval (.tmp 76) = _ := he.1 rfl
   have hf0 : A.eval (.func 16) = .func (.func 16) #[] #[] := rfl
   refine goOn_yes rfl rfl h75 ?_
   refine stepG_call (f := 16) (args := #[.slice ap (canon l).length cp]) rfl rfl ?_ ?_
   ·generalize A.eval = ev at *
    go_simp
   ·refine (q3.out _ hb).mono ?_
    rintro e w' ⟨rfl, hb'⟩
    exact ⟨_, rfl, hb', rfl⟩
  ·intro A w1 hA hL hS he
   have h75 : A.eval (.tmp 75) = _ := he.2.1 rfl
   have h77 : A.eval (.tmp 77) = _ := he.1 rfl
   refine goOn_yes rfl rfl h75 ?_
   refine stepG_pure rfl rfl ?_
   generalize A.eval = ev at *
   go_simp
  ·exact fun A w1 hA hL hS he => goOn_plain rfl (stepG_pk rfl (he.1 rfl) rfl (he.2.1 rfl))
  ·exact fun A w1 hA hL hS he => goOn_plain rfl (stepG_mv rfl rfl (he.1 rfl))
  ·exact fun A w1 hA hL hS he => goOn_yes rfl rfl (he.1 rfl) (stepG_mv rfl rfl (hA 4 rfl))
  ·intro A w1 hA hL hS he
   have hb := hS rfl
   have h80 : A.eval (.tmp 80) = _ := he.2.1 rfl
   have h81 : A.eval (.tmp 81) = _ := he.1 rfl
   have hf0 : A.eval (.func 16) = .func (.func 16) #[] #[] := rfl
   refine goOn_yes rfl rfl h80 ?_
   refine stepG_call (f := 16) (args := #[.slice ar l.length cr]) rfl rfl ?_ ?_
   ·generalize A.eval = ev at *
    go_simp
   ·refine (q1.out _ hb).mono ?_
    rintro e w' ⟨rfl, hb'⟩
    exact ⟨_, rfl, hb', rfl⟩
  ·exact fun A w1 hA hL hS he => goOn_yes rfl rfl (he.1 rfl) (stepG_mv rfl rfl (hA 4 rfl))
  ·intro A w1 hA hL hS he
   have hb := hS rfl
   have h80 : A.eval (.tmp 80) = _ := he.2.2.1 rfl
   have h83 : A.eval (.tmp 83) = _ := he.1 rfl
   have hf0 : A.eval (.func 15) = .func (.func 15) #[] #[] := rfl
   refine goOn_yes rfl rfl h80 ?_
   refine stepG_call (f := 15) (args := #[.slice ar l.length cr]) rfl rfl ?_ ?_
   ·generalize A.eval = ev at *
    go_simp
   ·refine (q2.out _ hb).mono ?_
    rintro e w' ⟨rfl, hb'⟩
    exact ⟨_, rfl, hb', rfl⟩
  ·intro A w1 hA hL hS he
   have h80 : A.eval (.tmp 80) = _ := he.2.2.1 rfl
   have h82 : A.eval (.tmp 82) = _ := he.1 rfl
   have h84 : A.eval (.tmp 84) = _ := he.2.1 rfl
   refine goOn_yes rfl rfl h80 ?_
   refine stepG_pure rfl rfl ?_
   generalize A.eval = ev at *
   go_simp
  ·exact fun A w1 hA hL hS he => goOn_plain rfl (stepG_pk rfl (he.1 rfl) rfl (he.2.1 rfl))
  ·exact fun A w1 hA hL hS he => goOn_plain rfl (stepG_mv rfl rfl (he.1 rfl))
  ·exact fun A w1 hA hL hS he => goOn_yes rfl rfl (he.1 rfl) (stepG_mv rfl rfl (hA 6 rfl))
  ·exact fun A w1 hA hL hS he => goOn_yes rfl rfl (he.1 rfl) (stepG_mv rfl rfl (hA 4 rfl))
  ·intro A w1 hA hL hS he
   have hb := hS rfl
   have h87 : A.eval (.tmp 87) = _ := he.2.1 rfl
   have h89 : A.eval (.tmp 89) = _ := he.1 rfl
   have hf0 : A.eval (.func 18) = .func (.func 18) #[] #[] := rfl
   refine goOn_yes rfl rfl h87 ?_
   refine stepG_call (f := 18) (args := #[.slice ar l.length cr]) rfl rfl ?_ ?_
   ·generalize A.eval = ev at *
    go_simp
   ·refine (q4.out _ hb).mono ?_
    rintro e w' ⟨v, rfl, hi, hb'⟩
    exact ⟨_, rfl, hb', hi⟩
  ·intro A w1 hA hL hS he
   have hb := hS rfl
   have h87 : A.eval (.tmp 87) = _ := he.2.2.2.1 rfl
   have h88 : A.eval (.tmp 88) = _ := he.1 rfl
   have f90 : ((.poly (by decide) (by decide) ((canon l)) : FactL (Lr (none) (0)))).p (A.eval (.tmp 90)) w1 := he.2.1 rfl
   obtain ⟨v90, h90⟩ : ∃ v, A.eval (.tmp 90) = v := ⟨_, rfl⟩
   rw [h90] at f90
   have hf0 : A.eval (.func 17) = .func (.func 17) #[] #[] := rfl
   refine goOn_yes rfl rfl h87 ?_
   refine stepG_call (f := 17) (args := #[.slice ap (canon l).length cp, v90]) rfl rfl ?_ ?_
   ·generalize A.eval = ev at *
    go_simp
   ·refine (sameK PC PC rfl (hp.on hb) f90).mono ?_
    rintro e w' ⟨rfl, hb'⟩
    exact ⟨_, rfl, hb', rfl⟩
  ·intro A w1 hA hL hS he
   have h87 : A.eval (.tmp 87) = _ := he.2.1 rfl
   have h91 : A.eval (.tmp 91) = _ := he.1 rfl
   refine goOn_yes rfl rfl h87 ?_
   refine stepG_pure rfl rfl ?_
   generalize A.eval = ev at *
   go_simp
  ·exact fun A w1 hA hL hS he => goOn_plain rfl (stepG_pk rfl (he.1 rfl) rfl (he.2.1 rfl))
  intro w3 hL
  simp only [TailL, FactL.eq, FactL.poly, FactL.ret, FactL.of, List.length_cons, List.length_nil, List.drop_succ_cons, List.drop_zero]
  rintro _ -
  go_frame
  have hb := hL.below
  replace hraw := hraw.on hb
  replace hp := hp.on hb
  replace hbr := hbr.trans (hb.mono hbr.size)
  clear hL hb q1 q2 q3 q4 gg
  go_wp2
  go_loopw [7] (fun i wr => ∃ k : Nat, k ≤ l.length ∧ i = .int .i64 k ∧ Below w3.heap.size w3 wr) (fun i _ => l.length - (intOf i).toNat)
  case atStart => exact ⟨0, by omega, rfl, Below.refl _ _⟩
  case round =>
   obtain ⟨i, hi, rfl, hb3⟩ := hrel
   by_cases hil : i < l.length
   ·have hil' : (i : Int) < (l.length : Int) := by omega
    have hji : l[i]? = some l[i] := List.getElem?_eq_getElem hil
    generalize l[i] = t at hji
    obtain ⟨bi, oi, ri, rfl, hri, hCi⟩ := cell_term hraw hji
    obtain ⟨e, qt⟩ := t
    simp only at hri hCi
    have hS0 : sumN (l.take 0) e = ((0 : Int) : Rat) := by rw [List.take_zero, sumN, cf_nil]; split <;> rfl
    have hF0 : cf ((canon l).take 0) e = ((0 : Int) : Rat) := by rw [List.take_zero, cf_nil]; rfl
    have hw0 := fun W => whole2_any 0 W (by omega) (by omega)
    replace hw0 := Lib.hid hw0
    go_upto_region 13 with (fail)
    refine wp_region_S trivial (none) (0) (Okr.none) [.rat (by decide) (((0 : Int) : Rat)), .rat (by decide) (((0 : Int) : Rat))] [100, 101] rfl rfl rfl rfl ⟨?_, ?_, trivial⟩ ?_
    ·intro A w1 hA hL hS he
     have hb := hS rfl
     have hf0 : A.eval (.func 13) = .func (.func 13) #[] #[] := rfl
     have hc0 : A.eval (.const (.int .i64 0)) = .int .i64 0 := rfl
     refine goOn_plain rfl ?_
     refine stepG_call (f := 13) (args := #[(.int .i64 0)]) rfl rfl ?_ ?_
     ·generalize A.eval = ev at *
      go_simp
     ·refine (hw0.out _).mono ?_
      rintro e w' ⟨v, rfl, hi, hb'⟩
      exact ⟨_, rfl, hb', hi⟩
    ·intro A w1 hA hL hS he
     have hb := hS rfl
     have hf0 : A.eval (.func 13) = .func (.func 13) #[] #[] := rfl
     have hc0 : A.eval (.const (.int .i64 0)) = .int .i64 0 := rfl
     refine goOn_plain rfl ?_
     refine stepG_call (f := 13) (args := #[(.int .i64 0)]) rfl rfl ?_ ?_
     ·generalize A.eval = ev at *
      go_simp
     ·refine (hw0.out _).mono ?_
      rintro e w' ⟨v, rfl, hi, hb'⟩
      exact ⟨_, rfl, hb', hi⟩
    intro w4 hL4
    simp only [TailL, FactL.eq, FactL.rat, FactL.of, List.length_cons, List.length_nil, List.drop_succ_cons, List.drop_zero]
    rintro v100 h100 v101 h101
    obtain ⟨n5, a5, k5, e5, n6, a6, k6, e6, rfl⟩ := rat_agg h100
    obtain ⟨n7, a7, k7, e7, n8, a8, k8, e8, rfl⟩ := rat_agg h101
    go_frame
    replace hb3 := hb3.trans (hL4.below.mono hb3.size)
    rw [← hS0] at h100
    rw [← hF0] at h101
    clear hL4 hS0 hF0 hw0
    go_upto_region 14 with (fail)
    refine abs2 fun W5 hb5 B8 B9 hs5 => ?_
    have hb35 := hb3.trans (hb5.mono hb3.size)
    have S8 : Hid (∃ rc : List Value, Blk W5 w4.heap.size 34 rc ∧ IsRatC W5 rc (sumN (l.take 0) e)) := Lib.hid ⟨_, B8, (h100.on hb5).cellsC⟩
    have S9 : Hid (∃ rc : List Value, Blk W5 (w4.heap.size + 1) 34 rc ∧ IsRatC W5 rc (cf ((canon l).take 0) e)) := Lib.hid ⟨_, B9, (h101.on hb5).cellsC⟩
    have hx8 : w3.heap.size ≤ w4.heap.size := hb3.size
    clear hb5 B8 B9 hs5 h100 h101 hb3
    generalize w4.heap.size = x8 at *
    go_wp2
    go_loopw [10] (fun i wr => ∃ k : Nat, k ≤ l.length ∧ i = .int .i64 k ∧ Hid (∃ rc : List Value, Blk wr x8 34 rc ∧ IsRatC wr rc (sumN (l.take k) e)) ∧ Hid (∃ rc : List Value, Blk wr (x8 + 1) 34 rc ∧ IsRatC wr rc (cf ((canon l).take 0) e)) ∧ Below w3.heap.size w3 wr) (fun i _ => l.length - (intOf i).toNat)
    case atStart => exact ⟨0, by omega, rfl, S8, S9, hb35⟩
    case round =>
     clear S8 S9 hb35
     obtain ⟨k, hk, rfl, S8, S9, hbr3⟩ := hrel
     by_cases hkl : k < l.length
     ·have hkl' : (k : Int) < (l.length : Int) := by omega
      have hjk : l[k]? = some l[k] := List.getElem?_eq_getElem hkl
      generalize l[k] = u at hjk
      obtain ⟨bk, ok, rk, eal, hrk, hCk⟩ := cell_term hraw hjk
      simp only [Option.some.injEq, Addr.mk.injEq, and_true] at eal
      obtain ⟨rfl, rfl⟩ := eal
      have hlk := hrk.len
      have hst := sumN_snoc hjk e
      obtain ⟨g1, hg1⟩ : ∃ g : Bool, g = (decide (u.1 = e) && e.nat) := ⟨_, rfl⟩
      rw [← hg1] at hst
      replace hst := Lib.hid hst
      have hex := fun W' => eq_ex u.1 e W'
      go_upto_region 17 with (fail)
      go_cut [108, 109, 110, 111, 112, 113, 114, 115, 116, 117, 118, 119, 120, 121, 122, 123, 124, 125, 126] (fun _ _ _ _ _ _ _ _ _ _ _ _ _ _ _ _ _ _ v126 wc => v126 = .bool g1 ∧ Below wr.heap.size wr wc)
      case first =>
       by_cases hue : u.1 = e
       ·have hd : decide (u.1 = e) = true := by simpa using hue
        rw [hd] at hex hg1
        rw [Bool.true_and] at hg1
        clear hd hue
        refine wp_region_L mixed (none) (0) (Okr.none) [.eq (.slice (some ⟨bi, oi, none⟩) l.length cr), .eq (.int .i64 k), .eq (.pointer (some ⟨bi, oi + k * 8, none⟩)), .eq (.pointer (some ⟨bi, oi + k * 8, none⟩)), .eq (.agg (exC u.1).toArray), .eq (.slice (some ⟨bi, oi, none⟩) l.length cr), .eq (.int .i64 i), .eq (.pointer (some ⟨bi, oi + i * 8, none⟩)), .eq (.pointer (some ⟨bi, oi + i * 8, none⟩)), .eq (.agg (exC e).toArray), .eq (.bool true), .eq (.bool true), .eq (.slice (some ⟨bi, oi, none⟩) l.length cr), .eq (.int .i64 i), .eq (.pointer (some ⟨bi, oi + i * 8, none⟩)), .eq (.pointer (some ⟨bi, oi + i * 8, none⟩)), .eq (.agg (exC e).toArray), .ret (.bool e.nat), .eq (.bool e.nat)] [108, 109, 110, 111, 112, 113, 114, 115, 116, 117, 118, 119, 120, 121, 122, 123, 124, 125, 126] rfl rfl rfl rfl ⟨?_, ?_, ?_, ?_, ?_, ?_, ?_, ?_, ?_, ?_, ?_, ?_, ?_, ?_, ?_, ?_, ?_, ?_, ?_, trivial⟩ ?_
        ·exact fun A w1 hA hL hS he => goOn_plain rfl (stepG_mv rfl rfl (hA 4 rfl))
        ·exact fun A w1 hA hL hS he => goOn_plain rfl (stepG_mv rfl rfl (hA 10 rfl))
        ·intro A w1 hA hL hS he
         have h108 : A.eval (.tmp 108) = _ := he.1 rfl
         have h109 : A.eval (.tmp 109) = _ := he.2.1 rfl
         refine goOn_plain rfl ?_
         exact stepG_pure rfl rfl (execOp_index rfl (by rw [h108, h109]; exact run_index Tryz.underlying24 (by kernel_rfl) w1 bi oi _ _ k .i64 _ (by first | rfl | simp | omega) (hkl)))
        ·intro A w1 hA hL hS he
         have h110 : A.eval (.tmp 110) = _ := he.1 rfl
         refine goOn_plain rfl ?_
         exact stepG_pure rfl rfl (execOp_field rfl (by rw [h110]; exact run_field37_0 _ _ _))
        ·intro A w1 hA hL hS he
         have hb := hL.below
         have hbw : Below w3.heap.size w3 w1 := hbr3.trans (hb.mono hbr3.size)
         have h111 : A.eval (.tmp 111) = _ := he.1 rfl
         refine goOn_plain rfl ?_
         exact stepG_pure rfl rfl (execOp_load rfl (by rw [h111]; exact run_loadAt_mid w1 _ _ _ _ _ (cells_ex (hCk.on hbw)) Tryz.underlying29 rfl (by rw [show (exC u.1).length = 4 from rfl]; kernel_rfl)))
        ·exact fun A w1 hA hL hS he => goOn_plain rfl (stepG_mv rfl rfl (hA 4 rfl))
        ·exact fun A w1 hA hL hS he => goOn_plain rfl (stepG_mv rfl rfl (hA 7 rfl))
        ·intro A w1 hA hL hS he
         have h113 : A.eval (.tmp 113) = _ := he.1 rfl
         have h114 : A.eval (.tmp 114) = _ := he.2.1 rfl
         refine goOn_plain rfl ?_
         exact stepG_pure rfl rfl (execOp_index rfl (by rw [h113, h114]; exact run_index Tryz.underlying24 (by kernel_rfl) w1 bi oi _ _ i .i64 _ (by first | rfl | simp | omega) (hil)))
        ·intro A w1 hA hL hS he
         have h115 : A.eval (.tmp 115) = _ := he.1 rfl
         refine goOn_plain rfl ?_
         exact stepG_pure rfl rfl (execOp_field rfl (by rw [h115]; exact run_field37_0 _ _ _))
        ·intro A w1 hA hL hS he
         have hb := hL.below
         have hbw : Below w3.heap.size w3 w1 := hbr3.trans (hb.mono hbr3.size)
         have h116 : A.eval (.tmp 116) = _ := he.1 rfl
         refine goOn_plain rfl ?_
         exact stepG_pure rfl rfl (execOp_load rfl (by rw [h116]; exact run_loadAt_mid w1 _ _ _ _ _ (cells_ex (hCi.on hbw)) Tryz.underlying29 rfl (by rw [show (exC e).length = 4 from rfl]; kernel_rfl)))
        ·intro A w1 hA hL hS he
         have h112 : A.eval (.tmp 112) = _ := he.1 rfl
         have h117 : A.eval (.tmp 117) = _ := he.2.1 rfl
         refine goOn_plain rfl (stepG_pure rfl rfl ?_)
         generalize A.eval = ev at *
         go_simp
        ·exact fun A w1 hA hL hS he => goOn_plain rfl (stepG_mv rfl rfl (he.1 rfl))
        ·exact fun A w1 hA hL hS he => goOn_yes rfl rfl (he.1 rfl) (stepG_mv rfl rfl (hA 4 rfl))
        ·exact fun A w1 hA hL hS he => goOn_yes rfl rfl (he.1 rfl) (stepG_mv rfl rfl (hA 7 rfl))
        ·intro A w1 hA hL hS he
         have h119 : A.eval (.tmp 119) = _ := he.2.2.1 rfl
         have h120 : A.eval (.tmp 120) = _ := he.1 rfl
         have h121 : A.eval (.tmp 121) = _ := he.2.1 rfl
         refine goOn_yes rfl rfl h119 ?_
         exact stepG_pure rfl rfl (execOp_index rfl (by rw [h120, h121]; exact run_index Tryz.underlying24 (by kernel_rfl) w1 bi oi _ _ i .i64 _ (by first | rfl | simp | omega) (hil)))
        ·intro A w1 hA hL hS he
         have h119 : A.eval (.tmp 119) = _ := he.2.1 rfl
         have h122 : A.eval (.tmp 122) = _ := he.1 rfl
         refine goOn_yes rfl rfl h119 ?_
         exact stepG_pure rfl rfl (execOp_field rfl (by rw [h122]; exact run_field37_0 _ _ _))
        ·intro A w1 hA hL hS he
         have hb := hL.below
         have hbw : Below w3.heap.size w3 w1 := hbr3.trans (hb.mono hbr3.size)
         have h119 : A.eval (.tmp 119) = _ := he.2.1 rfl
         have h123 : A.eval (.tmp 123) = _ := he.1 rfl
         refine goOn_yes rfl rfl h119 ?_
         exact stepG_pure rfl rfl (execOp_load rfl (by rw [h123]; exact run_loadAt_mid w1 _ _ _ _ _ (cells_ex (hCi.on hbw)) Tryz.underlying29 rfl (by rw [show (exC e).length = 4 from rfl]; kernel_rfl)))
        ·intro A w1 hA hL hS he
         have hb := hS rfl
         have h119 : A.eval (.tmp 119) = _ := he.2.1 rfl
         have h124 : A.eval (.tmp 124) = _ := he.1 rfl
         have hf0 : A.eval (.func 19) = .func (.func 19) #[] #[] := rfl
         refine goOn_yes rfl rfl h119 ?_
         refine stepG_call (f := 19) (args := #[.agg (exC e).toArray]) rfl rfl ?_ ?_
         ·generalize A.eval = ev at *
          go_simp
         ·refine (natural7_any e _).mono ?_
          rintro e w' ⟨rfl, hb'⟩
          exact ⟨_, rfl, hb', rfl⟩
        ·exact fun A w1 hA hL hS he => goOn_plain rfl (stepG_pk rfl (he.1 rfl) rfl (he.2.1 rfl))
        intro W2 hL2
        simp only [TailL, FactL.eq, FactL.ret, List.length_cons, List.length_nil, List.drop_succ_cons, List.drop_zero]
        go_frame
        go_wp2
        go_meet
        case rel => exact ⟨by rw [hg1], hL2.below⟩
       ·have hd : decide (u.1 = e) = false := by simpa using hue
        rw [hd] at hex hg1
        rw [Bool.false_and] at hg1
        clear hd hue
        refine wp_region_L mixed (none) (0) (Okr.none) [.eq (.slice (some ⟨bi, oi, none⟩) l.length cr), .eq (.int .i64 k), .eq (.pointer (some ⟨bi, oi + k * 8, none⟩)), .eq (.pointer (some ⟨bi, oi + k * 8, none⟩)), .eq (.agg (exC u.1).toArray), .eq (.slice (some ⟨bi, oi, none⟩) l.length cr), .eq (.int .i64 i), .eq (.pointer (some ⟨bi, oi + i * 8, none⟩)), .eq (.pointer (some ⟨bi, oi + i * 8, none⟩)), .eq (.agg (exC e).toArray), .eq (.bool false), .eq (.bool false), .eq undef, .eq undef, .eq undef, .eq undef, .eq undef, .eq undef, .eq (.bool false)] [108, 109, 110, 111, 112, 113, 114, 115, 116, 117, 118, 119, 120, 121, 122, 123, 124, 125, 126] rfl rfl rfl rfl ⟨?_, ?_, ?_, ?_, ?_, ?_, ?_, ?_, ?_, ?_, ?_, ?_, ?_, ?_, ?_, ?_, ?_, ?_, ?_, trivial⟩ ?_
        ·exact fun A w1 hA hL hS he => goOn_plain rfl (stepG_mv rfl rfl (hA 4 rfl))
        ·exact fun A w1 hA hL hS he => goOn_plain rfl (stepG_mv rfl rfl (hA 10 rfl))
        ·intro A w1 hA hL hS he
         have h108 : A.eval (.tmp 108) = _ := he.1 rfl
         have h109 : A.eval (.tmp 109) = _ := he.2.1 rfl
         refine goOn_plain rfl ?_
         exact stepG_pure rfl rfl (execOp_index rfl (by rw [h108, h109]; exact run_index Tryz.underlying24 (by kernel_rfl) w1 bi oi _ _ k .i64 _ (by first | rfl | simp | omega) (hkl)))
        ·intro A w1 hA hL hS he
         have h110 : A.eval (.tmp 110) = _ := he.1 rfl
         refine goOn_plain rfl ?_
         exact stepG_pure rfl rfl (execOp_field rfl (by rw [h110]; exact run_field37_0 _ _ _))
        ·intro A w1 hA hL hS he
         have hb := hL.below
         have hbw : Below w3.heap.size w3 w1 := hbr3.trans (hb.mono hbr3.size)
         have h111 : A.eval (.tmp 111) = _ := he.1 rfl
         refine goOn_plain rfl ?_
         exact stepG_pure rfl rfl (execOp_load rfl (by rw [h111]; exact run_loadAt_mid w1 _ _ _ _ _ (cells_ex (hCk.on hbw)) Tryz.underlying29 rfl (by rw [show (exC u.1).length = 4 from rfl]; kernel_rfl)))
        ·exact fun A w1 hA hL hS he => goOn_plain rfl (stepG_mv rfl rfl (hA 4 rfl))
        ·exact fun A w1 hA hL hS he => goOn_plain rfl (stepG_mv rfl rfl (hA 7 rfl))
        ·intro A w1 hA hL hS he
         have h113 : A.eval (.tmp 113) = _ := he.1 rfl
         have h114 : A.eval (.tmp 114) = _ := he.2.1 rfl
         refine goOn_plain rfl ?_
         exact stepG_pure rfl rfl (execOp_index rfl (by rw [h113, h114]; exact run_index Tryz.underlying24 (by kernel_rfl) w1 bi oi _ _ i .i64 _ (by first | rfl | simp | omega) (hil)))
        ·intro A w1 hA hL hS he
         have h115 : A.eval (.tmp 115) = _ := he.1 rfl
         refine goOn_plain rfl ?_
         exact stepG_pure rfl rfl (execOp_field rfl (by rw [h115]; exact run_field37_0 _ _ _))
        ·intro A w1 hA hL hS he
         have hb := hL.below
         have hbw : Below w3.heap.size w3 w1 := hbr3.trans (hb.mono hbr3.size)
         have h116 : A.eval (.tmp 116) = _ := he.1 rfl
         refine goOn_plain rfl ?_
         exact stepG_pure rfl rfl (execOp_load rfl (by rw [h116]; exact run_loadAt_mid w1 _ _ _ _ _ (cells_ex (hCi.on hbw)) Tryz.underlying29 rfl (by rw [show (exC e).length = 4 from rfl]; kernel_rfl)))
        ·intro A w1 hA hL hS he
         have h112 : A.eval (.tmp 112) = _ := he.1 rfl
         have h117 : A.eval (.tmp 117) = _ := he.2.1 rfl
         refine goOn_plain rfl (stepG_pure rfl rfl ?_)
         generalize A.eval = ev at *
         go_simp
        ·exact fun A w1 hA hL hS he => goOn_plain rfl (stepG_mv rfl rfl (he.1 rfl))
        ·exact fun A w1 hA hL hS he => goOn_no (x := false) rfl rfl (he.1 rfl) rfl rfl
        ·exact fun A w1 hA hL hS he => goOn_no (x := false) rfl rfl (he.1 rfl) rfl rfl
        ·exact fun A w1 hA hL hS he => goOn_no (x := false) rfl rfl (he.2.2.1 rfl) rfl rfl
        ·exact fun A w1 hA hL hS he => goOn_no (x := false) rfl rfl (he.2.1 rfl) rfl rfl
        ·exact fun A w1 hA hL hS he => goOn_no (x := false) rfl rfl (he.2.1 rfl) rfl rfl
        ·exact fun A w1 hA hL hS he => goOn_no (x := false) rfl rfl (he.2.1 rfl) rfl rfl
        ·exact fun A w1 hA hL hS he => goOn_plain rfl (stepG_pk rfl (he.1 rfl) rfl rfl)
        intro W2 hL2
        simp only [TailL, FactL.eq, FactL.ret, List.length_cons, List.length_nil, List.drop_succ_cons, List.drop_zero]
        go_frame
        go_wp2
        go_meet
        case rel => exact ⟨by rw [hg1], hL2.below⟩
      case rest =>
       obtain ⟨rfl, hbc⟩ := hcut
       clear hex hg1
       obtain ⟨rc, B8, hr8⟩ := S8.out
       obtain ⟨rd, B9, hr9⟩ := S9.out
       replace B8 := B8.on hbc
       replace B9 := B9.on hbc
       replace hr8 := hr8.on hbc
       replace hr9 := hr9.on hbc
       replace hbr3 := hbr3.trans (hbc.mono hbr3.size)
       clear S8 S9 hbc
       cases g1
       ·have hs' : Hid (sumN (l.take (k + 1)) e = sumN (l.take k) e) := hst
        go_wp2
        go_roundw
        case measure => simp [intOf]; omega
        case rel => exact ⟨k + 1, by omega, by go_num, Lib.hid (by rw [hs'.out]; exact ⟨rc, B8, hr8⟩), Lib.hid ⟨rd, B9, hr9⟩, hbr3⟩
       ·have hs' : Hid (sumN (l.take (k + 1)) e = sumN (l.take k) e + u.2) := hst
        have k1 := hsr.out k e
        have k2 := hrs.out u (List.mem_of_getElem? hjk)
        have hl8 := hr8.len
        generalize hA : sumN (l.take k) e = S at *
        go_upto_region 18 with (fail)
        refine wp_region_L mixed (none) (0) (Okr.none) [.eq (.agg (rc).toArray), .eq (.slice (some ⟨bi, oi, none⟩) l.length cr), .eq (.int .i64 k), .eq (.pointer (some ⟨bi, oi + k * 8, none⟩)), .eq (.pointer (some ⟨bi, oi + k * 8 + 4, none⟩)), .eq (.agg (rk).toArray), .rat (by decide) ((S + u.2))] [127, 128, 129, 130, 131, 132, 133] rfl rfl rfl rfl ⟨?_, ?_, ?_, ?_, ?_, ?_, ?_, trivial⟩ ?_
        ·intro A w1 hA hL hS he
         have hb := hL.below
         have h8 : A.eval (.tmp 8) = .pointer (some ⟨x8, 0, none⟩) := hA 8 rfl
         refine goOn_plain rfl ?_
         exact stepG_pure rfl rfl (execOp_load rfl (by rw [h8]; exact run_loadAt_mid w1 _ _ _ _ _ ((B8.on hb).cells.range) Tryz.underlying34 rfl (by rw [hl8]; kernel_rfl)))
        ·exact fun A w1 hA hL hS he => goOn_plain rfl (stepG_mv rfl rfl (hA 4 rfl))
        ·exact fun A w1 hA hL hS he => goOn_plain rfl (stepG_mv rfl rfl (hA 10 rfl))
        ·intro A w1 hA hL hS he
         have h128 : A.eval (.tmp 128) = _ := he.1 rfl
         have h129 : A.eval (.tmp 129) = _ := he.2.1 rfl
         refine goOn_plain rfl ?_
         exact stepG_pure rfl rfl (execOp_index rfl (by rw [h128, h129]; exact run_index Tryz.underlying24 (by kernel_rfl) w1 bi oi _ _ k .i64 _ (by first | rfl | simp | omega) (hkl)))
        ·intro A w1 hA hL hS he
         have h130 : A.eval (.tmp 130) = _ := he.1 rfl
         refine goOn_plain rfl ?_
         exact stepG_pure rfl rfl (execOp_field rfl (by rw [h130]; exact run_field37_1 _ _ _))
        ·intro A w1 hA hL hS he
         have hb := hL.below
         have hbw : Below w3.heap.size w3 w1 := hbr3.trans (hb.mono hbr3.size)
         have h131 : A.eval (.tmp 131) = _ := he.1 rfl
         refine goOn_plain rfl ?_
         exact stepG_pure rfl rfl (execOp_load rfl (by rw [h131]; exact run_loadAt_mid w1 _ _ _ _ _ (cells_rat (hCk.on hbw)) Tryz.underlying34 rfl (by rw [hlk]; kernel_rfl)))
        ·intro A w1 hA hL hS he
         have hb := hS rfl
         have hbw : Below w3.heap.size w3 w1 := hbr3.trans (hb.mono hbr3.size)
         have h127 : A.eval (.tmp 127) = _ := he.1 rfl
         have h132 : A.eval (.tmp 132) = _ := he.2.1 rfl
         have hf0 : A.eval (.func 20) = .func (.func 20) #[] #[] := rfl
         refine goOn_plain rfl ?_
         refine stepG_call (f := 20) (args := #[.agg (rc).toArray, .agg (rk).toArray]) rfl rfl ?_ ?_
         ·generalize A.eval = ev at *
          go_simp
         ·refine (add2_any _ _ _ _ _ (hr8.on hb).rat (hrk.on hbw).rat k1 k2).mono ?_
          rintro e w' ⟨v, rfl, hi, hb'⟩
          exact ⟨_, rfl, hb', hi⟩
        intro W6 hL6
        have hb6 := hL6.below
        simp only [TailL, FactL.eq, FactL.rat, FactL.of, List.length_cons, List.length_nil, List.drop_succ_cons, List.drop_zero]
        rintro v133 h133
        obtain ⟨n5, a5, k5, e5, n6, a6, k6, e6, rfl⟩ := rat_agg h133
        go_frame
        replace B8 := B8.on hb6
        replace B9 := B9.on hb6
        replace hr9 := hr9.on hb6
        replace hbr3 := hbr3.trans (hb6.mono hbr3.size)
        clear hL6 hb6 hr8
        go_upto_region 16 with (refine wpList_store_blk rfl _ (.tmp 8) (.tmp 133) rfl _ _ _ _ rfl rfl B8 (by simp [hl8]) sizeRat isRat_ones ?_; intro W7 R7 gr7)
        have hl7 : Lr (some x8) 34 W6 W7 := ⟨gr7, fun k hk => by cases hk; exact ⟨B8.noOther, R7.noOther⟩⟩
        have B8' : Blk W7 x8 34 [.bool n5, .slice a5 k5 e5, .bool n6, .slice a6 k6 e6] := by
         have e1 : rc.drop 4 = [] := List.drop_of_length_le (by omega)
         simpa [e1] using R7
        have B9' := B9.lr hl7 (by simp)
        have hr8' := (h133.lr hl7 (by decide)).cellsC (cs := [.bool n5, .slice a5 k5 e5, .bool n6, .slice a6 k6 e6])
        have hr9' := hr9.lr hl7 (by decide)
        have hbr7 := hbr3.trans (hl7.belowAt hbr3.size (fun k hk => by cases hk; exact hx8))
        clear B8 B9 R7 gr7 hl7 hr9 hbr3 h133 hA
        go_wp2
        go_roundw
        case measure => simp [intOf]; omega
        case rel => exact ⟨k + 1, by omega, by go_num, Lib.hid (by rw [hs'.out]; exact ⟨_, B8', hr8'⟩), Lib.hid ⟨rd, B9', hr9'⟩, hbr7⟩
     ·obtain rfl : k = l.length := by omega
      rw [List.take_of_length_le (Nat.le_refl _)] at S8
      go_wp2
      go_loopw [11] (fun i wr => ∃ k : Nat, k ≤ (canon l).length ∧ i = .int .i64 k ∧ Hid (∃ rc : List Value, Blk wr x8 34 rc ∧ IsRatC wr rc (sumN l e)) ∧ Hid (∃ rc : List Value, Blk wr (x8 + 1) 34 rc ∧ IsRatC wr rc (cf ((canon l).take k) e)) ∧ Below w3.heap.size w3 wr) (fun i _ => (canon l).length - (intOf i).toNat)
      case atStart => exact ⟨0, by omega, rfl, S8, S9, hbr3⟩
      case round =>
       clear S8 S9 hbr3
       obtain ⟨k, hk, rfl, S8, S9, hbr3⟩ := hrel
       obtain ⟨rc, B8, hr8⟩ := S8.out
       obtain ⟨rd, B9, hr9⟩ := S9.out
       by_cases hkl : k < (canon l).length
       ·have hkl' : (k : Int) < ((canon l).length : Int) := by omega
        have hjk : (canon l)[k]? = some (canon l)[k] := List.getElem?_eq_getElem hkl
        generalize (canon l)[k] = u at hjk
        obtain ⟨bk, ok, rk, rfl, hrk, hCk⟩ := cell_term hp hjk
        have hlk := hrk.len
        have hl9 := hr9.len
        have hst := cf_snocV PC.v hjk e
        have hex := fun W' => eq_ex u.1 e W'
        replace hraw := Lib.hid hraw
        by_cases hue : u.1 = e
        ·have hd : decide (u.1 = e) = true := by simpa using hue
         rw [hd] at hex
         rw [if_pos hue] at hst
         replace hst := Lib.hid hst
         clear hd hue
         go_upto_region 22 with (fail)
         refine wp_region_L mixed (none) (0) (Okr.none) [.eq (.slice (some ⟨bk, ok, none⟩) (canon l).length cp), .eq (.int .i64 k), .eq (.pointer (some ⟨bk, ok + k * 8, none⟩)), .eq (.pointer (some ⟨bk, ok + k * 8, none⟩)), .eq (.agg (exC u.1).toArray), .eq (.slice (some ⟨bi, oi, none⟩) l.length cr), .eq (.int .i64 i), .eq (.pointer (some ⟨bi, oi + i * 8, none⟩)), .eq (.pointer (some ⟨bi, oi + i * 8, none⟩)), .eq (.agg (exC e).toArray), .eq (.bool true)] [140, 141, 142, 143, 144, 145, 146, 147, 148, 149, 150] rfl rfl rfl rfl ⟨?_, ?_, ?_, ?_, ?_, ?_, ?_, ?_, ?_, ?_, ?_, trivial⟩ ?_
         ·exact fun A w1 hA hL hS he => goOn_plain rfl (stepG_mv rfl rfl (hA 6 rfl))
         ·exact fun A w1 hA hL hS he => goOn_plain rfl (stepG_mv rfl rfl (hA 11 rfl))
         ·intro A w1 hA hL hS he
          have h140 : A.eval (.tmp 140) = _ := he.1 rfl
          have h141 : A.eval (.tmp 141) = _ := he.2.1 rfl
          refine goOn_plain rfl ?_
          exact stepG_pure rfl rfl (execOp_index rfl (by rw [h140, h141]; exact run_index Tryz.underlying38 (by kernel_rfl) w1 bk ok _ _ k .i64 _ (by first | rfl | simp | omega) (hkl)))
         ·intro A w1 hA hL hS he
          have h142 : A.eval (.tmp 142) = _ := he.1 rfl
          refine goOn_plain rfl ?_
          exact stepG_pure rfl rfl (execOp_field rfl (by rw [h142]; exact run_field37_0 _ _ _))
         ·intro A w1 hA hL hS he
          have hb := hL.below
          have hbw : Below w3.heap.size w3 w1 := hbr3.trans (hb.mono hbr3.size)
          have h143 : A.eval (.tmp 143) = _ := he.1 rfl
          refine goOn_plain rfl ?_
          exact stepG_pure rfl rfl (execOp_load rfl (by rw [h143]; exact run_loadAt_mid w1 _ _ _ _ _ (cells_ex (hCk.on hbw)) Tryz.underlying29 rfl (by rw [show (exC u.1).length = 4 from rfl]; kernel_rfl)))
         ·exact fun A w1 hA hL hS he => goOn_plain rfl (stepG_mv rfl rfl (hA 4 rfl))
         ·exact fun A w1 hA hL hS he => goOn_plain rfl (stepG_mv rfl rfl (hA 7 rfl))
         ·intro A w1 hA hL hS he
          have h145 : A.eval (.tmp 145) = _ := he.1 rfl
          have h146 : A.eval (.tmp 146) = _ := he.2.1 rfl
          refine goOn_plain rfl ?_
          exact stepG_pure rfl rfl (execOp_index rfl (by rw [h145, h146]; exact run_index Tryz.underlying24 (by kernel_rfl) w1 bi oi _ _ i .i64 _ (by first | rfl | simp | omega) (hil)))
         ·intro A w1 hA hL hS he
          have h147 : A.eval (.tmp 147) = _ := he.1 rfl
          refine goOn_plain rfl ?_
          exact stepG_pure rfl rfl (execOp_field rfl (by rw [h147]; exact run_field37_0 _ _ _))
         ·intro A w1 hA hL hS he
          have hb := hL.below
          have hbw : Below w3.heap.size w3 w1 := hbr3.trans (hb.mono hbr3.size)
          have h148 : A.eval (.tmp 148) = _ := he.1 rfl
          refine goOn_plain rfl ?_
          exact stepG_pure rfl rfl (execOp_load rfl (by rw [h148]; exact run_loadAt_mid w1 _ _ _ _ _ (cells_ex (hCi.on hbw)) Tryz.underlying29 rfl (by rw [show (exC e).length = 4 from rfl]; kernel_rfl)))
         ·intro A w1 hA hL hS he
          have h144 : A.eval (.tmp 144) = _ := he.1 rfl
          have h149 : A.eval (.tmp 149) = _ := he.2.1 rfl
          refine goOn_plain rfl (stepG_pure rfl rfl ?_)
          generalize A.eval = ev at *
          go_simp
         intro W2 hL2
         have hb2 := hL2.below
         simp only [TailL, FactL.eq, FactL.ret, List.length_cons, List.length_nil, List.drop_succ_cons, List.drop_zero]
         go_frame
         clear hex
         replace B8 := B8.on hb2
         replace B9 := B9.on hb2
         replace hr8 := hr8.on hb2
         replace hbr3 := hbr3.trans (hb2.mono hbr3.size)
         clear S8 S9 hL2 hb2 hr9
         go_upto_region 23 with (fail)
         refine wp_region_S trivial (none) (0) (Okr.none) [.eq (.slice (some ⟨bk, ok, none⟩) (canon l).length cp), .eq (.int .i64 k), .eq (.pointer (some ⟨bk, ok + k * 8, none⟩)), .eq (.pointer (some ⟨bk, ok + k * 8 + 4, none⟩)), .eq (.agg (rk).toArray)] [151, 152, 153, 154, 155] rfl rfl rfl rfl ⟨?_, ?_, ?_, ?_, ?_, trivial⟩ ?_
         ·exact fun A w1 hA hL hS he => goOn_plain rfl (stepG_mv rfl rfl (hA 6 rfl))
         ·exact fun A w1 hA hL hS he => goOn_plain rfl (stepG_mv rfl rfl (hA 11 rfl))
         ·intro A w1 hA hL hS he
          have h151 : A.eval (.tmp 151) = _ := he.1 rfl
          have h152 : A.eval (.tmp 152) = _ := he.2.1 rfl
          refine goOn_plain rfl ?_
          exact stepG_pure rfl rfl (execOp_index rfl (by rw [h151, h152]; exact run_index Tryz.underlying38 (by kernel_rfl) w1 bk ok _ _ k .i64 _ (by first | rfl | simp | omega) (hkl)))
         ·intro A w1 hA hL hS he
          have h153 : A.eval (.tmp 153) = _ := he.1 rfl
          refine goOn_plain rfl ?_
          exact stepG_pure rfl rfl (execOp_field rfl (by rw [h153]; exact run_field37_1 _ _ _))
         ·intro A w1 hA hL hS he
          have hb := hL.below
          have hbw : Below w3.heap.size w3 w1 := hbr3.trans (hb.mono hbr3.size)
          have h154 : A.eval (.tmp 154) = _ := he.1 rfl
          refine goOn_plain rfl ?_
          exact stepG_pure rfl rfl (execOp_load rfl (by rw [h154]; exact run_loadAt_mid w1 _ _ _ _ _ (cells_rat (hCk.on hbw)) Tryz.underlying34 rfl (by rw [hlk]; kernel_rfl)))
         intro W6 hL6
         have hb6 := hL6.below
         simp only [TailL, FactL.eq, FactL.ret, List.length_cons, List.length_nil, List.drop_succ_cons, List.drop_zero]
         go_frame
         replace B8 := B8.on hb6
         replace B9 := B9.on hb6
         replace hr8 := hr8.on hb6
         replace hbr3 := hbr3.trans (hb6.mono hbr3.size)
         have hrk6 := hrk.on hbr3
         have hone : rk.toArray.all (·.oneCell') = true := by
          rw [Array.all_eq_true_iff_forall_mem]
          intro v hv
          exact hrk.one v (by simpa using hv)
         clear hL6 hb6
         go_upto_region 21 with (refine wpList_store_blk rfl _ (.tmp 9) (.tmp 155) rfl _ _ _ _ rfl rfl B9 (by simp [hl9, hlk]) (by simp only [List.size_toArray, hlk]; exact sizeRat) hone ?_; intro W7 R7 gr7)
         have hl7 : Lr (some (x8 + 1)) 34 W6 W7 := ⟨gr7, fun k hk => by cases hk; exact ⟨B9.noOther, R7.noOther⟩⟩
         have B9' : Blk W7 (x8 + 1) 34 rk := by
          have e1 : rd.drop rk.length = [] := List.drop_of_length_le (by omega)
          simpa [e1] using R7
         have B8' := B8.lr hl7 (by simp)
         have hr8' := hr8.lr hl7 (by decide)
         have hrk' := hrk6.lr hl7 (by decide)
         have hbr7 := hbr3.trans (hl7.belowAt hbr3.size (fun k hk => by cases hk; omega))
         clear B8 B9 R7 gr7 hl7 hr8 hrk6 hbr3 hone
         replace hraw := hraw.out
         go_wp2
         go_roundw
         case measure => simp [intOf]; omega
         case rel => exact ⟨k + 1, by omega, by go_num, Lib.hid ⟨rc, B8', hr8'⟩, Lib.hid (by rw [hst.out]; exact ⟨rk, B9', hrk'⟩), hbr7⟩
        ·have hd : decide (u.1 = e) = false := by simpa using hue
         rw [hd] at hex
         rw [if_neg hue] at hst
         replace hst := Lib.hid hst
         clear hd hue
         go_upto_region 22 with (fail)
         refine wp_region_L mixed (none) (0) (Okr.none) [.eq (.slice (some ⟨bk, ok, none⟩) (canon l).length cp), .eq (.int .i64 k), .eq (.pointer (some ⟨bk, ok + k * 8, none⟩)), .eq (.pointer (some ⟨bk, ok + k * 8, none⟩)), .eq (.agg (exC u.1).toArray), .eq (.slice (some ⟨bi, oi, none⟩) l.length cr), .eq (.int .i64 i), .eq (.pointer (some ⟨bi, oi + i * 8, none⟩)), .eq (.pointer (some ⟨bi, oi + i * 8, none⟩)), .eq (.agg (exC e).toArray), .eq (.bool false)] [140, 141, 142, 143, 144, 145, 146, 147, 148, 149, 150] rfl rfl rfl rfl ⟨?_, ?_, ?_, ?_, ?_, ?_, ?_, ?_, ?_, ?_, ?_, trivial⟩ ?_
         ·exact fun A w1 hA hL hS he => goOn_plain rfl (stepG_mv rfl rfl (hA 6 rfl))
         ·exact fun A w1 hA hL hS he => goOn_plain rfl (stepG_mv rfl rfl (hA 11 rfl))
         ·intro A w1 hA hL hS he
          have h140 : A.eval (.tmp 140) = _ := he.1 rfl
          have h141 : A.eval (.tmp 141) = _ := he.2.1 rfl
          refine goOn_plain rfl ?_
          exact stepG_pure rfl rfl (execOp_index rfl (by rw [h140, h141]; exact run_index Tryz.underlying38 (by kernel_rfl) w1 bk ok _ _ k .i64 _ (by first | rfl | simp | omega) (hkl)))
         ·intro A w1 hA hL hS he
          have h142 : A.eval (.tmp 142) = _ := he.1 rfl
          refine goOn_plain rfl ?_
          exact stepG_pure rfl rfl (execOp_field rfl (by rw [h142]; exact run_field37_0 _ _ _))
         ·intro A w1 hA hL hS he
          have hb := hL.below
          have hbw : Below w3.heap.size w3 w1 := hbr3.trans (hb.mono hbr3.size)
          have h143 : A.eval (.tmp 143) = _ := he.1 rfl
          refine goOn_plain rfl ?_
          exact stepG_pure rfl rfl (execOp_load rfl (by rw [h143]; exact run_loadAt_mid w1 _ _ _ _ _ (cells_ex (hCk.on hbw)) Tryz.underlying29 rfl (by rw [show (exC u.1).length = 4 from rfl]; kernel_rfl)))
         ·exact fun A w1 hA hL hS he => goOn_plain rfl (stepG_mv rfl rfl (hA 4 rfl))
         ·exact fun A w1 hA hL hS he => goOn_plain rfl (stepG_mv rfl rfl (hA 7 rfl))
         ·intro A w1 hA hL hS he
          have h145 : A.eval (.tmp 145) = _ := he.1 rfl
          have h146 : A.eval (.tmp 146) = _ := he.2.1 rfl
          refine goOn_plain rfl ?_
          exact stepG_pure rfl rfl (execOp_index rfl (by rw [h145, h146]; exact run_index Tryz.underlying24 (by kernel_rfl) w1 bi oi _ _ i .i64 _ (by first | rfl | simp | omega) (hil)))
         ·intro A w1 hA hL hS he
          have h147 : A.eval (.tmp 147) = _ := he.1 rfl
          refine goOn_plain rfl ?_
          exact stepG_pure rfl rfl (execOp_field rfl (by rw [h147]; exact run_field37_0 _ _ _))
         ·intro A w1 hA hL hS he
          have hb := hL.below
          have hbw : Below w3.heap.size w3 w1 := hbr3.trans (hb.mono hbr3.size)
          have h148 : A.eval (.tmp 148) = _ := he.1 rfl
          refine goOn_plain rfl ?_
          exact stepG_pure rfl rfl (execOp_load rfl (by rw [h148]; exact run_loadAt_mid w1 _ _ _ _ _ (cells_ex (hCi.on hbw)) Tryz.underlying29 rfl (by rw [show (exC e).length = 4 from rfl]; kernel_rfl)))
         ·intro A w1 hA hL hS he
          have h144 : A.eval (.tmp 144) = _ := he.1 rfl
          have h149 : A.eval (.tmp 149) = _ := he.2.1 rfl
          refine goOn_plain rfl (stepG_pure rfl rfl ?_)
          generalize A.eval = ev at *
          go_simp
         intro W2 hL2
         have hb2 := hL2.below
         simp only [TailL, FactL.eq, FactL.ret, List.length_cons, List.length_nil, List.drop_succ_cons, List.drop_zero]
         go_frame
         clear hex S8 S9
         replace hbr3 := hbr3.trans (hb2.mono hbr3.size)
         go_wp2
         go_roundw
         case measure => simp [intOf]; omega
         case rel => exact ⟨k + 1, by omega, by go_num, Lib.hid ⟨rc, B8.on hb2, hr8.on hb2⟩, Lib.hid (by rw [hst.out]; exact ⟨rd, B9.on hb2, hr9.on hb2⟩), hbr3⟩
       ·obtain rfl : k = (canon l).length := by omega
        rw [List.take_of_length_le (Nat.le_refl _)] at hr9
        have he := hcf.out e
        have hRs : Rs (sumN l e) := by have := hsr.out l.length e; rwa [List.take_of_length_le (Nat.le_refl _)] at this
        rw [show (if e.nat = true then cf l e else 0) = sumN l e from rfl] at he
        rw [← he] at hr9
        have hl8 := hr8.len
        have hl9 := hr9.len
        have hsm := fun W (hb : Below wr.heap.size wr W) => (decide_eq_true (rfl : sumN l e = sumN l e)) ▸ same2_any _ _ _ _ _ (hr8.on hb).rat (hr9.on hb).rat hRs.rk hRs.rk
        generalize sumN l e = S at *
        replace hsm := Lib.hid hsm
        replace he := Lib.hid he
        clear S8 S9 hrs hsr hcf
        go_upto_region 24 with (fail)
        refine wp_region_S trivial (none) (0) (Okr.none) [.eq (.agg (rc).toArray), .eq (.agg (rd).toArray), .ret (.bool true), .eq (.bool false)] [156, 157, 158, 159] rfl rfl rfl rfl ⟨?_, ?_, ?_, ?_, trivial⟩ ?_
        ·intro A w1 hA hL hS he
         have hb := hL.below
         have h8 : A.eval (.tmp 8) = .pointer (some ⟨x8, 0, none⟩) := hA 8 rfl
         refine goOn_plain rfl ?_
         exact stepG_pure rfl rfl (execOp_load rfl (by rw [h8]; exact run_loadAt_mid w1 _ _ _ _ _ ((B8.on hb).cells.range) Tryz.underlying34 rfl (by rw [hl8]; kernel_rfl)))
        ·intro A w1 hA hL hS he
         have hb := hL.below
         have h9 : A.eval (.tmp 9) = .pointer (some ⟨x8 + 1, 0, none⟩) := hA 9 rfl
         refine goOn_plain rfl ?_
         exact stepG_pure rfl rfl (execOp_load rfl (by rw [h9]; exact run_loadAt_mid w1 _ _ _ _ _ ((B9.on hb).cells.range) Tryz.underlying34 rfl (by rw [hl9]; kernel_rfl)))
        ·intro A w1 hA hL hS he
         have hb := hS rfl
         have h156 : A.eval (.tmp 156) = _ := he.1 rfl
         have h157 : A.eval (.tmp 157) = _ := he.2.1 rfl
         have hf0 : A.eval (.func 21) = .func (.func 21) #[] #[] := rfl
         refine goOn_plain rfl ?_
         refine stepG_call (f := 21) (args := #[.agg (rc).toArray, .agg (rd).toArray]) rfl rfl ?_ ?_
         ·generalize A.eval = ev at *
          go_simp
         ·refine (hsm.out _ hb).mono ?_
          rintro e w' ⟨rfl, hb'⟩
          exact ⟨_, rfl, hb', rfl⟩
        ·intro A w1 hA hL hS he
         have h158 : A.eval (.tmp 158) = _ := he.1 rfl
         refine goOn_plain rfl (stepG_pure rfl rfl ?_)
         generalize A.eval = ev at *
         go_simp
        intro W2 hL2
        simp only [TailL, FactL.eq, FactL.ret, List.length_cons, List.length_nil, List.drop_succ_cons, List.drop_zero]
        go_frame
        replace hbr3 := hbr3.trans (hL2.below.mono hbr3.size)
        clear hL2 B8 B9 hr8 hr9 hsm
        go_wp2
        go_roundw
        case measure => simp [intOf]; omega
        case rel => exact ⟨i + 1, by omega, by go_num, hbr3⟩
   ·obtain rfl : i = l.length := by omega
    have hle : ((canon l).length : Int) ≤ (l.length : Int) := by omega
    generalize (canon l).length = n1 at *
    go_wp2
    go_ret
    exact ⟨rfl, hbr.trans (hb3.mono hbr.size)⟩
end Go.Proofs.YtplfdeohokkebaaGreat
