/- mpoly.Equal; the reference's Made of rational numbers. -/
import Derived.Test.YtplfdeohokkebaaGreatB37
set_option linter.unusedVariables false
set_option linter.unusedSimpArgs false
namespace Go.Proofs.YtplfdeohokkebaaGreat
open Go.RowKit Q Go.WideMaps Go.Maps
theorem cmp_zero {p q : Rat} : (cmpZ (p.num * (q.den : Int)) (q.num * (p.den : Int)) == 0) = decide (p = q) := by
  by_cases h : p = q
  · rw [cmpZ_eq (Rat.eq_iff_mul_eq_mul.1 h), decide_eq_true h]; rfl
  · have hne : p.num * (q.den : Int) ≠ q.num * (p.den : Int) := fun e => h (Rat.eq_iff_mul_eq_mul.2 e)
    rw [decide_eq_false h]
    rcases Int.lt_or_lt_of_ne hne with h1 | h1
    · rw [cmpZ_lt h1]; rfl
    · rw [cmpZ_gt h1]; rfl
set_option maxHeartbeats 4000000 in
set_option maxRecDepth 100000 in
theorem eqTerm_any (c1 c2 : List Value) (s t : Trm) (w : World) (h1 : IsTerm w c1 s) (h2 : IsTerm w c2 t) (k1 : Rk s.2) (k2 : Rk t.2) :
    Calls Tryz.prog 82 #[.agg c1.toArray, .agg c2.toArray] w (Ret w (.bool (decide (s = t)))) := by
  obtain ⟨r1, rfl, hr1⟩ := h1
  obtain ⟨r2, rfl, hr2⟩ := h2
  have l1 := hr1.len
  have l2 := hr2.len
  obtain ⟨R, hR⟩ : ∃ R, R = decide (s = t) := ⟨_, rfl⟩
  rw [← hR]
  replace hR := Lib.hid hR
  have hcm := fun W (hb : Below w.heap.size w W) => rcmp_any _ _ _ _ W (hr1.on hb).rat (hr2.on hb).rat k1 k2
  have hcz : (cmpZ (s.2.num * (t.2.den : Int)) (t.2.num * (s.2.den : Int)) == 0) = decide (s.2 = t.2) := cmp_zero
  have hex := fun W' => eq_ex s.1 t.1 W'
  generalize cmpZ (s.2.num * (t.2.den : Int)) (t.2.num * (s.2.den : Int)) = z at *
  replace hcm := Lib.hid hcm
  go_enter Tryz.func82, Tryz.ntmps82
  go_upto_region 1 with (fail)
  refine abs2 fun W hb0 B1 B2 hsz => ?_
  by_cases he : s.1 = t.1
  · have hd : decide (s.1 = t.1) = true := by simpa using he
    rw [hd] at hex
    obtain ⟨g, hg⟩ : ∃ g : Bool, g = decide (s.2 = t.2) := ⟨_, rfl⟩
    rw [← hg] at hcz
    have hRg : Hid (R = g) := Lib.hid (by
      rw [hR.out, hg]
      by_cases hc : s.2 = t.2
      · rw [decide_eq_true hc, decide_eq_true (Prod.ext he hc)]
      · rw [decide_eq_false hc, decide_eq_false (fun h => hc (by rw [h]))])
    clear hg hd he
    refine wp_region_S trivial (none) (0) (Okr.none) [.eq (.pointer (some ⟨w.heap.size, 0, none⟩)), .eq (.agg (exC s.1).toArray), .eq (.pointer (some ⟨w.heap.size + 1, 0, none⟩)), .eq (.agg (exC t.1).toArray), .eq (.bool true), .eq (.bool true), .eq (.pointer (some ⟨w.heap.size, 0 + 4, none⟩)), .eq (.agg (r1).toArray), .eq (.pointer (some ⟨w.heap.size + 1, 0 + 4, none⟩)), .eq (.agg (r2).toArray), .ret (.int .i64 z), .eq (.bool g), .eq (.bool g)] [5, 6, 7, 8, 9, 10, 11, 12, 13, 14, 15, 16, 17] rfl rfl rfl rfl ⟨?_, ?_, ?_, ?_, ?_, ?_, ?_, ?_, ?_, ?_, ?_, ?_, ?_, trivial⟩ ?_
    · intro A w1 hA hL hS he
      have h2 : A.eval (.tmp 2) = .pointer (some ⟨w.heap.size, 0, none⟩) := hA 2 rfl
      refine goOn_plain rfl ?_
      exact stepG_pure rfl rfl (execOp_field rfl (by rw [h2]; exact run_field37_0 _ _ _))
    · intro A w1 hA hL hS he
      have hb := hL.below
      have h5 : A.eval (.tmp 5) = _ := he.1 rfl
      refine goOn_plain rfl ?_
      exact stepG_pure rfl rfl (execOp_load rfl (by rw [h5]; exact run_loadAt_mid w1 _ _ _ _ _ (blk_ex (B1.on hb)) Tryz.underlying29 rfl (by rw [show (exC s.1).length = 4 from rfl]; kernel_rfl)))
    · intro A w1 hA hL hS he
      have h3 : A.eval (.tmp 3) = .pointer (some ⟨w.heap.size + 1, 0, none⟩) := hA 3 rfl
      refine goOn_plain rfl ?_
      exact stepG_pure rfl rfl (execOp_field rfl (by rw [h3]; exact run_field37_0 _ _ _))
    · intro A w1 hA hL hS he
      have hb := hL.below
      have h7 : A.eval (.tmp 7) = _ := he.1 rfl
      refine goOn_plain rfl ?_
      exact stepG_pure rfl rfl (execOp_load rfl (by rw [h7]; exact run_loadAt_mid w1 _ _ _ _ _ (blk_ex (B2.on hb)) Tryz.underlying29 rfl (by rw [show (exC t.1).length = 4 from rfl]; kernel_rfl)))
    · intro A w1 hA hL hS he
      have h6 : A.eval (.tmp 6) = _ := he.1 rfl
      have h8 : A.eval (.tmp 8) = _ := he.2.1 rfl
      refine goOn_plain rfl (stepG_pure rfl rfl ?_)
      generalize A.eval = ev at *
      go_simp
    · exact fun A w1 hA hL hS he => goOn_plain rfl (stepG_mv rfl rfl (he.1 rfl))
    · intro A w1 hA hL hS he
      have h10 : A.eval (.tmp 10) = _ := he.1 rfl
      have h2 : A.eval (.tmp 2) = .pointer (some ⟨w.heap.size, 0, none⟩) := hA 2 rfl
      refine goOn_yes rfl rfl h10 ?_
      exact stepG_pure rfl rfl (execOp_field rfl (by rw [h2]; exact run_field37_1 _ _ _))
    · intro A w1 hA hL hS he
      have hb := hL.below
      have h10 : A.eval (.tmp 10) = _ := he.2.1 rfl
      have h11 : A.eval (.tmp 11) = _ := he.1 rfl
      refine goOn_yes rfl rfl h10 ?_
      exact stepG_pure rfl rfl (execOp_load rfl (by rw [h11]; exact run_loadAt_mid w1 _ _ _ _ _ (blk_rat (B1.on hb)) Tryz.underlying34 rfl (by rw [l1]; kernel_rfl)))
    · intro A w1 hA hL hS he
      have h10 : A.eval (.tmp 10) = _ := he.1 rfl
      have h3 : A.eval (.tmp 3) = .pointer (some ⟨w.heap.size + 1, 0, none⟩) := hA 3 rfl
      refine goOn_yes rfl rfl h10 ?_
      exact stepG_pure rfl rfl (execOp_field rfl (by rw [h3]; exact run_field37_1 _ _ _))
    · intro A w1 hA hL hS he
      have hb := hL.below
      have h10 : A.eval (.tmp 10) = _ := he.2.1 rfl
      have h13 : A.eval (.tmp 13) = _ := he.1 rfl
      refine goOn_yes rfl rfl h10 ?_
      exact stepG_pure rfl rfl (execOp_load rfl (by rw [h13]; exact run_loadAt_mid w1 _ _ _ _ _ (blk_rat (B2.on hb)) Tryz.underlying34 rfl (by rw [l2]; kernel_rfl)))
    · intro A w1 hA hL hS he
      have hb := hS rfl
      have hbw : Below w.heap.size w w1 := hb0.trans (hb.mono hb0.size)
      have h10 : A.eval (.tmp 10) = _ := he.2.2.1 rfl
      have h12 : A.eval (.tmp 12) = _ := he.1 rfl
      have h14 : A.eval (.tmp 14) = _ := he.2.1 rfl
      have hf0 : A.eval (.func 83) = .func (.func 83) #[] #[] := rfl
      refine goOn_yes rfl rfl h10 ?_
      refine stepG_call (f := 83) (args := #[.agg (r1).toArray, .agg (r2).toArray]) rfl rfl ?_ ?_
      · generalize A.eval = ev at *
        go_simp
      · refine (hcm.out _ hbw).mono ?_
        rintro e w' ⟨rfl, hb'⟩
        exact ⟨_, rfl, hb', rfl⟩
    · intro A w1 hA hL hS he
      have h10 : A.eval (.tmp 10) = _ := he.2.1 rfl
      have h15 : A.eval (.tmp 15) = _ := he.1 rfl
      have hc0 : A.eval (.const (.int .i64 0)) = .int .i64 0 := rfl
      refine goOn_yes rfl rfl h10 ?_
      refine stepG_pure rfl rfl ?_
      generalize A.eval = ev at *
      go_simp
    · exact fun A w1 hA hL hS he => goOn_plain rfl (stepG_pk rfl (he.1 rfl) rfl (he.2.1 rfl))
    intro W2 hL2
    simp only [TailL, FactL.eq, FactL.ret, List.length_cons, List.length_nil, List.drop_succ_cons, List.drop_zero]
    go_frame
    clear hex hcz
    go_wp2
    go_ret
    exact ⟨by rw [hRg.out] <;> rfl, hb0.trans (hL2.below.mono hb0.size)⟩
  · have hd : decide (s.1 = t.1) = false := by simpa using he
    rw [hd] at hex
    have hRg : Hid (R = false) := Lib.hid (by rw [hR.out, decide_eq_false_iff_not]; intro h; exact he (by rw [h]))
    clear hd he hcz
    refine wp_region_S trivial (none) (0) (Okr.none) [.eq (.pointer (some ⟨w.heap.size, 0, none⟩)), .eq (.agg (exC s.1).toArray), .eq (.pointer (some ⟨w.heap.size + 1, 0, none⟩)), .eq (.agg (exC t.1).toArray), .eq (.bool false), .eq (.bool false), .eq undef, .eq undef, .eq undef, .eq undef, .eq undef, .eq undef, .eq (.bool false)] [5, 6, 7, 8, 9, 10, 11, 12, 13, 14, 15, 16, 17] rfl rfl rfl rfl ⟨?_, ?_, ?_, ?_, ?_, ?_, ?_, ?_, ?_, ?_, ?_, ?_, ?_, trivial⟩ ?_
    · intro A w1 hA hL hS he
      have h2 : A.eval (.tmp 2) = .pointer (some ⟨w.heap.size, 0, none⟩) := hA 2 rfl
      refine goOn_plain rfl ?_
      exact stepG_pure rfl rfl (execOp_field rfl (by rw [h2]; exact run_field37_0 _ _ _))
    · intro A w1 hA hL hS he
      have hb := hL.below
      have h5 : A.eval (.tmp 5) = _ := he.1 rfl
      refine goOn_plain rfl ?_
      exact stepG_pure rfl rfl (execOp_load rfl (by rw [h5]; exact run_loadAt_mid w1 _ _ _ _ _ (blk_ex (B1.on hb)) Tryz.underlying29 rfl (by rw [show (exC s.1).length = 4 from rfl]; kernel_rfl)))
    · intro A w1 hA hL hS he
      have h3 : A.eval (.tmp 3) = .pointer (some ⟨w.heap.size + 1, 0, none⟩) := hA 3 rfl
      refine goOn_plain rfl ?_
      exact stepG_pure rfl rfl (execOp_field rfl (by rw [h3]; exact run_field37_0 _ _ _))
    · intro A w1 hA hL hS he
      have hb := hL.below
      have h7 : A.eval (.tmp 7) = _ := he.1 rfl
      refine goOn_plain rfl ?_
      exact stepG_pure rfl rfl (execOp_load rfl (by rw [h7]; exact run_loadAt_mid w1 _ _ _ _ _ (blk_ex (B2.on hb)) Tryz.underlying29 rfl (by rw [show (exC t.1).length = 4 from rfl]; kernel_rfl)))
    · intro A w1 hA hL hS he
      have h6 : A.eval (.tmp 6) = _ := he.1 rfl
      have h8 : A.eval (.tmp 8) = _ := he.2.1 rfl
      refine goOn_plain rfl (stepG_pure rfl rfl ?_)
      generalize A.eval = ev at *
      go_simp
    · exact fun A w1 hA hL hS he => goOn_plain rfl (stepG_mv rfl rfl (he.1 rfl))
    · exact fun A w1 hA hL hS he => goOn_no (x := false) rfl rfl (he.1 rfl) rfl rfl
    · exact fun A w1 hA hL hS he => goOn_no (x := false) rfl rfl (he.2.1 rfl) rfl rfl
    · exact fun A w1 hA hL hS he => goOn_no (x := false) rfl rfl (he.1 rfl) rfl rfl
    · exact fun A w1 hA hL hS he => goOn_no (x := false) rfl rfl (he.2.1 rfl) rfl rfl
    · exact fun A w1 hA hL hS he => goOn_no (x := false) rfl rfl (he.2.2.1 rfl) rfl rfl
    · exact fun A w1 hA hL hS he => goOn_no (x := false) rfl rfl (he.2.1 rfl) rfl rfl
    · exact fun A w1 hA hL hS he => goOn_plain rfl (stepG_pk rfl (he.1 rfl) rfl rfl)
    intro W2 hL2
    simp only [TailL, FactL.eq, FactL.ret, List.length_cons, List.length_nil, List.drop_succ_cons, List.drop_zero]
    go_frame
    clear hex
    go_wp2
    go_ret
    exact ⟨by rw [hRg.out] <;> rfl, hb0.trans (hL2.below.mono hb0.size)⟩
end Go.Proofs.YtplfdeohokkebaaGreat
