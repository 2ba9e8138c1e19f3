/- The reference's Div of rational numbers. -/
import Derived.Test.YtplfdeohokkebaaGreatC37
set_option linter.unusedVariables false
set_option linter.unusedSimpArgs false
namespace Go.Proofs.YtplfdeohokkebaaGreat
open Go.RowKit Q Go.WideMaps Go.Maps
set_option maxHeartbeats 2000000 in
set_option maxRecDepth 100000 in
theorem div2_any (v1 v2 : Value) (p q : Rat) (w : World) (h1 : IsRat w v1 p) (h2 : IsRat w v2 q) (k1 : Rs p) (k2 : Rs q) (hz : q ≠ 0) (hf : Fits ((p.den : Int) * q.num)) :
  Calls Tryz.prog 78 #[v1, v2] w (RetRatE w (p / q) 0) := by
 rw [← divInt_div]
 obtain ⟨s1, a1, l1, c1, s2, a2, l2, c2, rfl, i1, i2⟩ := h1
 obtain ⟨s3, a3, l3, c3, s4, a4, l4, c4, rfl, i3, i4⟩ := h2
 have dz : (p.den : Int) * q.num ≠ 0 := by
  intro h
  rcases Int.mul_eq_zero.1 h with h | h
  ·have := p.den_nz; omega
  ·exact hz (Rat.num_eq_zero.1 h)
 have db : nbits ((p.den : Int) * q.num).natAbs ≤ CS / 4 := by
  have := nbits_le (n := ((p.den : Int) * q.num).natAbs) (k := 32) (by unfold Fits at hf; omega)
  unfold CS; omega
 have sb : nbits (p.num * (q.den : Int)).natAbs ≤ CS / 4 := by
  have h1 := nbits_mul p.num.natAbs (q.den : Int).natAbs
  have h2 := k1.2
  have h3 := nbits_le (n := (q.den : Int).natAbs) (k := 16) (by have := k2.1; omega)
  rw [Int.natAbs_mul]; unfold CS at *; omega
 go_enter Tryz.func78, Tryz.ntmps78
 go_upto_region 1 with (fail)
 refine abs3 fun W hb0 B1 B2 B3 hsz => ?_
 replace i1 := i1.on hb0
 replace i2 := i2.on hb0
 replace i3 := i3.on hb0
 replace i4 := i4.on hb0
 refine wp_region_L mixed (none) (0) (Okr.none) [.eq (.pointer (some ⟨w.heap.size, 0, none⟩)), .eq (.agg #[.bool s1, .slice a1 l1 c1]), .eq (.pointer (some ⟨w.heap.size + 1, 2, none⟩)), .eq (.agg #[.bool s4, .slice a4 l4 c4]), .int (by decide) ((p.num * (q.den : Int))), .eq (.pointer (some ⟨w.heap.size, 2, none⟩)), .eq (.agg #[.bool s2, .slice a2 l2 c2]), .eq (.pointer (some ⟨w.heap.size + 1, 0, none⟩)), .eq (.agg #[.bool s3, .slice a3 l3 c3]), .int (by decide) (((p.den : Int) * q.num)), .ratE (by decide) (Rat.divInt (p.num * (q.den : Int)) ((p.den : Int) * q.num)) 0, .rat (by decide) (Rat.divInt (p.num * (q.den : Int)) ((p.den : Int) * q.num)), .eq (.int .i64 0)] [6, 7, 8, 9, 10, 11, 12, 13, 14, 15, 16, 17, 18] rfl rfl rfl rfl ⟨?_, ?_, ?_, ?_, ?_, ?_, ?_, ?_, ?_, ?_, ?_, ?_, ?_, trivial⟩ ?_
 ·intro A w1 hA hL hS he
  have h2 : A.eval (.tmp 2) = .pointer (some ⟨w.heap.size, 0, none⟩) := hA 2 rfl
  refine goOn_plain rfl (stepG_pure rfl rfl ?_)
  generalize A.eval = ev at *
  go_simp
 ·intro A w1 hA hL hS he
  have hb := hL.below
  have h6 : A.eval (.tmp 6) = _ := he.1 rfl
  have c0 := ((B1).on hb).at1 0 _ rfl
  have c1 := ((B1).on hb).at1 1 _ rfl
  refine goOn_plain rfl (stepG_pure rfl rfl ?_)
  generalize A.eval = ev at *
  go_simp
 ·intro A w1 hA hL hS he
  have h3 : A.eval (.tmp 3) = .pointer (some ⟨w.heap.size + 1, 0, none⟩) := hA 3 rfl
  refine goOn_plain rfl (stepG_pure rfl rfl ?_)
  generalize A.eval = ev at *
  go_simp
 ·intro A w1 hA hL hS he
  have hb := hL.below
  have h8 : A.eval (.tmp 8) = _ := he.1 rfl
  have c0 := ((B2).on hb).at1 2 _ rfl
  have c1 := ((B2).on hb).at1 3 _ rfl
  refine goOn_plain rfl (stepG_pure rfl rfl ?_)
  generalize A.eval = ev at *
  go_simp
 ·intro A w1 hA hL hS he
  have hb := hS rfl
  have h7 : A.eval (.tmp 7) = _ := he.1 rfl
  have h9 : A.eval (.tmp 9) = _ := he.2.1 rfl
  have hf0 : A.eval (.func 69) = .func (.func 69) #[] #[] := rfl
  refine goOn_plain rfl ?_
  refine stepG_call (f := 69) (args := #[.agg #[.bool s1, .slice a1 l1 c1], .agg #[.bool s4, .slice a4 l4 c4]]) rfl rfl ?_ ?_
  ·generalize A.eval = ev at *
   go_simp
  ·refine (mul1_any _ _ _ _ _ _ _ (i1.on hb) (i4.on hb) (cs4 k1.num) (cs4 k2.den)).mono ?_
   rintro e w' ⟨neg, m, rfl, hi, hb'⟩
   exact ⟨_, rfl, hb', neg, m, rfl, hi⟩
 ·intro A w1 hA hL hS he
  have h2 : A.eval (.tmp 2) = .pointer (some ⟨w.heap.size, 0, none⟩) := hA 2 rfl
  refine goOn_plain rfl (stepG_pure rfl rfl ?_)
  generalize A.eval = ev at *
  go_simp
 ·intro A w1 hA hL hS he
  have hb := hL.below
  have h11 : A.eval (.tmp 11) = _ := he.1 rfl
  have c0 := ((B1).on hb).at1 2 _ rfl
  have c1 := ((B1).on hb).at1 3 _ rfl
  refine goOn_plain rfl (stepG_pure rfl rfl ?_)
  generalize A.eval = ev at *
  go_simp
 ·intro A w1 hA hL hS he
  have h3 : A.eval (.tmp 3) = .pointer (some ⟨w.heap.size + 1, 0, none⟩) := hA 3 rfl
  refine goOn_plain rfl (stepG_pure rfl rfl ?_)
  generalize A.eval = ev at *
  go_simp
 ·intro A w1 hA hL hS he
  have hb := hL.below
  have h13 : A.eval (.tmp 13) = _ := he.1 rfl
  have c0 := ((B2).on hb).at1 0 _ rfl
  have c1 := ((B2).on hb).at1 1 _ rfl
  refine goOn_plain rfl (stepG_pure rfl rfl ?_)
  generalize A.eval = ev at *
  go_simp
 ·intro A w1 hA hL hS he
  have hb := hS rfl
  have h12 : A.eval (.tmp 12) = _ := he.1 rfl
  have h14 : A.eval (.tmp 14) = _ := he.2.1 rfl
  have hf0 : A.eval (.func 69) = .func (.func 69) #[] #[] := rfl
  refine goOn_plain rfl ?_
  refine stepG_call (f := 69) (args := #[.agg #[.bool s2, .slice a2 l2 c2], .agg #[.bool s3, .slice a3 l3 c3]]) rfl rfl ?_ ?_
  ·generalize A.eval = ev at *
   go_simp
  ·refine (mul1_any _ _ _ _ _ _ _ (i2.on hb) (i3.on hb) (cs4 k1.den) (cs4 k2.num)).mono ?_
   rintro e w' ⟨neg, m, rfl, hi, hb'⟩
   exact ⟨_, rfl, hb', neg, m, rfl, hi⟩
 ·intro A w1 hA hL hS he
  have hb := hS rfl
  have f10 : ((.int (by decide) ((p.num * (q.den : Int))) : FactL (Lr (none) (0)))).p (A.eval (.tmp 10)) w1 := he.1 rfl
  obtain ⟨v10, h10⟩ : ∃ v, A.eval (.tmp 10) = v := ⟨_, rfl⟩
  rw [h10] at f10
  have f15 : ((.int (by decide) (((p.den : Int) * q.num)) : FactL (Lr (none) (0)))).p (A.eval (.tmp 15)) w1 := he.2.1 rfl
  obtain ⟨v15, h15⟩ : ∃ v, A.eval (.tmp 15) = v := ⟨_, rfl⟩
  rw [h15] at f15
  have hf0 : A.eval (.func 100) = .func (.func 100) #[] #[] := rfl
  refine goOn_plain rfl ?_
  refine stepG_call (f := 100) (args := #[v10, v15]) rfl rfl ?_ ?_
  ·generalize A.eval = ev at *
   go_simp
  ·obtain ⟨n10, m10, rfl, i10⟩ := f10
   obtain ⟨n15, m15, rfl, i15⟩ := f15
   refine (of2_any _ _ _ _ _ _ _ i10 i15 sb db dz hf).mono ?_
   rintro e w' ⟨x, rfl, hi, hb'⟩
   exact ⟨_, rfl, hb', x, rfl, hi⟩
 ·intro A w1 hA hL hS he
  have f16 : ((.ratE (by decide) (Rat.divInt (p.num * (q.den : Int)) ((p.den : Int) * q.num)) 0 : FactL (Lr (none) (0)))).p (A.eval (.tmp 16)) w1 := he.1 rfl
  obtain ⟨v16, h16⟩ : ∃ v, A.eval (.tmp 16) = v := ⟨_, rfl⟩
  rw [h16] at f16
  refine goOn_plain rfl ?_
  obtain ⟨x, rfl, hx⟩ := f16
  refine stepG_value (c := x) rfl rfl (Below.refl _ _) hx ?_
  generalize A.eval = ev at *
  go_simp
 ·intro A w1 hA hL hS he
  have f16 : ((.ratE (by decide) (Rat.divInt (p.num * (q.den : Int)) ((p.den : Int) * q.num)) 0 : FactL (Lr (none) (0)))).p (A.eval (.tmp 16)) w1 := he.1 rfl
  obtain ⟨v16, h16⟩ : ∃ v, A.eval (.tmp 16) = v := ⟨_, rfl⟩
  rw [h16] at f16
  refine goOn_plain rfl ?_
  obtain ⟨x, rfl, hx⟩ := f16
  refine stepG_pure rfl rfl ?_
  generalize A.eval = ev at *
  go_simp
 ·intro w4 hL4
  have hb4 := hL4.below
  simp only [TailL, FactL.eq, FactL.int, FactL.rat, FactL.ratE, FactL.of, List.length_cons, List.length_nil, List.drop_succ_cons, List.drop_zero]
  rintro _ - _ - _ - v17 h17
  obtain ⟨t1, b1, g1, d1, t2, b2, g2, d2, rfl, u1, u2⟩ := h17
  go_frame
  have E3 := B3.on hb4
  have hbb := hb0.trans (hb4.mono hb0.size)
  go_wp2_with (refine wpList_store_blk rfl _ (.tmp 4) (.tmp 17) rfl _ _ _ _ rfl rfl E3 rfl sizeRat isRat_ones ?_; intro w5 R gr)
  exact bodyPost_ret (results_cell1 rfl _ _ _ Tryz.underlying34 rfl rfl R sizeRat) rfl ⟨_, rfl, IsRat.stored ⟨t1, b1, g1, d1, t2, b2, g2, d2, rfl, u1, u2⟩ gr E3 (by decide), hbb.trans ((grown_below gr (Nat.le_of_lt E3.lt) (Nat.le_refl _)).mono (by omega))⟩
end Go.Proofs.YtplfdeohokkebaaGreat
