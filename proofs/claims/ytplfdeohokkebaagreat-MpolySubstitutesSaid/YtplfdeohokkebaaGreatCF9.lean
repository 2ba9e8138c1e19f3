/- The reference's Made of rational numbers. -/
import Derived.Test.YtplfdeohokkebaaGreatC37
set_option linter.unusedVariables false
set_option linter.unusedSimpArgs false
namespace Go.Proofs.YtplfdeohokkebaaGreat
open Go.RowKit Q Go.WideMaps Go.Maps
set_option maxHeartbeats 2000000 in
set_option maxRecDepth 100000 in
theorem made2_any (n d : Int) (w : World) (hn : -1000 ≤ n ∧ n ≤ 1000) (hd : 0 < d ∧ d ≤ 1000) : Calls Tryz.prog 47 #[.int .i64 n, .int .i64 d] w (RetRat w (Rat.divInt n d)) := by
 have hz : d ≠ 0 := by omega
 have hz' : (d == 0) = false := by simpa using hz
 have c1 : nbits n.natAbs ≤ CS / 4 := Nat.le_trans (nbits_le (k := 10) (show n.natAbs < 2 ^ 10 by omega)) (by unfold CS; omega)
 have c2 : nbits d.natAbs ≤ CS / 4 := Nat.le_trans (nbits_le (k := 10) (show d.natAbs < 2 ^ 10 by omega)) (by unfold CS; omega)
 have hf : Fits d := by unfold Fits; omega
 replace c1 := Lib.hid c1
 replace c2 := Lib.hid c2
 replace hf := Lib.hid hf
 go_enter Tryz.func47, Tryz.ntmps47
 go_upto_region 1 with (fail)
 refine abs1 fun W hb0 B3 hsz => ?_
 go_upto_region 3 with (fail)
 refine wp_region_S trivial (none) (0) (Okr.none) [.eq (.int .i64 n), .int (by decide) (n), .eq (.int .i64 d), .int (by decide) (d), .rat (by decide) ((Rat.divInt n d))] [7, 8, 9, 10, 11] rfl rfl rfl rfl ⟨?_, ?_, ?_, ?_, ?_, trivial⟩ ?_
 ·exact fun A w1 hA hL hS he => goOn_plain rfl (stepG_mv rfl rfl (hA 0 rfl))
 ·intro A w1 hA hL hS he
  have hb := hS rfl
  have h7 : A.eval (.tmp 7) = _ := he.1 rfl
  have hf0 : A.eval (.func 56) = .func (.func 56) #[] #[] := rfl
  refine goOn_plain rfl ?_
  refine stepG_call (f := 56) (args := #[.int .i64 n]) rfl rfl ?_ ?_
  ·generalize A.eval = ev at *
   go_simp
  ·refine (of1_any n _ (by omega) (by omega)).mono ?_
   rintro e w' ⟨neg, m, rfl, hi, hb'⟩
   exact ⟨_, rfl, hb', neg, m, rfl, hi⟩
 ·exact fun A w1 hA hL hS he => goOn_plain rfl (stepG_mv rfl rfl (hA 1 rfl))
 ·intro A w1 hA hL hS he
  have hb := hS rfl
  have h9 : A.eval (.tmp 9) = _ := he.1 rfl
  have hf0 : A.eval (.func 56) = .func (.func 56) #[] #[] := rfl
  refine goOn_plain rfl ?_
  refine stepG_call (f := 56) (args := #[.int .i64 d]) rfl rfl ?_ ?_
  ·generalize A.eval = ev at *
   go_simp
  ·refine (of1_any d _ (by omega) (by omega)).mono ?_
   rintro e w' ⟨neg, m, rfl, hi, hb'⟩
   exact ⟨_, rfl, hb', neg, m, rfl, hi⟩
 ·intro A w1 hA hL hS he
  have hb := hS rfl
  have f8 : ((.int (by decide) (n) : FactL (Lr (none) (0)))).p (A.eval (.tmp 8)) w1 := he.1 rfl
  obtain ⟨v8, h8⟩ : ∃ v, A.eval (.tmp 8) = v := ⟨_, rfl⟩
  rw [h8] at f8
  have f10 : ((.int (by decide) (d) : FactL (Lr (none) (0)))).p (A.eval (.tmp 10)) w1 := he.2.1 rfl
  obtain ⟨v10, h10⟩ : ∃ v, A.eval (.tmp 10) = v := ⟨_, rfl⟩
  rw [h10] at f10
  have hf0 : A.eval (.func 70) = .func (.func 70) #[] #[] := rfl
  refine goOn_plain rfl ?_
  refine stepG_call (f := 70) (args := #[v8, v10]) rfl rfl ?_ ?_
  ·generalize A.eval = ev at *
   go_simp
  ·obtain ⟨n8, m8, rfl, i8⟩ := f8
   obtain ⟨n10, m10, rfl, i10⟩ := f10
   refine (of3_any _ _ _ _ n d _ i8 i10 c1.out c2.out hz hf.out).mono ?_
   rintro e w' ⟨v, rfl, hi, hb'⟩
   exact ⟨_, rfl, hb', hi⟩
 intro W2 hL
 have hb2 := hL.below
 simp only [TailL, FactL.eq, FactL.rat, FactL.int, FactL.of, List.length_cons, List.length_nil, List.drop_succ_cons, List.drop_zero]
 rintro _ - _ - v11 h11
 obtain ⟨n5, a5, k5, e5, n6, a6, k6, e6, rfl⟩ := rat_agg h11
 go_frame
 have C3 := B3.on hb2
 go_wp2_with (refine wpList_store_blk rfl _ (.tmp 4) (.tmp 11) rfl _ _ _ _ rfl rfl C3 rfl sizeRat isRat_ones ?_; intro w3 R gr)
 exact ret_blk rfl rfl rfl R Tryz.underlying34 rfl sizeRat (rat_end hb0 hb2 (by omega) C3 h11 gr)
end Go.Proofs.YtplfdeohokkebaaGreat
