/- law07.sanity. -/
import Derived.Test.YtplfdeohokkebaaGreatC34
set_option linter.unusedVariables false
set_option linter.unusedSimpArgs false
namespace Go.Proofs.YtplfdeohokkebaaGreat
open Go.RowKit Q Go.WideMaps Go.Maps
set_option maxHeartbeats 16000000 in
set_option maxRecDepth 100000 in
theorem sanity_any (w : World) : Calls Tryz.prog 12 #[] w (Ret w (.bool true)) := by
 go_enter Tryz.func12, Tryz.ntmps12
 go_upto_region 1 with (fail)
 have hb0 : Below w.heap.size w w := Below.refl _ _
 refine wp_region_S trivial (none) (0) (Okr.none) [.poly (by decide) (by decide) ([tm 1 1 0]), .poly (by decide) (by decide) ([tm 1 0 1])] [19, 20] rfl rfl rfl rfl ⟨?_, ?_, trivial⟩ ?_
 ·intro A w1 hA hL hS he
  have hb := hS rfl
  have hf0 : A.eval (.func 31) = .func (.func 31) #[] #[] := rfl
  have hc0 : A.eval (.const (.int .i64 0)) = .int .i64 0 := rfl
  refine goOn_plain rfl ?_
  refine stepG_call (f := 31) (args := #[(.int .i64 0)]) rfl rfl ?_ ?_
  ·generalize A.eval = ev at *
   go_simp
  ·refine (varS (n := 0) sv_x (by decide)).mono ?_
   rintro e w' ⟨v, rfl, hi, hb'⟩
   exact ⟨_, rfl, hb', hi⟩
 ·intro A w1 hA hL hS he
  have hb := hS rfl
  have hf0 : A.eval (.func 31) = .func (.func 31) #[] #[] := rfl
  have hc0 : A.eval (.const (.int .i64 1)) = .int .i64 1 := rfl
  refine goOn_plain rfl ?_
  refine stepG_call (f := 31) (args := #[(.int .i64 1)]) rfl rfl ?_ ?_
  ·generalize A.eval = ev at *
   go_simp
  ·refine (varS (n := 1) sv_y (by decide)).mono ?_
   rintro e w' ⟨v, rfl, hi, hb'⟩
   exact ⟨_, rfl, hb', hi⟩
 intro w1 hL
 simp only [TailL, FactL.eq, FactL.poly, FactL.polys, FactL.polyT, FactL.term, FactL.rat, FactL.ret, FactL.of, List.length_cons, List.length_nil, List.drop_succ_cons, List.drop_zero]
 rintro vx hx vy hy
 go_frame
 have hb := hL.below
 replace hb0 := hb0.trans (hb.mono hb0.size)
 clear hL hb
 go_upto_region 2 with (fail)
 refine wp_region_S trivial (none) (0) (Okr.none) [.term (by decide) (tm (1) (1) (0)), .term (by decide) (tm (-1) (1) (0)), .term (by decide) (tm (2) (0) (1)), .term (by decide) (tm (1) (0) (1)), .term (by decide) (tm (5) (-1) (0)), .poly (by decide) (by decide) ([tm 1 1 0, tm (-1) 1 0, tm 2 0 1, tm 1 0 1, tm 5 (-1) 0]), .poly (by decide) (by decide) ([tm 3 0 1])] [21, 22, 23, 24, 25, 26, 27] rfl rfl rfl rfl ⟨?_, ?_, ?_, ?_, ?_, ?_, ?_, trivial⟩ ?_
 ·intro A w1 hA hL hS he
  have hb := hS rfl
  have hf0 : A.eval (.func 55) = .func (.func 55) #[] #[] := rfl
  have hc0 : A.eval (.const (.int .i64 1)) = .int .i64 1 := rfl
  have hc1 : A.eval (.const (.int .i64 0)) = .int .i64 0 := rfl
  refine goOn_plain rfl ?_
  refine stepG_call (f := 55) (args := #[(.int .i64 1), (.int .i64 1), (.int .i64 0)]) rfl rfl ?_ ?_
  ·generalize A.eval = ev at *
   go_simp
  ·refine (term_any (1) (1) (0) _ (by omega) (by omega)).mono ?_
   rintro e w' ⟨cs, rfl, hi, hb'⟩
   exact ⟨_, rfl, hb', cs, rfl, hi⟩
 ·intro A w1 hA hL hS he
  have hb := hS rfl
  have hf0 : A.eval (.func 55) = .func (.func 55) #[] #[] := rfl
  have hc0 : A.eval (.const (.int .i64 (-1))) = .int .i64 (-1) := rfl
  have hc1 : A.eval (.const (.int .i64 1)) = .int .i64 1 := rfl
  have hc2 : A.eval (.const (.int .i64 0)) = .int .i64 0 := rfl
  refine goOn_plain rfl ?_
  refine stepG_call (f := 55) (args := #[(.int .i64 (-1)), (.int .i64 1), (.int .i64 0)]) rfl rfl ?_ ?_
  ·generalize A.eval = ev at *
   go_simp
  ·refine (term_any (-1) (1) (0) _ (by omega) (by omega)).mono ?_
   rintro e w' ⟨cs, rfl, hi, hb'⟩
   exact ⟨_, rfl, hb', cs, rfl, hi⟩
 ·intro A w1 hA hL hS he
  have hb := hS rfl
  have hf0 : A.eval (.func 55) = .func (.func 55) #[] #[] := rfl
  have hc0 : A.eval (.const (.int .i64 2)) = .int .i64 2 := rfl
  have hc1 : A.eval (.const (.int .i64 0)) = .int .i64 0 := rfl
  have hc2 : A.eval (.const (.int .i64 1)) = .int .i64 1 := rfl
  refine goOn_plain rfl ?_
  refine stepG_call (f := 55) (args := #[(.int .i64 2), (.int .i64 0), (.int .i64 1)]) rfl rfl ?_ ?_
  ·generalize A.eval = ev at *
   go_simp
  ·refine (term_any (2) (0) (1) _ (by omega) (by omega)).mono ?_
   rintro e w' ⟨cs, rfl, hi, hb'⟩
   exact ⟨_, rfl, hb', cs, rfl, hi⟩
 ·intro A w1 hA hL hS he
  have hb := hS rfl
  have hf0 : A.eval (.func 55) = .func (.func 55) #[] #[] := rfl
  have hc0 : A.eval (.const (.int .i64 1)) = .int .i64 1 := rfl
  have hc1 : A.eval (.const (.int .i64 0)) = .int .i64 0 := rfl
  refine goOn_plain rfl ?_
  refine stepG_call (f := 55) (args := #[(.int .i64 1), (.int .i64 0), (.int .i64 1)]) rfl rfl ?_ ?_
  ·generalize A.eval = ev at *
   go_simp
  ·refine (term_any (1) (0) (1) _ (by omega) (by omega)).mono ?_
   rintro e w' ⟨cs, rfl, hi, hb'⟩
   exact ⟨_, rfl, hb', cs, rfl, hi⟩
 ·intro A w1 hA hL hS he
  have hb := hS rfl
  have hf0 : A.eval (.func 55) = .func (.func 55) #[] #[] := rfl
  have hc0 : A.eval (.const (.int .i64 5)) = .int .i64 5 := rfl
  have hc1 : A.eval (.const (.int .i64 (-1))) = .int .i64 (-1) := rfl
  have hc2 : A.eval (.const (.int .i64 0)) = .int .i64 0 := rfl
  refine goOn_plain rfl ?_
  refine stepG_call (f := 55) (args := #[(.int .i64 5), (.int .i64 (-1)), (.int .i64 0)]) rfl rfl ?_ ?_
  ·generalize A.eval = ev at *
   go_simp
  ·refine (term_any (5) (-1) (0) _ (by omega) (by omega)).mono ?_
   rintro e w' ⟨cs, rfl, hi, hb'⟩
   exact ⟨_, rfl, hb', cs, rfl, hi⟩
 ·intro A w1 hA hL hS he
  have f21 : ((.term (by decide) (tm (1) (1) (0)) : FactL (Lr (none) (0)))).p (A.eval (.tmp 21)) w1 := he.1 rfl
  obtain ⟨v21, h21⟩ : ∃ v, A.eval (.tmp 21) = v := ⟨_, rfl⟩
  rw [h21] at f21
  have f22 : ((.term (by decide) (tm (-1) (1) (0)) : FactL (Lr (none) (0)))).p (A.eval (.tmp 22)) w1 := he.2.1 rfl
  obtain ⟨v22, h22⟩ : ∃ v, A.eval (.tmp 22) = v := ⟨_, rfl⟩
  rw [h22] at f22
  have f23 : ((.term (by decide) (tm (2) (0) (1)) : FactL (Lr (none) (0)))).p (A.eval (.tmp 23)) w1 := he.2.2.1 rfl
  obtain ⟨v23, h23⟩ : ∃ v, A.eval (.tmp 23) = v := ⟨_, rfl⟩
  rw [h23] at f23
  have f24 : ((.term (by decide) (tm (1) (0) (1)) : FactL (Lr (none) (0)))).p (A.eval (.tmp 24)) w1 := he.2.2.2.1 rfl
  obtain ⟨v24, h24⟩ : ∃ v, A.eval (.tmp 24) = v := ⟨_, rfl⟩
  rw [h24] at f24
  have f25 : ((.term (by decide) (tm (5) (-1) (0)) : FactL (Lr (none) (0)))).p (A.eval (.tmp 25)) w1 := he.2.2.2.2.1 rfl
  obtain ⟨v25, h25⟩ : ∃ v, A.eval (.tmp 25) = v := ⟨_, rfl⟩
  rw [h25] at f25
  refine goOn_plain rfl ?_
  obtain ⟨c21, rfl, e21⟩ := f21
  obtain ⟨c22, rfl, e22⟩ := f22
  obtain ⟨c23, rfl, e23⟩ := f23
  obtain ⟨c24, rfl, e24⟩ := f24
  obtain ⟨c25, rfl, e25⟩ := f25
  refine stepG_newT (ts := [tm 1 1 0, tm (-1) 1 0, tm 2 0 1, tm 1 0 1, tm 5 (-1) 0]) rfl rfl (⟨_, _, rfl, e21, ⟨_, _, rfl, e22, ⟨_, _, rfl, e23, ⟨_, _, rfl, e24, ⟨_, _, rfl, e25, rfl⟩⟩⟩⟩⟩) rfl (execOp_buildSlice rfl ?_) (fun _ _ h => h)
  simp only [List.map_toArray, List.map_cons, List.map_nil, h21, h22, h23, h24, h25]
  exact run_newT5 _ _ _ _ _ _ (elTerm.len e21) (elTerm.len e22) (elTerm.len e23) (elTerm.len e24) (elTerm.len e25)
 ·intro A w1 hA hL hS he
  have hb := hS rfl
  have f26 : ((.poly (by decide) (by decide) ([tm 1 1 0, tm (-1) 1 0, tm 2 0 1, tm 1 0 1, tm 5 (-1) 0]) : FactL (Lr (none) (0)))).p (A.eval (.tmp 26)) w1 := he.1 rfl
  obtain ⟨v26, h26⟩ : ∃ v, A.eval (.tmp 26) = v := ⟨_, rfl⟩
  rw [h26] at f26
  have hf0 : A.eval (.func 14) = .func (.func 14) #[] #[] := rfl
  refine goOn_plain rfl ?_
  refine stepG_call (f := 14) (args := #[v26]) rfl rfl ?_ ?_
  ·generalize A.eval = ev at *
   go_simp
  ·refine (makeS sv_sum (by decide +kernel) f26).mono ?_
   rintro e w' ⟨v, rfl, hi, hb'⟩
   exact ⟨_, rfl, hb', hi⟩
 intro w2 hL
 simp only [TailL, FactL.eq, FactL.poly, FactL.polys, FactL.polyT, FactL.term, FactL.rat, FactL.ret, FactL.of, List.length_cons, List.length_nil, List.drop_succ_cons, List.drop_zero]
 rintro _ - _ - _ - _ - _ - _ - vsum hsum
 go_frame
 have hb := hL.below
 replace hx := hx.on hb
 replace hy := hy.on hb
 replace hb0 := hb0.trans (hb.mono hb0.size)
 clear hL hb
 go_upto_region 3 with (fail)
 refine wp_region_S trivial (none) (0) (Okr.none) [.term (by decide) (tm (1) (1) (1)), .term (by decide) (tm (1) (0) (1)), .term (by decide) (tm (3) (0) (0)), .poly (by decide) (by decide) ([tm 1 1 1, tm 1 0 1, tm 3 0 0]), .poly (by decide) (by decide) ([tm 1 1 1, tm 1 0 1, tm 3 0 0]), .polys (by decide) (by decide) (by decide) ([[tm 3 0 0], [tm 1 1 0, tm 1 0 0]])] [28, 29, 30, 31, 32, 33] rfl rfl rfl rfl ⟨?_, ?_, ?_, ?_, ?_, ?_, trivial⟩ ?_
 ·intro A w1 hA hL hS he
  have hb := hS rfl
  have hf0 : A.eval (.func 55) = .func (.func 55) #[] #[] := rfl
  have hc0 : A.eval (.const (.int .i64 1)) = .int .i64 1 := rfl
  refine goOn_plain rfl ?_
  refine stepG_call (f := 55) (args := #[(.int .i64 1), (.int .i64 1), (.int .i64 1)]) rfl rfl ?_ ?_
  ·generalize A.eval = ev at *
   go_simp
  ·refine (term_any (1) (1) (1) _ (by omega) (by omega)).mono ?_
   rintro e w' ⟨cs, rfl, hi, hb'⟩
   exact ⟨_, rfl, hb', cs, rfl, hi⟩
 ·intro A w1 hA hL hS he
  have hb := hS rfl
  have hf0 : A.eval (.func 55) = .func (.func 55) #[] #[] := rfl
  have hc0 : A.eval (.const (.int .i64 1)) = .int .i64 1 := rfl
  have hc1 : A.eval (.const (.int .i64 0)) = .int .i64 0 := rfl
  refine goOn_plain rfl ?_
  refine stepG_call (f := 55) (args := #[(.int .i64 1), (.int .i64 0), (.int .i64 1)]) rfl rfl ?_ ?_
  ·generalize A.eval = ev at *
   go_simp
  ·refine (term_any (1) (0) (1) _ (by omega) (by omega)).mono ?_
   rintro e w' ⟨cs, rfl, hi, hb'⟩
   exact ⟨_, rfl, hb', cs, rfl, hi⟩
 ·intro A w1 hA hL hS he
  have hb := hS rfl
  have hf0 : A.eval (.func 55) = .func (.func 55) #[] #[] := rfl
  have hc0 : A.eval (.const (.int .i64 3)) = .int .i64 3 := rfl
  have hc1 : A.eval (.const (.int .i64 0)) = .int .i64 0 := rfl
  refine goOn_plain rfl ?_
  refine stepG_call (f := 55) (args := #[(.int .i64 3), (.int .i64 0), (.int .i64 0)]) rfl rfl ?_ ?_
  ·generalize A.eval = ev at *
   go_simp
  ·refine (term_any (3) (0) (0) _ (by omega) (by omega)).mono ?_
   rintro e w' ⟨cs, rfl, hi, hb'⟩
   exact ⟨_, rfl, hb', cs, rfl, hi⟩
 ·intro A w1 hA hL hS he
  have f28 : ((.term (by decide) (tm (1) (1) (1)) : FactL (Lr (none) (0)))).p (A.eval (.tmp 28)) w1 := he.1 rfl
  obtain ⟨v28, h28⟩ : ∃ v, A.eval (.tmp 28) = v := ⟨_, rfl⟩
  rw [h28] at f28
  have f29 : ((.term (by decide) (tm (1) (0) (1)) : FactL (Lr (none) (0)))).p (A.eval (.tmp 29)) w1 := he.2.1 rfl
  obtain ⟨v29, h29⟩ : ∃ v, A.eval (.tmp 29) = v := ⟨_, rfl⟩
  rw [h29] at f29
  have f30 : ((.term (by decide) (tm (3) (0) (0)) : FactL (Lr (none) (0)))).p (A.eval (.tmp 30)) w1 := he.2.2.1 rfl
  obtain ⟨v30, h30⟩ : ∃ v, A.eval (.tmp 30) = v := ⟨_, rfl⟩
  rw [h30] at f30
  refine goOn_plain rfl ?_
  obtain ⟨c28, rfl, e28⟩ := f28
  obtain ⟨c29, rfl, e29⟩ := f29
  obtain ⟨c30, rfl, e30⟩ := f30
  refine stepG_newT (ts := [tm 1 1 1, tm 1 0 1, tm 3 0 0]) rfl rfl (⟨_, _, rfl, e28, ⟨_, _, rfl, e29, ⟨_, _, rfl, e30, rfl⟩⟩⟩) rfl (execOp_buildSlice rfl ?_) (fun _ _ h => h)
  simp only [List.map_toArray, List.map_cons, List.map_nil, h28, h29, h30]
  exact run_newT3 _ _ _ _ (elTerm.len e28) (elTerm.len e29) (elTerm.len e30)
 ·intro A w1 hA hL hS he
  have hb := hS rfl
  have f31 : ((.poly (by decide) (by decide) ([tm 1 1 1, tm 1 0 1, tm 3 0 0]) : FactL (Lr (none) (0)))).p (A.eval (.tmp 31)) w1 := he.1 rfl
  obtain ⟨v31, h31⟩ : ∃ v, A.eval (.tmp 31) = v := ⟨_, rfl⟩
  rw [h31] at f31
  have hf0 : A.eval (.func 14) = .func (.func 14) #[] #[] := rfl
  refine goOn_plain rfl ?_
  refine stepG_call (f := 14) (args := #[v31]) rfl rfl ?_ ?_
  ·generalize A.eval = ev at *
   go_simp
  ·refine (makeS sv_l0 (by decide +kernel) f31).mono ?_
   rintro e w' ⟨v, rfl, hi, hb'⟩
   exact ⟨_, rfl, hb', hi⟩
 ·intro A w1 hA hL hS he
  have hb := hS rfl
  have f32 : ((.poly (by decide) (by decide) ([tm 1 1 1, tm 1 0 1, tm 3 0 0]) : FactL (Lr (none) (0)))).p (A.eval (.tmp 32)) w1 := he.1 rfl
  obtain ⟨v32, h32⟩ : ∃ v, A.eval (.tmp 32) = v := ⟨_, rfl⟩
  rw [h32] at f32
  have hf0 : A.eval (.func 33) = .func (.func 33) #[] #[] := rfl
  have hc0 : A.eval (.const (.int .i64 1)) = .int .i64 1 := rfl
  refine goOn_plain rfl ?_
  refine stepG_call (f := 33) (args := #[v32, (.int .i64 1)]) rfl rfl ?_ ?_
  ·generalize A.eval = ev at *
   go_simp
  ·refine (coeffsS (n := 1) sv_l (by decide) (by decide +kernel) (by decide +kernel) (by decide +kernel) f32).mono ?_
   rintro e w' ⟨v, rfl, hi, hb'⟩
   exact ⟨_, rfl, hb', hi⟩
 intro w3 hL
 simp only [TailL, FactL.eq, FactL.poly, FactL.polys, FactL.polyT, FactL.term, FactL.rat, FactL.ret, FactL.of, List.length_cons, List.length_nil, List.drop_succ_cons, List.drop_zero]
 rintro _ - _ - _ - _ - _ - vl hl
 go_frame
 have hb := hL.below
 replace hx := hx.on hb
 replace hy := hy.on hb
 replace hsum := hsum.on hb
 replace hb0 := hb0.trans (hb.mono hb0.size)
 clear hL hb
 go_upto_region 4 with (fail)
 refine wp_region_S trivial (none) (0) (Okr.none) [.term (by decide) (tm (1) (2) (0)), .term (by decide) (tm (-1) (0) (2)), .poly (by decide) (by decide) ([tm 1 2 0, tm (-1) 0 2]), .poly (by decide) (by decide) ([tm (-1) 0 2, tm 1 2 0]), .eq (vx), .eq (vy), .poly (by decide) (by decide) ([tm 1 0 1, tm 1 1 0]), .polyT (by decide) (by decide) [tm (-1) 0 1, tm 1 1 0] (.bool true), .polyT (by decide) (by decide) [tm (-1) 0 1, tm 1 1 0] (.bool true), .poly (by decide) (by decide) ([tm (-1) 0 1, tm 1 1 0]), .eq (.bool true)] [35, 36, 37, 38, 39, 40, 41, 42, 34, 43, 44] rfl rfl rfl rfl ⟨?_, ?_, ?_, ?_, ?_, ?_, ?_, ?_, ?_, ?_, ?_, trivial⟩ ?_
 ·intro A w1 hA hL hS he
  have hb := hS rfl
  have hf0 : A.eval (.func 55) = .func (.func 55) #[] #[] := rfl
  have hc0 : A.eval (.const (.int .i64 1)) = .int .i64 1 := rfl
  have hc1 : A.eval (.const (.int .i64 2)) = .int .i64 2 := rfl
  have hc2 : A.eval (.const (.int .i64 0)) = .int .i64 0 := rfl
  refine goOn_plain rfl ?_
  refine stepG_call (f := 55) (args := #[(.int .i64 1), (.int .i64 2), (.int .i64 0)]) rfl rfl ?_ ?_
  ·generalize A.eval = ev at *
   go_simp
  ·refine (term_any (1) (2) (0) _ (by omega) (by omega)).mono ?_
   rintro e w' ⟨cs, rfl, hi, hb'⟩
   exact ⟨_, rfl, hb', cs, rfl, hi⟩
 ·intro A w1 hA hL hS he
  have hb := hS rfl
  have hf0 : A.eval (.func 55) = .func (.func 55) #[] #[] := rfl
  have hc0 : A.eval (.const (.int .i64 (-1))) = .int .i64 (-1) := rfl
  have hc1 : A.eval (.const (.int .i64 0)) = .int .i64 0 := rfl
  have hc2 : A.eval (.const (.int .i64 2)) = .int .i64 2 := rfl
  refine goOn_plain rfl ?_
  refine stepG_call (f := 55) (args := #[(.int .i64 (-1)), (.int .i64 0), (.int .i64 2)]) rfl rfl ?_ ?_
  ·generalize A.eval = ev at *
   go_simp
  ·refine (term_any (-1) (0) (2) _ (by omega) (by omega)).mono ?_
   rintro e w' ⟨cs, rfl, hi, hb'⟩
   exact ⟨_, rfl, hb', cs, rfl, hi⟩
 ·intro A w1 hA hL hS he
  have f35 : ((.term (by decide) (tm (1) (2) (0)) : FactL (Lr (none) (0)))).p (A.eval (.tmp 35)) w1 := he.1 rfl
  obtain ⟨v35, h35⟩ : ∃ v, A.eval (.tmp 35) = v := ⟨_, rfl⟩
  rw [h35] at f35
  have f36 : ((.term (by decide) (tm (-1) (0) (2)) : FactL (Lr (none) (0)))).p (A.eval (.tmp 36)) w1 := he.2.1 rfl
  obtain ⟨v36, h36⟩ : ∃ v, A.eval (.tmp 36) = v := ⟨_, rfl⟩
  rw [h36] at f36
  refine goOn_plain rfl ?_
  obtain ⟨c35, rfl, e35⟩ := f35
  obtain ⟨c36, rfl, e36⟩ := f36
  refine stepG_newT (ts := [tm 1 2 0, tm (-1) 0 2]) rfl rfl (⟨_, _, rfl, e35, ⟨_, _, rfl, e36, rfl⟩⟩) rfl (execOp_buildSlice rfl ?_) (fun _ _ h => h)
  simp only [List.map_toArray, List.map_cons, List.map_nil, h35, h36]
  exact run_newT2 _ _ _ (elTerm.len e35) (elTerm.len e36)
 ·intro A w1 hA hL hS he
  have hb := hS rfl
  have f37 : ((.poly (by decide) (by decide) ([tm 1 2 0, tm (-1) 0 2]) : FactL (Lr (none) (0)))).p (A.eval (.tmp 37)) w1 := he.1 rfl
  obtain ⟨v37, h37⟩ : ∃ v, A.eval (.tmp 37) = v := ⟨_, rfl⟩
  rw [h37] at f37
  have hf0 : A.eval (.func 14) = .func (.func 14) #[] #[] := rfl
  refine goOn_plain rfl ?_
  refine stepG_call (f := 14) (args := #[v37]) rfl rfl ?_ ?_
  ·generalize A.eval = ev at *
   go_simp
  ·refine (makeS sv_a (by decide +kernel) f37).mono ?_
   rintro e w' ⟨v, rfl, hi, hb'⟩
   exact ⟨_, rfl, hb', hi⟩
 ·exact fun A w1 hA hL hS he => goOn_plain rfl (stepG_mv rfl rfl (hA 1 rfl))
 ·exact fun A w1 hA hL hS he => goOn_plain rfl (stepG_mv rfl rfl (hA 2 rfl))
 ·intro A w1 hA hL hS he
  have hb := hS rfl
  have h39 : A.eval (.tmp 39) = _ := he.1 rfl
  have h40 : A.eval (.tmp 40) = _ := he.2.1 rfl
  have hf0 : A.eval (.func 25) = .func (.func 25) #[] #[] := rfl
  refine goOn_plain rfl ?_
  refine stepG_call (f := 25) (args := #[vx, vy]) rfl rfl ?_ ?_
  ·generalize A.eval = ev at *
   go_simp
  ·refine (addS sv_b (by decide +kernel) (by decide +kernel) (hx.on hb) (hy.on hb)).mono ?_
   rintro e w' ⟨v, rfl, hi, hb'⟩
   exact ⟨_, rfl, hb', hi⟩
 ·intro A w1 hA hL hS he
  have hb := hS rfl
  have f38 : ((.poly (by decide) (by decide) ([tm (-1) 0 2, tm 1 2 0]) : FactL (Lr (none) (0)))).p (A.eval (.tmp 38)) w1 := he.1 rfl
  obtain ⟨v38, h38⟩ : ∃ v, A.eval (.tmp 38) = v := ⟨_, rfl⟩
  rw [h38] at f38
  have f41 : ((.poly (by decide) (by decide) ([tm 1 0 1, tm 1 1 0]) : FactL (Lr (none) (0)))).p (A.eval (.tmp 41)) w1 := he.2.1 rfl
  obtain ⟨v41, h41⟩ : ∃ v, A.eval (.tmp 41) = v := ⟨_, rfl⟩
  rw [h41] at f41
  have hf0 : A.eval (.func 40) = .func (.func 40) #[] #[] := rfl
  refine goOn_plain rfl ?_
  refine stepG_call (f := 40) (args := #[v38, v41]) rfl rfl ?_ ?_
  ·generalize A.eval = ev at *
   go_simp
  ·refine (div_any _ _ _ _ _ _ _ _ f38 f41 sv_div1).mono ?_
   rintro e w' ⟨v, rfl, hi, hb'⟩
   exact ⟨_, rfl, hb', v, rfl, hi⟩
 ·intro A w1 hA hL hS he
  have f42 : ((.polyT (by decide) (by decide) [tm (-1) 0 1, tm 1 1 0] (.bool true) : FactL (Lr (none) (0)))).p (A.eval (.tmp 42)) w1 := he.1 rfl
  obtain ⟨v42, h42⟩ : ∃ v, A.eval (.tmp 42) = v := ⟨_, rfl⟩
  rw [h42] at f42
  refine goOn_plain rfl ?_
  exact stepG_value (c := v42) rfl rfl (Below.refl _ _) f42 (by show Result.ok (Next.value (A.eval (.tmp 42))) w1 = _; rw [h42])
 ·intro A w1 hA hL hS he
  have f34 : ((.polyT (by decide) (by decide) [tm (-1) 0 1, tm 1 1 0] (.bool true) : FactL (Lr (none) (0)))).p (A.eval (.tmp 34)) w1 := he.1 rfl
  obtain ⟨v34, h34⟩ : ∃ v, A.eval (.tmp 34) = v := ⟨_, rfl⟩
  rw [h34] at f34
  refine goOn_plain rfl ?_
  obtain ⟨u, rfl, hu⟩ := f34
  refine stepG_value (c := u) rfl rfl (Below.refl _ _) hu ?_
  generalize A.eval = ev at *
  go_simp
 ·intro A w1 hA hL hS he
  have f34 : ((.polyT (by decide) (by decide) [tm (-1) 0 1, tm 1 1 0] (.bool true) : FactL (Lr (none) (0)))).p (A.eval (.tmp 34)) w1 := he.1 rfl
  obtain ⟨v34, h34⟩ : ∃ v, A.eval (.tmp 34) = v := ⟨_, rfl⟩
  rw [h34] at f34
  refine goOn_plain rfl ?_
  obtain ⟨u, rfl, hu⟩ := f34
  refine stepG_pure rfl rfl ?_
  generalize A.eval = ev at *
  go_simp
 intro w4 hL
 simp only [TailL, FactL.eq, FactL.poly, FactL.polys, FactL.polyT, FactL.term, FactL.rat, FactL.ret, FactL.of, List.length_cons, List.length_nil, List.drop_succ_cons, List.drop_zero]
 rintro _ - _ - _ - _ - _ - _ - _ - vq hq
 go_frame
 have hb := hL.below
 replace hx := hx.on hb
 replace hy := hy.on hb
 replace hsum := hsum.on hb
 replace hl := hl.on hb
 replace hb0 := hb0.trans (hb.mono hb0.size)
 clear hL hb
 go_upto_region 5 with (fail)
 refine wp_region_S trivial (none) (0) (Okr.none) [.eq (vx), .eq (vy), .polyT (by decide) (by decide) [] (.bool false), .polyT (by decide) (by decide) [] (.bool false), .poly (by decide) (by decide) ([]), .eq (.bool false)] [46, 47, 48, 45, 49, 50] rfl rfl rfl rfl ⟨?_, ?_, ?_, ?_, ?_, ?_, trivial⟩ ?_
 ·exact fun A w1 hA hL hS he => goOn_plain rfl (stepG_mv rfl rfl (hA 1 rfl))
 ·exact fun A w1 hA hL hS he => goOn_plain rfl (stepG_mv rfl rfl (hA 2 rfl))
 ·intro A w1 hA hL hS he
  have hb := hS rfl
  have h46 : A.eval (.tmp 46) = _ := he.1 rfl
  have h47 : A.eval (.tmp 47) = _ := he.2.1 rfl
  have hf0 : A.eval (.func 40) = .func (.func 40) #[] #[] := rfl
  refine goOn_plain rfl ?_
  refine stepG_call (f := 40) (args := #[vx, vy]) rfl rfl ?_ ?_
  ·generalize A.eval = ev at *
   go_simp
  ·refine (div_any _ _ _ _ _ _ _ _ (hx.on hb) (hy.on hb) sv_div2).mono ?_
   rintro e w' ⟨v, rfl, hi, hb'⟩
   exact ⟨_, rfl, hb', v, rfl, hi⟩
 ·intro A w1 hA hL hS he
  have f48 : ((.polyT (by decide) (by decide) [] (.bool false) : FactL (Lr (none) (0)))).p (A.eval (.tmp 48)) w1 := he.1 rfl
  obtain ⟨v48, h48⟩ : ∃ v, A.eval (.tmp 48) = v := ⟨_, rfl⟩
  rw [h48] at f48
  refine goOn_plain rfl ?_
  exact stepG_value (c := v48) rfl rfl (Below.refl _ _) f48 (by show Result.ok (Next.value (A.eval (.tmp 48))) w1 = _; rw [h48])
 ·intro A w1 hA hL hS he
  have f45 : ((.polyT (by decide) (by decide) [] (.bool false) : FactL (Lr (none) (0)))).p (A.eval (.tmp 45)) w1 := he.1 rfl
  obtain ⟨v45, h45⟩ : ∃ v, A.eval (.tmp 45) = v := ⟨_, rfl⟩
  rw [h45] at f45
  refine goOn_plain rfl ?_
  obtain ⟨u, rfl, hu⟩ := f45
  refine stepG_value (c := u) rfl rfl (Below.refl _ _) hu ?_
  generalize A.eval = ev at *
  go_simp
 ·intro A w1 hA hL hS he
  have f45 : ((.polyT (by decide) (by decide) [] (.bool false) : FactL (Lr (none) (0)))).p (A.eval (.tmp 45)) w1 := he.1 rfl
  obtain ⟨v45, h45⟩ : ∃ v, A.eval (.tmp 45) = v := ⟨_, rfl⟩
  rw [h45] at f45
  refine goOn_plain rfl ?_
  obtain ⟨u, rfl, hu⟩ := f45
  refine stepG_pure rfl rfl ?_
  generalize A.eval = ev at *
  go_simp
 intro w5 hL
 simp only [TailL, FactL.eq, FactL.poly, FactL.polys, FactL.polyT, FactL.term, FactL.rat, FactL.ret, FactL.of, List.length_cons, List.length_nil, List.drop_succ_cons, List.drop_zero]
 rintro _ - _ - _ -
 go_frame
 have hb := hL.below
 replace hx := hx.on hb
 replace hy := hy.on hb
 replace hsum := hsum.on hb
 replace hl := hl.on hb
 replace hq := hq.on hb
 replace hb0 := hb0.trans (hb.mono hb0.size)
 clear hL hb
 go_upto_region 6 with (fail)
 refine wp_region_S trivial (none) (0) (Okr.none) [.polyT (by decide) (by decide) [] (.bool false), .polyT (by decide) (by decide) [] (.bool false), .poly (by decide) (by decide) ([]), .eq (.bool false)] [52, 51, 53, 54] rfl rfl rfl rfl ⟨?_, ?_, ?_, ?_, trivial⟩ ?_
 ·intro A w1 hA hL hS he
  have hb := hS rfl
  have hf0 : A.eval (.func 40) = .func (.func 40) #[] #[] := rfl
  have hc0 : A.eval (.const (.slice none 0 0)) = .slice none 0 0 := rfl
  refine goOn_plain rfl ?_
  refine stepG_call (f := 40) (args := #[(.slice none 0 0), (.slice none 0 0)]) rfl rfl ?_ ?_
  ·generalize A.eval = ev at *
   go_simp
  ·refine (div_nil _ _ [] _ (IsSl.nil _ _) (IsSl.nil _ _)).mono ?_
   rintro e w' ⟨v, rfl, hi, hb'⟩
   exact ⟨_, rfl, hb', v, rfl, hi⟩
 ·intro A w1 hA hL hS he
  have f52 : ((.polyT (by decide) (by decide) [] (.bool false) : FactL (Lr (none) (0)))).p (A.eval (.tmp 52)) w1 := he.1 rfl
  obtain ⟨v52, h52⟩ : ∃ v, A.eval (.tmp 52) = v := ⟨_, rfl⟩
  rw [h52] at f52
  refine goOn_plain rfl ?_
  exact stepG_value (c := v52) rfl rfl (Below.refl _ _) f52 (by show Result.ok (Next.value (A.eval (.tmp 52))) w1 = _; rw [h52])
 ·intro A w1 hA hL hS he
  have f51 : ((.polyT (by decide) (by decide) [] (.bool false) : FactL (Lr (none) (0)))).p (A.eval (.tmp 51)) w1 := he.1 rfl
  obtain ⟨v51, h51⟩ : ∃ v, A.eval (.tmp 51) = v := ⟨_, rfl⟩
  rw [h51] at f51
  refine goOn_plain rfl ?_
  obtain ⟨u, rfl, hu⟩ := f51
  refine stepG_value (c := u) rfl rfl (Below.refl _ _) hu ?_
  generalize A.eval = ev at *
  go_simp
 ·intro A w1 hA hL hS he
  have f51 : ((.polyT (by decide) (by decide) [] (.bool false) : FactL (Lr (none) (0)))).p (A.eval (.tmp 51)) w1 := he.1 rfl
  obtain ⟨v51, h51⟩ : ∃ v, A.eval (.tmp 51) = v := ⟨_, rfl⟩
  rw [h51] at f51
  refine goOn_plain rfl ?_
  obtain ⟨u, rfl, hu⟩ := f51
  refine stepG_pure rfl rfl ?_
  generalize A.eval = ev at *
  go_simp
 intro w6 hL
 simp only [TailL, FactL.eq, FactL.poly, FactL.polys, FactL.polyT, FactL.term, FactL.rat, FactL.ret, FactL.of, List.length_cons, List.length_nil, List.drop_succ_cons, List.drop_zero]
 rintro _ - _ - _ -
 go_frame
 have hb := hL.below
 replace hx := hx.on hb
 replace hsum := hsum.on hb
 replace hl := hl.on hb
 replace hq := hq.on hb
 replace hb0 := hb0.trans (hb.mono hb0.size)
 clear hL hb
 go_upto_region 7 with (fail)
 refine wp_region_S trivial (none) (0) (Okr.none) [.eq (vx), .eq (vx), .poly (by decide) (by decide) ([tm 1 2 0]), .term (by decide) (tm (2) (1) (0)), .term (by decide) (tm (1) (0) (1)), .poly (by decide) (by decide) ([tm 2 1 0, tm 1 0 1]), .poly (by decide) (by decide) ([tm 1 0 1, tm 2 1 0]), .polyT (by decide) (by decide) [tm 1 0 2] (.int .i64 0), .polyT (by decide) (by decide) [tm 1 0 2] (.int .i64 0), .poly (by decide) (by decide) ([tm 1 0 2]), .eq (.int .i64 0)] [56, 57, 58, 59, 60, 61, 62, 63, 55, 64, 65] rfl rfl rfl rfl ⟨?_, ?_, ?_, ?_, ?_, ?_, ?_, ?_, ?_, ?_, ?_, trivial⟩ ?_
 ·exact fun A w1 hA hL hS he => goOn_plain rfl (stepG_mv rfl rfl (hA 1 rfl))
 ·exact fun A w1 hA hL hS he => goOn_plain rfl (stepG_mv rfl rfl (hA 1 rfl))
 ·intro A w1 hA hL hS he
  have hb := hS rfl
  have h56 : A.eval (.tmp 56) = _ := he.1 rfl
  have h57 : A.eval (.tmp 57) = _ := he.2.1 rfl
  have hf0 : A.eval (.func 23) = .func (.func 23) #[] #[] := rfl
  refine goOn_plain rfl ?_
  refine stepG_call (f := 23) (args := #[vx, vx]) rfl rfl ?_ ?_
  ·generalize A.eval = ev at *
   go_simp
  ·refine (mulS sv_xx (by decide +kernel) (by decide +kernel) (hx.on hb) (hx.on hb)).mono ?_
   rintro e w' ⟨v, rfl, hi, hb'⟩
   exact ⟨_, rfl, hb', hi⟩
 ·intro A w1 hA hL hS he
  have hb := hS rfl
  have hf0 : A.eval (.func 55) = .func (.func 55) #[] #[] := rfl
  have hc0 : A.eval (.const (.int .i64 2)) = .int .i64 2 := rfl
  have hc1 : A.eval (.const (.int .i64 1)) = .int .i64 1 := rfl
  have hc2 : A.eval (.const (.int .i64 0)) = .int .i64 0 := rfl
  refine goOn_plain rfl ?_
  refine stepG_call (f := 55) (args := #[(.int .i64 2), (.int .i64 1), (.int .i64 0)]) rfl rfl ?_ ?_
  ·generalize A.eval = ev at *
   go_simp
  ·refine (term_any (2) (1) (0) _ (by omega) (by omega)).mono ?_
   rintro e w' ⟨cs, rfl, hi, hb'⟩
   exact ⟨_, rfl, hb', cs, rfl, hi⟩
 ·intro A w1 hA hL hS he
  have hb := hS rfl
  have hf0 : A.eval (.func 55) = .func (.func 55) #[] #[] := rfl
  have hc0 : A.eval (.const (.int .i64 1)) = .int .i64 1 := rfl
  have hc1 : A.eval (.const (.int .i64 0)) = .int .i64 0 := rfl
  refine goOn_plain rfl ?_
  refine stepG_call (f := 55) (args := #[(.int .i64 1), (.int .i64 0), (.int .i64 1)]) rfl rfl ?_ ?_
  ·generalize A.eval = ev at *
   go_simp
  ·refine (term_any (1) (0) (1) _ (by omega) (by omega)).mono ?_
   rintro e w' ⟨cs, rfl, hi, hb'⟩
   exact ⟨_, rfl, hb', cs, rfl, hi⟩
 ·intro A w1 hA hL hS he
  have f59 : ((.term (by decide) (tm (2) (1) (0)) : FactL (Lr (none) (0)))).p (A.eval (.tmp 59)) w1 := he.1 rfl
  obtain ⟨v59, h59⟩ : ∃ v, A.eval (.tmp 59) = v := ⟨_, rfl⟩
  rw [h59] at f59
  have f60 : ((.term (by decide) (tm (1) (0) (1)) : FactL (Lr (none) (0)))).p (A.eval (.tmp 60)) w1 := he.2.1 rfl
  obtain ⟨v60, h60⟩ : ∃ v, A.eval (.tmp 60) = v := ⟨_, rfl⟩
  rw [h60] at f60
  refine goOn_plain rfl ?_
  obtain ⟨c59, rfl, e59⟩ := f59
  obtain ⟨c60, rfl, e60⟩ := f60
  refine stepG_newT (ts := [tm 2 1 0, tm 1 0 1]) rfl rfl (⟨_, _, rfl, e59, ⟨_, _, rfl, e60, rfl⟩⟩) rfl (execOp_buildSlice rfl ?_) (fun _ _ h => h)
  simp only [List.map_toArray, List.map_cons, List.map_nil, h59, h60]
  exact run_newT2 _ _ _ (elTerm.len e59) (elTerm.len e60)
 ·intro A w1 hA hL hS he
  have hb := hS rfl
  have f61 : ((.poly (by decide) (by decide) ([tm 2 1 0, tm 1 0 1]) : FactL (Lr (none) (0)))).p (A.eval (.tmp 61)) w1 := he.1 rfl
  obtain ⟨v61, h61⟩ : ∃ v, A.eval (.tmp 61) = v := ⟨_, rfl⟩
  rw [h61] at f61
  have hf0 : A.eval (.func 14) = .func (.func 14) #[] #[] := rfl
  refine goOn_plain rfl ?_
  refine stepG_call (f := 14) (args := #[v61]) rfl rfl ?_ ?_
  ·generalize A.eval = ev at *
   go_simp
  ·refine (makeS sv_d (by decide +kernel) f61).mono ?_
   rintro e w' ⟨v, rfl, hi, hb'⟩
   exact ⟨_, rfl, hb', hi⟩
 ·intro A w1 hA hL hS he
  have hb := hS rfl
  have f58 : ((.poly (by decide) (by decide) ([tm 1 2 0]) : FactL (Lr (none) (0)))).p (A.eval (.tmp 58)) w1 := he.1 rfl
  obtain ⟨v58, h58⟩ : ∃ v, A.eval (.tmp 58) = v := ⟨_, rfl⟩
  rw [h58] at f58
  have f62 : ((.poly (by decide) (by decide) ([tm 1 0 1, tm 2 1 0]) : FactL (Lr (none) (0)))).p (A.eval (.tmp 62)) w1 := he.2.1 rfl
  obtain ⟨v62, h62⟩ : ∃ v, A.eval (.tmp 62) = v := ⟨_, rfl⟩
  rw [h62] at f62
  have hf0 : A.eval (.func 43) = .func (.func 43) #[] #[] := rfl
  have hc0 : A.eval (.const (.int .i64 0)) = .int .i64 0 := rfl
  refine goOn_plain rfl ?_
  refine stepG_call (f := 43) (args := #[v58, v62, (.int .i64 0)]) rfl rfl ?_ ?_
  ·generalize A.eval = ev at *
   go_simp
  ·refine (pseudoS f58 f62).mono ?_
   rintro e w' ⟨v, rfl, hi, hb'⟩
   exact ⟨_, rfl, hb', v, rfl, hi⟩
 ·intro A w1 hA hL hS he
  have f63 : ((.polyT (by decide) (by decide) [tm 1 0 2] (.int .i64 0) : FactL (Lr (none) (0)))).p (A.eval (.tmp 63)) w1 := he.1 rfl
  obtain ⟨v63, h63⟩ : ∃ v, A.eval (.tmp 63) = v := ⟨_, rfl⟩
  rw [h63] at f63
  refine goOn_plain rfl ?_
  exact stepG_value (c := v63) rfl rfl (Below.refl _ _) f63 (by show Result.ok (Next.value (A.eval (.tmp 63))) w1 = _; rw [h63])
 ·intro A w1 hA hL hS he
  have f55 : ((.polyT (by decide) (by decide) [tm 1 0 2] (.int .i64 0) : FactL (Lr (none) (0)))).p (A.eval (.tmp 55)) w1 := he.1 rfl
  obtain ⟨v55, h55⟩ : ∃ v, A.eval (.tmp 55) = v := ⟨_, rfl⟩
  rw [h55] at f55
  refine goOn_plain rfl ?_
  obtain ⟨u, rfl, hu⟩ := f55
  refine stepG_value (c := u) rfl rfl (Below.refl _ _) hu ?_
  generalize A.eval = ev at *
  go_simp
 ·intro A w1 hA hL hS he
  have f55 : ((.polyT (by decide) (by decide) [tm 1 0 2] (.int .i64 0) : FactL (Lr (none) (0)))).p (A.eval (.tmp 55)) w1 := he.1 rfl
  obtain ⟨v55, h55⟩ : ∃ v, A.eval (.tmp 55) = v := ⟨_, rfl⟩
  rw [h55] at f55
  refine goOn_plain rfl ?_
  obtain ⟨u, rfl, hu⟩ := f55
  refine stepG_pure rfl rfl ?_
  generalize A.eval = ev at *
  go_simp
 intro w7 hL
 simp only [TailL, FactL.eq, FactL.poly, FactL.polys, FactL.polyT, FactL.term, FactL.rat, FactL.ret, FactL.of, List.length_cons, List.length_nil, List.drop_succ_cons, List.drop_zero]
 rintro _ - _ - _ - _ - _ - _ - _ - vr hr
 go_frame
 have hb := hL.below
 replace hx := hx.on hb
 replace hsum := hsum.on hb
 replace hl := hl.on hb
 replace hq := hq.on hb
 replace hb0 := hb0.trans (hb.mono hb0.size)
 clear hL hb
 go_upto_region 8 with (fail)
 refine wp_region_S trivial (none) (0) (Okr.none) [.eq (vx), .polyT (by decide) (by decide) [] (.int .i64 3), .polyT (by decide) (by decide) [] (.int .i64 3), .poly (by decide) (by decide) ([]), .eq (.int .i64 3)] [67, 68, 66, 69, 70] rfl rfl rfl rfl ⟨?_, ?_, ?_, ?_, ?_, trivial⟩ ?_
 ·exact fun A w1 hA hL hS he => goOn_plain rfl (stepG_mv rfl rfl (hA 1 rfl))
 ·intro A w1 hA hL hS he
  have hb := hS rfl
  have h67 : A.eval (.tmp 67) = _ := he.1 rfl
  have hf0 : A.eval (.func 43) = .func (.func 43) #[] #[] := rfl
  have hc0 : A.eval (.const (.slice none 0 0)) = .slice none 0 0 := rfl
  have hc1 : A.eval (.const (.int .i64 0)) = .int .i64 0 := rfl
  refine goOn_plain rfl ?_
  refine stepG_call (f := 43) (args := #[vx, (.slice none 0 0), (.int .i64 0)]) rfl rfl ?_ ?_
  ·generalize A.eval = ev at *
   go_simp
  ·refine (pseudo_nil _ _ 0 [] _ (IsSl.nil _ _)).mono ?_
   rintro e w' ⟨v, rfl, hi, hb'⟩
   exact ⟨_, rfl, hb', v, rfl, hi⟩
 ·intro A w1 hA hL hS he
  have f68 : ((.polyT (by decide) (by decide) [] (.int .i64 3) : FactL (Lr (none) (0)))).p (A.eval (.tmp 68)) w1 := he.1 rfl
  obtain ⟨v68, h68⟩ : ∃ v, A.eval (.tmp 68) = v := ⟨_, rfl⟩
  rw [h68] at f68
  refine goOn_plain rfl ?_
  exact stepG_value (c := v68) rfl rfl (Below.refl _ _) f68 (by show Result.ok (Next.value (A.eval (.tmp 68))) w1 = _; rw [h68])
 ·intro A w1 hA hL hS he
  have f66 : ((.polyT (by decide) (by decide) [] (.int .i64 3) : FactL (Lr (none) (0)))).p (A.eval (.tmp 66)) w1 := he.1 rfl
  obtain ⟨v66, h66⟩ : ∃ v, A.eval (.tmp 66) = v := ⟨_, rfl⟩
  rw [h66] at f66
  refine goOn_plain rfl ?_
  obtain ⟨u, rfl, hu⟩ := f66
  refine stepG_value (c := u) rfl rfl (Below.refl _ _) hu ?_
  generalize A.eval = ev at *
  go_simp
 ·intro A w1 hA hL hS he
  have f66 : ((.polyT (by decide) (by decide) [] (.int .i64 3) : FactL (Lr (none) (0)))).p (A.eval (.tmp 66)) w1 := he.1 rfl
  obtain ⟨v66, h66⟩ : ∃ v, A.eval (.tmp 66) = v := ⟨_, rfl⟩
  rw [h66] at f66
  refine goOn_plain rfl ?_
  obtain ⟨u, rfl, hu⟩ := f66
  refine stepG_pure rfl rfl ?_
  generalize A.eval = ev at *
  go_simp
 intro w8 hL
 simp only [TailL, FactL.eq, FactL.poly, FactL.polys, FactL.polyT, FactL.term, FactL.rat, FactL.ret, FactL.of, List.length_cons, List.length_nil, List.drop_succ_cons, List.drop_zero]
 rintro _ - _ - _ -
 go_frame
 have hb := hL.below
 replace hx := hx.on hb
 replace hsum := hsum.on hb
 replace hl := hl.on hb
 replace hq := hq.on hb
 replace hr := hr.on hb
 replace hb0 := hb0.trans (hb.mono hb0.size)
 clear hL hb
 go_upto_region 9 with (fail)
 refine wp_region_S trivial (none) (0) (Okr.none) [.term (by decide) (tm (1) (2) (1)), .poly (by decide) (by decide) ([tm 1 2 1]), .poly (by decide) (by decide) ([tm 1 2 1]), .eq (vx), .rat (by decide) (((1 : Int) : Rat)), .poly (by decide) (by decide) ([tm 1 0 0]), .poly (by decide) (by decide) ([tm 1 1 0, tm 1 0 0]), .poly (by decide) (by decide) ([tm 1 2 1, tm 2 1 1, tm 1 0 1])] [71, 72, 73, 74, 75, 76, 77, 78] rfl rfl rfl rfl ⟨?_, ?_, ?_, ?_, ?_, ?_, ?_, ?_, trivial⟩ ?_
 ·intro A w1 hA hL hS he
  have hb := hS rfl
  have hf0 : A.eval (.func 55) = .func (.func 55) #[] #[] := rfl
  have hc0 : A.eval (.const (.int .i64 1)) = .int .i64 1 := rfl
  have hc1 : A.eval (.const (.int .i64 2)) = .int .i64 2 := rfl
  refine goOn_plain rfl ?_
  refine stepG_call (f := 55) (args := #[(.int .i64 1), (.int .i64 2), (.int .i64 1)]) rfl rfl ?_ ?_
  ·generalize A.eval = ev at *
   go_simp
  ·refine (term_any (1) (2) (1) _ (by omega) (by omega)).mono ?_
   rintro e w' ⟨cs, rfl, hi, hb'⟩
   exact ⟨_, rfl, hb', cs, rfl, hi⟩
 ·intro A w1 hA hL hS he
  have f71 : ((.term (by decide) (tm (1) (2) (1)) : FactL (Lr (none) (0)))).p (A.eval (.tmp 71)) w1 := he.1 rfl
  obtain ⟨v71, h71⟩ : ∃ v, A.eval (.tmp 71) = v := ⟨_, rfl⟩
  rw [h71] at f71
  refine goOn_plain rfl ?_
  obtain ⟨c71, rfl, e71⟩ := f71
  refine stepG_newT (ts := [tm 1 2 1]) rfl rfl (⟨_, _, rfl, e71, rfl⟩) rfl (execOp_buildSlice rfl ?_) (fun _ _ h => h)
  simp only [List.map_toArray, List.map_cons, List.map_nil, h71]
  exact run_newT1 _ _ (elTerm.len e71)
 ·intro A w1 hA hL hS he
  have hb := hS rfl
  have f72 : ((.poly (by decide) (by decide) ([tm 1 2 1]) : FactL (Lr (none) (0)))).p (A.eval (.tmp 72)) w1 := he.1 rfl
  obtain ⟨v72, h72⟩ : ∃ v, A.eval (.tmp 72) = v := ⟨_, rfl⟩
  rw [h72] at f72
  have hf0 : A.eval (.func 14) = .func (.func 14) #[] #[] := rfl
  refine goOn_plain rfl ?_
  refine stepG_call (f := 14) (args := #[v72]) rfl rfl ?_ ?_
  ·generalize A.eval = ev at *
   go_simp
  ·refine (makeS sv_s0 (by decide +kernel) f72).mono ?_
   rintro e w' ⟨v, rfl, hi, hb'⟩
   exact ⟨_, rfl, hb', hi⟩
 ·exact fun A w1 hA hL hS he => goOn_plain rfl (stepG_mv rfl rfl (hA 1 rfl))
 ·intro A w1 hA hL hS he
  have hb := hS rfl
  have hf0 : A.eval (.func 13) = .func (.func 13) #[] #[] := rfl
  have hc0 : A.eval (.const (.int .i64 1)) = .int .i64 1 := rfl
  refine goOn_plain rfl ?_
  refine stepG_call (f := 13) (args := #[(.int .i64 1)]) rfl rfl ?_ ?_
  ·generalize A.eval = ev at *
   go_simp
  ·refine (whole2_any 1 _ (by omega) (by omega)).mono ?_
   rintro e w' ⟨v, rfl, hi, hb'⟩
   exact ⟨_, rfl, hb', hi⟩
 ·intro A w1 hA hL hS he
  have hb := hS rfl
  have f75 : ((.rat (by decide) (((1 : Int) : Rat)) : FactL (Lr (none) (0)))).p (A.eval (.tmp 75)) w1 := he.1 rfl
  obtain ⟨v75, h75⟩ : ∃ v, A.eval (.tmp 75) = v := ⟨_, rfl⟩
  rw [h75] at f75
  have hf0 : A.eval (.func 27) = .func (.func 27) #[] #[] := rfl
  refine goOn_plain rfl ?_
  refine stepG_call (f := 27) (args := #[v75]) rfl rfl ?_ ?_
  ·generalize A.eval = ev at *
   go_simp
  ·refine (constS sv_one f75).mono ?_
   rintro e w' ⟨v, rfl, hi, hb'⟩
   exact ⟨_, rfl, hb', hi⟩
 ·intro A w1 hA hL hS he
  have hb := hS rfl
  have h74 : A.eval (.tmp 74) = _ := he.1 rfl
  have f76 : ((.poly (by decide) (by decide) ([tm 1 0 0]) : FactL (Lr (none) (0)))).p (A.eval (.tmp 76)) w1 := he.2.1 rfl
  obtain ⟨v76, h76⟩ : ∃ v, A.eval (.tmp 76) = v := ⟨_, rfl⟩
  rw [h76] at f76
  have hf0 : A.eval (.func 25) = .func (.func 25) #[] #[] := rfl
  refine goOn_plain rfl ?_
  refine stepG_call (f := 25) (args := #[vx, v76]) rfl rfl ?_ ?_
  ·generalize A.eval = ev at *
   go_simp
  ·refine (addS sv_x1 (by decide +kernel) (by decide +kernel) (hx.on hb) f76).mono ?_
   rintro e w' ⟨v, rfl, hi, hb'⟩
   exact ⟨_, rfl, hb', hi⟩
 ·intro A w1 hA hL hS he
  have hb := hS rfl
  have f73 : ((.poly (by decide) (by decide) ([tm 1 2 1]) : FactL (Lr (none) (0)))).p (A.eval (.tmp 73)) w1 := he.1 rfl
  obtain ⟨v73, h73⟩ : ∃ v, A.eval (.tmp 73) = v := ⟨_, rfl⟩
  rw [h73] at f73
  have f77 : ((.poly (by decide) (by decide) ([tm 1 1 0, tm 1 0 0]) : FactL (Lr (none) (0)))).p (A.eval (.tmp 77)) w1 := he.2.1 rfl
  obtain ⟨v77, h77⟩ : ∃ v, A.eval (.tmp 77) = v := ⟨_, rfl⟩
  rw [h77] at f77
  have hf0 : A.eval (.func 50) = .func (.func 50) #[] #[] := rfl
  have hc0 : A.eval (.const (.int .i64 0)) = .int .i64 0 := rfl
  refine goOn_plain rfl ?_
  refine stepG_call (f := 50) (args := #[v73, (.int .i64 0), v77]) rfl rfl ?_ ?_
  ·generalize A.eval = ev at *
   go_simp
  ·refine (substS f73 f77).mono ?_
   rintro e w' ⟨v, rfl, hi, hb'⟩
   exact ⟨_, rfl, hb', hi⟩
 intro w9 hL
 simp only [TailL, FactL.eq, FactL.poly, FactL.polys, FactL.polyT, FactL.term, FactL.rat, FactL.ret, FactL.of, List.length_cons, List.length_nil, List.drop_succ_cons, List.drop_zero]
 rintro _ - _ - _ - _ - _ - _ - vs hs
 go_frame
 have hb := hL.below
 replace hx := hx.on hb
 replace hsum := hsum.on hb
 replace hl := hl.on hb
 replace hq := hq.on hb
 replace hr := hr.on hb
 replace hb0 := hb0.trans (hb.mono hb0.size)
 clear hL hb
 go_upto_region 10 with (fail)
 refine wp_region_S trivial (none) (0) (Okr.none) [.eq (vl), .poly (by decide) (by decide) ([tm 3 0 0]), .term (by decide) (tm (1) (1) (0)), .term (by decide) (tm (1) (0) (0)), .poly (by decide) (by decide) ([tm 1 1 0, tm 1 0 0]), .poly (by decide) (by decide) ([tm 1 1 0, tm 1 0 0]), .polys (by decide) (by decide) (by decide) ([[tm 3 0 0], [tm 1 1 0, tm 1 0 0]]), .ret (.bool true)] [79, 80, 81, 82, 83, 84, 85, 86] rfl rfl rfl rfl ⟨?_, ?_, ?_, ?_, ?_, ?_, ?_, ?_, trivial⟩ ?_
 ·exact fun A w1 hA hL hS he => goOn_plain rfl (stepG_mv rfl rfl (hA 4 rfl))
 ·intro A w1 hA hL hS he
  have hb := hS rfl
  have hf0 : A.eval (.func 42) = .func (.func 42) #[] #[] := rfl
  have hc0 : A.eval (.const (.int .i64 3)) = .int .i64 3 := rfl
  refine goOn_plain rfl ?_
  refine stepG_call (f := 42) (args := #[(.int .i64 3)]) rfl rfl ?_ ?_
  ·generalize A.eval = ev at *
   go_simp
  ·refine (whole7S (n := 3) sv_three (by omega) (by omega) (by decide +kernel)).mono ?_
   rintro e w' ⟨v, rfl, hi, hb'⟩
   exact ⟨_, rfl, hb', hi⟩
 ·intro A w1 hA hL hS he
  have hb := hS rfl
  have hf0 : A.eval (.func 55) = .func (.func 55) #[] #[] := rfl
  have hc0 : A.eval (.const (.int .i64 1)) = .int .i64 1 := rfl
  have hc1 : A.eval (.const (.int .i64 0)) = .int .i64 0 := rfl
  refine goOn_plain rfl ?_
  refine stepG_call (f := 55) (args := #[(.int .i64 1), (.int .i64 1), (.int .i64 0)]) rfl rfl ?_ ?_
  ·generalize A.eval = ev at *
   go_simp
  ·refine (term_any (1) (1) (0) _ (by omega) (by omega)).mono ?_
   rintro e w' ⟨cs, rfl, hi, hb'⟩
   exact ⟨_, rfl, hb', cs, rfl, hi⟩
 ·intro A w1 hA hL hS he
  have hb := hS rfl
  have hf0 : A.eval (.func 55) = .func (.func 55) #[] #[] := rfl
  have hc0 : A.eval (.const (.int .i64 1)) = .int .i64 1 := rfl
  have hc1 : A.eval (.const (.int .i64 0)) = .int .i64 0 := rfl
  refine goOn_plain rfl ?_
  refine stepG_call (f := 55) (args := #[(.int .i64 1), (.int .i64 0), (.int .i64 0)]) rfl rfl ?_ ?_
  ·generalize A.eval = ev at *
   go_simp
  ·refine (term_any (1) (0) (0) _ (by omega) (by omega)).mono ?_
   rintro e w' ⟨cs, rfl, hi, hb'⟩
   exact ⟨_, rfl, hb', cs, rfl, hi⟩
 ·intro A w1 hA hL hS he
  have f81 : ((.term (by decide) (tm (1) (1) (0)) : FactL (Lr (none) (0)))).p (A.eval (.tmp 81)) w1 := he.1 rfl
  obtain ⟨v81, h81⟩ : ∃ v, A.eval (.tmp 81) = v := ⟨_, rfl⟩
  rw [h81] at f81
  have f82 : ((.term (by decide) (tm (1) (0) (0)) : FactL (Lr (none) (0)))).p (A.eval (.tmp 82)) w1 := he.2.1 rfl
  obtain ⟨v82, h82⟩ : ∃ v, A.eval (.tmp 82) = v := ⟨_, rfl⟩
  rw [h82] at f82
  refine goOn_plain rfl ?_
  obtain ⟨c81, rfl, e81⟩ := f81
  obtain ⟨c82, rfl, e82⟩ := f82
  refine stepG_newT (ts := [tm 1 1 0, tm 1 0 0]) rfl rfl (⟨_, _, rfl, e81, ⟨_, _, rfl, e82, rfl⟩⟩) rfl (execOp_buildSlice rfl ?_) (fun _ _ h => h)
  simp only [List.map_toArray, List.map_cons, List.map_nil, h81, h82]
  exact run_newT2 _ _ _ (elTerm.len e81) (elTerm.len e82)
 ·intro A w1 hA hL hS he
  have hb := hS rfl
  have f83 : ((.poly (by decide) (by decide) ([tm 1 1 0, tm 1 0 0]) : FactL (Lr (none) (0)))).p (A.eval (.tmp 83)) w1 := he.1 rfl
  obtain ⟨v83, h83⟩ : ∃ v, A.eval (.tmp 83) = v := ⟨_, rfl⟩
  rw [h83] at f83
  have hf0 : A.eval (.func 18) = .func (.func 18) #[] #[] := rfl
  refine goOn_plain rfl ?_
  refine stepG_call (f := 18) (args := #[v83]) rfl rfl ?_ ?_
  ·generalize A.eval = ev at *
   go_simp
  ·refine (make7S sv_cc (by decide +kernel) f83).mono ?_
   rintro e w' ⟨v, rfl, hi, hb'⟩
   exact ⟨_, rfl, hb', hi⟩
 ·intro A w1 hA hL hS he
  have f80 : ((.poly (by decide) (by decide) ([tm 3 0 0]) : FactL (Lr (none) (0)))).p (A.eval (.tmp 80)) w1 := he.1 rfl
  obtain ⟨v80, h80⟩ : ∃ v, A.eval (.tmp 80) = v := ⟨_, rfl⟩
  rw [h80] at f80
  have f84 : ((.poly (by decide) (by decide) ([tm 1 1 0, tm 1 0 0]) : FactL (Lr (none) (0)))).p (A.eval (.tmp 84)) w1 := he.2.1 rfl
  obtain ⟨v84, h84⟩ : ∃ v, A.eval (.tmp 84) = v := ⟨_, rfl⟩
  rw [h84] at f84
  refine goOn_plain rfl ?_
  have q80 := f80
  have q84 := f84
  obtain ⟨a80, c80, rfl, -⟩ := q80.shape
  obtain ⟨a84, c84, rfl, -⟩ := q84.shape
  refine stepG_newL2 rfl rfl f80 f84 ?_ (fun _ _ h => h)
  generalize A.eval = ev at *
  go_simp
 ·intro A w1 hA hL hS he
  have hb := hS rfl
  have h79 : A.eval (.tmp 79) = _ := he.1 rfl
  have f85 : ((.polys (by decide) (by decide) (by decide) ([[tm 3 0 0], [tm 1 1 0, tm 1 0 0]]) : FactL (Lr (none) (0)))).p (A.eval (.tmp 85)) w1 := he.2.1 rfl
  obtain ⟨v85, h85⟩ : ∃ v, A.eval (.tmp 85) = v := ⟨_, rfl⟩
  rw [h85] at f85
  have hf0 : A.eval (.func 38) = .func (.func 38) #[] #[] := rfl
  refine goOn_plain rfl ?_
  refine stepG_call (f := 38) (args := #[vl, v85]) rfl rfl ?_ ?_
  ·generalize A.eval = ev at *
   go_simp
  ·refine (sameListS (b := true) (by decide +kernel) (by decide +kernel) (by decide +kernel) (by decide +kernel) (hl.on hb) f85).mono ?_
   rintro e w' ⟨rfl, hb'⟩
   exact ⟨_, rfl, hb', rfl⟩
 intro w10 hL
 simp only [TailL, FactL.eq, FactL.poly, FactL.polys, FactL.polyT, FactL.term, FactL.rat, FactL.ret, FactL.of, List.length_cons, List.length_nil, List.drop_succ_cons, List.drop_zero]
 intros
 go_frame
 have hb := hL.below
 replace hx := hx.on hb
 replace hsum := hsum.on hb
 replace hq := hq.on hb
 replace hr := hr.on hb
 replace hs := hs.on hb
 replace hb0 := hb0.trans (hb.mono hb0.size)
 clear hL hb
 go_upto_region 11 with (fail)
 refine wp_region_S trivial (none) (0) (Okr.none) [.eq (.bool true), .eq (.bool true), .eq (.bool false), .eq (.bool true), .eq (.bool true), .eq (.bool true), .eq (.bool false), .eq (.bool true), .eq (.bool true), .eq (.bool true), .eq (vq), .term (by decide) (tm (1) (1) (0)), .term (by decide) (tm (-1) (0) (1)), .poly (by decide) (by decide) ([tm 1 1 0, tm (-1) 0 1]), .poly (by decide) (by decide) ([tm (-1) 0 1, tm 1 1 0]), .ret (.bool true), .eq (.bool true), .eq (.bool true), .eq (.int .i64 0), .eq (.bool true), .eq (.bool true), .eq (.bool true), .eq (vr), .term (by decide) (tm (1) (0) (2)), .poly (by decide) (by decide) ([tm 1 0 2]), .poly (by decide) (by decide) ([tm 1 0 2]), .ret (.bool true), .eq (.bool true), .eq (.bool true), .eq (.int .i64 3), .eq (.bool true), .eq (.bool true)] [87, 88, 89, 90, 91, 92, 93, 94, 95, 96, 97, 98, 99, 100, 101, 102, 103, 104, 105, 106, 107, 108, 109, 110, 111, 112, 113, 114, 115, 116, 117, 118] rfl rfl rfl rfl ⟨?_, ?_, ?_, ?_, ?_, ?_, ?_, ?_, ?_, ?_, ?_, ?_, ?_, ?_, ?_, ?_, ?_, ?_, ?_, ?_, ?_, ?_, ?_, ?_, ?_, ?_, ?_, ?_, ?_, ?_, ?_, ?_, trivial⟩ ?_
 ·exact fun A w1 hA hL hS he => goOn_plain rfl (stepG_mv rfl rfl (hA 6 rfl))
 ·exact fun A w1 hA hL hS he => goOn_plain rfl (stepG_mv rfl rfl (he.1 rfl))
 ·exact fun A w1 hA hL hS he => goOn_yes rfl rfl (he.1 rfl) (stepG_mv rfl rfl (hA 8 rfl))
 ·intro A w1 hA hL hS he
  have h88 : A.eval (.tmp 88) = _ := he.2.1 rfl
  have h89 : A.eval (.tmp 89) = _ := he.1 rfl
  refine goOn_yes rfl rfl h88 ?_
  refine stepG_pure rfl rfl ?_
  generalize A.eval = ev at *
  go_simp
 ·exact fun A w1 hA hL hS he => goOn_plain rfl (stepG_pk rfl (he.1 rfl) rfl (he.2.1 rfl))
 ·exact fun A w1 hA hL hS he => goOn_plain rfl (stepG_mv rfl rfl (he.1 rfl))
 ·exact fun A w1 hA hL hS he => goOn_yes rfl rfl (he.1 rfl) (stepG_mv rfl rfl (hA 10 rfl))
 ·intro A w1 hA hL hS he
  have h92 : A.eval (.tmp 92) = _ := he.2.1 rfl
  have h93 : A.eval (.tmp 93) = _ := he.1 rfl
  refine goOn_yes rfl rfl h92 ?_
  refine stepG_pure rfl rfl ?_
  generalize A.eval = ev at *
  go_simp
 ·exact fun A w1 hA hL hS he => goOn_plain rfl (stepG_pk rfl (he.1 rfl) rfl (he.2.1 rfl))
 ·exact fun A w1 hA hL hS he => goOn_plain rfl (stepG_mv rfl rfl (he.1 rfl))
 ·exact fun A w1 hA hL hS he => goOn_yes rfl rfl (he.1 rfl) (stepG_mv rfl rfl (hA 5 rfl))
 ·intro A w1 hA hL hS he
  have hb := hS rfl
  have h96 : A.eval (.tmp 96) = _ := he.1 rfl
  have hf0 : A.eval (.func 55) = .func (.func 55) #[] #[] := rfl
  have hc0 : A.eval (.const (.int .i64 1)) = .int .i64 1 := rfl
  have hc1 : A.eval (.const (.int .i64 0)) = .int .i64 0 := rfl
  refine goOn_yes rfl rfl h96 ?_
  refine stepG_call (f := 55) (args := #[(.int .i64 1), (.int .i64 1), (.int .i64 0)]) rfl rfl ?_ ?_
  ·generalize A.eval = ev at *
   go_simp
  ·refine (term_any (1) (1) (0) _ (by omega) (by omega)).mono ?_
   rintro e w' ⟨cs, rfl, hi, hb'⟩
   exact ⟨_, rfl, hb', cs, rfl, hi⟩
 ·intro A w1 hA hL hS he
  have hb := hS rfl
  have h96 : A.eval (.tmp 96) = _ := he.2.1 rfl
  have hf0 : A.eval (.func 55) = .func (.func 55) #[] #[] := rfl
  have hc0 : A.eval (.const (.int .i64 (-1))) = .int .i64 (-1) := rfl
  have hc1 : A.eval (.const (.int .i64 0)) = .int .i64 0 := rfl
  have hc2 : A.eval (.const (.int .i64 1)) = .int .i64 1 := rfl
  refine goOn_yes rfl rfl h96 ?_
  refine stepG_call (f := 55) (args := #[(.int .i64 (-1)), (.int .i64 0), (.int .i64 1)]) rfl rfl ?_ ?_
  ·generalize A.eval = ev at *
   go_simp
  ·refine (term_any (-1) (0) (1) _ (by omega) (by omega)).mono ?_
   rintro e w' ⟨cs, rfl, hi, hb'⟩
   exact ⟨_, rfl, hb', cs, rfl, hi⟩
 ·intro A w1 hA hL hS he
  have h96 : A.eval (.tmp 96) = _ := he.2.2.1 rfl
  have f98 : ((.term (by decide) (tm (1) (1) (0)) : FactL (Lr (none) (0)))).p (A.eval (.tmp 98)) w1 := he.1 rfl
  obtain ⟨v98, h98⟩ : ∃ v, A.eval (.tmp 98) = v := ⟨_, rfl⟩
  rw [h98] at f98
  have f99 : ((.term (by decide) (tm (-1) (0) (1)) : FactL (Lr (none) (0)))).p (A.eval (.tmp 99)) w1 := he.2.1 rfl
  obtain ⟨v99, h99⟩ : ∃ v, A.eval (.tmp 99) = v := ⟨_, rfl⟩
  rw [h99] at f99
  refine goOn_yes rfl rfl h96 ?_
  obtain ⟨c98, rfl, e98⟩ := f98
  obtain ⟨c99, rfl, e99⟩ := f99
  refine stepG_newT (ts := [tm 1 1 0, tm (-1) 0 1]) rfl rfl (⟨_, _, rfl, e98, ⟨_, _, rfl, e99, rfl⟩⟩) rfl (execOp_buildSlice rfl ?_) (fun _ _ h => h)
  simp only [List.map_toArray, List.map_cons, List.map_nil, h98, h99]
  exact run_newT2 _ _ _ (elTerm.len e98) (elTerm.len e99)
 ·intro A w1 hA hL hS he
  have hb := hS rfl
  have h96 : A.eval (.tmp 96) = _ := he.2.2.1 rfl
  have f100 : ((.poly (by decide) (by decide) ([tm 1 1 0, tm (-1) 0 1]) : FactL (Lr (none) (0)))).p (A.eval (.tmp 100)) w1 := he.1 rfl
  obtain ⟨v100, h100⟩ : ∃ v, A.eval (.tmp 100) = v := ⟨_, rfl⟩
  rw [h100] at f100
  have hf0 : A.eval (.func 18) = .func (.func 18) #[] #[] := rfl
  refine goOn_yes rfl rfl h96 ?_
  refine stepG_call (f := 18) (args := #[v100]) rfl rfl ?_ ?_
  ·generalize A.eval = ev at *
   go_simp
  ·refine (make7S sv_q (by decide +kernel) f100).mono ?_
   rintro e w' ⟨v, rfl, hi, hb'⟩
   exact ⟨_, rfl, hb', hi⟩
 ·intro A w1 hA hL hS he
  have hb := hS rfl
  have h96 : A.eval (.tmp 96) = _ := he.2.2.2.1 rfl
  have h97 : A.eval (.tmp 97) = _ := he.1 rfl
  have f101 : ((.poly (by decide) (by decide) ([tm (-1) 0 1, tm 1 1 0]) : FactL (Lr (none) (0)))).p (A.eval (.tmp 101)) w1 := he.2.1 rfl
  obtain ⟨v101, h101⟩ : ∃ v, A.eval (.tmp 101) = v := ⟨_, rfl⟩
  rw [h101] at f101
  have hf0 : A.eval (.func 17) = .func (.func 17) #[] #[] := rfl
  refine goOn_yes rfl rfl h96 ?_
  refine stepG_call (f := 17) (args := #[vq, v101]) rfl rfl ?_ ?_
  ·generalize A.eval = ev at *
   go_simp
  ·refine (same7S (b := true) (by decide +kernel) (by decide +kernel) (by decide +kernel) (hq.on hb) f101).mono ?_
   rintro e w' ⟨rfl, hb'⟩
   exact ⟨_, rfl, hb', rfl⟩
 ·exact fun A w1 hA hL hS he => goOn_plain rfl (stepG_pk rfl (he.1 rfl) rfl (he.2.1 rfl))
 ·exact fun A w1 hA hL hS he => goOn_plain rfl (stepG_mv rfl rfl (he.1 rfl))
 ·exact fun A w1 hA hL hS he => goOn_yes rfl rfl (he.1 rfl) (stepG_mv rfl rfl (hA 12 rfl))
 ·intro A w1 hA hL hS he
  have h104 : A.eval (.tmp 104) = _ := he.2.1 rfl
  have h105 : A.eval (.tmp 105) = _ := he.1 rfl
  have hc0 : A.eval (.const (.int .i64 0)) = .int .i64 0 := rfl
  refine goOn_yes rfl rfl h104 ?_
  refine stepG_pure rfl rfl ?_
  generalize A.eval = ev at *
  go_simp
 ·exact fun A w1 hA hL hS he => goOn_plain rfl (stepG_pk rfl (he.1 rfl) rfl (he.2.1 rfl))
 ·exact fun A w1 hA hL hS he => goOn_plain rfl (stepG_mv rfl rfl (he.1 rfl))
 ·exact fun A w1 hA hL hS he => goOn_yes rfl rfl (he.1 rfl) (stepG_mv rfl rfl (hA 11 rfl))
 ·intro A w1 hA hL hS he
  have hb := hS rfl
  have h108 : A.eval (.tmp 108) = _ := he.1 rfl
  have hf0 : A.eval (.func 55) = .func (.func 55) #[] #[] := rfl
  have hc0 : A.eval (.const (.int .i64 1)) = .int .i64 1 := rfl
  have hc1 : A.eval (.const (.int .i64 0)) = .int .i64 0 := rfl
  have hc2 : A.eval (.const (.int .i64 2)) = .int .i64 2 := rfl
  refine goOn_yes rfl rfl h108 ?_
  refine stepG_call (f := 55) (args := #[(.int .i64 1), (.int .i64 0), (.int .i64 2)]) rfl rfl ?_ ?_
  ·generalize A.eval = ev at *
   go_simp
  ·refine (term_any (1) (0) (2) _ (by omega) (by omega)).mono ?_
   rintro e w' ⟨cs, rfl, hi, hb'⟩
   exact ⟨_, rfl, hb', cs, rfl, hi⟩
 ·intro A w1 hA hL hS he
  have h108 : A.eval (.tmp 108) = _ := he.2.1 rfl
  have f110 : ((.term (by decide) (tm (1) (0) (2)) : FactL (Lr (none) (0)))).p (A.eval (.tmp 110)) w1 := he.1 rfl
  obtain ⟨v110, h110⟩ : ∃ v, A.eval (.tmp 110) = v := ⟨_, rfl⟩
  rw [h110] at f110
  refine goOn_yes rfl rfl h108 ?_
  obtain ⟨c110, rfl, e110⟩ := f110
  refine stepG_newT (ts := [tm 1 0 2]) rfl rfl (⟨_, _, rfl, e110, rfl⟩) rfl (execOp_buildSlice rfl ?_) (fun _ _ h => h)
  simp only [List.map_toArray, List.map_cons, List.map_nil, h110]
  exact run_newT1 _ _ (elTerm.len e110)
 ·intro A w1 hA hL hS he
  have hb := hS rfl
  have h108 : A.eval (.tmp 108) = _ := he.2.2.1 rfl
  have f111 : ((.poly (by decide) (by decide) ([tm 1 0 2]) : FactL (Lr (none) (0)))).p (A.eval (.tmp 111)) w1 := he.1 rfl
  obtain ⟨v111, h111⟩ : ∃ v, A.eval (.tmp 111) = v := ⟨_, rfl⟩
  rw [h111] at f111
  have hf0 : A.eval (.func 18) = .func (.func 18) #[] #[] := rfl
  refine goOn_yes rfl rfl h108 ?_
  refine stepG_call (f := 18) (args := #[v111]) rfl rfl ?_ ?_
  ·generalize A.eval = ev at *
   go_simp
  ·refine (make7S (r := [tm 1 0 2]) (by decide +kernel) (by decide +kernel) f111).mono ?_
   rintro e w' ⟨v, rfl, hi, hb'⟩
   exact ⟨_, rfl, hb', hi⟩
 ·intro A w1 hA hL hS he
  have hb := hS rfl
  have h108 : A.eval (.tmp 108) = _ := he.2.2.2.1 rfl
  have h109 : A.eval (.tmp 109) = _ := he.1 rfl
  have f112 : ((.poly (by decide) (by decide) ([tm 1 0 2]) : FactL (Lr (none) (0)))).p (A.eval (.tmp 112)) w1 := he.2.1 rfl
  obtain ⟨v112, h112⟩ : ∃ v, A.eval (.tmp 112) = v := ⟨_, rfl⟩
  rw [h112] at f112
  have hf0 : A.eval (.func 17) = .func (.func 17) #[] #[] := rfl
  refine goOn_yes rfl rfl h108 ?_
  refine stepG_call (f := 17) (args := #[vr, v112]) rfl rfl ?_ ?_
  ·generalize A.eval = ev at *
   go_simp
  ·refine (same7S (b := true) (by decide +kernel) (by decide +kernel) (by decide +kernel) (hr.on hb) f112).mono ?_
   rintro e w' ⟨rfl, hb'⟩
   exact ⟨_, rfl, hb', rfl⟩
 ·exact fun A w1 hA hL hS he => goOn_plain rfl (stepG_pk rfl (he.1 rfl) rfl (he.2.1 rfl))
 ·exact fun A w1 hA hL hS he => goOn_plain rfl (stepG_mv rfl rfl (he.1 rfl))
 ·exact fun A w1 hA hL hS he => goOn_yes rfl rfl (he.1 rfl) (stepG_mv rfl rfl (hA 14 rfl))
 ·intro A w1 hA hL hS he
  have h115 : A.eval (.tmp 115) = _ := he.2.1 rfl
  have h116 : A.eval (.tmp 116) = _ := he.1 rfl
  have hc0 : A.eval (.const (.int .i64 3)) = .int .i64 3 := rfl
  refine goOn_yes rfl rfl h115 ?_
  refine stepG_pure rfl rfl ?_
  generalize A.eval = ev at *
  go_simp
 ·exact fun A w1 hA hL hS he => goOn_plain rfl (stepG_pk rfl (he.1 rfl) rfl (he.2.1 rfl))
 intro w11 hL
 simp only [TailL, FactL.eq, FactL.poly, FactL.polys, FactL.polyT, FactL.term, FactL.rat, FactL.ret, FactL.of, List.length_cons, List.length_nil, List.drop_succ_cons, List.drop_zero]
 intros
 go_frame
 have hb := hL.below
 replace hx := hx.on hb
 replace hsum := hsum.on hb
 replace hs := hs.on hb
 replace hb0 := hb0.trans (hb.mono hb0.size)
 clear hL hb
 go_upto_region 12 with (fail)
 refine wp_region_S trivial (none) (0) (Okr.none) [.ret (.bool true), .eq (.bool true), .eq (vsum), .ret (.bool true), .eq (.bool true), .eq (.bool true), .term (by decide) (tm (1) (0) (0)), .term (by decide) (tm (1) (1) (0)), .poly (by decide) (by decide) ([tm 1 0 0, tm 1 1 0]), .ret (.bool false), .eq (.bool true), .eq (.bool true), .eq (.bool true), .term (by decide) (tm (0) (1) (0)), .poly (by decide) (by decide) ([tm 0 1 0]), .ret (.bool false), .eq (.bool true), .eq (.bool true), .eq (.bool true), .term (by decide) (tm (1) (-1) (0)), .poly (by decide) (by decide) ([tm 1 (-1) 0]), .ret (.bool false), .eq (.bool true), .eq (.bool true)] [119, 120, 121, 122, 123, 124, 125, 126, 127, 128, 129, 130, 131, 132, 133, 134, 135, 136, 137, 138, 139, 140, 141, 142] rfl rfl rfl rfl ⟨?_, ?_, ?_, ?_, ?_, ?_, ?_, ?_, ?_, ?_, ?_, ?_, ?_, ?_, ?_, ?_, ?_, ?_, ?_, ?_, ?_, ?_, ?_, ?_, trivial⟩ ?_
 ·intro A w1 hA hL hS he
  have hb := hS rfl
  have hf0 : A.eval (.func 16) = .func (.func 16) #[] #[] := rfl
  have hc0 : A.eval (.const (.slice none 0 0)) = .slice none 0 0 := rfl
  refine goOn_plain rfl ?_
  refine stepG_call (f := 16) (args := #[(.slice none 0 0)]) rfl rfl ?_ ?_
  ·generalize A.eval = ev at *
   go_simp
  ·refine (validS (b := true) (p := []) (by decide +kernel) (by decide +kernel) (IsSl.nil _ _)).mono ?_
   rintro e w' ⟨rfl, hb'⟩
   exact ⟨_, rfl, hb', rfl⟩
 ·exact fun A w1 hA hL hS he => goOn_plain rfl (stepG_mv rfl rfl (he.1 rfl))
 ·exact fun A w1 hA hL hS he => goOn_yes rfl rfl (he.1 rfl) (stepG_mv rfl rfl (hA 3 rfl))
 ·intro A w1 hA hL hS he
  have hb := hS rfl
  have h120 : A.eval (.tmp 120) = _ := he.2.1 rfl
  have h121 : A.eval (.tmp 121) = _ := he.1 rfl
  have hf0 : A.eval (.func 16) = .func (.func 16) #[] #[] := rfl
  refine goOn_yes rfl rfl h120 ?_
  refine stepG_call (f := 16) (args := #[vsum]) rfl rfl ?_ ?_
  ·generalize A.eval = ev at *
   go_simp
  ·refine (validS (b := true) (by decide +kernel) (by decide +kernel) (hsum.on hb)).mono ?_
   rintro e w' ⟨rfl, hb'⟩
   exact ⟨_, rfl, hb', rfl⟩
 ·exact fun A w1 hA hL hS he => goOn_plain rfl (stepG_pk rfl (he.1 rfl) rfl (he.2.1 rfl))
 ·exact fun A w1 hA hL hS he => goOn_plain rfl (stepG_mv rfl rfl (he.1 rfl))
 ·intro A w1 hA hL hS he
  have hb := hS rfl
  have h124 : A.eval (.tmp 124) = _ := he.1 rfl
  have hf0 : A.eval (.func 55) = .func (.func 55) #[] #[] := rfl
  have hc0 : A.eval (.const (.int .i64 1)) = .int .i64 1 := rfl
  have hc1 : A.eval (.const (.int .i64 0)) = .int .i64 0 := rfl
  refine goOn_yes rfl rfl h124 ?_
  refine stepG_call (f := 55) (args := #[(.int .i64 1), (.int .i64 0), (.int .i64 0)]) rfl rfl ?_ ?_
  ·generalize A.eval = ev at *
   go_simp
  ·refine (term_any (1) (0) (0) _ (by omega) (by omega)).mono ?_
   rintro e w' ⟨cs, rfl, hi, hb'⟩
   exact ⟨_, rfl, hb', cs, rfl, hi⟩
 ·intro A w1 hA hL hS he
  have hb := hS rfl
  have h124 : A.eval (.tmp 124) = _ := he.2.1 rfl
  have hf0 : A.eval (.func 55) = .func (.func 55) #[] #[] := rfl
  have hc0 : A.eval (.const (.int .i64 1)) = .int .i64 1 := rfl
  have hc1 : A.eval (.const (.int .i64 0)) = .int .i64 0 := rfl
  refine goOn_yes rfl rfl h124 ?_
  refine stepG_call (f := 55) (args := #[(.int .i64 1), (.int .i64 1), (.int .i64 0)]) rfl rfl ?_ ?_
  ·generalize A.eval = ev at *
   go_simp
  ·refine (term_any (1) (1) (0) _ (by omega) (by omega)).mono ?_
   rintro e w' ⟨cs, rfl, hi, hb'⟩
   exact ⟨_, rfl, hb', cs, rfl, hi⟩
 ·intro A w1 hA hL hS he
  have h124 : A.eval (.tmp 124) = _ := he.2.2.1 rfl
  have f125 : ((.term (by decide) (tm (1) (0) (0)) : FactL (Lr (none) (0)))).p (A.eval (.tmp 125)) w1 := he.1 rfl
  obtain ⟨v125, h125⟩ : ∃ v, A.eval (.tmp 125) = v := ⟨_, rfl⟩
  rw [h125] at f125
  have f126 : ((.term (by decide) (tm (1) (1) (0)) : FactL (Lr (none) (0)))).p (A.eval (.tmp 126)) w1 := he.2.1 rfl
  obtain ⟨v126, h126⟩ : ∃ v, A.eval (.tmp 126) = v := ⟨_, rfl⟩
  rw [h126] at f126
  refine goOn_yes rfl rfl h124 ?_
  obtain ⟨c125, rfl, e125⟩ := f125
  obtain ⟨c126, rfl, e126⟩ := f126
  refine stepG_newT (ts := [tm 1 0 0, tm 1 1 0]) rfl rfl (⟨_, _, rfl, e125, ⟨_, _, rfl, e126, rfl⟩⟩) rfl (execOp_buildSlice rfl ?_) (fun _ _ h => h)
  simp only [List.map_toArray, List.map_cons, List.map_nil, h125, h126]
  exact run_newT2P _ _ _ (elTerm.len e125) (elTerm.len e126)
 ·intro A w1 hA hL hS he
  have hb := hS rfl
  have h124 : A.eval (.tmp 124) = _ := he.2.2.1 rfl
  have f127 : ((.poly (by decide) (by decide) ([tm 1 0 0, tm 1 1 0]) : FactL (Lr (none) (0)))).p (A.eval (.tmp 127)) w1 := he.1 rfl
  obtain ⟨v127, h127⟩ : ∃ v, A.eval (.tmp 127) = v := ⟨_, rfl⟩
  rw [h127] at f127
  have hf0 : A.eval (.func 16) = .func (.func 16) #[] #[] := rfl
  refine goOn_yes rfl rfl h124 ?_
  refine stepG_call (f := 16) (args := #[v127]) rfl rfl ?_ ?_
  ·generalize A.eval = ev at *
   go_simp
  ·refine (validS (b := false) (by decide +kernel) (by decide +kernel) f127).mono ?_
   rintro e w' ⟨rfl, hb'⟩
   exact ⟨_, rfl, hb', rfl⟩
 ·intro A w1 hA hL hS he
  have h124 : A.eval (.tmp 124) = _ := he.2.1 rfl
  have h128 : A.eval (.tmp 128) = _ := he.1 rfl
  refine goOn_yes rfl rfl h124 ?_
  refine stepG_pure rfl rfl ?_
  generalize A.eval = ev at *
  go_simp
 ·exact fun A w1 hA hL hS he => goOn_plain rfl (stepG_pk rfl (he.1 rfl) rfl (he.2.1 rfl))
 ·exact fun A w1 hA hL hS he => goOn_plain rfl (stepG_mv rfl rfl (he.1 rfl))
 ·intro A w1 hA hL hS he
  have hb := hS rfl
  have h131 : A.eval (.tmp 131) = _ := he.1 rfl
  have hf0 : A.eval (.func 55) = .func (.func 55) #[] #[] := rfl
  have hc0 : A.eval (.const (.int .i64 0)) = .int .i64 0 := rfl
  have hc1 : A.eval (.const (.int .i64 1)) = .int .i64 1 := rfl
  refine goOn_yes rfl rfl h131 ?_
  refine stepG_call (f := 55) (args := #[(.int .i64 0), (.int .i64 1), (.int .i64 0)]) rfl rfl ?_ ?_
  ·generalize A.eval = ev at *
   go_simp
  ·refine (term_any (0) (1) (0) _ (by omega) (by omega)).mono ?_
   rintro e w' ⟨cs, rfl, hi, hb'⟩
   exact ⟨_, rfl, hb', cs, rfl, hi⟩
 ·intro A w1 hA hL hS he
  have h131 : A.eval (.tmp 131) = _ := he.2.1 rfl
  have f132 : ((.term (by decide) (tm (0) (1) (0)) : FactL (Lr (none) (0)))).p (A.eval (.tmp 132)) w1 := he.1 rfl
  obtain ⟨v132, h132⟩ : ∃ v, A.eval (.tmp 132) = v := ⟨_, rfl⟩
  rw [h132] at f132
  refine goOn_yes rfl rfl h131 ?_
  obtain ⟨c132, rfl, e132⟩ := f132
  refine stepG_newT (ts := [tm 0 1 0]) rfl rfl (⟨_, _, rfl, e132, rfl⟩) rfl (execOp_buildSlice rfl ?_) (fun _ _ h => h)
  simp only [List.map_toArray, List.map_cons, List.map_nil, h132]
  exact run_newT1P _ _ (elTerm.len e132)
 ·intro A w1 hA hL hS he
  have hb := hS rfl
  have h131 : A.eval (.tmp 131) = _ := he.2.2.1 rfl
  have f133 : ((.poly (by decide) (by decide) ([tm 0 1 0]) : FactL (Lr (none) (0)))).p (A.eval (.tmp 133)) w1 := he.1 rfl
  obtain ⟨v133, h133⟩ : ∃ v, A.eval (.tmp 133) = v := ⟨_, rfl⟩
  rw [h133] at f133
  have hf0 : A.eval (.func 16) = .func (.func 16) #[] #[] := rfl
  refine goOn_yes rfl rfl h131 ?_
  refine stepG_call (f := 16) (args := #[v133]) rfl rfl ?_ ?_
  ·generalize A.eval = ev at *
   go_simp
  ·refine (validS (b := false) (by decide +kernel) (by decide +kernel) f133).mono ?_
   rintro e w' ⟨rfl, hb'⟩
   exact ⟨_, rfl, hb', rfl⟩
 ·intro A w1 hA hL hS he
  have h131 : A.eval (.tmp 131) = _ := he.2.1 rfl
  have h134 : A.eval (.tmp 134) = _ := he.1 rfl
  refine goOn_yes rfl rfl h131 ?_
  refine stepG_pure rfl rfl ?_
  generalize A.eval = ev at *
  go_simp
 ·exact fun A w1 hA hL hS he => goOn_plain rfl (stepG_pk rfl (he.1 rfl) rfl (he.2.1 rfl))
 ·exact fun A w1 hA hL hS he => goOn_plain rfl (stepG_mv rfl rfl (he.1 rfl))
 ·intro A w1 hA hL hS he
  have hb := hS rfl
  have h137 : A.eval (.tmp 137) = _ := he.1 rfl
  have hf0 : A.eval (.func 55) = .func (.func 55) #[] #[] := rfl
  have hc0 : A.eval (.const (.int .i64 1)) = .int .i64 1 := rfl
  have hc1 : A.eval (.const (.int .i64 (-1))) = .int .i64 (-1) := rfl
  have hc2 : A.eval (.const (.int .i64 0)) = .int .i64 0 := rfl
  refine goOn_yes rfl rfl h137 ?_
  refine stepG_call (f := 55) (args := #[(.int .i64 1), (.int .i64 (-1)), (.int .i64 0)]) rfl rfl ?_ ?_
  ·generalize A.eval = ev at *
   go_simp
  ·refine (term_any (1) (-1) (0) _ (by omega) (by omega)).mono ?_
   rintro e w' ⟨cs, rfl, hi, hb'⟩
   exact ⟨_, rfl, hb', cs, rfl, hi⟩
 ·intro A w1 hA hL hS he
  have h137 : A.eval (.tmp 137) = _ := he.2.1 rfl
  have f138 : ((.term (by decide) (tm (1) (-1) (0)) : FactL (Lr (none) (0)))).p (A.eval (.tmp 138)) w1 := he.1 rfl
  obtain ⟨v138, h138⟩ : ∃ v, A.eval (.tmp 138) = v := ⟨_, rfl⟩
  rw [h138] at f138
  refine goOn_yes rfl rfl h137 ?_
  obtain ⟨c138, rfl, e138⟩ := f138
  refine stepG_newT (ts := [tm 1 (-1) 0]) rfl rfl (⟨_, _, rfl, e138, rfl⟩) rfl (execOp_buildSlice rfl ?_) (fun _ _ h => h)
  simp only [List.map_toArray, List.map_cons, List.map_nil, h138]
  exact run_newT1P _ _ (elTerm.len e138)
 ·intro A w1 hA hL hS he
  have hb := hS rfl
  have h137 : A.eval (.tmp 137) = _ := he.2.2.1 rfl
  have f139 : ((.poly (by decide) (by decide) ([tm 1 (-1) 0]) : FactL (Lr (none) (0)))).p (A.eval (.tmp 139)) w1 := he.1 rfl
  obtain ⟨v139, h139⟩ : ∃ v, A.eval (.tmp 139) = v := ⟨_, rfl⟩
  rw [h139] at f139
  have hf0 : A.eval (.func 16) = .func (.func 16) #[] #[] := rfl
  refine goOn_yes rfl rfl h137 ?_
  refine stepG_call (f := 16) (args := #[v139]) rfl rfl ?_ ?_
  ·generalize A.eval = ev at *
   go_simp
  ·refine (validS (b := false) (by decide +kernel) (by decide +kernel) f139).mono ?_
   rintro e w' ⟨rfl, hb'⟩
   exact ⟨_, rfl, hb', rfl⟩
 ·intro A w1 hA hL hS he
  have h137 : A.eval (.tmp 137) = _ := he.2.1 rfl
  have h140 : A.eval (.tmp 140) = _ := he.1 rfl
  refine goOn_yes rfl rfl h137 ?_
  refine stepG_pure rfl rfl ?_
  generalize A.eval = ev at *
  go_simp
 ·exact fun A w1 hA hL hS he => goOn_plain rfl (stepG_pk rfl (he.1 rfl) rfl (he.2.1 rfl))
 intro w12 hL
 simp only [TailL, FactL.eq, FactL.poly, FactL.polys, FactL.polyT, FactL.term, FactL.rat, FactL.ret, FactL.of, List.length_cons, List.length_nil, List.drop_succ_cons, List.drop_zero]
 intros
 go_frame
 have hb := hL.below
 replace hx := hx.on hb
 replace hsum := hsum.on hb
 replace hs := hs.on hb
 replace hb0 := hb0.trans (hb.mono hb0.size)
 clear hL hb
 go_upto_region 13 with (fail)
 refine wp_region_S trivial (none) (0) (Okr.none) [.eq (.bool true), .eq (.bool true), .eq (.bool true), .eq (.bool true), .eq (.bool true), .eq (.bool true), .eq (.bool true), .eq (.bool true), .eq (vsum), .term (by decide) (tm (3) (0) (1)), .poly (by decide) (by decide) ([tm 3 0 1]), .ret (.bool true), .eq (.bool true), .eq (.bool true), .eq (vs), .term (by decide) (tm (1) (2) (1)), .term (by decide) (tm (2) (1) (1)), .term (by decide) (tm (1) (0) (1)), .poly (by decide) (by decide) ([tm 1 2 1, tm 2 1 1, tm 1 0 1]), .poly (by decide) (by decide) ([tm 1 2 1, tm 2 1 1, tm 1 0 1]), .ret (.bool true), .eq (.bool true), .eq (.bool true), .ret (.int .i64 (-1)), .eq (.bool true), .eq (.bool true), .eq (.bool true), .eq (vs), .ret (.int .i64 2), .eq (.bool true), .eq (.bool true), .eq (.bool true), .eq (vx), .poly (by decide) (by decide) ([]), .eq (.int .i64 0), .eq (.bool true), .eq (.bool true), .eq (.bool true), .poly (by decide) (by decide) ([tm 1 0 0]), .poly (by decide) (by decide) ([tm 1 0 0]), .ret (.bool true), .eq (.bool true), .eq (.bool true), .rat (by decide) (((0 : Int) : Rat)), .poly (by decide) (by decide) ([]), .eq (.int .i64 0), .eq (.bool true), .eq (.bool true)] [143, 144, 145, 146, 147, 148, 149, 150, 151, 152, 153, 154, 155, 156, 157, 158, 159, 160, 161, 162, 163, 164, 165, 166, 167, 168, 169, 170, 171, 172, 173, 174, 175, 176, 177, 178, 179, 180, 181, 182, 183, 184, 185, 186, 187, 188, 189, 190] rfl rfl rfl rfl ⟨?_, ?_, ?_, ?_, ?_, ?_, ?_, ?_, ?_, ?_, ?_, ?_, ?_, ?_, ?_, ?_, ?_, ?_, ?_, ?_, ?_, ?_, ?_, ?_, ?_, ?_, ?_, ?_, ?_, ?_, ?_, ?_, ?_, ?_, ?_, ?_, ?_, ?_, ?_, ?_, ?_, ?_, ?_, ?_, ?_, ?_, ?_, ?_, trivial⟩ ?_
 ·exact fun A w1 hA hL hS he => goOn_plain rfl (stepG_mv rfl rfl (hA 16 rfl))
 ·exact fun A w1 hA hL hS he => goOn_plain rfl (stepG_mv rfl rfl (he.1 rfl))
 ·exact fun A w1 hA hL hS he => goOn_yes rfl rfl (he.1 rfl) (stepG_mv rfl rfl (hA 17 rfl))
 ·exact fun A w1 hA hL hS he => goOn_plain rfl (stepG_pk rfl (he.1 rfl) rfl (he.2.1 rfl))
 ·exact fun A w1 hA hL hS he => goOn_plain rfl (stepG_mv rfl rfl (he.1 rfl))
 ·exact fun A w1 hA hL hS he => goOn_yes rfl rfl (he.1 rfl) (stepG_mv rfl rfl (hA 18 rfl))
 ·exact fun A w1 hA hL hS he => goOn_plain rfl (stepG_pk rfl (he.1 rfl) rfl (he.2.1 rfl))
 ·exact fun A w1 hA hL hS he => goOn_plain rfl (stepG_mv rfl rfl (he.1 rfl))
 ·exact fun A w1 hA hL hS he => goOn_yes rfl rfl (he.1 rfl) (stepG_mv rfl rfl (hA 3 rfl))
 ·intro A w1 hA hL hS he
  have hb := hS rfl
  have h150 : A.eval (.tmp 150) = _ := he.1 rfl
  have hf0 : A.eval (.func 55) = .func (.func 55) #[] #[] := rfl
  have hc0 : A.eval (.const (.int .i64 3)) = .int .i64 3 := rfl
  have hc1 : A.eval (.const (.int .i64 0)) = .int .i64 0 := rfl
  have hc2 : A.eval (.const (.int .i64 1)) = .int .i64 1 := rfl
  refine goOn_yes rfl rfl h150 ?_
  refine stepG_call (f := 55) (args := #[(.int .i64 3), (.int .i64 0), (.int .i64 1)]) rfl rfl ?_ ?_
  ·generalize A.eval = ev at *
   go_simp
  ·refine (term_any (3) (0) (1) _ (by omega) (by omega)).mono ?_
   rintro e w' ⟨cs, rfl, hi, hb'⟩
   exact ⟨_, rfl, hb', cs, rfl, hi⟩
 ·intro A w1 hA hL hS he
  have h150 : A.eval (.tmp 150) = _ := he.2.1 rfl
  have f152 : ((.term (by decide) (tm (3) (0) (1)) : FactL (Lr (none) (0)))).p (A.eval (.tmp 152)) w1 := he.1 rfl
  obtain ⟨v152, h152⟩ : ∃ v, A.eval (.tmp 152) = v := ⟨_, rfl⟩
  rw [h152] at f152
  refine goOn_yes rfl rfl h150 ?_
  obtain ⟨c152, rfl, e152⟩ := f152
  refine stepG_newT (ts := [tm 3 0 1]) rfl rfl (⟨_, _, rfl, e152, rfl⟩) rfl (execOp_buildSlice rfl ?_) (fun _ _ h => h)
  simp only [List.map_toArray, List.map_cons, List.map_nil, h152]
  exact run_newT1P _ _ (elTerm.len e152)
 ·intro A w1 hA hL hS he
  have hb := hS rfl
  have h150 : A.eval (.tmp 150) = _ := he.2.2.2.1 rfl
  have h151 : A.eval (.tmp 151) = _ := he.1 rfl
  have f153 : ((.poly (by decide) (by decide) ([tm 3 0 1]) : FactL (Lr (none) (0)))).p (A.eval (.tmp 153)) w1 := he.2.1 rfl
  obtain ⟨v153, h153⟩ : ∃ v, A.eval (.tmp 153) = v := ⟨_, rfl⟩
  rw [h153] at f153
  have hf0 : A.eval (.func 17) = .func (.func 17) #[] #[] := rfl
  refine goOn_yes rfl rfl h150 ?_
  refine stepG_call (f := 17) (args := #[vsum, v153]) rfl rfl ?_ ?_
  ·generalize A.eval = ev at *
   go_simp
  ·refine (same7S (b := true) (by decide +kernel) (by decide +kernel) (by decide +kernel) (hsum.on hb) f153).mono ?_
   rintro e w' ⟨rfl, hb'⟩
   exact ⟨_, rfl, hb', rfl⟩
 ·exact fun A w1 hA hL hS he => goOn_plain rfl (stepG_pk rfl (he.1 rfl) rfl (he.2.1 rfl))
 ·exact fun A w1 hA hL hS he => goOn_plain rfl (stepG_mv rfl rfl (he.1 rfl))
 ·exact fun A w1 hA hL hS he => goOn_yes rfl rfl (he.1 rfl) (stepG_mv rfl rfl (hA 15 rfl))
 ·intro A w1 hA hL hS he
  have hb := hS rfl
  have h156 : A.eval (.tmp 156) = _ := he.1 rfl
  have hf0 : A.eval (.func 55) = .func (.func 55) #[] #[] := rfl
  have hc0 : A.eval (.const (.int .i64 1)) = .int .i64 1 := rfl
  have hc1 : A.eval (.const (.int .i64 2)) = .int .i64 2 := rfl
  refine goOn_yes rfl rfl h156 ?_
  refine stepG_call (f := 55) (args := #[(.int .i64 1), (.int .i64 2), (.int .i64 1)]) rfl rfl ?_ ?_
  ·generalize A.eval = ev at *
   go_simp
  ·refine (term_any (1) (2) (1) _ (by omega) (by omega)).mono ?_
   rintro e w' ⟨cs, rfl, hi, hb'⟩
   exact ⟨_, rfl, hb', cs, rfl, hi⟩
 ·intro A w1 hA hL hS he
  have hb := hS rfl
  have h156 : A.eval (.tmp 156) = _ := he.2.1 rfl
  have hf0 : A.eval (.func 55) = .func (.func 55) #[] #[] := rfl
  have hc0 : A.eval (.const (.int .i64 2)) = .int .i64 2 := rfl
  have hc1 : A.eval (.const (.int .i64 1)) = .int .i64 1 := rfl
  refine goOn_yes rfl rfl h156 ?_
  refine stepG_call (f := 55) (args := #[(.int .i64 2), (.int .i64 1), (.int .i64 1)]) rfl rfl ?_ ?_
  ·generalize A.eval = ev at *
   go_simp
  ·refine (term_any (2) (1) (1) _ (by omega) (by omega)).mono ?_
   rintro e w' ⟨cs, rfl, hi, hb'⟩
   exact ⟨_, rfl, hb', cs, rfl, hi⟩
 ·intro A w1 hA hL hS he
  have hb := hS rfl
  have h156 : A.eval (.tmp 156) = _ := he.2.1 rfl
  have hf0 : A.eval (.func 55) = .func (.func 55) #[] #[] := rfl
  have hc0 : A.eval (.const (.int .i64 1)) = .int .i64 1 := rfl
  have hc1 : A.eval (.const (.int .i64 0)) = .int .i64 0 := rfl
  refine goOn_yes rfl rfl h156 ?_
  refine stepG_call (f := 55) (args := #[(.int .i64 1), (.int .i64 0), (.int .i64 1)]) rfl rfl ?_ ?_
  ·generalize A.eval = ev at *
   go_simp
  ·refine (term_any (1) (0) (1) _ (by omega) (by omega)).mono ?_
   rintro e w' ⟨cs, rfl, hi, hb'⟩
   exact ⟨_, rfl, hb', cs, rfl, hi⟩
 ·intro A w1 hA hL hS he
  have h156 : A.eval (.tmp 156) = _ := he.2.2.2.1 rfl
  have f158 : ((.term (by decide) (tm (1) (2) (1)) : FactL (Lr (none) (0)))).p (A.eval (.tmp 158)) w1 := he.1 rfl
  obtain ⟨v158, h158⟩ : ∃ v, A.eval (.tmp 158) = v := ⟨_, rfl⟩
  rw [h158] at f158
  have f159 : ((.term (by decide) (tm (2) (1) (1)) : FactL (Lr (none) (0)))).p (A.eval (.tmp 159)) w1 := he.2.1 rfl
  obtain ⟨v159, h159⟩ : ∃ v, A.eval (.tmp 159) = v := ⟨_, rfl⟩
  rw [h159] at f159
  have f160 : ((.term (by decide) (tm (1) (0) (1)) : FactL (Lr (none) (0)))).p (A.eval (.tmp 160)) w1 := he.2.2.1 rfl
  obtain ⟨v160, h160⟩ : ∃ v, A.eval (.tmp 160) = v := ⟨_, rfl⟩
  rw [h160] at f160
  refine goOn_yes rfl rfl h156 ?_
  obtain ⟨c158, rfl, e158⟩ := f158
  obtain ⟨c159, rfl, e159⟩ := f159
  obtain ⟨c160, rfl, e160⟩ := f160
  refine stepG_newT (ts := [tm 1 2 1, tm 2 1 1, tm 1 0 1]) rfl rfl (⟨_, _, rfl, e158, ⟨_, _, rfl, e159, ⟨_, _, rfl, e160, rfl⟩⟩⟩) rfl (execOp_buildSlice rfl ?_) (fun _ _ h => h)
  simp only [List.map_toArray, List.map_cons, List.map_nil, h158, h159, h160]
  exact run_newT3 _ _ _ _ (elTerm.len e158) (elTerm.len e159) (elTerm.len e160)
 ·intro A w1 hA hL hS he
  have hb := hS rfl
  have h156 : A.eval (.tmp 156) = _ := he.2.2.1 rfl
  have f161 : ((.poly (by decide) (by decide) ([tm 1 2 1, tm 2 1 1, tm 1 0 1]) : FactL (Lr (none) (0)))).p (A.eval (.tmp 161)) w1 := he.1 rfl
  obtain ⟨v161, h161⟩ : ∃ v, A.eval (.tmp 161) = v := ⟨_, rfl⟩
  rw [h161] at f161
  have hf0 : A.eval (.func 18) = .func (.func 18) #[] #[] := rfl
  refine goOn_yes rfl rfl h156 ?_
  refine stepG_call (f := 18) (args := #[v161]) rfl rfl ?_ ?_
  ·generalize A.eval = ev at *
   go_simp
  ·refine (make7S sv_s1 (by decide +kernel) f161).mono ?_
   rintro e w' ⟨v, rfl, hi, hb'⟩
   exact ⟨_, rfl, hb', hi⟩
 ·intro A w1 hA hL hS he
  have hb := hS rfl
  have h156 : A.eval (.tmp 156) = _ := he.2.2.2.1 rfl
  have h157 : A.eval (.tmp 157) = _ := he.1 rfl
  have f162 : ((.poly (by decide) (by decide) ([tm 1 2 1, tm 2 1 1, tm 1 0 1]) : FactL (Lr (none) (0)))).p (A.eval (.tmp 162)) w1 := he.2.1 rfl
  obtain ⟨v162, h162⟩ : ∃ v, A.eval (.tmp 162) = v := ⟨_, rfl⟩
  rw [h162] at f162
  have hf0 : A.eval (.func 17) = .func (.func 17) #[] #[] := rfl
  refine goOn_yes rfl rfl h156 ?_
  refine stepG_call (f := 17) (args := #[vs, v162]) rfl rfl ?_ ?_
  ·generalize A.eval = ev at *
   go_simp
  ·refine (same7S (b := true) (by decide +kernel) (by decide +kernel) (by decide +kernel) (hs.on hb) f162).mono ?_
   rintro e w' ⟨rfl, hb'⟩
   exact ⟨_, rfl, hb', rfl⟩
 ·exact fun A w1 hA hL hS he => goOn_plain rfl (stepG_pk rfl (he.1 rfl) rfl (he.2.1 rfl))
 ·exact fun A w1 hA hL hS he => goOn_plain rfl (stepG_mv rfl rfl (he.1 rfl))
 ·intro A w1 hA hL hS he
  have hb := hS rfl
  have h165 : A.eval (.tmp 165) = _ := he.1 rfl
  have hf0 : A.eval (.func 24) = .func (.func 24) #[] #[] := rfl
  have hc0 : A.eval (.const (.slice none 0 0)) = .slice none 0 0 := rfl
  have hc1 : A.eval (.const (.int .i64 0)) = .int .i64 0 := rfl
  refine goOn_yes rfl rfl h165 ?_
  refine stepG_call (f := 24) (args := #[(.slice none 0 0), (.int .i64 0)]) rfl rfl ?_ ?_
  ·generalize A.eval = ev at *
   go_simp
  ·refine (degS (n := 0) (p := []) (d := -1) (by decide +kernel) (by decide) (by decide +kernel) (IsSl.nil _ _)).mono ?_
   rintro e w' ⟨rfl, hb'⟩
   exact ⟨_, rfl, hb', rfl⟩
 ·intro A w1 hA hL hS he
  have h165 : A.eval (.tmp 165) = _ := he.2.1 rfl
  have h166 : A.eval (.tmp 166) = _ := he.1 rfl
  have hc0 : A.eval (.const (.int .i64 (-1))) = .int .i64 (-1) := rfl
  refine goOn_yes rfl rfl h165 ?_
  refine stepG_pure rfl rfl ?_
  generalize A.eval = ev at *
  go_simp
 ·exact fun A w1 hA hL hS he => goOn_plain rfl (stepG_pk rfl (he.1 rfl) rfl (he.2.1 rfl))
 ·exact fun A w1 hA hL hS he => goOn_plain rfl (stepG_mv rfl rfl (he.1 rfl))
 ·exact fun A w1 hA hL hS he => goOn_yes rfl rfl (he.1 rfl) (stepG_mv rfl rfl (hA 15 rfl))
 ·intro A w1 hA hL hS he
  have hb := hS rfl
  have h169 : A.eval (.tmp 169) = _ := he.2.1 rfl
  have h170 : A.eval (.tmp 170) = _ := he.1 rfl
  have hf0 : A.eval (.func 24) = .func (.func 24) #[] #[] := rfl
  have hc0 : A.eval (.const (.int .i64 0)) = .int .i64 0 := rfl
  refine goOn_yes rfl rfl h169 ?_
  refine stepG_call (f := 24) (args := #[vs, (.int .i64 0)]) rfl rfl ?_ ?_
  ·generalize A.eval = ev at *
   go_simp
  ·refine (degS (n := 0) sv_deg (by decide) (by decide +kernel) (hs.on hb)).mono ?_
   rintro e w' ⟨rfl, hb'⟩
   exact ⟨_, rfl, hb', rfl⟩
 ·intro A w1 hA hL hS he
  have h169 : A.eval (.tmp 169) = _ := he.2.1 rfl
  have h171 : A.eval (.tmp 171) = _ := he.1 rfl
  have hc0 : A.eval (.const (.int .i64 2)) = .int .i64 2 := rfl
  refine goOn_yes rfl rfl h169 ?_
  refine stepG_pure rfl rfl ?_
  generalize A.eval = ev at *
  go_simp
 ·exact fun A w1 hA hL hS he => goOn_plain rfl (stepG_pk rfl (he.1 rfl) rfl (he.2.1 rfl))
 ·exact fun A w1 hA hL hS he => goOn_plain rfl (stepG_mv rfl rfl (he.1 rfl))
 ·exact fun A w1 hA hL hS he => goOn_yes rfl rfl (he.1 rfl) (stepG_mv rfl rfl (hA 1 rfl))
 ·intro A w1 hA hL hS he
  have hb := hS rfl
  have h174 : A.eval (.tmp 174) = _ := he.2.1 rfl
  have h175 : A.eval (.tmp 175) = _ := he.1 rfl
  have hf0 : A.eval (.func 29) = .func (.func 29) #[] #[] := rfl
  have hc0 : A.eval (.const (.int .i64 (-1))) = .int .i64 (-1) := rfl
  refine goOn_yes rfl rfl h174 ?_
  refine stepG_call (f := 29) (args := #[vx, (.int .i64 (-1))]) rfl rfl ?_ ?_
  ·generalize A.eval = ev at *
   go_simp
  ·refine (pow_neg _ (-1) _ (by decide)).mono ?_
   rintro e w' ⟨v, rfl, hi, hb'⟩
   exact ⟨_, rfl, hb', hi⟩
 ·intro A w1 hA hL hS he
  have h174 : A.eval (.tmp 174) = _ := he.2.1 rfl
  have f176 : ((.poly (by decide) (by decide) ([]) : FactL (Lr (none) (0)))).p (A.eval (.tmp 176)) w1 := he.1 rfl
  obtain ⟨v176, h176⟩ : ∃ v, A.eval (.tmp 176) = v := ⟨_, rfl⟩
  rw [h176] at f176
  refine goOn_yes rfl rfl h174 ?_
  obtain ⟨a9, c9, rfl, -⟩ := f176.shape
  refine stepG_pure rfl rfl ?_
  generalize A.eval = ev at *
  go_simp
 ·intro A w1 hA hL hS he
  have h174 : A.eval (.tmp 174) = _ := he.2.1 rfl
  have h177 : A.eval (.tmp 177) = _ := he.1 rfl
  have hc0 : A.eval (.const (.int .i64 0)) = .int .i64 0 := rfl
  refine goOn_yes rfl rfl h174 ?_
  refine stepG_pure rfl rfl ?_
  generalize A.eval = ev at *
  go_simp
 ·exact fun A w1 hA hL hS he => goOn_plain rfl (stepG_pk rfl (he.1 rfl) rfl (he.2.1 rfl))
 ·exact fun A w1 hA hL hS he => goOn_plain rfl (stepG_mv rfl rfl (he.1 rfl))
 ·intro A w1 hA hL hS he
  have hb := hS rfl
  have h180 : A.eval (.tmp 180) = _ := he.1 rfl
  have hf0 : A.eval (.func 29) = .func (.func 29) #[] #[] := rfl
  have hc0 : A.eval (.const (.slice none 0 0)) = .slice none 0 0 := rfl
  have hc1 : A.eval (.const (.int .i64 0)) = .int .i64 0 := rfl
  refine goOn_yes rfl rfl h180 ?_
  refine stepG_call (f := 29) (args := #[(.slice none 0 0), (.int .i64 0)]) rfl rfl ?_ ?_
  ·generalize A.eval = ev at *
   go_simp
  ·refine (pow0S (IsSl.nil _ _)).mono ?_
   rintro e w' ⟨v, rfl, hi, hb'⟩
   exact ⟨_, rfl, hb', hi⟩
 ·intro A w1 hA hL hS he
  have hb := hS rfl
  have h180 : A.eval (.tmp 180) = _ := he.2.1 rfl
  have hf0 : A.eval (.func 42) = .func (.func 42) #[] #[] := rfl
  have hc0 : A.eval (.const (.int .i64 1)) = .int .i64 1 := rfl
  refine goOn_yes rfl rfl h180 ?_
  refine stepG_call (f := 42) (args := #[(.int .i64 1)]) rfl rfl ?_ ?_
  ·generalize A.eval = ev at *
   go_simp
  ·refine (whole7S (n := 1) sv_one (by omega) (by omega) (by decide +kernel)).mono ?_
   rintro e w' ⟨v, rfl, hi, hb'⟩
   exact ⟨_, rfl, hb', hi⟩
 ·intro A w1 hA hL hS he
  have hb := hS rfl
  have h180 : A.eval (.tmp 180) = _ := he.2.2.2.1 rfl
  have f181 : ((.poly (by decide) (by decide) ([tm 1 0 0]) : FactL (Lr (none) (0)))).p (A.eval (.tmp 181)) w1 := he.1 rfl
  obtain ⟨v181, h181⟩ : ∃ v, A.eval (.tmp 181) = v := ⟨_, rfl⟩
  rw [h181] at f181
  have f182 : ((.poly (by decide) (by decide) ([tm 1 0 0]) : FactL (Lr (none) (0)))).p (A.eval (.tmp 182)) w1 := he.2.1 rfl
  obtain ⟨v182, h182⟩ : ∃ v, A.eval (.tmp 182) = v := ⟨_, rfl⟩
  rw [h182] at f182
  have hf0 : A.eval (.func 17) = .func (.func 17) #[] #[] := rfl
  refine goOn_yes rfl rfl h180 ?_
  refine stepG_call (f := 17) (args := #[v181, v182]) rfl rfl ?_ ?_
  ·generalize A.eval = ev at *
   go_simp
  ·refine (same7S (b := true) (by decide +kernel) (by decide +kernel) (by decide +kernel) f181 f182).mono ?_
   rintro e w' ⟨rfl, hb'⟩
   exact ⟨_, rfl, hb', rfl⟩
 ·exact fun A w1 hA hL hS he => goOn_plain rfl (stepG_pk rfl (he.1 rfl) rfl (he.2.1 rfl))
 ·exact fun A w1 hA hL hS he => goOn_plain rfl (stepG_mv rfl rfl (he.1 rfl))
 ·intro A w1 hA hL hS he
  have hb := hS rfl
  have h185 : A.eval (.tmp 185) = _ := he.1 rfl
  have hf0 : A.eval (.func 13) = .func (.func 13) #[] #[] := rfl
  have hc0 : A.eval (.const (.int .i64 0)) = .int .i64 0 := rfl
  refine goOn_yes rfl rfl h185 ?_
  refine stepG_call (f := 13) (args := #[(.int .i64 0)]) rfl rfl ?_ ?_
  ·generalize A.eval = ev at *
   go_simp
  ·refine (whole2_any 0 _ (by omega) (by omega)).mono ?_
   rintro e w' ⟨v, rfl, hi, hb'⟩
   exact ⟨_, rfl, hb', hi⟩
 ·intro A w1 hA hL hS he
  have hb := hS rfl
  have h185 : A.eval (.tmp 185) = _ := he.2.2.1 rfl
  have f186 : ((.rat (by decide) (((0 : Int) : Rat)) : FactL (Lr (none) (0)))).p (A.eval (.tmp 186)) w1 := he.1 rfl
  obtain ⟨v186, h186⟩ : ∃ v, A.eval (.tmp 186) = v := ⟨_, rfl⟩
  rw [h186] at f186
  have hf0 : A.eval (.func 27) = .func (.func 27) #[] #[] := rfl
  refine goOn_yes rfl rfl h185 ?_
  refine stepG_call (f := 27) (args := #[v186]) rfl rfl ?_ ?_
  ·generalize A.eval = ev at *
   go_simp
  ·refine (constS sv_zero f186).mono ?_
   rintro e w' ⟨v, rfl, hi, hb'⟩
   exact ⟨_, rfl, hb', hi⟩
 ·intro A w1 hA hL hS he
  have h185 : A.eval (.tmp 185) = _ := he.2.1 rfl
  have f187 : ((.poly (by decide) (by decide) ([]) : FactL (Lr (none) (0)))).p (A.eval (.tmp 187)) w1 := he.1 rfl
  obtain ⟨v187, h187⟩ : ∃ v, A.eval (.tmp 187) = v := ⟨_, rfl⟩
  rw [h187] at f187
  refine goOn_yes rfl rfl h185 ?_
  obtain ⟨a9, c9, rfl, -⟩ := f187.shape
  refine stepG_pure rfl rfl ?_
  generalize A.eval = ev at *
  go_simp
 ·intro A w1 hA hL hS he
  have h185 : A.eval (.tmp 185) = _ := he.2.1 rfl
  have h188 : A.eval (.tmp 188) = _ := he.1 rfl
  have hc0 : A.eval (.const (.int .i64 0)) = .int .i64 0 := rfl
  refine goOn_yes rfl rfl h185 ?_
  refine stepG_pure rfl rfl ?_
  generalize A.eval = ev at *
  go_simp
 ·exact fun A w1 hA hL hS he => goOn_plain rfl (stepG_pk rfl (he.1 rfl) rfl (he.2.1 rfl))
 intro w13 hL
 simp only [TailL, FactL.eq, FactL.poly, FactL.polys, FactL.polyT, FactL.term, FactL.rat, FactL.ret, FactL.of, List.length_cons, List.length_nil, List.drop_succ_cons, List.drop_zero]
 trace_state
 intros
 go_frame
 have hb := hL.below
 replace hb0 := hb0.trans (hb.mono hb0.size)
 clear hL hb
 go_wp2
 go_ret
 trace_state
 exact ⟨rfl, hb0⟩
end Go.Proofs.YtplfdeohokkebaaGreat
