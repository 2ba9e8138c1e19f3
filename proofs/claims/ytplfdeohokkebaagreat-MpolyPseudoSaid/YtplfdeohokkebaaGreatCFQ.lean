/- law07.MpolyPseudo: the walk. -/
import Derived.Test.YtplfdeohokkebaaGreatCE6
import Derived.Test.YtplfdeohokkebaaGreatCFP
set_option linter.unusedVariables false
set_option linter.unusedSimpArgs false
namespace Go.Proofs.YtplfdeohokkebaaGreat
open Go.RowKit Q Go.WideMaps Go.Maps
set_option maxHeartbeats 16000000 in
set_option maxRecDepth 100000 in
theorem pslaw_nil (v1 v2 : Value) (z : Int) (a : Nat) (p : List Trm) (w : World)
  (m1 : Hid (∀ W, Below w.heap.size w W → Calls Tryz.prog 28 #[v1, .int .i64 (4 : Nat), .int .i64 (3 : Nat)] W (RetPoly W p)))
  (m2 : Hid (∀ W, Below w.heap.size w W → Calls Tryz.prog 28 #[v2, .int .i64 (3 : Nat), .int .i64 (3 : Nat)] W (RetPoly W [])))
  (c1 : Hid (∀ W, Calls Tryz.prog 32 #[.int .u8 z] W (Ret W (.int .i64 a)))) :
  Calls Tryz.prog 8 #[v1, v2, .int .u8 z] w (Ret w (.bool true)) := by
 go_enter Tryz.func8, Tryz.ntmps8
 go_upto_region 2 with (go_at_call 12; refine (sanity_any _).mono ?_; rintro e w1 ⟨rfl, hb1⟩)
 refine wp_region_S trivial (none) (0) (Okr.none) [.eq (v1), .poly (by decide) (by decide) (p), .eq (v2), .poly (by decide) (by decide) ([]), .eq (.int .u8 z), .ret (.int .i64 (a : Int))] [19, 20, 21, 22, 23, 24] rfl rfl rfl rfl ⟨?_, ?_, ?_, ?_, ?_, ?_, trivial⟩ ?_
 ·exact fun A w1 hA hL hS he => goOn_plain rfl (stepG_mv rfl rfl (hA 0 rfl))
 ·intro A w1 hA hL hS he
  have hb := hS rfl
  have h19 : A.eval (.tmp 19) = _ := he.1 rfl
  have hf0 : A.eval (.func 28) = .func (.func 28) #[] #[] := rfl
  have hc0 : A.eval (.const (.int .i64 4)) = .int .i64 4 := rfl
  have hc1 : A.eval (.const (.int .i64 3)) = .int .i64 3 := rfl
  refine goOn_plain rfl ?_
  refine stepG_call (f := 28) (args := #[v1, (.int .i64 4), (.int .i64 3)]) rfl rfl ?_ ?_
  ·generalize A.eval = ev at *
   go_simp
  ·refine (m1.out _ (hb1.trans (hb.mono hb1.size))).mono ?_
   rintro e w' ⟨v, rfl, hi, hb'⟩
   exact ⟨_, rfl, hb', hi⟩
 ·exact fun A w1 hA hL hS he => goOn_plain rfl (stepG_mv rfl rfl (hA 1 rfl))
 ·intro A w1 hA hL hS he
  have hb := hS rfl
  have h21 : A.eval (.tmp 21) = _ := he.1 rfl
  have hf0 : A.eval (.func 28) = .func (.func 28) #[] #[] := rfl
  have hc0 : A.eval (.const (.int .i64 3)) = .int .i64 3 := rfl
  refine goOn_plain rfl ?_
  refine stepG_call (f := 28) (args := #[v2, (.int .i64 3), (.int .i64 3)]) rfl rfl ?_ ?_
  ·generalize A.eval = ev at *
   go_simp
  ·refine (m2.out _ (hb1.trans (hb.mono hb1.size))).mono ?_
   rintro e w' ⟨v, rfl, hi, hb'⟩
   exact ⟨_, rfl, hb', hi⟩
 ·exact fun A w1 hA hL hS he => goOn_plain rfl (stepG_mv rfl rfl (hA 2 rfl))
 ·intro A w1 hA hL hS he
  have hb := hS rfl
  have h23 : A.eval (.tmp 23) = _ := he.1 rfl
  have hf0 : A.eval (.func 32) = .func (.func 32) #[] #[] := rfl
  refine goOn_plain rfl ?_
  refine stepG_call (f := 32) (args := #[.int .u8 z]) rfl rfl ?_ ?_
  ·generalize A.eval = ev at *
   go_simp
  ·refine (c1.out _).mono ?_
   rintro e w' ⟨rfl, hb'⟩
   exact ⟨_, rfl, hb', rfl⟩
 intro w2 hL
 simp only [TailL, FactL.eq, FactL.poly, FactL.ret, FactL.of, List.length_cons, List.length_nil, List.drop_succ_cons, List.drop_zero]
 rintro vp hp vq hq
 go_frame
 have hb0 := hb1.trans (hL.below.mono hb1.size)
 clear hL hb1 m1 m2 c1
 obtain ⟨aq, cq, rfl, -⟩ := hq.shape
 simp only [List.length_nil] at *
 go_upto_region 4 with (go_at_call 43; refine (pseudo_nil _ _ _ p _ hq).mono ?_; rintro e w3 ⟨v11, rfl, h11, hb3⟩)
 obtain ⟨ar, cr, rfl, -⟩ := h11.shape
 replace hb0 := hb0.trans (hb3.mono hb0.size)
 clear hb3 h11 hp hq
 go_upto_region 5 with (fail)
 refine wp_region_S trivial (none) (0) (Okr.none) [.eq (.int .i64 3), .eq (.bool true), .eq (.bool true), .eq (.slice ar ([] : List Trm).length cr), .eq (.int .i64 0), .eq (.bool true), .eq (.bool true), .eq (.bool true), .eq (.bool true), .eq (.bool true)] [35, 36, 37, 38, 39, 40, 41, 42, 43, 44] rfl rfl rfl rfl ⟨?_, ?_, ?_, ?_, ?_, ?_, ?_, ?_, ?_, ?_, trivial⟩ ?_
 ·exact fun A w1 hA hL hS he => goOn_plain rfl (stepG_mv rfl rfl (hA 12 rfl))
 ·intro A w1 hA hL hS he
  have h35 : A.eval (.tmp 35) = _ := he.1 rfl
  have hc0 : A.eval (.const (.int .i64 3)) = .int .i64 3 := rfl
  refine goOn_plain rfl (stepG_pure rfl rfl ?_)
  generalize A.eval = ev at *
  go_simp
 ·exact fun A w1 hA hL hS he => goOn_plain rfl (stepG_mv rfl rfl (he.1 rfl))
 ·exact fun A w1 hA hL hS he => goOn_yes rfl rfl (he.1 rfl) (stepG_mv rfl rfl (hA 11 rfl))
 ·intro A w1 hA hL hS he
  have h37 : A.eval (.tmp 37) = _ := he.2.1 rfl
  have h38 : A.eval (.tmp 38) = _ := he.1 rfl
  refine goOn_yes rfl rfl h37 ?_
  refine stepG_pure rfl rfl ?_
  generalize A.eval = ev at *
  go_simp
 ·intro A w1 hA hL hS he
  have h37 : A.eval (.tmp 37) = _ := he.2.1 rfl
  have h39 : A.eval (.tmp 39) = _ := he.1 rfl
  have hc0 : A.eval (.const (.int .i64 0)) = .int .i64 0 := rfl
  refine goOn_yes rfl rfl h37 ?_
  refine stepG_pure rfl rfl ?_
  generalize A.eval = ev at *
  go_simp
 ·exact fun A w1 hA hL hS he => goOn_plain rfl (stepG_pk rfl (he.1 rfl) rfl (he.2.1 rfl))
 ·exact fun A w1 hA hL hS he => goOn_plain rfl (stepG_mv rfl rfl (he.1 rfl))
 ·exact fun A w1 hA hL hS he => goOn_yes rfl rfl (he.1 rfl) (stepG_mv rfl rfl (hA 7 rfl))
 ·exact fun A w1 hA hL hS he => goOn_plain rfl (stepG_pk rfl (he.1 rfl) rfl (he.2.1 rfl))
 intro w4 hL
 simp only [TailL, FactL.eq, FactL.poly, FactL.ret, FactL.of, List.length_cons, List.length_nil, List.drop_succ_cons, List.drop_zero]
 go_frame
 replace hb0 := hb0.trans (hL.below.mono hb0.size)
 clear hL
 go_wp2
 go_ret
 exact ⟨rfl, hb0⟩
set_option maxHeartbeats 16000000 in
set_option maxRecDepth 100000 in
theorem pslaw_less (v1 v2 : Value) (z : Int) (a : Nat) (p b : List Trm) (g : Trm) (m n : Int) (w : World) (P : Pk ⟨1, 36, 2, 4⟩ p) (D : Pk ⟨1, 27, 2, 3⟩ (g :: b)) (hmn : m < n)
  (m1 : Hid (∀ W, Below w.heap.size w W → Calls Tryz.prog 28 #[v1, .int .i64 (4 : Nat), .int .i64 (3 : Nat)] W (RetPoly W p)))
  (m2 : Hid (∀ W, Below w.heap.size w W → Calls Tryz.prog 28 #[v2, .int .i64 (3 : Nat), .int .i64 (3 : Nat)] W (RetPoly W (g :: b))))
  (c1 : Hid (∀ W, Calls Tryz.prog 32 #[.int .u8 z] W (Ret W (.int .i64 a))))
  (d1 : Hid (∀ W vp vq, IsPoly W vp p → IsPoly W vq (g :: b) → Calls Tryz.prog 43 #[vp, vq, .int .i64 a] W (RetPolyE W p 0)))
  (d2 : Hid (∀ W vp, IsPoly W vp p → Calls Tryz.prog 34 #[vp, .int .i64 a] W (Ret W (.int .i64 m))))
  (d3 : Hid (∀ W vp, IsPoly W vp (g :: b) → Calls Tryz.prog 34 #[vp, .int .i64 a] W (Ret W (.int .i64 n)))) :
  Calls Tryz.prog 8 #[v1, v2, .int .u8 z] w (Ret w (.bool true)) := by
 go_enter Tryz.func8, Tryz.ntmps8
 go_upto_region 2 with (go_at_call 12; refine (sanity_any _).mono ?_; rintro e w1 ⟨rfl, hb1⟩)
 refine wp_region_S trivial (none) (0) (Okr.none) [.eq (v1), .poly (by decide) (by decide) (p), .eq (v2), .poly (by decide) (by decide) ((g :: b)), .eq (.int .u8 z), .ret (.int .i64 (a : Int))] [19, 20, 21, 22, 23, 24] rfl rfl rfl rfl ⟨?_, ?_, ?_, ?_, ?_, ?_, trivial⟩ ?_
 ·exact fun A w1 hA hL hS he => goOn_plain rfl (stepG_mv rfl rfl (hA 0 rfl))
 ·intro A w1 hA hL hS he
  have hb := hS rfl
  have h19 : A.eval (.tmp 19) = _ := he.1 rfl
  have hf0 : A.eval (.func 28) = .func (.func 28) #[] #[] := rfl
  have hc0 : A.eval (.const (.int .i64 4)) = .int .i64 4 := rfl
  have hc1 : A.eval (.const (.int .i64 3)) = .int .i64 3 := rfl
  refine goOn_plain rfl ?_
  refine stepG_call (f := 28) (args := #[v1, (.int .i64 4), (.int .i64 3)]) rfl rfl ?_ ?_
  ·generalize A.eval = ev at *
   go_simp
  ·refine (m1.out _ (hb1.trans (hb.mono hb1.size))).mono ?_
   rintro e w' ⟨v, rfl, hi, hb'⟩
   exact ⟨_, rfl, hb', hi⟩
 ·exact fun A w1 hA hL hS he => goOn_plain rfl (stepG_mv rfl rfl (hA 1 rfl))
 ·intro A w1 hA hL hS he
  have hb := hS rfl
  have h21 : A.eval (.tmp 21) = _ := he.1 rfl
  have hf0 : A.eval (.func 28) = .func (.func 28) #[] #[] := rfl
  have hc0 : A.eval (.const (.int .i64 3)) = .int .i64 3 := rfl
  refine goOn_plain rfl ?_
  refine stepG_call (f := 28) (args := #[v2, (.int .i64 3), (.int .i64 3)]) rfl rfl ?_ ?_
  ·generalize A.eval = ev at *
   go_simp
  ·refine (m2.out _ (hb1.trans (hb.mono hb1.size))).mono ?_
   rintro e w' ⟨v, rfl, hi, hb'⟩
   exact ⟨_, rfl, hb', hi⟩
 ·exact fun A w1 hA hL hS he => goOn_plain rfl (stepG_mv rfl rfl (hA 2 rfl))
 ·intro A w1 hA hL hS he
  have hb := hS rfl
  have h23 : A.eval (.tmp 23) = _ := he.1 rfl
  have hf0 : A.eval (.func 32) = .func (.func 32) #[] #[] := rfl
  refine goOn_plain rfl ?_
  refine stepG_call (f := 32) (args := #[.int .u8 z]) rfl rfl ?_ ?_
  ·generalize A.eval = ev at *
   go_simp
  ·refine (c1.out _).mono ?_
   rintro e w' ⟨rfl, hb'⟩
   exact ⟨_, rfl, hb', rfl⟩
 intro w2 hL
 simp only [TailL, FactL.eq, FactL.poly, FactL.ret, FactL.of, List.length_cons, List.length_nil, List.drop_succ_cons, List.drop_zero]
 rintro vp hp vq hq
 go_frame
 have hb0 := hb1.trans (hL.below.mono hb1.size)
 clear hL hb1 m1 m2 c1
 obtain ⟨aq, cq, rfl, -⟩ := hq.shape
 have hq0 : ¬ ((b.length : Int) + 1 = 0) := by omega
 simp only [List.length_cons] at *
 go_upto_region 4 with (go_at_call 43; refine (d1.out _ _ _ hp hq).mono ?_; rintro e w3 ⟨v11, rfl, h11, hb3⟩)
 replace hp := hp.on hb3
 replace hq := hq.on hb3
 replace hb0 := hb0.trans (hb3.mono hb0.size)
 clear hb3
 go_upto_region 6 with (fail)
 refine wp_region_S trivial (none) (0) (Okr.none) [.eq (vp), .eq (.int .i64 (a : Int)), .ret (.int .i64 m), .eq (.slice aq (b.length + 1) cq), .eq (.int .i64 (a : Int)), .ret (.int .i64 n)] [45, 46, 47, 48, 49, 50] rfl rfl rfl rfl ⟨?_, ?_, ?_, ?_, ?_, ?_, trivial⟩ ?_
 ·exact fun A w1 hA hL hS he => goOn_plain rfl (stepG_mv rfl rfl (hA 8 rfl))
 ·exact fun A w1 hA hL hS he => goOn_plain rfl (stepG_mv rfl rfl (hA 10 rfl))
 ·intro A w1 hA hL hS he
  have hb := hS rfl
  have h45 : A.eval (.tmp 45) = _ := he.1 rfl
  have h46 : A.eval (.tmp 46) = _ := he.2.1 rfl
  have hf0 : A.eval (.func 34) = .func (.func 34) #[] #[] := rfl
  refine goOn_plain rfl ?_
  refine stepG_call (f := 34) (args := #[vp, .int .i64 (a : Int)]) rfl rfl ?_ ?_
  ·generalize A.eval = ev at *
   go_simp
  ·refine (d2.out _ _ (hp.on hb)).mono ?_
   rintro e w' ⟨rfl, hb'⟩
   exact ⟨_, rfl, hb', rfl⟩
 ·exact fun A w1 hA hL hS he => goOn_plain rfl (stepG_mv rfl rfl (hA 9 rfl))
 ·exact fun A w1 hA hL hS he => goOn_plain rfl (stepG_mv rfl rfl (hA 10 rfl))
 ·intro A w1 hA hL hS he
  have hb := hS rfl
  have h48 : A.eval (.tmp 48) = _ := he.1 rfl
  have h49 : A.eval (.tmp 49) = _ := he.2.1 rfl
  have hf0 : A.eval (.func 34) = .func (.func 34) #[] #[] := rfl
  refine goOn_plain rfl ?_
  refine stepG_call (f := 34) (args := #[.slice aq (b.length + 1) cq, .int .i64 (a : Int)]) rfl rfl ?_ ?_
  ·generalize A.eval = ev at *
   go_simp
  ·refine (d3.out _ _ (hq.on hb)).mono ?_
   rintro e w' ⟨rfl, hb'⟩
   exact ⟨_, rfl, hb', rfl⟩
 intro w4 hL
 simp only [TailL, FactL.eq, FactL.poly, FactL.ret, FactL.of, List.length_cons, List.length_nil, List.drop_succ_cons, List.drop_zero]
 go_frame
 have hb := hL.below
 replace hp := hp.on hb
 replace h11 := h11.on hb
 replace hb0 := hb0.trans (hb.mono hb0.size)
 clear hL hb hq
 go_upto_region 8 with (fail)
 refine wp_region_S trivial (none) (0) (Okr.none) [.eq (.int .i64 0), .eq (.bool true), .eq (.bool true), .eq (v11), .eq (vp), .ret (.bool true), .eq (.bool true), .eq (.bool true), .eq (.bool true), .eq (.bool true)] [54, 55, 56, 57, 58, 59, 60, 61, 62, 63] rfl rfl rfl rfl ⟨?_, ?_, ?_, ?_, ?_, ?_, ?_, ?_, ?_, ?_, trivial⟩ ?_
 ·exact fun A w1 hA hL hS he => goOn_plain rfl (stepG_mv rfl rfl (hA 12 rfl))
 ·intro A w1 hA hL hS he
  have h54 : A.eval (.tmp 54) = _ := he.1 rfl
  have hc0 : A.eval (.const (.int .i64 0)) = .int .i64 0 := rfl
  refine goOn_plain rfl (stepG_pure rfl rfl ?_)
  generalize A.eval = ev at *
  go_simp
 ·exact fun A w1 hA hL hS he => goOn_plain rfl (stepG_mv rfl rfl (he.1 rfl))
 ·exact fun A w1 hA hL hS he => goOn_yes rfl rfl (he.1 rfl) (stepG_mv rfl rfl (hA 11 rfl))
 ·exact fun A w1 hA hL hS he => goOn_yes rfl rfl (he.1 rfl) (stepG_mv rfl rfl (hA 8 rfl))
 ·intro A w1 hA hL hS he
  have hb := hS rfl
  have h56 : A.eval (.tmp 56) = _ := he.2.2.1 rfl
  have h57 : A.eval (.tmp 57) = _ := he.1 rfl
  have h58 : A.eval (.tmp 58) = _ := he.2.1 rfl
  have hf0 : A.eval (.func 17) = .func (.func 17) #[] #[] := rfl
  refine goOn_yes rfl rfl h56 ?_
  refine stepG_call (f := 17) (args := #[v11, vp]) rfl rfl ?_ ?_
  ·generalize A.eval = ev at *
   go_simp
  ·refine (sameK P P rfl (h11.on hb) (hp.on hb)).mono ?_
   rintro e w' ⟨rfl, hb'⟩
   exact ⟨_, rfl, hb', rfl⟩
 ·exact fun A w1 hA hL hS he => goOn_plain rfl (stepG_pk rfl (he.1 rfl) rfl (he.2.1 rfl))
 ·exact fun A w1 hA hL hS he => goOn_plain rfl (stepG_mv rfl rfl (he.1 rfl))
 ·exact fun A w1 hA hL hS he => goOn_yes rfl rfl (he.1 rfl) (stepG_mv rfl rfl (hA 7 rfl))
 ·exact fun A w1 hA hL hS he => goOn_plain rfl (stepG_pk rfl (he.1 rfl) rfl (he.2.1 rfl))
 intro w5 hL
 simp only [TailL, FactL.eq, FactL.poly, FactL.ret, FactL.of, List.length_cons, List.length_nil, List.drop_succ_cons, List.drop_zero]
 go_frame
 replace hb0 := hb0.trans (hL.below.mono hb0.size)
 clear hL
 go_wp2
 go_ret
 exact ⟨rfl, hb0⟩
end Go.Proofs.YtplfdeohokkebaaGreat
