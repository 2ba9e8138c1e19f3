/- law07.MpolyDivides: the walk. -/
import Derived.Test.YtplfdeohokkebaaGreatCE6
import Derived.Test.YtplfdeohokkebaaGreatCFH
set_option linter.unusedVariables false
set_option linter.unusedSimpArgs false
namespace Go.Proofs.YtplfdeohokkebaaGreat
open Go.RowKit Q Go.WideMaps Go.Maps
def RetDivT (w : World) (s : List Trm) (t : Bool) (e : Ending) (w' : World) : Prop := ∃ v, e = .returned (.tuple #[v, .bool t]) ∧ IsPoly w' v s ∧ Below w.heap.size w w'
set_option maxHeartbeats 16000000 in
set_option maxRecDepth 100000 in
theorem divides_nil (v1 v2 : Value) (p : List Trm) (w : World) (P : Pk ⟨1, 36, 2, 4⟩ p)
  (m1 : Hid (∀ W, Below w.heap.size w W → Calls Tryz.prog 28 #[v1, .int .i64 (4 : Nat), .int .i64 (3 : Nat)] W (RetPoly W p)))
  (m2 : Hid (∀ W, Below w.heap.size w W → Calls Tryz.prog 28 #[v2, .int .i64 (3 : Nat), .int .i64 (3 : Nat)] W (RetPoly W []))) :
  Calls Tryz.prog 7 #[v1, v2] w (Ret w (.bool true)) := by
 have Q : Pk ⟨1, 27, 2, 3⟩ [] := Pk.nil (by decide +kernel)
 have O : Pk ⟨1, 1, 0, 1⟩ [] := Pk.nil (by decide +kernel)
 have PM := P.mul Q (by decide +kernel)
 have em : mulP p [] = [] := mulP_nil_right p
 replace em := Lib.hid em
 go_enter Tryz.func7, Tryz.ntmps7
 go_upto_region 2 with (go_at_call 12; refine (sanity_any _).mono ?_; rintro e w1 ⟨rfl, hb1⟩)
 refine wp_region_S trivial (none) (0) (Okr.none) [.eq (v1), .poly (by decide) (by decide) (p), .eq (v2), .poly (by decide) (by decide) ([])] [20, 21, 22, 23] rfl rfl rfl rfl ⟨?_, ?_, ?_, ?_, trivial⟩ ?_
 ·exact fun A w1 hA hL hS he => goOn_plain rfl (stepG_mv rfl rfl (hA 0 rfl))
 ·intro A w1 hA hL hS he
  have hb := hS rfl
  have h20 : A.eval (.tmp 20) = _ := he.1 rfl
  have hf0 : A.eval (.func 28) = .func (.func 28) #[] #[] := rfl
  have hc0 : A.eval (.const (.int .i64 4)) = .int .i64 4 := rfl
  have hc1 : A.eval (.const (.int .i64 3)) = .int .i64 3 := rfl
  refine goOn_plain rfl ?_
  refine stepG_call (f := 28) (args := #[v1, (.int .i64 4), (.int .i64 3)]) rfl rfl ?_ ?_
  ·generalize A.eval = ev at *
   go_simp
  ·refine (m1.out _ (hb1.trans (hb.mono hb1.size))).mono ?_
   rintro e w' ⟨v, rfl, hi, hb'⟩
   exact ⟨_, rfl, hb', hi⟩
 ·exact fun A w1 hA hL hS he => goOn_plain rfl (stepG_mv rfl rfl (hA 1 rfl))
 ·intro A w1 hA hL hS he
  have hb := hS rfl
  have h22 : A.eval (.tmp 22) = _ := he.1 rfl
  have hf0 : A.eval (.func 28) = .func (.func 28) #[] #[] := rfl
  have hc0 : A.eval (.const (.int .i64 3)) = .int .i64 3 := rfl
  refine goOn_plain rfl ?_
  refine stepG_call (f := 28) (args := #[v2, (.int .i64 3), (.int .i64 3)]) rfl rfl ?_ ?_
  ·generalize A.eval = ev at *
   go_simp
  ·refine (m2.out _ (hb1.trans (hb.mono hb1.size))).mono ?_
   rintro e w' ⟨v, rfl, hi, hb'⟩
   exact ⟨_, rfl, hb', hi⟩
 intro w2 hL
 simp only [TailL, FactL.eq, FactL.poly, FactL.ret, FactL.of, List.length_cons, List.length_nil, List.drop_succ_cons, List.drop_zero]
 rintro vp hp vq hq
 go_frame
 have hb0 := hb1.trans (hL.below.mono hb1.size)
 clear hL hb1 m1 m2
 obtain ⟨aq, cq, rfl, -⟩ := hq.shape
 simp only [List.length_nil] at *
 go_upto_region 4 with (go_at_call 30; refine (mul7K P Q PM.k hp hq).mono ?_; rintro e w3 ⟨vu, rfl, hu, hb3⟩)
 replace hp := hp.on hb3
 replace hq := hq.on hb3
 replace hb0 := hb0.trans (hb3.mono hb0.size)
 clear hb3
 go_upto_region 5 with (go_at_call 40; refine (div_nil _ _ _ _ hu hq).mono ?_; rintro e w4 ⟨v9, rfl, h9, hb4⟩; simp only [Option.isSome_none, Option.getD_none] at *)
 replace hp := hp.on hb4
 replace hq := hq.on hb4
 replace hb0 := hb0.trans (hb4.mono hb0.size)
 clear hb4 hu h9
 go_upto_region 6 with (go_at_call 40; refine (div_nil _ _ _ _ hp hq).mono ?_; rintro e w5 ⟨v11, rfl, h11, hb5⟩; simp only [Option.isSome_none, Option.getD_none] at *)
 replace hp := hp.on hb5
 replace hq := hq.on hb5
 replace hb0 := hb0.trans (hb5.mono hb0.size)
 clear hb5
 go_upto_region 7 with (go_at_call 41; refine (div7_nil _ _ _ _ hp hq).mono ?_; rintro e w6 ⟨v13, rfl, h13, hb6⟩; simp only [Option.isSome_none, Option.getD_none] at *)
 replace hp := hp.on hb6
 replace hq := hq.on hb6
 replace h11 := h11.on hb6
 replace hb0 := hb0.trans (hb6.mono hb0.size)
 clear hb6
 refine wp_region_S trivial (none) (0) (Okr.none) [.eq (v11), .eq (v13), .ret (.bool true), .eq (.bool false), .eq (.bool false), .eq (.bool false), .eq (.bool false), .eq (.bool false), .eq (.bool false), .eq (.bool false), .eq (.bool false), .eq (.bool false), .eq undef, .eq undef, .eq undef, .eq undef, .eq undef, .eq undef, .eq (.bool false), .eq (.bool false)] [45, 46, 47, 48, 49, 50, 51, 52, 53, 54, 55, 56, 57, 58, 59, 60, 61, 62, 63, 64] rfl rfl rfl rfl ⟨?_, ?_, ?_, ?_, ?_, ?_, ?_, ?_, ?_, ?_, ?_, ?_, ?_, ?_, ?_, ?_, ?_, ?_, ?_, ?_, trivial⟩ ?_
 ·exact fun A w1 hA hL hS he => goOn_plain rfl (stepG_mv rfl rfl (hA 11 rfl))
 ·exact fun A w1 hA hL hS he => goOn_plain rfl (stepG_mv rfl rfl (hA 13 rfl))
 ·intro A w1 hA hL hS he
  have hb := hS rfl
  have h45 : A.eval (.tmp 45) = _ := he.1 rfl
  have h46 : A.eval (.tmp 46) = _ := he.2.1 rfl
  have hf0 : A.eval (.func 17) = .func (.func 17) #[] #[] := rfl
  refine goOn_plain rfl ?_
  refine stepG_call (f := 17) (args := #[v11, v13]) rfl rfl ?_ ?_
  ·generalize A.eval = ev at *
   go_simp
  ·refine (sameK O O rfl (h11.on hb) (h13.on hb)).mono ?_
   rintro e w' ⟨rfl, hb'⟩
   exact ⟨_, rfl, hb', rfl⟩
 ·intro A w1 hA hL hS he
  have h47 : A.eval (.tmp 47) = _ := he.1 rfl
  refine goOn_plain rfl (stepG_pure rfl rfl ?_)
  generalize A.eval = ev at *
  go_simp
 ·exact fun A w1 hA hL hS he => goOn_plain rfl (stepG_mv rfl rfl (he.1 rfl))
 ·exact fun A w1 hA hL hS he => goOn_yes rfl rfl (he.1 rfl) (stepG_mv rfl rfl (hA 12 rfl))
 ·exact fun A w1 hA hL hS he => goOn_yes rfl rfl (he.1 rfl) (stepG_mv rfl rfl (hA 14 rfl))
 ·intro A w1 hA hL hS he
  have h49 : A.eval (.tmp 49) = _ := he.2.2.1 rfl
  have h50 : A.eval (.tmp 50) = _ := he.1 rfl
  have h51 : A.eval (.tmp 51) = _ := he.2.1 rfl
  refine goOn_yes rfl rfl h49 ?_
  refine stepG_pure rfl rfl ?_
  generalize A.eval = ev at *
  go_simp
 ·exact fun A w1 hA hL hS he => goOn_plain rfl (stepG_pk rfl (he.1 rfl) rfl (he.2.1 rfl))
 ·exact fun A w1 hA hL hS he => goOn_plain rfl (stepG_mv rfl rfl (he.1 rfl))
 ·exact fun A w1 hA hL hS he => goOn_yes rfl rfl (he.1 rfl) (stepG_mv rfl rfl (hA 12 rfl))
 ·exact fun A w1 hA hL hS he => goOn_yes rfl rfl (he.2.1 rfl) (stepG_mv rfl rfl (he.1 rfl))
 ·exact fun A w1 hA hL hS he => goOn_no (x := false) rfl rfl (he.1 rfl) rfl rfl
 ·exact fun A w1 hA hL hS he => goOn_no (x := false) rfl rfl (he.1 rfl) rfl rfl
 ·exact fun A w1 hA hL hS he => goOn_no (x := false) rfl rfl (he.2.2.1 rfl) rfl rfl
 ·exact fun A w1 hA hL hS he => goOn_no (x := false) rfl rfl (he.1 rfl) rfl rfl
 ·exact fun A w1 hA hL hS he => goOn_no (x := false) rfl rfl (he.2.2.2.1 rfl) rfl rfl
 ·exact fun A w1 hA hL hS he => goOn_no (x := false) rfl rfl (he.2.1 rfl) rfl rfl
 ·exact fun A w1 hA hL hS he => goOn_yes rfl rfl (he.2.2.1 rfl) (stepG_pk rfl (he.1 rfl) rfl rfl)
 ·exact fun A w1 hA hL hS he => goOn_plain rfl (stepG_pk rfl (he.1 rfl) rfl (he.2.1 rfl))
 intro w7 hL
 simp only [TailL, FactL.eq, FactL.poly, FactL.ret, FactL.of, List.length_cons, List.length_nil, List.drop_succ_cons, List.drop_zero]
 go_frame
 replace hb0 := hb0.trans (hL.below.mono hb0.size)
 clear hL
 go_upto_region 10 with (fail)
 refine wp_region_S trivial (none) (0) (Okr.none) [.eq (.bool false), .eq (.bool true), .eq (.bool true), .eq (.bool false), .eq (.bool true), .eq (.bool true), .eq (.bool true), .eq (.bool true), .eq (.bool true)] [68, 69, 70, 71, 72, 73, 74, 75, 76] rfl rfl rfl rfl ⟨?_, ?_, ?_, ?_, ?_, ?_, ?_, ?_, ?_, trivial⟩ ?_
 ·exact fun A w1 hA hL hS he => goOn_plain rfl (stepG_mv rfl rfl (hA 10 rfl))
 ·intro A w1 hA hL hS he
  have h68 : A.eval (.tmp 68) = _ := he.1 rfl
  refine goOn_plain rfl (stepG_pure rfl rfl ?_)
  generalize A.eval = ev at *
  go_simp
 ·exact fun A w1 hA hL hS he => goOn_plain rfl (stepG_mv rfl rfl (he.1 rfl))
 ·exact fun A w1 hA hL hS he => goOn_yes rfl rfl (he.1 rfl) (stepG_mv rfl rfl (hA 12 rfl))
 ·intro A w1 hA hL hS he
  have h70 : A.eval (.tmp 70) = _ := he.2.1 rfl
  have h71 : A.eval (.tmp 71) = _ := he.1 rfl
  refine goOn_yes rfl rfl h70 ?_
  refine stepG_pure rfl rfl ?_
  generalize A.eval = ev at *
  go_simp
 ·exact fun A w1 hA hL hS he => goOn_plain rfl (stepG_pk rfl (he.1 rfl) rfl (he.2.1 rfl))
 ·exact fun A w1 hA hL hS he => goOn_plain rfl (stepG_mv rfl rfl (he.1 rfl))
 ·exact fun A w1 hA hL hS he => goOn_yes rfl rfl (he.1 rfl) (stepG_mv rfl rfl (hA 5 rfl))
 ·exact fun A w1 hA hL hS he => goOn_plain rfl (stepG_pk rfl (he.1 rfl) rfl (he.2.1 rfl))
 intro w8 hL
 simp only [TailL, FactL.eq, FactL.poly, FactL.ret, FactL.of, List.length_cons, List.length_nil, List.drop_succ_cons, List.drop_zero]
 go_frame
 replace hb0 := hb0.trans (hL.below.mono hb0.size)
 clear hL
 go_wp2
 go_ret
 exact ⟨rfl, hb0⟩
end Go.Proofs.YtplfdeohokkebaaGreat
