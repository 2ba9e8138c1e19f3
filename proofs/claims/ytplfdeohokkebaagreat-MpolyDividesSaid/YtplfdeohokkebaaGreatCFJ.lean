/- law07.MpolyDivides: the walk for a divisor that is not zero. -/
import Derived.Test.YtplfdeohokkebaaGreatCFI
set_option linter.unusedVariables false
set_option linter.unusedSimpArgs false
namespace Go.Proofs.YtplfdeohokkebaaGreat
open Go.RowKit Q Go.WideMaps Go.Maps
set_option maxHeartbeats 16000000 in
set_option maxRecDepth 100000 in
theorem divides_cons (v1 v2 : Value) (p b s s4 : List Trm) (g : Trm) (t c : Bool) (w : World) (ss : Sz) (P : Pk ⟨1, 36, 2, 4⟩ p) (D : Pk ⟨1, 27, 2, 3⟩ (g :: b)) (S : Pk ss s) (kS : (ss.mul ⟨1, 27, 2, 3⟩).ok)
  (hS : Hid (t = true → mulP s (g :: b) = p)) (hc : Hid (c = decide (b = [] ∧ g.1 = e0)))
  (m1 : Hid (∀ W, Below w.heap.size w W → Calls Tryz.prog 28 #[v1, .int .i64 (4 : Nat), .int .i64 (3 : Nat)] W (RetPoly W p)))
  (m2 : Hid (∀ W, Below w.heap.size w W → Calls Tryz.prog 28 #[v2, .int .i64 (3 : Nat), .int .i64 (3 : Nat)] W (RetPoly W (g :: b))))
  (d1 : Hid (∀ W vp vq, IsPoly W vp (mulP p (g :: b)) → IsPoly W vq (g :: b) → Calls Tryz.prog 40 #[vp, vq] W (RetDivT W p true)))
  (d2 : Hid (∀ W vp vq, IsPoly W vp p → IsPoly W vq (g :: b) → Calls Tryz.prog 40 #[vp, vq] W (RetDivT W s t)))
  (d3 : Hid (∀ W vp vq, IsPoly W vp p → IsPoly W vq (g :: b) → Calls Tryz.prog 41 #[vp, vq] W (RetDivT W s t)))
  (d4 : Hid (∀ W vp vq, IsPoly W vp (addP (mulP p (g :: b)) (constP 1)) → IsPoly W vq (g :: b) → Calls Tryz.prog 40 #[vp, vq] W (RetDivT W s4 c))) :
  Calls Tryz.prog 7 #[v1, v2] w (Ret w (.bool true)) := by
 have PM := P.mul D (by decide +kernel)
 have PS := S.mul D kS
 have O := pk_one
 have hw7 := fun W => whole7_any 1 ⟨1, 1, 0, 1⟩ W (by omega) (by omega) (smB_bd (by decide +kernel)) (by decide +kernel)
 replace hw7 := Lib.hid hw7
 go_enter Tryz.func7, Tryz.ntmps7
 go_upto_region 2 with (go_at_call 12; refine (sanity_any _).mono ?_; rintro e w1 ⟨rfl, hb1⟩)
 refine wp_region_S trivial (none) (0) (Okr.none) [.eq (v1), .poly (by decide) (by decide) (p), .eq (v2), .poly (by decide) (by decide) ((g :: b))] [20, 21, 22, 23] rfl rfl rfl rfl ⟨?_, ?_, ?_, ?_, trivial⟩ ?_
 ·exact fun A w1 hA hL hS he => goOn_plain rfl (stepG_mv rfl rfl (hA 0 rfl))
 ·intro A w1 hA hL hS he
  have hb := hS rfl
  have h20 : A.eval (.tmp 20) = _ := he.1 rfl
  have hf0 : A.eval (.func 28) = .func (.func 28) #[] #[] := rfl
  have hc0 : A.eval (.const (.int .i64 4)) = .int .i64 4 := rfl
  have hc1 : A.eval (.const (.int .i64 3)) = .int .i64 3 := rfl
  refine goOn_plain rfl ?_
  refine stepG_call (f := 28) (args := #[v1, (.int .i64 4), (.int .i64 3)]) rfl rfl ?_ ?_
  ·generalize A.eval = ev at *
   go_simp
  ·refine (m1.out _ (hb1.trans (hb.mono hb1.size))).mono ?_
   rintro e w' ⟨v, rfl, hi, hb'⟩
   exact ⟨_, rfl, hb', hi⟩
 ·exact fun A w1 hA hL hS he => goOn_plain rfl (stepG_mv rfl rfl (hA 1 rfl))
 ·intro A w1 hA hL hS he
  have hb := hS rfl
  have h22 : A.eval (.tmp 22) = _ := he.1 rfl
  have hf0 : A.eval (.func 28) = .func (.func 28) #[] #[] := rfl
  have hc0 : A.eval (.const (.int .i64 3)) = .int .i64 3 := rfl
  refine goOn_plain rfl ?_
  refine stepG_call (f := 28) (args := #[v2, (.int .i64 3), (.int .i64 3)]) rfl rfl ?_ ?_
  ·generalize A.eval = ev at *
   go_simp
  ·refine (m2.out _ (hb1.trans (hb.mono hb1.size))).mono ?_
   rintro e w' ⟨v, rfl, hi, hb'⟩
   exact ⟨_, rfl, hb', hi⟩
 intro w2 hL
 simp only [TailL, FactL.eq, FactL.poly, FactL.ret, FactL.of, List.length_cons, List.length_nil, List.drop_succ_cons, List.drop_zero]
 rintro vp hp vq hq
 go_frame
 have hb0 := hb1.trans (hL.below.mono hb1.size)
 clear hL hb1 m1 m2
 obtain ⟨aq, cq, rfl, -⟩ := hq.shape
 obtain ⟨bq, oq, rg, rfl, hrg, hCg⟩ := cell_term hq (i := 0) (s := g) rfl
 simp only [List.length_cons] at *
 go_upto_region 4 with (go_at_call 30; refine (mul7K P D PM.k hp hq).mono ?_; rintro e w3 ⟨vu, rfl, hu, hb3⟩)
 replace hp := hp.on hb3
 replace hq := hq.on hb3
 replace hCg := hCg.on hb3
 replace hb0 := hb0.trans (hb3.mono hb0.size)
 clear hb3
 go_upto_region 5 with (go_at_call 40; refine (d1.out _ _ _ hu hq).mono ?_; rintro e w4 ⟨v9, rfl, h9, hb4⟩)
 replace hp := hp.on hb4
 replace hq := hq.on hb4
 replace hu := hu.on hb4
 replace hCg := hCg.on hb4
 replace hb0 := hb0.trans (hb4.mono hb0.size)
 clear hb4
 go_upto_region 6 with (go_at_call 40; refine (d2.out _ _ _ hp hq).mono ?_; rintro e w5 ⟨v11, rfl, h11, hb5⟩)
 replace hp := hp.on hb5
 replace hq := hq.on hb5
 replace hu := hu.on hb5
 replace h9 := h9.on hb5
 replace hCg := hCg.on hb5
 replace hb0 := hb0.trans (hb5.mono hb0.size)
 clear hb5
 go_upto_region 7 with (go_at_call 41; refine (d3.out _ _ _ hp hq).mono ?_; rintro e w6 ⟨v13, rfl, h13, hb6⟩)
 replace hp := hp.on hb6
 replace hq := hq.on hb6
 replace hu := hu.on hb6
 replace h9 := h9.on hb6
 replace h11 := h11.on hb6
 replace hCg := hCg.on hb6
 replace hb0 := hb0.trans (hb6.mono hb0.size)
 clear hb6 d1 d2 d3
 have tail : True := trivial
 cases t
 case' false =>
  clear hS
  refine wp_region_S trivial (none) (0) (Okr.none) [.eq (v11), .eq (v13), .ret (.bool true), .eq (.bool false), .eq (.bool false), .eq (.bool false), .eq (.bool false), .eq (.bool false), .eq (.bool false), .eq (.bool false), .eq (.bool false), .eq (.bool false), .eq undef, .eq undef, .eq undef, .eq undef, .eq undef, .eq undef, .eq (.bool false), .eq (.bool false)] [45, 46, 47, 48, 49, 50, 51, 52, 53, 54, 55, 56, 57, 58, 59, 60, 61, 62, 63, 64] rfl rfl rfl rfl ⟨?_, ?_, ?_, ?_, ?_, ?_, ?_, ?_, ?_, ?_, ?_, ?_, ?_, ?_, ?_, ?_, ?_, ?_, ?_, ?_, trivial⟩ ?_
  ·exact fun A w1 hA hL hS he => goOn_plain rfl (stepG_mv rfl rfl (hA 11 rfl))
  ·exact fun A w1 hA hL hS he => goOn_plain rfl (stepG_mv rfl rfl (hA 13 rfl))
  ·intro A w1 hA hL hS he
   have hb := hS rfl
   have h45 : A.eval (.tmp 45) = _ := he.1 rfl
   have h46 : A.eval (.tmp 46) = _ := he.2.1 rfl
   have hf0 : A.eval (.func 17) = .func (.func 17) #[] #[] := rfl
   refine goOn_plain rfl ?_
   refine stepG_call (f := 17) (args := #[v11, v13]) rfl rfl ?_ ?_
   ·generalize A.eval = ev at *
    go_simp
   ·refine (sameK S S rfl (h11.on hb) (h13.on hb)).mono ?_
    rintro e w' ⟨rfl, hb'⟩
    exact ⟨_, rfl, hb', rfl⟩
  ·intro A w1 hA hL hS he
   have h47 : A.eval (.tmp 47) = _ := he.1 rfl
   refine goOn_plain rfl (stepG_pure rfl rfl ?_)
   generalize A.eval = ev at *
   go_simp
  ·exact fun A w1 hA hL hS he => goOn_plain rfl (stepG_mv rfl rfl (he.1 rfl))
  ·exact fun A w1 hA hL hS he => goOn_yes rfl rfl (he.1 rfl) (stepG_mv rfl rfl (hA 12 rfl))
  ·exact fun A w1 hA hL hS he => goOn_yes rfl rfl (he.1 rfl) (stepG_mv rfl rfl (hA 14 rfl))
  ·intro A w1 hA hL hS he
   have h49 : A.eval (.tmp 49) = _ := he.2.2.1 rfl
   have h50 : A.eval (.tmp 50) = _ := he.1 rfl
   have h51 : A.eval (.tmp 51) = _ := he.2.1 rfl
   refine goOn_yes rfl rfl h49 ?_
   refine stepG_pure rfl rfl ?_
   generalize A.eval = ev at *
   go_simp
  ·exact fun A w1 hA hL hS he => goOn_plain rfl (stepG_pk rfl (he.1 rfl) rfl (he.2.1 rfl))
  ·exact fun A w1 hA hL hS he => goOn_plain rfl (stepG_mv rfl rfl (he.1 rfl))
  ·exact fun A w1 hA hL hS he => goOn_yes rfl rfl (he.1 rfl) (stepG_mv rfl rfl (hA 12 rfl))
  ·exact fun A w1 hA hL hS he => goOn_yes rfl rfl (he.2.1 rfl) (stepG_mv rfl rfl (he.1 rfl))
  ·exact fun A w1 hA hL hS he => goOn_no (x := false) rfl rfl (he.1 rfl) rfl rfl
  ·exact fun A w1 hA hL hS he => goOn_no (x := false) rfl rfl (he.1 rfl) rfl rfl
  ·exact fun A w1 hA hL hS he => goOn_no (x := false) rfl rfl (he.2.2.1 rfl) rfl rfl
  ·exact fun A w1 hA hL hS he => goOn_no (x := false) rfl rfl (he.1 rfl) rfl rfl
  ·exact fun A w1 hA hL hS he => goOn_no (x := false) rfl rfl (he.2.2.2.1 rfl) rfl rfl
  ·exact fun A w1 hA hL hS he => goOn_no (x := false) rfl rfl (he.2.1 rfl) rfl rfl
  ·exact fun A w1 hA hL hS he => goOn_yes rfl rfl (he.2.2.1 rfl) (stepG_pk rfl (he.1 rfl) rfl rfl)
  ·exact fun A w1 hA hL hS he => goOn_plain rfl (stepG_pk rfl (he.1 rfl) rfl (he.2.1 rfl))
  intro w7 hL
  simp only [TailL, FactL.eq, FactL.poly, FactL.ret, FactL.of, List.length_cons, List.length_nil, List.drop_succ_cons, List.drop_zero]
 case' true =>
  have hS' := hS.out rfl
  replace hS' := Lib.hid hS'
  refine wp_region_S trivial (none) (0) (Okr.none) [.eq (v11), .eq (v13), .ret (.bool true), .eq (.bool false), .eq (.bool false), .eq (.bool true), .eq (.bool true), .eq (.bool false), .eq (.bool false), .eq (.bool false), .eq (.bool true), .eq (.bool true), .eq (v11), .eq (.slice (some ⟨bq, oq, none⟩) (b.length + 1) cq), .poly (by decide) (by decide) ((mulP s (g :: b))), .eq (vp), .ret (.bool true), .eq (.bool false), .eq (.bool false), .eq (.bool false)] [45, 46, 47, 48, 49, 50, 51, 52, 53, 54, 55, 56, 57, 58, 59, 60, 61, 62, 63, 64] rfl rfl rfl rfl ⟨?_, ?_, ?_, ?_, ?_, ?_, ?_, ?_, ?_, ?_, ?_, ?_, ?_, ?_, ?_, ?_, ?_, ?_, ?_, ?_, trivial⟩ ?_
  ·exact fun A w1 hA hL hS he => goOn_plain rfl (stepG_mv rfl rfl (hA 11 rfl))
  ·exact fun A w1 hA hL hS he => goOn_plain rfl (stepG_mv rfl rfl (hA 13 rfl))
  ·intro A w1 hA hL hS he
   have hb := hS rfl
   have h45 : A.eval (.tmp 45) = _ := he.1 rfl
   have h46 : A.eval (.tmp 46) = _ := he.2.1 rfl
   have hf0 : A.eval (.func 17) = .func (.func 17) #[] #[] := rfl
   refine goOn_plain rfl ?_
   refine stepG_call (f := 17) (args := #[v11, v13]) rfl rfl ?_ ?_
   ·generalize A.eval = ev at *
    go_simp
   ·refine (sameK S S rfl (h11.on hb) (h13.on hb)).mono ?_
    rintro e w' ⟨rfl, hb'⟩
    exact ⟨_, rfl, hb', rfl⟩
  ·intro A w1 hA hL hS he
   have h47 : A.eval (.tmp 47) = _ := he.1 rfl
   refine goOn_plain rfl (stepG_pure rfl rfl ?_)
   generalize A.eval = ev at *
   go_simp
  ·exact fun A w1 hA hL hS he => goOn_plain rfl (stepG_mv rfl rfl (he.1 rfl))
  ·exact fun A w1 hA hL hS he => goOn_yes rfl rfl (he.1 rfl) (stepG_mv rfl rfl (hA 12 rfl))
  ·exact fun A w1 hA hL hS he => goOn_yes rfl rfl (he.1 rfl) (stepG_mv rfl rfl (hA 14 rfl))
  ·intro A w1 hA hL hS he
   have h49 : A.eval (.tmp 49) = _ := he.2.2.1 rfl
   have h50 : A.eval (.tmp 50) = _ := he.1 rfl
   have h51 : A.eval (.tmp 51) = _ := he.2.1 rfl
   refine goOn_yes rfl rfl h49 ?_
   refine stepG_pure rfl rfl ?_
   generalize A.eval = ev at *
   go_simp
  ·exact fun A w1 hA hL hS he => goOn_plain rfl (stepG_pk rfl (he.1 rfl) rfl (he.2.1 rfl))
  ·exact fun A w1 hA hL hS he => goOn_plain rfl (stepG_mv rfl rfl (he.1 rfl))
  ·exact fun A w1 hA hL hS he => goOn_yes rfl rfl (he.1 rfl) (stepG_mv rfl rfl (hA 12 rfl))
  ·exact fun A w1 hA hL hS he => goOn_yes rfl rfl (he.2.1 rfl) (stepG_mv rfl rfl (he.1 rfl))
  ·exact fun A w1 hA hL hS he => goOn_yes rfl rfl (he.1 rfl) (stepG_mv rfl rfl (hA 11 rfl))
  ·exact fun A w1 hA hL hS he => goOn_yes rfl rfl (he.1 rfl) (stepG_mv rfl rfl (hA 7 rfl))
  ·intro A w1 hA hL hS he
   have hb := hS rfl
   have h56 : A.eval (.tmp 56) = _ := he.2.2.1 rfl
   have h57 : A.eval (.tmp 57) = _ := he.1 rfl
   have h58 : A.eval (.tmp 58) = _ := he.2.1 rfl
   have hf0 : A.eval (.func 30) = .func (.func 30) #[] #[] := rfl
   refine goOn_yes rfl rfl h56 ?_
   refine stepG_call (f := 30) (args := #[v11, .slice (some ⟨bq, oq, none⟩) (b.length + 1) cq]) rfl rfl ?_ ?_
   ·generalize A.eval = ev at *
    go_simp
   ·refine (mul7K S D kS (h11.on hb) (hq.on hb)).mono ?_
    rintro e w' ⟨v, rfl, hi, hb'⟩
    exact ⟨_, rfl, hb', hi⟩
  ·exact fun A w1 hA hL hS he => goOn_yes rfl rfl (he.1 rfl) (stepG_mv rfl rfl (hA 6 rfl))
  ·intro A w1 hA hL hS he
   have hb := hS rfl
   have h56 : A.eval (.tmp 56) = _ := he.2.2.2.1 rfl
   have f59 : ((.poly (by decide) (by decide) ((mulP s (g :: b))) : FactL (Lr (none) (0)))).p (A.eval (.tmp 59)) w1 := he.1 rfl
   obtain ⟨v59, h59⟩ : ∃ v, A.eval (.tmp 59) = v := ⟨_, rfl⟩
   rw [h59] at f59
   have h60 : A.eval (.tmp 60) = _ := he.2.1 rfl
   have hf0 : A.eval (.func 17) = .func (.func 17) #[] #[] := rfl
   refine goOn_yes rfl rfl h56 ?_
   refine stepG_call (f := 17) (args := #[v59, vp]) rfl rfl ?_ ?_
   ·generalize A.eval = ev at *
    go_simp
   ·refine (sameK PS P hS'.out f59 (hp.on hb)).mono ?_
    rintro e w' ⟨rfl, hb'⟩
    exact ⟨_, rfl, hb', rfl⟩
  ·intro A w1 hA hL hS he
   have h56 : A.eval (.tmp 56) = _ := he.2.1 rfl
   have h61 : A.eval (.tmp 61) = _ := he.1 rfl
   refine goOn_yes rfl rfl h56 ?_
   refine stepG_pure rfl rfl ?_
   generalize A.eval = ev at *
   go_simp
  ·exact fun A w1 hA hL hS he => goOn_yes rfl rfl (he.2.2.1 rfl) (stepG_pk rfl (he.1 rfl) rfl (he.2.1 rfl))
  ·exact fun A w1 hA hL hS he => goOn_plain rfl (stepG_pk rfl (he.1 rfl) rfl (he.2.1 rfl))
  intro w7 hL
  simp only [TailL, FactL.eq, FactL.poly, FactL.ret, FactL.of, List.length_cons, List.length_nil, List.drop_succ_cons, List.drop_zero]
  rintro _ -
  clear hS' hS
 all_goals
  go_frame
  have hb := hL.below
  replace hp := hp.on hb
  replace hq := hq.on hb
  replace hu := hu.on hb
  replace h9 := h9.on hb
  replace hCg := hCg.on hb
  replace hb0 := hb0.trans (hb.mono hb0.size)
  clear hL hb h11 h13
  go_upto_region 12 with (first
   | (go_at_call 42; refine (hw7.out _).mono ?_; rintro e w8 ⟨v78, rfl, h78, hb8⟩)
   | (go_at_call 36; refine (add7K PM O (hu.on hb8) h78).mono ?_; rintro e w9 ⟨v15, rfl, h15, hb9⟩))
  replace hb9 := hb8.trans (hb9.mono hb8.size)
  replace hp := hp.on hb9
  replace hq := hq.on hb9
  replace h9 := h9.on hb9
  replace hCg := hCg.on hb9
  replace hb0 := hb0.trans (hb9.mono hb0.size)
  clear hb8 hb9 h78 hu
  go_upto_region 13 with (go_at_call 40; refine (d4.out _ _ _ h15 hq).mono ?_; rintro e w10 ⟨v16, rfl, h16, hb10⟩)
  replace hp := hp.on hb10
  replace h9 := h9.on hb10
  replace hCg := hCg.on hb10
  replace hb0 := hb0.trans (hb10.mono hb0.size)
  clear hb10 h15 h16 hq d4 hw7
  cases b with
  | nil =>
   have hc' : decide (g.1 = e0) = c := by rw [hc.out]; simp
   have hex := fun W' => eq_ex g.1 e0 W'
   rw [hc'] at hex
   clear hc hc'
   refine wp_region_S trivial (none) (0) (Okr.none) [.eq (.slice (some ⟨bq, oq, none⟩) (([] : List Trm).length + 1) cq), .eq (.int .i64 1), .eq (.bool true), .eq (.bool true), .eq (.slice (some ⟨bq, oq, none⟩) (([] : List Trm).length + 1) cq), .eq (.pointer (some ⟨bq, oq + 0 * 8, none⟩)), .eq (.pointer (some ⟨bq, oq + 0 * 8, none⟩)), .eq (.agg (exC g.1).toArray), .eq (.agg (exC e0).toArray), .eq (.bool c), .eq (.bool c)] [86, 87, 88, 89, 90, 91, 92, 93, 94, 95, 96] rfl rfl rfl rfl ⟨?_, ?_, ?_, ?_, ?_, ?_, ?_, ?_, ?_, ?_, ?_, trivial⟩ ?_
   ·exact fun A w1 hA hL hS he => goOn_plain rfl (stepG_mv rfl rfl (hA 7 rfl))
   ·intro A w1 hA hL hS he
    have h86 : A.eval (.tmp 86) = _ := he.1 rfl
    refine goOn_plain rfl (stepG_pure rfl rfl ?_)
    generalize A.eval = ev at *
    go_simp
   ·intro A w1 hA hL hS he
    have h87 : A.eval (.tmp 87) = _ := he.1 rfl
    have hc0 : A.eval (.const (.int .i64 1)) = .int .i64 1 := rfl
    refine goOn_plain rfl (stepG_pure rfl rfl ?_)
    generalize A.eval = ev at *
    go_simp
   ·exact fun A w1 hA hL hS he => goOn_plain rfl (stepG_mv rfl rfl (he.1 rfl))
   ·exact fun A w1 hA hL hS he => goOn_yes rfl rfl (he.1 rfl) (stepG_mv rfl rfl (hA 7 rfl))
   ·intro A w1 hA hL hS he
    have h89 : A.eval (.tmp 89) = _ := he.2.1 rfl
    have h90 : A.eval (.tmp 90) = _ := he.1 rfl
    have hc0 : A.eval (.const (.int .i64 0)) = .int .i64 0 := rfl
    refine goOn_yes rfl rfl h89 ?_
    exact stepG_pure rfl rfl (execOp_index rfl (by rw [h90, show A.eval (.const (.int .i64 0)) = (.int .i64 0) from rfl]; exact run_index Tryz.underlying38 (by kernel_rfl) w1 bq oq _ _ 0 .i64 _ (by first | rfl | simp | omega) (by simp)))
   ·intro A w1 hA hL hS he
    have h89 : A.eval (.tmp 89) = _ := he.2.1 rfl
    have h91 : A.eval (.tmp 91) = _ := he.1 rfl
    refine goOn_yes rfl rfl h89 ?_
    exact stepG_pure rfl rfl (execOp_field rfl (by rw [h91]; exact run_field37_0 _ _ _))
   ·intro A w1 hA hL hS he
    have hb := hL.below
    have h89 : A.eval (.tmp 89) = _ := he.2.1 rfl
    have h92 : A.eval (.tmp 92) = _ := he.1 rfl
    refine goOn_yes rfl rfl h89 ?_
    exact stepG_pure rfl rfl (execOp_load rfl (by rw [h92]; exact run_loadAt_mid w1 _ _ _ _ _ (cells_ex (hCg.on hb)) Tryz.underlying29 rfl (by rw [show (exC g.1).length = 4 from rfl]; kernel_rfl)))
   ·intro A w1 hA hL hS he
    have h89 : A.eval (.tmp 89) = _ := he.1 rfl
    refine goOn_yes rfl rfl h89 ?_
    have hE0 : exC e0 = [.int .i64 0, .int .i64 0, .int .i64 0, .int .i64 0] := rfl
    refine stepG_pure rfl rfl ?_
    generalize A.eval = ev at *
    go_simp
   ·intro A w1 hA hL hS he
    have h89 : A.eval (.tmp 89) = _ := he.2.2.1 rfl
    have h93 : A.eval (.tmp 93) = _ := he.1 rfl
    have h94 : A.eval (.tmp 94) = _ := he.2.1 rfl
    refine goOn_yes rfl rfl h89 ?_
    refine stepG_pure rfl rfl ?_
    generalize A.eval = ev at *
    go_simp
   ·exact fun A w1 hA hL hS he => goOn_plain rfl (stepG_pk rfl (he.1 rfl) rfl (he.2.1 rfl))
   intro w11 hL
   simp only [TailL, FactL.eq, FactL.poly, FactL.ret, FactL.of, List.length_cons, List.length_nil, List.drop_succ_cons, List.drop_zero]
   go_frame
   have hb := hL.below
   replace hp := hp.on hb
   replace h9 := h9.on hb
   replace hb0 := hb0.trans (hb.mono hb0.size)
   clear hL hb hCg hex
   go_upto_region 14 with (fail)
   refine wp_region_S trivial (none) (0) (Okr.none) [.eq (.bool true), .eq (.bool true), .eq (v9), .eq (vp), .ret (.bool true), .eq (.bool true), .eq (.bool true), .eq (.bool c), .eq (.bool c), .eq (.bool true), .eq (.bool true), .eq (.bool true), .eq (.bool true), .eq (.bool true)] [97, 98, 99, 100, 101, 102, 103, 104, 105, 106, 107, 108, 109, 110] rfl rfl rfl rfl ⟨?_, ?_, ?_, ?_, ?_, ?_, ?_, ?_, ?_, ?_, ?_, ?_, ?_, ?_, trivial⟩ ?_
   ·exact fun A w1 hA hL hS he => goOn_plain rfl (stepG_mv rfl rfl (hA 10 rfl))
   ·exact fun A w1 hA hL hS he => goOn_plain rfl (stepG_mv rfl rfl (he.1 rfl))
   ·exact fun A w1 hA hL hS he => goOn_yes rfl rfl (he.1 rfl) (stepG_mv rfl rfl (hA 9 rfl))
   ·exact fun A w1 hA hL hS he => goOn_yes rfl rfl (he.1 rfl) (stepG_mv rfl rfl (hA 6 rfl))
   ·intro A w1 hA hL hS he
    have hb := hS rfl
    have h98 : A.eval (.tmp 98) = _ := he.2.2.1 rfl
    have h99 : A.eval (.tmp 99) = _ := he.1 rfl
    have h100 : A.eval (.tmp 100) = _ := he.2.1 rfl
    have hf0 : A.eval (.func 17) = .func (.func 17) #[] #[] := rfl
    refine goOn_yes rfl rfl h98 ?_
    refine stepG_call (f := 17) (args := #[v9, vp]) rfl rfl ?_ ?_
    ·generalize A.eval = ev at *
     go_simp
    ·refine (sameK P P rfl (h9.on hb) (hp.on hb)).mono ?_
     rintro e w' ⟨rfl, hb'⟩
     exact ⟨_, rfl, hb', rfl⟩
   ·exact fun A w1 hA hL hS he => goOn_plain rfl (stepG_pk rfl (he.1 rfl) rfl (he.2.1 rfl))
   ·exact fun A w1 hA hL hS he => goOn_plain rfl (stepG_mv rfl rfl (he.1 rfl))
   ·exact fun A w1 hA hL hS he => goOn_yes rfl rfl (he.1 rfl) (stepG_mv rfl rfl (hA 17 rfl))
   ·exact fun A w1 hA hL hS he => goOn_yes rfl rfl (he.1 rfl) (stepG_mv rfl rfl (hA 18 rfl))
   ·intro A w1 hA hL hS he
    have h103 : A.eval (.tmp 103) = _ := he.2.2.1 rfl
    have h104 : A.eval (.tmp 104) = _ := he.1 rfl
    have h105 : A.eval (.tmp 105) = _ := he.2.1 rfl
    refine goOn_yes rfl rfl h103 ?_
    refine stepG_pure rfl rfl ?_
    generalize A.eval = ev at *
    go_simp
   ·exact fun A w1 hA hL hS he => goOn_plain rfl (stepG_pk rfl (he.1 rfl) rfl (he.2.1 rfl))
   ·exact fun A w1 hA hL hS he => goOn_plain rfl (stepG_mv rfl rfl (he.1 rfl))
   ·exact fun A w1 hA hL hS he => goOn_yes rfl rfl (he.1 rfl) (stepG_mv rfl rfl (hA 5 rfl))
   ·exact fun A w1 hA hL hS he => goOn_plain rfl (stepG_pk rfl (he.1 rfl) rfl (he.2.1 rfl))
   intro w12 hL
   simp only [TailL, FactL.eq, FactL.poly, FactL.ret, FactL.of, List.length_cons, List.length_nil, List.drop_succ_cons, List.drop_zero]
   go_frame
   replace hb0 := hb0.trans (hL.below.mono hb0.size)
   clear hL
   go_wp2
   go_ret
   exact ⟨rfl, hb0⟩
  | cons x b =>
   obtain rfl : c = false := by rw [hc.out]; simp
   clear hc
   have hne : ¬ ((b.length : Int) + 1 + 1 = 1) := by omega
   refine wp_region_S trivial (none) (0) (Okr.none) [.eq (.slice (some ⟨bq, oq, none⟩) ((x :: b).length + 1) cq), .eq (.int .i64 (((x :: b).length + 1 : Nat) : Int)), .eq (.bool false), .eq (.bool false), .eq undef, .eq undef, .eq undef, .eq undef, .eq undef, .eq undef, .eq (.bool false)] [86, 87, 88, 89, 90, 91, 92, 93, 94, 95, 96] rfl rfl rfl rfl ⟨?_, ?_, ?_, ?_, ?_, ?_, ?_, ?_, ?_, ?_, ?_, trivial⟩ ?_
   ·exact fun A w1 hA hL hS he => goOn_plain rfl (stepG_mv rfl rfl (hA 7 rfl))
   ·intro A w1 hA hL hS he
    have h86 : A.eval (.tmp 86) = _ := he.1 rfl
    refine goOn_plain rfl (stepG_pure rfl rfl ?_)
    generalize A.eval = ev at *
    go_simp
   ·intro A w1 hA hL hS he
    have h87 : A.eval (.tmp 87) = _ := he.1 rfl
    have hc0 : A.eval (.const (.int .i64 1)) = .int .i64 1 := rfl
    refine goOn_plain rfl (stepG_pure rfl rfl ?_)
    generalize A.eval = ev at *
    go_simp
   ·exact fun A w1 hA hL hS he => goOn_plain rfl (stepG_mv rfl rfl (he.1 rfl))
   ·exact fun A w1 hA hL hS he => goOn_no (x := false) rfl rfl (he.1 rfl) rfl rfl
   ·exact fun A w1 hA hL hS he => goOn_no (x := false) rfl rfl (he.2.1 rfl) rfl rfl
   ·exact fun A w1 hA hL hS he => goOn_no (x := false) rfl rfl (he.2.1 rfl) rfl rfl
   ·exact fun A w1 hA hL hS he => goOn_no (x := false) rfl rfl (he.2.1 rfl) rfl rfl
   ·exact fun A w1 hA hL hS he => goOn_no (x := false) rfl rfl (he.1 rfl) rfl rfl
   ·exact fun A w1 hA hL hS he => goOn_no (x := false) rfl rfl (he.2.2.1 rfl) rfl rfl
   ·exact fun A w1 hA hL hS he => goOn_plain rfl (stepG_pk rfl (he.1 rfl) rfl rfl)
   intro w11 hL
   simp only [TailL, FactL.eq, FactL.poly, FactL.ret, FactL.of, List.length_cons, List.length_nil, List.drop_succ_cons, List.drop_zero]
   go_frame
   have hb := hL.below
   replace hp := hp.on hb
   replace h9 := h9.on hb
   replace hb0 := hb0.trans (hb.mono hb0.size)
   clear hL hb hCg hne
   go_upto_region 14 with (fail)
   refine wp_region_S trivial (none) (0) (Okr.none) [.eq (.bool true), .eq (.bool true), .eq (v9), .eq (vp), .ret (.bool true), .eq (.bool true), .eq (.bool true), .eq (.bool false), .eq (.bool false), .eq (.bool true), .eq (.bool true), .eq (.bool true), .eq (.bool true), .eq (.bool true)] [97, 98, 99, 100, 101, 102, 103, 104, 105, 106, 107, 108, 109, 110] rfl rfl rfl rfl ⟨?_, ?_, ?_, ?_, ?_, ?_, ?_, ?_, ?_, ?_, ?_, ?_, ?_, ?_, trivial⟩ ?_
   ·exact fun A w1 hA hL hS he => goOn_plain rfl (stepG_mv rfl rfl (hA 10 rfl))
   ·exact fun A w1 hA hL hS he => goOn_plain rfl (stepG_mv rfl rfl (he.1 rfl))
   ·exact fun A w1 hA hL hS he => goOn_yes rfl rfl (he.1 rfl) (stepG_mv rfl rfl (hA 9 rfl))
   ·exact fun A w1 hA hL hS he => goOn_yes rfl rfl (he.1 rfl) (stepG_mv rfl rfl (hA 6 rfl))
   ·intro A w1 hA hL hS he
    have hb := hS rfl
    have h98 : A.eval (.tmp 98) = _ := he.2.2.1 rfl
    have h99 : A.eval (.tmp 99) = _ := he.1 rfl
    have h100 : A.eval (.tmp 100) = _ := he.2.1 rfl
    have hf0 : A.eval (.func 17) = .func (.func 17) #[] #[] := rfl
    refine goOn_yes rfl rfl h98 ?_
    refine stepG_call (f := 17) (args := #[v9, vp]) rfl rfl ?_ ?_
    ·generalize A.eval = ev at *
     go_simp
    ·refine (sameK P P rfl (h9.on hb) (hp.on hb)).mono ?_
     rintro e w' ⟨rfl, hb'⟩
     exact ⟨_, rfl, hb', rfl⟩
   ·exact fun A w1 hA hL hS he => goOn_plain rfl (stepG_pk rfl (he.1 rfl) rfl (he.2.1 rfl))
   ·exact fun A w1 hA hL hS he => goOn_plain rfl (stepG_mv rfl rfl (he.1 rfl))
   ·exact fun A w1 hA hL hS he => goOn_yes rfl rfl (he.1 rfl) (stepG_mv rfl rfl (hA 17 rfl))
   ·exact fun A w1 hA hL hS he => goOn_yes rfl rfl (he.1 rfl) (stepG_mv rfl rfl (hA 18 rfl))
   ·intro A w1 hA hL hS he
    have h103 : A.eval (.tmp 103) = _ := he.2.2.1 rfl
    have h104 : A.eval (.tmp 104) = _ := he.1 rfl
    have h105 : A.eval (.tmp 105) = _ := he.2.1 rfl
    refine goOn_yes rfl rfl h103 ?_
    refine stepG_pure rfl rfl ?_
    generalize A.eval = ev at *
    go_simp
   ·exact fun A w1 hA hL hS he => goOn_plain rfl (stepG_pk rfl (he.1 rfl) rfl (he.2.1 rfl))
   ·exact fun A w1 hA hL hS he => goOn_plain rfl (stepG_mv rfl rfl (he.1 rfl))
   ·exact fun A w1 hA hL hS he => goOn_yes rfl rfl (he.1 rfl) (stepG_mv rfl rfl (hA 5 rfl))
   ·exact fun A w1 hA hL hS he => goOn_plain rfl (stepG_pk rfl (he.1 rfl) rfl (he.2.1 rfl))
   intro w12 hL
   simp only [TailL, FactL.eq, FactL.poly, FactL.ret, FactL.of, List.length_cons, List.length_nil, List.drop_succ_cons, List.drop_zero]
   go_frame
   replace hb0 := hb0.trans (hL.below.mono hb0.size)
   clear hL
   go_wp2
   go_ret
   exact ⟨rfl, hb0⟩
end Go.Proofs.YtplfdeohokkebaaGreat
