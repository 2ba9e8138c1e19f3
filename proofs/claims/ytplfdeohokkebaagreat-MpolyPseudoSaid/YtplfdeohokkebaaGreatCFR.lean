/- law07.MpolyPseudo: the walk where the dividend's degree is not smaller. -/
import Derived.Test.YtplfdeohokkebaaGreatCFQ
set_option linter.unusedVariables false
set_option linter.unusedSimpArgs false
namespace Go.Proofs.YtplfdeohokkebaaGreat
open Go.RowKit Q Go.WideMaps Go.Maps
set_option maxHeartbeats 16000000 in
set_option maxRecDepth 100000 in
theorem pslaw_main (v1 v2 : Value) (z : Int) (a s : Nat) (p b r cc S : List Trm) (g : Trm) (m n dr : Int) (w : World) (P : Pk ⟨1, 36, 2, 4⟩ p) (D : Pk ⟨1, 27, 2, 3⟩ (g :: b)) (R : Pk rS r) (PW : Pk ⟨1, 19683, 6, 27⟩ (powP cc s)) (hmn : ¬ m < n) (hm : -1 ≤ m ∧ m ≤ 2) (hn : 0 ≤ n ∧ n ≤ 2) (hs : Hid (m - n + 1 = (s : Int))) (hdr : dr < n)
  (e : Hid (subP (mulP (powP cc s) p) r = mulP S (g :: b)))
  (m1 : Hid (∀ W, Below w.heap.size w W → Calls Tryz.prog 28 #[v1, .int .i64 (4 : Nat), .int .i64 (3 : Nat)] W (RetPoly W p)))
  (m2 : Hid (∀ W, Below w.heap.size w W → Calls Tryz.prog 28 #[v2, .int .i64 (3 : Nat), .int .i64 (3 : Nat)] W (RetPoly W (g :: b))))
  (c1 : Hid (∀ W, Calls Tryz.prog 32 #[.int .u8 z] W (Ret W (.int .i64 a))))
  (d1 : Hid (∀ W vp vq, IsPoly W vp p → IsPoly W vq (g :: b) → Calls Tryz.prog 43 #[vp, vq, .int .i64 a] W (RetPolyE W r 0)))
  (d2 : Hid (∀ W vp, IsPoly W vp p → Calls Tryz.prog 34 #[vp, .int .i64 a] W (Ret W (.int .i64 m))))
  (d3 : Hid (∀ W vp, IsPoly W vp (g :: b) → Calls Tryz.prog 34 #[vp, .int .i64 a] W (Ret W (.int .i64 n))))
  (d4 : Hid (∀ W vp, IsPoly W vp (g :: b) → Calls Tryz.prog 46 #[vp, .int .i64 a] W (RetPoly W cc)))
  (d5 : Hid (∀ W vp, IsPoly W vp cc → Calls Tryz.prog 45 #[vp, .int .i64 s] W (RetPoly W (powP cc s))))
  (d6 : Hid (∀ W vp vq, IsPoly W vp (mulP S (g :: b)) → IsPoly W vq (g :: b) → Calls Tryz.prog 41 #[vp, vq] W (RetDivT W S true)))
  (d7 : Hid (∀ W vp, IsPoly W vp r → Calls Tryz.prog 34 #[vp, .int .i64 a] W (Ret W (.int .i64 dr)))) :
  Calls Tryz.prog 8 #[v1, v2, .int .u8 z] w (Ret w (.bool true)) := by
 have PM := PW.mul P (by decide +kernel)
 have kR : (rS.mul ⟨1, 1, 0, 1⟩).ok := by decide +kernel
 have hw1 : IntKind.i64.wrap (m - n) = m - n := wrap_id (by omega)
 have hw2 : IntKind.i64.wrap (m - n + 1) = (s : Int) := by rw [← hs.out]; exact wrap_id (by omega)
 replace hw1 := Lib.hid hw1
 replace hw2 := Lib.hid hw2
 go_enter Tryz.func8, Tryz.ntmps8
 go_upto_region 2 with (go_at_call 12; refine (sanity_any _).mono ?_; rintro e w1 ⟨rfl, hb1⟩)
 refine wp_region_S trivial (none) (0) (Okr.none) [.eq (v1), .poly (by decide) (by decide) (p), .eq (v2), .poly (by decide) (by decide) ((g :: b)), .eq (.int .u8 z), .ret (.int .i64 (a : Int))] [19, 20, 21, 22, 23, 24] rfl rfl rfl rfl ⟨?_, ?_, ?_, ?_, ?_, ?_, trivial⟩ ?_
 ·exact fun A w1 hA hL hS he => goOn_plain rfl (stepG_mv rfl rfl (hA 0 rfl))
 ·intro A w1 hA hL hS he
  have hb := hS rfl
  have h19 : A.eval (.tmp 19) = _ := he.1 rfl
  have hf0 : A.eval (.func 28) = .func (.func 28) #[] #[] := rfl
  have hc0 : A.eval (.const (.int .i64 4)) = .int .i64 4 := rfl
  have hc1 : A.eval (.const (.int .i64 3)) = .int .i64 3 := rfl
  refine goOn_plain rfl ?_
  refine stepG_call (f := 28) (args := #[v1, (.int .i64 4), (.int .i64 3)]) rfl rfl ?_ ?_
  ·generalize A.eval = ev at *
   go_simp
  ·refine (m1.out _ (hb1.trans (hb.mono hb1.size))).mono ?_
   rintro e w' ⟨v, rfl, hi, hb'⟩
   exact ⟨_, rfl, hb', hi⟩
 ·exact fun A w1 hA hL hS he => goOn_plain rfl (stepG_mv rfl rfl (hA 1 rfl))
 ·intro A w1 hA hL hS he
  have hb := hS rfl
  have h21 : A.eval (.tmp 21) = _ := he.1 rfl
  have hf0 : A.eval (.func 28) = .func (.func 28) #[] #[] := rfl
  have hc0 : A.eval (.const (.int .i64 3)) = .int .i64 3 := rfl
  refine goOn_plain rfl ?_
  refine stepG_call (f := 28) (args := #[v2, (.int .i64 3), (.int .i64 3)]) rfl rfl ?_ ?_
  ·generalize A.eval = ev at *
   go_simp
  ·refine (m2.out _ (hb1.trans (hb.mono hb1.size))).mono ?_
   rintro e w' ⟨v, rfl, hi, hb'⟩
   exact ⟨_, rfl, hb', hi⟩
 ·exact fun A w1 hA hL hS he => goOn_plain rfl (stepG_mv rfl rfl (hA 2 rfl))
 ·intro A w1 hA hL hS he
  have hb := hS rfl
  have h23 : A.eval (.tmp 23) = _ := he.1 rfl
  have hf0 : A.eval (.func 32) = .func (.func 32) #[] #[] := rfl
  refine goOn_plain rfl ?_
  refine stepG_call (f := 32) (args := #[.int .u8 z]) rfl rfl ?_ ?_
  ·generalize A.eval = ev at *
   go_simp
  ·refine (c1.out _).mono ?_
   rintro e w' ⟨rfl, hb'⟩
   exact ⟨_, rfl, hb', rfl⟩
 intro w2 hL
 simp only [TailL, FactL.eq, FactL.poly, FactL.ret, FactL.of, List.length_cons, List.length_nil, List.drop_succ_cons, List.drop_zero]
 rintro vp hp vq hq
 go_frame
 have hb0 := hb1.trans (hL.below.mono hb1.size)
 clear hL hb1 m1 m2 c1
 obtain ⟨aq, cq, rfl, -⟩ := hq.shape
 have hq0 : ¬ ((b.length : Int) + 1 = 0) := by omega
 simp only [List.length_cons] at *
 go_upto_region 4 with (go_at_call 43; refine (d1.out _ _ _ hp hq).mono ?_; rintro e w3 ⟨v11, rfl, h11, hb3⟩)
 replace hp := hp.on hb3
 replace hq := hq.on hb3
 replace hb0 := hb0.trans (hb3.mono hb0.size)
 clear hb3
 go_upto_region 6 with (fail)
 refine wp_region_S trivial (none) (0) (Okr.none) [.eq (vp), .eq (.int .i64 (a : Int)), .ret (.int .i64 m), .eq (.slice aq (b.length + 1) cq), .eq (.int .i64 (a : Int)), .ret (.int .i64 n)] [45, 46, 47, 48, 49, 50] rfl rfl rfl rfl ⟨?_, ?_, ?_, ?_, ?_, ?_, trivial⟩ ?_
 ·exact fun A w1 hA hL hS he => goOn_plain rfl (stepG_mv rfl rfl (hA 8 rfl))
 ·exact fun A w1 hA hL hS he => goOn_plain rfl (stepG_mv rfl rfl (hA 10 rfl))
 ·intro A w1 hA hL hS he
  have hb := hS rfl
  have h45 : A.eval (.tmp 45) = _ := he.1 rfl
  have h46 : A.eval (.tmp 46) = _ := he.2.1 rfl
  have hf0 : A.eval (.func 34) = .func (.func 34) #[] #[] := rfl
  refine goOn_plain rfl ?_
  refine stepG_call (f := 34) (args := #[vp, .int .i64 (a : Int)]) rfl rfl ?_ ?_
  ·generalize A.eval = ev at *
   go_simp
  ·refine (d2.out _ _ (hp.on hb)).mono ?_
   rintro e w' ⟨rfl, hb'⟩
   exact ⟨_, rfl, hb', rfl⟩
 ·exact fun A w1 hA hL hS he => goOn_plain rfl (stepG_mv rfl rfl (hA 9 rfl))
 ·exact fun A w1 hA hL hS he => goOn_plain rfl (stepG_mv rfl rfl (hA 10 rfl))
 ·intro A w1 hA hL hS he
  have hb := hS rfl
  have h48 : A.eval (.tmp 48) = _ := he.1 rfl
  have h49 : A.eval (.tmp 49) = _ := he.2.1 rfl
  have hf0 : A.eval (.func 34) = .func (.func 34) #[] #[] := rfl
  refine goOn_plain rfl ?_
  refine stepG_call (f := 34) (args := #[.slice aq (b.length + 1) cq, .int .i64 (a : Int)]) rfl rfl ?_ ?_
  ·generalize A.eval = ev at *
   go_simp
  ·refine (d3.out _ _ (hq.on hb)).mono ?_
   rintro e w' ⟨rfl, hb'⟩
   exact ⟨_, rfl, hb', rfl⟩
 intro w4 hL
 simp only [TailL, FactL.eq, FactL.poly, FactL.ret, FactL.of, List.length_cons, List.length_nil, List.drop_succ_cons, List.drop_zero]
 go_frame
 have hb := hL.below
 replace hp := hp.on hb
 replace hq := hq.on hb
 replace h11 := h11.on hb
 replace hb0 := hb0.trans (hb.mono hb0.size)
 clear hL hb d1 d2 d3 hq0
 go_upto_region 9 with (fail)
 clear hmn
 replace hdr := Lib.hid hdr
 have hw1' := hw1.out
 have hw2' := hw2.out
 refine wp_region_S trivial (none) (0) (Okr.none) [.eq (.slice aq (b.length + 1) cq), .eq (.int .i64 (a : Int)), .poly (by decide) (by decide) (cc), .eq (.int .i64 m), .eq (.int .i64 n), .eq (.int .i64 (m - n)), .eq (.int .i64 (s : Int)), .poly (by decide) (by decide) ((powP cc s)), .eq (vp), .poly (by decide) (by decide) ((mulP (powP cc s) p)), .eq (v11), .poly (by decide) (by decide) ((mulP S (g :: b)))] [64, 65, 66, 67, 68, 69, 70, 71, 72, 73, 74, 75] rfl rfl rfl rfl ⟨?_, ?_, ?_, ?_, ?_, ?_, ?_, ?_, ?_, ?_, ?_, ?_, trivial⟩ ?_
 ·exact fun A w1 hA hL hS he => goOn_plain rfl (stepG_mv rfl rfl (hA 9 rfl))
 ·exact fun A w1 hA hL hS he => goOn_plain rfl (stepG_mv rfl rfl (hA 10 rfl))
 ·intro A w1 hA hL hS he
  have hb := hS rfl
  have h64 : A.eval (.tmp 64) = _ := he.1 rfl
  have h65 : A.eval (.tmp 65) = _ := he.2.1 rfl
  have hf0 : A.eval (.func 46) = .func (.func 46) #[] #[] := rfl
  refine goOn_plain rfl ?_
  refine stepG_call (f := 46) (args := #[.slice aq (b.length + 1) cq, .int .i64 (a : Int)]) rfl rfl ?_ ?_
  ·generalize A.eval = ev at *
   go_simp
  ·refine (d4.out _ _ (hq.on hb)).mono ?_
   rintro e w' ⟨v, rfl, hi, hb'⟩
   exact ⟨_, rfl, hb', hi⟩
 ·exact fun A w1 hA hL hS he => goOn_plain rfl (stepG_mv rfl rfl (hA 13 rfl))
 ·exact fun A w1 hA hL hS he => goOn_plain rfl (stepG_mv rfl rfl (hA 14 rfl))
 ·intro A w1 hA hL hS he
  have h67 : A.eval (.tmp 67) = _ := he.1 rfl
  have h68 : A.eval (.tmp 68) = _ := he.2.1 rfl
  refine goOn_plain rfl (stepG_pure rfl rfl ?_)
  generalize A.eval = ev at *
  go_simp
 ·intro A w1 hA hL hS he
  have h69 : A.eval (.tmp 69) = _ := he.1 rfl
  have hc0 : A.eval (.const (.int .i64 1)) = .int .i64 1 := rfl
  refine goOn_plain rfl (stepG_pure rfl rfl ?_)
  generalize A.eval = ev at *
  go_simp
 ·intro A w1 hA hL hS he
  have hb := hS rfl
  have f66 : ((.poly (by decide) (by decide) (cc) : FactL (Lr (none) (0)))).p (A.eval (.tmp 66)) w1 := he.1 rfl
  obtain ⟨v66, h66⟩ : ∃ v, A.eval (.tmp 66) = v := ⟨_, rfl⟩
  rw [h66] at f66
  have h70 : A.eval (.tmp 70) = _ := he.2.1 rfl
  have hf0 : A.eval (.func 45) = .func (.func 45) #[] #[] := rfl
  refine goOn_plain rfl ?_
  refine stepG_call (f := 45) (args := #[v66, .int .i64 (s : Int)]) rfl rfl ?_ ?_
  ·generalize A.eval = ev at *
   go_simp
  ·refine (d5.out _ _ f66).mono ?_
   rintro e w' ⟨v, rfl, hi, hb'⟩
   exact ⟨_, rfl, hb', hi⟩
 ·exact fun A w1 hA hL hS he => goOn_plain rfl (stepG_mv rfl rfl (hA 8 rfl))
 ·intro A w1 hA hL hS he
  have hb := hS rfl
  have f71 : ((.poly (by decide) (by decide) ((powP cc s)) : FactL (Lr (none) (0)))).p (A.eval (.tmp 71)) w1 := he.1 rfl
  obtain ⟨v71, h71⟩ : ∃ v, A.eval (.tmp 71) = v := ⟨_, rfl⟩
  rw [h71] at f71
  have h72 : A.eval (.tmp 72) = _ := he.2.1 rfl
  have hf0 : A.eval (.func 30) = .func (.func 30) #[] #[] := rfl
  refine goOn_plain rfl ?_
  refine stepG_call (f := 30) (args := #[v71, vp]) rfl rfl ?_ ?_
  ·generalize A.eval = ev at *
   go_simp
  ·refine (mul7K PW P PM.k f71 (hp.on hb)).mono ?_
   rintro e w' ⟨v, rfl, hi, hb'⟩
   exact ⟨_, rfl, hb', hi⟩
 ·exact fun A w1 hA hL hS he => goOn_plain rfl (stepG_mv rfl rfl (hA 11 rfl))
 ·intro A w1 hA hL hS he
  have hb := hS rfl
  have f73 : ((.poly (by decide) (by decide) ((mulP (powP cc s) p)) : FactL (Lr (none) (0)))).p (A.eval (.tmp 73)) w1 := he.1 rfl
  obtain ⟨v73, h73⟩ : ∃ v, A.eval (.tmp 73) = v := ⟨_, rfl⟩
  rw [h73] at f73
  have h74 : A.eval (.tmp 74) = _ := he.2.1 rfl
  have hf0 : A.eval (.func 44) = .func (.func 44) #[] #[] := rfl
  refine goOn_plain rfl ?_
  refine stepG_call (f := 44) (args := #[v73, v11]) rfl rfl ?_ ?_
  ·generalize A.eval = ev at *
   go_simp
  ·refine (e.out ▸ sub7K PM R kR f73 (h11.on hb)).mono ?_
   rintro e w' ⟨v, rfl, hi, hb'⟩
   exact ⟨_, rfl, hb', hi⟩
 intro w5 hL
 simp only [TailL, FactL.eq, FactL.poly, FactL.ret, FactL.of, List.length_cons, List.length_nil, List.drop_succ_cons, List.drop_zero]
 rintro _ - _ - _ - v15 h15
 go_frame
 have hb := hL.below
 replace hq := hq.on hb
 replace h11 := h11.on hb
 replace hb0 := hb0.trans (hb.mono hb0.size)
 clear hL hb hp d4 d5 hw1' hw2' hw1 hw2 hs e
 go_upto_region 11 with (go_at_call 41; refine (d6.out _ _ _ h15 hq).mono ?_; rintro e w6 ⟨v16, rfl, h16, hb6⟩)
 replace h11 := h11.on hb6
 replace hb0 := hb0.trans (hb6.mono hb0.size)
 clear hb6 h16 h15 hq d6
 replace hdr := hdr.out
 refine wp_region_S trivial (none) (0) (Okr.none) [.eq (.int .i64 0), .eq (.bool true), .eq (.bool true), .eq (v11), .ret (.bool true), .eq (.bool true), .eq (.bool true), .eq (v11), .eq (.int .i64 (a : Int)), .ret (.int .i64 dr), .eq (.int .i64 n), .eq (.bool true), .eq (.bool true), .eq (.bool true), .eq (.bool true), .eq (.bool true), .eq (.bool true), .eq (.bool true), .eq (.bool true)] [82, 83, 84, 85, 86, 87, 88, 89, 90, 91, 92, 93, 94, 95, 96, 97, 98, 99, 100] rfl rfl rfl rfl ⟨?_, ?_, ?_, ?_, ?_, ?_, ?_, ?_, ?_, ?_, ?_, ?_, ?_, ?_, ?_, ?_, ?_, ?_, ?_, trivial⟩ ?_
 ·exact fun A w1 hA hL hS he => goOn_plain rfl (stepG_mv rfl rfl (hA 12 rfl))
 ·intro A w1 hA hL hS he
  have h82 : A.eval (.tmp 82) = _ := he.1 rfl
  have hc0 : A.eval (.const (.int .i64 0)) = .int .i64 0 := rfl
  refine goOn_plain rfl (stepG_pure rfl rfl ?_)
  generalize A.eval = ev at *
  go_simp
 ·exact fun A w1 hA hL hS he => goOn_plain rfl (stepG_mv rfl rfl (he.1 rfl))
 ·exact fun A w1 hA hL hS he => goOn_yes rfl rfl (he.1 rfl) (stepG_mv rfl rfl (hA 11 rfl))
 ·intro A w1 hA hL hS he
  have hb := hS rfl
  have h84 : A.eval (.tmp 84) = _ := he.2.1 rfl
  have h85 : A.eval (.tmp 85) = _ := he.1 rfl
  have hf0 : A.eval (.func 15) = .func (.func 15) #[] #[] := rfl
  refine goOn_yes rfl rfl h84 ?_
  refine stepG_call (f := 15) (args := #[v11]) rfl rfl ?_ ?_
  ·generalize A.eval = ev at *
   go_simp
  ·refine (valid7K R (h11.on hb)).mono ?_
   rintro e w' ⟨rfl, hb'⟩
   exact ⟨_, rfl, hb', rfl⟩
 ·exact fun A w1 hA hL hS he => goOn_plain rfl (stepG_pk rfl (he.1 rfl) rfl (he.2.1 rfl))
 ·exact fun A w1 hA hL hS he => goOn_plain rfl (stepG_mv rfl rfl (he.1 rfl))
 ·exact fun A w1 hA hL hS he => goOn_yes rfl rfl (he.1 rfl) (stepG_mv rfl rfl (hA 11 rfl))
 ·exact fun A w1 hA hL hS he => goOn_yes rfl rfl (he.1 rfl) (stepG_mv rfl rfl (hA 10 rfl))
 ·intro A w1 hA hL hS he
  have hb := hS rfl
  have h88 : A.eval (.tmp 88) = _ := he.2.2.1 rfl
  have h89 : A.eval (.tmp 89) = _ := he.1 rfl
  have h90 : A.eval (.tmp 90) = _ := he.2.1 rfl
  have hf0 : A.eval (.func 34) = .func (.func 34) #[] #[] := rfl
  refine goOn_yes rfl rfl h88 ?_
  refine stepG_call (f := 34) (args := #[v11, .int .i64 (a : Int)]) rfl rfl ?_ ?_
  ·generalize A.eval = ev at *
   go_simp
  ·refine (d7.out _ _ (h11.on hb)).mono ?_
   rintro e w' ⟨rfl, hb'⟩
   exact ⟨_, rfl, hb', rfl⟩
 ·exact fun A w1 hA hL hS he => goOn_yes rfl rfl (he.1 rfl) (stepG_mv rfl rfl (hA 14 rfl))
 ·intro A w1 hA hL hS he
  have h88 : A.eval (.tmp 88) = _ := he.2.2.1 rfl
  have h91 : A.eval (.tmp 91) = _ := he.1 rfl
  have h92 : A.eval (.tmp 92) = _ := he.2.1 rfl
  refine goOn_yes rfl rfl h88 ?_
  refine stepG_pure rfl rfl ?_
  generalize A.eval = ev at *
  go_simp
 ·exact fun A w1 hA hL hS he => goOn_plain rfl (stepG_pk rfl (he.1 rfl) rfl (he.2.1 rfl))
 ·exact fun A w1 hA hL hS he => goOn_plain rfl (stepG_mv rfl rfl (he.1 rfl))
 ·exact fun A w1 hA hL hS he => goOn_yes rfl rfl (he.1 rfl) (stepG_mv rfl rfl (hA 17 rfl))
 ·exact fun A w1 hA hL hS he => goOn_plain rfl (stepG_pk rfl (he.1 rfl) rfl (he.2.1 rfl))
 ·exact fun A w1 hA hL hS he => goOn_plain rfl (stepG_mv rfl rfl (he.1 rfl))
 ·exact fun A w1 hA hL hS he => goOn_yes rfl rfl (he.1 rfl) (stepG_mv rfl rfl (hA 7 rfl))
 ·exact fun A w1 hA hL hS he => goOn_plain rfl (stepG_pk rfl (he.1 rfl) rfl (he.2.1 rfl))
 intro w7 hL
 simp only [TailL, FactL.eq, FactL.poly, FactL.ret, FactL.of, List.length_cons, List.length_nil, List.drop_succ_cons, List.drop_zero]
 go_frame
 replace hb0 := hb0.trans (hL.below.mono hb0.size)
 clear hL
 go_wp2
 go_ret
 exact ⟨rfl, hb0⟩
end Go.Proofs.YtplfdeohokkebaaGreat
