/- law07.MpolyDerives: the walk. -/
import Derived.Test.YtplfdeohokkebaaGreatB37
import Derived.Test.YtplfdeohokkebaaGreatBE6
set_option linter.unusedVariables false
set_option linter.unusedSimpArgs false
namespace Go.Proofs.YtplfdeohokkebaaGreat
open Go.RowKit Q Go.WideMaps Go.Maps
set_option maxHeartbeats 16000000 in
set_option maxRecDepth 100000 in
theorem derives_any (v1 v2 : Value) (x y : Int) (L1 L2 : List Drw) (w : World) (h1 : IsDraw w v1 L1) (h2 : IsDraw w v2 L2) (x0 : 0 ≤ x) (x1 : x < 256) (y0 : 0 ≤ y) (y1 : y < 256) :
    Calls Tryz.prog 10 #[v1, v2, .agg #[.int .u8 x, .int .u8 y]] w (Ret w (.bool true)) := by
  have P : Pk ⟨1, 45, 2, 5⟩ (madeP L1 5 3) := made_pk (n := 5) (vs := 3) L1 (by decide)
  have Q : Pk ⟨1, 45, 2, 5⟩ (madeP L2 5 3) := made_pk (n := 5) (vs := 3) L2 (by decide)
  have m1 := Lib.hid (fun W (hb : Below w.heap.size w W) => made_any v1 L1 W (h1.on hb))
  have m2 := Lib.hid (fun W (hb : Below w.heap.size w W) => made_any v2 L2 W (h2.on hb))
  generalize madeP L1 5 3 = p at *
  generalize madeP L2 5 3 = q at *
  obtain ⟨a, ha, ha4⟩ := mod4 x0
  obtain ⟨b, hbm, hb4⟩ := mod4 y0
  have c1 := Lib.hid (fun W => variable_any x a W x0 x1 ha)
  have c2 := Lib.hid (fun W => variable_any y b W y0 y1 hbm)
  clear h1 h2 ha hbm x0 x1 y0 y1
  go_enter Tryz.func10, Tryz.ntmps10
  go_upto_region 1 with (fail)
  refine abs1 fun W0 hbw0 B hsz => ?_
  go_upto_region 2 with (go_at_call 12; refine (sanity_any _).mono ?_; rintro e w1 ⟨rfl, hb1⟩)
  have hb0 := hbw0.trans (hb1.mono hbw0.size)
  have B1 := B.on hb1
  refine wp_region_L mixed (none) (0) (Okr.none) [.eq (v1), .poly (by decide) (by decide) (p), .eq (v2), .poly (by decide) (by decide) (q), .eq (.pointer (some ⟨w.heap.size, 0, none⟩)), .eq (.int .u8 x), .ret (.int .i64 (a : Int)), .eq (.pointer (some ⟨w.heap.size, 1, none⟩)), .eq (.int .u8 y), .ret (.int .i64 (b : Int))] [17, 18, 19, 20, 21, 22, 23, 24, 25, 26] rfl rfl rfl rfl ⟨?_, ?_, ?_, ?_, ?_, ?_, ?_, ?_, ?_, ?_, trivial⟩ ?_
  · exact fun A w1 hA hL hS he => goOn_plain rfl (stepG_mv rfl rfl (hA 0 rfl))
  · intro A w1 hA hL hS he
    have hb := hS rfl
    have h17 : A.eval (.tmp 17) = _ := he.1 rfl
    have hf0 : A.eval (.func 22) = .func (.func 22) #[] #[] := rfl
    refine goOn_plain rfl ?_
    refine stepG_call (f := 22) (args := #[v1]) rfl rfl ?_ ?_
    · generalize A.eval = ev at *
      go_simp
    · refine (m1.out _ (hb0.trans (hb.mono hb0.size))).mono ?_
      rintro e w' ⟨v, rfl, hi, hb'⟩
      exact ⟨_, rfl, hb', hi⟩
  · exact fun A w1 hA hL hS he => goOn_plain rfl (stepG_mv rfl rfl (hA 1 rfl))
  · intro A w1 hA hL hS he
    have hb := hS rfl
    have h19 : A.eval (.tmp 19) = _ := he.1 rfl
    have hf0 : A.eval (.func 22) = .func (.func 22) #[] #[] := rfl
    refine goOn_plain rfl ?_
    refine stepG_call (f := 22) (args := #[v2]) rfl rfl ?_ ?_
    · generalize A.eval = ev at *
      go_simp
    · refine (m2.out _ (hb0.trans (hb.mono hb0.size))).mono ?_
      rintro e w' ⟨v, rfl, hi, hb'⟩
      exact ⟨_, rfl, hb', hi⟩
  · intro A w1 hA hL hS he
    have h5 : A.eval (.tmp 5) = .pointer (some ⟨w.heap.size, 0, none⟩) := hA 5 rfl
    have hc0 : A.eval (.const (.int .i64 0)) = .int .i64 0 := rfl
    refine goOn_plain rfl (stepG_pure rfl rfl ?_)
    generalize A.eval = ev at *
    go_simp
  · intro A w1 hA hL hS he
    have hb := hL.below
    have h21 : A.eval (.tmp 21) = _ := he.1 rfl
    have c0 := ((B1).on hb).at1 0 _ rfl
    refine goOn_plain rfl (stepG_pure rfl rfl ?_)
    generalize A.eval = ev at *
    go_simp
  · intro A w1 hA hL hS he
    have hb := hS rfl
    have h22 : A.eval (.tmp 22) = _ := he.1 rfl
    have hf0 : A.eval (.func 32) = .func (.func 32) #[] #[] := rfl
    refine goOn_plain rfl ?_
    refine stepG_call (f := 32) (args := #[.int .u8 x]) rfl rfl ?_ ?_
    · generalize A.eval = ev at *
      go_simp
    · refine (c1.out _).mono ?_
      rintro e w' ⟨rfl, hb'⟩
      exact ⟨_, rfl, hb', rfl⟩
  · intro A w1 hA hL hS he
    have h5 : A.eval (.tmp 5) = .pointer (some ⟨w.heap.size, 0, none⟩) := hA 5 rfl
    have hc0 : A.eval (.const (.int .i64 1)) = .int .i64 1 := rfl
    refine goOn_plain rfl (stepG_pure rfl rfl ?_)
    generalize A.eval = ev at *
    go_simp
  · intro A w1 hA hL hS he
    have hb := hL.below
    have h24 : A.eval (.tmp 24) = _ := he.1 rfl
    have c0 := ((B1).on hb).at1 1 _ rfl
    refine goOn_plain rfl (stepG_pure rfl rfl ?_)
    generalize A.eval = ev at *
    go_simp
  · intro A w1 hA hL hS he
    have hb := hS rfl
    have h25 : A.eval (.tmp 25) = _ := he.1 rfl
    have hf0 : A.eval (.func 32) = .func (.func 32) #[] #[] := rfl
    refine goOn_plain rfl ?_
    refine stepG_call (f := 32) (args := #[.int .u8 y]) rfl rfl ?_ ?_
    · generalize A.eval = ev at *
      go_simp
    · refine (c2.out _).mono ?_
      rintro e w' ⟨rfl, hb'⟩
      exact ⟨_, rfl, hb', rfl⟩
  intro w2 hL
  simp only [TailL, FactL.eq, FactL.poly, FactL.ret, FactL.of, List.length_cons, List.length_nil, List.drop_succ_cons, List.drop_zero]
  rintro vp hp vq hq
  go_frame
  replace hb0 := hb0.trans (hL.below.mono hb0.size)
  clear hL hb1 m1 m2 B B1 c1 c2 hbw0 hsz
  have DP := P.der a (by decide +kernel)
  have DQ := Q.der a (by decide +kernel)
  have DY := P.der b (by decide +kernel)
  have DPY := DP.der b (by decide +kernel)
  have DYX := DY.der a (by decide +kernel)
  have SA := P.add Q (by decide +kernel)
  have DSA := SA.der a (by decide +kernel)
  have ADD := DP.add DQ (by decide +kernel)
  have M := P.mul Q (by decide +kernel)
  have DM := M.der a (by decide +kernel)
  have M1 := DP.mul Q (by decide +kernel)
  have M2 := P.mul DQ (by decide +kernel)
  have AM := M1.add M2 (by decide +kernel)
  have OW := (Pk.var b).der a (by decide +kernel)
  have e1 := partialP_add P.v Q.v a
  have e2 := partialP_mul P.v Q.v a
  have e3 := partialP_comm P.v ha4 hb4
  have e4 := partialP_var ha4 hb4
  replace e1 := Lib.hid e1
  replace e2 := Lib.hid e2
  replace e3 := Lib.hid e3
  replace e4 := Lib.hid e4
  go_upto_region 3 with (fail)
  refine wp_region_S trivial (none) (0) (Okr.none) [.eq (vp), .eq (.int .i64 (a : Int)), .poly (by decide) (by decide) ((partialP p a)), .eq (vq), .eq (.int .i64 (a : Int)), .poly (by decide) (by decide) ((partialP q a))] [27, 28, 29, 30, 31, 32] rfl rfl rfl rfl ⟨?_, ?_, ?_, ?_, ?_, ?_, trivial⟩ ?_
  · exact fun A w1 hA hL hS he => goOn_plain rfl (stepG_mv rfl rfl (hA 8 rfl))
  · exact fun A w1 hA hL hS he => goOn_plain rfl (stepG_mv rfl rfl (hA 10 rfl))
  · intro A w1 hA hL hS he
    have hb := hS rfl
    have h27 : A.eval (.tmp 27) = _ := he.1 rfl
    have h28 : A.eval (.tmp 28) = _ := he.2.1 rfl
    have hf0 : A.eval (.func 52) = .func (.func 52) #[] #[] := rfl
    refine goOn_plain rfl ?_
    refine stepG_call (f := 52) (args := #[vp, .int .i64 (a : Int)]) rfl rfl ?_ ?_
    · generalize A.eval = ev at *
      go_simp
    · refine (partialK P (by decide) ha4 (hp.on hb)).mono ?_
      rintro e w' ⟨v, rfl, hi, hb'⟩
      exact ⟨_, rfl, hb', hi⟩
  · exact fun A w1 hA hL hS he => goOn_plain rfl (stepG_mv rfl rfl (hA 9 rfl))
  · exact fun A w1 hA hL hS he => goOn_plain rfl (stepG_mv rfl rfl (hA 10 rfl))
  · intro A w1 hA hL hS he
    have hb := hS rfl
    have h30 : A.eval (.tmp 30) = _ := he.1 rfl
    have h31 : A.eval (.tmp 31) = _ := he.2.1 rfl
    have hf0 : A.eval (.func 52) = .func (.func 52) #[] #[] := rfl
    refine goOn_plain rfl ?_
    refine stepG_call (f := 52) (args := #[vq, .int .i64 (a : Int)]) rfl rfl ?_ ?_
    · generalize A.eval = ev at *
      go_simp
    · refine (partialK Q (by decide) ha4 (hq.on hb)).mono ?_
      rintro e w' ⟨v, rfl, hi, hb'⟩
      exact ⟨_, rfl, hb', hi⟩
  intro w3 hL
  simp only [TailL, FactL.eq, FactL.poly, FactL.ret, FactL.of, List.length_cons, List.length_nil, List.drop_succ_cons, List.drop_zero]
  rintro vdp hdp vdq hdq
  go_frame
  have hb := hL.below
  replace hp := hp.on hb
  replace hq := hq.on hb
  replace hb0 := hb0.trans (hb.mono hb0.size)
  clear hL hb
  go_upto_region 4 with (fail)
  refine wp_region_S trivial (none) (0) (Okr.none) [.eq (.int .i64 (b : Int)), .poly (by decide) (by decide) ((varP b)), .eq (.int .i64 (a : Int)), .poly (by decide) (by decide) ((partialP (varP b) a))] [33, 34, 35, 36] rfl rfl rfl rfl ⟨?_, ?_, ?_, ?_, trivial⟩ ?_
  · exact fun A w1 hA hL hS he => goOn_plain rfl (stepG_mv rfl rfl (hA 11 rfl))
  · intro A w1 hA hL hS he
    have hb := hS rfl
    have h33 : A.eval (.tmp 33) = _ := he.1 rfl
    have hf0 : A.eval (.func 37) = .func (.func 37) #[] #[] := rfl
    refine goOn_plain rfl ?_
    refine stepG_call (f := 37) (args := #[.int .i64 (b : Int)]) rfl rfl ?_ ?_
    · generalize A.eval = ev at *
      go_simp
    · refine (var7_any b _ hb4).mono ?_
      rintro e w' ⟨v, rfl, hi, hb'⟩
      exact ⟨_, rfl, hb', hi⟩
  · exact fun A w1 hA hL hS he => goOn_plain rfl (stepG_mv rfl rfl (hA 10 rfl))
  · intro A w1 hA hL hS he
    have hb := hS rfl
    have f34 : ((.poly (by decide) (by decide) ((varP b)) : FactL (Lr (none) (0)))).p (A.eval (.tmp 34)) w1 := he.1 rfl
    obtain ⟨v34, h34⟩ : ∃ v, A.eval (.tmp 34) = v := ⟨_, rfl⟩
    rw [h34] at f34
    have h35 : A.eval (.tmp 35) = _ := he.2.1 rfl
    have hf0 : A.eval (.func 52) = .func (.func 52) #[] #[] := rfl
    refine goOn_plain rfl ?_
    refine stepG_call (f := 52) (args := #[v34, .int .i64 (a : Int)]) rfl rfl ?_ ?_
    · generalize A.eval = ev at *
      go_simp
    · refine (partialK (Pk.var b) (by decide) ha4 f34).mono ?_
      rintro e w' ⟨v, rfl, hi, hb'⟩
      exact ⟨_, rfl, hb', hi⟩
  intro w4 hL
  simp only [TailL, FactL.eq, FactL.poly, FactL.ret, FactL.of, List.length_cons, List.length_nil, List.drop_succ_cons, List.drop_zero]
  rintro _ - vo ho
  go_frame
  have hb := hL.below
  replace hp := hp.on hb
  replace hq := hq.on hb
  replace hdp := hdp.on hb
  replace hdq := hdq.on hb
  replace hb0 := hb0.trans (hb.mono hb0.size)
  clear hL hb
  go_upto_region 5 with (fail)
  refine wp_region_S trivial (none) (0) (Okr.none) [.eq (vp), .eq (vq), .poly (by decide) (by decide) ((addP p q)), .eq (.int .i64 (a : Int)), .poly (by decide) (by decide) ((partialP (addP p q) a)), .eq (vdp), .eq (vdq), .poly (by decide) (by decide) ((addP (partialP p a) (partialP q a))), .ret (.bool true), .eq (.bool true), .eq (vp), .eq (vq), .poly (by decide) (by decide) ((mulP p q)), .eq (.int .i64 (a : Int)), .poly (by decide) (by decide) ((partialP (mulP p q) a)), .eq (vdp), .eq (vq), .poly (by decide) (by decide) ((mulP (partialP p a) q)), .eq (vp), .eq (vdq), .poly (by decide) (by decide) ((mulP p (partialP q a))), .poly (by decide) (by decide) ((addP (mulP (partialP p a) q) (mulP p (partialP q a)))), .ret (.bool true), .eq (.bool true), .eq (.bool true), .eq (vdp), .eq (.int .i64 (b : Int)), .poly (by decide) (by decide) ((partialP (partialP p a) b)), .eq (vp), .eq (.int .i64 (b : Int)), .poly (by decide) (by decide) ((partialP p b)), .eq (.int .i64 (a : Int)), .poly (by decide) (by decide) ((partialP (partialP p b) a)), .ret (.bool true), .eq (.bool true)] [37, 38, 39, 40, 41, 42, 43, 44, 45, 46, 47, 48, 49, 50, 51, 52, 53, 54, 55, 56, 57, 58, 59, 60, 61, 62, 63, 64, 65, 66, 67, 68, 69, 70, 71] rfl rfl rfl rfl ⟨?_, ?_, ?_, ?_, ?_, ?_, ?_, ?_, ?_, ?_, ?_, ?_, ?_, ?_, ?_, ?_, ?_, ?_, ?_, ?_, ?_, ?_, ?_, ?_, ?_, ?_, ?_, ?_, ?_, ?_, ?_, ?_, ?_, ?_, ?_, trivial⟩ ?_
  · exact fun A w1 hA hL hS he => goOn_plain rfl (stepG_mv rfl rfl (hA 8 rfl))
  · exact fun A w1 hA hL hS he => goOn_plain rfl (stepG_mv rfl rfl (hA 9 rfl))
  · intro A w1 hA hL hS he
    have hb := hS rfl
    have h37 : A.eval (.tmp 37) = _ := he.1 rfl
    have h38 : A.eval (.tmp 38) = _ := he.2.1 rfl
    have hf0 : A.eval (.func 36) = .func (.func 36) #[] #[] := rfl
    refine goOn_plain rfl ?_
    refine stepG_call (f := 36) (args := #[vp, vq]) rfl rfl ?_ ?_
    · generalize A.eval = ev at *
      go_simp
    · refine (add7K P Q (hp.on hb) (hq.on hb)).mono ?_
      rintro e w' ⟨v, rfl, hi, hb'⟩
      exact ⟨_, rfl, hb', hi⟩
  · exact fun A w1 hA hL hS he => goOn_plain rfl (stepG_mv rfl rfl (hA 10 rfl))
  · intro A w1 hA hL hS he
    have hb := hS rfl
    have f39 : ((.poly (by decide) (by decide) ((addP p q)) : FactL (Lr (none) (0)))).p (A.eval (.tmp 39)) w1 := he.1 rfl
    obtain ⟨v39, h39⟩ : ∃ v, A.eval (.tmp 39) = v := ⟨_, rfl⟩
    rw [h39] at f39
    have h40 : A.eval (.tmp 40) = _ := he.2.1 rfl
    have hf0 : A.eval (.func 52) = .func (.func 52) #[] #[] := rfl
    refine goOn_plain rfl ?_
    refine stepG_call (f := 52) (args := #[v39, .int .i64 (a : Int)]) rfl rfl ?_ ?_
    · generalize A.eval = ev at *
      go_simp
    · refine (partialK SA (by decide) ha4 f39).mono ?_
      rintro e w' ⟨v, rfl, hi, hb'⟩
      exact ⟨_, rfl, hb', hi⟩
  · exact fun A w1 hA hL hS he => goOn_plain rfl (stepG_mv rfl rfl (hA 12 rfl))
  · exact fun A w1 hA hL hS he => goOn_plain rfl (stepG_mv rfl rfl (hA 13 rfl))
  · intro A w1 hA hL hS he
    have hb := hS rfl
    have h42 : A.eval (.tmp 42) = _ := he.1 rfl
    have h43 : A.eval (.tmp 43) = _ := he.2.1 rfl
    have hf0 : A.eval (.func 36) = .func (.func 36) #[] #[] := rfl
    refine goOn_plain rfl ?_
    refine stepG_call (f := 36) (args := #[vdp, vdq]) rfl rfl ?_ ?_
    · generalize A.eval = ev at *
      go_simp
    · refine (add7K DP DQ (hdp.on hb) (hdq.on hb)).mono ?_
      rintro e w' ⟨v, rfl, hi, hb'⟩
      exact ⟨_, rfl, hb', hi⟩
  · intro A w1 hA hL hS he
    have hb := hS rfl
    have f41 : ((.poly (by decide) (by decide) ((partialP (addP p q) a)) : FactL (Lr (none) (0)))).p (A.eval (.tmp 41)) w1 := he.1 rfl
    obtain ⟨v41, h41⟩ : ∃ v, A.eval (.tmp 41) = v := ⟨_, rfl⟩
    rw [h41] at f41
    have f44 : ((.poly (by decide) (by decide) ((addP (partialP p a) (partialP q a))) : FactL (Lr (none) (0)))).p (A.eval (.tmp 44)) w1 := he.2.1 rfl
    obtain ⟨v44, h44⟩ : ∃ v, A.eval (.tmp 44) = v := ⟨_, rfl⟩
    rw [h44] at f44
    have hf0 : A.eval (.func 17) = .func (.func 17) #[] #[] := rfl
    refine goOn_plain rfl ?_
    refine stepG_call (f := 17) (args := #[v41, v44]) rfl rfl ?_ ?_
    · generalize A.eval = ev at *
      go_simp
    · refine (sameK DSA ADD e1.out f41 f44).mono ?_
      rintro e w' ⟨rfl, hb'⟩
      exact ⟨_, rfl, hb', rfl⟩
  · exact fun A w1 hA hL hS he => goOn_plain rfl (stepG_mv rfl rfl (he.1 rfl))
  · exact fun A w1 hA hL hS he => goOn_yes rfl rfl (he.1 rfl) (stepG_mv rfl rfl (hA 8 rfl))
  · exact fun A w1 hA hL hS he => goOn_yes rfl rfl (he.1 rfl) (stepG_mv rfl rfl (hA 9 rfl))
  · intro A w1 hA hL hS he
    have hb := hS rfl
    have h46 : A.eval (.tmp 46) = _ := he.2.2.1 rfl
    have h47 : A.eval (.tmp 47) = _ := he.1 rfl
    have h48 : A.eval (.tmp 48) = _ := he.2.1 rfl
    have hf0 : A.eval (.func 30) = .func (.func 30) #[] #[] := rfl
    refine goOn_yes rfl rfl h46 ?_
    refine stepG_call (f := 30) (args := #[vp, vq]) rfl rfl ?_ ?_
    · generalize A.eval = ev at *
      go_simp
    · refine (mul7K P Q M.k (hp.on hb) (hq.on hb)).mono ?_
      rintro e w' ⟨v, rfl, hi, hb'⟩
      exact ⟨_, rfl, hb', hi⟩
  · exact fun A w1 hA hL hS he => goOn_yes rfl rfl (he.1 rfl) (stepG_mv rfl rfl (hA 10 rfl))
  · intro A w1 hA hL hS he
    have hb := hS rfl
    have h46 : A.eval (.tmp 46) = _ := he.2.2.2.1 rfl
    have f49 : ((.poly (by decide) (by decide) ((mulP p q)) : FactL (Lr (none) (0)))).p (A.eval (.tmp 49)) w1 := he.1 rfl
    obtain ⟨v49, h49⟩ : ∃ v, A.eval (.tmp 49) = v := ⟨_, rfl⟩
    rw [h49] at f49
    have h50 : A.eval (.tmp 50) = _ := he.2.1 rfl
    have hf0 : A.eval (.func 52) = .func (.func 52) #[] #[] := rfl
    refine goOn_yes rfl rfl h46 ?_
    refine stepG_call (f := 52) (args := #[v49, .int .i64 (a : Int)]) rfl rfl ?_ ?_
    · generalize A.eval = ev at *
      go_simp
    · refine (partialK M (by decide) ha4 f49).mono ?_
      rintro e w' ⟨v, rfl, hi, hb'⟩
      exact ⟨_, rfl, hb', hi⟩
  · exact fun A w1 hA hL hS he => goOn_yes rfl rfl (he.1 rfl) (stepG_mv rfl rfl (hA 12 rfl))
  · exact fun A w1 hA hL hS he => goOn_yes rfl rfl (he.1 rfl) (stepG_mv rfl rfl (hA 9 rfl))
  · intro A w1 hA hL hS he
    have hb := hS rfl
    have h46 : A.eval (.tmp 46) = _ := he.2.2.2.1 rfl
    have h52 : A.eval (.tmp 52) = _ := he.1 rfl
    have h53 : A.eval (.tmp 53) = _ := he.2.1 rfl
    have hf0 : A.eval (.func 30) = .func (.func 30) #[] #[] := rfl
    refine goOn_yes rfl rfl h46 ?_
    refine stepG_call (f := 30) (args := #[vdp, vq]) rfl rfl ?_ ?_
    · generalize A.eval = ev at *
      go_simp
    · refine (mul7K DP Q M1.k (hdp.on hb) (hq.on hb)).mono ?_
      rintro e w' ⟨v, rfl, hi, hb'⟩
      exact ⟨_, rfl, hb', hi⟩
  · exact fun A w1 hA hL hS he => goOn_yes rfl rfl (he.1 rfl) (stepG_mv rfl rfl (hA 8 rfl))
  · exact fun A w1 hA hL hS he => goOn_yes rfl rfl (he.1 rfl) (stepG_mv rfl rfl (hA 13 rfl))
  · intro A w1 hA hL hS he
    have hb := hS rfl
    have h46 : A.eval (.tmp 46) = _ := he.2.2.2.1 rfl
    have h55 : A.eval (.tmp 55) = _ := he.1 rfl
    have h56 : A.eval (.tmp 56) = _ := he.2.1 rfl
    have hf0 : A.eval (.func 30) = .func (.func 30) #[] #[] := rfl
    refine goOn_yes rfl rfl h46 ?_
    refine stepG_call (f := 30) (args := #[vp, vdq]) rfl rfl ?_ ?_
    · generalize A.eval = ev at *
      go_simp
    · refine (mul7K P DQ M2.k (hp.on hb) (hdq.on hb)).mono ?_
      rintro e w' ⟨v, rfl, hi, hb'⟩
      exact ⟨_, rfl, hb', hi⟩
  · intro A w1 hA hL hS he
    have hb := hS rfl
    have h46 : A.eval (.tmp 46) = _ := he.2.2.2.1 rfl
    have f54 : ((.poly (by decide) (by decide) ((mulP (partialP p a) q)) : FactL (Lr (none) (0)))).p (A.eval (.tmp 54)) w1 := he.1 rfl
    obtain ⟨v54, h54⟩ : ∃ v, A.eval (.tmp 54) = v := ⟨_, rfl⟩
    rw [h54] at f54
    have f57 : ((.poly (by decide) (by decide) ((mulP p (partialP q a))) : FactL (Lr (none) (0)))).p (A.eval (.tmp 57)) w1 := he.2.1 rfl
    obtain ⟨v57, h57⟩ : ∃ v, A.eval (.tmp 57) = v := ⟨_, rfl⟩
    rw [h57] at f57
    have hf0 : A.eval (.func 36) = .func (.func 36) #[] #[] := rfl
    refine goOn_yes rfl rfl h46 ?_
    refine stepG_call (f := 36) (args := #[v54, v57]) rfl rfl ?_ ?_
    · generalize A.eval = ev at *
      go_simp
    · refine (add7K M1 M2 f54 f57).mono ?_
      rintro e w' ⟨v, rfl, hi, hb'⟩
      exact ⟨_, rfl, hb', hi⟩
  · intro A w1 hA hL hS he
    have hb := hS rfl
    have h46 : A.eval (.tmp 46) = _ := he.2.2.2.1 rfl
    have f51 : ((.poly (by decide) (by decide) ((partialP (mulP p q) a)) : FactL (Lr (none) (0)))).p (A.eval (.tmp 51)) w1 := he.1 rfl
    obtain ⟨v51, h51⟩ : ∃ v, A.eval (.tmp 51) = v := ⟨_, rfl⟩
    rw [h51] at f51
    have f58 : ((.poly (by decide) (by decide) ((addP (mulP (partialP p a) q) (mulP p (partialP q a)))) : FactL (Lr (none) (0)))).p (A.eval (.tmp 58)) w1 := he.2.1 rfl
    obtain ⟨v58, h58⟩ : ∃ v, A.eval (.tmp 58) = v := ⟨_, rfl⟩
    rw [h58] at f58
    have hf0 : A.eval (.func 17) = .func (.func 17) #[] #[] := rfl
    refine goOn_yes rfl rfl h46 ?_
    refine stepG_call (f := 17) (args := #[v51, v58]) rfl rfl ?_ ?_
    · generalize A.eval = ev at *
      go_simp
    · refine (sameK DM AM e2.out f51 f58).mono ?_
      rintro e w' ⟨rfl, hb'⟩
      exact ⟨_, rfl, hb', rfl⟩
  · exact fun A w1 hA hL hS he => goOn_plain rfl (stepG_pk rfl (he.1 rfl) rfl (he.2.1 rfl))
  · exact fun A w1 hA hL hS he => goOn_plain rfl (stepG_mv rfl rfl (he.1 rfl))
  · exact fun A w1 hA hL hS he => goOn_yes rfl rfl (he.1 rfl) (stepG_mv rfl rfl (hA 12 rfl))
  · exact fun A w1 hA hL hS he => goOn_yes rfl rfl (he.1 rfl) (stepG_mv rfl rfl (hA 11 rfl))
  · intro A w1 hA hL hS he
    have hb := hS rfl
    have h61 : A.eval (.tmp 61) = _ := he.2.2.1 rfl
    have h62 : A.eval (.tmp 62) = _ := he.1 rfl
    have h63 : A.eval (.tmp 63) = _ := he.2.1 rfl
    have hf0 : A.eval (.func 52) = .func (.func 52) #[] #[] := rfl
    refine goOn_yes rfl rfl h61 ?_
    refine stepG_call (f := 52) (args := #[vdp, .int .i64 (b : Int)]) rfl rfl ?_ ?_
    · generalize A.eval = ev at *
      go_simp
    · refine (partialK DP (by decide) hb4 (hdp.on hb)).mono ?_
      rintro e w' ⟨v, rfl, hi, hb'⟩
      exact ⟨_, rfl, hb', hi⟩
  · exact fun A w1 hA hL hS he => goOn_yes rfl rfl (he.1 rfl) (stepG_mv rfl rfl (hA 8 rfl))
  · exact fun A w1 hA hL hS he => goOn_yes rfl rfl (he.1 rfl) (stepG_mv rfl rfl (hA 11 rfl))
  · intro A w1 hA hL hS he
    have hb := hS rfl
    have h61 : A.eval (.tmp 61) = _ := he.2.2.2.1 rfl
    have h65 : A.eval (.tmp 65) = _ := he.1 rfl
    have h66 : A.eval (.tmp 66) = _ := he.2.1 rfl
    have hf0 : A.eval (.func 52) = .func (.func 52) #[] #[] := rfl
    refine goOn_yes rfl rfl h61 ?_
    refine stepG_call (f := 52) (args := #[vp, .int .i64 (b : Int)]) rfl rfl ?_ ?_
    · generalize A.eval = ev at *
      go_simp
    · refine (partialK P (by decide) hb4 (hp.on hb)).mono ?_
      rintro e w' ⟨v, rfl, hi, hb'⟩
      exact ⟨_, rfl, hb', hi⟩
  · exact fun A w1 hA hL hS he => goOn_yes rfl rfl (he.1 rfl) (stepG_mv rfl rfl (hA 10 rfl))
  · intro A w1 hA hL hS he
    have hb := hS rfl
    have h61 : A.eval (.tmp 61) = _ := he.2.2.2.1 rfl
    have f67 : ((.poly (by decide) (by decide) ((partialP p b)) : FactL (Lr (none) (0)))).p (A.eval (.tmp 67)) w1 := he.1 rfl
    obtain ⟨v67, h67⟩ : ∃ v, A.eval (.tmp 67) = v := ⟨_, rfl⟩
    rw [h67] at f67
    have h68 : A.eval (.tmp 68) = _ := he.2.1 rfl
    have hf0 : A.eval (.func 52) = .func (.func 52) #[] #[] := rfl
    refine goOn_yes rfl rfl h61 ?_
    refine stepG_call (f := 52) (args := #[v67, .int .i64 (a : Int)]) rfl rfl ?_ ?_
    · generalize A.eval = ev at *
      go_simp
    · refine (partialK DY (by decide) ha4 f67).mono ?_
      rintro e w' ⟨v, rfl, hi, hb'⟩
      exact ⟨_, rfl, hb', hi⟩
  · intro A w1 hA hL hS he
    have hb := hS rfl
    have h61 : A.eval (.tmp 61) = _ := he.2.2.2.1 rfl
    have f64 : ((.poly (by decide) (by decide) ((partialP (partialP p a) b)) : FactL (Lr (none) (0)))).p (A.eval (.tmp 64)) w1 := he.1 rfl
    obtain ⟨v64, h64⟩ : ∃ v, A.eval (.tmp 64) = v := ⟨_, rfl⟩
    rw [h64] at f64
    have f69 : ((.poly (by decide) (by decide) ((partialP (partialP p b) a)) : FactL (Lr (none) (0)))).p (A.eval (.tmp 69)) w1 := he.2.1 rfl
    obtain ⟨v69, h69⟩ : ∃ v, A.eval (.tmp 69) = v := ⟨_, rfl⟩
    rw [h69] at f69
    have hf0 : A.eval (.func 17) = .func (.func 17) #[] #[] := rfl
    refine goOn_yes rfl rfl h61 ?_
    refine stepG_call (f := 17) (args := #[v64, v69]) rfl rfl ?_ ?_
    · generalize A.eval = ev at *
      go_simp
    · refine (sameK DPY DYX e3.out f64 f69).mono ?_
      rintro e w' ⟨rfl, hb'⟩
      exact ⟨_, rfl, hb', rfl⟩
  · exact fun A w1 hA hL hS he => goOn_plain rfl (stepG_pk rfl (he.1 rfl) rfl (he.2.1 rfl))
  intro w5 hL
  simp only [TailL, FactL.eq, FactL.poly, FactL.ret, FactL.of, List.length_cons, List.length_nil, List.drop_succ_cons, List.drop_zero]
  rintro _ - _ - _ - _ - _ - _ - _ - _ - _ - _ - _ -
  go_frame
  have hb := hL.below
  replace hdp := hdp.on hb
  replace ho := ho.on hb
  replace hb0 := hb0.trans (hb.mono hb0.size)
  clear hL hb hp hq hdq e1 e2 e3 DQ DY DPY DYX SA DSA ADD M DM M1 M2 AM
  go_upto_region 6 with (fail)
  by_cases hab : a = b
  · have k1 : (a : Int) = (b : Int) := by omega
    have k2 : ((a : Int) == (b : Int)) = true := by simp; omega
    have e5 : partialP (varP b) a = constP ((1 : Int) : Rat) := by rw [e4.out, if_pos hab]; rfl
    have hw7 := fun W => whole7_any 1 ⟨1, 1, 0, 1⟩ W (by omega) (by omega) (smB_bd (by decide +kernel)) (by decide +kernel)
    replace e5 := Lib.hid e5
    replace hw7 := Lib.hid hw7
    refine wp_region_S trivial (none) (0) (Okr.none) [.eq (.bool true), .eq (.bool true), .eq (vdp), .ret (.bool true), .eq (.bool true), .eq (.bool true), .eq (.int .i64 (a : Int)), .eq (.int .i64 (b : Int)), .eq (.bool true), .eq (.bool true), .eq (vo), .poly (by decide) (by decide) ((constP ((1 : Int) : Rat))), .ret (.bool true), .eq (.bool true), .eq (.bool true), .eq undef, .eq undef, .eq undef, .eq undef, .eq undef, .eq undef, .eq undef, .eq undef, .eq (.bool true), .eq (.bool true), .eq (.bool true), .eq (.bool true), .eq (.bool true)] [72, 73, 74, 75, 76, 77, 78, 79, 80, 81, 82, 83, 84, 85, 86, 87, 88, 89, 90, 91, 92, 93, 94, 95, 96, 97, 98, 99] rfl rfl rfl rfl ⟨?_, ?_, ?_, ?_, ?_, ?_, ?_, ?_, ?_, ?_, ?_, ?_, ?_, ?_, ?_, ?_, ?_, ?_, ?_, ?_, ?_, ?_, ?_, ?_, ?_, ?_, ?_, ?_, trivial⟩ ?_
    · exact fun A w1 hA hL hS he => goOn_plain rfl (stepG_mv rfl rfl (hA 15 rfl))
    · exact fun A w1 hA hL hS he => goOn_plain rfl (stepG_mv rfl rfl (he.1 rfl))
    · exact fun A w1 hA hL hS he => goOn_yes rfl rfl (he.1 rfl) (stepG_mv rfl rfl (hA 12 rfl))
    · intro A w1 hA hL hS he
      have hb := hS rfl
      have h73 : A.eval (.tmp 73) = _ := he.2.1 rfl
      have h74 : A.eval (.tmp 74) = _ := he.1 rfl
      have hf0 : A.eval (.func 15) = .func (.func 15) #[] #[] := rfl
      refine goOn_yes rfl rfl h73 ?_
      refine stepG_call (f := 15) (args := #[vdp]) rfl rfl ?_ ?_
      · generalize A.eval = ev at *
        go_simp
      · refine (valid7K DP (hdp.on hb)).mono ?_
        rintro e w' ⟨rfl, hb'⟩
        exact ⟨_, rfl, hb', rfl⟩
    · exact fun A w1 hA hL hS he => goOn_plain rfl (stepG_pk rfl (he.1 rfl) rfl (he.2.1 rfl))
    · exact fun A w1 hA hL hS he => goOn_plain rfl (stepG_mv rfl rfl (he.1 rfl))
    · exact fun A w1 hA hL hS he => goOn_yes rfl rfl (he.1 rfl) (stepG_mv rfl rfl (hA 10 rfl))
    · exact fun A w1 hA hL hS he => goOn_yes rfl rfl (he.1 rfl) (stepG_mv rfl rfl (hA 11 rfl))
    · intro A w1 hA hL hS he
      have h77 : A.eval (.tmp 77) = _ := he.2.2.1 rfl
      have h78 : A.eval (.tmp 78) = _ := he.1 rfl
      have h79 : A.eval (.tmp 79) = _ := he.2.1 rfl
      refine goOn_yes rfl rfl h77 ?_
      refine stepG_pure rfl rfl ?_
      generalize A.eval = ev at *
      go_simp
    · exact fun A w1 hA hL hS he => goOn_yes rfl rfl (he.2.1 rfl) (stepG_mv rfl rfl (he.1 rfl))
    · exact fun A w1 hA hL hS he => goOn_yes rfl rfl (he.1 rfl) (stepG_mv rfl rfl (hA 14 rfl))
    · intro A w1 hA hL hS he
      have hb := hS rfl
      have h81 : A.eval (.tmp 81) = _ := he.1 rfl
      have hf0 : A.eval (.func 42) = .func (.func 42) #[] #[] := rfl
      have hc0 : A.eval (.const (.int .i64 1)) = .int .i64 1 := rfl
      refine goOn_yes rfl rfl h81 ?_
      refine stepG_call (f := 42) (args := #[(.int .i64 1)]) rfl rfl ?_ ?_
      · generalize A.eval = ev at *
        go_simp
      · refine (hw7.out _).mono ?_
        rintro e w' ⟨v, rfl, hi, hb'⟩
        exact ⟨_, rfl, hb', hi⟩
    · intro A w1 hA hL hS he
      have hb := hS rfl
      have h81 : A.eval (.tmp 81) = _ := he.2.2.2.1 rfl
      have h82 : A.eval (.tmp 82) = _ := he.1 rfl
      have f83 : ((.poly (by decide) (by decide) ((constP ((1 : Int) : Rat))) : FactL (Lr (none) (0)))).p (A.eval (.tmp 83)) w1 := he.2.1 rfl
      obtain ⟨v83, h83⟩ : ∃ v, A.eval (.tmp 83) = v := ⟨_, rfl⟩
      rw [h83] at f83
      have hf0 : A.eval (.func 17) = .func (.func 17) #[] #[] := rfl
      refine goOn_yes rfl rfl h81 ?_
      refine stepG_call (f := 17) (args := #[vo, v83]) rfl rfl ?_ ?_
      · generalize A.eval = ev at *
        go_simp
      · refine (sameK OW (show Pk ⟨1, 1, 0, 1⟩ (constP ((1 : Int) : Rat)) from one_pk) e5.out (ho.on hb) f83).mono ?_
        rintro e w' ⟨rfl, hb'⟩
        exact ⟨_, rfl, hb', rfl⟩
    · exact fun A w1 hA hL hS he => goOn_yes rfl rfl (he.2.2.1 rfl) (stepG_pk rfl (he.1 rfl) rfl (he.2.1 rfl))
    · exact fun A w1 hA hL hS he => goOn_yes rfl rfl (he.2.2.1 rfl) (stepG_mv rfl rfl (he.1 rfl))
    · exact fun A w1 hA hL hS he => goOn_no (x := true) rfl rfl (he.1 rfl) rfl rfl
    · exact fun A w1 hA hL hS he => goOn_no (x := true) rfl rfl (he.1 rfl) rfl rfl
    · exact fun A w1 hA hL hS he => goOn_no (x := true) rfl rfl (he.2.2.1 rfl) rfl rfl
    · exact fun A w1 hA hL hS he => goOn_no (x := true) rfl rfl (he.2.1 rfl) rfl rfl
    · exact fun A w1 hA hL hS he => goOn_undef rfl rfl (he.1 rfl) rfl
    · exact fun A w1 hA hL hS he => goOn_undef rfl rfl (he.2.1 rfl) rfl
    · exact fun A w1 hA hL hS he => goOn_undef rfl rfl (he.2.1 rfl) rfl
    · exact fun A w1 hA hL hS he => goOn_no (x := true) rfl rfl (he.2.2.1 rfl) rfl rfl
    · exact fun A w1 hA hL hS he => goOn_yes rfl rfl (he.2.2.1 rfl) (stepG_pk rfl (he.1 rfl) rfl rfl)
    · exact fun A w1 hA hL hS he => goOn_plain rfl (stepG_pk rfl (he.1 rfl) rfl (he.2.1 rfl))
    · exact fun A w1 hA hL hS he => goOn_plain rfl (stepG_mv rfl rfl (he.1 rfl))
    · exact fun A w1 hA hL hS he => goOn_yes rfl rfl (he.1 rfl) (stepG_mv rfl rfl (hA 7 rfl))
    · exact fun A w1 hA hL hS he => goOn_plain rfl (stepG_pk rfl (he.1 rfl) rfl (he.2.1 rfl))
    intro w6 hL
    simp only [TailL, FactL.eq, FactL.poly, FactL.ret, FactL.of, List.length_cons, List.length_nil, List.drop_succ_cons, List.drop_zero]
    rintro _ -
    go_frame
    replace hb0 := hb0.trans (hL.below.mono hb0.size)
    go_wp2
    go_ret
    exact ⟨rfl, hb0⟩
  · have k1 : ¬ (a : Int) = (b : Int) := by omega
    have k2 : ((a : Int) == (b : Int)) = false := by simp; omega
    have k3 : ((a : Int) != (b : Int)) = true := by simp; omega
    have e5 : partialP (varP b) a = [] := by rw [e4.out, if_neg hab]
    rw [e5] at ho
    obtain ⟨ao, co, rfl, -⟩ := ho.shape
    refine wp_region_S trivial (none) (0) (Okr.none) [.eq (.bool true), .eq (.bool true), .eq (vdp), .ret (.bool true), .eq (.bool true), .eq (.bool true), .eq (.int .i64 (a : Int)), .eq (.int .i64 (b : Int)), .eq (.bool false), .eq (.bool false), .eq undef, .eq undef, .eq undef, .eq (.bool false), .eq (.bool false), .eq (.int .i64 (a : Int)), .eq (.int .i64 (b : Int)), .eq (.bool true), .eq (.bool true), .eq (.slice ao ([] : List Trm).length co), .eq (.int .i64 0), .eq (.bool true), .eq (.bool true), .eq (.bool true), .eq (.bool true), .eq (.bool true), .eq (.bool true), .eq (.bool true)] [72, 73, 74, 75, 76, 77, 78, 79, 80, 81, 82, 83, 84, 85, 86, 87, 88, 89, 90, 91, 92, 93, 94, 95, 96, 97, 98, 99] rfl rfl rfl rfl ⟨?_, ?_, ?_, ?_, ?_, ?_, ?_, ?_, ?_, ?_, ?_, ?_, ?_, ?_, ?_, ?_, ?_, ?_, ?_, ?_, ?_, ?_, ?_, ?_, ?_, ?_, ?_, ?_, trivial⟩ ?_
    · exact fun A w1 hA hL hS he => goOn_plain rfl (stepG_mv rfl rfl (hA 15 rfl))
    · exact fun A w1 hA hL hS he => goOn_plain rfl (stepG_mv rfl rfl (he.1 rfl))
    · exact fun A w1 hA hL hS he => goOn_yes rfl rfl (he.1 rfl) (stepG_mv rfl rfl (hA 12 rfl))
    · intro A w1 hA hL hS he
      have hb := hS rfl
      have h73 : A.eval (.tmp 73) = _ := he.2.1 rfl
      have h74 : A.eval (.tmp 74) = _ := he.1 rfl
      have hf0 : A.eval (.func 15) = .func (.func 15) #[] #[] := rfl
      refine goOn_yes rfl rfl h73 ?_
      refine stepG_call (f := 15) (args := #[vdp]) rfl rfl ?_ ?_
      · generalize A.eval = ev at *
        go_simp
      · refine (valid7K DP (hdp.on hb)).mono ?_
        rintro e w' ⟨rfl, hb'⟩
        exact ⟨_, rfl, hb', rfl⟩
    · exact fun A w1 hA hL hS he => goOn_plain rfl (stepG_pk rfl (he.1 rfl) rfl (he.2.1 rfl))
    · exact fun A w1 hA hL hS he => goOn_plain rfl (stepG_mv rfl rfl (he.1 rfl))
    · exact fun A w1 hA hL hS he => goOn_yes rfl rfl (he.1 rfl) (stepG_mv rfl rfl (hA 10 rfl))
    · exact fun A w1 hA hL hS he => goOn_yes rfl rfl (he.1 rfl) (stepG_mv rfl rfl (hA 11 rfl))
    · intro A w1 hA hL hS he
      have h77 : A.eval (.tmp 77) = _ := he.2.2.1 rfl
      have h78 : A.eval (.tmp 78) = _ := he.1 rfl
      have h79 : A.eval (.tmp 79) = _ := he.2.1 rfl
      refine goOn_yes rfl rfl h77 ?_
      refine stepG_pure rfl rfl ?_
      generalize A.eval = ev at *
      go_simp
    · exact fun A w1 hA hL hS he => goOn_yes rfl rfl (he.2.1 rfl) (stepG_mv rfl rfl (he.1 rfl))
    · exact fun A w1 hA hL hS he => goOn_no (x := false) rfl rfl (he.1 rfl) rfl rfl
    · exact fun A w1 hA hL hS he => goOn_no (x := false) rfl rfl (he.1 rfl) rfl rfl
    · exact fun A w1 hA hL hS he => goOn_no (x := false) rfl rfl (he.2.2.2.1 rfl) rfl rfl
    · exact fun A w1 hA hL hS he => goOn_yes rfl rfl (he.2.2.1 rfl) (stepG_pk rfl (he.1 rfl) rfl rfl)
    · exact fun A w1 hA hL hS he => goOn_yes rfl rfl (he.2.2.1 rfl) (stepG_mv rfl rfl (he.1 rfl))
    · exact fun A w1 hA hL hS he => goOn_yes rfl rfl (he.1 rfl) (stepG_mv rfl rfl (hA 10 rfl))
    · exact fun A w1 hA hL hS he => goOn_yes rfl rfl (he.1 rfl) (stepG_mv rfl rfl (hA 11 rfl))
    · intro A w1 hA hL hS he
      have h86 : A.eval (.tmp 86) = _ := he.2.2.1 rfl
      have h87 : A.eval (.tmp 87) = _ := he.1 rfl
      have h88 : A.eval (.tmp 88) = _ := he.2.1 rfl
      refine goOn_yes rfl rfl h86 ?_
      refine stepG_pure rfl rfl ?_
      generalize A.eval = ev at *
      go_simp
    · exact fun A w1 hA hL hS he => goOn_yes rfl rfl (he.2.1 rfl) (stepG_mv rfl rfl (he.1 rfl))
    · exact fun A w1 hA hL hS he => goOn_yes rfl rfl (he.1 rfl) (stepG_mv rfl rfl (hA 14 rfl))
    · intro A w1 hA hL hS he
      have h90 : A.eval (.tmp 90) = _ := he.2.1 rfl
      have h91 : A.eval (.tmp 91) = _ := he.1 rfl
      refine goOn_yes rfl rfl h90 ?_
      refine stepG_pure rfl rfl ?_
      generalize A.eval = ev at *
      go_simp
    · intro A w1 hA hL hS he
      have h90 : A.eval (.tmp 90) = _ := he.2.1 rfl
      have h92 : A.eval (.tmp 92) = _ := he.1 rfl
      have hc0 : A.eval (.const (.int .i64 0)) = .int .i64 0 := rfl
      refine goOn_yes rfl rfl h90 ?_
      refine stepG_pure rfl rfl ?_
      generalize A.eval = ev at *
      go_simp
    · exact fun A w1 hA hL hS he => goOn_yes rfl rfl (he.2.2.1 rfl) (stepG_pk rfl (he.1 rfl) rfl (he.2.1 rfl))
    · exact fun A w1 hA hL hS he => goOn_yes rfl rfl (he.2.2.1 rfl) (stepG_pk rfl (he.1 rfl) rfl (he.2.1 rfl))
    · exact fun A w1 hA hL hS he => goOn_plain rfl (stepG_pk rfl (he.1 rfl) rfl (he.2.1 rfl))
    · exact fun A w1 hA hL hS he => goOn_plain rfl (stepG_mv rfl rfl (he.1 rfl))
    · exact fun A w1 hA hL hS he => goOn_yes rfl rfl (he.1 rfl) (stepG_mv rfl rfl (hA 7 rfl))
    · exact fun A w1 hA hL hS he => goOn_plain rfl (stepG_pk rfl (he.1 rfl) rfl (he.2.1 rfl))
    intro w6 hL
    simp only [TailL, FactL.eq, FactL.poly, FactL.ret, FactL.of, List.length_cons, List.length_nil, List.drop_succ_cons, List.drop_zero]
    go_frame
    replace hb0 := hb0.trans (hL.below.mono hb0.size)
    go_wp2
    go_ret
    exact ⟨rfl, hb0⟩
end Go.Proofs.YtplfdeohokkebaaGreat
