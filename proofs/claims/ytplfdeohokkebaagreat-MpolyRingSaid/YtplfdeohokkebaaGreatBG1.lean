/- law07.MpolyRing: the walk. -/
import Derived.Test.YtplfdeohokkebaaGreatB37
import Derived.Test.YtplfdeohokkebaaGreatBE6
set_option linter.unusedVariables false
set_option linter.unusedSimpArgs false
namespace Go.Proofs.YtplfdeohokkebaaGreat
open Go.RowKit Q Go.WideMaps Go.Maps
set_option maxHeartbeats 16000000 in
set_option maxRecDepth 100000 in
theorem ring_any (v1 v2 v3 : Value) (L1 L2 L3 : List Drw) (w : World) (h1 : IsDraw w v1 L1) (h2 : IsDraw w v2 L2) (h3 : IsDraw w v3 L3) :
    Calls Tryz.prog 4 #[v1, v2, v3] w (Ret w (.bool true)) := by
  have P1 : Pk ⟨1, 45, 2, 5⟩ (madeP L1 5 3) := made_pk (n := 5) (vs := 3) L1 (by decide)
  have P2 : Pk ⟨1, 45, 2, 5⟩ (madeP L2 5 3) := made_pk (n := 5) (vs := 3) L2 (by decide)
  have P3 : Pk ⟨1, 45, 2, 5⟩ (madeP L3 5 3) := made_pk (n := 5) (vs := 3) L3 (by decide)
  have m1 := Lib.hid (fun W (hb : Below w.heap.size w W) => made_any v1 L1 W (h1.on hb))
  have m2 := Lib.hid (fun W (hb : Below w.heap.size w W) => made_any v2 L2 W (h2.on hb))
  have m3 := Lib.hid (fun W (hb : Below w.heap.size w W) => made_any v3 L3 W (h3.on hb))
  generalize madeP L1 5 3 = p at *
  generalize madeP L2 5 3 = q at *
  generalize madeP L3 5 3 = r at *
  clear h1 h2 h3
  go_enter Tryz.func4, Tryz.ntmps4
  go_upto_region 2 with (go_at_call 12; refine (sanity_any _).mono ?_; rintro e w1 ⟨rfl, hb1⟩)
  refine wp_region_S trivial (none) (0) (Okr.none) [.eq (v1), .poly (by decide) (by decide) (p), .eq (v2), .poly (by decide) (by decide) (q), .eq (v3), .poly (by decide) (by decide) (r)] [16, 17, 18, 19, 20, 21] rfl rfl rfl rfl ⟨?_, ?_, ?_, ?_, ?_, ?_, trivial⟩ ?_
  · exact fun A w1 hA hL hS he => goOn_plain rfl (stepG_mv rfl rfl (hA 0 rfl))
  · intro A w1 hA hL hS he
    have hb := hS rfl
    have h16 : A.eval (.tmp 16) = _ := he.1 rfl
    have hf0 : A.eval (.func 22) = .func (.func 22) #[] #[] := rfl
    refine goOn_plain rfl ?_
    refine stepG_call (f := 22) (args := #[v1]) rfl rfl ?_ ?_
    · generalize A.eval = ev at *
      go_simp
    · refine (m1.out _ (hb1.trans (hb.mono hb1.size))).mono ?_
      rintro e w' ⟨v, rfl, hi, hb'⟩
      exact ⟨_, rfl, hb', hi⟩
  · exact fun A w1 hA hL hS he => goOn_plain rfl (stepG_mv rfl rfl (hA 1 rfl))
  · intro A w1 hA hL hS he
    have hb := hS rfl
    have h18 : A.eval (.tmp 18) = _ := he.1 rfl
    have hf0 : A.eval (.func 22) = .func (.func 22) #[] #[] := rfl
    refine goOn_plain rfl ?_
    refine stepG_call (f := 22) (args := #[v2]) rfl rfl ?_ ?_
    · generalize A.eval = ev at *
      go_simp
    · refine (m2.out _ (hb1.trans (hb.mono hb1.size))).mono ?_
      rintro e w' ⟨v, rfl, hi, hb'⟩
      exact ⟨_, rfl, hb', hi⟩
  · exact fun A w1 hA hL hS he => goOn_plain rfl (stepG_mv rfl rfl (hA 2 rfl))
  · intro A w1 hA hL hS he
    have hb := hS rfl
    have h20 : A.eval (.tmp 20) = _ := he.1 rfl
    have hf0 : A.eval (.func 22) = .func (.func 22) #[] #[] := rfl
    refine goOn_plain rfl ?_
    refine stepG_call (f := 22) (args := #[v3]) rfl rfl ?_ ?_
    · generalize A.eval = ev at *
      go_simp
    · refine (m3.out _ (hb1.trans (hb.mono hb1.size))).mono ?_
      rintro e w' ⟨v, rfl, hi, hb'⟩
      exact ⟨_, rfl, hb', hi⟩
  intro w2 hL
  simp only [TailL, FactL.eq, FactL.poly, FactL.ret, FactL.of, List.length_cons, List.length_nil, List.drop_succ_cons, List.drop_zero]
  rintro vp hp vq hq vr hr
  go_frame
  have hb0 := hb1.trans (hL.below.mono hb1.size)
  clear hL hb1 m1 m2 m3
  go_upto_region 3 with (fail)
  have P12 := P1.mul P2 (by decide +kernel)
  have P23 := P2.mul P3 (by decide +kernel)
  refine wp_region_S trivial (none) (0) (Okr.none) [.eq (vp), .eq (vq), .poly (by decide) (by decide) ((mulP p q))] [22, 23, 24] rfl rfl rfl rfl ⟨?_, ?_, ?_, trivial⟩ ?_
  · exact fun A w1 hA hL hS he => goOn_plain rfl (stepG_mv rfl rfl (hA 8 rfl))
  · exact fun A w1 hA hL hS he => goOn_plain rfl (stepG_mv rfl rfl (hA 9 rfl))
  · intro A w1 hA hL hS he
    have hb := hS rfl
    have h22 : A.eval (.tmp 22) = _ := he.1 rfl
    have h23 : A.eval (.tmp 23) = _ := he.2.1 rfl
    have hf0 : A.eval (.func 23) = .func (.func 23) #[] #[] := rfl
    refine goOn_plain rfl ?_
    refine stepG_call (f := 23) (args := #[vp, vq]) rfl rfl ?_ ?_
    · generalize A.eval = ev at *
      go_simp
    · refine (mulK P1 P2 P12.k (hp.on hb) (hq.on hb)).mono ?_
      rintro e w' ⟨v, rfl, hi, hb'⟩
      exact ⟨_, rfl, hb', hi⟩
  intro w3 hL
  simp only [TailL, FactL.eq, FactL.poly, FactL.ret, FactL.of, List.length_cons, List.length_nil, List.drop_succ_cons, List.drop_zero]
  rintro vm hm
  go_frame
  have hb := hL.below
  replace hp := hp.on hb
  replace hq := hq.on hb
  replace hr := hr.on hb
  replace hb0 := hb0.trans (hb.mono hb0.size)
  clear hL hb
  obtain ⟨ap, cp, rfl, hcp⟩ := hp.shape
  obtain ⟨aq, cq, rfl, hcq⟩ := hq.shape
  obtain ⟨am, cm, rfl, hcm⟩ := hm.shape
  have hx : p ≠ [] → q ≠ [] → ∀ v, degP (mulP p q) v = degP p v + degP q v := fun h h' v => degP_mul P1.v P2.v h h' v
  have hz := mulP_nil_iff P1.v P2.v
  replace hx := Lib.hid hx
  replace hz := Lib.hid hz
  go_wp2
  go_loopw [12] (fun i wr => ∃ k : Nat, k ≤ 4 ∧ i = .int .i64 k ∧ Below w3.heap.size w3 wr) (fun i _ => 4 - (intOf i).toNat)
  case atStart => exact ⟨0, by omega, rfl, Below.refl _ _⟩
  case round =>
    obtain ⟨k, hk, rfl, hbr⟩ := hrel
    by_cases hk4 : k < 4
    · have hk4' : (k : Int) < 4 := by omega
      by_cases hpn : p = []
      · have e1 : (p.length : Int) = 0 := by rw [hpn]; rfl
        go_upto_region 7 with (fail)
        refine wp_region_S trivial (none) (0) (Okr.none) [.eq (.slice ap p.length cp), .eq (.int .i64 p.length), .eq (.bool false), .eq (.bool false), .eq undef, .eq undef, .eq undef, .eq (.bool false), .eq (.bool false), .eq undef, .eq undef, .eq undef, .eq undef, .eq undef, .eq undef, .eq undef, .eq undef, .eq undef, .eq undef, .eq undef, .eq (.bool false)] [29, 30, 31, 32, 33, 34, 35, 36, 37, 38, 39, 40, 41, 42, 43, 44, 45, 46, 47, 48, 49] rfl rfl rfl rfl ⟨?_, ?_, ?_, ?_, ?_, ?_, ?_, ?_, ?_, ?_, ?_, ?_, ?_, ?_, ?_, ?_, ?_, ?_, ?_, ?_, ?_, trivial⟩ ?_
        · exact fun A w1 hA hL hS he => goOn_plain rfl (stepG_mv rfl rfl (hA 8 rfl))
        · intro A w1 hA hL hS he
          have h29 : A.eval (.tmp 29) = _ := he.1 rfl
          refine goOn_plain rfl (stepG_pure rfl rfl ?_)
          generalize A.eval = ev at *
          go_simp
        · intro A w1 hA hL hS he
          have h30 : A.eval (.tmp 30) = _ := he.1 rfl
          have hc0 : A.eval (.const (.int .i64 0)) = .int .i64 0 := rfl
          refine goOn_plain rfl (stepG_pure rfl rfl ?_)
          generalize A.eval = ev at *
          go_simp
        · exact fun A w1 hA hL hS he => goOn_plain rfl (stepG_mv rfl rfl (he.1 rfl))
        · exact fun A w1 hA hL hS he => goOn_no (x := false) rfl rfl (he.1 rfl) rfl rfl
        · exact fun A w1 hA hL hS he => goOn_no (x := false) rfl rfl (he.2.1 rfl) rfl rfl
        · exact fun A w1 hA hL hS he => goOn_no (x := false) rfl rfl (he.2.1 rfl) rfl rfl
        · exact fun A w1 hA hL hS he => goOn_plain rfl (stepG_pk rfl (he.1 rfl) rfl rfl)
        · exact fun A w1 hA hL hS he => goOn_plain rfl (stepG_mv rfl rfl (he.1 rfl))
        · exact fun A w1 hA hL hS he => goOn_no (x := false) rfl rfl (he.1 rfl) rfl rfl
        · exact fun A w1 hA hL hS he => goOn_no (x := false) rfl rfl (he.1 rfl) rfl rfl
        · exact fun A w1 hA hL hS he => goOn_no (x := false) rfl rfl (he.2.2.1 rfl) rfl rfl
        · exact fun A w1 hA hL hS he => goOn_no (x := false) rfl rfl (he.1 rfl) rfl rfl
        · exact fun A w1 hA hL hS he => goOn_no (x := false) rfl rfl (he.1 rfl) rfl rfl
        · exact fun A w1 hA hL hS he => goOn_no (x := false) rfl rfl (he.2.2.2.1 rfl) rfl rfl
        · exact fun A w1 hA hL hS he => goOn_no (x := false) rfl rfl (he.1 rfl) rfl rfl
        · exact fun A w1 hA hL hS he => goOn_no (x := false) rfl rfl (he.1 rfl) rfl rfl
        · exact fun A w1 hA hL hS he => goOn_no (x := false) rfl rfl (he.2.2.2.1 rfl) rfl rfl
        · exact fun A w1 hA hL hS he => goOn_no (x := false) rfl rfl (he.2.2.1 rfl) rfl rfl
        · exact fun A w1 hA hL hS he => goOn_no (x := false) rfl rfl (he.2.2.1 rfl) rfl rfl
        · exact fun A w1 hA hL hS he => goOn_plain rfl (stepG_pk rfl (he.1 rfl) rfl rfl)
        intro w4 hL
        simp only [TailL, FactL.eq, FactL.poly, FactL.ret, FactL.of, List.length_cons, List.length_nil, List.drop_succ_cons, List.drop_zero]
        go_frame
        go_wp2
        go_roundw
        case rel => exact ⟨k + 1, by omega, by go_num, hbr.trans (hL.below.mono hbr.size)⟩
        case measure => simp [intOf]; omega
      · have e1' : 0 < p.length := List.length_pos_iff.2 hpn
        have e1 : 0 < (p.length : Int) := by omega
        by_cases hqn : q = []
        · have e2 : (q.length : Int) = 0 := by rw [hqn]; rfl
          go_upto_region 7 with (fail)
          refine wp_region_S trivial (none) (0) (Okr.none) [.eq (.slice ap p.length cp), .eq (.int .i64 p.length), .eq (.bool true), .eq (.bool true), .eq (.slice aq q.length cq), .eq (.int .i64 q.length), .eq (.bool false), .eq (.bool false), .eq (.bool false), .eq undef, .eq undef, .eq undef, .eq undef, .eq undef, .eq undef, .eq undef, .eq undef, .eq undef, .eq undef, .eq undef, .eq (.bool false)] [29, 30, 31, 32, 33, 34, 35, 36, 37, 38, 39, 40, 41, 42, 43, 44, 45, 46, 47, 48, 49] rfl rfl rfl rfl ⟨?_, ?_, ?_, ?_, ?_, ?_, ?_, ?_, ?_, ?_, ?_, ?_, ?_, ?_, ?_, ?_, ?_, ?_, ?_, ?_, ?_, trivial⟩ ?_
          · exact fun A w1 hA hL hS he => goOn_plain rfl (stepG_mv rfl rfl (hA 8 rfl))
          · intro A w1 hA hL hS he
            have h29 : A.eval (.tmp 29) = _ := he.1 rfl
            refine goOn_plain rfl (stepG_pure rfl rfl ?_)
            generalize A.eval = ev at *
            go_simp
          · intro A w1 hA hL hS he
            have h30 : A.eval (.tmp 30) = _ := he.1 rfl
            have hc0 : A.eval (.const (.int .i64 0)) = .int .i64 0 := rfl
            refine goOn_plain rfl (stepG_pure rfl rfl ?_)
            generalize A.eval = ev at *
            go_simp
          · exact fun A w1 hA hL hS he => goOn_plain rfl (stepG_mv rfl rfl (he.1 rfl))
          · exact fun A w1 hA hL hS he => goOn_yes rfl rfl (he.1 rfl) (stepG_mv rfl rfl (hA 9 rfl))
          · intro A w1 hA hL hS he
            have h32 : A.eval (.tmp 32) = _ := he.2.1 rfl
            have h33 : A.eval (.tmp 33) = _ := he.1 rfl
            refine goOn_yes rfl rfl h32 ?_
            refine stepG_pure rfl rfl ?_
            generalize A.eval = ev at *
            go_simp
          · intro A w1 hA hL hS he
            have h32 : A.eval (.tmp 32) = _ := he.2.1 rfl
            have h34 : A.eval (.tmp 34) = _ := he.1 rfl
            have hc0 : A.eval (.const (.int .i64 0)) = .int .i64 0 := rfl
            refine goOn_yes rfl rfl h32 ?_
            refine stepG_pure rfl rfl ?_
            generalize A.eval = ev at *
            go_simp
          · exact fun A w1 hA hL hS he => goOn_plain rfl (stepG_pk rfl (he.1 rfl) rfl (he.2.1 rfl))
          · exact fun A w1 hA hL hS he => goOn_plain rfl (stepG_mv rfl rfl (he.1 rfl))
          · exact fun A w1 hA hL hS he => goOn_no (x := false) rfl rfl (he.1 rfl) rfl rfl
          · exact fun A w1 hA hL hS he => goOn_no (x := false) rfl rfl (he.1 rfl) rfl rfl
          · exact fun A w1 hA hL hS he => goOn_no (x := false) rfl rfl (he.2.2.1 rfl) rfl rfl
          · exact fun A w1 hA hL hS he => goOn_no (x := false) rfl rfl (he.1 rfl) rfl rfl
          · exact fun A w1 hA hL hS he => goOn_no (x := false) rfl rfl (he.1 rfl) rfl rfl
          · exact fun A w1 hA hL hS he => goOn_no (x := false) rfl rfl (he.2.2.2.1 rfl) rfl rfl
          · exact fun A w1 hA hL hS he => goOn_no (x := false) rfl rfl (he.1 rfl) rfl rfl
          · exact fun A w1 hA hL hS he => goOn_no (x := false) rfl rfl (he.1 rfl) rfl rfl
          · exact fun A w1 hA hL hS he => goOn_no (x := false) rfl rfl (he.2.2.2.1 rfl) rfl rfl
          · exact fun A w1 hA hL hS he => goOn_no (x := false) rfl rfl (he.2.2.1 rfl) rfl rfl
          · exact fun A w1 hA hL hS he => goOn_no (x := false) rfl rfl (he.2.2.1 rfl) rfl rfl
          · exact fun A w1 hA hL hS he => goOn_plain rfl (stepG_pk rfl (he.1 rfl) rfl rfl)
          intro w4 hL
          simp only [TailL, FactL.eq, FactL.poly, FactL.ret, FactL.of, List.length_cons, List.length_nil, List.drop_succ_cons, List.drop_zero]
          go_frame
          go_wp2
          go_roundw
          case rel => exact ⟨k + 1, by omega, by go_num, hbr.trans (hL.below.mono hbr.size)⟩
          case measure => simp [intOf]; omega
        · have e2' : 0 < q.length := List.length_pos_iff.2 hqn
          have e2 : 0 < (q.length : Int) := by omega
          have hd := hx.out hpn hqn k
          have d1 := P1.deg k
          have d2 := P2.deg k
          simp only at d1 d2
          have hwr : IntKind.i64.wrap (degP p k + degP q k) = degP p k + degP q k := wrap_id (by omega)
          have c1 := fun W (hb : Below w3.heap.size w3 W) => degK (v := .slice ap p.length cp) P1 hk4 (hp.on hb)
          have c2 := fun W (hb : Below w3.heap.size w3 W) => degK (v := .slice aq q.length cq) P2 hk4 (hq.on hb)
          have c3 := fun W (hb : Below w3.heap.size w3 W) => degK (v := .slice am (mulP p q).length cm) P12 hk4 (hm.on hb)
          generalize degP (mulP p q) k = d3 at *
          generalize degP p k = d4 at *
          generalize degP q k = d5 at *
          subst hd
          replace c1 := Lib.hid c1
          replace c2 := Lib.hid c2
          replace c3 := Lib.hid c3
          go_upto_region 7 with (fail)
          refine wp_region_S trivial (none) (0) (Okr.none) [.eq (.slice ap p.length cp), .eq (.int .i64 p.length), .eq (.bool true), .eq (.bool true), .eq (.slice aq q.length cq), .eq (.int .i64 q.length), .eq (.bool true), .eq (.bool true), .eq (.bool true), .eq (.slice am (mulP p q).length cm), .eq (.int .i64 k), .ret (.int .i64 (d4 + d5)), .eq (.slice ap p.length cp), .eq (.int .i64 k), .ret (.int .i64 d4), .eq (.slice aq q.length cq), .eq (.int .i64 k), .ret (.int .i64 d5), .eq (.int .i64 (d4 + d5)), .eq (.bool false), .eq (.bool false)] [29, 30, 31, 32, 33, 34, 35, 36, 37, 38, 39, 40, 41, 42, 43, 44, 45, 46, 47, 48, 49] rfl rfl rfl rfl ⟨?_, ?_, ?_, ?_, ?_, ?_, ?_, ?_, ?_, ?_, ?_, ?_, ?_, ?_, ?_, ?_, ?_, ?_, ?_, ?_, ?_, trivial⟩ ?_
          · exact fun A w1 hA hL hS he => goOn_plain rfl (stepG_mv rfl rfl (hA 8 rfl))
          · intro A w1 hA hL hS he
            have h29 : A.eval (.tmp 29) = _ := he.1 rfl
            refine goOn_plain rfl (stepG_pure rfl rfl ?_)
            generalize A.eval = ev at *
            go_simp
          · intro A w1 hA hL hS he
            have h30 : A.eval (.tmp 30) = _ := he.1 rfl
            have hc0 : A.eval (.const (.int .i64 0)) = .int .i64 0 := rfl
            refine goOn_plain rfl (stepG_pure rfl rfl ?_)
            generalize A.eval = ev at *
            go_simp
          · exact fun A w1 hA hL hS he => goOn_plain rfl (stepG_mv rfl rfl (he.1 rfl))
          · exact fun A w1 hA hL hS he => goOn_yes rfl rfl (he.1 rfl) (stepG_mv rfl rfl (hA 9 rfl))
          · intro A w1 hA hL hS he
            have h32 : A.eval (.tmp 32) = _ := he.2.1 rfl
            have h33 : A.eval (.tmp 33) = _ := he.1 rfl
            refine goOn_yes rfl rfl h32 ?_
            refine stepG_pure rfl rfl ?_
            generalize A.eval = ev at *
            go_simp
          · intro A w1 hA hL hS he
            have h32 : A.eval (.tmp 32) = _ := he.2.1 rfl
            have h34 : A.eval (.tmp 34) = _ := he.1 rfl
            have hc0 : A.eval (.const (.int .i64 0)) = .int .i64 0 := rfl
            refine goOn_yes rfl rfl h32 ?_
            refine stepG_pure rfl rfl ?_
            generalize A.eval = ev at *
            go_simp
          · exact fun A w1 hA hL hS he => goOn_plain rfl (stepG_pk rfl (he.1 rfl) rfl (he.2.1 rfl))
          · exact fun A w1 hA hL hS he => goOn_plain rfl (stepG_mv rfl rfl (he.1 rfl))
          · exact fun A w1 hA hL hS he => goOn_yes rfl rfl (he.1 rfl) (stepG_mv rfl rfl (hA 11 rfl))
          · exact fun A w1 hA hL hS he => goOn_yes rfl rfl (he.1 rfl) (stepG_mv rfl rfl (hA 12 rfl))
          · intro A w1 hA hL hS he
            have hb := hS rfl
            have hbw : Below w3.heap.size w3 w1 := hbr.trans (hb.mono hbr.size)
            have h37 : A.eval (.tmp 37) = _ := he.2.2.1 rfl
            have h38 : A.eval (.tmp 38) = _ := he.1 rfl
            have h39 : A.eval (.tmp 39) = _ := he.2.1 rfl
            have hf0 : A.eval (.func 24) = .func (.func 24) #[] #[] := rfl
            refine goOn_yes rfl rfl h37 ?_
            refine stepG_call (f := 24) (args := #[.slice am (mulP p q).length cm, .int .i64 k]) rfl rfl ?_ ?_
            · generalize A.eval = ev at *
              go_simp
            · refine (c3.out _ hbw).mono ?_
              rintro e w' ⟨rfl, hb'⟩
              exact ⟨_, rfl, hb', rfl⟩
          · exact fun A w1 hA hL hS he => goOn_yes rfl rfl (he.1 rfl) (stepG_mv rfl rfl (hA 8 rfl))
          · exact fun A w1 hA hL hS he => goOn_yes rfl rfl (he.1 rfl) (stepG_mv rfl rfl (hA 12 rfl))
          · intro A w1 hA hL hS he
            have hb := hS rfl
            have hbw : Below w3.heap.size w3 w1 := hbr.trans (hb.mono hbr.size)
            have h37 : A.eval (.tmp 37) = _ := he.2.2.2.1 rfl
            have h41 : A.eval (.tmp 41) = _ := he.1 rfl
            have h42 : A.eval (.tmp 42) = _ := he.2.1 rfl
            have hf0 : A.eval (.func 24) = .func (.func 24) #[] #[] := rfl
            refine goOn_yes rfl rfl h37 ?_
            refine stepG_call (f := 24) (args := #[.slice ap p.length cp, .int .i64 k]) rfl rfl ?_ ?_
            · generalize A.eval = ev at *
              go_simp
            · refine (c1.out _ hbw).mono ?_
              rintro e w' ⟨rfl, hb'⟩
              exact ⟨_, rfl, hb', rfl⟩
          · exact fun A w1 hA hL hS he => goOn_yes rfl rfl (he.1 rfl) (stepG_mv rfl rfl (hA 9 rfl))
          · exact fun A w1 hA hL hS he => goOn_yes rfl rfl (he.1 rfl) (stepG_mv rfl rfl (hA 12 rfl))
          · intro A w1 hA hL hS he
            have hb := hS rfl
            have hbw : Below w3.heap.size w3 w1 := hbr.trans (hb.mono hbr.size)
            have h37 : A.eval (.tmp 37) = _ := he.2.2.2.1 rfl
            have h44 : A.eval (.tmp 44) = _ := he.1 rfl
            have h45 : A.eval (.tmp 45) = _ := he.2.1 rfl
            have hf0 : A.eval (.func 24) = .func (.func 24) #[] #[] := rfl
            refine goOn_yes rfl rfl h37 ?_
            refine stepG_call (f := 24) (args := #[.slice aq q.length cq, .int .i64 k]) rfl rfl ?_ ?_
            · generalize A.eval = ev at *
              go_simp
            · refine (c2.out _ hbw).mono ?_
              rintro e w' ⟨rfl, hb'⟩
              exact ⟨_, rfl, hb', rfl⟩
          · intro A w1 hA hL hS he
            have h37 : A.eval (.tmp 37) = _ := he.2.2.1 rfl
            have h43 : A.eval (.tmp 43) = _ := he.1 rfl
            have h46 : A.eval (.tmp 46) = _ := he.2.1 rfl
            refine goOn_yes rfl rfl h37 ?_
            refine stepG_pure rfl rfl ?_
            generalize A.eval = ev at *
            go_simp
          · intro A w1 hA hL hS he
            have h37 : A.eval (.tmp 37) = _ := he.2.2.1 rfl
            have h40 : A.eval (.tmp 40) = _ := he.1 rfl
            have h47 : A.eval (.tmp 47) = _ := he.2.1 rfl
            refine goOn_yes rfl rfl h37 ?_
            refine stepG_pure rfl rfl ?_
            generalize A.eval = ev at *
            go_simp
          · exact fun A w1 hA hL hS he => goOn_plain rfl (stepG_pk rfl (he.1 rfl) rfl (he.2.1 rfl))
          intro w4 hL
          simp only [TailL, FactL.eq, FactL.poly, FactL.ret, FactL.of, List.length_cons, List.length_nil, List.drop_succ_cons, List.drop_zero]
          go_frame
          go_wp2
          go_roundw
          case rel => exact ⟨k + 1, by omega, by go_num, hbr.trans (hL.below.mono hbr.size)⟩
          case measure => simp [intOf]; omega
    · obtain rfl : k = 4 := by omega
      replace hp := hp.on hbr
      replace hq := hq.on hbr
      replace hr := hr.on hbr
      replace hm := hm.on hbr
      replace hb0 := hb0.trans (hbr.mono hb0.size)
      clear hx
      have A12 := P1.add P2 (by decide +kernel)
      have A21 := P2.add P1 (by decide +kernel)
      have A23 := P2.add P3 (by decide +kernel)
      have A12_3 := A12.add P3 (by decide +kernel)
      have A1_23 := P1.add A23 (by decide +kernel)
      have M12_3 := P12.mul P3 (by decide +kernel)
      have M1_23 := P1.mul P23 (by decide +kernel)
      have M1A := P1.mul A23 (by decide +kernel)
      have P13 := P1.mul P3 (by decide +kernel)
      have AM := P12.add P13 (by decide +kernel)
      have hone : Pk ⟨1, 1, 0, 1⟩ (constP 1) := ⟨Vld.const 1, smB_bd (by decide +kernel), by decide +kernel⟩
      have M1 := P1.mul hone (by decide +kernel)
      go_upto_region 9 with (fail)
      refine wp_region_S trivial (none) (0) (Okr.none) [.eq (.slice ap p.length cp), .eq (.slice aq q.length cq), .poly (by decide) (by decide) ((addP p q)), .eq (.slice aq q.length cq), .eq (.slice ap p.length cp), .poly (by decide) (by decide) ((addP q p)), .ret (.bool true), .eq (.bool true), .eq (.slice ap p.length cp), .eq (.slice aq q.length cq), .poly (by decide) (by decide) ((addP p q)), .eq (vr), .poly (by decide) (by decide) ((addP (addP p q) r)), .eq (.slice ap p.length cp), .eq (.slice aq q.length cq), .eq (vr), .poly (by decide) (by decide) ((addP q r)), .poly (by decide) (by decide) ((addP p (addP q r))), .ret (.bool true), .eq (.bool true), .eq (.bool true), .eq (.slice ap p.length cp), .eq (.slice ap p.length cp), .poly (by decide) (by decide) ((subP p p)), .eq (.int .i64 0), .eq (.bool true), .eq (.bool true)] [50, 51, 52, 53, 54, 55, 56, 57, 58, 59, 60, 61, 62, 63, 64, 65, 66, 67, 68, 69, 70, 71, 72, 73, 74, 75, 76] rfl rfl rfl rfl ⟨?_, ?_, ?_, ?_, ?_, ?_, ?_, ?_, ?_, ?_, ?_, ?_, ?_, ?_, ?_, ?_, ?_, ?_, ?_, ?_, ?_, ?_, ?_, ?_, ?_, ?_, ?_, trivial⟩ ?_
      · exact fun A w1 hA hL hS he => goOn_plain rfl (stepG_mv rfl rfl (hA 8 rfl))
      · exact fun A w1 hA hL hS he => goOn_plain rfl (stepG_mv rfl rfl (hA 9 rfl))
      · intro A w1 hA hL hS he
        have hb := hS rfl
        have h50 : A.eval (.tmp 50) = _ := he.1 rfl
        have h51 : A.eval (.tmp 51) = _ := he.2.1 rfl
        have hf0 : A.eval (.func 25) = .func (.func 25) #[] #[] := rfl
        refine goOn_plain rfl ?_
        refine stepG_call (f := 25) (args := #[.slice ap p.length cp, .slice aq q.length cq]) rfl rfl ?_ ?_
        · generalize A.eval = ev at *
          go_simp
        · refine (addK P1 P2 (hp.on hb) (hq.on hb)).mono ?_
          rintro e w' ⟨v, rfl, hi, hb'⟩
          exact ⟨_, rfl, hb', hi⟩
      · exact fun A w1 hA hL hS he => goOn_plain rfl (stepG_mv rfl rfl (hA 9 rfl))
      · exact fun A w1 hA hL hS he => goOn_plain rfl (stepG_mv rfl rfl (hA 8 rfl))
      · intro A w1 hA hL hS he
        have hb := hS rfl
        have h53 : A.eval (.tmp 53) = _ := he.1 rfl
        have h54 : A.eval (.tmp 54) = _ := he.2.1 rfl
        have hf0 : A.eval (.func 25) = .func (.func 25) #[] #[] := rfl
        refine goOn_plain rfl ?_
        refine stepG_call (f := 25) (args := #[.slice aq q.length cq, .slice ap p.length cp]) rfl rfl ?_ ?_
        · generalize A.eval = ev at *
          go_simp
        · refine (addK P2 P1 (hq.on hb) (hp.on hb)).mono ?_
          rintro e w' ⟨v, rfl, hi, hb'⟩
          exact ⟨_, rfl, hb', hi⟩
      · intro A w1 hA hL hS he
        have hb := hS rfl
        have f52 : ((.poly (by decide) (by decide) ((addP p q)) : FactL (Lr (none) (0)))).p (A.eval (.tmp 52)) w1 := he.1 rfl
        obtain ⟨v52, h52⟩ : ∃ v, A.eval (.tmp 52) = v := ⟨_, rfl⟩
        rw [h52] at f52
        have f55 : ((.poly (by decide) (by decide) ((addP q p)) : FactL (Lr (none) (0)))).p (A.eval (.tmp 55)) w1 := he.2.1 rfl
        obtain ⟨v55, h55⟩ : ∃ v, A.eval (.tmp 55) = v := ⟨_, rfl⟩
        rw [h55] at f55
        have hf0 : A.eval (.func 17) = .func (.func 17) #[] #[] := rfl
        refine goOn_plain rfl ?_
        refine stepG_call (f := 17) (args := #[v52, v55]) rfl rfl ?_ ?_
        · generalize A.eval = ev at *
          go_simp
        · refine (sameK A12 A21 (addP_comm p q) f52 f55).mono ?_
          rintro e w' ⟨rfl, hb'⟩
          exact ⟨_, rfl, hb', rfl⟩
      · exact fun A w1 hA hL hS he => goOn_plain rfl (stepG_mv rfl rfl (he.1 rfl))
      · exact fun A w1 hA hL hS he => goOn_yes rfl rfl (he.1 rfl) (stepG_mv rfl rfl (hA 8 rfl))
      · exact fun A w1 hA hL hS he => goOn_yes rfl rfl (he.1 rfl) (stepG_mv rfl rfl (hA 9 rfl))
      · intro A w1 hA hL hS he
        have hb := hS rfl
        have h57 : A.eval (.tmp 57) = _ := he.2.2.1 rfl
        have h58 : A.eval (.tmp 58) = _ := he.1 rfl
        have h59 : A.eval (.tmp 59) = _ := he.2.1 rfl
        have hf0 : A.eval (.func 25) = .func (.func 25) #[] #[] := rfl
        refine goOn_yes rfl rfl h57 ?_
        refine stepG_call (f := 25) (args := #[.slice ap p.length cp, .slice aq q.length cq]) rfl rfl ?_ ?_
        · generalize A.eval = ev at *
          go_simp
        · refine (addK P1 P2 (hp.on hb) (hq.on hb)).mono ?_
          rintro e w' ⟨v, rfl, hi, hb'⟩
          exact ⟨_, rfl, hb', hi⟩
      · exact fun A w1 hA hL hS he => goOn_yes rfl rfl (he.1 rfl) (stepG_mv rfl rfl (hA 10 rfl))
      · intro A w1 hA hL hS he
        have hb := hS rfl
        have h57 : A.eval (.tmp 57) = _ := he.2.2.2.1 rfl
        have f60 : ((.poly (by decide) (by decide) ((addP p q)) : FactL (Lr (none) (0)))).p (A.eval (.tmp 60)) w1 := he.1 rfl
        obtain ⟨v60, h60⟩ : ∃ v, A.eval (.tmp 60) = v := ⟨_, rfl⟩
        rw [h60] at f60
        have h61 : A.eval (.tmp 61) = _ := he.2.1 rfl
        have hf0 : A.eval (.func 25) = .func (.func 25) #[] #[] := rfl
        refine goOn_yes rfl rfl h57 ?_
        refine stepG_call (f := 25) (args := #[v60, vr]) rfl rfl ?_ ?_
        · generalize A.eval = ev at *
          go_simp
        · refine (addK A12 P3 f60 (hr.on hb)).mono ?_
          rintro e w' ⟨v, rfl, hi, hb'⟩
          exact ⟨_, rfl, hb', hi⟩
      · exact fun A w1 hA hL hS he => goOn_yes rfl rfl (he.1 rfl) (stepG_mv rfl rfl (hA 8 rfl))
      · exact fun A w1 hA hL hS he => goOn_yes rfl rfl (he.1 rfl) (stepG_mv rfl rfl (hA 9 rfl))
      · exact fun A w1 hA hL hS he => goOn_yes rfl rfl (he.1 rfl) (stepG_mv rfl rfl (hA 10 rfl))
      · intro A w1 hA hL hS he
        have hb := hS rfl
        have h57 : A.eval (.tmp 57) = _ := he.2.2.2.1 rfl
        have h64 : A.eval (.tmp 64) = _ := he.1 rfl
        have h65 : A.eval (.tmp 65) = _ := he.2.1 rfl
        have hf0 : A.eval (.func 25) = .func (.func 25) #[] #[] := rfl
        refine goOn_yes rfl rfl h57 ?_
        refine stepG_call (f := 25) (args := #[.slice aq q.length cq, vr]) rfl rfl ?_ ?_
        · generalize A.eval = ev at *
          go_simp
        · refine (addK P2 P3 (hq.on hb) (hr.on hb)).mono ?_
          rintro e w' ⟨v, rfl, hi, hb'⟩
          exact ⟨_, rfl, hb', hi⟩
      · intro A w1 hA hL hS he
        have hb := hS rfl
        have h57 : A.eval (.tmp 57) = _ := he.2.2.2.1 rfl
        have h63 : A.eval (.tmp 63) = _ := he.1 rfl
        have f66 : ((.poly (by decide) (by decide) ((addP q r)) : FactL (Lr (none) (0)))).p (A.eval (.tmp 66)) w1 := he.2.1 rfl
        obtain ⟨v66, h66⟩ : ∃ v, A.eval (.tmp 66) = v := ⟨_, rfl⟩
        rw [h66] at f66
        have hf0 : A.eval (.func 25) = .func (.func 25) #[] #[] := rfl
        refine goOn_yes rfl rfl h57 ?_
        refine stepG_call (f := 25) (args := #[.slice ap p.length cp, v66]) rfl rfl ?_ ?_
        · generalize A.eval = ev at *
          go_simp
        · refine (addK P1 A23 (hp.on hb) f66).mono ?_
          rintro e w' ⟨v, rfl, hi, hb'⟩
          exact ⟨_, rfl, hb', hi⟩
      · intro A w1 hA hL hS he
        have hb := hS rfl
        have h57 : A.eval (.tmp 57) = _ := he.2.2.2.1 rfl
        have f62 : ((.poly (by decide) (by decide) ((addP (addP p q) r)) : FactL (Lr (none) (0)))).p (A.eval (.tmp 62)) w1 := he.1 rfl
        obtain ⟨v62, h62⟩ : ∃ v, A.eval (.tmp 62) = v := ⟨_, rfl⟩
        rw [h62] at f62
        have f67 : ((.poly (by decide) (by decide) ((addP p (addP q r))) : FactL (Lr (none) (0)))).p (A.eval (.tmp 67)) w1 := he.2.1 rfl
        obtain ⟨v67, h67⟩ : ∃ v, A.eval (.tmp 67) = v := ⟨_, rfl⟩
        rw [h67] at f67
        have hf0 : A.eval (.func 17) = .func (.func 17) #[] #[] := rfl
        refine goOn_yes rfl rfl h57 ?_
        refine stepG_call (f := 17) (args := #[v62, v67]) rfl rfl ?_ ?_
        · generalize A.eval = ev at *
          go_simp
        · refine (sameK A12_3 A1_23 (addP_assoc P1.v P2.v P3.v) f62 f67).mono ?_
          rintro e w' ⟨rfl, hb'⟩
          exact ⟨_, rfl, hb', rfl⟩
      · exact fun A w1 hA hL hS he => goOn_plain rfl (stepG_pk rfl (he.1 rfl) rfl (he.2.1 rfl))
      · exact fun A w1 hA hL hS he => goOn_plain rfl (stepG_mv rfl rfl (he.1 rfl))
      · exact fun A w1 hA hL hS he => goOn_yes rfl rfl (he.1 rfl) (stepG_mv rfl rfl (hA 8 rfl))
      · exact fun A w1 hA hL hS he => goOn_yes rfl rfl (he.1 rfl) (stepG_mv rfl rfl (hA 8 rfl))
      · intro A w1 hA hL hS he
        have hb := hS rfl
        have h70 : A.eval (.tmp 70) = _ := he.2.2.1 rfl
        have h71 : A.eval (.tmp 71) = _ := he.1 rfl
        have h72 : A.eval (.tmp 72) = _ := he.2.1 rfl
        have hf0 : A.eval (.func 26) = .func (.func 26) #[] #[] := rfl
        refine goOn_yes rfl rfl h70 ?_
        refine stepG_call (f := 26) (args := #[.slice ap p.length cp, .slice ap p.length cp]) rfl rfl ?_ ?_
        · generalize A.eval = ev at *
          go_simp
        · refine (subK P1 P1 (hp.on hb) (hp.on hb)).mono ?_
          rintro e w' ⟨v, rfl, hi, hb'⟩
          exact ⟨_, rfl, hb', hi⟩
      · intro A w1 hA hL hS he
        have h70 : A.eval (.tmp 70) = _ := he.2.1 rfl
        have f73 : ((.poly (by decide) (by decide) ((subP p p)) : FactL (Lr (none) (0)))).p (A.eval (.tmp 73)) w1 := he.1 rfl
        obtain ⟨v73, h73⟩ : ∃ v, A.eval (.tmp 73) = v := ⟨_, rfl⟩
        rw [h73] at f73
        refine goOn_yes rfl rfl h70 ?_
        rw [subP_self P1.v] at f73
        obtain ⟨a9, c9, rfl, -⟩ := f73.shape
        refine stepG_pure rfl rfl ?_
        generalize A.eval = ev at *
        go_simp
      · intro A w1 hA hL hS he
        have h70 : A.eval (.tmp 70) = _ := he.2.1 rfl
        have h74 : A.eval (.tmp 74) = _ := he.1 rfl
        have hc0 : A.eval (.const (.int .i64 0)) = .int .i64 0 := rfl
        refine goOn_yes rfl rfl h70 ?_
        refine stepG_pure rfl rfl ?_
        generalize A.eval = ev at *
        go_simp
      · exact fun A w1 hA hL hS he => goOn_plain rfl (stepG_pk rfl (he.1 rfl) rfl (he.2.1 rfl))
      intro w4 hL
      simp only [TailL, FactL.eq, FactL.poly, FactL.ret, FactL.of, List.length_cons, List.length_nil, List.drop_succ_cons, List.drop_zero]
      rintro _ - _ - _ - _ - _ - _ - _ -
      go_frame
      have hb := hL.below
      replace hp := hp.on hb
      replace hq := hq.on hb
      replace hr := hr.on hb
      replace hm := hm.on hb
      replace hb0 := hb0.trans (hb.mono hb0.size)
      clear hL hb A12 A21 A12_3 A1_23
      go_upto_region 10 with (fail)
      refine wp_region_S trivial (none) (0) (Okr.none) [.eq (.slice am (mulP p q).length cm), .eq (vr), .poly (by decide) (by decide) ((mulP (mulP p q) r)), .eq (.slice ap p.length cp), .eq (.slice aq q.length cq), .eq (vr), .poly (by decide) (by decide) ((mulP q r)), .poly (by decide) (by decide) ((mulP p (mulP q r))), .ret (.bool true), .eq (.bool true), .eq (.slice ap p.length cp), .eq (.slice aq q.length cq), .eq (vr), .poly (by decide) (by decide) ((addP q r)), .poly (by decide) (by decide) ((mulP p (addP q r))), .eq (.slice am (mulP p q).length cm), .eq (.slice ap p.length cp), .eq (vr), .poly (by decide) (by decide) ((mulP p r)), .poly (by decide) (by decide) ((addP (mulP p q) (mulP p r))), .ret (.bool true), .eq (.bool true), .eq (.bool true), .eq (.slice ap p.length cp), .rat (by decide) (((1 : Int) : Rat)), .poly (by decide) (by decide) ((constP 1)), .poly (by decide) (by decide) ((mulP p (constP 1))), .eq (.slice ap p.length cp), .ret (.bool true), .eq (.bool true)] [77, 78, 79, 80, 81, 82, 83, 84, 85, 86, 87, 88, 89, 90, 91, 92, 93, 94, 95, 96, 97, 98, 99, 100, 101, 102, 103, 104, 105, 106] rfl rfl rfl rfl ⟨?_, ?_, ?_, ?_, ?_, ?_, ?_, ?_, ?_, ?_, ?_, ?_, ?_, ?_, ?_, ?_, ?_, ?_, ?_, ?_, ?_, ?_, ?_, ?_, ?_, ?_, ?_, ?_, ?_, ?_, trivial⟩ ?_
      · exact fun A w1 hA hL hS he => goOn_plain rfl (stepG_mv rfl rfl (hA 11 rfl))
      · exact fun A w1 hA hL hS he => goOn_plain rfl (stepG_mv rfl rfl (hA 10 rfl))
      · intro A w1 hA hL hS he
        have hb := hS rfl
        have h77 : A.eval (.tmp 77) = _ := he.1 rfl
        have h78 : A.eval (.tmp 78) = _ := he.2.1 rfl
        have hf0 : A.eval (.func 23) = .func (.func 23) #[] #[] := rfl
        refine goOn_plain rfl ?_
        refine stepG_call (f := 23) (args := #[.slice am (mulP p q).length cm, vr]) rfl rfl ?_ ?_
        · generalize A.eval = ev at *
          go_simp
        · refine (mulK P12 P3 M12_3.k (hm.on hb) (hr.on hb)).mono ?_
          rintro e w' ⟨v, rfl, hi, hb'⟩
          exact ⟨_, rfl, hb', hi⟩
      · exact fun A w1 hA hL hS he => goOn_plain rfl (stepG_mv rfl rfl (hA 8 rfl))
      · exact fun A w1 hA hL hS he => goOn_plain rfl (stepG_mv rfl rfl (hA 9 rfl))
      · exact fun A w1 hA hL hS he => goOn_plain rfl (stepG_mv rfl rfl (hA 10 rfl))
      · intro A w1 hA hL hS he
        have hb := hS rfl
        have h81 : A.eval (.tmp 81) = _ := he.1 rfl
        have h82 : A.eval (.tmp 82) = _ := he.2.1 rfl
        have hf0 : A.eval (.func 23) = .func (.func 23) #[] #[] := rfl
        refine goOn_plain rfl ?_
        refine stepG_call (f := 23) (args := #[.slice aq q.length cq, vr]) rfl rfl ?_ ?_
        · generalize A.eval = ev at *
          go_simp
        · refine (mulK P2 P3 P23.k (hq.on hb) (hr.on hb)).mono ?_
          rintro e w' ⟨v, rfl, hi, hb'⟩
          exact ⟨_, rfl, hb', hi⟩
      · intro A w1 hA hL hS he
        have hb := hS rfl
        have h80 : A.eval (.tmp 80) = _ := he.1 rfl
        have f83 : ((.poly (by decide) (by decide) ((mulP q r)) : FactL (Lr (none) (0)))).p (A.eval (.tmp 83)) w1 := he.2.1 rfl
        obtain ⟨v83, h83⟩ : ∃ v, A.eval (.tmp 83) = v := ⟨_, rfl⟩
        rw [h83] at f83
        have hf0 : A.eval (.func 23) = .func (.func 23) #[] #[] := rfl
        refine goOn_plain rfl ?_
        refine stepG_call (f := 23) (args := #[.slice ap p.length cp, v83]) rfl rfl ?_ ?_
        · generalize A.eval = ev at *
          go_simp
        · refine (mulK P1 P23 M1_23.k (hp.on hb) f83).mono ?_
          rintro e w' ⟨v, rfl, hi, hb'⟩
          exact ⟨_, rfl, hb', hi⟩
      · intro A w1 hA hL hS he
        have hb := hS rfl
        have f79 : ((.poly (by decide) (by decide) ((mulP (mulP p q) r)) : FactL (Lr (none) (0)))).p (A.eval (.tmp 79)) w1 := he.1 rfl
        obtain ⟨v79, h79⟩ : ∃ v, A.eval (.tmp 79) = v := ⟨_, rfl⟩
        rw [h79] at f79
        have f84 : ((.poly (by decide) (by decide) ((mulP p (mulP q r))) : FactL (Lr (none) (0)))).p (A.eval (.tmp 84)) w1 := he.2.1 rfl
        obtain ⟨v84, h84⟩ : ∃ v, A.eval (.tmp 84) = v := ⟨_, rfl⟩
        rw [h84] at f84
        have hf0 : A.eval (.func 17) = .func (.func 17) #[] #[] := rfl
        refine goOn_plain rfl ?_
        refine stepG_call (f := 17) (args := #[v79, v84]) rfl rfl ?_ ?_
        · generalize A.eval = ev at *
          go_simp
        · refine (sameK M12_3 M1_23 (mulP_assoc P1.v P2.v P3.v) f79 f84).mono ?_
          rintro e w' ⟨rfl, hb'⟩
          exact ⟨_, rfl, hb', rfl⟩
      · exact fun A w1 hA hL hS he => goOn_plain rfl (stepG_mv rfl rfl (he.1 rfl))
      · exact fun A w1 hA hL hS he => goOn_yes rfl rfl (he.1 rfl) (stepG_mv rfl rfl (hA 8 rfl))
      · exact fun A w1 hA hL hS he => goOn_yes rfl rfl (he.1 rfl) (stepG_mv rfl rfl (hA 9 rfl))
      · exact fun A w1 hA hL hS he => goOn_yes rfl rfl (he.1 rfl) (stepG_mv rfl rfl (hA 10 rfl))
      · intro A w1 hA hL hS he
        have hb := hS rfl
        have h86 : A.eval (.tmp 86) = _ := he.2.2.1 rfl
        have h88 : A.eval (.tmp 88) = _ := he.1 rfl
        have h89 : A.eval (.tmp 89) = _ := he.2.1 rfl
        have hf0 : A.eval (.func 25) = .func (.func 25) #[] #[] := rfl
        refine goOn_yes rfl rfl h86 ?_
        refine stepG_call (f := 25) (args := #[.slice aq q.length cq, vr]) rfl rfl ?_ ?_
        · generalize A.eval = ev at *
          go_simp
        · refine (addK P2 P3 (hq.on hb) (hr.on hb)).mono ?_
          rintro e w' ⟨v, rfl, hi, hb'⟩
          exact ⟨_, rfl, hb', hi⟩
      · intro A w1 hA hL hS he
        have hb := hS rfl
        have h86 : A.eval (.tmp 86) = _ := he.2.2.2.1 rfl
        have h87 : A.eval (.tmp 87) = _ := he.1 rfl
        have f90 : ((.poly (by decide) (by decide) ((addP q r)) : FactL (Lr (none) (0)))).p (A.eval (.tmp 90)) w1 := he.2.1 rfl
        obtain ⟨v90, h90⟩ : ∃ v, A.eval (.tmp 90) = v := ⟨_, rfl⟩
        rw [h90] at f90
        have hf0 : A.eval (.func 23) = .func (.func 23) #[] #[] := rfl
        refine goOn_yes rfl rfl h86 ?_
        refine stepG_call (f := 23) (args := #[.slice ap p.length cp, v90]) rfl rfl ?_ ?_
        · generalize A.eval = ev at *
          go_simp
        · refine (mulK P1 A23 M1A.k (hp.on hb) f90).mono ?_
          rintro e w' ⟨v, rfl, hi, hb'⟩
          exact ⟨_, rfl, hb', hi⟩
      · exact fun A w1 hA hL hS he => goOn_yes rfl rfl (he.1 rfl) (stepG_mv rfl rfl (hA 11 rfl))
      · exact fun A w1 hA hL hS he => goOn_yes rfl rfl (he.1 rfl) (stepG_mv rfl rfl (hA 8 rfl))
      · exact fun A w1 hA hL hS he => goOn_yes rfl rfl (he.1 rfl) (stepG_mv rfl rfl (hA 10 rfl))
      · intro A w1 hA hL hS he
        have hb := hS rfl
        have h86 : A.eval (.tmp 86) = _ := he.2.2.2.1 rfl
        have h93 : A.eval (.tmp 93) = _ := he.1 rfl
        have h94 : A.eval (.tmp 94) = _ := he.2.1 rfl
        have hf0 : A.eval (.func 23) = .func (.func 23) #[] #[] := rfl
        refine goOn_yes rfl rfl h86 ?_
        refine stepG_call (f := 23) (args := #[.slice ap p.length cp, vr]) rfl rfl ?_ ?_
        · generalize A.eval = ev at *
          go_simp
        · refine (mulK P1 P3 P13.k (hp.on hb) (hr.on hb)).mono ?_
          rintro e w' ⟨v, rfl, hi, hb'⟩
          exact ⟨_, rfl, hb', hi⟩
      · intro A w1 hA hL hS he
        have hb := hS rfl
        have h86 : A.eval (.tmp 86) = _ := he.2.2.2.1 rfl
        have h92 : A.eval (.tmp 92) = _ := he.1 rfl
        have f95 : ((.poly (by decide) (by decide) ((mulP p r)) : FactL (Lr (none) (0)))).p (A.eval (.tmp 95)) w1 := he.2.1 rfl
        obtain ⟨v95, h95⟩ : ∃ v, A.eval (.tmp 95) = v := ⟨_, rfl⟩
        rw [h95] at f95
        have hf0 : A.eval (.func 25) = .func (.func 25) #[] #[] := rfl
        refine goOn_yes rfl rfl h86 ?_
        refine stepG_call (f := 25) (args := #[.slice am (mulP p q).length cm, v95]) rfl rfl ?_ ?_
        · generalize A.eval = ev at *
          go_simp
        · refine (addK P12 P13 (hm.on hb) f95).mono ?_
          rintro e w' ⟨v, rfl, hi, hb'⟩
          exact ⟨_, rfl, hb', hi⟩
      · intro A w1 hA hL hS he
        have hb := hS rfl
        have h86 : A.eval (.tmp 86) = _ := he.2.2.2.1 rfl
        have f91 : ((.poly (by decide) (by decide) ((mulP p (addP q r))) : FactL (Lr (none) (0)))).p (A.eval (.tmp 91)) w1 := he.1 rfl
        obtain ⟨v91, h91⟩ : ∃ v, A.eval (.tmp 91) = v := ⟨_, rfl⟩
        rw [h91] at f91
        have f96 : ((.poly (by decide) (by decide) ((addP (mulP p q) (mulP p r))) : FactL (Lr (none) (0)))).p (A.eval (.tmp 96)) w1 := he.2.1 rfl
        obtain ⟨v96, h96⟩ : ∃ v, A.eval (.tmp 96) = v := ⟨_, rfl⟩
        rw [h96] at f96
        have hf0 : A.eval (.func 17) = .func (.func 17) #[] #[] := rfl
        refine goOn_yes rfl rfl h86 ?_
        refine stepG_call (f := 17) (args := #[v91, v96]) rfl rfl ?_ ?_
        · generalize A.eval = ev at *
          go_simp
        · refine (sameK M1A AM (mulP_add P1.v P2.v P3.v) f91 f96).mono ?_
          rintro e w' ⟨rfl, hb'⟩
          exact ⟨_, rfl, hb', rfl⟩
      · exact fun A w1 hA hL hS he => goOn_plain rfl (stepG_pk rfl (he.1 rfl) rfl (he.2.1 rfl))
      · exact fun A w1 hA hL hS he => goOn_plain rfl (stepG_mv rfl rfl (he.1 rfl))
      · exact fun A w1 hA hL hS he => goOn_yes rfl rfl (he.1 rfl) (stepG_mv rfl rfl (hA 8 rfl))
      · intro A w1 hA hL hS he
        have hb := hS rfl
        have h99 : A.eval (.tmp 99) = _ := he.1 rfl
        have hf0 : A.eval (.func 13) = .func (.func 13) #[] #[] := rfl
        have hc0 : A.eval (.const (.int .i64 1)) = .int .i64 1 := rfl
        refine goOn_yes rfl rfl h99 ?_
        refine stepG_call (f := 13) (args := #[(.int .i64 1)]) rfl rfl ?_ ?_
        · generalize A.eval = ev at *
          go_simp
        · refine (whole2_any 1 _ (by omega) (by omega)).mono ?_
          rintro e w' ⟨v, rfl, hi, hb'⟩
          exact ⟨_, rfl, hb', hi⟩
      · intro A w1 hA hL hS he
        have hb := hS rfl
        have h99 : A.eval (.tmp 99) = _ := he.2.2.1 rfl
        have f101 : ((.rat (by decide) (((1 : Int) : Rat)) : FactL (Lr (none) (0)))).p (A.eval (.tmp 101)) w1 := he.1 rfl
        obtain ⟨v101, h101⟩ : ∃ v, A.eval (.tmp 101) = v := ⟨_, rfl⟩
        rw [h101] at f101
        have hf0 : A.eval (.func 27) = .func (.func 27) #[] #[] := rfl
        refine goOn_yes rfl rfl h99 ?_
        refine stepG_call (f := 27) (args := #[v101]) rfl rfl ?_ ?_
        · generalize A.eval = ev at *
          go_simp
        · refine (const_any _ _ _ f101).mono ?_
          rintro e w' ⟨v, rfl, hi, hb'⟩
          exact ⟨_, rfl, hb', hi⟩
      · intro A w1 hA hL hS he
        have hb := hS rfl
        have h99 : A.eval (.tmp 99) = _ := he.2.2.2.1 rfl
        have h100 : A.eval (.tmp 100) = _ := he.1 rfl
        have f102 : ((.poly (by decide) (by decide) ((constP 1)) : FactL (Lr (none) (0)))).p (A.eval (.tmp 102)) w1 := he.2.1 rfl
        obtain ⟨v102, h102⟩ : ∃ v, A.eval (.tmp 102) = v := ⟨_, rfl⟩
        rw [h102] at f102
        have hf0 : A.eval (.func 23) = .func (.func 23) #[] #[] := rfl
        refine goOn_yes rfl rfl h99 ?_
        refine stepG_call (f := 23) (args := #[.slice ap p.length cp, v102]) rfl rfl ?_ ?_
        · generalize A.eval = ev at *
          go_simp
        · refine (mulK P1 hone M1.k (hp.on hb) f102).mono ?_
          rintro e w' ⟨v, rfl, hi, hb'⟩
          exact ⟨_, rfl, hb', hi⟩
      · exact fun A w1 hA hL hS he => goOn_yes rfl rfl (he.1 rfl) (stepG_mv rfl rfl (hA 8 rfl))
      · intro A w1 hA hL hS he
        have hb := hS rfl
        have h99 : A.eval (.tmp 99) = _ := he.2.2.2.1 rfl
        have f103 : ((.poly (by decide) (by decide) ((mulP p (constP 1))) : FactL (Lr (none) (0)))).p (A.eval (.tmp 103)) w1 := he.1 rfl
        obtain ⟨v103, h103⟩ : ∃ v, A.eval (.tmp 103) = v := ⟨_, rfl⟩
        rw [h103] at f103
        have h104 : A.eval (.tmp 104) = _ := he.2.1 rfl
        have hf0 : A.eval (.func 17) = .func (.func 17) #[] #[] := rfl
        refine goOn_yes rfl rfl h99 ?_
        refine stepG_call (f := 17) (args := #[v103, .slice ap p.length cp]) rfl rfl ?_ ?_
        · generalize A.eval = ev at *
          go_simp
        · refine (sameK M1 P1 (mulP_one P1.v) f103 (hp.on hb)).mono ?_
          rintro e w' ⟨rfl, hb'⟩
          exact ⟨_, rfl, hb', rfl⟩
      · exact fun A w1 hA hL hS he => goOn_plain rfl (stepG_pk rfl (he.1 rfl) rfl (he.2.1 rfl))
      intro w5 hL
      simp only [TailL, FactL.eq, FactL.poly, FactL.rat, FactL.ret, FactL.of, List.length_cons, List.length_nil, List.drop_succ_cons, List.drop_zero]
      rintro _ - _ - _ - _ - _ - _ - _ - _ - _ - _ -
      go_frame
      have hb := hL.below
      replace hb0 := hb0.trans (hb.mono hb0.size)
      clear hL hb hp hq hr hm P1 P2 P3 P12 P13 P23 A23 M12_3 M1_23 M1A AM hone M1
      have hl : (mulP p q).length = 0 ↔ p.length = 0 ∨ q.length = 0 := by
        rw [List.length_eq_zero_iff, List.length_eq_zero_iff, List.length_eq_zero_iff]; exact hz.out
      clear hz
      generalize (mulP p q).length = n3 at *
      generalize p.length = n1 at *
      generalize q.length = n2 at *
      rcases Nat.eq_zero_or_pos n1 with e1 | e1
      · obtain rfl := e1
        have e3 : n3 = 0 := hl.2 (.inl rfl)
        subst e3
        clear hl
        go_wp2
        go_ret
        exact ⟨rfl, hb0⟩
      · have k1 : ¬ (n1 : Int) = 0 := by omega
        have k1' : ((n1 : Int) == 0) = false := by simp; omega
        rcases Nat.eq_zero_or_pos n2 with e2 | e2
        · obtain rfl := e2
          have e3 : n3 = 0 := hl.2 (.inr rfl)
          subst e3
          clear hl
          go_wp2
          go_ret
          exact ⟨rfl, hb0⟩
        · have k2 : ¬ (n2 : Int) = 0 := by omega
          have k2' : ((n2 : Int) == 0) = false := by simp; omega
          have e3 : n3 ≠ 0 := fun h => by have := hl.1 h; omega
          have k3 : ¬ (n3 : Int) = 0 := by omega
          have k3' : ((n3 : Int) == 0) = false := by simp; omega
          clear hl
          go_wp2
          go_ret
          exact ⟨rfl, hb0⟩
end Go.Proofs.YtplfdeohokkebaaGreat
