/- law07.MpolyCoefficients: the walk. -/
import Derived.Test.YtplfdeohokkebaaGreatBE6
import Derived.Test.YtplfdeohokkebaaGreatBH1
set_option linter.unusedVariables false
set_option linter.unusedSimpArgs false
namespace Go.Proofs.YtplfdeohokkebaaGreat
open Go.RowKit Q Go.WideMaps Go.Maps
set_option maxHeartbeats 16000000 in
set_option maxRecDepth 100000 in
theorem coefficients_any (v1 v2 : Value) (x : Int) (L1 L2 : List Drw) (w : World) (h1 : IsDraw w v1 L1) (h2 : IsDraw w v2 L2) (x0 : 0 ≤ x) (x1 : x < 256) :
    Calls Tryz.prog 6 #[v1, v2, .int .u8 x] w (Ret w (.bool true)) := by
  have P : Pk ⟨1, 45, 2, 5⟩ (madeP L1 5 3) := made_pk (n := 5) (vs := 3) L1 (by decide)
  have Q : Pk ⟨1, 45, 2, 5⟩ (madeP L2 5 3) := made_pk (n := 5) (vs := 3) L2 (by decide)
  have m1 := Lib.hid (fun W (hb : Below w.heap.size w W) => made_any v1 L1 W (h1.on hb))
  have m2 := Lib.hid (fun W (hb : Below w.heap.size w W) => made_any v2 L2 W (h2.on hb))
  generalize madeP L1 5 3 = p at *
  generalize madeP L2 5 3 = q at *
  obtain ⟨a, ha, ha4⟩ := mod4 x0
  have c1 := Lib.hid (fun W => variable_any x a W x0 x1 ha)
  clear h1 h2 ha x0 x1
  go_enter Tryz.func6, Tryz.ntmps6
  go_upto_region 2 with (go_at_call 12; refine (sanity_any _).mono ?_; rintro e w1 ⟨rfl, hb1⟩)
  refine wp_region_S trivial (none) (0) (Okr.none) [.eq (v1), .poly (by decide) (by decide) (p), .eq (v2), .poly (by decide) (by decide) (q), .eq (.int .u8 x), .ret (.int .i64 (a : Int))] [15, 16, 17, 18, 19, 20] rfl rfl rfl rfl ⟨?_, ?_, ?_, ?_, ?_, ?_, trivial⟩ ?_
  · exact fun A w1 hA hL hS he => goOn_plain rfl (stepG_mv rfl rfl (hA 0 rfl))
  · intro A w1 hA hL hS he
    have hb := hS rfl
    have h15 : A.eval (.tmp 15) = _ := he.1 rfl
    have hf0 : A.eval (.func 22) = .func (.func 22) #[] #[] := rfl
    refine goOn_plain rfl ?_
    refine stepG_call (f := 22) (args := #[v1]) rfl rfl ?_ ?_
    · generalize A.eval = ev at *
      go_simp
    · refine (m1.out _ (hb1.trans (hb.mono hb1.size))).mono ?_
      rintro e w' ⟨v, rfl, hi, hb'⟩
      exact ⟨_, rfl, hb', hi⟩
  · exact fun A w1 hA hL hS he => goOn_plain rfl (stepG_mv rfl rfl (hA 1 rfl))
  · intro A w1 hA hL hS he
    have hb := hS rfl
    have h17 : A.eval (.tmp 17) = _ := he.1 rfl
    have hf0 : A.eval (.func 22) = .func (.func 22) #[] #[] := rfl
    refine goOn_plain rfl ?_
    refine stepG_call (f := 22) (args := #[v2]) rfl rfl ?_ ?_
    · generalize A.eval = ev at *
      go_simp
    · refine (m2.out _ (hb1.trans (hb.mono hb1.size))).mono ?_
      rintro e w' ⟨v, rfl, hi, hb'⟩
      exact ⟨_, rfl, hb', hi⟩
  · exact fun A w1 hA hL hS he => goOn_plain rfl (stepG_mv rfl rfl (hA 2 rfl))
  · intro A w1 hA hL hS he
    have hb := hS rfl
    have h19 : A.eval (.tmp 19) = _ := he.1 rfl
    have hf0 : A.eval (.func 32) = .func (.func 32) #[] #[] := rfl
    refine goOn_plain rfl ?_
    refine stepG_call (f := 32) (args := #[.int .u8 x]) rfl rfl ?_ ?_
    · generalize A.eval = ev at *
      go_simp
    · refine (c1.out _).mono ?_
      rintro e w' ⟨rfl, hb'⟩
      exact ⟨_, rfl, hb', rfl⟩
  intro w2 hL
  simp only [TailL, FactL.eq, FactL.poly, FactL.ret, FactL.of, List.length_cons, List.length_nil, List.drop_succ_cons, List.drop_zero]
  rintro vp hp vq hq
  go_frame
  have hb0 := hb1.trans (hL.below.mono hb1.size)
  clear hL hb1 m1 m2 c1
  obtain ⟨ap, cp, rfl, -⟩ := hp.shape
  obtain ⟨aq, cq, rfl, -⟩ := hq.shape
  go_upto_region 3 with (fail)
  refine wp_region_S trivial (none) (0) (Okr.none) [.eq (.slice ap p.length cp), .eq (.int .i64 (a : Int)), .polys (by decide) (by decide) (by decide) ((coeffsP p a))] [21, 22, 23] rfl rfl rfl rfl ⟨?_, ?_, ?_, trivial⟩ ?_
  · exact fun A w1 hA hL hS he => goOn_plain rfl (stepG_mv rfl rfl (hA 8 rfl))
  · exact fun A w1 hA hL hS he => goOn_plain rfl (stepG_mv rfl rfl (hA 10 rfl))
  · intro A w1 hA hL hS he
    have hb := hS rfl
    have h21 : A.eval (.tmp 21) = _ := he.1 rfl
    have h22 : A.eval (.tmp 22) = _ := he.2.1 rfl
    have hf0 : A.eval (.func 33) = .func (.func 33) #[] #[] := rfl
    refine goOn_plain rfl ?_
    refine stepG_call (f := 33) (args := #[.slice ap p.length cp, .int .i64 (a : Int)]) rfl rfl ?_ ?_
    · generalize A.eval = ev at *
      go_simp
    · refine (coeffsK P (by decide) ha4 (hp.on hb)).mono ?_
      rintro e w' ⟨v, rfl, hi, hb'⟩
      exact ⟨_, rfl, hb', hi⟩
  intro w3 hL
  simp only [TailL, FactL.eq, FactL.polys, FactL.ret, FactL.of, List.length_cons, List.length_nil, List.drop_succ_cons, List.drop_zero]
  rintro vl hl
  go_frame
  have hb := hL.below
  replace hp := hp.on hb
  replace hq := hq.on hb
  replace hb0 := hb0.trans (hb.mono hb0.size)
  clear hL hb
  obtain ⟨al, cl, rfl, -⟩ := hl.shape
  have hd := P.deg a
  simp only at hd
  have hcd := fun W (hb : Below w3.heap.size w3 W) => degK (v := .slice ap p.length cp) P ha4 (hp.on hb)
  have hnl := coeffsP_length p a
  have hck : ∀ c ∈ coeffsP p a, Pk ⟨1, 45, 2, 5⟩ c ∧ degP c a ≤ 0 := fun c hc => by
    obtain ⟨n, rfl⟩ := mem_coeffsP hc
    exact ⟨P.coeff a n, coeffP_deg p a n⟩
  have hlast : ∀ n : Nat, (coeffsP p a).length = n + 1 → ∃ c, (coeffsP p a)[n]? = some c ∧ c ≠ [] := fun n hn => by
    have hdn : degP p a = n := by omega
    refine ⟨coeffP p a n, ?_, ?_⟩
    · unfold coeffsP; rw [List.getElem?_map, List.getElem?_range (by omega)]; rfl
    · rw [← hdn]; exact P.v.coeff_ne (by rintro rfl; simp [degP_nil] at hdn) a
  have hfr := from_coeffs P.v a
  have hmx := from_mixed P.v Q.v a
  have hl3 : (coeffsP p a).length ≤ 3 := by omega
  generalize hD : degP p a = d at *
  generalize hLE : coeffsP p a = L at *
  clear hD
  replace hLE := Lib.hid hLE
  have hnl' : (L.length : Int) = d + 1 := by omega
  have hwd : IntKind.i64.wrap (d + 1) = d + 1 := wrap_id (by omega)
  clear hnl
  replace hck := Lib.hid hck
  replace hlast := Lib.hid hlast
  replace hfr := Lib.hid hfr
  replace hmx := Lib.hid hmx
  replace hcd := Lib.hid hcd
  go_upto_region 4 with (fail)
  go_cut [24, 25, 26, 27, 28, 29, 30, 31, 32, 33, 34, 35, 36, 37, 38, 39, 40, 41, 42, 43, 44, 45] (fun _ _ _ _ _ _ _ _ _ _ _ _ _ _ _ _ _ _ _ _ _ v45 wc => v45 = .bool false ∧ Below w3.heap.size w3 wc)
  case first =>
    rcases Nat.eq_zero_or_pos L.length with hz | hz
    · have e0 : d + 1 = 0 := by omega
      have hw0 : IntKind.i64.wrap 0 = 0 := wrap_id (by omega)
      clear hz
      refine wp_region_S trivial (none) (0) (Okr.none) [.eq (.slice al L.length cl), .eq (.int .i64 L.length), .eq (.slice ap p.length cp), .eq (.int .i64 (a : Int)), .ret (.int .i64 d), .eq (.int .i64 (d + 1)), .eq (.bool false), .eq (.bool false), .eq (.slice al L.length cl), .eq (.int .i64 L.length), .eq (.bool false), .eq (.bool false), .eq undef, .eq undef, .eq undef, .eq undef, .eq undef, .eq undef, .eq undef, .eq undef, .eq (.bool false), .eq (.bool false)] [24, 25, 26, 27, 28, 29, 30, 31, 32, 33, 34, 35, 36, 37, 38, 39, 40, 41, 42, 43, 44, 45] rfl rfl rfl rfl ⟨?_, ?_, ?_, ?_, ?_, ?_, ?_, ?_, ?_, ?_, ?_, ?_, ?_, ?_, ?_, ?_, ?_, ?_, ?_, ?_, ?_, ?_, trivial⟩ ?_
      · exact fun A w1 hA hL hS he => goOn_plain rfl (stepG_mv rfl rfl (hA 11 rfl))
      · intro A w1 hA hL hS he
        have h24 : A.eval (.tmp 24) = _ := he.1 rfl
        refine goOn_plain rfl (stepG_pure rfl rfl ?_)
        generalize A.eval = ev at *
        go_simp
      · exact fun A w1 hA hL hS he => goOn_plain rfl (stepG_mv rfl rfl (hA 8 rfl))
      · exact fun A w1 hA hL hS he => goOn_plain rfl (stepG_mv rfl rfl (hA 10 rfl))
      · intro A w1 hA hL hS he
        have hb := hS rfl
        have h26 : A.eval (.tmp 26) = _ := he.1 rfl
        have h27 : A.eval (.tmp 27) = _ := he.2.1 rfl
        have hf0 : A.eval (.func 24) = .func (.func 24) #[] #[] := rfl
        refine goOn_plain rfl ?_
        refine stepG_call (f := 24) (args := #[.slice ap p.length cp, .int .i64 (a : Int)]) rfl rfl ?_ ?_
        · generalize A.eval = ev at *
          go_simp
        · refine (hcd.out _ hb).mono ?_
          rintro e w' ⟨rfl, hb'⟩
          exact ⟨_, rfl, hb', rfl⟩
      · intro A w1 hA hL hS he
        have h28 : A.eval (.tmp 28) = _ := he.1 rfl
        have hc0 : A.eval (.const (.int .i64 1)) = .int .i64 1 := rfl
        refine goOn_plain rfl (stepG_pure rfl rfl ?_)
        generalize A.eval = ev at *
        go_simp
      · intro A w1 hA hL hS he
        have h25 : A.eval (.tmp 25) = _ := he.1 rfl
        have h29 : A.eval (.tmp 29) = _ := he.2.1 rfl
        refine goOn_plain rfl (stepG_pure rfl rfl ?_)
        generalize A.eval = ev at *
        go_simp
      · exact fun A w1 hA hL hS he => goOn_plain rfl (stepG_mv rfl rfl (he.1 rfl))
      · exact fun A w1 hA hL hS he => goOn_yes rfl rfl (he.1 rfl) (stepG_mv rfl rfl (hA 11 rfl))
      · intro A w1 hA hL hS he
        have h31 : A.eval (.tmp 31) = _ := he.2.1 rfl
        have h32 : A.eval (.tmp 32) = _ := he.1 rfl
        refine goOn_yes rfl rfl h31 ?_
        refine stepG_pure rfl rfl ?_
        generalize A.eval = ev at *
        go_simp
      · intro A w1 hA hL hS he
        have h31 : A.eval (.tmp 31) = _ := he.2.1 rfl
        have h33 : A.eval (.tmp 33) = _ := he.1 rfl
        have hc0 : A.eval (.const (.int .i64 0)) = .int .i64 0 := rfl
        refine goOn_yes rfl rfl h31 ?_
        refine stepG_pure rfl rfl ?_
        generalize A.eval = ev at *
        go_simp
      · exact fun A w1 hA hL hS he => goOn_yes rfl rfl (he.2.1 rfl) (stepG_mv rfl rfl (he.1 rfl))
      · exact fun A w1 hA hL hS he => goOn_no (x := false) rfl rfl (he.1 rfl) rfl rfl
      · exact fun A w1 hA hL hS he => goOn_no (x := false) rfl rfl (he.1 rfl) rfl rfl
      · exact fun A w1 hA hL hS he => goOn_no (x := false) rfl rfl (he.2.1 rfl) rfl rfl
      · exact fun A w1 hA hL hS he => goOn_no (x := false) rfl rfl (he.2.1 rfl) rfl rfl
      · exact fun A w1 hA hL hS he => goOn_no (x := false) rfl rfl (he.2.2.1 rfl) rfl rfl
      · exact fun A w1 hA hL hS he => goOn_no (x := false) rfl rfl (he.2.1 rfl) rfl rfl
      · exact fun A w1 hA hL hS he => goOn_no (x := false) rfl rfl (he.2.1 rfl) rfl rfl
      · exact fun A w1 hA hL hS he => goOn_no (x := false) rfl rfl (he.2.1 rfl) rfl rfl
      · exact fun A w1 hA hL hS he => goOn_yes rfl rfl (he.2.2.1 rfl) (stepG_pk rfl (he.1 rfl) rfl rfl)
      · exact fun A w1 hA hL hS he => goOn_plain rfl (stepG_pk rfl (he.1 rfl) rfl (he.2.1 rfl))
      intro w4 hL
      simp only [TailL, FactL.eq, FactL.ret, FactL.of, List.length_cons, List.length_nil, List.drop_succ_cons, List.drop_zero]
      go_frame
      go_wp2
      go_meet
      case rel => exact ⟨rfl, hL.below⟩
    · obtain ⟨n, hn⟩ : ∃ n, L.length = n + 1 := ⟨L.length - 1, by omega⟩
      obtain ⟨c, hc, hcn⟩ := hlast.out n hn
      obtain ⟨bl, ol, vc, rfl, hvc, hC⟩ := cell_poly hl hc
      obtain ⟨ac, cc, rfl, -⟩ := hvc.shape
      obtain rfl : d = (n : Int) := by omega
      have e1 : 0 < (n : Int) + 1 := by omega
      have hcl : c.length ≠ 0 := fun h => hcn (List.eq_nil_of_length_eq_zero h)
      have e2 : ¬ (c.length : Int) = 0 := by omega
      have e3 : ((c.length : Int) == 0) = false := by simp; omega
      have hcell : ∀ W, Below w3.heap.size w3 W → W.cell? ⟨bl, ol + n, none⟩ = some (.slice ac c.length cc) := fun W hb => by have := (hC.on hb).cell 0 (by simp); simpa using this
      have hn1 : n ≤ 2 := by omega
      have hwn : IntKind.i64.wrap (n : Int) = (n : Int) := wrap_id (by omega)
      clear hc hcn hcl hvc
      replace hC := Lib.hid hC
      refine wp_region_S trivial (none) (0) (Okr.none) [.eq (.slice (some ⟨bl, ol, none⟩) L.length cl), .eq (.int .i64 L.length), .eq (.slice ap p.length cp), .eq (.int .i64 (a : Int)), .ret (.int .i64 (n : Int)), .eq (.int .i64 ((n : Int) + 1)), .eq (.bool false), .eq (.bool false), .eq (.slice (some ⟨bl, ol, none⟩) L.length cl), .eq (.int .i64 L.length), .eq (.bool true), .eq (.bool true), .eq (.slice (some ⟨bl, ol, none⟩) L.length cl), .eq (.slice (some ⟨bl, ol, none⟩) L.length cl), .eq (.int .i64 L.length), .eq (.int .i64 (n : Int)), .eq (.pointer (some ⟨bl, ol + n * 1, none⟩)), .eq (.slice ac c.length cc), .eq (.int .i64 c.length), .eq (.bool false), .eq (.bool false), .eq (.bool false)] [24, 25, 26, 27, 28, 29, 30, 31, 32, 33, 34, 35, 36, 37, 38, 39, 40, 41, 42, 43, 44, 45] rfl rfl rfl rfl ⟨?_, ?_, ?_, ?_, ?_, ?_, ?_, ?_, ?_, ?_, ?_, ?_, ?_, ?_, ?_, ?_, ?_, ?_, ?_, ?_, ?_, ?_, trivial⟩ ?_
      · exact fun A w1 hA hL hS he => goOn_plain rfl (stepG_mv rfl rfl (hA 11 rfl))
      · intro A w1 hA hL hS he
        have h24 : A.eval (.tmp 24) = _ := he.1 rfl
        refine goOn_plain rfl (stepG_pure rfl rfl ?_)
        generalize A.eval = ev at *
        go_simp
      · exact fun A w1 hA hL hS he => goOn_plain rfl (stepG_mv rfl rfl (hA 8 rfl))
      · exact fun A w1 hA hL hS he => goOn_plain rfl (stepG_mv rfl rfl (hA 10 rfl))
      · intro A w1 hA hL hS he
        have hb := hS rfl
        have h26 : A.eval (.tmp 26) = _ := he.1 rfl
        have h27 : A.eval (.tmp 27) = _ := he.2.1 rfl
        have hf0 : A.eval (.func 24) = .func (.func 24) #[] #[] := rfl
        refine goOn_plain rfl ?_
        refine stepG_call (f := 24) (args := #[.slice ap p.length cp, .int .i64 (a : Int)]) rfl rfl ?_ ?_
        · generalize A.eval = ev at *
          go_simp
        · refine (hcd.out _ hb).mono ?_
          rintro e w' ⟨rfl, hb'⟩
          exact ⟨_, rfl, hb', rfl⟩
      · intro A w1 hA hL hS he
        have h28 : A.eval (.tmp 28) = _ := he.1 rfl
        have hc0 : A.eval (.const (.int .i64 1)) = .int .i64 1 := rfl
        refine goOn_plain rfl (stepG_pure rfl rfl ?_)
        generalize A.eval = ev at *
        go_simp
      · intro A w1 hA hL hS he
        have h25 : A.eval (.tmp 25) = _ := he.1 rfl
        have h29 : A.eval (.tmp 29) = _ := he.2.1 rfl
        refine goOn_plain rfl (stepG_pure rfl rfl ?_)
        generalize A.eval = ev at *
        go_simp
      · exact fun A w1 hA hL hS he => goOn_plain rfl (stepG_mv rfl rfl (he.1 rfl))
      · exact fun A w1 hA hL hS he => goOn_yes rfl rfl (he.1 rfl) (stepG_mv rfl rfl (hA 11 rfl))
      · intro A w1 hA hL hS he
        have h31 : A.eval (.tmp 31) = _ := he.2.1 rfl
        have h32 : A.eval (.tmp 32) = _ := he.1 rfl
        refine goOn_yes rfl rfl h31 ?_
        refine stepG_pure rfl rfl ?_
        generalize A.eval = ev at *
        go_simp
      · intro A w1 hA hL hS he
        have h31 : A.eval (.tmp 31) = _ := he.2.1 rfl
        have h33 : A.eval (.tmp 33) = _ := he.1 rfl
        have hc0 : A.eval (.const (.int .i64 0)) = .int .i64 0 := rfl
        refine goOn_yes rfl rfl h31 ?_
        refine stepG_pure rfl rfl ?_
        generalize A.eval = ev at *
        go_simp
      · exact fun A w1 hA hL hS he => goOn_yes rfl rfl (he.2.1 rfl) (stepG_mv rfl rfl (he.1 rfl))
      · exact fun A w1 hA hL hS he => goOn_yes rfl rfl (he.1 rfl) (stepG_mv rfl rfl (hA 11 rfl))
      · exact fun A w1 hA hL hS he => goOn_yes rfl rfl (he.1 rfl) (stepG_mv rfl rfl (hA 11 rfl))
      · intro A w1 hA hL hS he
        have h35 : A.eval (.tmp 35) = _ := he.2.1 rfl
        have h37 : A.eval (.tmp 37) = _ := he.1 rfl
        refine goOn_yes rfl rfl h35 ?_
        refine stepG_pure rfl rfl ?_
        generalize A.eval = ev at *
        go_simp
      · intro A w1 hA hL hS he
        have h35 : A.eval (.tmp 35) = _ := he.2.1 rfl
        have h38 : A.eval (.tmp 38) = _ := he.1 rfl
        have hc0 : A.eval (.const (.int .i64 1)) = .int .i64 1 := rfl
        refine goOn_yes rfl rfl h35 ?_
        refine stepG_pure rfl rfl ?_
        generalize A.eval = ev at *
        go_simp
      · intro A w1 hA hL hS he
        have h35 : A.eval (.tmp 35) = _ := he.2.2.1 rfl
        have h36 : A.eval (.tmp 36) = _ := he.1 rfl
        have h39 : A.eval (.tmp 39) = _ := he.2.1 rfl
        refine goOn_yes rfl rfl h35 ?_
        exact stepG_pure rfl rfl (execOp_index rfl (by rw [h36, h39]; exact run_index Tryz.underlying57 (by kernel_rfl) w1 bl ol _ _ n .i64 _ (by first | rfl | simp | omega) (by omega)))
      · intro A w1 hA hL hS he
        have h35 : A.eval (.tmp 35) = _ := he.2.1 rfl
        have h40 : A.eval (.tmp 40) = _ := he.1 rfl
        refine goOn_yes rfl rfl h35 ?_
        have c0 := hcell w1 hL.below
        refine stepG_pure rfl rfl ?_
        generalize A.eval = ev at *
        go_simp
      · intro A w1 hA hL hS he
        have h35 : A.eval (.tmp 35) = _ := he.2.1 rfl
        have h41 : A.eval (.tmp 41) = _ := he.1 rfl
        refine goOn_yes rfl rfl h35 ?_
        refine stepG_pure rfl rfl ?_
        generalize A.eval = ev at *
        go_simp
      · intro A w1 hA hL hS he
        have h35 : A.eval (.tmp 35) = _ := he.2.1 rfl
        have h42 : A.eval (.tmp 42) = _ := he.1 rfl
        have hc0 : A.eval (.const (.int .i64 0)) = .int .i64 0 := rfl
        refine goOn_yes rfl rfl h35 ?_
        refine stepG_pure rfl rfl ?_
        generalize A.eval = ev at *
        go_simp
      · exact fun A w1 hA hL hS he => goOn_yes rfl rfl (he.2.2.1 rfl) (stepG_pk rfl (he.1 rfl) rfl (he.2.1 rfl))
      · exact fun A w1 hA hL hS he => goOn_plain rfl (stepG_pk rfl (he.1 rfl) rfl (he.2.1 rfl))
      intro w4 hL
      simp only [TailL, FactL.eq, FactL.ret, FactL.of, List.length_cons, List.length_nil, List.drop_succ_cons, List.drop_zero]
      go_frame
      go_wp2
      go_meet
      case rel => exact ⟨rfl, hL.below⟩
  case rest =>
    obtain ⟨rfl, hbc⟩ := hcut
    replace hp := hp.on hbc
    replace hq := hq.on hbc
    replace hl := hl.on hbc
    replace hb0 := hb0.trans (hbc.mono hb0.size)
    clear hbc hcd hlast hwd
    go_wp2
    go_loopw [12] (fun i wr => ∃ k : Nat, k ≤ L.length ∧ i = .int .i64 k ∧ Below wc.heap.size wc wr) (fun i _ => L.length - (intOf i).toNat)
    case atStart => exact ⟨0, by omega, rfl, Below.refl _ _⟩
    case round =>
      obtain ⟨k, hk, rfl, hbr⟩ := hrel
      by_cases hkl : k < L.length
      · have hkl' : (k : Int) < (L.length : Int) := by omega
        have hjq : L[k]? = some L[k] := List.getElem?_eq_getElem hkl
        generalize L[k] = c at hjq
        obtain ⟨CK, hcd⟩ := hck.out c (List.mem_of_getElem? hjq)
        obtain ⟨bl, ol, vc, rfl, hvc, hC⟩ := cell_poly hl hjq
        have hcell : ∀ W, Below wr.heap.size wr W → W.cell? ⟨bl, ol + k, none⟩ = some vc := fun W hb => by have := (hC.on (hbr.trans (hb.mono hbr.size))).cell 0 (by simp); simpa using this
        have hdg := fun W (hb : Below wc.heap.size wc W) => deg7K CK ha4 (hvc.on hb)
        generalize degP c a = e at *
        have e1 : ¬ 0 < e := by omega
        replace hC := Lib.hid hC
        replace hdg := Lib.hid hdg
        go_upto_region 9 with (fail)
        refine wp_region_S trivial (none) (0) (Okr.none) [.eq (.slice (some ⟨bl, ol, none⟩) L.length cl), .eq (.int .i64 k), .eq (.pointer (some ⟨bl, ol + k * 1, none⟩)), .eq (vc), .eq (.int .i64 (a : Int)), .ret (.int .i64 e), .eq (.bool false), .eq (.bool false), .eq (.slice (some ⟨bl, ol, none⟩) L.length cl), .eq (.int .i64 k), .eq (.pointer (some ⟨bl, ol + k * 1, none⟩)), .eq (vc), .ret (.bool true), .eq (.bool false), .eq (.bool false)] [52, 53, 54, 55, 56, 57, 58, 59, 60, 61, 62, 63, 64, 65, 66] rfl rfl rfl rfl ⟨?_, ?_, ?_, ?_, ?_, ?_, ?_, ?_, ?_, ?_, ?_, ?_, ?_, ?_, ?_, trivial⟩ ?_
        · exact fun A w1 hA hL hS he => goOn_plain rfl (stepG_mv rfl rfl (hA 11 rfl))
        · exact fun A w1 hA hL hS he => goOn_plain rfl (stepG_mv rfl rfl (hA 12 rfl))
        · intro A w1 hA hL hS he
          have h52 : A.eval (.tmp 52) = _ := he.1 rfl
          have h53 : A.eval (.tmp 53) = _ := he.2.1 rfl
          refine goOn_plain rfl ?_
          exact stepG_pure rfl rfl (execOp_index rfl (by rw [h52, h53]; exact run_index Tryz.underlying57 (by kernel_rfl) w1 bl ol _ _ k .i64 _ (by first | rfl | simp | omega) (hkl)))
        · intro A w1 hA hL hS he
          have h54 : A.eval (.tmp 54) = _ := he.1 rfl
          refine goOn_plain rfl ?_
          have c0 := hcell w1 hL.below
          refine stepG_pure rfl rfl ?_
          generalize A.eval = ev at *
          go_simp
        · exact fun A w1 hA hL hS he => goOn_plain rfl (stepG_mv rfl rfl (hA 10 rfl))
        · intro A w1 hA hL hS he
          have hb := hS rfl
          have hbw : Below wc.heap.size wc w1 := hbr.trans (hb.mono hbr.size)
          have h55 : A.eval (.tmp 55) = _ := he.1 rfl
          have h56 : A.eval (.tmp 56) = _ := he.2.1 rfl
          have hf0 : A.eval (.func 34) = .func (.func 34) #[] #[] := rfl
          refine goOn_plain rfl ?_
          refine stepG_call (f := 34) (args := #[vc, .int .i64 (a : Int)]) rfl rfl ?_ ?_
          · generalize A.eval = ev at *
            go_simp
          · refine (hdg.out _ hbw).mono ?_
            rintro e w' ⟨rfl, hb'⟩
            exact ⟨_, rfl, hb', rfl⟩
        · intro A w1 hA hL hS he
          have h57 : A.eval (.tmp 57) = _ := he.1 rfl
          have hc0 : A.eval (.const (.int .i64 0)) = .int .i64 0 := rfl
          refine goOn_plain rfl (stepG_pure rfl rfl ?_)
          generalize A.eval = ev at *
          go_simp
        · exact fun A w1 hA hL hS he => goOn_plain rfl (stepG_mv rfl rfl (he.1 rfl))
        · exact fun A w1 hA hL hS he => goOn_yes rfl rfl (he.1 rfl) (stepG_mv rfl rfl (hA 11 rfl))
        · exact fun A w1 hA hL hS he => goOn_yes rfl rfl (he.1 rfl) (stepG_mv rfl rfl (hA 12 rfl))
        · intro A w1 hA hL hS he
          have h59 : A.eval (.tmp 59) = _ := he.2.2.1 rfl
          have h60 : A.eval (.tmp 60) = _ := he.1 rfl
          have h61 : A.eval (.tmp 61) = _ := he.2.1 rfl
          refine goOn_yes rfl rfl h59 ?_
          exact stepG_pure rfl rfl (execOp_index rfl (by rw [h60, h61]; exact run_index Tryz.underlying57 (by kernel_rfl) w1 bl ol _ _ k .i64 _ (by first | rfl | simp | omega) (hkl)))
        · intro A w1 hA hL hS he
          have h59 : A.eval (.tmp 59) = _ := he.2.1 rfl
          have h62 : A.eval (.tmp 62) = _ := he.1 rfl
          refine goOn_yes rfl rfl h59 ?_
          have c0 := hcell w1 hL.below
          refine stepG_pure rfl rfl ?_
          generalize A.eval = ev at *
          go_simp
        · intro A w1 hA hL hS he
          have hb := hS rfl
          have hbw : Below wc.heap.size wc w1 := hbr.trans (hb.mono hbr.size)
          have h59 : A.eval (.tmp 59) = _ := he.2.1 rfl
          have h63 : A.eval (.tmp 63) = _ := he.1 rfl
          have hf0 : A.eval (.func 15) = .func (.func 15) #[] #[] := rfl
          refine goOn_yes rfl rfl h59 ?_
          refine stepG_call (f := 15) (args := #[vc]) rfl rfl ?_ ?_
          · generalize A.eval = ev at *
            go_simp
          · refine (valid7K CK (hvc.on hbw)).mono ?_
            rintro e w' ⟨rfl, hb'⟩
            exact ⟨_, rfl, hb', rfl⟩
        · intro A w1 hA hL hS he
          have h59 : A.eval (.tmp 59) = _ := he.2.1 rfl
          have h64 : A.eval (.tmp 64) = _ := he.1 rfl
          refine goOn_yes rfl rfl h59 ?_
          refine stepG_pure rfl rfl ?_
          generalize A.eval = ev at *
          go_simp
        · exact fun A w1 hA hL hS he => goOn_plain rfl (stepG_pk rfl (he.1 rfl) rfl (he.2.1 rfl))
        intro w4 hL
        simp only [TailL, FactL.eq, FactL.ret, FactL.of, List.length_cons, List.length_nil, List.drop_succ_cons, List.drop_zero]
        go_frame
        go_wp2
        go_roundw
        case rel => exact ⟨k + 1, by omega, by go_num, hbr.trans (hL.below.mono hbr.size)⟩
        case measure => simp [intOf]; omega
      · obtain rfl : k = L.length := by omega
        replace hp := hp.on hbr
        replace hq := hq.on hbr
        replace hl := hl.on hbr
        replace hb0 := hb0.trans (hbr.mono hb0.size)
        clear hbr
        have ok3 : (⟨1, 45 * 3, 2 + 3, 5 * 3⟩ : Sz).ok := by decide +kernel
        have hmb : ∀ c ∈ [q, [], p], Bd ⟨1, 45, 2, 5⟩ c := fun c hc => by
          simp only [List.mem_cons, List.not_mem_nil, or_false] at hc
          rcases hc with rfl | rfl | rfl
          · exact Q.b
          · exact Bd.nil _
          · exact P.b
        have hlb : ∀ c ∈ L, Bd ⟨1, 45, 2, 5⟩ c := fun c hc => (hck.out c hc).1.b
        have FM := (from_pk a hmb (by simp) ok3).2
        have FL := (from_pk a hlb hl3 ok3).2
        have VX := Pk.var a
        have XX := VX.mul VX (by decide +kernel)
        have PXX := P.mul XX (by decide +kernel)
        have AX := Q.add PXX (by decide +kernel)
        go_upto_region 11 with (fail)
        refine wp_region_S trivial (none) (0) (Okr.none) [.eq (.slice aq q.length cq), .poly (by decide) (by decide) ([]), .eq (.slice ap p.length cp), .polys (by decide) (by decide) (by decide) ([q, [], p]), .eq (.int .i64 (a : Int)), .poly (by decide) (by decide) ((fromP [q, [], p] a))] [67, 68, 69, 70, 71, 72] rfl rfl rfl rfl ⟨?_, ?_, ?_, ?_, ?_, ?_, trivial⟩ ?_
        · exact fun A w1 hA hL hS he => goOn_plain rfl (stepG_mv rfl rfl (hA 9 rfl))
        · intro A w1 hA hL hS he
          refine goOn_plain rfl ?_
          refine stepG_value (c := .slice (some ⟨w1.heap.size, 0, none⟩) 0 0) rfl rfl ((Below.refl _ _).alloc (Nat.le_refl _) _) (own_lit0 elTerm w1).isSl ?_
          generalize A.eval = ev at *
          go_simp
          rfl
        · exact fun A w1 hA hL hS he => goOn_plain rfl (stepG_mv rfl rfl (hA 8 rfl))
        · intro A w1 hA hL hS he
          have hb := hS rfl
          have h67 : A.eval (.tmp 67) = _ := he.1 rfl
          have f68 : ((.poly (by decide) (by decide) ([]) : FactL (Lr (none) (0)))).p (A.eval (.tmp 68)) w1 := he.2.1 rfl
          obtain ⟨v68, h68⟩ : ∃ v, A.eval (.tmp 68) = v := ⟨_, rfl⟩
          rw [h68] at f68
          have h69 : A.eval (.tmp 69) = _ := he.2.2.1 rfl
          refine goOn_plain rfl ?_
          have q68 := f68
          obtain ⟨a68, c68, rfl, -⟩ := q68.shape
          refine stepG_newL3 rfl rfl (hq.on hb) f68 (hp.on hb) ?_ (fun _ _ h => h)
          generalize A.eval = ev at *
          go_simp
        · exact fun A w1 hA hL hS he => goOn_plain rfl (stepG_mv rfl rfl (hA 10 rfl))
        · intro A w1 hA hL hS he
          have hb := hS rfl
          have f70 : ((.polys (by decide) (by decide) (by decide) ([q, [], p]) : FactL (Lr (none) (0)))).p (A.eval (.tmp 70)) w1 := he.1 rfl
          obtain ⟨v70, h70⟩ : ∃ v, A.eval (.tmp 70) = v := ⟨_, rfl⟩
          rw [h70] at f70
          have h71 : A.eval (.tmp 71) = _ := he.2.1 rfl
          have hf0 : A.eval (.func 35) = .func (.func 35) #[] #[] := rfl
          refine goOn_plain rfl ?_
          refine stepG_call (f := 35) (args := #[v70, .int .i64 (a : Int)]) rfl rfl ?_ ?_
          · generalize A.eval = ev at *
            go_simp
          · refine (fromK hmb (by simp) ok3 ha4 f70).mono ?_
            rintro e w' ⟨v, rfl, hi, hb'⟩
            exact ⟨_, rfl, hb', hi⟩
        intro w4 hL
        simp only [TailL, FactL.eq, FactL.poly, FactL.polys, FactL.ret, FactL.of, List.length_cons, List.length_nil, List.drop_succ_cons, List.drop_zero]
        rintro _ - _ - vm hm
        go_frame
        have hb := hL.below
        replace hp := hp.on hb
        replace hq := hq.on hb
        replace hl := hl.on hb
        replace hb0 := hb0.trans (hb.mono hb0.size)
        clear hL hb hmb
        have hsl := fun p (hp : p ∈ L) => (show (∀ t ∈ p, Rk t.2) ∧ p.length ≤ 1000000 from ⟨(hck.out p hp).1.rk, (hck.out p hp).1.len⟩)
        have hsame := fun (u : Value) W (hb : Below w4.heap.size w4 W) (hu : IsPolys W u L) => (decide_eq_true (rfl : L = L)) ▸ sameList_any _ u L L W (hl.on hb) hu hsl (fun p hp => (hsl p hp).1) (by omega)
        have hc7 := fun W (hb : Below w4.heap.size w4 W) => hLE.out ▸ coeffs7K (v := a) P (by decide) ha4 (hp.on hb)
        replace hsame := Lib.hid hsame
        replace hc7 := Lib.hid hc7
        clear hsl
        go_upto_region 12 with (fail)
        refine wp_region_S trivial (none) (0) (Okr.none) [.eq (.slice al L.length cl), .eq (.int .i64 (a : Int)), .poly (by decide) (by decide) ((fromP L a)), .eq (.slice ap p.length cp), .ret (.bool true), .eq (.bool true), .eq (vm), .eq (.slice aq q.length cq), .eq (.slice ap p.length cp), .eq (.int .i64 (a : Int)), .poly (by decide) (by decide) ((varP a)), .eq (.int .i64 (a : Int)), .poly (by decide) (by decide) ((varP a)), .poly (by decide) (by decide) ((mulP (varP a) (varP a))), .poly (by decide) (by decide) ((mulP p (mulP (varP a) (varP a)))), .poly (by decide) (by decide) ((addP q (mulP p (mulP (varP a) (varP a))))), .ret (.bool true), .eq (.bool true), .eq (.bool true), .eq (.slice al L.length cl), .eq (.slice ap p.length cp), .eq (.int .i64 (a : Int)), .polys (by decide) (by decide) (by decide) (L), .ret (.bool true), .eq (.bool true), .eq (.bool true), .eq (.bool true), .eq (.bool true)] [73, 74, 75, 76, 77, 78, 79, 80, 81, 82, 83, 84, 85, 86, 87, 88, 89, 90, 91, 92, 93, 94, 95, 96, 97, 98, 99, 100] rfl rfl rfl rfl ⟨?_, ?_, ?_, ?_, ?_, ?_, ?_, ?_, ?_, ?_, ?_, ?_, ?_, ?_, ?_, ?_, ?_, ?_, ?_, ?_, ?_, ?_, ?_, ?_, ?_, ?_, ?_, ?_, trivial⟩ ?_
        · exact fun A w1 hA hL hS he => goOn_plain rfl (stepG_mv rfl rfl (hA 11 rfl))
        · exact fun A w1 hA hL hS he => goOn_plain rfl (stepG_mv rfl rfl (hA 10 rfl))
        · intro A w1 hA hL hS he
          have hb := hS rfl
          have h73 : A.eval (.tmp 73) = _ := he.1 rfl
          have h74 : A.eval (.tmp 74) = _ := he.2.1 rfl
          have hf0 : A.eval (.func 35) = .func (.func 35) #[] #[] := rfl
          refine goOn_plain rfl ?_
          refine stepG_call (f := 35) (args := #[.slice al L.length cl, .int .i64 (a : Int)]) rfl rfl ?_ ?_
          · generalize A.eval = ev at *
            go_simp
          · refine (fromK hlb hl3 ok3 ha4 (hl.on hb)).mono ?_
            rintro e w' ⟨v, rfl, hi, hb'⟩
            exact ⟨_, rfl, hb', hi⟩
        · exact fun A w1 hA hL hS he => goOn_plain rfl (stepG_mv rfl rfl (hA 8 rfl))
        · intro A w1 hA hL hS he
          have hb := hS rfl
          have f75 : ((.poly (by decide) (by decide) ((fromP L a)) : FactL (Lr (none) (0)))).p (A.eval (.tmp 75)) w1 := he.1 rfl
          obtain ⟨v75, h75⟩ : ∃ v, A.eval (.tmp 75) = v := ⟨_, rfl⟩
          rw [h75] at f75
          have h76 : A.eval (.tmp 76) = _ := he.2.1 rfl
          have hf0 : A.eval (.func 17) = .func (.func 17) #[] #[] := rfl
          refine goOn_plain rfl ?_
          refine stepG_call (f := 17) (args := #[v75, .slice ap p.length cp]) rfl rfl ?_ ?_
          · generalize A.eval = ev at *
            go_simp
          · refine (sameK FL P hfr.out f75 (hp.on hb)).mono ?_
            rintro e w' ⟨rfl, hb'⟩
            exact ⟨_, rfl, hb', rfl⟩
        · exact fun A w1 hA hL hS he => goOn_plain rfl (stepG_mv rfl rfl (he.1 rfl))
        · exact fun A w1 hA hL hS he => goOn_yes rfl rfl (he.1 rfl) (stepG_mv rfl rfl (hA 13 rfl))
        · exact fun A w1 hA hL hS he => goOn_yes rfl rfl (he.1 rfl) (stepG_mv rfl rfl (hA 9 rfl))
        · exact fun A w1 hA hL hS he => goOn_yes rfl rfl (he.1 rfl) (stepG_mv rfl rfl (hA 8 rfl))
        · exact fun A w1 hA hL hS he => goOn_yes rfl rfl (he.1 rfl) (stepG_mv rfl rfl (hA 10 rfl))
        · intro A w1 hA hL hS he
          have hb := hS rfl
          have h78 : A.eval (.tmp 78) = _ := he.2.1 rfl
          have h82 : A.eval (.tmp 82) = _ := he.1 rfl
          have hf0 : A.eval (.func 37) = .func (.func 37) #[] #[] := rfl
          refine goOn_yes rfl rfl h78 ?_
          refine stepG_call (f := 37) (args := #[.int .i64 (a : Int)]) rfl rfl ?_ ?_
          · generalize A.eval = ev at *
            go_simp
          · refine (var7_any a _ ha4).mono ?_
            rintro e w' ⟨v, rfl, hi, hb'⟩
            exact ⟨_, rfl, hb', hi⟩
        · exact fun A w1 hA hL hS he => goOn_yes rfl rfl (he.1 rfl) (stepG_mv rfl rfl (hA 10 rfl))
        · intro A w1 hA hL hS he
          have hb := hS rfl
          have h78 : A.eval (.tmp 78) = _ := he.2.2.1 rfl
          have h84 : A.eval (.tmp 84) = _ := he.1 rfl
          have hf0 : A.eval (.func 37) = .func (.func 37) #[] #[] := rfl
          refine goOn_yes rfl rfl h78 ?_
          refine stepG_call (f := 37) (args := #[.int .i64 (a : Int)]) rfl rfl ?_ ?_
          · generalize A.eval = ev at *
            go_simp
          · refine (var7_any a _ ha4).mono ?_
            rintro e w' ⟨v, rfl, hi, hb'⟩
            exact ⟨_, rfl, hb', hi⟩
        · intro A w1 hA hL hS he
          have hb := hS rfl
          have h78 : A.eval (.tmp 78) = _ := he.2.2.2.1 rfl
          have f83 : ((.poly (by decide) (by decide) ((varP a)) : FactL (Lr (none) (0)))).p (A.eval (.tmp 83)) w1 := he.1 rfl
          obtain ⟨v83, h83⟩ : ∃ v, A.eval (.tmp 83) = v := ⟨_, rfl⟩
          rw [h83] at f83
          have f85 : ((.poly (by decide) (by decide) ((varP a)) : FactL (Lr (none) (0)))).p (A.eval (.tmp 85)) w1 := he.2.1 rfl
          obtain ⟨v85, h85⟩ : ∃ v, A.eval (.tmp 85) = v := ⟨_, rfl⟩
          rw [h85] at f85
          have hf0 : A.eval (.func 30) = .func (.func 30) #[] #[] := rfl
          refine goOn_yes rfl rfl h78 ?_
          refine stepG_call (f := 30) (args := #[v83, v85]) rfl rfl ?_ ?_
          · generalize A.eval = ev at *
            go_simp
          · refine (mul7K VX VX XX.k f83 f85).mono ?_
            rintro e w' ⟨v, rfl, hi, hb'⟩
            exact ⟨_, rfl, hb', hi⟩
        · intro A w1 hA hL hS he
          have hb := hS rfl
          have h78 : A.eval (.tmp 78) = _ := he.2.2.2.1 rfl
          have h81 : A.eval (.tmp 81) = _ := he.1 rfl
          have f86 : ((.poly (by decide) (by decide) ((mulP (varP a) (varP a))) : FactL (Lr (none) (0)))).p (A.eval (.tmp 86)) w1 := he.2.1 rfl
          obtain ⟨v86, h86⟩ : ∃ v, A.eval (.tmp 86) = v := ⟨_, rfl⟩
          rw [h86] at f86
          have hf0 : A.eval (.func 30) = .func (.func 30) #[] #[] := rfl
          refine goOn_yes rfl rfl h78 ?_
          refine stepG_call (f := 30) (args := #[.slice ap p.length cp, v86]) rfl rfl ?_ ?_
          · generalize A.eval = ev at *
            go_simp
          · refine (mul7K P XX PXX.k (hp.on hb) f86).mono ?_
            rintro e w' ⟨v, rfl, hi, hb'⟩
            exact ⟨_, rfl, hb', hi⟩
        · intro A w1 hA hL hS he
          have hb := hS rfl
          have h78 : A.eval (.tmp 78) = _ := he.2.2.2.1 rfl
          have h80 : A.eval (.tmp 80) = _ := he.1 rfl
          have f87 : ((.poly (by decide) (by decide) ((mulP p (mulP (varP a) (varP a)))) : FactL (Lr (none) (0)))).p (A.eval (.tmp 87)) w1 := he.2.1 rfl
          obtain ⟨v87, h87⟩ : ∃ v, A.eval (.tmp 87) = v := ⟨_, rfl⟩
          rw [h87] at f87
          have hf0 : A.eval (.func 36) = .func (.func 36) #[] #[] := rfl
          refine goOn_yes rfl rfl h78 ?_
          refine stepG_call (f := 36) (args := #[.slice aq q.length cq, v87]) rfl rfl ?_ ?_
          · generalize A.eval = ev at *
            go_simp
          · refine (add7K Q PXX (hq.on hb) f87).mono ?_
            rintro e w' ⟨v, rfl, hi, hb'⟩
            exact ⟨_, rfl, hb', hi⟩
        · intro A w1 hA hL hS he
          have hb := hS rfl
          have h78 : A.eval (.tmp 78) = _ := he.2.2.2.1 rfl
          have h79 : A.eval (.tmp 79) = _ := he.1 rfl
          have f88 : ((.poly (by decide) (by decide) ((addP q (mulP p (mulP (varP a) (varP a))))) : FactL (Lr (none) (0)))).p (A.eval (.tmp 88)) w1 := he.2.1 rfl
          obtain ⟨v88, h88⟩ : ∃ v, A.eval (.tmp 88) = v := ⟨_, rfl⟩
          rw [h88] at f88
          have hf0 : A.eval (.func 17) = .func (.func 17) #[] #[] := rfl
          refine goOn_yes rfl rfl h78 ?_
          refine stepG_call (f := 17) (args := #[vm, v88]) rfl rfl ?_ ?_
          · generalize A.eval = ev at *
            go_simp
          · refine (sameK FM AX hmx.out (hm.on hb) f88).mono ?_
            rintro e w' ⟨rfl, hb'⟩
            exact ⟨_, rfl, hb', rfl⟩
        · exact fun A w1 hA hL hS he => goOn_plain rfl (stepG_pk rfl (he.1 rfl) rfl (he.2.1 rfl))
        · exact fun A w1 hA hL hS he => goOn_plain rfl (stepG_mv rfl rfl (he.1 rfl))
        · exact fun A w1 hA hL hS he => goOn_yes rfl rfl (he.1 rfl) (stepG_mv rfl rfl (hA 11 rfl))
        · exact fun A w1 hA hL hS he => goOn_yes rfl rfl (he.1 rfl) (stepG_mv rfl rfl (hA 8 rfl))
        · exact fun A w1 hA hL hS he => goOn_yes rfl rfl (he.1 rfl) (stepG_mv rfl rfl (hA 10 rfl))
        · intro A w1 hA hL hS he
          have hb := hS rfl
          have h91 : A.eval (.tmp 91) = _ := he.2.2.1 rfl
          have h93 : A.eval (.tmp 93) = _ := he.1 rfl
          have h94 : A.eval (.tmp 94) = _ := he.2.1 rfl
          have hf0 : A.eval (.func 39) = .func (.func 39) #[] #[] := rfl
          refine goOn_yes rfl rfl h91 ?_
          refine stepG_call (f := 39) (args := #[.slice ap p.length cp, .int .i64 (a : Int)]) rfl rfl ?_ ?_
          · generalize A.eval = ev at *
            go_simp
          · refine (hc7.out _ hb).mono ?_
            rintro e w' ⟨v, rfl, hi, hb'⟩
            exact ⟨_, rfl, hb', hi⟩
        · intro A w1 hA hL hS he
          have hb := hS rfl
          have h91 : A.eval (.tmp 91) = _ := he.2.2.2.1 rfl
          have h92 : A.eval (.tmp 92) = _ := he.1 rfl
          have f95 : ((.polys (by decide) (by decide) (by decide) (L) : FactL (Lr (none) (0)))).p (A.eval (.tmp 95)) w1 := he.2.1 rfl
          obtain ⟨v95, h95⟩ : ∃ v, A.eval (.tmp 95) = v := ⟨_, rfl⟩
          rw [h95] at f95
          have hf0 : A.eval (.func 38) = .func (.func 38) #[] #[] := rfl
          refine goOn_yes rfl rfl h91 ?_
          refine stepG_call (f := 38) (args := #[.slice al L.length cl, v95]) rfl rfl ?_ ?_
          · generalize A.eval = ev at *
            go_simp
          · refine (hsame.out _ _ hb f95).mono ?_
            rintro e w' ⟨rfl, hb'⟩
            exact ⟨_, rfl, hb', rfl⟩
        · exact fun A w1 hA hL hS he => goOn_plain rfl (stepG_pk rfl (he.1 rfl) rfl (he.2.1 rfl))
        · exact fun A w1 hA hL hS he => goOn_plain rfl (stepG_mv rfl rfl (he.1 rfl))
        · exact fun A w1 hA hL hS he => goOn_yes rfl rfl (he.1 rfl) (stepG_mv rfl rfl (hA 7 rfl))
        · exact fun A w1 hA hL hS he => goOn_plain rfl (stepG_pk rfl (he.1 rfl) rfl (he.2.1 rfl))
        intro w5 hL
        simp only [TailL, FactL.eq, FactL.poly, FactL.polys, FactL.ret, FactL.of, List.length_cons, List.length_nil, List.drop_succ_cons, List.drop_zero]
        rintro _ - _ - _ - _ - _ - _ - _ -
        go_frame
        replace hb0 := hb0.trans (hL.below.mono hb0.size)
        go_wp2
        go_ret
        exact ⟨rfl, hb0⟩
end Go.Proofs.YtplfdeohokkebaaGreat
