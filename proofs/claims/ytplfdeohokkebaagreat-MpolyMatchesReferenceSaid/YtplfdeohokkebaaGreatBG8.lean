/- law07.MpolyMatchesReference: the walk. -/
import Derived.Test.YtplfdeohokkebaaGreatBE6
import Derived.Test.YtplfdeohokkebaaGreatBF8
import Derived.Test.YtplfdeohokkebaaGreatBF9
set_option linter.unusedVariables false
set_option linter.unusedSimpArgs false
namespace Q
open Go Go.Proofs.YtplfdeohokkebaaGreat
theorem Pk.scaleG {s t : Sz} {p : List Trm} (h : Pk s p) {c : Rat} (hb : Bd t [(e0, c)]) (k : (s.mul t).ok) : Pk (s.mul t) (scaleP p c) := by
  refine ⟨h.v.scale c, ?_, k⟩
  rw [← timesP_scale]
  by_cases hc : c = 0
  · rw [timesP, if_pos hc]; exact Bd.nil _
  · rw [timesP_prods hc]; exact h.b.prods hb
theorem Pk.sub {s t : Sz} {p q : List Trm} (h : Pk s p) (h' : Pk t q) (k' : (t.mul ⟨1, 1, 0, 1⟩).ok) (k : (s.add (t.mul ⟨1, 1, 0, 1⟩)).ok) : Pk (s.add (t.mul ⟨1, 1, 0, 1⟩)) (subP p q) := h.add (h'.scale neg_pk k') k
/-- a small number over d -/
theorem small_bd {x : Int} {d : Nat} (hd : 0 < d) (hx : x.natAbs ≤ 128) : Bd ⟨d, 128, 0, 1⟩ [(e0, Rat.divInt x d)] := by
  have hd0 : ((d : Int) : Rat) ≠ 0 := by rw [Rat.intCast_natCast]; intro h; have := Rat.natCast_inj.1 (show ((d : Nat) : Rat) = ((0 : Nat) : Rat) from h); omega
  have hm : Rat.divInt x d * ((d : Nat) : Rat) = (x : Rat) := by
    rw [Rat.divInt_eq_div, ← Rat.intCast_natCast]; exact Rat.div_mul_cancel hd0
  refine ⟨by simp, fun t ht => ?_, fun t ht => ?_, ?_⟩
  · rw [List.mem_singleton.1 ht]; simp [e0]
  · rw [List.mem_singleton.1 ht]; exact ⟨x, hm⟩
  · simp only [asum]
    have h1 : rabs (Rat.divInt x d) * rabs ((d : Nat) : Rat) = rabs (x : Rat) := by rw [← rabs_mul, hm]
    rw [rabs_of_pos (c := ((d : Nat) : Rat)) Rat.natCast_nonneg, rabs_int] at h1
    have h2 := rabs_nonneg (Rat.divInt x d)
    have h3 : rabs (Rat.divInt x d) * 1 ≤ rabs (Rat.divInt x d) * ((d : Nat) : Rat) := Rat.mul_le_mul_of_nonneg_left (by
      rw [show (1 : Rat) = ((1 : Nat) : Rat) from rfl]; exact Rat.natCast_le_natCast.2 hd) h2
    have h4 : ((x.natAbs : Nat) : Rat) ≤ ((128 : Nat) : Rat) := Rat.natCast_le_natCast.2 hx
    show rabs (Rat.divInt x d) + 0 ≤ ((128 : Nat) : Rat)
    grind
end Q
namespace Go.Proofs.YtplfdeohokkebaaGreat
open Go.RowKit Q Go.WideMaps Go.Maps
set_option maxHeartbeats 16000000 in
set_option maxRecDepth 100000 in
theorem matches_any (v1 v2 : Value) (x : Int) (L1 L2 : List Drw) (w : World) (h1 : IsDraw w v1 L1) (h2 : IsDraw w v2 L2) (x0 : -128 ≤ x) (x1 : x < 128) :
    Calls Tryz.prog 11 #[v1, v2, .int .i8 x] w (Ret w (.bool true)) := by
  have P : Pk ⟨1, 45, 2, 5⟩ (madeP L1 5 3) := made_pk (n := 5) (vs := 3) L1 (by decide)
  have Q : Pk ⟨1, 45, 2, 5⟩ (madeP L2 5 3) := made_pk (n := 5) (vs := 3) L2 (by decide)
  have m1 := Lib.hid (fun W (hb : Below w.heap.size w W) => made_any v1 L1 W (h1.on hb))
  have m2 := Lib.hid (fun W (hb : Below w.heap.size w W) => made_any v2 L2 W (h2.on hb))
  generalize madeP L1 5 3 = p at *
  generalize madeP L2 5 3 = q at *
  have hKb : Bd ⟨3, 128, 0, 1⟩ [(e0, Rat.divInt x (3 : Nat))] := small_bd (by decide) (by omega)
  have hKs : Rs (Rat.divInt x (3 : Nat)) := hKb.rs (by decide +kernel) _ (List.mem_singleton.2 rfl)
  have hKm := Lib.hid (fun W => made2_any x 3 W (by omega) (by decide))
  have hwx : IntKind.i64.wrap x = x := wrap_id (by omega)
  change Hid (∀ W, Calls _ _ _ W (RetRat W (Rat.divInt x (3 : Nat)))) at hKm
  generalize Rat.divInt x (3 : Nat) = K at *
  clear h1 h2
  go_enter Tryz.func11, Tryz.ntmps11
  go_upto_region 2 with (go_at_call 12; refine (sanity_any _).mono ?_; rintro e w1 ⟨rfl, hb1⟩)
  refine wp_region_S trivial (none) (0) (Okr.none) [.eq (v1), .poly (by decide) (by decide) (p), .eq (v2), .poly (by decide) (by decide) (q), .eq (.int .i8 x), .eq (.int .i64 x), .rat (by decide) (K), .box 34 w1.heap.size [.bool false, .slice none 0 0, .bool false, .slice none 0 0]] [17, 18, 19, 20, 21, 22, 23, 10] rfl rfl rfl rfl ⟨?_, ?_, ?_, ?_, ?_, ?_, ?_, ?_, trivial⟩ ?_
  · exact fun A w1 hA hL hS he => goOn_plain rfl (stepG_mv rfl rfl (hA 0 rfl))
  · intro A w1 hA hL hS he
    have hb := hS rfl
    have h17 : A.eval (.tmp 17) = _ := he.1 rfl
    have hf0 : A.eval (.func 22) = .func (.func 22) #[] #[] := rfl
    refine goOn_plain rfl ?_
    refine stepG_call (f := 22) (args := #[v1]) rfl rfl ?_ ?_
    · generalize A.eval = ev at *
      go_simp
    · refine (m1.out _ (hb1.trans (hb.mono hb1.size))).mono ?_
      rintro e w' ⟨v, rfl, hi, hb'⟩
      exact ⟨_, rfl, hb', hi⟩
  · exact fun A w1 hA hL hS he => goOn_plain rfl (stepG_mv rfl rfl (hA 1 rfl))
  · intro A w1 hA hL hS he
    have hb := hS rfl
    have h19 : A.eval (.tmp 19) = _ := he.1 rfl
    have hf0 : A.eval (.func 22) = .func (.func 22) #[] #[] := rfl
    refine goOn_plain rfl ?_
    refine stepG_call (f := 22) (args := #[v2]) rfl rfl ?_ ?_
    · generalize A.eval = ev at *
      go_simp
    · refine (m2.out _ (hb1.trans (hb.mono hb1.size))).mono ?_
      rintro e w' ⟨v, rfl, hi, hb'⟩
      exact ⟨_, rfl, hb', hi⟩
  · exact fun A w1 hA hL hS he => goOn_plain rfl (stepG_mv rfl rfl (hA 2 rfl))
  · intro A w1 hA hL hS he
    have h21 : A.eval (.tmp 21) = _ := he.1 rfl
    refine goOn_plain rfl (stepG_pure rfl rfl ?_)
    generalize A.eval = ev at *
    go_simp
  · intro A w1 hA hL hS he
    have hb := hS rfl
    have h22 : A.eval (.tmp 22) = _ := he.1 rfl
    have hf0 : A.eval (.func 47) = .func (.func 47) #[] #[] := rfl
    have hc0 : A.eval (.const (.int .i64 3)) = .int .i64 3 := rfl
    refine goOn_plain rfl ?_
    refine stepG_call (f := 47) (args := #[.int .i64 x, (.int .i64 3)]) rfl rfl ?_ ?_
    · generalize A.eval = ev at *
      go_simp
    · refine (hKm.out _).mono ?_
      rintro e w' ⟨v, rfl, hi, hb'⟩
      exact ⟨_, rfl, hb', hi⟩
  · intro A w1 hA hL hS he
    refine goOn_plain rfl ?_
    refine stepG_box rfl rfl ((Okr.none).lr hL) hL.1.size (by generalize A.eval = ev at *; go_simp) (fun _ _ h => h)
  intro w2 hL
  simp only [TailL, FactL.eq, FactL.poly, FactL.rat, FactL.box, FactL.ret, FactL.of, List.length_cons, List.length_nil, List.drop_succ_cons, List.drop_zero]
  rintro vp hp vq hq v23 h23 v10 ⟨bx, -, hBx, rfl, B10⟩
  obtain ⟨n5, a5, k5, e5, n6, a6, k6, e6, rfl⟩ := rat_agg h23
  go_frame
  have hb0 := hb1.trans (hL.below.mono hb1.size)
  have hbx : w.heap.size ≤ bx := by have := hb1.size; omega
  clear hL hb1 m1 m2 hKm hwx
  go_upto_region 3 with (refine wpList_store_blk rfl _ (.tmp 10) (.tmp 23) rfl _ _ _ _ rfl rfl B10 rfl sizeRat isRat_ones ?_; intro w3 R3 gr3)
  have hl3 : Lr (some bx) 34 w2 w3 := ⟨gr3, fun k hk => by cases hk; exact ⟨B10.noOther, R3.noOther⟩⟩
  replace hp := hp.lr hl3 (elTerm_ok (by decide)) (by decide)
  replace hq := hq.lr hl3 (elTerm_ok (by decide)) (by decide)
  have hk := h23.lr hl3 (by decide)
  replace hb0 := hb0.trans (hl3.belowAt hb0.size (fun k hk => by cases hk; exact hbx))
  have BK : Blk w3 bx 34 [.bool n5, .slice a5 k5 e5, .bool n6, .slice a6 k6 e6] := R3
  clear hl3 gr3 B10 R3 h23
  have PA := P.add Q (by decide +kernel)
  have PS := P.sub Q (by decide +kernel) (by decide +kernel)
  have PM := P.mul Q (by decide +kernel)
  have QM := Q.mul P (by decide +kernel)
  have PK := P.scaleG hKb (by decide +kernel)
  have e1 := mulP_comm P.v Q.v
  refine wp_region_L mixed (none) (0) (Okr.none) [.eq (vp), .eq (vq), .poly (by decide) (by decide) ((addP p q)), .eq (vp), .eq (vq), .poly (by decide) (by decide) ((subP p q)), .eq (vp), .eq (vq), .poly (by decide) (by decide) ((mulP p q)), .eq (vp), .eq (.agg #[.bool n5, .slice a5 k5 e5, .bool n6, .slice a6 k6 e6]), .poly (by decide) (by decide) ((scaleP p K))] [24, 25, 26, 27, 28, 29, 30, 31, 32, 33, 34, 35] rfl rfl rfl rfl ⟨?_, ?_, ?_, ?_, ?_, ?_, ?_, ?_, ?_, ?_, ?_, ?_, trivial⟩ ?_
  · exact fun A w1 hA hL hS he => goOn_plain rfl (stepG_mv rfl rfl (hA 8 rfl))
  · exact fun A w1 hA hL hS he => goOn_plain rfl (stepG_mv rfl rfl (hA 9 rfl))
  · intro A w1 hA hL hS he
    have hb := hS rfl
    have h24 : A.eval (.tmp 24) = _ := he.1 rfl
    have h25 : A.eval (.tmp 25) = _ := he.2.1 rfl
    have hf0 : A.eval (.func 25) = .func (.func 25) #[] #[] := rfl
    refine goOn_plain rfl ?_
    refine stepG_call (f := 25) (args := #[vp, vq]) rfl rfl ?_ ?_
    · generalize A.eval = ev at *
      go_simp
    · refine (addK P Q (hp.on hb) (hq.on hb)).mono ?_
      rintro e w' ⟨v, rfl, hi, hb'⟩
      exact ⟨_, rfl, hb', hi⟩
  · exact fun A w1 hA hL hS he => goOn_plain rfl (stepG_mv rfl rfl (hA 8 rfl))
  · exact fun A w1 hA hL hS he => goOn_plain rfl (stepG_mv rfl rfl (hA 9 rfl))
  · intro A w1 hA hL hS he
    have hb := hS rfl
    have h27 : A.eval (.tmp 27) = _ := he.1 rfl
    have h28 : A.eval (.tmp 28) = _ := he.2.1 rfl
    have hf0 : A.eval (.func 26) = .func (.func 26) #[] #[] := rfl
    refine goOn_plain rfl ?_
    refine stepG_call (f := 26) (args := #[vp, vq]) rfl rfl ?_ ?_
    · generalize A.eval = ev at *
      go_simp
    · refine (subK P Q (hp.on hb) (hq.on hb)).mono ?_
      rintro e w' ⟨v, rfl, hi, hb'⟩
      exact ⟨_, rfl, hb', hi⟩
  · exact fun A w1 hA hL hS he => goOn_plain rfl (stepG_mv rfl rfl (hA 8 rfl))
  · exact fun A w1 hA hL hS he => goOn_plain rfl (stepG_mv rfl rfl (hA 9 rfl))
  · intro A w1 hA hL hS he
    have hb := hS rfl
    have h30 : A.eval (.tmp 30) = _ := he.1 rfl
    have h31 : A.eval (.tmp 31) = _ := he.2.1 rfl
    have hf0 : A.eval (.func 23) = .func (.func 23) #[] #[] := rfl
    refine goOn_plain rfl ?_
    refine stepG_call (f := 23) (args := #[vp, vq]) rfl rfl ?_ ?_
    · generalize A.eval = ev at *
      go_simp
    · refine (mulK P Q PM.k (hp.on hb) (hq.on hb)).mono ?_
      rintro e w' ⟨v, rfl, hi, hb'⟩
      exact ⟨_, rfl, hb', hi⟩
  · exact fun A w1 hA hL hS he => goOn_plain rfl (stepG_mv rfl rfl (hA 8 rfl))
  · intro A w1 hA hL hS he
    have hb := hL.below
    have h10 : A.eval (.tmp 10) = .pointer (some ⟨bx, 0, none⟩) := hA 10 rfl
    have c0 := ((BK).on hb).at1 0 _ rfl
    have c1 := ((BK).on hb).at1 1 _ rfl
    have c2 := ((BK).on hb).at1 2 _ rfl
    have c3 := ((BK).on hb).at1 3 _ rfl
    refine goOn_plain rfl (stepG_pure rfl rfl ?_)
    generalize A.eval = ev at *
    go_simp
  · intro A w1 hA hL hS he
    have hb := hS rfl
    have h33 : A.eval (.tmp 33) = _ := he.1 rfl
    have h34 : A.eval (.tmp 34) = _ := he.2.1 rfl
    have hf0 : A.eval (.func 53) = .func (.func 53) #[] #[] := rfl
    refine goOn_plain rfl ?_
    refine stepG_call (f := 53) (args := #[vp, .agg #[.bool n5, .slice a5 k5 e5, .bool n6, .slice a6 k6 e6]]) rfl rfl ?_ ?_
    · generalize A.eval = ev at *
      go_simp
    · refine (scale_any _ _ p K _ (hp.on hb) (hk.on hb) hKs.rk P.rk P.len).mono ?_
      rintro e w' ⟨v, rfl, hi, hb'⟩
      exact ⟨_, rfl, hb', hi⟩
  intro w4 hL
  simp only [TailL, FactL.eq, FactL.poly, FactL.rat, FactL.ret, FactL.of, List.length_cons, List.length_nil, List.drop_succ_cons, List.drop_zero]
  rintro vs hs vd hd vu hu vm hm
  go_frame
  have hb := hL.below
  replace hp := hp.on hb
  replace hq := hq.on hb
  replace hk := hk.on hb
  replace BK := BK.on hb
  replace hb0 := hb0.trans (hb.mono hb0.size)
  clear hL hb
  have hvm : vldB (mulP p q) = true := vldB_vld.2 PM.v
  replace hvm := Lib.hid hvm
  go_upto_region 4 with (fail)
  refine wp_region_S trivial (none) (0) (Okr.none) [.eq (vs), .ret (.bool true), .eq (.bool true), .eq (vd), .ret (.bool true), .eq (.bool true), .eq (.bool true), .eq (vu), .ret (.bool true), .eq (.bool true), .eq (.bool true), .eq (vm), .ret (.bool true), .eq (.bool true), .eq (.bool true), .eq (vu), .ret (.bool true), .eq (.bool true)] [36, 37, 38, 39, 40, 41, 42, 43, 44, 45, 46, 47, 48, 49, 50, 51, 52, 53] rfl rfl rfl rfl ⟨?_, ?_, ?_, ?_, ?_, ?_, ?_, ?_, ?_, ?_, ?_, ?_, ?_, ?_, ?_, ?_, ?_, ?_, trivial⟩ ?_
  · exact fun A w1 hA hL hS he => goOn_plain rfl (stepG_mv rfl rfl (hA 11 rfl))
  · intro A w1 hA hL hS he
    have hb := hS rfl
    have h36 : A.eval (.tmp 36) = _ := he.1 rfl
    have hf0 : A.eval (.func 15) = .func (.func 15) #[] #[] := rfl
    refine goOn_plain rfl ?_
    refine stepG_call (f := 15) (args := #[vs]) rfl rfl ?_ ?_
    · generalize A.eval = ev at *
      go_simp
    · refine (valid7K PA (hs.on hb)).mono ?_
      rintro e w' ⟨rfl, hb'⟩
      exact ⟨_, rfl, hb', rfl⟩
  · exact fun A w1 hA hL hS he => goOn_plain rfl (stepG_mv rfl rfl (he.1 rfl))
  · exact fun A w1 hA hL hS he => goOn_yes rfl rfl (he.1 rfl) (stepG_mv rfl rfl (hA 12 rfl))
  · intro A w1 hA hL hS he
    have hb := hS rfl
    have h38 : A.eval (.tmp 38) = _ := he.2.1 rfl
    have h39 : A.eval (.tmp 39) = _ := he.1 rfl
    have hf0 : A.eval (.func 15) = .func (.func 15) #[] #[] := rfl
    refine goOn_yes rfl rfl h38 ?_
    refine stepG_call (f := 15) (args := #[vd]) rfl rfl ?_ ?_
    · generalize A.eval = ev at *
      go_simp
    · refine (valid7K PS (hd.on hb)).mono ?_
      rintro e w' ⟨rfl, hb'⟩
      exact ⟨_, rfl, hb', rfl⟩
  · exact fun A w1 hA hL hS he => goOn_plain rfl (stepG_pk rfl (he.1 rfl) rfl (he.2.1 rfl))
  · exact fun A w1 hA hL hS he => goOn_plain rfl (stepG_mv rfl rfl (he.1 rfl))
  · exact fun A w1 hA hL hS he => goOn_yes rfl rfl (he.1 rfl) (stepG_mv rfl rfl (hA 13 rfl))
  · intro A w1 hA hL hS he
    have hb := hS rfl
    have h42 : A.eval (.tmp 42) = _ := he.2.1 rfl
    have h43 : A.eval (.tmp 43) = _ := he.1 rfl
    have hf0 : A.eval (.func 15) = .func (.func 15) #[] #[] := rfl
    refine goOn_yes rfl rfl h42 ?_
    refine stepG_call (f := 15) (args := #[vu]) rfl rfl ?_ ?_
    · generalize A.eval = ev at *
      go_simp
    · refine (valid7K PM (hu.on hb)).mono ?_
      rintro e w' ⟨rfl, hb'⟩
      exact ⟨_, rfl, hb', rfl⟩
  · exact fun A w1 hA hL hS he => goOn_plain rfl (stepG_pk rfl (he.1 rfl) rfl (he.2.1 rfl))
  · exact fun A w1 hA hL hS he => goOn_plain rfl (stepG_mv rfl rfl (he.1 rfl))
  · exact fun A w1 hA hL hS he => goOn_yes rfl rfl (he.1 rfl) (stepG_mv rfl rfl (hA 14 rfl))
  · intro A w1 hA hL hS he
    have hb := hS rfl
    have h46 : A.eval (.tmp 46) = _ := he.2.1 rfl
    have h47 : A.eval (.tmp 47) = _ := he.1 rfl
    have hf0 : A.eval (.func 15) = .func (.func 15) #[] #[] := rfl
    refine goOn_yes rfl rfl h46 ?_
    refine stepG_call (f := 15) (args := #[vm]) rfl rfl ?_ ?_
    · generalize A.eval = ev at *
      go_simp
    · refine (valid7K PK (hm.on hb)).mono ?_
      rintro e w' ⟨rfl, hb'⟩
      exact ⟨_, rfl, hb', rfl⟩
  · exact fun A w1 hA hL hS he => goOn_plain rfl (stepG_pk rfl (he.1 rfl) rfl (he.2.1 rfl))
  · exact fun A w1 hA hL hS he => goOn_plain rfl (stepG_mv rfl rfl (he.1 rfl))
  · exact fun A w1 hA hL hS he => goOn_yes rfl rfl (he.1 rfl) (stepG_mv rfl rfl (hA 13 rfl))
  · intro A w1 hA hL hS he
    have hb := hS rfl
    have h50 : A.eval (.tmp 50) = _ := he.2.1 rfl
    have h51 : A.eval (.tmp 51) = _ := he.1 rfl
    have hf0 : A.eval (.func 16) = .func (.func 16) #[] #[] := rfl
    refine goOn_yes rfl rfl h50 ?_
    refine stepG_call (f := 16) (args := #[vu]) rfl rfl ?_ ?_
    · generalize A.eval = ev at *
      go_simp
    · refine (hvm.out ▸ validm_any _ _ _ (hu.on hb) PM.rk PM.len).mono ?_
      rintro e w' ⟨rfl, hb'⟩
      exact ⟨_, rfl, hb', rfl⟩
  · exact fun A w1 hA hL hS he => goOn_plain rfl (stepG_pk rfl (he.1 rfl) rfl (he.2.1 rfl))
  intro w5 hL
  simp only [TailL, FactL.eq, FactL.poly, FactL.rat, FactL.ret, FactL.of, List.length_cons, List.length_nil, List.drop_succ_cons, List.drop_zero]
  go_frame
  have hb := hL.below
  replace hp := hp.on hb
  replace hq := hq.on hb
  replace hk := hk.on hb
  replace hs := hs.on hb
  replace hd := hd.on hb
  replace hu := hu.on hb
  replace hm := hm.on hb
  replace BK := BK.on hb
  replace hb0 := hb0.trans (hb.mono hb0.size)
  clear hL hb hvm
  have q1 := fun W (hb : Below w5.heap.size w5 W) => equalK P Q (hp.on hb) (hq.on hb)
  have q2 := fun W (hb : Below w5.heap.size w5 W) => same7_any _ _ p q _ (hp.on hb) (hq.on hb) P.rk Q.rk P.len
  generalize decide (p = q) = g at *
  have q3 := fun W u (hb : Below w5.heap.size w5 W) (h : IsPoly W u (mulP q p)) => (decide_eq_true e1) ▸ equalK PM QM (hu.on hb) h
  replace q1 := Lib.hid q1
  replace q2 := Lib.hid q2
  replace q3 := Lib.hid q3
  replace e1 := Lib.hid e1
  go_upto_region 5 with (fail)
  refine wp_region_S trivial (none) (0) (Okr.none) [.eq (.bool true), .eq (.bool true), .eq (vs), .eq (vp), .eq (vq), .poly (by decide) (by decide) ((addP p q)), .ret (.bool true), .eq (.bool true), .eq (.bool true), .eq (vd), .eq (vp), .eq (vq), .poly (by decide) (by decide) ((subP p q)), .ret (.bool true), .eq (.bool true), .eq (.bool true), .eq (vu), .eq (vp), .eq (vq), .poly (by decide) (by decide) ((mulP p q)), .ret (.bool true), .eq (.bool true), .eq (.bool true), .eq (vm), .eq (vp), .eq (.agg #[.bool n5, .slice a5 k5 e5, .bool n6, .slice a6 k6 e6]), .poly (by decide) (by decide) ((scaleP p K)), .ret (.bool true), .eq (.bool true), .eq (.bool true), .eq (vp), .eq (vq), .ret (.bool g), .eq (vp), .eq (vq), .ret (.bool g), .eq (.bool true), .eq (.bool true), .eq (.bool true), .eq (vu), .eq (vq), .eq (vp), .poly (by decide) (by decide) ((mulP q p)), .ret (.bool true), .eq (.bool true), .eq (.bool true), .eq (.bool true), .eq (.bool true)] [54, 55, 56, 57, 58, 59, 60, 61, 62, 63, 64, 65, 66, 67, 68, 69, 70, 71, 72, 73, 74, 75, 76, 77, 78, 79, 80, 81, 82, 83, 84, 85, 86, 87, 88, 89, 90, 91, 92, 93, 94, 95, 96, 97, 98, 99, 100, 101] rfl rfl rfl rfl ⟨?_, ?_, ?_, ?_, ?_, ?_, ?_, ?_, ?_, ?_, ?_, ?_, ?_, ?_, ?_, ?_, ?_, ?_, ?_, ?_, ?_, ?_, ?_, ?_, ?_, ?_, ?_, ?_, ?_, ?_, ?_, ?_, ?_, ?_, ?_, ?_, ?_, ?_, ?_, ?_, ?_, ?_, ?_, ?_, ?_, ?_, ?_, ?_, trivial⟩ ?_
  · exact fun A w1 hA hL hS he => goOn_plain rfl (stepG_mv rfl rfl (hA 15 rfl))
  · exact fun A w1 hA hL hS he => goOn_plain rfl (stepG_mv rfl rfl (he.1 rfl))
  · exact fun A w1 hA hL hS he => goOn_yes rfl rfl (he.1 rfl) (stepG_mv rfl rfl (hA 11 rfl))
  · exact fun A w1 hA hL hS he => goOn_yes rfl rfl (he.1 rfl) (stepG_mv rfl rfl (hA 8 rfl))
  · exact fun A w1 hA hL hS he => goOn_yes rfl rfl (he.1 rfl) (stepG_mv rfl rfl (hA 9 rfl))
  · intro A w1 hA hL hS he
    have hb := hS rfl
    have h55 : A.eval (.tmp 55) = _ := he.2.2.1 rfl
    have h57 : A.eval (.tmp 57) = _ := he.1 rfl
    have h58 : A.eval (.tmp 58) = _ := he.2.1 rfl
    have hf0 : A.eval (.func 36) = .func (.func 36) #[] #[] := rfl
    refine goOn_yes rfl rfl h55 ?_
    refine stepG_call (f := 36) (args := #[vp, vq]) rfl rfl ?_ ?_
    · generalize A.eval = ev at *
      go_simp
    · refine (add7K P Q (hp.on hb) (hq.on hb)).mono ?_
      rintro e w' ⟨v, rfl, hi, hb'⟩
      exact ⟨_, rfl, hb', hi⟩
  · intro A w1 hA hL hS he
    have hb := hS rfl
    have h55 : A.eval (.tmp 55) = _ := he.2.2.2.1 rfl
    have h56 : A.eval (.tmp 56) = _ := he.1 rfl
    have f59 : ((.poly (by decide) (by decide) ((addP p q)) : FactL (Lr (none) (0)))).p (A.eval (.tmp 59)) w1 := he.2.1 rfl
    obtain ⟨v59, h59⟩ : ∃ v, A.eval (.tmp 59) = v := ⟨_, rfl⟩
    rw [h59] at f59
    have hf0 : A.eval (.func 17) = .func (.func 17) #[] #[] := rfl
    refine goOn_yes rfl rfl h55 ?_
    refine stepG_call (f := 17) (args := #[vs, v59]) rfl rfl ?_ ?_
    · generalize A.eval = ev at *
      go_simp
    · refine (sameK PA PA rfl (hs.on hb) f59).mono ?_
      rintro e w' ⟨rfl, hb'⟩
      exact ⟨_, rfl, hb', rfl⟩
  · exact fun A w1 hA hL hS he => goOn_plain rfl (stepG_pk rfl (he.1 rfl) rfl (he.2.1 rfl))
  · exact fun A w1 hA hL hS he => goOn_plain rfl (stepG_mv rfl rfl (he.1 rfl))
  · exact fun A w1 hA hL hS he => goOn_yes rfl rfl (he.1 rfl) (stepG_mv rfl rfl (hA 12 rfl))
  · exact fun A w1 hA hL hS he => goOn_yes rfl rfl (he.1 rfl) (stepG_mv rfl rfl (hA 8 rfl))
  · exact fun A w1 hA hL hS he => goOn_yes rfl rfl (he.1 rfl) (stepG_mv rfl rfl (hA 9 rfl))
  · intro A w1 hA hL hS he
    have hb := hS rfl
    have h62 : A.eval (.tmp 62) = _ := he.2.2.1 rfl
    have h64 : A.eval (.tmp 64) = _ := he.1 rfl
    have h65 : A.eval (.tmp 65) = _ := he.2.1 rfl
    have hf0 : A.eval (.func 44) = .func (.func 44) #[] #[] := rfl
    refine goOn_yes rfl rfl h62 ?_
    refine stepG_call (f := 44) (args := #[vp, vq]) rfl rfl ?_ ?_
    · generalize A.eval = ev at *
      go_simp
    · refine (sub7K P Q (by decide +kernel) (hp.on hb) (hq.on hb)).mono ?_
      rintro e w' ⟨v, rfl, hi, hb'⟩
      exact ⟨_, rfl, hb', hi⟩
  · intro A w1 hA hL hS he
    have hb := hS rfl
    have h62 : A.eval (.tmp 62) = _ := he.2.2.2.1 rfl
    have h63 : A.eval (.tmp 63) = _ := he.1 rfl
    have f66 : ((.poly (by decide) (by decide) ((subP p q)) : FactL (Lr (none) (0)))).p (A.eval (.tmp 66)) w1 := he.2.1 rfl
    obtain ⟨v66, h66⟩ : ∃ v, A.eval (.tmp 66) = v := ⟨_, rfl⟩
    rw [h66] at f66
    have hf0 : A.eval (.func 17) = .func (.func 17) #[] #[] := rfl
    refine goOn_yes rfl rfl h62 ?_
    refine stepG_call (f := 17) (args := #[vd, v66]) rfl rfl ?_ ?_
    · generalize A.eval = ev at *
      go_simp
    · refine (sameK PS PS rfl (hd.on hb) f66).mono ?_
      rintro e w' ⟨rfl, hb'⟩
      exact ⟨_, rfl, hb', rfl⟩
  · exact fun A w1 hA hL hS he => goOn_plain rfl (stepG_pk rfl (he.1 rfl) rfl (he.2.1 rfl))
  · exact fun A w1 hA hL hS he => goOn_plain rfl (stepG_mv rfl rfl (he.1 rfl))
  · exact fun A w1 hA hL hS he => goOn_yes rfl rfl (he.1 rfl) (stepG_mv rfl rfl (hA 13 rfl))
  · exact fun A w1 hA hL hS he => goOn_yes rfl rfl (he.1 rfl) (stepG_mv rfl rfl (hA 8 rfl))
  · exact fun A w1 hA hL hS he => goOn_yes rfl rfl (he.1 rfl) (stepG_mv rfl rfl (hA 9 rfl))
  · intro A w1 hA hL hS he
    have hb := hS rfl
    have h69 : A.eval (.tmp 69) = _ := he.2.2.1 rfl
    have h71 : A.eval (.tmp 71) = _ := he.1 rfl
    have h72 : A.eval (.tmp 72) = _ := he.2.1 rfl
    have hf0 : A.eval (.func 30) = .func (.func 30) #[] #[] := rfl
    refine goOn_yes rfl rfl h69 ?_
    refine stepG_call (f := 30) (args := #[vp, vq]) rfl rfl ?_ ?_
    · generalize A.eval = ev at *
      go_simp
    · refine (mul7K P Q PM.k (hp.on hb) (hq.on hb)).mono ?_
      rintro e w' ⟨v, rfl, hi, hb'⟩
      exact ⟨_, rfl, hb', hi⟩
  · intro A w1 hA hL hS he
    have hb := hS rfl
    have h69 : A.eval (.tmp 69) = _ := he.2.2.2.1 rfl
    have h70 : A.eval (.tmp 70) = _ := he.1 rfl
    have f73 : ((.poly (by decide) (by decide) ((mulP p q)) : FactL (Lr (none) (0)))).p (A.eval (.tmp 73)) w1 := he.2.1 rfl
    obtain ⟨v73, h73⟩ : ∃ v, A.eval (.tmp 73) = v := ⟨_, rfl⟩
    rw [h73] at f73
    have hf0 : A.eval (.func 17) = .func (.func 17) #[] #[] := rfl
    refine goOn_yes rfl rfl h69 ?_
    refine stepG_call (f := 17) (args := #[vu, v73]) rfl rfl ?_ ?_
    · generalize A.eval = ev at *
      go_simp
    · refine (sameK PM PM rfl (hu.on hb) f73).mono ?_
      rintro e w' ⟨rfl, hb'⟩
      exact ⟨_, rfl, hb', rfl⟩
  · exact fun A w1 hA hL hS he => goOn_plain rfl (stepG_pk rfl (he.1 rfl) rfl (he.2.1 rfl))
  · exact fun A w1 hA hL hS he => goOn_plain rfl (stepG_mv rfl rfl (he.1 rfl))
  · exact fun A w1 hA hL hS he => goOn_yes rfl rfl (he.1 rfl) (stepG_mv rfl rfl (hA 14 rfl))
  · exact fun A w1 hA hL hS he => goOn_yes rfl rfl (he.1 rfl) (stepG_mv rfl rfl (hA 8 rfl))
  · intro A w1 hA hL hS he
    have hb := hL.below
    have h76 : A.eval (.tmp 76) = _ := he.1 rfl
    have h10 : A.eval (.tmp 10) = .pointer (some ⟨bx, 0, none⟩) := hA 10 rfl
    have c0 := ((BK).on hb).at1 0 _ rfl
    have c1 := ((BK).on hb).at1 1 _ rfl
    have c2 := ((BK).on hb).at1 2 _ rfl
    have c3 := ((BK).on hb).at1 3 _ rfl
    refine goOn_yes rfl rfl h76 ?_
    refine stepG_pure rfl rfl ?_
    generalize A.eval = ev at *
    go_simp
  · intro A w1 hA hL hS he
    have hb := hS rfl
    have h76 : A.eval (.tmp 76) = _ := he.2.2.1 rfl
    have h78 : A.eval (.tmp 78) = _ := he.1 rfl
    have h79 : A.eval (.tmp 79) = _ := he.2.1 rfl
    have hf0 : A.eval (.func 48) = .func (.func 48) #[] #[] := rfl
    refine goOn_yes rfl rfl h76 ?_
    refine stepG_call (f := 48) (args := #[vp, .agg #[.bool n5, .slice a5 k5 e5, .bool n6, .slice a6 k6 e6]]) rfl rfl ?_ ?_
    · generalize A.eval = ev at *
      go_simp
    · refine (scaleK P hKs (hp.on hb) (hk.on hb)).mono ?_
      rintro e w' ⟨v, rfl, hi, hb'⟩
      exact ⟨_, rfl, hb', hi⟩
  · intro A w1 hA hL hS he
    have hb := hS rfl
    have h76 : A.eval (.tmp 76) = _ := he.2.2.2.1 rfl
    have h77 : A.eval (.tmp 77) = _ := he.1 rfl
    have f80 : ((.poly (by decide) (by decide) ((scaleP p K)) : FactL (Lr (none) (0)))).p (A.eval (.tmp 80)) w1 := he.2.1 rfl
    obtain ⟨v80, h80⟩ : ∃ v, A.eval (.tmp 80) = v := ⟨_, rfl⟩
    rw [h80] at f80
    have hf0 : A.eval (.func 17) = .func (.func 17) #[] #[] := rfl
    refine goOn_yes rfl rfl h76 ?_
    refine stepG_call (f := 17) (args := #[vm, v80]) rfl rfl ?_ ?_
    · generalize A.eval = ev at *
      go_simp
    · refine (sameK PK PK rfl (hm.on hb) f80).mono ?_
      rintro e w' ⟨rfl, hb'⟩
      exact ⟨_, rfl, hb', rfl⟩
  · exact fun A w1 hA hL hS he => goOn_plain rfl (stepG_pk rfl (he.1 rfl) rfl (he.2.1 rfl))
  · exact fun A w1 hA hL hS he => goOn_plain rfl (stepG_mv rfl rfl (he.1 rfl))
  · exact fun A w1 hA hL hS he => goOn_yes rfl rfl (he.1 rfl) (stepG_mv rfl rfl (hA 8 rfl))
  · exact fun A w1 hA hL hS he => goOn_yes rfl rfl (he.1 rfl) (stepG_mv rfl rfl (hA 9 rfl))
  · intro A w1 hA hL hS he
    have hb := hS rfl
    have h83 : A.eval (.tmp 83) = _ := he.2.2.1 rfl
    have h84 : A.eval (.tmp 84) = _ := he.1 rfl
    have h85 : A.eval (.tmp 85) = _ := he.2.1 rfl
    have hf0 : A.eval (.func 54) = .func (.func 54) #[] #[] := rfl
    refine goOn_yes rfl rfl h83 ?_
    refine stepG_call (f := 54) (args := #[vp, vq]) rfl rfl ?_ ?_
    · generalize A.eval = ev at *
      go_simp
    · refine (q1.out _ hb).mono ?_
      rintro e w' ⟨rfl, hb'⟩
      exact ⟨_, rfl, hb', rfl⟩
  · exact fun A w1 hA hL hS he => goOn_yes rfl rfl (he.1 rfl) (stepG_mv rfl rfl (hA 8 rfl))
  · exact fun A w1 hA hL hS he => goOn_yes rfl rfl (he.1 rfl) (stepG_mv rfl rfl (hA 9 rfl))
  · intro A w1 hA hL hS he
    have hb := hS rfl
    have h83 : A.eval (.tmp 83) = _ := he.2.2.2.1 rfl
    have h87 : A.eval (.tmp 87) = _ := he.1 rfl
    have h88 : A.eval (.tmp 88) = _ := he.2.1 rfl
    have hf0 : A.eval (.func 17) = .func (.func 17) #[] #[] := rfl
    refine goOn_yes rfl rfl h83 ?_
    refine stepG_call (f := 17) (args := #[vp, vq]) rfl rfl ?_ ?_
    · generalize A.eval = ev at *
      go_simp
    · refine (q2.out _ hb).mono ?_
      rintro e w' ⟨rfl, hb'⟩
      exact ⟨_, rfl, hb', rfl⟩
  · intro A w1 hA hL hS he
    have h83 : A.eval (.tmp 83) = _ := he.2.2.1 rfl
    have h86 : A.eval (.tmp 86) = _ := he.1 rfl
    have h89 : A.eval (.tmp 89) = _ := he.2.1 rfl
    refine goOn_yes rfl rfl h83 ?_
    refine stepG_pure rfl rfl ?_
    generalize A.eval = ev at *
    go_simp
  · exact fun A w1 hA hL hS he => goOn_plain rfl (stepG_pk rfl (he.1 rfl) rfl (he.2.1 rfl))
  · exact fun A w1 hA hL hS he => goOn_plain rfl (stepG_mv rfl rfl (he.1 rfl))
  · exact fun A w1 hA hL hS he => goOn_yes rfl rfl (he.1 rfl) (stepG_mv rfl rfl (hA 13 rfl))
  · exact fun A w1 hA hL hS he => goOn_yes rfl rfl (he.1 rfl) (stepG_mv rfl rfl (hA 9 rfl))
  · exact fun A w1 hA hL hS he => goOn_yes rfl rfl (he.1 rfl) (stepG_mv rfl rfl (hA 8 rfl))
  · intro A w1 hA hL hS he
    have hb := hS rfl
    have h92 : A.eval (.tmp 92) = _ := he.2.2.1 rfl
    have h94 : A.eval (.tmp 94) = _ := he.1 rfl
    have h95 : A.eval (.tmp 95) = _ := he.2.1 rfl
    have hf0 : A.eval (.func 23) = .func (.func 23) #[] #[] := rfl
    refine goOn_yes rfl rfl h92 ?_
    refine stepG_call (f := 23) (args := #[vq, vp]) rfl rfl ?_ ?_
    · generalize A.eval = ev at *
      go_simp
    · refine (mulK Q P QM.k (hq.on hb) (hp.on hb)).mono ?_
      rintro e w' ⟨v, rfl, hi, hb'⟩
      exact ⟨_, rfl, hb', hi⟩
  · intro A w1 hA hL hS he
    have hb := hS rfl
    have h92 : A.eval (.tmp 92) = _ := he.2.2.2.1 rfl
    have h93 : A.eval (.tmp 93) = _ := he.1 rfl
    have f96 : ((.poly (by decide) (by decide) ((mulP q p)) : FactL (Lr (none) (0)))).p (A.eval (.tmp 96)) w1 := he.2.1 rfl
    obtain ⟨v96, h96⟩ : ∃ v, A.eval (.tmp 96) = v := ⟨_, rfl⟩
    rw [h96] at f96
    have hf0 : A.eval (.func 54) = .func (.func 54) #[] #[] := rfl
    refine goOn_yes rfl rfl h92 ?_
    refine stepG_call (f := 54) (args := #[vu, v96]) rfl rfl ?_ ?_
    · generalize A.eval = ev at *
      go_simp
    · refine (q3.out _ _ hb f96).mono ?_
      rintro e w' ⟨rfl, hb'⟩
      exact ⟨_, rfl, hb', rfl⟩
  · exact fun A w1 hA hL hS he => goOn_plain rfl (stepG_pk rfl (he.1 rfl) rfl (he.2.1 rfl))
  · exact fun A w1 hA hL hS he => goOn_plain rfl (stepG_mv rfl rfl (he.1 rfl))
  · exact fun A w1 hA hL hS he => goOn_yes rfl rfl (he.1 rfl) (stepG_mv rfl rfl (hA 7 rfl))
  · exact fun A w1 hA hL hS he => goOn_plain rfl (stepG_pk rfl (he.1 rfl) rfl (he.2.1 rfl))
  intro w6 hL
  simp only [TailL, FactL.eq, FactL.poly, FactL.rat, FactL.ret, FactL.of, List.length_cons, List.length_nil, List.drop_succ_cons, List.drop_zero]
  rintro _ - _ - _ - _ - _ -
  go_frame
  replace hb0 := hb0.trans (hL.below.mono hb0.size)
  clear hL
  go_wp2
  go_ret
  exact ⟨rfl, hb0⟩
end Go.Proofs.YtplfdeohokkebaaGreat
