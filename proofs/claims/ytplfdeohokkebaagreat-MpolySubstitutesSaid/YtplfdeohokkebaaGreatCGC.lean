/- law07.MpolySubstitutes: the walk. -/
import Derived.Test.YtplfdeohokkebaaGreatCE6
import Derived.Test.YtplfdeohokkebaaGreatCF9
import Derived.Test.YtplfdeohokkebaaGreatCH2
set_option linter.unusedVariables false
set_option linter.unusedSimpArgs false
namespace Q
open Go Go.Proofs.YtplfdeohokkebaaGreat
theorem quot_bd {x : Int} {d B : Nat} (hd : 0 < d) (hx : x.natAbs ≤ B) : Bd ⟨d, B, 0, 1⟩ [(e0, Rat.divInt x d)] := by
 have hd0 : ((d : Int) : Rat) ≠ 0 := by rw [Rat.intCast_natCast]; intro h; have := Rat.natCast_inj.1 (show ((d : Nat) : Rat) = ((0 : Nat) : Rat) from h); omega
 have hm : Rat.divInt x d * ((d : Nat) : Rat) = (x : Rat) := by
  rw [Rat.divInt_eq_div, ← Rat.intCast_natCast]; exact Rat.div_mul_cancel hd0
 refine ⟨by simp, fun t ht => ?_, fun t ht => ?_, ?_⟩
 ·rw [List.mem_singleton.1 ht]; simp [e0]
 ·rw [List.mem_singleton.1 ht]; exact ⟨x, hm⟩
 ·simp only [asum]
  have h1 : rabs (Rat.divInt x d) * rabs ((d : Nat) : Rat) = rabs (x : Rat) := by rw [← rabs_mul, hm]
  rw [rabs_of_pos (c := ((d : Nat) : Rat)) Rat.natCast_nonneg, rabs_int] at h1
  have h2 := rabs_nonneg (Rat.divInt x d)
  have h3 : rabs (Rat.divInt x d) * 1 ≤ rabs (Rat.divInt x d) * ((d : Nat) : Rat) := Rat.mul_le_mul_of_nonneg_left (by
   rw [show (1 : Rat) = ((1 : Nat) : Rat) from rfl]; exact Rat.natCast_le_natCast.2 hd) h2
  have h4 : ((x.natAbs : Nat) : Rat) ≤ ((B : Nat) : Rat) := Rat.natCast_le_natCast.2 hx
  show rabs (Rat.divInt x d) + 0 ≤ ((B : Nat) : Rat)
  grind
structure Num (d b : Nat) (c : Rat) : Prop where
 d : Dv d c
 b : rabs c ≤ ((b : Nat) : Rat)
theorem num_of {x : Int} {d B : Nat} (hd : 0 < d) (hx : x.natAbs ≤ B) : Num d B (Rat.divInt x d) := by
 have h := quot_bd hd hx
 refine ⟨h.d _ (List.mem_singleton.2 rfl), ?_⟩
 have := h.b
 simp only [asum] at this
 grind
theorem num_int {x : Int} {B : Nat} (hx : x.natAbs ≤ B) : Num 1 B (x : Rat) := ⟨Dv.int 1 x, by rw [rabs_int]; exact Rat.natCast_le_natCast.2 hx⟩
theorem Num.dvd {d d' b : Nat} {c : Rat} (h : Num d b c) (hd : d ∣ d') : Num d' b c := ⟨h.d.dvd hd, h.b⟩
theorem Num.bd {d b : Nat} {c : Rat} (h : Num d b c) : Bd ⟨d, b, 0, 1⟩ [(e0, c)] := by
 refine ⟨by simp, fun t ht => ?_, fun t ht => ?_, ?_⟩
 ·rw [List.mem_singleton.1 ht]; simp [e0]
 ·rw [List.mem_singleton.1 ht]; exact h.d
 ·simp only [asum]; have := h.b; show rabs c + 0 ≤ ((b : Nat) : Rat); grind
theorem Num.pk {d b : Nat} {c : Rat} (h : Num d b c) (k : (⟨d, b, 0, 1⟩ : Sz).ok) : Pk ⟨d, b, 0, 1⟩ (constP c) := by
 refine ⟨Vld.const c, ?_, k⟩
 unfold constP
 split
 ·exact Bd.nil _
 ·exact h.bd
theorem Pk.scaleN {s : Sz} {d b : Nat} {p : List Trm} (h : Pk s p) {c : Rat} (hc : Num d b c) (k : (s.mul ⟨d, b, 0, 1⟩).ok) : Pk (s.mul ⟨d, b, 0, 1⟩) (scaleP p c) := by
 refine ⟨h.v.scale c, ?_, k⟩
 rw [← timesP_scale]
 by_cases hz : c = 0
 ·rw [timesP, if_pos hz]; exact Bd.nil _
 ·rw [timesP_prods hz]; exact h.b.prods hc.bd
theorem Pk.clen {s : Sz} {p : List Trm} (h : Pk s p) (v : Nat) : (coeffsP p v).length ≤ s.E + 1 := by
 have := (h.deg v).2; have := h.deg v; rw [coeffsP_length]; omega
end Q
namespace Go.Proofs.YtplfdeohokkebaaGreat
open Go.RowKit Q Go.WideMaps Go.Maps
theorem u8_wrap (x : Int) : ∃ X, IntKind.u8.wrap x = X ∧ 0 ≤ X ∧ X < 256 := by
 refine ⟨_, rfl, ?_⟩
 simp only [IntKind.wrap, IntKind.signed, IntKind.bits]
 constructor
 ·first | exact Int.emod_nonneg _ (by decide) | (simp; omega)
 ·first | exact Int.emod_lt_of_pos _ (by decide) | (simp; omega)
theorem subst_ok1 : hornB 63 2 7 3 = true := by decide +kernel
theorem subst_ok2 : hornB 36 2 4 3 = true := by decide +kernel
theorem subst_ok3 : hornB 27 2 3 3 = true := by decide +kernel
theorem subst_ok4 : hornB 972 4 12 5 = true := by decide +kernel
set_option maxHeartbeats 32000000 in
set_option maxRecDepth 100000 in
theorem substitutes_any (v1 v2 : Value) (x y z u : Int) (L1 L2 : List Drw) (w : World) (h1 : IsDraw w v1 L1) (h2 : IsDraw w v2 L2) (x0 : -128 ≤ x ∧ x < 128) (y0 : -128 ≤ y ∧ y < 128) (z0 : -128 ≤ z ∧ z < 128) (u0 : -128 ≤ u ∧ u < 128) :
  Calls Tryz.prog 9 #[v1, v2, .agg #[.int .i8 x, .int .i8 y, .int .i8 z, .int .i8 u]] w (Ret w (.bool true)) := by
 have P : Pk ⟨1, 36, 2, 4⟩ (madeP L1 4 3) := made_pk (n := 4) (vs := 3) L1 (by decide)
 have Q : Pk ⟨1, 27, 2, 3⟩ (madeP L2 3 3) := made_pk (n := 3) (vs := 3) L2 (by decide)
 have m1 := Lib.hid (fun W (hb : Below w.heap.size w W) => made_draw_any v1 L1 4 3 W (h1.on hb) (by decide) (by decide))
 have m2 := Lib.hid (fun W (hb : Below w.heap.size w W) => made_draw_any v2 L2 3 3 W (h2.on hb) (by decide) (by decide))
 generalize madeP L1 4 3 = p at *
 generalize madeP L2 3 3 = q at *
 obtain ⟨X, hX, X0, X1⟩ := u8_wrap x
 obtain ⟨Y, hY, Y0, Y1⟩ := u8_wrap y
 obtain ⟨a, ha, ha4⟩ := mod4 X0
 obtain ⟨b, hbm, hb4⟩ := mod4 Y0
 have c1 := Lib.hid (fun W => variable_any X a W X0 X1 ha)
 have c2 := Lib.hid (fun W => variable_any Y b W Y0 Y1 hbm)
 have hwz : IntKind.i64.wrap z = z := wrap_id (by omega)
 have hwu : IntKind.i64.wrap u = u := wrap_id (by omega)
 obtain ⟨m, hm, hm9⟩ : ∃ m : Int, z.tmod 10 = m ∧ m.natAbs ≤ 9 := ⟨_, rfl, by rw [Int.natAbs_tmod]; have := Nat.mod_lt z.natAbs (show (10 : Int).natAbs > 0 by decide); have : (10 : Int).natAbs = 10 := rfl; omega⟩
 obtain ⟨n, hn, hn9⟩ : ∃ n : Int, u.tmod 10 = n ∧ n.natAbs ≤ 9 := ⟨_, rfl, by rw [Int.natAbs_tmod]; have := Nat.mod_lt u.natAbs (show (10 : Int).natAbs > 0 by decide); have : (10 : Int).natAbs = 10 := rfl; omega⟩
 have hC := Lib.hid (num_of (x := m) (d := 2) (B := 9) (by decide) hm9)
 have hD := Lib.hid (num_int (x := n) (B := 9) hn9)
 have k1 := Lib.hid (fun W => made2_any m 2 W (by omega) (by decide))
 have k2 := Lib.hid (fun W => whole2_any n W (by omega) (by omega))
 clear h1 h2 ha hbm X0 X1 Y0 Y1 x0 y0 z0 u0 hm9 hn9
 go_enter Tryz.func9, Tryz.ntmps9
 go_upto_region 1 with (fail)
 refine abs1 fun W0 hbw0 B hsz => ?_
 go_upto_region 2 with (go_at_call 12; refine (sanity_any _).mono ?_; rintro e w1 ⟨rfl, hb1⟩)
 have hb0 := hbw0.trans (hb1.mono hbw0.size)
 have B1 := B.on hb1
 refine wp_region_L mixed (none) (0) (Okr.none) [.eq (v1), .poly (by decide) (by decide) (p), .eq (v2), .poly (by decide) (by decide) (q), .eq (.pointer (some ⟨w.heap.size, 0, none⟩)), .eq (.int .i8 x), .eq (.int .u8 X), .ret (.int .i64 (a : Int)), .eq (.pointer (some ⟨w.heap.size, 1, none⟩)), .eq (.int .i8 y), .eq (.int .u8 Y), .ret (.int .i64 (b : Int))] [20, 21, 22, 23, 24, 25, 26, 27, 28, 29, 30, 31] rfl rfl rfl rfl ⟨?_, ?_, ?_, ?_, ?_, ?_, ?_, ?_, ?_, ?_, ?_, ?_, trivial⟩ ?_
 ·exact fun A w1 hA hL hS he => goOn_plain rfl (stepG_mv rfl rfl (hA 0 rfl))
 ·intro A w1 hA hL hS he
  have hb := hS rfl
  have h20 : A.eval (.tmp 20) = _ := he.1 rfl
  have hf0 : A.eval (.func 28) = .func (.func 28) #[] #[] := rfl
  have hc0 : A.eval (.const (.int .i64 4)) = .int .i64 4 := rfl
  have hc1 : A.eval (.const (.int .i64 3)) = .int .i64 3 := rfl
  refine goOn_plain rfl ?_
  refine stepG_call (f := 28) (args := #[v1, (.int .i64 4), (.int .i64 3)]) rfl rfl ?_ ?_
  ·generalize A.eval = ev at *
   go_simp
  ·refine (m1.out _ (hb0.trans (hb.mono hb0.size))).mono ?_
   rintro e w' ⟨v, rfl, hi, hb'⟩
   exact ⟨_, rfl, hb', hi⟩
 ·exact fun A w1 hA hL hS he => goOn_plain rfl (stepG_mv rfl rfl (hA 1 rfl))
 ·intro A w1 hA hL hS he
  have hb := hS rfl
  have h22 : A.eval (.tmp 22) = _ := he.1 rfl
  have hf0 : A.eval (.func 28) = .func (.func 28) #[] #[] := rfl
  have hc0 : A.eval (.const (.int .i64 3)) = .int .i64 3 := rfl
  refine goOn_plain rfl ?_
  refine stepG_call (f := 28) (args := #[v2, (.int .i64 3), (.int .i64 3)]) rfl rfl ?_ ?_
  ·generalize A.eval = ev at *
   go_simp
  ·refine (m2.out _ (hb0.trans (hb.mono hb0.size))).mono ?_
   rintro e w' ⟨v, rfl, hi, hb'⟩
   exact ⟨_, rfl, hb', hi⟩
 ·intro A w1 hA hL hS he
  have h5 : A.eval (.tmp 5) = .pointer (some ⟨w.heap.size, 0, none⟩) := hA 5 rfl
  have hc0 : A.eval (.const (.int .i64 0)) = .int .i64 0 := rfl
  refine goOn_plain rfl (stepG_pure rfl rfl ?_)
  generalize A.eval = ev at *
  go_simp
 ·intro A w1 hA hL hS he
  have hb := hL.below
  have h24 : A.eval (.tmp 24) = _ := he.1 rfl
  have c0 := ((B1).on hb).at1 0 _ rfl
  refine goOn_plain rfl (stepG_pure rfl rfl ?_)
  generalize A.eval = ev at *
  go_simp
 ·intro A w1 hA hL hS he
  have h25 : A.eval (.tmp 25) = _ := he.1 rfl
  refine goOn_plain rfl (stepG_pure rfl rfl ?_)
  generalize A.eval = ev at *
  go_simp
 ·intro A w1 hA hL hS he
  have hb := hS rfl
  have h26 : A.eval (.tmp 26) = _ := he.1 rfl
  have hf0 : A.eval (.func 32) = .func (.func 32) #[] #[] := rfl
  refine goOn_plain rfl ?_
  refine stepG_call (f := 32) (args := #[.int .u8 X]) rfl rfl ?_ ?_
  ·generalize A.eval = ev at *
   go_simp
  ·refine (c1.out _).mono ?_
   rintro e w' ⟨rfl, hb'⟩
   exact ⟨_, rfl, hb', rfl⟩
 ·intro A w1 hA hL hS he
  have h5 : A.eval (.tmp 5) = .pointer (some ⟨w.heap.size, 0, none⟩) := hA 5 rfl
  have hc0 : A.eval (.const (.int .i64 1)) = .int .i64 1 := rfl
  refine goOn_plain rfl (stepG_pure rfl rfl ?_)
  generalize A.eval = ev at *
  go_simp
 ·intro A w1 hA hL hS he
  have hb := hL.below
  have h28 : A.eval (.tmp 28) = _ := he.1 rfl
  have c0 := ((B1).on hb).at1 1 _ rfl
  refine goOn_plain rfl (stepG_pure rfl rfl ?_)
  generalize A.eval = ev at *
  go_simp
 ·intro A w1 hA hL hS he
  have h29 : A.eval (.tmp 29) = _ := he.1 rfl
  refine goOn_plain rfl (stepG_pure rfl rfl ?_)
  generalize A.eval = ev at *
  go_simp
 ·intro A w1 hA hL hS he
  have hb := hS rfl
  have h30 : A.eval (.tmp 30) = _ := he.1 rfl
  have hf0 : A.eval (.func 32) = .func (.func 32) #[] #[] := rfl
  refine goOn_plain rfl ?_
  refine stepG_call (f := 32) (args := #[.int .u8 Y]) rfl rfl ?_ ?_
  ·generalize A.eval = ev at *
   go_simp
  ·refine (c2.out _).mono ?_
   rintro e w' ⟨rfl, hb'⟩
   exact ⟨_, rfl, hb', rfl⟩
 intro w2 hL
 simp only [TailL, FactL.eq, FactL.poly, FactL.ret, FactL.of, List.length_cons, List.length_nil, List.drop_succ_cons, List.drop_zero]
 rintro vp hp vq hq
 go_frame
 have B2 := B1.on hL.below
 replace hb0 := hb0.trans (hL.below.mono hb0.size)
 clear hL hb1 m1 m2 B B1 c1 c2 hX hY hbw0 hsz
 go_upto_region 3 with (fail)
 go_cut [12, 13, 32, 33, 34, 35, 36, 37, 38, 39, 40, 41] (fun v12 v13 _ _ _ _ _ _ _ _ _ _ wc => ∃ (C D : Rat) (d1 d2 : Nat) (n5 : Bool) (a5 : Option Addr) (k5 e5 : Nat) (n6 : Bool) (a6 : Option Addr) (k6 e6 : Nat) (n7 : Bool) (a7 : Option Addr) (k7 e7 : Nat) (n8 : Bool) (a8 : Option Addr) (k8 e8 : Nat), v12 = .pointer (some ⟨d1, 0, none⟩) ∧ v13 = .pointer (some ⟨d2, 0, none⟩) ∧ Hid (Blk wc d1 34 [.bool n5, .slice a5 k5 e5, .bool n6, .slice a6 k6 e6]) ∧ Hid (Blk wc d2 34 [.bool n7, .slice a7 k7 e7, .bool n8, .slice a8 k8 e8]) ∧ Hid (IsRat wc (.agg #[.bool n5, .slice a5 k5 e5, .bool n6, .slice a6 k6 e6]) C) ∧ Hid (IsRat wc (.agg #[.bool n7, .slice a7 k7 e7, .bool n8, .slice a8 k8 e8]) D) ∧ Hid (Num 2 9 C) ∧ Hid (Num 1 9 D) ∧ Below w.heap.size w wc ∧ Hid (IsPoly wc vp p) ∧ Hid (IsPoly wc vq q))
 case first =>
  refine wp_region_L mixed (none) (0) (Okr.none) [.eq (.pointer (some ⟨w.heap.size, 2, none⟩)), .eq (.int .i8 z), .eq (.int .i64 z), .eq (.int .i64 m), .rat (by decide) ((Rat.divInt m (2 : Nat))), .eq (.pointer (some ⟨w.heap.size, 3, none⟩)), .eq (.int .i8 u), .eq (.int .i64 u), .eq (.int .i64 n), .rat (by decide) (((n : Int) : Rat)), .box 34 w2.heap.size [.bool false, .slice none 0 0, .bool false, .slice none 0 0], .box 34 w2.heap.size [.bool false, .slice none 0 0, .bool false, .slice none 0 0]] [32, 33, 34, 35, 36, 37, 38, 39, 40, 41, 12, 13] rfl rfl rfl rfl ⟨?_, ?_, ?_, ?_, ?_, ?_, ?_, ?_, ?_, ?_, ?_, ?_, trivial⟩ ?_
  ·intro A w1 hA hL hS he
   have h5 : A.eval (.tmp 5) = .pointer (some ⟨w.heap.size, 0, none⟩) := hA 5 rfl
   have hc0 : A.eval (.const (.int .i64 2)) = .int .i64 2 := rfl
   refine goOn_plain rfl (stepG_pure rfl rfl ?_)
   generalize A.eval = ev at *
   go_simp
  ·intro A w1 hA hL hS he
   have hb := hL.below
   have h32 : A.eval (.tmp 32) = _ := he.1 rfl
   have c0 := ((B2).on hb).at1 2 _ rfl
   refine goOn_plain rfl (stepG_pure rfl rfl ?_)
   generalize A.eval = ev at *
   go_simp
  ·intro A w1 hA hL hS he
   have h33 : A.eval (.tmp 33) = _ := he.1 rfl
   refine goOn_plain rfl (stepG_pure rfl rfl ?_)
   generalize A.eval = ev at *
   go_simp
  ·intro A w1 hA hL hS he
   have h34 : A.eval (.tmp 34) = _ := he.1 rfl
   have hc0 : A.eval (.const (.int .i64 10)) = .int .i64 10 := rfl
   refine goOn_plain rfl (stepG_pure rfl rfl ?_)
   generalize A.eval = ev at *
   go_simp
  ·intro A w1 hA hL hS he
   have hb := hS rfl
   have h35 : A.eval (.tmp 35) = _ := he.1 rfl
   have hf0 : A.eval (.func 47) = .func (.func 47) #[] #[] := rfl
   have hc0 : A.eval (.const (.int .i64 2)) = .int .i64 2 := rfl
   refine goOn_plain rfl ?_
   refine stepG_call (f := 47) (args := #[.int .i64 m, (.int .i64 2)]) rfl rfl ?_ ?_
   ·generalize A.eval = ev at *
    go_simp
   ·refine (k1.out _).mono ?_
    rintro e w' ⟨v, rfl, hi, hb'⟩
    exact ⟨_, rfl, hb', hi⟩
  ·intro A w1 hA hL hS he
   have h5 : A.eval (.tmp 5) = .pointer (some ⟨w.heap.size, 0, none⟩) := hA 5 rfl
   have hc0 : A.eval (.const (.int .i64 3)) = .int .i64 3 := rfl
   refine goOn_plain rfl (stepG_pure rfl rfl ?_)
   generalize A.eval = ev at *
   go_simp
  ·intro A w1 hA hL hS he
   have hb := hL.below
   have h37 : A.eval (.tmp 37) = _ := he.1 rfl
   have c0 := ((B2).on hb).at1 3 _ rfl
   refine goOn_plain rfl (stepG_pure rfl rfl ?_)
   generalize A.eval = ev at *
   go_simp
  ·intro A w1 hA hL hS he
   have h38 : A.eval (.tmp 38) = _ := he.1 rfl
   refine goOn_plain rfl (stepG_pure rfl rfl ?_)
   generalize A.eval = ev at *
   go_simp
  ·intro A w1 hA hL hS he
   have h39 : A.eval (.tmp 39) = _ := he.1 rfl
   have hc0 : A.eval (.const (.int .i64 10)) = .int .i64 10 := rfl
   refine goOn_plain rfl (stepG_pure rfl rfl ?_)
   generalize A.eval = ev at *
   go_simp
  ·intro A w1 hA hL hS he
   have hb := hS rfl
   have h40 : A.eval (.tmp 40) = _ := he.1 rfl
   have hf0 : A.eval (.func 13) = .func (.func 13) #[] #[] := rfl
   refine goOn_plain rfl ?_
   refine stepG_call (f := 13) (args := #[.int .i64 n]) rfl rfl ?_ ?_
   ·generalize A.eval = ev at *
    go_simp
   ·refine (k2.out _).mono ?_
    rintro e w' ⟨v, rfl, hi, hb'⟩
    exact ⟨_, rfl, hb', hi⟩
  ·intro A w1 hA hL hS he
   refine goOn_plain rfl ?_
   refine stepG_box rfl rfl ((Okr.none).lr hL) hL.1.size (by generalize A.eval = ev at *; go_simp) (fun _ _ h => h)
  ·intro A w1 hA hL hS he
   refine goOn_plain rfl ?_
   refine stepG_box rfl rfl ((Okr.none).lr hL) hL.1.size (by generalize A.eval = ev at *; go_simp) (fun _ _ h => h)
  intro w3 hL
  simp only [TailL, FactL.eq, FactL.poly, FactL.rat, FactL.box, FactL.ret, FactL.of, List.length_cons, List.length_nil, List.drop_succ_cons, List.drop_zero]
  rintro v36 h36 v41 h41 v12 ⟨d1, -, hd1, rfl, D1⟩ v13 ⟨d2, -, hd2, rfl, D2⟩
  obtain ⟨n5, a5, k5, e5, n6, a6, k6, e6, rfl⟩ := rat_agg h36
  obtain ⟨n7, a7, k7, e7, n8, a8, k8, e8, rfl⟩ := rat_agg h41
  go_frame
  replace hp := hp.on hL.below
  replace hq := hq.on hL.below
  have hx1 : w.heap.size ≤ d1 := by have := hb0.size; omega
  have hx2 : w.heap.size ≤ d2 := by have := hb0.size; omega
  replace hb0 := hb0.trans (hL.below.mono hb0.size)
  clear hL B2 k1 k2 hwz hwu hm hn hd1 hd2
  by_cases hdd : d1 = d2
  ·subst hdd
   clear D2
   go_wp2_with (first
    | (refine wpList_store_blk rfl _ (.tmp 12) (.tmp 36) rfl _ _ _ _ rfl rfl D1 rfl sizeRat isRat_ones ?_; intro w4 R4 gr4)
    | (refine wpList_store_blk rfl _ (.tmp 13) (.tmp 41) rfl _ _ _ _ rfl rfl (show Blk w4 d1 34 _ from R4) rfl sizeRat isRat_ones ?_; intro w5 R5 gr5))
   have hl4 : Lr (some d1) 34 w3 w4 := ⟨gr4, fun k hk => by cases hk; exact ⟨D1.noOther, R4.noOther⟩⟩
   have hl5 : Lr (some d1) 34 w4 w5 := ⟨gr5, fun k hk => by cases hk; exact ⟨R4.noOther, R5.noOther⟩⟩
   have hl := hl4.trans hl5
   have BD : Blk w5 d1 34 [.bool n7, .slice a7 k7 e7, .bool n8, .slice a8 k8 e8] := R5
   go_meet
   case rel => exact ⟨_, _, d1, d1, n7, a7, k7, e7, n8, a8, k8, e8, n7, a7, k7, e7, n8, a8, k8, e8, rfl, rfl, Lib.hid BD, Lib.hid BD, Lib.hid (h41.lr hl (by decide)), Lib.hid (h41.lr hl (by decide)), Lib.hid (hD.out.dvd (by decide)), hD, hb0.trans (hl.belowAt hb0.size (fun k hk => by cases hk; exact hx1)), Lib.hid (hp.lr hl (elTerm_ok (by decide)) (by decide)), Lib.hid (hq.lr hl (elTerm_ok (by decide)) (by decide))⟩
  ·have D2' : ∀ W, Lr (some d1) 34 w3 W → Blk W d2 34 [.bool false, .slice none 0 0, .bool false, .slice none 0 0] := fun W h => D2.lr h (by simp; omega)
   go_wp2_with (first
    | (refine wpList_store_blk rfl _ (.tmp 12) (.tmp 36) rfl _ _ _ _ rfl rfl D1 rfl sizeRat isRat_ones ?_; intro w4 R4 gr4; have hl4 : Lr (some d1) 34 w3 w4 := ⟨gr4, fun k hk => by cases hk; exact ⟨D1.noOther, R4.noOther⟩⟩)
    | (refine wpList_store_blk rfl _ (.tmp 13) (.tmp 41) rfl _ _ _ _ rfl rfl (D2' _ hl4) rfl sizeRat isRat_ones ?_; intro w5 R5 gr5))
   have hl5 : Lr (some d2) 34 w4 w5 := ⟨gr5, fun k hk => by cases hk; exact ⟨(D2' _ hl4).noOther, R5.noOther⟩⟩
   have BC : Blk w5 d1 34 [.bool n5, .slice a5 k5 e5, .bool n6, .slice a6 k6 e6] := Blk.lr (show Blk w4 d1 34 _ from R4) hl5 (by simp; omega)
   have BD : Blk w5 d2 34 [.bool n7, .slice a7 k7 e7, .bool n8, .slice a8 k8 e8] := R5
   have hb4 := hb0.trans (hl4.belowAt hb0.size (fun k hk => by cases hk; exact hx1))
   go_meet
   case rel => exact ⟨_, _, d1, d2, n5, a5, k5, e5, n6, a6, k6, e6, n7, a7, k7, e7, n8, a8, k8, e8, rfl, rfl, Lib.hid BC, Lib.hid BD, Lib.hid ((h36.lr hl4 (by decide)).lr hl5 (by decide)), Lib.hid ((h41.lr hl4 (by decide)).lr hl5 (by decide)), hC, hD, hb4.trans (hl5.belowAt hb4.size (fun k hk => by cases hk; exact hx2)), Lib.hid ((hp.lr hl4 (elTerm_ok (by decide)) (by decide)).lr hl5 (elTerm_ok (by decide)) (by decide)), Lib.hid ((hq.lr hl4 (elTerm_ok (by decide)) (by decide)).lr hl5 (elTerm_ok (by decide)) (by decide))⟩
 case rest =>
  clear hp hq hb0 B2 k1 k2 hwz hwu hm hn hC hD
  obtain ⟨C, D, d1, d2, n5, a5, k5, e5, n6, a6, k6, e6, n7, a7, k7, e7, n8, a8, k8, e8, rfl, rfl, BC, BD, hc, hd, nC, nD, hb0, hp, hq⟩ := hcut
  replace BC := BC.out
  replace BD := BD.out
  replace hc := hc.out
  replace hd := hd.out
  replace nC := nC.out
  replace nD := nD.out
  replace hp := hp.out
  replace hq := hq.out
  have okC : (⟨2, 9, 0, 1⟩ : Sz).ok := by decide +kernel
  have okD : (⟨1, 9, 0, 1⟩ : Sz).ok := by decide +kernel
  have rC : Rs C := rs_of_dv okC nC.d nC.b
  have VB := (Pk.var b).scaleN nC (by decide +kernel)
  have KD := nD.pk okD
  have FK : Pk szF (addP (scaleP (varP b) C) (constP D)) := (VB.add KD (by decide +kernel)).mono (by decide +kernel) (by decide +kernel)
  go_upto_region 4 with (fail)
  refine wp_region_L mixed (none) (0) (Okr.none) [.eq (.int .i64 (b : Int)), .poly (by decide) (by decide) ((varP b)), .eq (.agg #[.bool n5, .slice a5 k5 e5, .bool n6, .slice a6 k6 e6]), .poly (by decide) (by decide) ((scaleP (varP b) C)), .eq (.agg #[.bool n7, .slice a7 k7 e7, .bool n8, .slice a8 k8 e8]), .poly (by decide) (by decide) ((constP D)), .poly (by decide) (by decide) ((addP (scaleP (varP b) C) (constP D)))] [42, 43, 44, 45, 46, 47, 48] rfl rfl rfl rfl ⟨?_, ?_, ?_, ?_, ?_, ?_, ?_, trivial⟩ ?_
  ·exact fun A w1 hA hL hS he => goOn_plain rfl (stepG_mv rfl rfl (hA 11 rfl))
  ·intro A w1 hA hL hS he
   have hb := hS rfl
   have h42 : A.eval (.tmp 42) = _ := he.1 rfl
   have hf0 : A.eval (.func 37) = .func (.func 37) #[] #[] := rfl
   refine goOn_plain rfl ?_
   refine stepG_call (f := 37) (args := #[.int .i64 (b : Int)]) rfl rfl ?_ ?_
   ·generalize A.eval = ev at *
    go_simp
   ·refine (var7_any b _ hb4).mono ?_
    rintro e w' ⟨v, rfl, hi, hb'⟩
    exact ⟨_, rfl, hb', hi⟩
  ·intro A w1 hA hL hS he
   have hb := hL.below
   have h12 : A.eval (.tmp 12) = .pointer (some ⟨d1, 0, none⟩) := hA 12 rfl
   have c0 := ((BC).on hb).at1 0 _ rfl
   have c1 := ((BC).on hb).at1 1 _ rfl
   have c2 := ((BC).on hb).at1 2 _ rfl
   have c3 := ((BC).on hb).at1 3 _ rfl
   refine goOn_plain rfl (stepG_pure rfl rfl ?_)
   generalize A.eval = ev at *
   go_simp
  ·intro A w1 hA hL hS he
   have hb := hS rfl
   have f43 : ((.poly (by decide) (by decide) ((varP b)) : FactL (Lr (none) (0)))).p (A.eval (.tmp 43)) w1 := he.1 rfl
   obtain ⟨v43, h43⟩ : ∃ v, A.eval (.tmp 43) = v := ⟨_, rfl⟩
   rw [h43] at f43
   have h44 : A.eval (.tmp 44) = _ := he.2.1 rfl
   have hf0 : A.eval (.func 48) = .func (.func 48) #[] #[] := rfl
   refine goOn_plain rfl ?_
   refine stepG_call (f := 48) (args := #[v43, .agg #[.bool n5, .slice a5 k5 e5, .bool n6, .slice a6 k6 e6]]) rfl rfl ?_ ?_
   ·generalize A.eval = ev at *
    go_simp
   ·refine (scaleK (Pk.var b) rC f43 (hc.on hb)).mono ?_
    rintro e w' ⟨v, rfl, hi, hb'⟩
    exact ⟨_, rfl, hb', hi⟩
  ·intro A w1 hA hL hS he
   have hb := hL.below
   have h13 : A.eval (.tmp 13) = .pointer (some ⟨d2, 0, none⟩) := hA 13 rfl
   have c0 := ((BD).on hb).at1 0 _ rfl
   have c1 := ((BD).on hb).at1 1 _ rfl
   have c2 := ((BD).on hb).at1 2 _ rfl
   have c3 := ((BD).on hb).at1 3 _ rfl
   refine goOn_plain rfl (stepG_pure rfl rfl ?_)
   generalize A.eval = ev at *
   go_simp
  ·intro A w1 hA hL hS he
   have hb := hS rfl
   have h46 : A.eval (.tmp 46) = _ := he.1 rfl
   have hf0 : A.eval (.func 49) = .func (.func 49) #[] #[] := rfl
   refine goOn_plain rfl ?_
   refine stepG_call (f := 49) (args := #[.agg #[.bool n7, .slice a7 k7 e7, .bool n8, .slice a8 k8 e8]]) rfl rfl ?_ ?_
   ·generalize A.eval = ev at *
    go_simp
   ·refine (const7_any _ D ⟨1, 9, 0, 1⟩ _ (hd.on hb) nD.bd okD).mono ?_
    rintro e w' ⟨v, rfl, hi, hb'⟩
    exact ⟨_, rfl, hb', hi⟩
  ·intro A w1 hA hL hS he
   have hb := hS rfl
   have f45 : ((.poly (by decide) (by decide) ((scaleP (varP b) C)) : FactL (Lr (none) (0)))).p (A.eval (.tmp 45)) w1 := he.1 rfl
   obtain ⟨v45, h45⟩ : ∃ v, A.eval (.tmp 45) = v := ⟨_, rfl⟩
   rw [h45] at f45
   have f47 : ((.poly (by decide) (by decide) ((constP D)) : FactL (Lr (none) (0)))).p (A.eval (.tmp 47)) w1 := he.2.1 rfl
   obtain ⟨v47, h47⟩ : ∃ v, A.eval (.tmp 47) = v := ⟨_, rfl⟩
   rw [h47] at f47
   have hf0 : A.eval (.func 36) = .func (.func 36) #[] #[] := rfl
   refine goOn_plain rfl ?_
   refine stepG_call (f := 36) (args := #[v45, v47]) rfl rfl ?_ ?_
   ·generalize A.eval = ev at *
    go_simp
   ·refine (add7K VB KD f45 f47).mono ?_
    rintro e w' ⟨v, rfl, hi, hb'⟩
    exact ⟨_, rfl, hb', hi⟩
  intro w4 hL
  simp only [TailL, FactL.eq, FactL.poly, FactL.rat, FactL.ret, FactL.of, List.length_cons, List.length_nil, List.drop_succ_cons, List.drop_zero]
  rintro _ - _ - _ - vf hf
  go_frame
  have hb := hL.below
  replace hp := hp.on hb
  replace hq := hq.on hb
  replace hc := hc.on hb
  replace hd := hd.on hb
  replace BC := BC.on hb
  replace BD := BD.on hb
  replace hb0 := hb0.trans (hb.mono hb0.size)
  clear hL hb
  generalize addP (scaleP (varP b) C) (constP D) = f at *
  clear VB KD
  have PQ := P.add Q (by decide +kernel)
  have PM := P.mul Q (by decide +kernel)
  have S1 := subst_pk (v := a) subst_ok1 PQ.b FK.b (PQ.clen a)
  have S2 := subst_pk (v := a) subst_ok2 P.b FK.b (P.clen a)
  have S3 := subst_pk (v := a) subst_ok3 Q.b FK.b (Q.clen a)
  have S4 := subst_pk (v := a) subst_ok4 PM.b FK.b (PM.clen a)
  have S23 := S2.add S3 (by decide +kernel)
  have S23m := S2.mul S3 (by decide +kernel)
  have E1 := eval_pk PQ (PQ.get_le a) nC.d nC.b (by decide) (by decide +kernel)
  have E2 := eval_pk P (P.get_le a) nC.d nC.b (by decide) (by decide +kernel)
  have E3 := eval_pk Q (Q.get_le a) nC.d nC.b (by decide) (by decide +kernel)
  have E4 := eval_pk PM (PM.get_le a) nC.d nC.b (by decide) (by decide +kernel)
  have E23 := E2.add E3 (by decide +kernel)
  have E23m := E2.mul E3 (by decide +kernel)
  have i1 := Lib.hid (substP_add P.v Q.v FK.v a)
  have i2 := Lib.hid (evalP_add P.v Q.v a C)
  have i3 := Lib.hid (substP_mul P.v Q.v FK.v a)
  have i4 := Lib.hid (evalP_mul P.v Q.v a C)
  go_upto_region 5 with (fail)
  refine wp_region_L mixed (none) (0) (Okr.none) [.eq (vp), .eq (vq), .poly (by decide) (by decide) ((addP p q)), .eq (.int .i64 (a : Int)), .eq (vf), .poly (by decide) (by decide) ((substP (addP p q) a f)), .eq (vp), .eq (.int .i64 (a : Int)), .eq (vf), .poly (by decide) (by decide) ((substP p a f)), .eq (vq), .eq (.int .i64 (a : Int)), .eq (vf), .poly (by decide) (by decide) ((substP q a f)), .poly (by decide) (by decide) ((addP (substP p a f) (substP q a f))), .ret (.bool true), .eq (.bool true), .eq (vp), .eq (vq), .poly (by decide) (by decide) ((addP p q)), .eq (.int .i64 (a : Int)), .eq (.agg #[.bool n5, .slice a5 k5 e5, .bool n6, .slice a6 k6 e6]), .poly (by decide) (by decide) ((evalP (addP p q) a C)), .eq (vp), .eq (.int .i64 (a : Int)), .eq (.agg #[.bool n5, .slice a5 k5 e5, .bool n6, .slice a6 k6 e6]), .poly (by decide) (by decide) ((evalP p a C)), .eq (vq), .eq (.int .i64 (a : Int)), .eq (.agg #[.bool n5, .slice a5 k5 e5, .bool n6, .slice a6 k6 e6]), .poly (by decide) (by decide) ((evalP q a C)), .poly (by decide) (by decide) ((addP (evalP p a C) (evalP q a C))), .ret (.bool true), .eq (.bool true)] [49, 50, 51, 52, 53, 54, 55, 56, 57, 58, 59, 60, 61, 62, 63, 64, 65, 66, 67, 68, 69, 70, 71, 72, 73, 74, 75, 76, 77, 78, 79, 80, 81, 82] rfl rfl rfl rfl ⟨?_, ?_, ?_, ?_, ?_, ?_, ?_, ?_, ?_, ?_, ?_, ?_, ?_, ?_, ?_, ?_, ?_, ?_, ?_, ?_, ?_, ?_, ?_, ?_, ?_, ?_, ?_, ?_, ?_, ?_, ?_, ?_, ?_, ?_, trivial⟩ ?_
  ·exact fun A w1 hA hL hS he => goOn_plain rfl (stepG_mv rfl rfl (hA 8 rfl))
  ·exact fun A w1 hA hL hS he => goOn_plain rfl (stepG_mv rfl rfl (hA 9 rfl))
  ·intro A w1 hA hL hS he
   have hb := hS rfl
   have h49 : A.eval (.tmp 49) = _ := he.1 rfl
   have h50 : A.eval (.tmp 50) = _ := he.2.1 rfl
   have hf0 : A.eval (.func 36) = .func (.func 36) #[] #[] := rfl
   refine goOn_plain rfl ?_
   refine stepG_call (f := 36) (args := #[vp, vq]) rfl rfl ?_ ?_
   ·generalize A.eval = ev at *
    go_simp
   ·refine (add7K P Q (hp.on hb) (hq.on hb)).mono ?_
    rintro e w' ⟨v, rfl, hi, hb'⟩
    exact ⟨_, rfl, hb', hi⟩
  ·exact fun A w1 hA hL hS he => goOn_plain rfl (stepG_mv rfl rfl (hA 10 rfl))
  ·exact fun A w1 hA hL hS he => goOn_plain rfl (stepG_mv rfl rfl (hA 14 rfl))
  ·intro A w1 hA hL hS he
   have hb := hS rfl
   have f51 : ((.poly (by decide) (by decide) ((addP p q)) : FactL (Lr (none) (0)))).p (A.eval (.tmp 51)) w1 := he.1 rfl
   obtain ⟨v51, h51⟩ : ∃ v, A.eval (.tmp 51) = v := ⟨_, rfl⟩
   rw [h51] at f51
   have h52 : A.eval (.tmp 52) = _ := he.2.1 rfl
   have h53 : A.eval (.tmp 53) = _ := he.2.2.1 rfl
   have hf0 : A.eval (.func 50) = .func (.func 50) #[] #[] := rfl
   refine goOn_plain rfl ?_
   refine stepG_call (f := 50) (args := #[v51, .int .i64 (a : Int), vf]) rfl rfl ?_ ?_
   ·generalize A.eval = ev at *
    go_simp
   ·refine (substK subst_ok1 PQ FK (by decide) (PQ.clen a) ha4 f51 (hf.on hb)).mono ?_
    rintro e w' ⟨v, rfl, hi, hb'⟩
    exact ⟨_, rfl, hb', hi⟩
  ·exact fun A w1 hA hL hS he => goOn_plain rfl (stepG_mv rfl rfl (hA 8 rfl))
  ·exact fun A w1 hA hL hS he => goOn_plain rfl (stepG_mv rfl rfl (hA 10 rfl))
  ·exact fun A w1 hA hL hS he => goOn_plain rfl (stepG_mv rfl rfl (hA 14 rfl))
  ·intro A w1 hA hL hS he
   have hb := hS rfl
   have h55 : A.eval (.tmp 55) = _ := he.1 rfl
   have h56 : A.eval (.tmp 56) = _ := he.2.1 rfl
   have h57 : A.eval (.tmp 57) = _ := he.2.2.1 rfl
   have hf0 : A.eval (.func 50) = .func (.func 50) #[] #[] := rfl
   refine goOn_plain rfl ?_
   refine stepG_call (f := 50) (args := #[vp, .int .i64 (a : Int), vf]) rfl rfl ?_ ?_
   ·generalize A.eval = ev at *
    go_simp
   ·refine (substK subst_ok2 P FK (by decide) (P.clen a) ha4 (hp.on hb) (hf.on hb)).mono ?_
    rintro e w' ⟨v, rfl, hi, hb'⟩
    exact ⟨_, rfl, hb', hi⟩
  ·exact fun A w1 hA hL hS he => goOn_plain rfl (stepG_mv rfl rfl (hA 9 rfl))
  ·exact fun A w1 hA hL hS he => goOn_plain rfl (stepG_mv rfl rfl (hA 10 rfl))
  ·exact fun A w1 hA hL hS he => goOn_plain rfl (stepG_mv rfl rfl (hA 14 rfl))
  ·intro A w1 hA hL hS he
   have hb := hS rfl
   have h59 : A.eval (.tmp 59) = _ := he.1 rfl
   have h60 : A.eval (.tmp 60) = _ := he.2.1 rfl
   have h61 : A.eval (.tmp 61) = _ := he.2.2.1 rfl
   have hf0 : A.eval (.func 50) = .func (.func 50) #[] #[] := rfl
   refine goOn_plain rfl ?_
   refine stepG_call (f := 50) (args := #[vq, .int .i64 (a : Int), vf]) rfl rfl ?_ ?_
   ·generalize A.eval = ev at *
    go_simp
   ·refine (substK subst_ok3 Q FK (by decide) (Q.clen a) ha4 (hq.on hb) (hf.on hb)).mono ?_
    rintro e w' ⟨v, rfl, hi, hb'⟩
    exact ⟨_, rfl, hb', hi⟩
  ·intro A w1 hA hL hS he
   have hb := hS rfl
   have f58 : ((.poly (by decide) (by decide) ((substP p a f)) : FactL (Lr (none) (0)))).p (A.eval (.tmp 58)) w1 := he.1 rfl
   obtain ⟨v58, h58⟩ : ∃ v, A.eval (.tmp 58) = v := ⟨_, rfl⟩
   rw [h58] at f58
   have f62 : ((.poly (by decide) (by decide) ((substP q a f)) : FactL (Lr (none) (0)))).p (A.eval (.tmp 62)) w1 := he.2.1 rfl
   obtain ⟨v62, h62⟩ : ∃ v, A.eval (.tmp 62) = v := ⟨_, rfl⟩
   rw [h62] at f62
   have hf0 : A.eval (.func 36) = .func (.func 36) #[] #[] := rfl
   refine goOn_plain rfl ?_
   refine stepG_call (f := 36) (args := #[v58, v62]) rfl rfl ?_ ?_
   ·generalize A.eval = ev at *
    go_simp
   ·refine (add7K S2 S3 f58 f62).mono ?_
    rintro e w' ⟨v, rfl, hi, hb'⟩
    exact ⟨_, rfl, hb', hi⟩
  ·intro A w1 hA hL hS he
   have hb := hS rfl
   have f54 : ((.poly (by decide) (by decide) ((substP (addP p q) a f)) : FactL (Lr (none) (0)))).p (A.eval (.tmp 54)) w1 := he.1 rfl
   obtain ⟨v54, h54⟩ : ∃ v, A.eval (.tmp 54) = v := ⟨_, rfl⟩
   rw [h54] at f54
   have f63 : ((.poly (by decide) (by decide) ((addP (substP p a f) (substP q a f))) : FactL (Lr (none) (0)))).p (A.eval (.tmp 63)) w1 := he.2.1 rfl
   obtain ⟨v63, h63⟩ : ∃ v, A.eval (.tmp 63) = v := ⟨_, rfl⟩
   rw [h63] at f63
   have hf0 : A.eval (.func 17) = .func (.func 17) #[] #[] := rfl
   refine goOn_plain rfl ?_
   refine stepG_call (f := 17) (args := #[v54, v63]) rfl rfl ?_ ?_
   ·generalize A.eval = ev at *
    go_simp
   ·refine (sameK S1 S23 i1.out f54 f63).mono ?_
    rintro e w' ⟨rfl, hb'⟩
    exact ⟨_, rfl, hb', rfl⟩
  ·exact fun A w1 hA hL hS he => goOn_plain rfl (stepG_mv rfl rfl (he.1 rfl))
  ·exact fun A w1 hA hL hS he => goOn_yes rfl rfl (he.1 rfl) (stepG_mv rfl rfl (hA 8 rfl))
  ·exact fun A w1 hA hL hS he => goOn_yes rfl rfl (he.1 rfl) (stepG_mv rfl rfl (hA 9 rfl))
  ·intro A w1 hA hL hS he
   have hb := hS rfl
   have h65 : A.eval (.tmp 65) = _ := he.2.2.1 rfl
   have h66 : A.eval (.tmp 66) = _ := he.1 rfl
   have h67 : A.eval (.tmp 67) = _ := he.2.1 rfl
   have hf0 : A.eval (.func 36) = .func (.func 36) #[] #[] := rfl
   refine goOn_yes rfl rfl h65 ?_
   refine stepG_call (f := 36) (args := #[vp, vq]) rfl rfl ?_ ?_
   ·generalize A.eval = ev at *
    go_simp
   ·refine (add7K P Q (hp.on hb) (hq.on hb)).mono ?_
    rintro e w' ⟨v, rfl, hi, hb'⟩
    exact ⟨_, rfl, hb', hi⟩
  ·exact fun A w1 hA hL hS he => goOn_yes rfl rfl (he.1 rfl) (stepG_mv rfl rfl (hA 10 rfl))
  ·intro A w1 hA hL hS he
   have hb := hL.below
   have h65 : A.eval (.tmp 65) = _ := he.1 rfl
   have h12 : A.eval (.tmp 12) = .pointer (some ⟨d1, 0, none⟩) := hA 12 rfl
   have c0 := ((BC).on hb).at1 0 _ rfl
   have c1 := ((BC).on hb).at1 1 _ rfl
   have c2 := ((BC).on hb).at1 2 _ rfl
   have c3 := ((BC).on hb).at1 3 _ rfl
   refine goOn_yes rfl rfl h65 ?_
   refine stepG_pure rfl rfl ?_
   generalize A.eval = ev at *
   go_simp
  ·intro A w1 hA hL hS he
   have hb := hS rfl
   have h65 : A.eval (.tmp 65) = _ := he.2.2.2.2.1 rfl
   have f68 : ((.poly (by decide) (by decide) ((addP p q)) : FactL (Lr (none) (0)))).p (A.eval (.tmp 68)) w1 := he.1 rfl
   obtain ⟨v68, h68⟩ : ∃ v, A.eval (.tmp 68) = v := ⟨_, rfl⟩
   rw [h68] at f68
   have h69 : A.eval (.tmp 69) = _ := he.2.1 rfl
   have h70 : A.eval (.tmp 70) = _ := he.2.2.1 rfl
   have hf0 : A.eval (.func 51) = .func (.func 51) #[] #[] := rfl
   refine goOn_yes rfl rfl h65 ?_
   refine stepG_call (f := 51) (args := #[v68, .int .i64 (a : Int), .agg #[.bool n5, .slice a5 k5 e5, .bool n6, .slice a6 k6 e6]]) rfl rfl ?_ ?_
   ·generalize A.eval = ev at *
    go_simp
   ·refine (evalK PQ (PQ.get_le a) nC.d nC.b (by decide) E1.k okC ha4 f68 (hc.on hb)).mono ?_
    rintro e w' ⟨v, rfl, hi, hb'⟩
    exact ⟨_, rfl, hb', hi⟩
  ·exact fun A w1 hA hL hS he => goOn_yes rfl rfl (he.1 rfl) (stepG_mv rfl rfl (hA 8 rfl))
  ·exact fun A w1 hA hL hS he => goOn_yes rfl rfl (he.1 rfl) (stepG_mv rfl rfl (hA 10 rfl))
  ·intro A w1 hA hL hS he
   have hb := hL.below
   have h65 : A.eval (.tmp 65) = _ := he.1 rfl
   have h12 : A.eval (.tmp 12) = .pointer (some ⟨d1, 0, none⟩) := hA 12 rfl
   have c0 := ((BC).on hb).at1 0 _ rfl
   have c1 := ((BC).on hb).at1 1 _ rfl
   have c2 := ((BC).on hb).at1 2 _ rfl
   have c3 := ((BC).on hb).at1 3 _ rfl
   refine goOn_yes rfl rfl h65 ?_
   refine stepG_pure rfl rfl ?_
   generalize A.eval = ev at *
   go_simp
  ·intro A w1 hA hL hS he
   have hb := hS rfl
   have h65 : A.eval (.tmp 65) = _ := he.2.2.2.2.1 rfl
   have h72 : A.eval (.tmp 72) = _ := he.1 rfl
   have h73 : A.eval (.tmp 73) = _ := he.2.1 rfl
   have h74 : A.eval (.tmp 74) = _ := he.2.2.1 rfl
   have hf0 : A.eval (.func 51) = .func (.func 51) #[] #[] := rfl
   refine goOn_yes rfl rfl h65 ?_
   refine stepG_call (f := 51) (args := #[vp, .int .i64 (a : Int), .agg #[.bool n5, .slice a5 k5 e5, .bool n6, .slice a6 k6 e6]]) rfl rfl ?_ ?_
   ·generalize A.eval = ev at *
    go_simp
   ·refine (evalK P (P.get_le a) nC.d nC.b (by decide) E2.k okC ha4 (hp.on hb) (hc.on hb)).mono ?_
    rintro e w' ⟨v, rfl, hi, hb'⟩
    exact ⟨_, rfl, hb', hi⟩
  ·exact fun A w1 hA hL hS he => goOn_yes rfl rfl (he.1 rfl) (stepG_mv rfl rfl (hA 9 rfl))
  ·exact fun A w1 hA hL hS he => goOn_yes rfl rfl (he.1 rfl) (stepG_mv rfl rfl (hA 10 rfl))
  ·intro A w1 hA hL hS he
   have hb := hL.below
   have h65 : A.eval (.tmp 65) = _ := he.1 rfl
   have h12 : A.eval (.tmp 12) = .pointer (some ⟨d1, 0, none⟩) := hA 12 rfl
   have c0 := ((BC).on hb).at1 0 _ rfl
   have c1 := ((BC).on hb).at1 1 _ rfl
   have c2 := ((BC).on hb).at1 2 _ rfl
   have c3 := ((BC).on hb).at1 3 _ rfl
   refine goOn_yes rfl rfl h65 ?_
   refine stepG_pure rfl rfl ?_
   generalize A.eval = ev at *
   go_simp
  ·intro A w1 hA hL hS he
   have hb := hS rfl
   have h65 : A.eval (.tmp 65) = _ := he.2.2.2.2.1 rfl
   have h76 : A.eval (.tmp 76) = _ := he.1 rfl
   have h77 : A.eval (.tmp 77) = _ := he.2.1 rfl
   have h78 : A.eval (.tmp 78) = _ := he.2.2.1 rfl
   have hf0 : A.eval (.func 51) = .func (.func 51) #[] #[] := rfl
   refine goOn_yes rfl rfl h65 ?_
   refine stepG_call (f := 51) (args := #[vq, .int .i64 (a : Int), .agg #[.bool n5, .slice a5 k5 e5, .bool n6, .slice a6 k6 e6]]) rfl rfl ?_ ?_
   ·generalize A.eval = ev at *
    go_simp
   ·refine (evalK Q (Q.get_le a) nC.d nC.b (by decide) E3.k okC ha4 (hq.on hb) (hc.on hb)).mono ?_
    rintro e w' ⟨v, rfl, hi, hb'⟩
    exact ⟨_, rfl, hb', hi⟩
  ·intro A w1 hA hL hS he
   have hb := hS rfl
   have h65 : A.eval (.tmp 65) = _ := he.2.2.2.1 rfl
   have f75 : ((.poly (by decide) (by decide) ((evalP p a C)) : FactL (Lr (none) (0)))).p (A.eval (.tmp 75)) w1 := he.1 rfl
   obtain ⟨v75, h75⟩ : ∃ v, A.eval (.tmp 75) = v := ⟨_, rfl⟩
   rw [h75] at f75
   have f79 : ((.poly (by decide) (by decide) ((evalP q a C)) : FactL (Lr (none) (0)))).p (A.eval (.tmp 79)) w1 := he.2.1 rfl
   obtain ⟨v79, h79⟩ : ∃ v, A.eval (.tmp 79) = v := ⟨_, rfl⟩
   rw [h79] at f79
   have hf0 : A.eval (.func 36) = .func (.func 36) #[] #[] := rfl
   refine goOn_yes rfl rfl h65 ?_
   refine stepG_call (f := 36) (args := #[v75, v79]) rfl rfl ?_ ?_
   ·generalize A.eval = ev at *
    go_simp
   ·refine (add7K E2 E3 f75 f79).mono ?_
    rintro e w' ⟨v, rfl, hi, hb'⟩
    exact ⟨_, rfl, hb', hi⟩
  ·intro A w1 hA hL hS he
   have hb := hS rfl
   have h65 : A.eval (.tmp 65) = _ := he.2.2.2.1 rfl
   have f71 : ((.poly (by decide) (by decide) ((evalP (addP p q) a C)) : FactL (Lr (none) (0)))).p (A.eval (.tmp 71)) w1 := he.1 rfl
   obtain ⟨v71, h71⟩ : ∃ v, A.eval (.tmp 71) = v := ⟨_, rfl⟩
   rw [h71] at f71
   have f80 : ((.poly (by decide) (by decide) ((addP (evalP p a C) (evalP q a C))) : FactL (Lr (none) (0)))).p (A.eval (.tmp 80)) w1 := he.2.1 rfl
   obtain ⟨v80, h80⟩ : ∃ v, A.eval (.tmp 80) = v := ⟨_, rfl⟩
   rw [h80] at f80
   have hf0 : A.eval (.func 17) = .func (.func 17) #[] #[] := rfl
   refine goOn_yes rfl rfl h65 ?_
   refine stepG_call (f := 17) (args := #[v71, v80]) rfl rfl ?_ ?_
   ·generalize A.eval = ev at *
    go_simp
   ·refine (sameK E1 E23 i2.out f71 f80).mono ?_
    rintro e w' ⟨rfl, hb'⟩
    exact ⟨_, rfl, hb', rfl⟩
  ·exact fun A w1 hA hL hS he => goOn_plain rfl (stepG_pk rfl (he.1 rfl) rfl (he.2.1 rfl))
  intro w5 hL
  simp only [TailL, FactL.eq, FactL.poly, FactL.rat, FactL.ret, FactL.of, List.length_cons, List.length_nil, List.drop_succ_cons, List.drop_zero]
  rintro _ - _ - _ - _ - _ - _ - _ - _ - _ - _ -
  go_frame
  have hb := hL.below
  replace hp := hp.on hb
  replace hq := hq.on hb
  replace hc := hc.on hb
  replace hd := hd.on hb
  replace BC := BC.on hb
  replace BD := BD.on hb
  replace hf := hf.on hb
  replace hb0 := hb0.trans (hb.mono hb0.size)
  clear hL hb
  clear i1 i2 S1 S23 E1 E23
  go_upto_region 6 with (fail)
  refine wp_region_L mixed (none) (0) (Okr.none) [.eq (vp), .eq (vq), .poly (by decide) (by decide) ((mulP p q)), .eq (.int .i64 (a : Int)), .eq (vf), .poly (by decide) (by decide) ((substP (mulP p q) a f)), .eq (vp), .eq (.int .i64 (a : Int)), .eq (vf), .poly (by decide) (by decide) ((substP p a f)), .eq (vq), .eq (.int .i64 (a : Int)), .eq (vf), .poly (by decide) (by decide) ((substP q a f)), .poly (by decide) (by decide) ((mulP (substP p a f) (substP q a f))), .ret (.bool true), .eq (.bool true), .eq (vp), .eq (vq), .poly (by decide) (by decide) ((mulP p q)), .eq (.int .i64 (a : Int)), .eq (.agg #[.bool n5, .slice a5 k5 e5, .bool n6, .slice a6 k6 e6]), .poly (by decide) (by decide) ((evalP (mulP p q) a C)), .eq (vp), .eq (.int .i64 (a : Int)), .eq (.agg #[.bool n5, .slice a5 k5 e5, .bool n6, .slice a6 k6 e6]), .poly (by decide) (by decide) ((evalP p a C)), .eq (vq), .eq (.int .i64 (a : Int)), .eq (.agg #[.bool n5, .slice a5 k5 e5, .bool n6, .slice a6 k6 e6]), .poly (by decide) (by decide) ((evalP q a C)), .poly (by decide) (by decide) ((mulP (evalP p a C) (evalP q a C))), .ret (.bool true), .eq (.bool true)] [83, 84, 85, 86, 87, 88, 89, 90, 91, 92, 93, 94, 95, 96, 97, 98, 99, 100, 101, 102, 103, 104, 105, 106, 107, 108, 109, 110, 111, 112, 113, 114, 115, 116] rfl rfl rfl rfl ⟨?_, ?_, ?_, ?_, ?_, ?_, ?_, ?_, ?_, ?_, ?_, ?_, ?_, ?_, ?_, ?_, ?_, ?_, ?_, ?_, ?_, ?_, ?_, ?_, ?_, ?_, ?_, ?_, ?_, ?_, ?_, ?_, ?_, ?_, trivial⟩ ?_
  ·exact fun A w1 hA hL hS he => goOn_plain rfl (stepG_mv rfl rfl (hA 8 rfl))
  ·exact fun A w1 hA hL hS he => goOn_plain rfl (stepG_mv rfl rfl (hA 9 rfl))
  ·intro A w1 hA hL hS he
   have hb := hS rfl
   have h83 : A.eval (.tmp 83) = _ := he.1 rfl
   have h84 : A.eval (.tmp 84) = _ := he.2.1 rfl
   have hf0 : A.eval (.func 30) = .func (.func 30) #[] #[] := rfl
   refine goOn_plain rfl ?_
   refine stepG_call (f := 30) (args := #[vp, vq]) rfl rfl ?_ ?_
   ·generalize A.eval = ev at *
    go_simp
   ·refine (mul7K P Q PM.k (hp.on hb) (hq.on hb)).mono ?_
    rintro e w' ⟨v, rfl, hi, hb'⟩
    exact ⟨_, rfl, hb', hi⟩
  ·exact fun A w1 hA hL hS he => goOn_plain rfl (stepG_mv rfl rfl (hA 10 rfl))
  ·exact fun A w1 hA hL hS he => goOn_plain rfl (stepG_mv rfl rfl (hA 14 rfl))
  ·intro A w1 hA hL hS he
   have hb := hS rfl
   have f85 : ((.poly (by decide) (by decide) ((mulP p q)) : FactL (Lr (none) (0)))).p (A.eval (.tmp 85)) w1 := he.1 rfl
   obtain ⟨v85, h85⟩ : ∃ v, A.eval (.tmp 85) = v := ⟨_, rfl⟩
   rw [h85] at f85
   have h86 : A.eval (.tmp 86) = _ := he.2.1 rfl
   have h87 : A.eval (.tmp 87) = _ := he.2.2.1 rfl
   have hf0 : A.eval (.func 50) = .func (.func 50) #[] #[] := rfl
   refine goOn_plain rfl ?_
   refine stepG_call (f := 50) (args := #[v85, .int .i64 (a : Int), vf]) rfl rfl ?_ ?_
   ·generalize A.eval = ev at *
    go_simp
   ·refine (substK subst_ok4 PM FK (by decide) (PM.clen a) ha4 f85 (hf.on hb)).mono ?_
    rintro e w' ⟨v, rfl, hi, hb'⟩
    exact ⟨_, rfl, hb', hi⟩
  ·exact fun A w1 hA hL hS he => goOn_plain rfl (stepG_mv rfl rfl (hA 8 rfl))
  ·exact fun A w1 hA hL hS he => goOn_plain rfl (stepG_mv rfl rfl (hA 10 rfl))
  ·exact fun A w1 hA hL hS he => goOn_plain rfl (stepG_mv rfl rfl (hA 14 rfl))
  ·intro A w1 hA hL hS he
   have hb := hS rfl
   have h89 : A.eval (.tmp 89) = _ := he.1 rfl
   have h90 : A.eval (.tmp 90) = _ := he.2.1 rfl
   have h91 : A.eval (.tmp 91) = _ := he.2.2.1 rfl
   have hf0 : A.eval (.func 50) = .func (.func 50) #[] #[] := rfl
   refine goOn_plain rfl ?_
   refine stepG_call (f := 50) (args := #[vp, .int .i64 (a : Int), vf]) rfl rfl ?_ ?_
   ·generalize A.eval = ev at *
    go_simp
   ·refine (substK subst_ok2 P FK (by decide) (P.clen a) ha4 (hp.on hb) (hf.on hb)).mono ?_
    rintro e w' ⟨v, rfl, hi, hb'⟩
    exact ⟨_, rfl, hb', hi⟩
  ·exact fun A w1 hA hL hS he => goOn_plain rfl (stepG_mv rfl rfl (hA 9 rfl))
  ·exact fun A w1 hA hL hS he => goOn_plain rfl (stepG_mv rfl rfl (hA 10 rfl))
  ·exact fun A w1 hA hL hS he => goOn_plain rfl (stepG_mv rfl rfl (hA 14 rfl))
  ·intro A w1 hA hL hS he
   have hb := hS rfl
   have h93 : A.eval (.tmp 93) = _ := he.1 rfl
   have h94 : A.eval (.tmp 94) = _ := he.2.1 rfl
   have h95 : A.eval (.tmp 95) = _ := he.2.2.1 rfl
   have hf0 : A.eval (.func 50) = .func (.func 50) #[] #[] := rfl
   refine goOn_plain rfl ?_
   refine stepG_call (f := 50) (args := #[vq, .int .i64 (a : Int), vf]) rfl rfl ?_ ?_
   ·generalize A.eval = ev at *
    go_simp
   ·refine (substK subst_ok3 Q FK (by decide) (Q.clen a) ha4 (hq.on hb) (hf.on hb)).mono ?_
    rintro e w' ⟨v, rfl, hi, hb'⟩
    exact ⟨_, rfl, hb', hi⟩
  ·intro A w1 hA hL hS he
   have hb := hS rfl
   have f92 : ((.poly (by decide) (by decide) ((substP p a f)) : FactL (Lr (none) (0)))).p (A.eval (.tmp 92)) w1 := he.1 rfl
   obtain ⟨v92, h92⟩ : ∃ v, A.eval (.tmp 92) = v := ⟨_, rfl⟩
   rw [h92] at f92
   have f96 : ((.poly (by decide) (by decide) ((substP q a f)) : FactL (Lr (none) (0)))).p (A.eval (.tmp 96)) w1 := he.2.1 rfl
   obtain ⟨v96, h96⟩ : ∃ v, A.eval (.tmp 96) = v := ⟨_, rfl⟩
   rw [h96] at f96
   have hf0 : A.eval (.func 30) = .func (.func 30) #[] #[] := rfl
   refine goOn_plain rfl ?_
   refine stepG_call (f := 30) (args := #[v92, v96]) rfl rfl ?_ ?_
   ·generalize A.eval = ev at *
    go_simp
   ·refine (mul7K S2 S3 S23m.k f92 f96).mono ?_
    rintro e w' ⟨v, rfl, hi, hb'⟩
    exact ⟨_, rfl, hb', hi⟩
  ·intro A w1 hA hL hS he
   have hb := hS rfl
   have f88 : ((.poly (by decide) (by decide) ((substP (mulP p q) a f)) : FactL (Lr (none) (0)))).p (A.eval (.tmp 88)) w1 := he.1 rfl
   obtain ⟨v88, h88⟩ : ∃ v, A.eval (.tmp 88) = v := ⟨_, rfl⟩
   rw [h88] at f88
   have f97 : ((.poly (by decide) (by decide) ((mulP (substP p a f) (substP q a f))) : FactL (Lr (none) (0)))).p (A.eval (.tmp 97)) w1 := he.2.1 rfl
   obtain ⟨v97, h97⟩ : ∃ v, A.eval (.tmp 97) = v := ⟨_, rfl⟩
   rw [h97] at f97
   have hf0 : A.eval (.func 17) = .func (.func 17) #[] #[] := rfl
   refine goOn_plain rfl ?_
   refine stepG_call (f := 17) (args := #[v88, v97]) rfl rfl ?_ ?_
   ·generalize A.eval = ev at *
    go_simp
   ·refine (sameK S4 S23m i3.out f88 f97).mono ?_
    rintro e w' ⟨rfl, hb'⟩
    exact ⟨_, rfl, hb', rfl⟩
  ·exact fun A w1 hA hL hS he => goOn_plain rfl (stepG_mv rfl rfl (he.1 rfl))
  ·exact fun A w1 hA hL hS he => goOn_yes rfl rfl (he.1 rfl) (stepG_mv rfl rfl (hA 8 rfl))
  ·exact fun A w1 hA hL hS he => goOn_yes rfl rfl (he.1 rfl) (stepG_mv rfl rfl (hA 9 rfl))
  ·intro A w1 hA hL hS he
   have hb := hS rfl
   have h99 : A.eval (.tmp 99) = _ := he.2.2.1 rfl
   have h100 : A.eval (.tmp 100) = _ := he.1 rfl
   have h101 : A.eval (.tmp 101) = _ := he.2.1 rfl
   have hf0 : A.eval (.func 30) = .func (.func 30) #[] #[] := rfl
   refine goOn_yes rfl rfl h99 ?_
   refine stepG_call (f := 30) (args := #[vp, vq]) rfl rfl ?_ ?_
   ·generalize A.eval = ev at *
    go_simp
   ·refine (mul7K P Q PM.k (hp.on hb) (hq.on hb)).mono ?_
    rintro e w' ⟨v, rfl, hi, hb'⟩
    exact ⟨_, rfl, hb', hi⟩
  ·exact fun A w1 hA hL hS he => goOn_yes rfl rfl (he.1 rfl) (stepG_mv rfl rfl (hA 10 rfl))
  ·intro A w1 hA hL hS he
   have hb := hL.below
   have h99 : A.eval (.tmp 99) = _ := he.1 rfl
   have h12 : A.eval (.tmp 12) = .pointer (some ⟨d1, 0, none⟩) := hA 12 rfl
   have c0 := ((BC).on hb).at1 0 _ rfl
   have c1 := ((BC).on hb).at1 1 _ rfl
   have c2 := ((BC).on hb).at1 2 _ rfl
   have c3 := ((BC).on hb).at1 3 _ rfl
   refine goOn_yes rfl rfl h99 ?_
   refine stepG_pure rfl rfl ?_
   generalize A.eval = ev at *
   go_simp
  ·intro A w1 hA hL hS he
   have hb := hS rfl
   have h99 : A.eval (.tmp 99) = _ := he.2.2.2.2.1 rfl
   have f102 : ((.poly (by decide) (by decide) ((mulP p q)) : FactL (Lr (none) (0)))).p (A.eval (.tmp 102)) w1 := he.1 rfl
   obtain ⟨v102, h102⟩ : ∃ v, A.eval (.tmp 102) = v := ⟨_, rfl⟩
   rw [h102] at f102
   have h103 : A.eval (.tmp 103) = _ := he.2.1 rfl
   have h104 : A.eval (.tmp 104) = _ := he.2.2.1 rfl
   have hf0 : A.eval (.func 51) = .func (.func 51) #[] #[] := rfl
   refine goOn_yes rfl rfl h99 ?_
   refine stepG_call (f := 51) (args := #[v102, .int .i64 (a : Int), .agg #[.bool n5, .slice a5 k5 e5, .bool n6, .slice a6 k6 e6]]) rfl rfl ?_ ?_
   ·generalize A.eval = ev at *
    go_simp
   ·refine (evalK PM (PM.get_le a) nC.d nC.b (by decide) E4.k okC ha4 f102 (hc.on hb)).mono ?_
    rintro e w' ⟨v, rfl, hi, hb'⟩
    exact ⟨_, rfl, hb', hi⟩
  ·exact fun A w1 hA hL hS he => goOn_yes rfl rfl (he.1 rfl) (stepG_mv rfl rfl (hA 8 rfl))
  ·exact fun A w1 hA hL hS he => goOn_yes rfl rfl (he.1 rfl) (stepG_mv rfl rfl (hA 10 rfl))
  ·intro A w1 hA hL hS he
   have hb := hL.below
   have h99 : A.eval (.tmp 99) = _ := he.1 rfl
   have h12 : A.eval (.tmp 12) = .pointer (some ⟨d1, 0, none⟩) := hA 12 rfl
   have c0 := ((BC).on hb).at1 0 _ rfl
   have c1 := ((BC).on hb).at1 1 _ rfl
   have c2 := ((BC).on hb).at1 2 _ rfl
   have c3 := ((BC).on hb).at1 3 _ rfl
   refine goOn_yes rfl rfl h99 ?_
   refine stepG_pure rfl rfl ?_
   generalize A.eval = ev at *
   go_simp
  ·intro A w1 hA hL hS he
   have hb := hS rfl
   have h99 : A.eval (.tmp 99) = _ := he.2.2.2.2.1 rfl
   have h106 : A.eval (.tmp 106) = _ := he.1 rfl
   have h107 : A.eval (.tmp 107) = _ := he.2.1 rfl
   have h108 : A.eval (.tmp 108) = _ := he.2.2.1 rfl
   have hf0 : A.eval (.func 51) = .func (.func 51) #[] #[] := rfl
   refine goOn_yes rfl rfl h99 ?_
   refine stepG_call (f := 51) (args := #[vp, .int .i64 (a : Int), .agg #[.bool n5, .slice a5 k5 e5, .bool n6, .slice a6 k6 e6]]) rfl rfl ?_ ?_
   ·generalize A.eval = ev at *
    go_simp
   ·refine (evalK P (P.get_le a) nC.d nC.b (by decide) E2.k okC ha4 (hp.on hb) (hc.on hb)).mono ?_
    rintro e w' ⟨v, rfl, hi, hb'⟩
    exact ⟨_, rfl, hb', hi⟩
  ·exact fun A w1 hA hL hS he => goOn_yes rfl rfl (he.1 rfl) (stepG_mv rfl rfl (hA 9 rfl))
  ·exact fun A w1 hA hL hS he => goOn_yes rfl rfl (he.1 rfl) (stepG_mv rfl rfl (hA 10 rfl))
  ·intro A w1 hA hL hS he
   have hb := hL.below
   have h99 : A.eval (.tmp 99) = _ := he.1 rfl
   have h12 : A.eval (.tmp 12) = .pointer (some ⟨d1, 0, none⟩) := hA 12 rfl
   have c0 := ((BC).on hb).at1 0 _ rfl
   have c1 := ((BC).on hb).at1 1 _ rfl
   have c2 := ((BC).on hb).at1 2 _ rfl
   have c3 := ((BC).on hb).at1 3 _ rfl
   refine goOn_yes rfl rfl h99 ?_
   refine stepG_pure rfl rfl ?_
   generalize A.eval = ev at *
   go_simp
  ·intro A w1 hA hL hS he
   have hb := hS rfl
   have h99 : A.eval (.tmp 99) = _ := he.2.2.2.2.1 rfl
   have h110 : A.eval (.tmp 110) = _ := he.1 rfl
   have h111 : A.eval (.tmp 111) = _ := he.2.1 rfl
   have h112 : A.eval (.tmp 112) = _ := he.2.2.1 rfl
   have hf0 : A.eval (.func 51) = .func (.func 51) #[] #[] := rfl
   refine goOn_yes rfl rfl h99 ?_
   refine stepG_call (f := 51) (args := #[vq, .int .i64 (a : Int), .agg #[.bool n5, .slice a5 k5 e5, .bool n6, .slice a6 k6 e6]]) rfl rfl ?_ ?_
   ·generalize A.eval = ev at *
    go_simp
   ·refine (evalK Q (Q.get_le a) nC.d nC.b (by decide) E3.k okC ha4 (hq.on hb) (hc.on hb)).mono ?_
    rintro e w' ⟨v, rfl, hi, hb'⟩
    exact ⟨_, rfl, hb', hi⟩
  ·intro A w1 hA hL hS he
   have hb := hS rfl
   have h99 : A.eval (.tmp 99) = _ := he.2.2.2.1 rfl
   have f109 : ((.poly (by decide) (by decide) ((evalP p a C)) : FactL (Lr (none) (0)))).p (A.eval (.tmp 109)) w1 := he.1 rfl
   obtain ⟨v109, h109⟩ : ∃ v, A.eval (.tmp 109) = v := ⟨_, rfl⟩
   rw [h109] at f109
   have f113 : ((.poly (by decide) (by decide) ((evalP q a C)) : FactL (Lr (none) (0)))).p (A.eval (.tmp 113)) w1 := he.2.1 rfl
   obtain ⟨v113, h113⟩ : ∃ v, A.eval (.tmp 113) = v := ⟨_, rfl⟩
   rw [h113] at f113
   have hf0 : A.eval (.func 30) = .func (.func 30) #[] #[] := rfl
   refine goOn_yes rfl rfl h99 ?_
   refine stepG_call (f := 30) (args := #[v109, v113]) rfl rfl ?_ ?_
   ·generalize A.eval = ev at *
    go_simp
   ·refine (mul7K E2 E3 E23m.k f109 f113).mono ?_
    rintro e w' ⟨v, rfl, hi, hb'⟩
    exact ⟨_, rfl, hb', hi⟩
  ·intro A w1 hA hL hS he
   have hb := hS rfl
   have h99 : A.eval (.tmp 99) = _ := he.2.2.2.1 rfl
   have f105 : ((.poly (by decide) (by decide) ((evalP (mulP p q) a C)) : FactL (Lr (none) (0)))).p (A.eval (.tmp 105)) w1 := he.1 rfl
   obtain ⟨v105, h105⟩ : ∃ v, A.eval (.tmp 105) = v := ⟨_, rfl⟩
   rw [h105] at f105
   have f114 : ((.poly (by decide) (by decide) ((mulP (evalP p a C) (evalP q a C))) : FactL (Lr (none) (0)))).p (A.eval (.tmp 114)) w1 := he.2.1 rfl
   obtain ⟨v114, h114⟩ : ∃ v, A.eval (.tmp 114) = v := ⟨_, rfl⟩
   rw [h114] at f114
   have hf0 : A.eval (.func 17) = .func (.func 17) #[] #[] := rfl
   refine goOn_yes rfl rfl h99 ?_
   refine stepG_call (f := 17) (args := #[v105, v114]) rfl rfl ?_ ?_
   ·generalize A.eval = ev at *
    go_simp
   ·refine (sameK E4 E23m i4.out f105 f114).mono ?_
    rintro e w' ⟨rfl, hb'⟩
    exact ⟨_, rfl, hb', rfl⟩
  ·exact fun A w1 hA hL hS he => goOn_plain rfl (stepG_pk rfl (he.1 rfl) rfl (he.2.1 rfl))
  intro w6 hL
  simp only [TailL, FactL.eq, FactL.poly, FactL.rat, FactL.ret, FactL.of, List.length_cons, List.length_nil, List.drop_succ_cons, List.drop_zero]
  rintro _ - _ - _ - _ - _ - _ - _ - _ - _ - _ -
  go_frame
  have hb := hL.below
  replace hp := hp.on hb
  replace hq := hq.on hb
  replace hc := hc.on hb
  replace hd := hd.on hb
  replace BC := BC.on hb
  replace BD := BD.on hb
  replace hb0 := hb0.trans (hb.mono hb0.size)
  clear hL hb
  clear i3 i4 S2 S3 S4 S23m E3 E4 E23m hf FK PM PQ Q hq
  have CK : Pk szF (constP C) := (nC.pk okC).mono (by decide +kernel) (by decide +kernel)
  have VK : Pk szF (varP a) := (Pk.var a).mono (by decide +kernel) (by decide +kernel)
  have T1 := subst_pk (v := a) subst_ok2 P.b CK.b (P.clen a)
  have T2 := subst_pk (v := a) subst_ok2 P.b VK.b (P.clen a)
  have i1 := Lib.hid (evalP_const P.v a C)
  have i2 := Lib.hid (substP_self P.v a)
  have hdg := evalP_deg p a C
  have hdk := fun W x (h : IsPoly W x (evalP p a C)) => deg7K E2 ha4 h
  generalize degP (evalP p a C) a = e at *
  have he1 : e < 1 := by omega
  replace hdk := Lib.hid hdk
  clear hdg
  go_upto_region 7 with (fail)
  refine wp_region_L mixed (none) (0) (Okr.none) [.eq (vp), .eq (.int .i64 (a : Int)), .eq (.agg #[.bool n5, .slice a5 k5 e5, .bool n6, .slice a6 k6 e6]), .poly (by decide) (by decide) ((evalP p a C)), .eq (vp), .eq (.int .i64 (a : Int)), .eq (.agg #[.bool n5, .slice a5 k5 e5, .bool n6, .slice a6 k6 e6]), .poly (by decide) (by decide) ((constP C)), .poly (by decide) (by decide) ((substP p a (constP C))), .ret (.bool true), .eq (.bool true), .eq (vp), .eq (.int .i64 (a : Int)), .eq (.agg #[.bool n5, .slice a5 k5 e5, .bool n6, .slice a6 k6 e6]), .poly (by decide) (by decide) ((evalP p a C)), .eq (.int .i64 (a : Int)), .ret (.int .i64 e), .eq (.bool true), .eq (.bool true), .eq (.bool true), .eq (vp), .eq (.int .i64 (a : Int)), .eq (.int .i64 (a : Int)), .poly (by decide) (by decide) ((varP a)), .poly (by decide) (by decide) ((substP p a (varP a))), .eq (vp), .ret (.bool true), .eq (.bool true)] [117, 118, 119, 120, 121, 122, 123, 124, 125, 126, 127, 128, 129, 130, 131, 132, 133, 134, 135, 136, 137, 138, 139, 140, 141, 142, 143, 144] rfl rfl rfl rfl ⟨?_, ?_, ?_, ?_, ?_, ?_, ?_, ?_, ?_, ?_, ?_, ?_, ?_, ?_, ?_, ?_, ?_, ?_, ?_, ?_, ?_, ?_, ?_, ?_, ?_, ?_, ?_, ?_, trivial⟩ ?_
  ·exact fun A w1 hA hL hS he => goOn_plain rfl (stepG_mv rfl rfl (hA 8 rfl))
  ·exact fun A w1 hA hL hS he => goOn_plain rfl (stepG_mv rfl rfl (hA 10 rfl))
  ·intro A w1 hA hL hS he
   have hb := hL.below
   have h12 : A.eval (.tmp 12) = .pointer (some ⟨d1, 0, none⟩) := hA 12 rfl
   have c0 := ((BC).on hb).at1 0 _ rfl
   have c1 := ((BC).on hb).at1 1 _ rfl
   have c2 := ((BC).on hb).at1 2 _ rfl
   have c3 := ((BC).on hb).at1 3 _ rfl
   refine goOn_plain rfl (stepG_pure rfl rfl ?_)
   generalize A.eval = ev at *
   go_simp
  ·intro A w1 hA hL hS he
   have hb := hS rfl
   have h117 : A.eval (.tmp 117) = _ := he.1 rfl
   have h118 : A.eval (.tmp 118) = _ := he.2.1 rfl
   have h119 : A.eval (.tmp 119) = _ := he.2.2.1 rfl
   have hf0 : A.eval (.func 51) = .func (.func 51) #[] #[] := rfl
   refine goOn_plain rfl ?_
   refine stepG_call (f := 51) (args := #[vp, .int .i64 (a : Int), .agg #[.bool n5, .slice a5 k5 e5, .bool n6, .slice a6 k6 e6]]) rfl rfl ?_ ?_
   ·generalize A.eval = ev at *
    go_simp
   ·refine (evalK P (P.get_le a) nC.d nC.b (by decide) E2.k okC ha4 (hp.on hb) (hc.on hb)).mono ?_
    rintro e w' ⟨v, rfl, hi, hb'⟩
    exact ⟨_, rfl, hb', hi⟩
  ·exact fun A w1 hA hL hS he => goOn_plain rfl (stepG_mv rfl rfl (hA 8 rfl))
  ·exact fun A w1 hA hL hS he => goOn_plain rfl (stepG_mv rfl rfl (hA 10 rfl))
  ·intro A w1 hA hL hS he
   have hb := hL.below
   have h12 : A.eval (.tmp 12) = .pointer (some ⟨d1, 0, none⟩) := hA 12 rfl
   have c0 := ((BC).on hb).at1 0 _ rfl
   have c1 := ((BC).on hb).at1 1 _ rfl
   have c2 := ((BC).on hb).at1 2 _ rfl
   have c3 := ((BC).on hb).at1 3 _ rfl
   refine goOn_plain rfl (stepG_pure rfl rfl ?_)
   generalize A.eval = ev at *
   go_simp
  ·intro A w1 hA hL hS he
   have hb := hS rfl
   have h123 : A.eval (.tmp 123) = _ := he.1 rfl
   have hf0 : A.eval (.func 49) = .func (.func 49) #[] #[] := rfl
   refine goOn_plain rfl ?_
   refine stepG_call (f := 49) (args := #[.agg #[.bool n5, .slice a5 k5 e5, .bool n6, .slice a6 k6 e6]]) rfl rfl ?_ ?_
   ·generalize A.eval = ev at *
    go_simp
   ·refine (const7_any _ C ⟨2, 9, 0, 1⟩ _ (hc.on hb) nC.bd okC).mono ?_
    rintro e w' ⟨v, rfl, hi, hb'⟩
    exact ⟨_, rfl, hb', hi⟩
  ·intro A w1 hA hL hS he
   have hb := hS rfl
   have h121 : A.eval (.tmp 121) = _ := he.1 rfl
   have h122 : A.eval (.tmp 122) = _ := he.2.1 rfl
   have f124 : ((.poly (by decide) (by decide) ((constP C)) : FactL (Lr (none) (0)))).p (A.eval (.tmp 124)) w1 := he.2.2.1 rfl
   obtain ⟨v124, h124⟩ : ∃ v, A.eval (.tmp 124) = v := ⟨_, rfl⟩
   rw [h124] at f124
   have hf0 : A.eval (.func 50) = .func (.func 50) #[] #[] := rfl
   refine goOn_plain rfl ?_
   refine stepG_call (f := 50) (args := #[vp, .int .i64 (a : Int), v124]) rfl rfl ?_ ?_
   ·generalize A.eval = ev at *
    go_simp
   ·refine (substK subst_ok2 P CK (by decide) (P.clen a) ha4 (hp.on hb) f124).mono ?_
    rintro e w' ⟨v, rfl, hi, hb'⟩
    exact ⟨_, rfl, hb', hi⟩
  ·intro A w1 hA hL hS he
   have hb := hS rfl
   have f120 : ((.poly (by decide) (by decide) ((evalP p a C)) : FactL (Lr (none) (0)))).p (A.eval (.tmp 120)) w1 := he.1 rfl
   obtain ⟨v120, h120⟩ : ∃ v, A.eval (.tmp 120) = v := ⟨_, rfl⟩
   rw [h120] at f120
   have f125 : ((.poly (by decide) (by decide) ((substP p a (constP C))) : FactL (Lr (none) (0)))).p (A.eval (.tmp 125)) w1 := he.2.1 rfl
   obtain ⟨v125, h125⟩ : ∃ v, A.eval (.tmp 125) = v := ⟨_, rfl⟩
   rw [h125] at f125
   have hf0 : A.eval (.func 17) = .func (.func 17) #[] #[] := rfl
   refine goOn_plain rfl ?_
   refine stepG_call (f := 17) (args := #[v120, v125]) rfl rfl ?_ ?_
   ·generalize A.eval = ev at *
    go_simp
   ·refine (sameK E2 T1 i1.out f120 f125).mono ?_
    rintro e w' ⟨rfl, hb'⟩
    exact ⟨_, rfl, hb', rfl⟩
  ·exact fun A w1 hA hL hS he => goOn_plain rfl (stepG_mv rfl rfl (he.1 rfl))
  ·exact fun A w1 hA hL hS he => goOn_yes rfl rfl (he.1 rfl) (stepG_mv rfl rfl (hA 8 rfl))
  ·exact fun A w1 hA hL hS he => goOn_yes rfl rfl (he.1 rfl) (stepG_mv rfl rfl (hA 10 rfl))
  ·intro A w1 hA hL hS he
   have hb := hL.below
   have h127 : A.eval (.tmp 127) = _ := he.1 rfl
   have h12 : A.eval (.tmp 12) = .pointer (some ⟨d1, 0, none⟩) := hA 12 rfl
   have c0 := ((BC).on hb).at1 0 _ rfl
   have c1 := ((BC).on hb).at1 1 _ rfl
   have c2 := ((BC).on hb).at1 2 _ rfl
   have c3 := ((BC).on hb).at1 3 _ rfl
   refine goOn_yes rfl rfl h127 ?_
   refine stepG_pure rfl rfl ?_
   generalize A.eval = ev at *
   go_simp
  ·intro A w1 hA hL hS he
   have hb := hS rfl
   have h127 : A.eval (.tmp 127) = _ := he.2.2.2.1 rfl
   have h128 : A.eval (.tmp 128) = _ := he.1 rfl
   have h129 : A.eval (.tmp 129) = _ := he.2.1 rfl
   have h130 : A.eval (.tmp 130) = _ := he.2.2.1 rfl
   have hf0 : A.eval (.func 51) = .func (.func 51) #[] #[] := rfl
   refine goOn_yes rfl rfl h127 ?_
   refine stepG_call (f := 51) (args := #[vp, .int .i64 (a : Int), .agg #[.bool n5, .slice a5 k5 e5, .bool n6, .slice a6 k6 e6]]) rfl rfl ?_ ?_
   ·generalize A.eval = ev at *
    go_simp
   ·refine (evalK P (P.get_le a) nC.d nC.b (by decide) E2.k okC ha4 (hp.on hb) (hc.on hb)).mono ?_
    rintro e w' ⟨v, rfl, hi, hb'⟩
    exact ⟨_, rfl, hb', hi⟩
  ·exact fun A w1 hA hL hS he => goOn_yes rfl rfl (he.1 rfl) (stepG_mv rfl rfl (hA 10 rfl))
  ·intro A w1 hA hL hS he
   have hb := hS rfl
   have h127 : A.eval (.tmp 127) = _ := he.2.2.2.1 rfl
   have f131 : ((.poly (by decide) (by decide) ((evalP p a C)) : FactL (Lr (none) (0)))).p (A.eval (.tmp 131)) w1 := he.1 rfl
   obtain ⟨v131, h131⟩ : ∃ v, A.eval (.tmp 131) = v := ⟨_, rfl⟩
   rw [h131] at f131
   have h132 : A.eval (.tmp 132) = _ := he.2.1 rfl
   have hf0 : A.eval (.func 34) = .func (.func 34) #[] #[] := rfl
   refine goOn_yes rfl rfl h127 ?_
   refine stepG_call (f := 34) (args := #[v131, .int .i64 (a : Int)]) rfl rfl ?_ ?_
   ·generalize A.eval = ev at *
    go_simp
   ·refine (hdk.out _ _ f131).mono ?_
    rintro e w' ⟨rfl, hb'⟩
    exact ⟨_, rfl, hb', rfl⟩
  ·intro A w1 hA hL hS he
   have h127 : A.eval (.tmp 127) = _ := he.2.1 rfl
   have h133 : A.eval (.tmp 133) = _ := he.1 rfl
   have hc0 : A.eval (.const (.int .i64 1)) = .int .i64 1 := rfl
   refine goOn_yes rfl rfl h127 ?_
   refine stepG_pure rfl rfl ?_
   generalize A.eval = ev at *
   go_simp
  ·exact fun A w1 hA hL hS he => goOn_plain rfl (stepG_pk rfl (he.1 rfl) rfl (he.2.1 rfl))
  ·exact fun A w1 hA hL hS he => goOn_plain rfl (stepG_mv rfl rfl (he.1 rfl))
  ·exact fun A w1 hA hL hS he => goOn_yes rfl rfl (he.1 rfl) (stepG_mv rfl rfl (hA 8 rfl))
  ·exact fun A w1 hA hL hS he => goOn_yes rfl rfl (he.1 rfl) (stepG_mv rfl rfl (hA 10 rfl))
  ·exact fun A w1 hA hL hS he => goOn_yes rfl rfl (he.1 rfl) (stepG_mv rfl rfl (hA 10 rfl))
  ·intro A w1 hA hL hS he
   have hb := hS rfl
   have h136 : A.eval (.tmp 136) = _ := he.2.1 rfl
   have h139 : A.eval (.tmp 139) = _ := he.1 rfl
   have hf0 : A.eval (.func 37) = .func (.func 37) #[] #[] := rfl
   refine goOn_yes rfl rfl h136 ?_
   refine stepG_call (f := 37) (args := #[.int .i64 (a : Int)]) rfl rfl ?_ ?_
   ·generalize A.eval = ev at *
    go_simp
   ·refine (var7_any a _ ha4).mono ?_
    rintro e w' ⟨v, rfl, hi, hb'⟩
    exact ⟨_, rfl, hb', hi⟩
  ·intro A w1 hA hL hS he
   have hb := hS rfl
   have h136 : A.eval (.tmp 136) = _ := he.2.2.2.2.1 rfl
   have h137 : A.eval (.tmp 137) = _ := he.1 rfl
   have h138 : A.eval (.tmp 138) = _ := he.2.1 rfl
   have f140 : ((.poly (by decide) (by decide) ((varP a)) : FactL (Lr (none) (0)))).p (A.eval (.tmp 140)) w1 := he.2.2.1 rfl
   obtain ⟨v140, h140⟩ : ∃ v, A.eval (.tmp 140) = v := ⟨_, rfl⟩
   rw [h140] at f140
   have hf0 : A.eval (.func 50) = .func (.func 50) #[] #[] := rfl
   refine goOn_yes rfl rfl h136 ?_
   refine stepG_call (f := 50) (args := #[vp, .int .i64 (a : Int), v140]) rfl rfl ?_ ?_
   ·generalize A.eval = ev at *
    go_simp
   ·refine (substK subst_ok2 P VK (by decide) (P.clen a) ha4 (hp.on hb) f140).mono ?_
    rintro e w' ⟨v, rfl, hi, hb'⟩
    exact ⟨_, rfl, hb', hi⟩
  ·exact fun A w1 hA hL hS he => goOn_yes rfl rfl (he.1 rfl) (stepG_mv rfl rfl (hA 8 rfl))
  ·intro A w1 hA hL hS he
   have hb := hS rfl
   have h136 : A.eval (.tmp 136) = _ := he.2.2.2.1 rfl
   have f141 : ((.poly (by decide) (by decide) ((substP p a (varP a))) : FactL (Lr (none) (0)))).p (A.eval (.tmp 141)) w1 := he.1 rfl
   obtain ⟨v141, h141⟩ : ∃ v, A.eval (.tmp 141) = v := ⟨_, rfl⟩
   rw [h141] at f141
   have h142 : A.eval (.tmp 142) = _ := he.2.1 rfl
   have hf0 : A.eval (.func 17) = .func (.func 17) #[] #[] := rfl
   refine goOn_yes rfl rfl h136 ?_
   refine stepG_call (f := 17) (args := #[v141, vp]) rfl rfl ?_ ?_
   ·generalize A.eval = ev at *
    go_simp
   ·refine (sameK T2 P i2.out f141 (hp.on hb)).mono ?_
    rintro e w' ⟨rfl, hb'⟩
    exact ⟨_, rfl, hb', rfl⟩
  ·exact fun A w1 hA hL hS he => goOn_plain rfl (stepG_pk rfl (he.1 rfl) rfl (he.2.1 rfl))
  intro w7 hL
  simp only [TailL, FactL.eq, FactL.poly, FactL.rat, FactL.ret, FactL.of, List.length_cons, List.length_nil, List.drop_succ_cons, List.drop_zero]
  rintro _ - _ - _ - _ - _ - _ -
  go_frame
  have hb := hL.below
  replace hp := hp.on hb
  replace hc := hc.on hb
  replace hd := hd.on hb
  replace BC := BC.on hb
  replace BD := BD.on hb
  replace hb0 := hb0.trans (hb.mono hb0.size)
  clear hL hb i1 i2 T1 T2 CK VK hdk he1
  go_upto_region 8 with (fail)
  go_cut [18, 145, 146, 147, 148, 149, 150, 151, 152, 153, 154, 155, 156, 157, 158, 159, 160, 161, 162, 163, 164] (fun v18 _ _ _ _ _ _ _ _ _ _ _ _ _ _ _ _ _ _ _ _ wd => v18 = .bool true ∧ Below w7.heap.size w7 wd)
  case first =>
   by_cases hab : a = b
   ·have k2 : ((a : Int) == (b : Int)) = true := by simp; omega
    clear hab
    refine wp_region_L mixed (none) (0) (Okr.none) [.eq (.int .i64 (a : Int)), .eq (.int .i64 (b : Int)), .eq (.bool true), .eq (.bool true), .eq undef, .eq undef, .eq undef, .eq undef, .eq undef, .eq undef, .eq undef, .eq undef, .eq undef, .eq undef, .eq undef, .eq undef, .eq undef, .eq undef, .eq undef, .eq (.bool true)] [145, 146, 147, 148, 149, 150, 151, 152, 153, 154, 155, 156, 157, 158, 159, 160, 161, 162, 163, 164] rfl rfl rfl rfl ⟨?_, ?_, ?_, ?_, ?_, ?_, ?_, ?_, ?_, ?_, ?_, ?_, ?_, ?_, ?_, ?_, ?_, ?_, ?_, ?_, trivial⟩ ?_
    ·exact fun A w1 hA hL hS he => goOn_plain rfl (stepG_mv rfl rfl (hA 10 rfl))
    ·exact fun A w1 hA hL hS he => goOn_plain rfl (stepG_mv rfl rfl (hA 11 rfl))
    ·intro A w1 hA hL hS he
     have h145 : A.eval (.tmp 145) = _ := he.1 rfl
     have h146 : A.eval (.tmp 146) = _ := he.2.1 rfl
     refine goOn_plain rfl (stepG_pure rfl rfl ?_)
     generalize A.eval = ev at *
     go_simp
    ·exact fun A w1 hA hL hS he => goOn_plain rfl (stepG_mv rfl rfl (he.1 rfl))
    ·exact fun A w1 hA hL hS he => goOn_no (x := true) rfl rfl (he.1 rfl) rfl rfl
    ·exact fun A w1 hA hL hS he => goOn_no (x := true) rfl rfl (he.1 rfl) rfl rfl
    ·exact fun A w1 hA hL hS he => goOn_no (x := true) rfl rfl (he.1 rfl) rfl rfl
    ·exact fun A w1 hA hL hS he => goOn_no (x := true) rfl rfl (he.2.2.2.1 rfl) rfl rfl
    ·exact fun A w1 hA hL hS he => goOn_no (x := true) rfl rfl (he.1 rfl) rfl rfl
    ·exact fun A w1 hA hL hS he => goOn_no (x := true) rfl rfl (he.1 rfl) rfl rfl
    ·exact fun A w1 hA hL hS he => goOn_no (x := true) rfl rfl (he.2.2.2.2.1 rfl) rfl rfl
    ·exact fun A w1 hA hL hS he => goOn_no (x := true) rfl rfl (he.1 rfl) rfl rfl
    ·exact fun A w1 hA hL hS he => goOn_no (x := true) rfl rfl (he.1 rfl) rfl rfl
    ·exact fun A w1 hA hL hS he => goOn_no (x := true) rfl rfl (he.1 rfl) rfl rfl
    ·exact fun A w1 hA hL hS he => goOn_no (x := true) rfl rfl (he.2.2.2.2.1 rfl) rfl rfl
    ·exact fun A w1 hA hL hS he => goOn_no (x := true) rfl rfl (he.1 rfl) rfl rfl
    ·exact fun A w1 hA hL hS he => goOn_no (x := true) rfl rfl (he.1 rfl) rfl rfl
    ·exact fun A w1 hA hL hS he => goOn_no (x := true) rfl rfl (he.2.2.2.2.1 rfl) rfl rfl
    ·exact fun A w1 hA hL hS he => goOn_no (x := true) rfl rfl (he.2.2.2.1 rfl) rfl rfl
    ·exact fun A w1 hA hL hS he => goOn_plain rfl (stepG_pk rfl (he.1 rfl) rfl rfl)
    intro w8 hL
    simp only [TailL, FactL.eq, FactL.poly, FactL.rat, FactL.ret, FactL.of, List.length_cons, List.length_nil, List.drop_succ_cons, List.drop_zero]
    go_frame
    go_wp2
    go_meet
    case rel => exact ⟨rfl, hL.below⟩
   ·have k1 : ¬ (a : Int) = (b : Int) := by omega
    have k2 : ((a : Int) == (b : Int)) = false := by simp; omega
    have F1 := eval_pk E2 (E2.get_le b) nD.d nD.b (by decide) (by decide +kernel)
    have G1 := eval_pk P (P.get_le b) nD.d nD.b (by decide) (by decide +kernel)
    have G2 := eval_pk G1 (G1.get_le a) nC.d nC.b (by decide) (by decide +kernel)
    have i1 := Lib.hid (evalP_comm P.v ha4 hb4 hab C D)
    refine wp_region_L mixed (none) (0) (Okr.none) [.eq (.int .i64 (a : Int)), .eq (.int .i64 (b : Int)), .eq (.bool false), .eq (.bool false), .eq (vp), .eq (.int .i64 (a : Int)), .eq (.agg #[.bool n5, .slice a5 k5 e5, .bool n6, .slice a6 k6 e6]), .poly (by decide) (by decide) ((evalP p a C)), .eq (.int .i64 (b : Int)), .eq (.agg #[.bool n7, .slice a7 k7 e7, .bool n8, .slice a8 k8 e8]), .poly (by decide) (by decide) ((evalP (evalP p a C) b D)), .eq (vp), .eq (.int .i64 (b : Int)), .eq (.agg #[.bool n7, .slice a7 k7 e7, .bool n8, .slice a8 k8 e8]), .poly (by decide) (by decide) ((evalP p b D)), .eq (.int .i64 (a : Int)), .eq (.agg #[.bool n5, .slice a5 k5 e5, .bool n6, .slice a6 k6 e6]), .poly (by decide) (by decide) ((evalP (evalP p b D) a C)), .ret (.bool true), .eq (.bool true)] [145, 146, 147, 148, 149, 150, 151, 152, 153, 154, 155, 156, 157, 158, 159, 160, 161, 162, 163, 164] rfl rfl rfl rfl ⟨?_, ?_, ?_, ?_, ?_, ?_, ?_, ?_, ?_, ?_, ?_, ?_, ?_, ?_, ?_, ?_, ?_, ?_, ?_, ?_, trivial⟩ ?_
    ·exact fun A w1 hA hL hS he => goOn_plain rfl (stepG_mv rfl rfl (hA 10 rfl))
    ·exact fun A w1 hA hL hS he => goOn_plain rfl (stepG_mv rfl rfl (hA 11 rfl))
    ·intro A w1 hA hL hS he
     have h145 : A.eval (.tmp 145) = _ := he.1 rfl
     have h146 : A.eval (.tmp 146) = _ := he.2.1 rfl
     refine goOn_plain rfl (stepG_pure rfl rfl ?_)
     generalize A.eval = ev at *
     go_simp
    ·exact fun A w1 hA hL hS he => goOn_plain rfl (stepG_mv rfl rfl (he.1 rfl))
    ·exact fun A w1 hA hL hS he => goOn_yes rfl rfl (he.1 rfl) (stepG_mv rfl rfl (hA 8 rfl))
    ·exact fun A w1 hA hL hS he => goOn_yes rfl rfl (he.1 rfl) (stepG_mv rfl rfl (hA 10 rfl))
    ·intro A w1 hA hL hS he
     have hb := hL.below
     have h148 : A.eval (.tmp 148) = _ := he.1 rfl
     have h12 : A.eval (.tmp 12) = .pointer (some ⟨d1, 0, none⟩) := hA 12 rfl
     have c0 := ((BC).on hb).at1 0 _ rfl
     have c1 := ((BC).on hb).at1 1 _ rfl
     have c2 := ((BC).on hb).at1 2 _ rfl
     have c3 := ((BC).on hb).at1 3 _ rfl
     refine goOn_yes rfl rfl h148 ?_
     refine stepG_pure rfl rfl ?_
     generalize A.eval = ev at *
     go_simp
    ·intro A w1 hA hL hS he
     have hb := hS rfl
     have h148 : A.eval (.tmp 148) = _ := he.2.2.2.1 rfl
     have h149 : A.eval (.tmp 149) = _ := he.1 rfl
     have h150 : A.eval (.tmp 150) = _ := he.2.1 rfl
     have h151 : A.eval (.tmp 151) = _ := he.2.2.1 rfl
     have hf0 : A.eval (.func 51) = .func (.func 51) #[] #[] := rfl
     refine goOn_yes rfl rfl h148 ?_
     refine stepG_call (f := 51) (args := #[vp, .int .i64 (a : Int), .agg #[.bool n5, .slice a5 k5 e5, .bool n6, .slice a6 k6 e6]]) rfl rfl ?_ ?_
     ·generalize A.eval = ev at *
      go_simp
     ·refine (evalK P (P.get_le a) nC.d nC.b (by decide) E2.k okC ha4 (hp.on hb) (hc.on hb)).mono ?_
      rintro e w' ⟨v, rfl, hi, hb'⟩
      exact ⟨_, rfl, hb', hi⟩
    ·exact fun A w1 hA hL hS he => goOn_yes rfl rfl (he.1 rfl) (stepG_mv rfl rfl (hA 11 rfl))
    ·intro A w1 hA hL hS he
     have hb := hL.below
     have h148 : A.eval (.tmp 148) = _ := he.1 rfl
     have h13 : A.eval (.tmp 13) = .pointer (some ⟨d2, 0, none⟩) := hA 13 rfl
     have c0 := ((BD).on hb).at1 0 _ rfl
     have c1 := ((BD).on hb).at1 1 _ rfl
     have c2 := ((BD).on hb).at1 2 _ rfl
     have c3 := ((BD).on hb).at1 3 _ rfl
     refine goOn_yes rfl rfl h148 ?_
     refine stepG_pure rfl rfl ?_
     generalize A.eval = ev at *
     go_simp
    ·intro A w1 hA hL hS he
     have hb := hS rfl
     have h148 : A.eval (.tmp 148) = _ := he.2.2.2.2.1 rfl
     have f152 : ((.poly (by decide) (by decide) ((evalP p a C)) : FactL (Lr (none) (0)))).p (A.eval (.tmp 152)) w1 := he.1 rfl
     obtain ⟨v152, h152⟩ : ∃ v, A.eval (.tmp 152) = v := ⟨_, rfl⟩
     rw [h152] at f152
     have h153 : A.eval (.tmp 153) = _ := he.2.1 rfl
     have h154 : A.eval (.tmp 154) = _ := he.2.2.1 rfl
     have hf0 : A.eval (.func 51) = .func (.func 51) #[] #[] := rfl
     refine goOn_yes rfl rfl h148 ?_
     refine stepG_call (f := 51) (args := #[v152, .int .i64 (b : Int), .agg #[.bool n7, .slice a7 k7 e7, .bool n8, .slice a8 k8 e8]]) rfl rfl ?_ ?_
     ·generalize A.eval = ev at *
      go_simp
     ·refine (evalK E2 (E2.get_le b) nD.d nD.b (by decide) F1.k okD hb4 f152 (hd.on hb)).mono ?_
      rintro e w' ⟨v, rfl, hi, hb'⟩
      exact ⟨_, rfl, hb', hi⟩
    ·exact fun A w1 hA hL hS he => goOn_yes rfl rfl (he.1 rfl) (stepG_mv rfl rfl (hA 8 rfl))
    ·exact fun A w1 hA hL hS he => goOn_yes rfl rfl (he.1 rfl) (stepG_mv rfl rfl (hA 11 rfl))
    ·intro A w1 hA hL hS he
     have hb := hL.below
     have h148 : A.eval (.tmp 148) = _ := he.1 rfl
     have h13 : A.eval (.tmp 13) = .pointer (some ⟨d2, 0, none⟩) := hA 13 rfl
     have c0 := ((BD).on hb).at1 0 _ rfl
     have c1 := ((BD).on hb).at1 1 _ rfl
     have c2 := ((BD).on hb).at1 2 _ rfl
     have c3 := ((BD).on hb).at1 3 _ rfl
     refine goOn_yes rfl rfl h148 ?_
     refine stepG_pure rfl rfl ?_
     generalize A.eval = ev at *
     go_simp
    ·intro A w1 hA hL hS he
     have hb := hS rfl
     have h148 : A.eval (.tmp 148) = _ := he.2.2.2.2.1 rfl
     have h156 : A.eval (.tmp 156) = _ := he.1 rfl
     have h157 : A.eval (.tmp 157) = _ := he.2.1 rfl
     have h158 : A.eval (.tmp 158) = _ := he.2.2.1 rfl
     have hf0 : A.eval (.func 51) = .func (.func 51) #[] #[] := rfl
     refine goOn_yes rfl rfl h148 ?_
     refine stepG_call (f := 51) (args := #[vp, .int .i64 (b : Int), .agg #[.bool n7, .slice a7 k7 e7, .bool n8, .slice a8 k8 e8]]) rfl rfl ?_ ?_
     ·generalize A.eval = ev at *
      go_simp
     ·refine (evalK P (P.get_le b) nD.d nD.b (by decide) G1.k okD hb4 (hp.on hb) (hd.on hb)).mono ?_
      rintro e w' ⟨v, rfl, hi, hb'⟩
      exact ⟨_, rfl, hb', hi⟩
    ·exact fun A w1 hA hL hS he => goOn_yes rfl rfl (he.1 rfl) (stepG_mv rfl rfl (hA 10 rfl))
    ·intro A w1 hA hL hS he
     have hb := hL.below
     have h148 : A.eval (.tmp 148) = _ := he.1 rfl
     have h12 : A.eval (.tmp 12) = .pointer (some ⟨d1, 0, none⟩) := hA 12 rfl
     have c0 := ((BC).on hb).at1 0 _ rfl
     have c1 := ((BC).on hb).at1 1 _ rfl
     have c2 := ((BC).on hb).at1 2 _ rfl
     have c3 := ((BC).on hb).at1 3 _ rfl
     refine goOn_yes rfl rfl h148 ?_
     refine stepG_pure rfl rfl ?_
     generalize A.eval = ev at *
     go_simp
    ·intro A w1 hA hL hS he
     have hb := hS rfl
     have h148 : A.eval (.tmp 148) = _ := he.2.2.2.2.1 rfl
     have f159 : ((.poly (by decide) (by decide) ((evalP p b D)) : FactL (Lr (none) (0)))).p (A.eval (.tmp 159)) w1 := he.1 rfl
     obtain ⟨v159, h159⟩ : ∃ v, A.eval (.tmp 159) = v := ⟨_, rfl⟩
     rw [h159] at f159
     have h160 : A.eval (.tmp 160) = _ := he.2.1 rfl
     have h161 : A.eval (.tmp 161) = _ := he.2.2.1 rfl
     have hf0 : A.eval (.func 51) = .func (.func 51) #[] #[] := rfl
     refine goOn_yes rfl rfl h148 ?_
     refine stepG_call (f := 51) (args := #[v159, .int .i64 (a : Int), .agg #[.bool n5, .slice a5 k5 e5, .bool n6, .slice a6 k6 e6]]) rfl rfl ?_ ?_
     ·generalize A.eval = ev at *
      go_simp
     ·refine (evalK G1 (G1.get_le a) nC.d nC.b (by decide) G2.k okC ha4 f159 (hc.on hb)).mono ?_
      rintro e w' ⟨v, rfl, hi, hb'⟩
      exact ⟨_, rfl, hb', hi⟩
    ·intro A w1 hA hL hS he
     have hb := hS rfl
     have h148 : A.eval (.tmp 148) = _ := he.2.2.2.1 rfl
     have f155 : ((.poly (by decide) (by decide) ((evalP (evalP p a C) b D)) : FactL (Lr (none) (0)))).p (A.eval (.tmp 155)) w1 := he.1 rfl
     obtain ⟨v155, h155⟩ : ∃ v, A.eval (.tmp 155) = v := ⟨_, rfl⟩
     rw [h155] at f155
     have f162 : ((.poly (by decide) (by decide) ((evalP (evalP p b D) a C)) : FactL (Lr (none) (0)))).p (A.eval (.tmp 162)) w1 := he.2.1 rfl
     obtain ⟨v162, h162⟩ : ∃ v, A.eval (.tmp 162) = v := ⟨_, rfl⟩
     rw [h162] at f162
     have hf0 : A.eval (.func 17) = .func (.func 17) #[] #[] := rfl
     refine goOn_yes rfl rfl h148 ?_
     refine stepG_call (f := 17) (args := #[v155, v162]) rfl rfl ?_ ?_
     ·generalize A.eval = ev at *
      go_simp
     ·refine (sameK F1 G2 i1.out f155 f162).mono ?_
      rintro e w' ⟨rfl, hb'⟩
      exact ⟨_, rfl, hb', rfl⟩
    ·exact fun A w1 hA hL hS he => goOn_plain rfl (stepG_pk rfl (he.1 rfl) rfl (he.2.1 rfl))
    intro w8 hL
    simp only [TailL, FactL.eq, FactL.poly, FactL.rat, FactL.ret, FactL.of, List.length_cons, List.length_nil, List.drop_succ_cons, List.drop_zero]
    rintro _ - _ - _ - _ -
    go_frame
    go_wp2
    go_meet
    case rel => exact ⟨rfl, hL.below⟩
  case rest =>
   obtain ⟨rfl, hbc⟩ := hcut
   replace hb0 := hb0.trans (hbc.mono hb0.size)
   go_wp2
   go_ret
   exact ⟨rfl, hb0⟩
end Go.Proofs.YtplfdeohokkebaaGreat
