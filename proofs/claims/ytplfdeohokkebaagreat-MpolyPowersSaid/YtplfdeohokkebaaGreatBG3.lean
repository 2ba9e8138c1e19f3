/- law07.MpolyPowers: the walk. -/
import Derived.Test.YtplfdeohokkebaaGreatB37
import Derived.Test.YtplfdeohokkebaaGreatBE6
set_option linter.unusedVariables false
set_option linter.unusedSimpArgs false
namespace Q
theorem szP_ok : ∀ j, j ≤ 6 → (szp ⟨1, 36, 2, 4⟩ j).ok := by
  intro j hj
  obtain rfl | rfl | rfl | rfl | rfl | rfl | rfl : j = 0 ∨ j = 1 ∨ j = 2 ∨ j = 3 ∨ j = 4 ∨ j = 5 ∨ j = 6 := by omega
  all_goals decide +kernel
theorem szQ_ok : ∀ j, j ≤ 6 → (szp ⟨1, 18, 2, 2⟩ j).ok := by
  intro j hj
  obtain rfl | rfl | rfl | rfl | rfl | rfl | rfl : j = 0 ∨ j = 1 ∨ j = 2 ∨ j = 3 ∨ j = 4 ∨ j = 5 ∨ j = 6 := by omega
  all_goals decide +kernel
theorem szV_ok : ∀ j, j ≤ 6 → (szp ⟨1, 1, 1, 1⟩ j).ok := by
  intro j hj
  obtain rfl | rfl | rfl | rfl | rfl | rfl | rfl : j = 0 ∨ j = 1 ∨ j = 2 ∨ j = 3 ∨ j = 4 ∨ j = 5 ∨ j = 6 := by omega
  all_goals decide +kernel
theorem szPQ_ok : ∀ j, j ≤ 3 → (szp ((⟨1, 36, 2, 4⟩ : Sz).mul ⟨1, 18, 2, 2⟩) j).ok ∧ ((szp ⟨1, 36, 2, 4⟩ j).mul (szp ⟨1, 18, 2, 2⟩ j)).ok := by
  intro j hj
  obtain rfl | rfl | rfl | rfl : j = 0 ∨ j = 1 ∨ j = 2 ∨ j = 3 := by omega
  all_goals decide +kernel
end Q
namespace Go.Proofs.YtplfdeohokkebaaGreat
open Go.RowKit Q Go.WideMaps Go.Maps
theorem ex2_nat (n : Nat) : Pk ⟨1, 1, 3, 1⟩ (powP (varP 2) n) ∨ 3 < n := by
  rcases Nat.lt_or_ge 3 n with h | h
  · exact .inr h
  · left
    obtain rfl | rfl | rfl | rfl : n = 0 ∨ n = 1 ∨ n = 2 ∨ n = 3 := by omega
    all_goals exact ⟨Vld.pow _ _, smB_bd (by decide +kernel), by decide +kernel⟩
set_option maxHeartbeats 16000000 in
set_option maxRecDepth 100000 in
theorem powers_any (v1 v2 : Value) (x y : Int) (L1 L2 : List Drw) (w : World) (h1 : IsDraw w v1 L1) (h2 : IsDraw w v2 L2) (x0 : 0 ≤ x) (x1 : x < 256) (y0 : 0 ≤ y) (y1 : y < 256) :
    Calls Tryz.prog 5 #[v1, v2, .agg #[.int .u8 x, .int .u8 y]] w (Ret w (.bool true)) := by
  have P : Pk ⟨1, 36, 2, 4⟩ (madeP L1 4 2) := made_pk (n := 4) (vs := 2) L1 (by decide)
  have Q : Pk ⟨1, 18, 2, 2⟩ (madeP L2 2 2) := made_pk (n := 2) (vs := 2) L2 (by decide)
  have m1 := Lib.hid (fun W (hb : Below w.heap.size w W) => made_draw_any v1 L1 4 2 W (h1.on hb) (by decide) (by decide))
  have m2 := Lib.hid (fun W (hb : Below w.heap.size w W) => made_draw_any v2 L2 2 2 W (h2.on hb) (by decide) (by decide))
  generalize madeP L1 4 2 = p at *
  generalize madeP L2 2 2 = q at *
  obtain ⟨m, hm, hm4⟩ := mod4 x0
  obtain ⟨n, hn, hn4⟩ := mod4 y0
  have hwx : IntKind.i64.wrap x = x := wrap_id (by omega)
  have hwy : IntKind.i64.wrap y = y := wrap_id (by omega)
  have hxt : x.tmod 4 = (m : Int) := by rw [Int.tmod_eq_emod_of_nonneg x0]; exact hm
  have hyt : y.tmod 4 = (n : Int) := by rw [Int.tmod_eq_emod_of_nonneg y0]; exact hn
  have hwmn : IntKind.i64.wrap ((m : Int) + (n : Int)) = ((m + n : Nat) : Int) := by rw [wrap_id (by omega)]; omega
  have hwn : IntKind.i64.wrap (-1 - (n : Int)) = -1 - (n : Int) := wrap_id (by omega)
  clear h1 h2 hm hn
  go_enter Tryz.func5, Tryz.ntmps5
  go_upto_region 1 with (fail)
  refine abs1 fun W0 hbw0 B hsz => ?_
  go_upto_region 2 with (go_at_call 12; refine (sanity_any _).mono ?_; rintro e w1 ⟨rfl, hb1⟩)
  have hb0 := hbw0.trans (hb1.mono hbw0.size)
  have B1 := B.on hb1
  refine wp_region_L mixed (none) (0) (Okr.none) [.eq (v1), .poly (by decide) (by decide) (p), .eq (v2), .poly (by decide) (by decide) (q), .eq (.pointer (some ⟨w.heap.size, 0, none⟩)), .eq (.int .u8 x), .eq (.int .i64 x), .eq (.int .i64 (m : Int)), .eq (.pointer (some ⟨w.heap.size, 1, none⟩)), .eq (.int .u8 y), .eq (.int .i64 y), .eq (.int .i64 (n : Int)), .poly (by decide) (by decide) (p), .poly (by decide) (by decide) (q), .eq (.int .i64 (m : Int))] [14, 15, 16, 17, 18, 19, 20, 21, 22, 23, 24, 25, 8, 9, 10] rfl rfl rfl rfl ⟨?_, ?_, ?_, ?_, ?_, ?_, ?_, ?_, ?_, ?_, ?_, ?_, ?_, ?_, ?_, trivial⟩ ?_
  · exact fun A w1 hA hL hS he => goOn_plain rfl (stepG_mv rfl rfl (hA 0 rfl))
  · intro A w1 hA hL hS he
    have hb := hS rfl
    have h14 : A.eval (.tmp 14) = _ := he.1 rfl
    have hf0 : A.eval (.func 28) = .func (.func 28) #[] #[] := rfl
    have hc0 : A.eval (.const (.int .i64 4)) = .int .i64 4 := rfl
    have hc1 : A.eval (.const (.int .i64 2)) = .int .i64 2 := rfl
    refine goOn_plain rfl ?_
    refine stepG_call (f := 28) (args := #[v1, (.int .i64 4), (.int .i64 2)]) rfl rfl ?_ ?_
    · generalize A.eval = ev at *
      go_simp
    · refine (m1.out _ (hb0.trans (hb.mono hb0.size))).mono ?_
      rintro e w' ⟨v, rfl, hi, hb'⟩
      exact ⟨_, rfl, hb', hi⟩
  · exact fun A w1 hA hL hS he => goOn_plain rfl (stepG_mv rfl rfl (hA 1 rfl))
  · intro A w1 hA hL hS he
    have hb := hS rfl
    have h16 : A.eval (.tmp 16) = _ := he.1 rfl
    have hf0 : A.eval (.func 28) = .func (.func 28) #[] #[] := rfl
    have hc0 : A.eval (.const (.int .i64 2)) = .int .i64 2 := rfl
    refine goOn_plain rfl ?_
    refine stepG_call (f := 28) (args := #[v2, (.int .i64 2), (.int .i64 2)]) rfl rfl ?_ ?_
    · generalize A.eval = ev at *
      go_simp
    · refine (m2.out _ (hb0.trans (hb.mono hb0.size))).mono ?_
      rintro e w' ⟨v, rfl, hi, hb'⟩
      exact ⟨_, rfl, hb', hi⟩
  · intro A w1 hA hL hS he
    have h5 : A.eval (.tmp 5) = .pointer (some ⟨w.heap.size, 0, none⟩) := hA 5 rfl
    have hc0 : A.eval (.const (.int .i64 0)) = .int .i64 0 := rfl
    refine goOn_plain rfl (stepG_pure rfl rfl ?_)
    generalize A.eval = ev at *
    go_simp
  · intro A w1 hA hL hS he
    have hb := hL.below
    have h18 : A.eval (.tmp 18) = _ := he.1 rfl
    have c0 := ((B1).on hb).at1 0 _ rfl
    refine goOn_plain rfl (stepG_pure rfl rfl ?_)
    generalize A.eval = ev at *
    go_simp
  · intro A w1 hA hL hS he
    have h19 : A.eval (.tmp 19) = _ := he.1 rfl
    refine goOn_plain rfl (stepG_pure rfl rfl ?_)
    generalize A.eval = ev at *
    go_simp
  · intro A w1 hA hL hS he
    have h20 : A.eval (.tmp 20) = _ := he.1 rfl
    have hc0 : A.eval (.const (.int .i64 4)) = .int .i64 4 := rfl
    refine goOn_plain rfl (stepG_pure rfl rfl ?_)
    generalize A.eval = ev at *
    go_simp
  · intro A w1 hA hL hS he
    have h5 : A.eval (.tmp 5) = .pointer (some ⟨w.heap.size, 0, none⟩) := hA 5 rfl
    have hc0 : A.eval (.const (.int .i64 1)) = .int .i64 1 := rfl
    refine goOn_plain rfl (stepG_pure rfl rfl ?_)
    generalize A.eval = ev at *
    go_simp
  · intro A w1 hA hL hS he
    have hb := hL.below
    have h22 : A.eval (.tmp 22) = _ := he.1 rfl
    have c0 := ((B1).on hb).at1 1 _ rfl
    refine goOn_plain rfl (stepG_pure rfl rfl ?_)
    generalize A.eval = ev at *
    go_simp
  · intro A w1 hA hL hS he
    have h23 : A.eval (.tmp 23) = _ := he.1 rfl
    refine goOn_plain rfl (stepG_pure rfl rfl ?_)
    generalize A.eval = ev at *
    go_simp
  · intro A w1 hA hL hS he
    have h24 : A.eval (.tmp 24) = _ := he.1 rfl
    have hc0 : A.eval (.const (.int .i64 4)) = .int .i64 4 := rfl
    refine goOn_plain rfl (stepG_pure rfl rfl ?_)
    generalize A.eval = ev at *
    go_simp
  · intro A w1 hA hL hS he
    have f15 : ((.poly (by decide) (by decide) (p) : FactL (Lr (none) (0)))).p (A.eval (.tmp 15)) w1 := he.1 rfl
    obtain ⟨v15, h15⟩ : ∃ v, A.eval (.tmp 15) = v := ⟨_, rfl⟩
    rw [h15] at f15
    refine goOn_plain rfl ?_
    exact stepG_value (c := v15) rfl rfl (Below.refl _ _) f15 (by show Result.ok (Next.value (A.eval (.tmp 15))) w1 = _; rw [h15])
  · intro A w1 hA hL hS he
    have f17 : ((.poly (by decide) (by decide) (q) : FactL (Lr (none) (0)))).p (A.eval (.tmp 17)) w1 := he.1 rfl
    obtain ⟨v17, h17⟩ : ∃ v, A.eval (.tmp 17) = v := ⟨_, rfl⟩
    rw [h17] at f17
    refine goOn_plain rfl ?_
    exact stepG_value (c := v17) rfl rfl (Below.refl _ _) f17 (by show Result.ok (Next.value (A.eval (.tmp 17))) w1 = _; rw [h17])
  · intro A w1 hA hL hS he
    have h21 : A.eval (.tmp 21) = _ := he.1 rfl
    refine goOn_plain rfl (stepG_pure rfl rfl ?_)
    generalize A.eval = ev at *
    go_simp
  intro w2 hL
  simp only [TailL, FactL.eq, FactL.poly, FactL.ret, FactL.of, List.length_cons, List.length_nil, List.drop_succ_cons, List.drop_zero]
  rintro _ - _ - vp hp vq hq
  go_frame
  replace hb0 := hb0.trans (hL.below.mono hb0.size)
  clear hL hb1 m1 m2 B B1 hxt hyt hwx hwy x0 x1 y0 y1 hbw0 hsz
  have PM := P.pow m (szP_ok m (by omega))
  have PN := P.pow n (szP_ok n (by omega))
  have PMN := P.pow (m + n) (szP_ok (m + n) (by omega))
  have PQ := P.mul Q (by decide +kernel)
  have QM := Q.pow m (szQ_ok m (by omega))
  have PQM := PQ.pow m (szPQ_ok m (by omega)).1
  have PMQM := PM.mul QM (szPQ_ok m (by omega)).2
  have PMPN := PM.mul PN (by rw [szp_mul]; exact szP_ok _ (by omega))
  have XN : Pk ⟨1, 1, 3, 1⟩ (powP (varP 2) n) := (ex2_nat n).resolve_right (by omega)
  have XN' : Pk ⟨1, 1, 3, 1⟩ [(((0, 0, (n : Int), 0) : Ex), (1 : Rat))] := powP_var2 n ▸ XN
  have e1 := powP_add P.v m n
  have e2 := powP_mul P.v Q.v m
  have e3 := powP_var2 n
  replace e1 := Lib.hid e1
  replace e2 := Lib.hid e2
  replace e3 := Lib.hid e3
  go_upto_region 3 with (fail)
  refine wp_region_S trivial (none) (0) (Okr.none) [.eq (vp), .eq (.int .i64 (m : Int)), .poly (by decide) (by decide) ((powP p m))] [26, 27, 28] rfl rfl rfl rfl ⟨?_, ?_, ?_, trivial⟩ ?_
  · exact fun A w1 hA hL hS he => goOn_plain rfl (stepG_mv rfl rfl (hA 8 rfl))
  · exact fun A w1 hA hL hS he => goOn_plain rfl (stepG_mv rfl rfl (hA 10 rfl))
  · intro A w1 hA hL hS he
    have hb := hS rfl
    have h26 : A.eval (.tmp 26) = _ := he.1 rfl
    have h27 : A.eval (.tmp 27) = _ := he.2.1 rfl
    have hf0 : A.eval (.func 29) = .func (.func 29) #[] #[] := rfl
    refine goOn_plain rfl ?_
    refine stepG_call (f := 29) (args := #[vp, .int .i64 (m : Int)]) rfl rfl ?_ ?_
    · generalize A.eval = ev at *
      go_simp
    · refine (powK P (by omega) (fun j hj => szP_ok j (by omega)) (hp.on hb)).mono ?_
      rintro e w' ⟨v, rfl, hi, hb'⟩
      exact ⟨_, rfl, hb', hi⟩
  intro w3 hL
  simp only [TailL, FactL.eq, FactL.poly, FactL.ret, FactL.of, List.length_cons, List.length_nil, List.drop_succ_cons, List.drop_zero]
  rintro vm hm
  go_frame
  have hb := hL.below
  replace hp := hp.on hb
  replace hq := hq.on hb
  replace hb0 := hb0.trans (hb.mono hb0.size)
  clear hL hb
  go_upto_region 4 with (fail)
  refine wp_region_S trivial (none) (0) (Okr.none) [.eq (vm), .eq (vp), .eq (.int .i64 (n : Int)), .poly (by decide) (by decide) ((powP p n)), .poly (by decide) (by decide) ((mulP (powP p m) (powP p n))), .eq (vp), .eq (.int .i64 (m : Int)), .eq (.int .i64 (n : Int)), .eq (.int .i64 ((m + n : Nat) : Int)), .poly (by decide) (by decide) ((powP p (m + n))), .ret (.bool true), .eq (.bool true), .eq (vp), .eq (vq), .poly (by decide) (by decide) ((mulP p q)), .eq (.int .i64 (m : Int)), .poly (by decide) (by decide) ((powP (mulP p q) m)), .eq (vm), .eq (vq), .eq (.int .i64 (m : Int)), .poly (by decide) (by decide) ((powP q m)), .poly (by decide) (by decide) ((mulP (powP p m) (powP q m))), .ret (.bool true), .eq (.bool true), .eq (.bool true), .poly (by decide) (by decide) ((varP 2)), .eq (.int .i64 (n : Int)), .poly (by decide) (by decide) ((powP (varP 2) n)), .eq (.int .i64 (n : Int)), .eq (.agg #[.int .i64 0, .int .i64 0, .int .i64 (n : Int), .int .i64 0]), .rat (by decide) (((1 : Int) : Rat)), .term (by decide) (((0, 0, (n : Int), 0)), (((1 : Int) : Rat))), .new1 elTerm (elTerm_ok (by decide)) (((0, 0, (n : Int), 0), ((1 : Int) : Rat))), .ret (.bool true), .eq (.bool true), .eq (.bool true), .eq (vp), .eq (.int .i64 (n : Int)), .eq (.int .i64 (-1 - (n : Int))), .poly (by decide) (by decide) ([]), .eq (.int .i64 0), .eq (.bool true), .eq (.bool true), .eq (.bool true), .eq (.bool true), .eq (.bool true)] [29, 30, 31, 32, 33, 34, 35, 36, 37, 38, 39, 40, 41, 42, 43, 44, 45, 46, 47, 48, 49, 50, 51, 52, 53, 54, 55, 56, 57, 58, 59, 60, 61, 62, 63, 64, 65, 66, 67, 68, 69, 70, 71, 72, 73, 74] rfl rfl rfl rfl ⟨?_, ?_, ?_, ?_, ?_, ?_, ?_, ?_, ?_, ?_, ?_, ?_, ?_, ?_, ?_, ?_, ?_, ?_, ?_, ?_, ?_, ?_, ?_, ?_, ?_, ?_, ?_, ?_, ?_, ?_, ?_, ?_, ?_, ?_, ?_, ?_, ?_, ?_, ?_, ?_, ?_, ?_, ?_, ?_, ?_, ?_, trivial⟩ ?_
  · exact fun A w1 hA hL hS he => goOn_plain rfl (stepG_mv rfl rfl (hA 12 rfl))
  · exact fun A w1 hA hL hS he => goOn_plain rfl (stepG_mv rfl rfl (hA 8 rfl))
  · exact fun A w1 hA hL hS he => goOn_plain rfl (stepG_mv rfl rfl (hA 11 rfl))
  · intro A w1 hA hL hS he
    have hb := hS rfl
    have h30 : A.eval (.tmp 30) = _ := he.1 rfl
    have h31 : A.eval (.tmp 31) = _ := he.2.1 rfl
    have hf0 : A.eval (.func 29) = .func (.func 29) #[] #[] := rfl
    refine goOn_plain rfl ?_
    refine stepG_call (f := 29) (args := #[vp, .int .i64 (n : Int)]) rfl rfl ?_ ?_
    · generalize A.eval = ev at *
      go_simp
    · refine (powK P (by omega) (fun j hj => szP_ok j (by omega)) (hp.on hb)).mono ?_
      rintro e w' ⟨v, rfl, hi, hb'⟩
      exact ⟨_, rfl, hb', hi⟩
  · intro A w1 hA hL hS he
    have hb := hS rfl
    have h29 : A.eval (.tmp 29) = _ := he.1 rfl
    have f32 : ((.poly (by decide) (by decide) ((powP p n)) : FactL (Lr (none) (0)))).p (A.eval (.tmp 32)) w1 := he.2.1 rfl
    obtain ⟨v32, h32⟩ : ∃ v, A.eval (.tmp 32) = v := ⟨_, rfl⟩
    rw [h32] at f32
    have hf0 : A.eval (.func 30) = .func (.func 30) #[] #[] := rfl
    refine goOn_plain rfl ?_
    refine stepG_call (f := 30) (args := #[vm, v32]) rfl rfl ?_ ?_
    · generalize A.eval = ev at *
      go_simp
    · refine (mul7K PM PN PMPN.k (hm.on hb) f32).mono ?_
      rintro e w' ⟨v, rfl, hi, hb'⟩
      exact ⟨_, rfl, hb', hi⟩
  · exact fun A w1 hA hL hS he => goOn_plain rfl (stepG_mv rfl rfl (hA 8 rfl))
  · exact fun A w1 hA hL hS he => goOn_plain rfl (stepG_mv rfl rfl (hA 10 rfl))
  · exact fun A w1 hA hL hS he => goOn_plain rfl (stepG_mv rfl rfl (hA 11 rfl))
  · intro A w1 hA hL hS he
    have h35 : A.eval (.tmp 35) = _ := he.1 rfl
    have h36 : A.eval (.tmp 36) = _ := he.2.1 rfl
    refine goOn_plain rfl (stepG_pure rfl rfl ?_)
    generalize A.eval = ev at *
    go_simp
  · intro A w1 hA hL hS he
    have hb := hS rfl
    have h34 : A.eval (.tmp 34) = _ := he.1 rfl
    have h37 : A.eval (.tmp 37) = _ := he.2.1 rfl
    have hf0 : A.eval (.func 29) = .func (.func 29) #[] #[] := rfl
    refine goOn_plain rfl ?_
    refine stepG_call (f := 29) (args := #[vp, .int .i64 ((m + n : Nat) : Int)]) rfl rfl ?_ ?_
    · generalize A.eval = ev at *
      go_simp
    · refine (powK P (by omega) (fun j hj => szP_ok j (by omega)) (hp.on hb)).mono ?_
      rintro e w' ⟨v, rfl, hi, hb'⟩
      exact ⟨_, rfl, hb', hi⟩
  · intro A w1 hA hL hS he
    have hb := hS rfl
    have f33 : ((.poly (by decide) (by decide) ((mulP (powP p m) (powP p n))) : FactL (Lr (none) (0)))).p (A.eval (.tmp 33)) w1 := he.1 rfl
    obtain ⟨v33, h33⟩ : ∃ v, A.eval (.tmp 33) = v := ⟨_, rfl⟩
    rw [h33] at f33
    have f38 : ((.poly (by decide) (by decide) ((powP p (m + n))) : FactL (Lr (none) (0)))).p (A.eval (.tmp 38)) w1 := he.2.1 rfl
    obtain ⟨v38, h38⟩ : ∃ v, A.eval (.tmp 38) = v := ⟨_, rfl⟩
    rw [h38] at f38
    have hf0 : A.eval (.func 17) = .func (.func 17) #[] #[] := rfl
    refine goOn_plain rfl ?_
    refine stepG_call (f := 17) (args := #[v33, v38]) rfl rfl ?_ ?_
    · generalize A.eval = ev at *
      go_simp
    · refine (sameK PMPN PMN e1.out f33 f38).mono ?_
      rintro e w' ⟨rfl, hb'⟩
      exact ⟨_, rfl, hb', rfl⟩
  · exact fun A w1 hA hL hS he => goOn_plain rfl (stepG_mv rfl rfl (he.1 rfl))
  · exact fun A w1 hA hL hS he => goOn_yes rfl rfl (he.1 rfl) (stepG_mv rfl rfl (hA 8 rfl))
  · exact fun A w1 hA hL hS he => goOn_yes rfl rfl (he.1 rfl) (stepG_mv rfl rfl (hA 9 rfl))
  · intro A w1 hA hL hS he
    have hb := hS rfl
    have h40 : A.eval (.tmp 40) = _ := he.2.2.1 rfl
    have h41 : A.eval (.tmp 41) = _ := he.1 rfl
    have h42 : A.eval (.tmp 42) = _ := he.2.1 rfl
    have hf0 : A.eval (.func 30) = .func (.func 30) #[] #[] := rfl
    refine goOn_yes rfl rfl h40 ?_
    refine stepG_call (f := 30) (args := #[vp, vq]) rfl rfl ?_ ?_
    · generalize A.eval = ev at *
      go_simp
    · refine (mul7K P Q PQ.k (hp.on hb) (hq.on hb)).mono ?_
      rintro e w' ⟨v, rfl, hi, hb'⟩
      exact ⟨_, rfl, hb', hi⟩
  · exact fun A w1 hA hL hS he => goOn_yes rfl rfl (he.1 rfl) (stepG_mv rfl rfl (hA 10 rfl))
  · intro A w1 hA hL hS he
    have hb := hS rfl
    have h40 : A.eval (.tmp 40) = _ := he.2.2.2.1 rfl
    have f43 : ((.poly (by decide) (by decide) ((mulP p q)) : FactL (Lr (none) (0)))).p (A.eval (.tmp 43)) w1 := he.1 rfl
    obtain ⟨v43, h43⟩ : ∃ v, A.eval (.tmp 43) = v := ⟨_, rfl⟩
    rw [h43] at f43
    have h44 : A.eval (.tmp 44) = _ := he.2.1 rfl
    have hf0 : A.eval (.func 29) = .func (.func 29) #[] #[] := rfl
    refine goOn_yes rfl rfl h40 ?_
    refine stepG_call (f := 29) (args := #[v43, .int .i64 (m : Int)]) rfl rfl ?_ ?_
    · generalize A.eval = ev at *
      go_simp
    · refine (powK PQ (by omega) (fun j hj => (szPQ_ok j (by omega)).1) f43).mono ?_
      rintro e w' ⟨v, rfl, hi, hb'⟩
      exact ⟨_, rfl, hb', hi⟩
  · exact fun A w1 hA hL hS he => goOn_yes rfl rfl (he.1 rfl) (stepG_mv rfl rfl (hA 12 rfl))
  · exact fun A w1 hA hL hS he => goOn_yes rfl rfl (he.1 rfl) (stepG_mv rfl rfl (hA 9 rfl))
  · exact fun A w1 hA hL hS he => goOn_yes rfl rfl (he.1 rfl) (stepG_mv rfl rfl (hA 10 rfl))
  · intro A w1 hA hL hS he
    have hb := hS rfl
    have h40 : A.eval (.tmp 40) = _ := he.2.2.2.1 rfl
    have h47 : A.eval (.tmp 47) = _ := he.1 rfl
    have h48 : A.eval (.tmp 48) = _ := he.2.1 rfl
    have hf0 : A.eval (.func 29) = .func (.func 29) #[] #[] := rfl
    refine goOn_yes rfl rfl h40 ?_
    refine stepG_call (f := 29) (args := #[vq, .int .i64 (m : Int)]) rfl rfl ?_ ?_
    · generalize A.eval = ev at *
      go_simp
    · refine (powK Q (by omega) (fun j hj => szQ_ok j (by omega)) (hq.on hb)).mono ?_
      rintro e w' ⟨v, rfl, hi, hb'⟩
      exact ⟨_, rfl, hb', hi⟩
  · intro A w1 hA hL hS he
    have hb := hS rfl
    have h40 : A.eval (.tmp 40) = _ := he.2.2.2.1 rfl
    have h46 : A.eval (.tmp 46) = _ := he.1 rfl
    have f49 : ((.poly (by decide) (by decide) ((powP q m)) : FactL (Lr (none) (0)))).p (A.eval (.tmp 49)) w1 := he.2.1 rfl
    obtain ⟨v49, h49⟩ : ∃ v, A.eval (.tmp 49) = v := ⟨_, rfl⟩
    rw [h49] at f49
    have hf0 : A.eval (.func 30) = .func (.func 30) #[] #[] := rfl
    refine goOn_yes rfl rfl h40 ?_
    refine stepG_call (f := 30) (args := #[vm, v49]) rfl rfl ?_ ?_
    · generalize A.eval = ev at *
      go_simp
    · refine (mul7K PM QM PMQM.k (hm.on hb) f49).mono ?_
      rintro e w' ⟨v, rfl, hi, hb'⟩
      exact ⟨_, rfl, hb', hi⟩
  · intro A w1 hA hL hS he
    have hb := hS rfl
    have h40 : A.eval (.tmp 40) = _ := he.2.2.2.1 rfl
    have f45 : ((.poly (by decide) (by decide) ((powP (mulP p q) m)) : FactL (Lr (none) (0)))).p (A.eval (.tmp 45)) w1 := he.1 rfl
    obtain ⟨v45, h45⟩ : ∃ v, A.eval (.tmp 45) = v := ⟨_, rfl⟩
    rw [h45] at f45
    have f50 : ((.poly (by decide) (by decide) ((mulP (powP p m) (powP q m))) : FactL (Lr (none) (0)))).p (A.eval (.tmp 50)) w1 := he.2.1 rfl
    obtain ⟨v50, h50⟩ : ∃ v, A.eval (.tmp 50) = v := ⟨_, rfl⟩
    rw [h50] at f50
    have hf0 : A.eval (.func 17) = .func (.func 17) #[] #[] := rfl
    refine goOn_yes rfl rfl h40 ?_
    refine stepG_call (f := 17) (args := #[v45, v50]) rfl rfl ?_ ?_
    · generalize A.eval = ev at *
      go_simp
    · refine (sameK PQM PMQM e2.out f45 f50).mono ?_
      rintro e w' ⟨rfl, hb'⟩
      exact ⟨_, rfl, hb', rfl⟩
  · exact fun A w1 hA hL hS he => goOn_plain rfl (stepG_pk rfl (he.1 rfl) rfl (he.2.1 rfl))
  · exact fun A w1 hA hL hS he => goOn_plain rfl (stepG_mv rfl rfl (he.1 rfl))
  · intro A w1 hA hL hS he
    have hb := hS rfl
    have h53 : A.eval (.tmp 53) = _ := he.1 rfl
    have hf0 : A.eval (.func 31) = .func (.func 31) #[] #[] := rfl
    have hc0 : A.eval (.const (.int .i64 2)) = .int .i64 2 := rfl
    refine goOn_yes rfl rfl h53 ?_
    refine stepG_call (f := 31) (args := #[(.int .i64 2)]) rfl rfl ?_ ?_
    · generalize A.eval = ev at *
      go_simp
    · refine (var_any 2 _ (by decide)).mono ?_
      rintro e w' ⟨v, rfl, hi, hb'⟩
      exact ⟨_, rfl, hb', hi⟩
  · exact fun A w1 hA hL hS he => goOn_yes rfl rfl (he.1 rfl) (stepG_mv rfl rfl (hA 11 rfl))
  · intro A w1 hA hL hS he
    have hb := hS rfl
    have h53 : A.eval (.tmp 53) = _ := he.2.2.2.1 rfl
    have f54 : ((.poly (by decide) (by decide) ((varP 2)) : FactL (Lr (none) (0)))).p (A.eval (.tmp 54)) w1 := he.1 rfl
    obtain ⟨v54, h54⟩ : ∃ v, A.eval (.tmp 54) = v := ⟨_, rfl⟩
    rw [h54] at f54
    have h55 : A.eval (.tmp 55) = _ := he.2.1 rfl
    have hf0 : A.eval (.func 29) = .func (.func 29) #[] #[] := rfl
    refine goOn_yes rfl rfl h53 ?_
    refine stepG_call (f := 29) (args := #[v54, .int .i64 (n : Int)]) rfl rfl ?_ ?_
    · generalize A.eval = ev at *
      go_simp
    · refine (powK (Pk.var 2) (by omega) (fun j hj => szV_ok j (by omega)) f54).mono ?_
      rintro e w' ⟨v, rfl, hi, hb'⟩
      exact ⟨_, rfl, hb', hi⟩
  · exact fun A w1 hA hL hS he => goOn_yes rfl rfl (he.1 rfl) (stepG_mv rfl rfl (hA 11 rfl))
  · intro A w1 hA hL hS he
    have h53 : A.eval (.tmp 53) = _ := he.2.1 rfl
    have h57 : A.eval (.tmp 57) = _ := he.1 rfl
    have hc0 : A.eval (.const (.int .i64 0)) = .int .i64 0 := rfl
    refine goOn_yes rfl rfl h53 ?_
    refine stepG_pure rfl rfl ?_
    generalize A.eval = ev at *
    go_simp
  · intro A w1 hA hL hS he
    have hb := hS rfl
    have h53 : A.eval (.tmp 53) = _ := he.2.1 rfl
    have hf0 : A.eval (.func 13) = .func (.func 13) #[] #[] := rfl
    have hc0 : A.eval (.const (.int .i64 1)) = .int .i64 1 := rfl
    refine goOn_yes rfl rfl h53 ?_
    refine stepG_call (f := 13) (args := #[(.int .i64 1)]) rfl rfl ?_ ?_
    · generalize A.eval = ev at *
      go_simp
    · refine (whole2_any 1 _ (by omega) (by omega)).mono ?_
      rintro e w' ⟨v, rfl, hi, hb'⟩
      exact ⟨_, rfl, hb', hi⟩
  · intro A w1 hA hL hS he
    have h53 : A.eval (.tmp 53) = _ := he.2.2.1 rfl
    have h58 : A.eval (.tmp 58) = _ := he.1 rfl
    have f59 : ((.rat (by decide) (((1 : Int) : Rat)) : FactL (Lr (none) (0)))).p (A.eval (.tmp 59)) w1 := he.2.1 rfl
    obtain ⟨v59, h59⟩ : ∃ v, A.eval (.tmp 59) = v := ⟨_, rfl⟩
    rw [h59] at f59
    refine goOn_yes rfl rfl h53 ?_
    obtain ⟨n_, a_, k_, c_, n', a', k', c', rfl⟩ := rat_agg f59
    exact stepG_value (c := .agg (exC ((0, 0, (n : Int), 0)) ++ ([.bool n_, .slice a_ k_ c_, .bool n', .slice a' k' c'] : List Value)).toArray) rfl rfl (Below.refl _ _) ⟨_, rfl, ⟨_, rfl, f59.cellsC⟩⟩ (execOp_build rfl (by simp only [List.map_toArray, List.map_cons, List.map_nil, h58, h59]; exact run_build37 _ ((0, 0, (n : Int), 0)) _ rfl))
  · intro A w1 hA hL hS he
    have h53 : A.eval (.tmp 53) = _ := he.2.1 rfl
    have f60 : ((.term (by decide) (((0, 0, (n : Int), 0)), (((1 : Int) : Rat))) : FactL (Lr (none) (0)))).p (A.eval (.tmp 60)) w1 := he.1 rfl
    obtain ⟨v60, h60⟩ : ∃ v, A.eval (.tmp 60) = v := ⟨_, rfl⟩
    rw [h60] at f60
    refine goOn_yes rfl rfl h53 ?_
    obtain ⟨c60, rfl, e60⟩ := f60
    refine stepG_new1 rfl rfl ((Okr.none).lr hL) (e := elTerm) (t := ((0, 0, (n : Int), 0), ((1 : Int) : Rat))) e60 (execOp_buildSlice rfl ?_) (fun _ _ h => h)
    simp only [List.map_toArray, List.map_cons, List.map_nil, h60]
    exact run_new1_elTermP _ _ (elTerm.len e60)
  · intro A w1 hA hL hS he
    have hb := hS rfl
    have h53 : A.eval (.tmp 53) = _ := he.2.2.2.1 rfl
    have f56 : ((.poly (by decide) (by decide) ((powP (varP 2) n)) : FactL (Lr (none) (0)))).p (A.eval (.tmp 56)) w1 := he.1 rfl
    obtain ⟨v56, h56⟩ : ∃ v, A.eval (.tmp 56) = v := ⟨_, rfl⟩
    rw [h56] at f56
    have f61 : ((.new1 elTerm (elTerm_ok (by decide)) (((0, 0, (n : Int), 0), ((1 : Int) : Rat))) : FactL (Lr (none) (0)))).p (A.eval (.tmp 61)) w1 := he.2.1 rfl
    obtain ⟨v61, h61⟩ : ∃ v, A.eval (.tmp 61) = v := ⟨_, rfl⟩
    rw [h61] at f61
    have hf0 : A.eval (.func 17) = .func (.func 17) #[] #[] := rfl
    refine goOn_yes rfl rfl h53 ?_
    refine stepG_call (f := 17) (args := #[v56, v61]) rfl rfl ?_ ?_
    · generalize A.eval = ev at *
      go_simp
    · refine (sameK XN XN' e3.out f56 (isSl_of_new f61)).mono ?_
      rintro e w' ⟨rfl, hb'⟩
      exact ⟨_, rfl, hb', rfl⟩
  · exact fun A w1 hA hL hS he => goOn_plain rfl (stepG_pk rfl (he.1 rfl) rfl (he.2.1 rfl))
  · exact fun A w1 hA hL hS he => goOn_plain rfl (stepG_mv rfl rfl (he.1 rfl))
  · exact fun A w1 hA hL hS he => goOn_yes rfl rfl (he.1 rfl) (stepG_mv rfl rfl (hA 8 rfl))
  · exact fun A w1 hA hL hS he => goOn_yes rfl rfl (he.1 rfl) (stepG_mv rfl rfl (hA 11 rfl))
  · intro A w1 hA hL hS he
    have h64 : A.eval (.tmp 64) = _ := he.2.1 rfl
    have h66 : A.eval (.tmp 66) = _ := he.1 rfl
    have hc0 : A.eval (.const (.int .i64 (-1))) = .int .i64 (-1) := rfl
    refine goOn_yes rfl rfl h64 ?_
    refine stepG_pure rfl rfl ?_
    generalize A.eval = ev at *
    go_simp
  · intro A w1 hA hL hS he
    have hb := hS rfl
    have h64 : A.eval (.tmp 64) = _ := he.2.2.1 rfl
    have h65 : A.eval (.tmp 65) = _ := he.1 rfl
    have h67 : A.eval (.tmp 67) = _ := he.2.1 rfl
    have hf0 : A.eval (.func 29) = .func (.func 29) #[] #[] := rfl
    refine goOn_yes rfl rfl h64 ?_
    refine stepG_call (f := 29) (args := #[vp, .int .i64 (-1 - (n : Int))]) rfl rfl ?_ ?_
    · generalize A.eval = ev at *
      go_simp
    · refine (pow_neg _ _ _ (by omega)).mono ?_
      rintro e w' ⟨v, rfl, hi, hb'⟩
      exact ⟨_, rfl, hb', hi⟩
  · intro A w1 hA hL hS he
    have h64 : A.eval (.tmp 64) = _ := he.2.1 rfl
    have f68 : ((.poly (by decide) (by decide) ([]) : FactL (Lr (none) (0)))).p (A.eval (.tmp 68)) w1 := he.1 rfl
    obtain ⟨v68, h68⟩ : ∃ v, A.eval (.tmp 68) = v := ⟨_, rfl⟩
    rw [h68] at f68
    refine goOn_yes rfl rfl h64 ?_
    obtain ⟨a9, c9, rfl, -⟩ := f68.shape
    refine stepG_pure rfl rfl ?_
    generalize A.eval = ev at *
    go_simp
  · intro A w1 hA hL hS he
    have h64 : A.eval (.tmp 64) = _ := he.2.1 rfl
    have h69 : A.eval (.tmp 69) = _ := he.1 rfl
    have hc0 : A.eval (.const (.int .i64 0)) = .int .i64 0 := rfl
    refine goOn_yes rfl rfl h64 ?_
    refine stepG_pure rfl rfl ?_
    generalize A.eval = ev at *
    go_simp
  · exact fun A w1 hA hL hS he => goOn_plain rfl (stepG_pk rfl (he.1 rfl) rfl (he.2.1 rfl))
  · exact fun A w1 hA hL hS he => goOn_plain rfl (stepG_mv rfl rfl (he.1 rfl))
  · exact fun A w1 hA hL hS he => goOn_yes rfl rfl (he.1 rfl) (stepG_mv rfl rfl (hA 7 rfl))
  · exact fun A w1 hA hL hS he => goOn_plain rfl (stepG_pk rfl (he.1 rfl) rfl (he.2.1 rfl))
  intro w4 hL
  simp only [TailL, FactL.eq, FactL.poly, FactL.rat, FactL.term, FactL.new1, FactL.ret, FactL.of, List.length_cons, List.length_nil, List.drop_succ_cons, List.drop_zero]
  rintro _ - _ - _ - _ - _ - _ - _ - _ - _ - _ - _ - _ - _ -
  go_frame
  replace hb0 := hb0.trans (hL.below.mono hb0.size)
  clear hL
  go_wp2
  go_ret
  exact ⟨rfl, hb0⟩
end Go.Proofs.YtplfdeohokkebaaGreat
