/- mpoly.Pow. The reference's rational numbers: Whole, Valid, Sign, Add, Mul, Same, Made. The reference: Same on rational numbers; exponents: greater, Natural. mpoly.Coeffs: the slice that it returns is the caller's own. -/
import Derived.Test.YtplfdeohokkebaaGreatC20
import Derived.Test.YtplfdeohokkebaaGreatC24
import Derived.Test.YtplfdeohokkebaaGreatC25
set_option linter.unusedVariables false
set_option linter.unusedSimpArgs false
section
namespace Q
theorem powP_one {p : List Trm} (h : Vld p) : powP p 1 = p := ev_inj (Vld.pow p 1) h fun x => by rw [ev_pow x h.nat 1, show (1 : Nat) = 0 + 1 from rfl, Rat.pow_succ, Rat.pow_zero]; grind
theorem powP_add {p : List Trm} (h : Vld p) (i j : Nat) : mulP (powP p i) (powP p j) = powP p (i + j) := ev_inj (Vld.mul _ _) (Vld.pow p _) fun x => by
 rw [ev_mul x (Vld.pow p i).nat (Vld.pow p j).nat, ev_pow x h.nat, ev_pow x h.nat, ev_pow x h.nat, rpow_add]
end Q
namespace Go.Proofs.YtplfdeohokkebaaGreat
open Go.RowKit Q Go.WideMaps Go.Maps
theorem and1 (m : Nat) (h : m ≤ 1000000) : bits BinOp.and IntKind.i64 (m : Int) 1 = ((m % 2 : Nat) : Int) := by
 have h1 : (BitVec.ofInt 64 (m : Int)).toNat = m := by
  rw [BitVec.ofInt_natCast, BitVec.toNat_ofNat]; exact Nat.mod_eq_of_lt (by omega)
 show IntKind.i64.wrap ((BitVec.ofInt 64 (m : Int) &&& BitVec.ofInt 64 (1 : Int)).toNat : Int) = _
 rw [BitVec.toNat_and, h1, show (BitVec.ofInt 64 (1 : Int)).toNat = 1 from rfl, Nat.and_one_is_mod, wrap_id (by omega)]
theorem pow_neg (vp : Value) (n : Int) (w : World) (hn : n < 0) : Calls Tryz.prog 29 #[vp, .int .i64 n] w (RetPoly w []) := by
 go_enter Tryz.func29, Tryz.ntmps29
 go_wp2
 go_ret
 exact ⟨_, rfl, IsSl.nil _ _, Below.refl _ _⟩
set_option maxHeartbeats 4000000 in
set_option maxRecDepth 100000 in
theorem pow_any (vp : Value) (p : List Trm) (n : Nat) (w : World) (hp : IsPoly w vp p) (hv : Vld p) (hn : n ≤ 1000000) (hr : ∀ j, j ≤ n → (∀ t ∈ powP p j, InR t.1 ∧ Rk t.2) ∧ (powP p j).length ≤ 1000000)
  (hr1 : (∀ t ∈ p, InR t.1 ∧ Rk t.2) ∧ p.length ≤ 1000000)
  (hok : ∀ i j, i + j ≤ n → Okl (prods (powP p i) (powP p j))) : Calls Tryz.prog 29 #[vp, .int .i64 n] w (RetPoly w (powP p n)) := by
 replace hr := Lib.hid hr
 replace hr1 := Lib.hid hr1
 replace hok := Lib.hid hok
 have hadd := Lib.hid (fun i j => powP_add hv i j)
 have hp1 := Lib.hid hp
 rw [← powP_one hv] at hp
 go_enter Tryz.func29, Tryz.ntmps29
 have hn0 : ¬ (n : Int) < 0 := by omega
 have hw := fun W => rwhole_any 1 W (by omega) (by omega)
 go_wp2_with (first
  | (go_at_call 74; refine (hw _).mono ?_; rintro e w1 ⟨v1, rfl, hv1, hb1⟩; clear hw)
  | (go_at_call 27; refine (const_any _ _ _ hv1).mono ?_; rintro e w2 ⟨v2, rfl, hv2, hb2⟩))
 have hbb := hb1.trans (hb2.mono hb1.size)
 have hv2' : IsPoly w2 v2 (powP p 0) := hv2
 have hp2 := hp.on hbb
 clear hv1 hb1 hb2 hv2
 go_loopw [5, 0, 1] (fun va vb vn wr => ∃ i j m : Nat, vn = .int .i64 m ∧ Hid (IsPoly wr va (powP p i)) ∧ Hid (IsPoly wr vb (powP p j)) ∧ Hid (i + j * m = n) ∧ m ≤ n ∧ Below w.heap.size w wr ∧ (0 < m → j ≤ n)) (fun _ _ vn _ => (intOf vn).toNat)
 case atStart => exact ⟨0, 1, n, rfl, Lib.hid hv2', Lib.hid hp2, Lib.hid (by omega), by omega, hbb, by omega⟩
 case round =>
  clear hv2' hp2 hbb
  obtain ⟨i, j, m, rfl, ha, hb', hm, hmn, hb, hjn⟩ := hrel
  by_cases hm0 : m = 0
  ·subst hm0
   have e : i = n := by have := hm.out; omega
   subst e
   go_wp2
   go_ret
   exact ⟨_, rfl, ha.out, hb⟩
  ·have hj := hjn (by omega)
   have hgt : (0 : Int) < m := by omega
   have hand := and1 m (by omega)
   have hrj := hr.out j hj
   obtain ⟨m', hodd⟩ : ∃ m', m = 2 * m' ∨ m = 2 * m' + 1 := ⟨m / 2, by omega⟩
   have hshr : (m : Int) / 2 = (m' : Int) := by omega
   rcases hodd with hodd | hodd
   ·have h2 : (1 : Int) < m := by omega
    have e0 : m % 2 = 0 := by omega
    replace hand : bits BinOp.and IntKind.i64 (m : Int) 1 = 0 := by rw [hand, e0]; rfl
    have hjj : j + j ≤ n ∧ i + (j + j) * m' = n := by
     have h := hm.out
     rw [hodd] at h
     have e : j * (2 * m') = (j + j) * m' := by rw [← Nat.mul_assoc, Nat.mul_two]
     have : (j + j) * 1 ≤ (j + j) * m' := Nat.mul_le_mul_left _ (by omega)
     omega
    have hc := mul_pp _ _ _ _ wr hb'.out hb'.out hrj.1 hrj.1 (hok.out j j hjj.1) hrj.2 hrj.2
    rw [hadd.out] at hc
    replace hodd := Lib.hid hodd
    clear e0 hm0 hrj
    go_wp2_with (go_at_call 23; refine hc.mono ?_; rintro e w3 ⟨v3, rfl, hv3, hb3⟩)
    go_roundw
    case measure => have := hodd.out; simp [intOf]; omega
    case rel => exact ⟨i, j + j, m', rfl, Lib.hid (ha.out.on hb3), Lib.hid hv3, Lib.hid hjj.2, by have := hodd.out; omega, hb.trans (hb3.mono hb.size), fun _ => hjj.1⟩
   ·have e0 : m % 2 = 1 := by omega
    replace hand : bits BinOp.and IntKind.i64 (m : Int) 1 = 1 := by rw [hand, e0]; rfl
    have hij : i + j ≤ n ∧ i + j + (j + j) * m' = n := by
     have h := hm.out
     rw [hodd] at h
     have e : j * (2 * m' + 1) = (j + j) * m' + j := by rw [Nat.mul_add, ← Nat.mul_assoc, Nat.mul_two, Nat.mul_one]
     omega
    have hri := hr.out i (by omega)
    have hc := mul_pp _ _ _ _ wr ha.out hb'.out hri.1 hrj.1 (hok.out i j hij.1) hri.2 hrj.2
    rw [hadd.out] at hc
    by_cases hm1 : m' = 0
    ·subst hm1
     have h2 : ¬ (1 : Int) < m := by omega
     replace hodd := Lib.hid hodd
     clear e0 hm0 hrj hri
     go_wp2_with (go_at_call 23; refine hc.mono ?_; rintro e w3 ⟨v3, rfl, hv3, hb3⟩)
     go_roundw
     case measure => have := hodd.out; simp [intOf]; omega
     case rel => exact ⟨i + j, j, 0, rfl, Lib.hid hv3, Lib.hid (hb'.out.on hb3), Lib.hid (by have := hij.2; simpa using this), by omega, hb.trans (hb3.mono hb.size), by omega⟩
    ·have h2 : (1 : Int) < m := by omega
     have hjj : j + j ≤ n := by
      have : (j + j) * 1 ≤ (j + j) * m' := Nat.mul_le_mul_left _ (by omega)
      omega
     have hc2 := fun W h => mul_pp _ _ _ _ W (hb'.out.on h) (hb'.out.on h) hrj.1 hrj.1 (hok.out j j hjj) hrj.2 hrj.2
     rw [hadd.out] at hc2
     replace hodd := Lib.hid hodd
     replace hm1 := Lib.hid hm1
     clear e0 hm0 hrj hri
     go_wp2_with (first
      | (go_at_call_of 23 u5; refine hc.mono ?_; rintro e w3 ⟨v3, rfl, hv3, hb3⟩; clear hc)
      | (go_at_call 23; refine (hc2 _ hb3).mono ?_; rintro e w4 ⟨v4, rfl, hv4, hb4⟩))
     go_roundw
     case measure => have := hodd.out; simp [intOf]; omega
     case rel => exact ⟨i + j, j + j, m', rfl, Lib.hid (hv3.on hb4), Lib.hid hv4, Lib.hid hij.2, by have := hodd.out; omega, (hb.trans (hb3.mono hb.size)).trans (hb4.mono (Nat.le_trans hb.size hb3.size)), fun _ => hjj⟩
end Go.Proofs.YtplfdeohokkebaaGreat
end
section
namespace Go.Proofs.YtplfdeohokkebaaGreat
open Go.RowKit Q
set_option maxHeartbeats 1000000 in
theorem sign2_any (v : Value) (q : Rat) (w : World) (h : IsRat w v q) : Calls Tryz.prog 60 #[v] w (Ret w (.int .i64 (sgnZ q.num))) := by
 obtain ⟨s1, a1, l1, c1, s2, a2, l2, c2, rfl, i1, i2⟩ := h
 go_enter Tryz.func60, Tryz.ntmps60
 go_upto_region 1 with (fail)
 refine abs1 fun W hb0 B1 hsz => ?_
 have e1 := B1.at1 0 _ rfl
 have e2 := B1.at1 1 _ rfl
 go_wp2_with (go_at_call 88; refine (sign1_any _ _ _ _ (i1.on hb0)).mono ?_; rintro e w1 ⟨rfl, hb1⟩)
 go_ret
 exact ⟨rfl, hb0.trans (hb1.mono hb0.size)⟩
set_option maxHeartbeats 1000000 in
set_option maxRecDepth 100000 in
theorem whole2_any (n : Int) (w : World) (h1 : -4611686018427387904 ≤ n) (h2 : n ≤ 4611686018427387904) : Calls Tryz.prog 13 #[.int .i64 n] w (RetRat w n) := by
 go_enter Tryz.func13, Tryz.ntmps13
 go_upto_region 1 with (fail)
 refine abs1 fun W hb0 B1 hsz => ?_
 refine wp_region_S trivial (none) (0) (Okr.none) [.eq (.int .i64 n), .int (by decide) (n), .int (by decide) (1), .rat (by decide) (n : Rat)] [3, 4, 5, 6] rfl rfl rfl rfl ⟨?_, ?_, ?_, ?_, trivial⟩ ?_
 ·exact fun A w1 hA hL hS he => goOn_plain rfl (stepG_mv rfl rfl (hA 0 rfl))
 ·intro A w1 hA hL hS he
  have hb := hS rfl
  have h3 : A.eval (.tmp 3) = _ := he.1 rfl
  have hf0 : A.eval (.func 56) = .func (.func 56) #[] #[] := rfl
  refine goOn_plain rfl ?_
  refine stepG_call (f := 56) (args := #[.int .i64 n]) rfl rfl ?_ ?_
  ·generalize A.eval = ev at *
   go_simp
  ·refine (of1_any n _ h1 h2).mono ?_
   rintro e w' ⟨neg, m, rfl, hi, hb'⟩
   exact ⟨_, rfl, hb', neg, m, rfl, hi⟩
 ·intro A w1 hA hL hS he
  have hb := hS rfl
  have hf0 : A.eval (.func 56) = .func (.func 56) #[] #[] := rfl
  have hc0 : A.eval (.const (.int .i64 1)) = .int .i64 1 := rfl
  refine goOn_plain rfl ?_
  refine stepG_call (f := 56) (args := #[(.int .i64 1)]) rfl rfl ?_ ?_
  ·generalize A.eval = ev at *
   go_simp
  ·refine (of1_any 1 _ (by omega) (by omega)).mono ?_
   rintro e w' ⟨neg, m, rfl, hi, hb'⟩
   exact ⟨_, rfl, hb', neg, m, rfl, hi⟩
 ·intro A w1 hA hL hS he
  have f4 : ((.int (by decide) (n) : FactL (Lr (none) (0)))).p (A.eval (.tmp 4)) w1 := he.1 rfl
  obtain ⟨v4, h4⟩ : ∃ v, A.eval (.tmp 4) = v := ⟨_, rfl⟩
  rw [h4] at f4
  have f5 : ((.int (by decide) (1) : FactL (Lr (none) (0)))).p (A.eval (.tmp 5)) w1 := he.2.1 rfl
  obtain ⟨v5, h5⟩ : ∃ v, A.eval (.tmp 5) = v := ⟨_, rfl⟩
  rw [h5] at f5
  refine goOn_plain rfl ?_
  obtain ⟨x4, y4, rfl, i4⟩ := f4
  obtain ⟨x5, y5, rfl, i5⟩ := f5
  obtain ⟨a4, k4, q4, rfl, -, -⟩ := i4.shape
  obtain ⟨a5, k5, q5, rfl, -, -⟩ := i5.shape
  refine stepG_value (c := .agg #[.bool x4, .slice a4 k4 q4, .bool x5, .slice a5 k5 q5]) rfl rfl (Below.refl _ _) ⟨_, _, _, _, _, _, _, _, rfl, by rw [Rat.num_intCast]; exact i4, by rw [Rat.den_intCast]; exact i5⟩ ?_
  generalize A.eval = ev at *
  go_simp
 ·intro w1 hL
  have hb1 := hL.below
  simp only [TailL, FactL.eq, FactL.int, FactL.rat, FactL.of, List.length_cons, List.length_nil, List.drop_succ_cons, List.drop_zero]
  rintro _ - _ - v6 h6
  obtain ⟨t1, b1, g1, d1, t2, b2, g2, d2, rfl, j1, j2⟩ := h6
  go_frame
  have C1 := B1.on hb1
  go_wp2_with (refine wpList_store_blk rfl _ (.tmp 2) (.tmp 6) rfl _ _ _ _ rfl rfl C1 rfl sizeRat isRat_ones ?_; intro w3 R gr)
  exact ret_blk rfl rfl rfl R Tryz.underlying34 rfl sizeRat (rat_end hb0 hb1 (by omega) C1 ⟨_, _, _, _, _, _, _, _, rfl, j1, j2⟩ gr)
set_option maxHeartbeats 2000000 in
set_option maxRecDepth 100000 in
theorem valid2_any (v : Value) (q : Rat) (w : World) (h : IsRat w v q) (k : Rs q) : Calls Tryz.prog 59 #[v] w (Ret w (.bool true)) := by
 obtain ⟨s1, a1, l1, c1, s2, a2, l2, c2, rfl, i1, i2⟩ := h
 have hd0 : 0 < (q.den : Int) := by have := q.den_nz; omega
 have hsg : ∀ W, Below w.heap.size w W → Calls Tryz.prog 88 #[.agg #[.bool s2, .slice a2 l2 c2]] W (Ret W (.int .i64 1)) := fun W hb => by
  have := sign1_any s2 _ _ W (i2.on hb)
  rwa [show sgnZ (q.den : Int) = 1 by unfold sgnZ; rw [if_neg (by omega), if_neg (by omega)]] at this
 have hg : Int.gcd q.num (q.den : Int) = 1 := by have := q.reduced; simpa [Nat.Coprime, Int.gcd] using this
 have hfit : Fits (q.den : Int) := by unfold Fits; have := k.1; omega
 have hgc : ∀ W, Below w.heap.size w W → Calls Tryz.prog 89 #[.agg #[.bool s1, .slice a1 l1 c1], .agg #[.bool s2, .slice a2 l2 c2]] W (RetI W 1) := fun W hb => by
  have := gcd1_any _ _ _ _ _ _ W (i1.on hb) (i2.on hb) (cs2 k.num) (cs2 k.den) hfit
  rwa [hg] at this
 go_enter Tryz.func59, Tryz.ntmps59
 go_upto_region 1 with (fail)
 refine abs1 fun W hb0 B hsz => ?_
 refine wp_region_S trivial (none) (0) (Okr.none) [.eq (.pointer (some ⟨w.heap.size, 0, none⟩)), .eq (.agg #[.bool s1, .slice a1 l1 c1]), .ret (.bool true), .eq (.bool false), .eq (.bool false), .eq (.pointer (some ⟨w.heap.size, 2, none⟩)), .eq (.agg #[.bool s2, .slice a2 l2 c2]), .ret (.bool true), .eq (.bool false), .eq (.bool false), .eq (.bool false), .eq (.pointer (some ⟨w.heap.size, 2, none⟩)), .eq (.agg #[.bool s2, .slice a2 l2 c2]), .ret (.int .i64 1), .eq (.bool false), .eq (.bool false)] [3, 4, 5, 6, 7, 8, 9, 10, 11, 12, 13, 14, 15, 16, 17, 18] rfl rfl rfl rfl ⟨?_, ?_, ?_, ?_, ?_, ?_, ?_, ?_, ?_, ?_, ?_, ?_, ?_, ?_, ?_, ?_, trivial⟩ ?_
 ·intro A w1 hA hL hS he
  have h1 : A.eval (.tmp 1) = .pointer (some ⟨w.heap.size, 0, none⟩) := hA 1 rfl
  refine goOn_plain rfl (stepG_pure rfl rfl ?_)
  generalize A.eval = ev at *
  go_simp
 ·intro A w1 hA hL hS he
  have hb := hL.below
  have h3 : A.eval (.tmp 3) = _ := he.1 rfl
  have c0 := ((B).on hb).at1 0 _ rfl
  have c1 := ((B).on hb).at1 1 _ rfl
  refine goOn_plain rfl (stepG_pure rfl rfl ?_)
  generalize A.eval = ev at *
  go_simp
 ·intro A w1 hA hL hS he
  have hb := hS rfl
  have h4 : A.eval (.tmp 4) = _ := he.1 rfl
  have hf0 : A.eval (.func 87) = .func (.func 87) #[] #[] := rfl
  refine goOn_plain rfl ?_
  refine stepG_call (f := 87) (args := #[.agg #[.bool s1, .slice a1 l1 c1]]) rfl rfl ?_ ?_
  ·generalize A.eval = ev at *
   go_simp
  ·refine (valid1_any _ _ _ _ ((i1.on hb0).on hb) k.rk.num').mono ?_
   rintro e w' ⟨rfl, hb'⟩
   exact ⟨_, rfl, hb', rfl⟩
 ·intro A w1 hA hL hS he
  have h5 : A.eval (.tmp 5) = _ := he.1 rfl
  refine goOn_plain rfl (stepG_pure rfl rfl ?_)
  generalize A.eval = ev at *
  go_simp
 ·exact fun A w1 hA hL hS he => goOn_plain rfl (stepG_mv rfl rfl (he.1 rfl))
 ·intro A w1 hA hL hS he
  have h7 : A.eval (.tmp 7) = _ := he.1 rfl
  have h1 : A.eval (.tmp 1) = .pointer (some ⟨w.heap.size, 0, none⟩) := hA 1 rfl
  refine goOn_yes rfl rfl h7 ?_
  refine stepG_pure rfl rfl ?_
  generalize A.eval = ev at *
  go_simp
 ·intro A w1 hA hL hS he
  have hb := hL.below
  have h7 : A.eval (.tmp 7) = _ := he.2.1 rfl
  have h8 : A.eval (.tmp 8) = _ := he.1 rfl
  have c0 := ((B).on hb).at1 2 _ rfl
  have c1 := ((B).on hb).at1 3 _ rfl
  refine goOn_yes rfl rfl h7 ?_
  refine stepG_pure rfl rfl ?_
  generalize A.eval = ev at *
  go_simp
 ·intro A w1 hA hL hS he
  have hb := hS rfl
  have h7 : A.eval (.tmp 7) = _ := he.2.1 rfl
  have h9 : A.eval (.tmp 9) = _ := he.1 rfl
  have hf0 : A.eval (.func 87) = .func (.func 87) #[] #[] := rfl
  refine goOn_yes rfl rfl h7 ?_
  refine stepG_call (f := 87) (args := #[.agg #[.bool s2, .slice a2 l2 c2]]) rfl rfl ?_ ?_
  ·generalize A.eval = ev at *
   go_simp
  ·refine (valid1_any _ _ _ _ ((i2.on hb0).on hb) k.rk.den').mono ?_
   rintro e w' ⟨rfl, hb'⟩
   exact ⟨_, rfl, hb', rfl⟩
 ·intro A w1 hA hL hS he
  have h7 : A.eval (.tmp 7) = _ := he.2.1 rfl
  have h10 : A.eval (.tmp 10) = _ := he.1 rfl
  refine goOn_yes rfl rfl h7 ?_
  refine stepG_pure rfl rfl ?_
  generalize A.eval = ev at *
  go_simp
 ·exact fun A w1 hA hL hS he => goOn_plain rfl (stepG_pk rfl (he.1 rfl) rfl (he.2.1 rfl))
 ·exact fun A w1 hA hL hS he => goOn_plain rfl (stepG_mv rfl rfl (he.1 rfl))
 ·intro A w1 hA hL hS he
  have h13 : A.eval (.tmp 13) = _ := he.1 rfl
  have h1 : A.eval (.tmp 1) = .pointer (some ⟨w.heap.size, 0, none⟩) := hA 1 rfl
  refine goOn_yes rfl rfl h13 ?_
  refine stepG_pure rfl rfl ?_
  generalize A.eval = ev at *
  go_simp
 ·intro A w1 hA hL hS he
  have hb := hL.below
  have h13 : A.eval (.tmp 13) = _ := he.2.1 rfl
  have h14 : A.eval (.tmp 14) = _ := he.1 rfl
  have c0 := ((B).on hb).at1 2 _ rfl
  have c1 := ((B).on hb).at1 3 _ rfl
  refine goOn_yes rfl rfl h13 ?_
  refine stepG_pure rfl rfl ?_
  generalize A.eval = ev at *
  go_simp
 ·intro A w1 hA hL hS he
  have hb := hS rfl
  have h13 : A.eval (.tmp 13) = _ := he.2.1 rfl
  have h15 : A.eval (.tmp 15) = _ := he.1 rfl
  have hf0 : A.eval (.func 88) = .func (.func 88) #[] #[] := rfl
  refine goOn_yes rfl rfl h13 ?_
  refine stepG_call (f := 88) (args := #[.agg #[.bool s2, .slice a2 l2 c2]]) rfl rfl ?_ ?_
  ·generalize A.eval = ev at *
   go_simp
  ·refine (hsg _ (hb0.trans (hb.mono hb0.size))).mono ?_
   rintro e w' ⟨rfl, hb'⟩
   exact ⟨_, rfl, hb', rfl⟩
 ·intro A w1 hA hL hS he
  have h13 : A.eval (.tmp 13) = _ := he.2.1 rfl
  have h16 : A.eval (.tmp 16) = _ := he.1 rfl
  have hc0 : A.eval (.const (.int .i64 0)) = .int .i64 0 := rfl
  refine goOn_yes rfl rfl h13 ?_
  refine stepG_pure rfl rfl ?_
  generalize A.eval = ev at *
  go_simp
 ·exact fun A w1 hA hL hS he => goOn_plain rfl (stepG_pk rfl (he.1 rfl) rfl (he.2.1 rfl))
 ·intro w1 hL
  simp only [TailL, FactL.eq, FactL.ret, List.length_cons, List.length_nil, List.drop_succ_cons, List.drop_zero]
  go_frame
  have hb1 := hb0.trans (hL.below.mono hb0.size)
  have C := B.on hL.below
  go_upto_region 3 with (fail)
  refine wp_region_S trivial (none) (0) (Okr.none) [.eq (.pointer (some ⟨w.heap.size, 0, none⟩)), .eq (.agg #[.bool s1, .slice a1 l1 c1]), .eq (.pointer (some ⟨w.heap.size, 2, none⟩)), .eq (.agg #[.bool s2, .slice a2 l2 c2]), .int (by decide) (1), .int (by decide) (1), .ret (.bool (decide ((1:Int) = 1)))] [19, 20, 21, 22, 23, 24, 25] rfl rfl rfl rfl ⟨?_, ?_, ?_, ?_, ?_, ?_, ?_, trivial⟩ ?_
  ·intro A w1 hA hL hS he
   have h1 : A.eval (.tmp 1) = .pointer (some ⟨w.heap.size, 0, none⟩) := hA 1 rfl
   refine goOn_plain rfl (stepG_pure rfl rfl ?_)
   generalize A.eval = ev at *
   go_simp
  ·intro A w1 hA hL hS he
   have hb := hL.below
   have h19 : A.eval (.tmp 19) = _ := he.1 rfl
   have c0 := ((C).on hb).at1 0 _ rfl
   have c1 := ((C).on hb).at1 1 _ rfl
   refine goOn_plain rfl (stepG_pure rfl rfl ?_)
   generalize A.eval = ev at *
   go_simp
  ·intro A w1 hA hL hS he
   have h1 : A.eval (.tmp 1) = .pointer (some ⟨w.heap.size, 0, none⟩) := hA 1 rfl
   refine goOn_plain rfl (stepG_pure rfl rfl ?_)
   generalize A.eval = ev at *
   go_simp
  ·intro A w1 hA hL hS he
   have hb := hL.below
   have h21 : A.eval (.tmp 21) = _ := he.1 rfl
   have c0 := ((C).on hb).at1 2 _ rfl
   have c1 := ((C).on hb).at1 3 _ rfl
   refine goOn_plain rfl (stepG_pure rfl rfl ?_)
   generalize A.eval = ev at *
   go_simp
  ·intro A w1 hA hL hS he
   have hb := hS rfl
   have h20 : A.eval (.tmp 20) = _ := he.1 rfl
   have h22 : A.eval (.tmp 22) = _ := he.2.1 rfl
   have hf0 : A.eval (.func 89) = .func (.func 89) #[] #[] := rfl
   refine goOn_plain rfl ?_
   refine stepG_call (f := 89) (args := #[.agg #[.bool s1, .slice a1 l1 c1], .agg #[.bool s2, .slice a2 l2 c2]]) rfl rfl ?_ ?_
   ·generalize A.eval = ev at *
    go_simp
   ·refine (hgc _ (hb1.trans (hb.mono hb1.size))).mono ?_
    rintro e w' ⟨neg, m, rfl, hi, hb'⟩
    exact ⟨_, rfl, hb', neg, m, rfl, hi⟩
  ·intro A w1 hA hL hS he
   have hb := hS rfl
   have hf0 : A.eval (.func 56) = .func (.func 56) #[] #[] := rfl
   have hc0 : A.eval (.const (.int .i64 1)) = .int .i64 1 := rfl
   refine goOn_plain rfl ?_
   refine stepG_call (f := 56) (args := #[(.int .i64 1)]) rfl rfl ?_ ?_
   ·generalize A.eval = ev at *
    go_simp
   ·refine (of1_any 1 _ (by omega) (by omega)).mono ?_
    rintro e w' ⟨neg, m, rfl, hi, hb'⟩
    exact ⟨_, rfl, hb', neg, m, rfl, hi⟩
  ·intro A w1 hA hL hS he
   have hb := hS rfl
   have f23 : ((.int (by decide) (1) : FactL (Lr (none) (0)))).p (A.eval (.tmp 23)) w1 := he.1 rfl
   obtain ⟨v23, h23⟩ : ∃ v, A.eval (.tmp 23) = v := ⟨_, rfl⟩
   rw [h23] at f23
   have f24 : ((.int (by decide) (1) : FactL (Lr (none) (0)))).p (A.eval (.tmp 24)) w1 := he.2.1 rfl
   obtain ⟨v24, h24⟩ : ∃ v, A.eval (.tmp 24) = v := ⟨_, rfl⟩
   rw [h24] at f24
   have hf0 : A.eval (.func 71) = .func (.func 71) #[] #[] := rfl
   refine goOn_plain rfl ?_
   refine stepG_call (f := 71) (args := #[v23, v24]) rfl rfl ?_ ?_
   ·generalize A.eval = ev at *
    go_simp
   ·obtain ⟨n23, m23, rfl, i23⟩ := f23
    obtain ⟨n24, m24, rfl, i24⟩ := f24
    refine (same1_any _ _ _ _ _ _ _ i23 i24 (by decide) (by decide)).mono ?_
    rintro e w' ⟨rfl, hb'⟩
    exact ⟨_, rfl, hb', rfl⟩
  ·intro w2 hL2
   simp only [TailL, FactL.eq, FactL.ret, FactL.int, FactL.of, List.length_cons, List.length_nil, List.drop_succ_cons, List.drop_zero]
   rintro _ - _ -
   go_frame
   go_wp2
   go_ret
   exact ⟨rfl, hb1.trans (hL2.below.mono hb1.size)⟩
set_option maxHeartbeats 2000000 in
set_option maxRecDepth 100000 in
theorem add2_any (v1 v2 : Value) (p q : Rat) (w : World) (h1 : IsRat w v1 p) (h2 : IsRat w v2 q) (k1 : Rs p) (k2 : Rs q) :
  Calls Tryz.prog 20 #[v1, v2] w (RetRat w (p + q)) := by
 rw [← divInt_add]
 obtain ⟨s1, a1, l1, c1, s2, a2, l2, c2, rfl, i1, i2⟩ := h1
 obtain ⟨s3, a3, l3, c3, s4, a4, l4, c4, rfl, i3, i4⟩ := h2
 obtain ⟨df, db, dz⟩ := densS k1 k2
 have cb := crossS k1 k2
 have cb' := crossS k2 k1
 have sb : nbits (p.num * (q.den : Int) + q.num * (p.den : Int)).natAbs ≤ CS / 4 := by have := sum_bits cb cb'; unfold CS at *; omega
 have cb1 : nbits (p.num * (q.den : Int)).natAbs ≤ CS := by unfold CS at *; omega
 have cb2 : nbits (q.num * (p.den : Int)).natAbs ≤ CS := by unfold CS at *; omega
 go_enter Tryz.func20, Tryz.ntmps20
 go_upto_region 1 with (fail)
 refine abs3 fun W hb0 B1 B2 B3 hsz => ?_
 replace i1 := i1.on hb0
 replace i2 := i2.on hb0
 replace i3 := i3.on hb0
 replace i4 := i4.on hb0
 refine wp_region_L mixed (none) (0) (Okr.none) [.eq (.pointer (some ⟨w.heap.size, 0, none⟩)), .eq (.agg #[.bool s1, .slice a1 l1 c1]), .eq (.pointer (some ⟨w.heap.size + 1, 2, none⟩)), .eq (.agg #[.bool s4, .slice a4 l4 c4]), .int (by decide) ((p.num * (q.den : Int))), .eq (.pointer (some ⟨w.heap.size + 1, 0, none⟩)), .eq (.agg #[.bool s3, .slice a3 l3 c3]), .eq (.pointer (some ⟨w.heap.size, 2, none⟩)), .eq (.agg #[.bool s2, .slice a2 l2 c2]), .int (by decide) ((q.num * (p.den : Int))), .int (by decide) ((p.num * (q.den : Int) + q.num * (p.den : Int))), .box 32 W.heap.size [.bool false, .slice none 0 0]] [6, 7, 8, 9, 10, 11, 12, 13, 14, 15, 16, 5] rfl rfl rfl rfl ⟨?_, ?_, ?_, ?_, ?_, ?_, ?_, ?_, ?_, ?_, ?_, ?_, trivial⟩ ?_
 ·intro A w1 hA hL hS he
  have h2 : A.eval (.tmp 2) = .pointer (some ⟨w.heap.size, 0, none⟩) := hA 2 rfl
  refine goOn_plain rfl (stepG_pure rfl rfl ?_)
  generalize A.eval = ev at *
  go_simp
 ·intro A w1 hA hL hS he
  have hb := hL.below
  have h6 : A.eval (.tmp 6) = _ := he.1 rfl
  have c0 := ((B1).on hb).at1 0 _ rfl
  have c1 := ((B1).on hb).at1 1 _ rfl
  refine goOn_plain rfl (stepG_pure rfl rfl ?_)
  generalize A.eval = ev at *
  go_simp
 ·intro A w1 hA hL hS he
  have h3 : A.eval (.tmp 3) = .pointer (some ⟨w.heap.size + 1, 0, none⟩) := hA 3 rfl
  refine goOn_plain rfl (stepG_pure rfl rfl ?_)
  generalize A.eval = ev at *
  go_simp
 ·intro A w1 hA hL hS he
  have hb := hL.below
  have h8 : A.eval (.tmp 8) = _ := he.1 rfl
  have c0 := ((B2).on hb).at1 2 _ rfl
  have c1 := ((B2).on hb).at1 3 _ rfl
  refine goOn_plain rfl (stepG_pure rfl rfl ?_)
  generalize A.eval = ev at *
  go_simp
 ·intro A w1 hA hL hS he
  have hb := hS rfl
  have h7 : A.eval (.tmp 7) = _ := he.1 rfl
  have h9 : A.eval (.tmp 9) = _ := he.2.1 rfl
  have hf0 : A.eval (.func 69) = .func (.func 69) #[] #[] := rfl
  refine goOn_plain rfl ?_
  refine stepG_call (f := 69) (args := #[.agg #[.bool s1, .slice a1 l1 c1], .agg #[.bool s4, .slice a4 l4 c4]]) rfl rfl ?_ ?_
  ·generalize A.eval = ev at *
   go_simp
  ·refine (mul1_any _ _ _ _ _ _ _ (i1.on hb) (i4.on hb) (cs4 k1.num) (cs4 k2.den)).mono ?_
   rintro e w' ⟨neg, m, rfl, hi, hb'⟩
   exact ⟨_, rfl, hb', neg, m, rfl, hi⟩
 ·intro A w1 hA hL hS he
  have h3 : A.eval (.tmp 3) = .pointer (some ⟨w.heap.size + 1, 0, none⟩) := hA 3 rfl
  refine goOn_plain rfl (stepG_pure rfl rfl ?_)
  generalize A.eval = ev at *
  go_simp
 ·intro A w1 hA hL hS he
  have hb := hL.below
  have h11 : A.eval (.tmp 11) = _ := he.1 rfl
  have c0 := ((B2).on hb).at1 0 _ rfl
  have c1 := ((B2).on hb).at1 1 _ rfl
  refine goOn_plain rfl (stepG_pure rfl rfl ?_)
  generalize A.eval = ev at *
  go_simp
 ·intro A w1 hA hL hS he
  have h2 : A.eval (.tmp 2) = .pointer (some ⟨w.heap.size, 0, none⟩) := hA 2 rfl
  refine goOn_plain rfl (stepG_pure rfl rfl ?_)
  generalize A.eval = ev at *
  go_simp
 ·intro A w1 hA hL hS he
  have hb := hL.below
  have h13 : A.eval (.tmp 13) = _ := he.1 rfl
  have c0 := ((B1).on hb).at1 2 _ rfl
  have c1 := ((B1).on hb).at1 3 _ rfl
  refine goOn_plain rfl (stepG_pure rfl rfl ?_)
  generalize A.eval = ev at *
  go_simp
 ·intro A w1 hA hL hS he
  have hb := hS rfl
  have h12 : A.eval (.tmp 12) = _ := he.1 rfl
  have h14 : A.eval (.tmp 14) = _ := he.2.1 rfl
  have hf0 : A.eval (.func 69) = .func (.func 69) #[] #[] := rfl
  refine goOn_plain rfl ?_
  refine stepG_call (f := 69) (args := #[.agg #[.bool s3, .slice a3 l3 c3], .agg #[.bool s2, .slice a2 l2 c2]]) rfl rfl ?_ ?_
  ·generalize A.eval = ev at *
   go_simp
  ·refine (mul1_any _ _ _ _ _ _ _ (i3.on hb) (i2.on hb) (cs4 k2.num) (cs4 k1.den)).mono ?_
   rintro e w' ⟨neg, m, rfl, hi, hb'⟩
   exact ⟨_, rfl, hb', neg, m, rfl, hi⟩
 ·intro A w1 hA hL hS he
  have hb := hS rfl
  have f10 : ((.int (by decide) ((p.num * (q.den : Int))) : FactL (Lr (none) (0)))).p (A.eval (.tmp 10)) w1 := he.1 rfl
  obtain ⟨v10, h10⟩ : ∃ v, A.eval (.tmp 10) = v := ⟨_, rfl⟩
  rw [h10] at f10
  have f15 : ((.int (by decide) ((q.num * (p.den : Int))) : FactL (Lr (none) (0)))).p (A.eval (.tmp 15)) w1 := he.2.1 rfl
  obtain ⟨v15, h15⟩ : ∃ v, A.eval (.tmp 15) = v := ⟨_, rfl⟩
  rw [h15] at f15
  have hf0 : A.eval (.func 68) = .func (.func 68) #[] #[] := rfl
  refine goOn_plain rfl ?_
  refine stepG_call (f := 68) (args := #[v10, v15]) rfl rfl ?_ ?_
  ·generalize A.eval = ev at *
   go_simp
  ·obtain ⟨n10, m10, rfl, i10⟩ := f10
   obtain ⟨n15, m15, rfl, i15⟩ := f15
   refine (add1_any _ _ _ _ _ _ _ i10 i15 cb1 cb2).mono ?_
   rintro e w' ⟨neg, m, rfl, hi, hb'⟩
   exact ⟨_, rfl, hb', neg, m, rfl, hi⟩
 ·intro A w1 hA hL hS he
  refine goOn_plain rfl ?_
  refine stepG_box rfl rfl ((Okr.none).lr hL) hL.1.size (by generalize A.eval = ev at *; go_simp) (fun _ _ h => h)
 ·intro W2 hL2
  have hb2 := hL2.below
  simp only [TailL, FactL.eq, FactL.int, FactL.box, FactL.of, List.length_cons, List.length_nil, List.drop_succ_cons, List.drop_zero]
  rintro _ - _ - _ ⟨n16, m16, rfl, i16⟩ v5 ⟨x, -, hBx, rfl, B5⟩
  obtain ⟨a5, k5, q5, rfl, -, -⟩ := i16.shape
  go_frame
  have C1 := B1.on hb2
  have C2 := B2.on hb2
  have C3 := B3.on hb2
  have hlt := B3.lt
  go_upto_region 2 with (refine wpList_store_blk rfl _ (.tmp 5) (.tmp 16) rfl _ _ _ _ rfl rfl B5 rfl sizeInt i16.ones ?_; intro w3 R3 gr3)
  have D1 := C1.grown gr3 (by omega)
  have D2 := C2.grown gr3 (by omega)
  have D3 := C3.grown gr3 (by omega)
  have j16 := i16.stored gr3 B5 (by decide)
  have j2 := (i2.on hb2).stored gr3 B5 (by decide)
  have j4 := (i4.on hb2).stored gr3 B5 (by decide)
  have hb3 : Below W.heap.size W w3 := hb2.trans ((grown_below gr3 (Nat.le_of_lt B5.lt) (Nat.le_refl _)).mono (by omega))
  clear C1 C2 C3 B5 gr3 i16 hb2 hL2
  refine wp_region_L mixed (none) (0) (Okr.none) [.eq (.agg #[.bool n16, .slice a5 k5 q5]), .eq (.pointer (some ⟨w.heap.size, 2, none⟩)), .eq (.agg #[.bool s2, .slice a2 l2 c2]), .eq (.pointer (some ⟨w.heap.size + 1, 2, none⟩)), .eq (.agg #[.bool s4, .slice a4 l4 c4]), .int (by decide) (((p.den : Int) * (q.den : Int))), .rat (by decide) ((Rat.divInt (p.num * (q.den : Int) + q.num * (p.den : Int)) ((p.den : Int) * (q.den : Int))))] [17, 18, 19, 20, 21, 22, 23] rfl rfl rfl rfl ⟨?_, ?_, ?_, ?_, ?_, ?_, ?_, trivial⟩ ?_
  ·intro A w1 hA hL hS he
   have hb := hL.below
   have h5 : A.eval (.tmp 5) = .pointer (some ⟨x, 0, none⟩) := hA 5 rfl
   have c0 := ((R3).on hb).at1 0 _ rfl
   have c1 := ((R3).on hb).at1 1 _ rfl
   refine goOn_plain rfl (stepG_pure rfl rfl ?_)
   generalize A.eval = ev at *
   go_simp
  ·intro A w1 hA hL hS he
   have h2 : A.eval (.tmp 2) = .pointer (some ⟨w.heap.size, 0, none⟩) := hA 2 rfl
   refine goOn_plain rfl (stepG_pure rfl rfl ?_)
   generalize A.eval = ev at *
   go_simp
  ·intro A w1 hA hL hS he
   have hb := hL.below
   have h18 : A.eval (.tmp 18) = _ := he.1 rfl
   have c0 := ((D1).on hb).at1 2 _ rfl
   have c1 := ((D1).on hb).at1 3 _ rfl
   refine goOn_plain rfl (stepG_pure rfl rfl ?_)
   generalize A.eval = ev at *
   go_simp
  ·intro A w1 hA hL hS he
   have h3 : A.eval (.tmp 3) = .pointer (some ⟨w.heap.size + 1, 0, none⟩) := hA 3 rfl
   refine goOn_plain rfl (stepG_pure rfl rfl ?_)
   generalize A.eval = ev at *
   go_simp
  ·intro A w1 hA hL hS he
   have hb := hL.below
   have h20 : A.eval (.tmp 20) = _ := he.1 rfl
   have c0 := ((D2).on hb).at1 2 _ rfl
   have c1 := ((D2).on hb).at1 3 _ rfl
   refine goOn_plain rfl (stepG_pure rfl rfl ?_)
   generalize A.eval = ev at *
   go_simp
  ·intro A w1 hA hL hS he
   have hb := hS rfl
   have h19 : A.eval (.tmp 19) = _ := he.1 rfl
   have h21 : A.eval (.tmp 21) = _ := he.2.1 rfl
   have hf0 : A.eval (.func 69) = .func (.func 69) #[] #[] := rfl
   refine goOn_plain rfl ?_
   refine stepG_call (f := 69) (args := #[.agg #[.bool s2, .slice a2 l2 c2], .agg #[.bool s4, .slice a4 l4 c4]]) rfl rfl ?_ ?_
   ·generalize A.eval = ev at *
    go_simp
   ·refine (mul1_any _ _ _ _ _ _ _ (j2.on hb) (j4.on hb) (cs4 k1.den) (cs4 k2.den)).mono ?_
    rintro e w' ⟨neg, m, rfl, hi, hb'⟩
    exact ⟨_, rfl, hb', neg, m, rfl, hi⟩
  ·intro A w1 hA hL hS he
   have hb := hS rfl
   have h17 : A.eval (.tmp 17) = _ := he.1 rfl
   have f22 : ((.int (by decide) (((p.den : Int) * (q.den : Int))) : FactL (Lr (none) (0)))).p (A.eval (.tmp 22)) w1 := he.2.1 rfl
   obtain ⟨v22, h22⟩ : ∃ v, A.eval (.tmp 22) = v := ⟨_, rfl⟩
   rw [h22] at f22
   have hf0 : A.eval (.func 70) = .func (.func 70) #[] #[] := rfl
   refine goOn_plain rfl ?_
   refine stepG_call (f := 70) (args := #[.agg #[.bool n16, .slice a5 k5 q5], v22]) rfl rfl ?_ ?_
   ·generalize A.eval = ev at *
    go_simp
   ·obtain ⟨n22, m22, rfl, i22⟩ := f22
    refine (of3_any _ _ _ _ _ _ _ (j16.on hb) i22 sb db dz df).mono ?_
    rintro e w' ⟨v, rfl, hi, hb'⟩
    exact ⟨_, rfl, hb', hi⟩
  ·intro w4 hL4
   have hb4 := hL4.below
   simp only [TailL, FactL.eq, FactL.int, FactL.rat, FactL.of, List.length_cons, List.length_nil, List.drop_succ_cons, List.drop_zero]
   rintro _ - v23 h23
   obtain ⟨t1, b1, g1, d1, t2, b2, g2, d2, rfl, u1, u2⟩ := h23
   go_frame
   have E3 := D3.on hb4
   go_wp2_with (refine wpList_store_blk rfl _ (.tmp 4) (.tmp 23) rfl _ _ _ _ rfl rfl E3 rfl sizeRat isRat_ones ?_; intro w5 R gr)
   exact ret_blk rfl rfl rfl R Tryz.underlying34 rfl sizeRat (rat_end hb0 (hb3.trans (hb4.mono hb3.size)) (by omega) E3 ⟨_, _, _, _, _, _, _, _, rfl, u1, u2⟩ gr)
set_option maxHeartbeats 2000000 in
set_option maxRecDepth 100000 in
theorem mul2_any (v1 v2 : Value) (p q : Rat) (w : World) (h1 : IsRat w v1 p) (h2 : IsRat w v2 q) (k1 : Rs p) (k2 : Rs q) :
  Calls Tryz.prog 104 #[v1, v2] w (RetRat w (p * q)) := by
 rw [← divInt_mul]
 obtain ⟨s1, a1, l1, c1, s2, a2, l2, c2, rfl, i1, i2⟩ := h1
 obtain ⟨s3, a3, l3, c3, s4, a4, l4, c4, rfl, i3, i4⟩ := h2
 obtain ⟨df, db, dz⟩ := densS k1 k2
 have sb : nbits (p.num * q.num).natAbs ≤ CS / 4 := by have := nbits_mul p.num.natAbs q.num.natAbs; have := k1.2; have := k2.2; rw [Int.natAbs_mul]; unfold CS at *; omega
 go_enter Tryz.func104, Tryz.ntmps104
 go_upto_region 1 with (fail)
 refine abs3 fun W hb0 B1 B2 B3 hsz => ?_
 replace i1 := i1.on hb0
 replace i2 := i2.on hb0
 replace i3 := i3.on hb0
 replace i4 := i4.on hb0
 refine wp_region_L mixed (none) (0) (Okr.none) [.eq (.pointer (some ⟨w.heap.size, 0, none⟩)), .eq (.agg #[.bool s1, .slice a1 l1 c1]), .eq (.pointer (some ⟨w.heap.size + 1, 0, none⟩)), .eq (.agg #[.bool s3, .slice a3 l3 c3]), .int (by decide) ((p.num * q.num)), .eq (.pointer (some ⟨w.heap.size, 2, none⟩)), .eq (.agg #[.bool s2, .slice a2 l2 c2]), .eq (.pointer (some ⟨w.heap.size + 1, 2, none⟩)), .eq (.agg #[.bool s4, .slice a4 l4 c4]), .int (by decide) (((p.den : Int) * (q.den : Int))), .rat (by decide) ((Rat.divInt (p.num * q.num) ((p.den : Int) * (q.den : Int))))] [5, 6, 7, 8, 9, 10, 11, 12, 13, 14, 15] rfl rfl rfl rfl ⟨?_, ?_, ?_, ?_, ?_, ?_, ?_, ?_, ?_, ?_, ?_, trivial⟩ ?_
 ·intro A w1 hA hL hS he
  have h2 : A.eval (.tmp 2) = .pointer (some ⟨w.heap.size, 0, none⟩) := hA 2 rfl
  refine goOn_plain rfl (stepG_pure rfl rfl ?_)
  generalize A.eval = ev at *
  go_simp
 ·intro A w1 hA hL hS he
  have hb := hL.below
  have h5 : A.eval (.tmp 5) = _ := he.1 rfl
  have c0 := ((B1).on hb).at1 0 _ rfl
  have c1 := ((B1).on hb).at1 1 _ rfl
  refine goOn_plain rfl (stepG_pure rfl rfl ?_)
  generalize A.eval = ev at *
  go_simp
 ·intro A w1 hA hL hS he
  have h3 : A.eval (.tmp 3) = .pointer (some ⟨w.heap.size + 1, 0, none⟩) := hA 3 rfl
  refine goOn_plain rfl (stepG_pure rfl rfl ?_)
  generalize A.eval = ev at *
  go_simp
 ·intro A w1 hA hL hS he
  have hb := hL.below
  have h7 : A.eval (.tmp 7) = _ := he.1 rfl
  have c0 := ((B2).on hb).at1 0 _ rfl
  have c1 := ((B2).on hb).at1 1 _ rfl
  refine goOn_plain rfl (stepG_pure rfl rfl ?_)
  generalize A.eval = ev at *
  go_simp
 ·intro A w1 hA hL hS he
  have hb := hS rfl
  have h6 : A.eval (.tmp 6) = _ := he.1 rfl
  have h8 : A.eval (.tmp 8) = _ := he.2.1 rfl
  have hf0 : A.eval (.func 69) = .func (.func 69) #[] #[] := rfl
  refine goOn_plain rfl ?_
  refine stepG_call (f := 69) (args := #[.agg #[.bool s1, .slice a1 l1 c1], .agg #[.bool s3, .slice a3 l3 c3]]) rfl rfl ?_ ?_
  ·generalize A.eval = ev at *
   go_simp
  ·refine (mul1_any _ _ _ _ _ _ _ (i1.on hb) (i3.on hb) (cs4 k1.num) (cs4 k2.num)).mono ?_
   rintro e w' ⟨neg, m, rfl, hi, hb'⟩
   exact ⟨_, rfl, hb', neg, m, rfl, hi⟩
 ·intro A w1 hA hL hS he
  have h2 : A.eval (.tmp 2) = .pointer (some ⟨w.heap.size, 0, none⟩) := hA 2 rfl
  refine goOn_plain rfl (stepG_pure rfl rfl ?_)
  generalize A.eval = ev at *
  go_simp
 ·intro A w1 hA hL hS he
  have hb := hL.below
  have h10 : A.eval (.tmp 10) = _ := he.1 rfl
  have c0 := ((B1).on hb).at1 2 _ rfl
  have c1 := ((B1).on hb).at1 3 _ rfl
  refine goOn_plain rfl (stepG_pure rfl rfl ?_)
  generalize A.eval = ev at *
  go_simp
 ·intro A w1 hA hL hS he
  have h3 : A.eval (.tmp 3) = .pointer (some ⟨w.heap.size + 1, 0, none⟩) := hA 3 rfl
  refine goOn_plain rfl (stepG_pure rfl rfl ?_)
  generalize A.eval = ev at *
  go_simp
 ·intro A w1 hA hL hS he
  have hb := hL.below
  have h12 : A.eval (.tmp 12) = _ := he.1 rfl
  have c0 := ((B2).on hb).at1 2 _ rfl
  have c1 := ((B2).on hb).at1 3 _ rfl
  refine goOn_plain rfl (stepG_pure rfl rfl ?_)
  generalize A.eval = ev at *
  go_simp
 ·intro A w1 hA hL hS he
  have hb := hS rfl
  have h11 : A.eval (.tmp 11) = _ := he.1 rfl
  have h13 : A.eval (.tmp 13) = _ := he.2.1 rfl
  have hf0 : A.eval (.func 69) = .func (.func 69) #[] #[] := rfl
  refine goOn_plain rfl ?_
  refine stepG_call (f := 69) (args := #[.agg #[.bool s2, .slice a2 l2 c2], .agg #[.bool s4, .slice a4 l4 c4]]) rfl rfl ?_ ?_
  ·generalize A.eval = ev at *
   go_simp
  ·refine (mul1_any _ _ _ _ _ _ _ (i2.on hb) (i4.on hb) (cs4 k1.den) (cs4 k2.den)).mono ?_
   rintro e w' ⟨neg, m, rfl, hi, hb'⟩
   exact ⟨_, rfl, hb', neg, m, rfl, hi⟩
 ·intro A w1 hA hL hS he
  have hb := hS rfl
  have f9 : ((.int (by decide) ((p.num * q.num)) : FactL (Lr (none) (0)))).p (A.eval (.tmp 9)) w1 := he.1 rfl
  obtain ⟨v9, h9⟩ : ∃ v, A.eval (.tmp 9) = v := ⟨_, rfl⟩
  rw [h9] at f9
  have f14 : ((.int (by decide) (((p.den : Int) * (q.den : Int))) : FactL (Lr (none) (0)))).p (A.eval (.tmp 14)) w1 := he.2.1 rfl
  obtain ⟨v14, h14⟩ : ∃ v, A.eval (.tmp 14) = v := ⟨_, rfl⟩
  rw [h14] at f14
  have hf0 : A.eval (.func 70) = .func (.func 70) #[] #[] := rfl
  refine goOn_plain rfl ?_
  refine stepG_call (f := 70) (args := #[v9, v14]) rfl rfl ?_ ?_
  ·generalize A.eval = ev at *
   go_simp
  ·obtain ⟨n9, m9, rfl, i9⟩ := f9
   obtain ⟨n14, m14, rfl, i14⟩ := f14
   refine (of3_any _ _ _ _ _ _ _ i9 i14 sb db dz df).mono ?_
   rintro e w' ⟨v, rfl, hi, hb'⟩
   exact ⟨_, rfl, hb', hi⟩
 ·intro w4 hL4
  have hb4 := hL4.below
  simp only [TailL, FactL.eq, FactL.int, FactL.rat, FactL.of, List.length_cons, List.length_nil, List.drop_succ_cons, List.drop_zero]
  rintro _ - _ - v23 h23
  obtain ⟨t1, b1, g1, d1, t2, b2, g2, d2, rfl, u1, u2⟩ := h23
  go_frame
  have E3 := B3.on hb4
  go_wp2_with (refine wpList_store_blk rfl _ (.tmp 4) (.tmp 15) rfl _ _ _ _ rfl rfl E3 rfl sizeRat isRat_ones ?_; intro w5 R gr)
  exact ret_blk rfl rfl rfl R Tryz.underlying34 rfl sizeRat (rat_end hb0 hb4 (by omega) E3 ⟨_, _, _, _, _, _, _, _, rfl, u1, u2⟩ gr)
end Go.Proofs.YtplfdeohokkebaaGreat
end
section
namespace Go.Proofs.YtplfdeohokkebaaGreat
open Go.RowKit Q
theorem rat_same {p q : Rat} : decide (p = q) = (decide (p.num = q.num) && decide ((p.den : Int) = (q.den : Int))) := by
 rw [Bool.eq_iff_iff]
 simp only [decide_eq_true_eq, Bool.and_eq_true]
 constructor
 ·rintro rfl; exact ⟨rfl, rfl⟩
 ·rintro ⟨h1, h2⟩; exact Rat.ext h1 (by omega)
set_option maxHeartbeats 1000000 in
set_option maxRecDepth 100000 in
theorem same2_any (v1 v2 : Value) (p q : Rat) (w : World) (h1 : IsRat w v1 p) (h2 : IsRat w v2 q) (k1 : Rk p) (k2 : Rk q) :
  Calls Tryz.prog 21 #[v1, v2] w (Ret w (.bool (decide (p = q)))) := by
 obtain ⟨s1, a1, l1, c1, s2, a2, l2, c2, rfl, i1, i2⟩ := h1
 obtain ⟨s3, a3, l3, c3, s4, a4, l4, c4, rfl, i3, i4⟩ := h2
 have he := rat_same (p := p) (q := q)
 have HN := fun W (hb : Below w.heap.size w W) => same1_any _ _ _ _ _ _ W (i1.on hb) (i3.on hb) k1.num' k2.num'
 have HD := fun W (hb : Below w.heap.size w W) => same1_any _ _ _ _ _ _ W (i2.on hb) (i4.on hb) k1.den' k2.den'
 generalize decide ((p.den : Int) = (q.den : Int)) = dd at *
 generalize decide (p.num = q.num) = dn at *
 replace he := Lib.hid he
 go_enter Tryz.func21, Tryz.ntmps21
 go_upto_region 1 with (fail)
 refine abs2 fun W hb0 B1 B2 hsz => ?_
 cases dn
 ·skip
  refine wp_region_S trivial (none) (0) (Okr.none) [.eq (.pointer (some ⟨w.heap.size, 0, none⟩)), .eq (.agg #[.bool s1, .slice a1 l1 c1]), .eq (.pointer (some ⟨w.heap.size + 1, 0, none⟩)), .eq (.agg #[.bool s3, .slice a3 l3 c3]), .ret (.bool false), .eq (.bool false), .eq undef, .eq undef, .eq undef, .eq undef, .eq undef, .eq (.bool false)] [5, 6, 7, 8, 9, 10, 11, 12, 13, 14, 15, 16] rfl rfl rfl rfl ⟨?_, ?_, ?_, ?_, ?_, ?_, ?_, ?_, ?_, ?_, ?_, ?_, trivial⟩ ?_
  ·intro A w1 hA hL hS he
   have h2 : A.eval (.tmp 2) = .pointer (some ⟨w.heap.size, 0, none⟩) := hA 2 rfl
   refine goOn_plain rfl (stepG_pure rfl rfl ?_)
   generalize A.eval = ev at *
   go_simp
  ·intro A w1 hA hL hS he
   have hb := hL.below
   have h5 : A.eval (.tmp 5) = _ := he.1 rfl
   have c0 := ((B1).on hb).at1 0 _ rfl
   have c1 := ((B1).on hb).at1 1 _ rfl
   refine goOn_plain rfl (stepG_pure rfl rfl ?_)
   generalize A.eval = ev at *
   go_simp
  ·intro A w1 hA hL hS he
   have h3 : A.eval (.tmp 3) = .pointer (some ⟨w.heap.size + 1, 0, none⟩) := hA 3 rfl
   refine goOn_plain rfl (stepG_pure rfl rfl ?_)
   generalize A.eval = ev at *
   go_simp
  ·intro A w1 hA hL hS he
   have hb := hL.below
   have h7 : A.eval (.tmp 7) = _ := he.1 rfl
   have c0 := ((B2).on hb).at1 0 _ rfl
   have c1 := ((B2).on hb).at1 1 _ rfl
   refine goOn_plain rfl (stepG_pure rfl rfl ?_)
   generalize A.eval = ev at *
   go_simp
  ·intro A w1 hA hL hS he
   have hb := hS rfl
   have h6 : A.eval (.tmp 6) = _ := he.1 rfl
   have h8 : A.eval (.tmp 8) = _ := he.2.1 rfl
   have hf0 : A.eval (.func 71) = .func (.func 71) #[] #[] := rfl
   refine goOn_plain rfl ?_
   refine stepG_call (f := 71) (args := #[.agg #[.bool s1, .slice a1 l1 c1], .agg #[.bool s3, .slice a3 l3 c3]]) rfl rfl ?_ ?_
   ·generalize A.eval = ev at *
    go_simp
   ·refine (HN _ (hb0.trans (hb.mono hb0.size))).mono ?_
    rintro e w' ⟨rfl, hb'⟩
    exact ⟨_, rfl, hb', rfl⟩
  ·exact fun A w1 hA hL hS he => goOn_plain rfl (stepG_mv rfl rfl (he.1 rfl))
  ·exact fun A w1 hA hL hS he => goOn_no (x := false) rfl rfl (he.1 rfl) rfl rfl
  ·exact fun A w1 hA hL hS he => goOn_no (x := false) rfl rfl (he.2.1 rfl) rfl rfl
  ·exact fun A w1 hA hL hS he => goOn_no (x := false) rfl rfl (he.1 rfl) rfl rfl
  ·exact fun A w1 hA hL hS he => goOn_no (x := false) rfl rfl (he.2.1 rfl) rfl rfl
  ·exact fun A w1 hA hL hS he => goOn_no (x := false) rfl rfl (he.2.2.1 rfl) rfl rfl
  ·exact fun A w1 hA hL hS he => goOn_plain rfl (stepG_pk rfl (he.1 rfl) rfl rfl)
  ·intro W2 hL2
   simp only [TailL, FactL.eq, FactL.ret, List.length_cons, List.length_nil, List.drop_succ_cons, List.drop_zero]
   go_frame
   go_wp2
   go_ret
   exact ⟨by rw [he.out] <;> rfl, hb0.trans (hL2.below.mono hb0.size)⟩
 ·skip
  refine wp_region_S trivial (none) (0) (Okr.none) [.eq (.pointer (some ⟨w.heap.size, 0, none⟩)), .eq (.agg #[.bool s1, .slice a1 l1 c1]), .eq (.pointer (some ⟨w.heap.size + 1, 0, none⟩)), .eq (.agg #[.bool s3, .slice a3 l3 c3]), .ret (.bool true), .eq (.bool true), .eq (.pointer (some ⟨w.heap.size, 2, none⟩)), .eq (.agg #[.bool s2, .slice a2 l2 c2]), .eq (.pointer (some ⟨w.heap.size + 1, 2, none⟩)), .eq (.agg #[.bool s4, .slice a4 l4 c4]), .ret (.bool dd), .eq (.bool dd)] [5, 6, 7, 8, 9, 10, 11, 12, 13, 14, 15, 16] rfl rfl rfl rfl ⟨?_, ?_, ?_, ?_, ?_, ?_, ?_, ?_, ?_, ?_, ?_, ?_, trivial⟩ ?_
  ·intro A w1 hA hL hS he
   have h2 : A.eval (.tmp 2) = .pointer (some ⟨w.heap.size, 0, none⟩) := hA 2 rfl
   refine goOn_plain rfl (stepG_pure rfl rfl ?_)
   generalize A.eval = ev at *
   go_simp
  ·intro A w1 hA hL hS he
   have hb := hL.below
   have h5 : A.eval (.tmp 5) = _ := he.1 rfl
   have c0 := ((B1).on hb).at1 0 _ rfl
   have c1 := ((B1).on hb).at1 1 _ rfl
   refine goOn_plain rfl (stepG_pure rfl rfl ?_)
   generalize A.eval = ev at *
   go_simp
  ·intro A w1 hA hL hS he
   have h3 : A.eval (.tmp 3) = .pointer (some ⟨w.heap.size + 1, 0, none⟩) := hA 3 rfl
   refine goOn_plain rfl (stepG_pure rfl rfl ?_)
   generalize A.eval = ev at *
   go_simp
  ·intro A w1 hA hL hS he
   have hb := hL.below
   have h7 : A.eval (.tmp 7) = _ := he.1 rfl
   have c0 := ((B2).on hb).at1 0 _ rfl
   have c1 := ((B2).on hb).at1 1 _ rfl
   refine goOn_plain rfl (stepG_pure rfl rfl ?_)
   generalize A.eval = ev at *
   go_simp
  ·intro A w1 hA hL hS he
   have hb := hS rfl
   have h6 : A.eval (.tmp 6) = _ := he.1 rfl
   have h8 : A.eval (.tmp 8) = _ := he.2.1 rfl
   have hf0 : A.eval (.func 71) = .func (.func 71) #[] #[] := rfl
   refine goOn_plain rfl ?_
   refine stepG_call (f := 71) (args := #[.agg #[.bool s1, .slice a1 l1 c1], .agg #[.bool s3, .slice a3 l3 c3]]) rfl rfl ?_ ?_
   ·generalize A.eval = ev at *
    go_simp
   ·refine (HN _ (hb0.trans (hb.mono hb0.size))).mono ?_
    rintro e w' ⟨rfl, hb'⟩
    exact ⟨_, rfl, hb', rfl⟩
  ·exact fun A w1 hA hL hS he => goOn_plain rfl (stepG_mv rfl rfl (he.1 rfl))
  ·intro A w1 hA hL hS he
   have h10 : A.eval (.tmp 10) = _ := he.1 rfl
   have h2 : A.eval (.tmp 2) = .pointer (some ⟨w.heap.size, 0, none⟩) := hA 2 rfl
   refine goOn_yes rfl rfl h10 ?_
   refine stepG_pure rfl rfl ?_
   generalize A.eval = ev at *
   go_simp
  ·intro A w1 hA hL hS he
   have hb := hL.below
   have h10 : A.eval (.tmp 10) = _ := he.2.1 rfl
   have h11 : A.eval (.tmp 11) = _ := he.1 rfl
   have c0 := ((B1).on hb).at1 2 _ rfl
   have c1 := ((B1).on hb).at1 3 _ rfl
   refine goOn_yes rfl rfl h10 ?_
   refine stepG_pure rfl rfl ?_
   generalize A.eval = ev at *
   go_simp
  ·intro A w1 hA hL hS he
   have h10 : A.eval (.tmp 10) = _ := he.1 rfl
   have h3 : A.eval (.tmp 3) = .pointer (some ⟨w.heap.size + 1, 0, none⟩) := hA 3 rfl
   refine goOn_yes rfl rfl h10 ?_
   refine stepG_pure rfl rfl ?_
   generalize A.eval = ev at *
   go_simp
  ·intro A w1 hA hL hS he
   have hb := hL.below
   have h10 : A.eval (.tmp 10) = _ := he.2.1 rfl
   have h13 : A.eval (.tmp 13) = _ := he.1 rfl
   have c0 := ((B2).on hb).at1 2 _ rfl
   have c1 := ((B2).on hb).at1 3 _ rfl
   refine goOn_yes rfl rfl h10 ?_
   refine stepG_pure rfl rfl ?_
   generalize A.eval = ev at *
   go_simp
  ·intro A w1 hA hL hS he
   have hb := hS rfl
   have h10 : A.eval (.tmp 10) = _ := he.2.2.1 rfl
   have h12 : A.eval (.tmp 12) = _ := he.1 rfl
   have h14 : A.eval (.tmp 14) = _ := he.2.1 rfl
   have hf0 : A.eval (.func 71) = .func (.func 71) #[] #[] := rfl
   refine goOn_yes rfl rfl h10 ?_
   refine stepG_call (f := 71) (args := #[.agg #[.bool s2, .slice a2 l2 c2], .agg #[.bool s4, .slice a4 l4 c4]]) rfl rfl ?_ ?_
   ·generalize A.eval = ev at *
    go_simp
   ·refine (HD _ (hb0.trans (hb.mono hb0.size))).mono ?_
    rintro e w' ⟨rfl, hb'⟩
    exact ⟨_, rfl, hb', rfl⟩
  ·exact fun A w1 hA hL hS he => goOn_plain rfl (stepG_pk rfl (he.1 rfl) rfl (he.2.1 rfl))
  ·intro W2 hL2
   simp only [TailL, FactL.eq, FactL.ret, List.length_cons, List.length_nil, List.drop_succ_cons, List.drop_zero]
   go_frame
   go_wp2
   go_ret
   exact ⟨by rw [he.out] <;> rfl, hb0.trans (hL2.below.mono hb0.size)⟩
theorem Ex.gt_at {e f : Ex} {i : Nat} (hi : i < 4) (h : ∀ j, i < j → j < 4 → e.get j = f.get j) (hne : e.get i ≠ f.get i) : e.gt f = decide (f.get i < e.get i) := by
 obtain ⟨a, b, c, d⟩ := e; obtain ⟨a', b', c', d'⟩ := f
 have h1 := h 1; have h2 := h 2; have h3 := h 3
 rw [Bool.eq_iff_iff, Ex.gt_iff, decide_eq_true_iff]
 obtain rfl | rfl | rfl | rfl : i = 0 ∨ i = 1 ∨ i = 2 ∨ i = 3 := by omega
 all_goals simp [Ex.get] at *
 all_goals omega
theorem Ex.eq_get {e f : Ex} (h : ∀ j, j < 4 → e.get j = f.get j) : e = f :=
 Ex.ext' (h 0 (by omega)) (h 1 (by omega)) (h 2 (by omega)) (h 3 (by omega))
set_option maxHeartbeats 2000000 in
set_option maxRecDepth 100000 in
theorem greater_any (e f : Ex) (w : World) : Calls Tryz.prog 61 #[.agg (exC e).toArray, .agg (exC f).toArray] w (Ret w (.bool (e.gt f))) := by
 have hg0 := fun i hi h hne => Ex.gt_at (e := e) (f := f) (i := i) hi h hne
 have hg1 : (∀ j, j < 4 → e.get j = f.get j) → e.gt f = false := fun h => by rw [Ex.eq_get h]; exact Ex.gt_irrefl _
 have hc1 := fun k hk => exC_get e k hk
 have hc2 := fun k hk => exC_get f k hk
 generalize e.gt f = R at *
 obtain ⟨x1, x2, x3, x4⟩ := e
 obtain ⟨y1, y2, y3, y4⟩ := f
 simp only [exC] at hc1 hc2 ⊢
 replace hg0 := Lib.hid hg0
 replace hg1 := Lib.hid hg1
 go_enter Tryz.func61, Tryz.ntmps61
 go_upto_region 1 with (fail)
 refine abs2 fun W hb0 B1 B2 hsz => ?_
 go_wp2
 go_loopw [5] (fun i wr => ∃ k : Nat, k ≤ 4 ∧ i = .int .i64 ((k : Int) - 1) ∧ Hid (∀ j, k ≤ j → j < 4 → Ex.get (x1, x2, x3, x4) j = Ex.get (y1, y2, y3, y4) j) ∧ Below W.heap.size W wr) (fun i _ => (intOf i + 1).toNat)
 case atStart => exact ⟨4, by omega, rfl, Lib.hid (fun j h1 h2 => by omega), Below.refl _ _⟩
 case round =>
  obtain ⟨k, hk, rfl, hd, hbr⟩ := hrel
  by_cases h0 : 1 ≤ k
  ·obtain ⟨i, rfl⟩ : ∃ i, k = i + 1 := ⟨k - 1, by omega⟩
   have hi4 : i < 4 := by omega
   have hi4' : (i : Int) < 4 := by omega
   have hx := hc1 i hi4
   have hy := hc2 i hi4
   have hst := hg0.out i hi4 (fun j h1 h2 => hd.out j h1 h2)
   have hde : Ex.get (x1, x2, x3, x4) i = Ex.get (y1, y2, y3, y4) i → ∀ j, i ≤ j → j < 4 → Ex.get (x1, x2, x3, x4) j = Ex.get (y1, y2, y3, y4) j := fun h j h1 h2 => by
    rcases Nat.eq_or_lt_of_le h1 with h' | h'
    ·rw [← h']; exact h
    ·exact hd.out j h' h2
   replace hde := Lib.hid hde
   have HX : Hid (∃ x, x = Ex.get (x1, x2, x3, x4) i) := ⟨_, rfl⟩
   obtain ⟨x, ex⟩ := HX.out
   have HY : Hid (∃ y, y = Ex.get (y1, y2, y3, y4) i) := ⟨_, rfl⟩
   obtain ⟨y, ey⟩ := HY.out
   rw [← ex] at hx hst
   rw [← ey] at hy hst
   replace ex := Lib.hid ex
   replace ey := Lib.hid ey
   clear hd HX HY
   have hi1 : (((i + 1 : Nat) : Int) - 1) = (i : Int) := by omega
   rw [hi1]
   have f1 : ∀ W', Below W.heap.size W W' → W'.cell? ⟨w.heap.size, i, none⟩ = some (.int .i64 x) := fun W' hb => (B1.on hb).at1 i _ hx
   have f2 : ∀ W', Below W.heap.size W W' → W'.cell? ⟨w.heap.size + 1, i, none⟩ = some (.int .i64 y) := fun W' hb => (B2.on hb).at1 i _ hy
   clear hx hy
   go_upto_region 4 with (fail)
   refine wp_region_L mixed (none) (0) (Okr.none) [.eq (.int .i64 i), .eq (.pointer (some ⟨w.heap.size, i, none⟩)), .eq (.int .i64 x), .eq (.int .i64 i), .eq (.pointer (some ⟨w.heap.size + 1, i, none⟩)), .eq (.int .i64 y), .eq (.bool (x != y))] [10, 11, 12, 13, 14, 15, 16] rfl rfl rfl rfl ⟨?_, ?_, ?_, ?_, ?_, ?_, ?_, trivial⟩ ?_
   ·exact fun A w1 hA hL hS he => goOn_plain rfl (stepG_mv rfl rfl (hA 5 rfl))
   ·intro A w1 hA hL hS he
    have h2 : A.eval (.tmp 2) = .pointer (some ⟨w.heap.size, 0, none⟩) := hA 2 rfl
    have h10 : A.eval (.tmp 10) = _ := he.1 rfl
    refine goOn_plain rfl (stepG_pure rfl rfl ?_)
    generalize A.eval = ev at *
    go_simp
   ·intro A w1 hA hL hS he
    have h11 : A.eval (.tmp 11) = _ := he.1 rfl
    refine goOn_plain rfl ?_
    have c0 := f1 w1 (hbr.trans (hL.below.mono hbr.size))
    refine stepG_pure rfl rfl ?_
    generalize A.eval = ev at *
    go_simp
   ·exact fun A w1 hA hL hS he => goOn_plain rfl (stepG_mv rfl rfl (hA 5 rfl))
   ·intro A w1 hA hL hS he
    have h3 : A.eval (.tmp 3) = .pointer (some ⟨w.heap.size + 1, 0, none⟩) := hA 3 rfl
    have h13 : A.eval (.tmp 13) = _ := he.1 rfl
    refine goOn_plain rfl (stepG_pure rfl rfl ?_)
    generalize A.eval = ev at *
    go_simp
   ·intro A w1 hA hL hS he
    have h14 : A.eval (.tmp 14) = _ := he.1 rfl
    refine goOn_plain rfl ?_
    have c0 := f2 w1 (hbr.trans (hL.below.mono hbr.size))
    refine stepG_pure rfl rfl ?_
    generalize A.eval = ev at *
    go_simp
   ·intro A w1 hA hL hS he
    have h12 : A.eval (.tmp 12) = _ := he.1 rfl
    have h15 : A.eval (.tmp 15) = _ := he.2.1 rfl
    refine goOn_plain rfl (stepG_pure rfl rfl ?_)
    generalize A.eval = ev at *
    go_simp
   ·intro W2 hL2
    simp only [TailL, FactL.eq, List.length_cons, List.length_nil, List.drop_succ_cons, List.drop_zero]
    go_frame
    have hb2 := hbr.trans (hL2.below.mono hbr.size)
    by_cases hxy : x = y
    ·have HD := Lib.hid (hde.out (by rw [← ex.out, ← ey.out]; exact hxy))
     have hxb : (x != y) = false := by simp [hxy]
     rw [hxb]
     clear f1 f2
     go_wp2
     go_roundw
     case rel => exact ⟨i, by omega, by go_num, HD, hb2⟩
     case measure => simp [intOf]
    ·have HR := Lib.hid (hst hxy)
     have hxb : (x != y) = true := by simp [hxy]
     rw [hxb]
     go_upto_region 5 with (fail)
     refine wp_region_L mixed (none) (0) (Okr.none) [.eq (.int .i64 i), .eq (.pointer (some ⟨w.heap.size, i, none⟩)), .eq (.int .i64 x), .eq (.int .i64 i), .eq (.pointer (some ⟨w.heap.size + 1, i, none⟩)), .eq (.int .i64 y), .eq (.bool (decide (y < x)))] [17, 18, 19, 20, 21, 22, 23] rfl rfl rfl rfl ⟨?_, ?_, ?_, ?_, ?_, ?_, ?_, trivial⟩ ?_
     ·exact fun A w1 hA hL hS he => goOn_plain rfl (stepG_mv rfl rfl (hA 5 rfl))
     ·intro A w1 hA hL hS he
      have h2 : A.eval (.tmp 2) = .pointer (some ⟨w.heap.size, 0, none⟩) := hA 2 rfl
      have h17 : A.eval (.tmp 17) = _ := he.1 rfl
      refine goOn_plain rfl (stepG_pure rfl rfl ?_)
      generalize A.eval = ev at *
      go_simp
     ·intro A w1 hA hL hS he
      have h18 : A.eval (.tmp 18) = _ := he.1 rfl
      refine goOn_plain rfl ?_
      have c0 := f1 w1 (hb2.trans (hL.below.mono hb2.size))
      refine stepG_pure rfl rfl ?_
      generalize A.eval = ev at *
      go_simp
     ·exact fun A w1 hA hL hS he => goOn_plain rfl (stepG_mv rfl rfl (hA 5 rfl))
     ·intro A w1 hA hL hS he
      have h3 : A.eval (.tmp 3) = .pointer (some ⟨w.heap.size + 1, 0, none⟩) := hA 3 rfl
      have h20 : A.eval (.tmp 20) = _ := he.1 rfl
      refine goOn_plain rfl (stepG_pure rfl rfl ?_)
      generalize A.eval = ev at *
      go_simp
     ·intro A w1 hA hL hS he
      have h21 : A.eval (.tmp 21) = _ := he.1 rfl
      refine goOn_plain rfl ?_
      have c0 := f2 w1 (hb2.trans (hL.below.mono hb2.size))
      refine stepG_pure rfl rfl ?_
      generalize A.eval = ev at *
      go_simp
     ·intro A w1 hA hL hS he
      have h19 : A.eval (.tmp 19) = _ := he.1 rfl
      have h22 : A.eval (.tmp 22) = _ := he.2.1 rfl
      refine goOn_plain rfl (stepG_pure rfl rfl ?_)
      generalize A.eval = ev at *
      go_simp
     ·intro W3 hL3
      simp only [TailL, FactL.eq, List.length_cons, List.length_nil, List.drop_succ_cons, List.drop_zero]
      go_frame
      go_wp2
      go_ret
      exact ⟨by rw [HR.out] <;> rfl, hb0.trans ((hb2.trans (hL3.below.mono hb2.size)).mono hb0.size)⟩
  ·obtain rfl : k = 0 := by omega
   have HD := Lib.hid (hg1.out (fun j hj => hd.out j (by omega) hj))
   go_wp2
   go_ret
   exact ⟨by rw [HD.out] <;> rfl, hb0.trans (hbr.mono hb0.size)⟩
set_option maxHeartbeats 1000000 in
set_option maxRecDepth 100000 in
theorem natural7_any (e : Ex) (w : World) : Calls Tryz.prog 19 #[.agg (exC e).toArray] w (Ret w (.bool e.nat)) := by
 obtain ⟨x1, x2, x3, x4⟩ := e
 have hR : Ex.nat (x1, x2, x3, x4) = (decide (0 ≤ x1) && decide (0 ≤ x2) && decide (0 ≤ x3) && decide (0 ≤ x4)) := by
  rw [Bool.eq_iff_iff, Ex.nat_iff]; simp [Bool.and_eq_true, and_assoc]
 generalize Ex.nat (x1, x2, x3, x4) = R at *
 replace hR := Lib.hid hR
 simp only [exC]
 go_enter Tryz.func19, Tryz.ntmps19
 go_upto_region 1 with (fail)
 refine abs1 fun W hb0 B hsz => ?_
 have e1 := B.at1 0 _ rfl
 have e2 := B.at1 1 _ rfl
 have e3 := B.at1 2 _ rfl
 have e4 := B.at1 3 _ rfl
 by_cases h1 : 0 ≤ x1
 ·by_cases h2 : 0 ≤ x2
  ·by_cases h3 : 0 ≤ x3
   ·by_cases h4 : 0 ≤ x4
    ·have HE : Hid (R = true) := Lib.hid (by rw [hR.out]; simp [h1, h2, h3, h4])
     go_wp2
     go_ret
     exact ⟨by rw [HE.out] <;> rfl, hb0⟩
    ·have HE : Hid (R = false) := Lib.hid (by rw [hR.out]; simp [h4])
     go_wp2
     go_ret
     exact ⟨by rw [HE.out] <;> rfl, hb0⟩
   ·have HE : Hid (R = false) := Lib.hid (by rw [hR.out]; simp [h3])
    go_wp2
    go_ret
    exact ⟨by rw [HE.out] <;> rfl, hb0⟩
  ·have HE : Hid (R = false) := Lib.hid (by rw [hR.out]; simp [h2])
   go_wp2
   go_ret
   exact ⟨by rw [HE.out] <;> rfl, hb0⟩
 ·have HE : Hid (R = false) := Lib.hid (by rw [hR.out]; simp [h1])
  go_wp2
  go_ret
  exact ⟨by rw [HE.out] <;> rfl, hb0⟩
end Go.Proofs.YtplfdeohokkebaaGreat
end
section
namespace Go.Proofs.YtplfdeohokkebaaGreat
open Go.RowKit Q Go.WideMaps Go.Maps
def RetPolysO (w : World) (L : List (List Trm)) (e : Ending) (w' : World) : Prop := ∃ g vs, e = .returned (.slice (some ⟨g, 0, none⟩) vs.length vs.length) ∧ Blk w' g polyT vs ∧ w.heap.size ≤ g ∧ Rows1 w.heap.size w' vs L ∧ Below w.heap.size w w'
set_option maxHeartbeats 8000000 in
set_option maxRecDepth 100000 in
theorem coeffs_own (vp : Value) (p : List Trm) (v : Nat) (w : World) (hp : IsPoly w vp p) (hv : v < 4) (hn : NatL p) (hd : degP p v ≤ 1000000) (hpl : p.length ≤ 1000000) : Calls Tryz.prog 33 #[vp, .int .i64 v] w (RetPolysO w (coeffsP p v)) := by
 have hcall := deg_any vp p v w hp hv hpl
 have hdg := degP_ge p v
 have hlt : ∀ t ∈ p, t.1.get v < ((degP p v + 1).toNat : Int) := degP_lt
 have hR : coeffsP p v = coefTo p v (degP p v + 1).toNat p.length := by rw [coefTo, List.take_of_length_le (Nat.le_refl _)]; rfl
 rw [hR]
 clear hR
 obtain ⟨ap, cp, rfl, hcp⟩ := hp.shape
 generalize degP p v = d at *
 obtain ⟨N, rfl⟩ : ∃ N : Nat, d = (N : Int) - 1 := ⟨(d + 1).toNat, by omega⟩
 have hNe : ((N : Int) - 1 + 1).toNat = N := by omega
 rw [hNe] at hlt ⊢
 have hN1 : N ≤ 1000001 := by omega
 have hwN : IntKind.i64.wrap ((N : Int) - 1 + 1) = (N : Int) := by rw [wrap_id (by omega)]; omega
 have hv4 : (v : Int) < 4 := by omega
 replace hn := Lib.hid hn
 replace hlt := Lib.hid hlt
 clear hNe hdg hd
 go_enter Tryz.func33, Tryz.ntmps33
 go_wp2_with (first
  | (go_at_call 24; refine hcall.mono ?_; rintro en w1 ⟨rfl, hb1⟩)
  | (at_make; refine wpList_make_blk rfl _ _ _ rfl polyT (.slice none 0 0) 1 24 Tryz.underlying57 (by kernel_rfl) rfl rfl .i64 .i64 _ _ N rfl rfl rfl rfl (by omega) (by omega) ?_; intro W hB hbW))
 have hb0 := hb1.trans (hbW.mono hb1.size)
 have hog : w.heap.size ≤ w1.heap.size := hb1.size
 have hB0 : Blk W w1.heap.size polyT (List.replicate N (.slice none 0 0)) := hB
 have hR0 : Rows1 w.heap.size W (List.replicate N (.slice none 0 0)) (coefTo p v N 0) := by rw [coefTo_zero]; exact Rows1.start _ _ _
 clear hB hbW hb1
 generalize w1.heap.size = og at *
 go_wp2
 go_loopw [16] (fun i wr => ∃ (k : Nat) (vs : List Value), k ≤ p.length ∧ i = .int .i64 k ∧ vs.length = N ∧ Hid (Blk wr og polyT vs) ∧ Hid (Rows1 w.heap.size wr vs (coefTo p v N k)) ∧ Below w.heap.size w wr) (fun i _ => p.length - (intOf i).toNat)
 case atStart => exact ⟨0, _, by omega, rfl, by simp, Lib.hid hB0, Lib.hid hR0, hb0⟩
 case round =>
  clear hB0 hR0 hb0
  obtain ⟨k, vs, hk, rfl, hvl, hB, hR, hb⟩ := hrel
  by_cases hkl : k < p.length
  ·have hjq : p[k]? = some p[k] := List.getElem?_eq_getElem hkl
   obtain ⟨b'', off', cs, rfl, -, hE, hC⟩ := (hp.on hb).get hjq
   generalize p[k] = t at hjq hE
   obtain ⟨e, q⟩ := t
   obtain ⟨r, rfl, n1, x1, k1, d1, n2, x2, k2, d2, rfl, i1, i2⟩ := hE
   have hr := hC.range
   have hkl' : (k : Int) < p.length := by omega
   have hmem := List.mem_of_getElem? hjq
   have hrat := Lib.hid (show IsRat wr (.agg #[.bool n1, .slice x1 k1 d1, .bool n2, .slice x2 k2 d2]) q from ⟨n1, x1, k1, d1, n2, x2, k2, d2, rfl, i1, i2⟩)
   have hmax : 0 ≤ e.get v := Ex.nat_get (hn.out _ hmem) v
   have hltN : e.get v < (N : Int) := hlt.out _ hmem
   obtain ⟨m, hm⟩ : ∃ m : Nat, e.get v = m := ⟨(e.get v).toNat, by omega⟩
   have hmN : m < N := by omega
   have hstep := coefTo_step p v N hjq hm hmN
   have hat := exC_at e v hv [.bool n1, .slice x1 k1 d1, .bool n2, .slice x2 k2 d2]
   have hset := exC_set e v hv 0 [.bool n1, .slice x1 k1 d1, .bool n2, .slice x2 k2 d2]
   rw [hm] at hat
   simp only at hstep
   generalize hE' : e.put v 0 = E' at hset hstep
   clear hm hmax hltN hE' hC i1 i2
   obtain ⟨e1, e2, e3, e4⟩ := e
   obtain ⟨g1, g2, g3, g4⟩ := E'
   simp only [exC, List.cons_append, List.nil_append] at hr hat hset
   have hcur : vs[m]? = some vs[m] := List.getElem?_eq_getElem (by omega)
   generalize vs[m] = cur at hcur
   have hown := hR.out.own m cur _ hcur (coefTo_get p v k hmN)
   go_upto_region 5 with (first
    | (refine wpList_index_at rfl _ _ 38 rfl monoT Tryz.underlying38 _ 8 96 (by kernel_rfl) _ _ _ rfl .i64 _ rfl k rfl hkl b'' off' rfl ?_)
    | (refine wpList_load_mid rfl 37 _ rfl _ _ rfl _ _ hr Tryz.underlying37 rfl (by kernel_rfl) ?_))
   refine abs1 fun W2 hb2 Bx hsz2 => ?_
   have hogl : og < wr.heap.size := hB.out.lt
   have hwl : w.heap.size ≤ wr.heap.size := hb.size
   have hblk : ∀ (n : Nat) v, vs[n]? = some v → v.ownBlock ≠ some wr.heap.size := fun n v hv he => by have := (hR.out.blk hv he).2; omega
   have hbe := hown.base_le
   have hog2 : cur.ownBlock ≠ some og := by
    intro he
    have h1 := (hown.okr og he).2
    have h2 := hB.out.noOther
    have := h1 _ _ _ hB.out
    exact absurd this (by decide)
   replace hblk := Lib.hid hblk
   replace hbe := Lib.hid hbe
   have hB2 := Lib.hid (hB.out.on hb2)
   have hR2 := Lib.hid (hR.out.on hb2)
   have hbW2 := hb.trans (hb2.mono hb.size)
   have hrat2 := hrat.out.on hb2
   have z := Bx.at1 v _ hat
   have hf := Bx.frozen v
   clear hb2 hB hR hr hrat hb hown
   generalize wr.heap.size = r at *
   go_upto_region 7 with (fail)
   have hl3 := setCell_lr (j := v) Bx (.int .i64 0)
   have B3 := Bx.set v (.int .i64 0)
   have hb3 : Below w.heap.size W2 (W2.setCell ⟨r, v, none⟩ (.int .i64 0)) := setCell_below (by omega) _
   rw [hset] at B3
   generalize W2.setCell ⟨r, v, none⟩ (.int .i64 0) = W3 at *
   have hB3 := hB2.out.lr hl3 (by simp; omega)
   have hR3 := hR2.out.lrB hl3 (by decide) hblk.out
   have hrat3 := hrat2.lr hl3 (by decide)
   have hbW3 := hbW2.trans hb3
   have hsz3 : r < W3.heap.size := B3.lt
   clear z hf hset hat hl3 hB2 hR2 hrat2 hb3 hbW2 Bx
   have hown := hR3.own m cur _ hcur (coefTo_get p v k hmN)
   have hner : some r ≠ cur.ownBlock := fun h => hblk.out m cur hcur h.symm
   have hneo : some og ≠ cur.ownBlock := fun h => hog2 h.symm
   have hcell : ∀ w1, Lr cur.ownBlock monoT W3 w1 → w1.cell? ⟨og, m, none⟩ = some cur := fun w1 hL => by rw [(hB3.lr hL hneo).cell m]; exact hcur
   have hlenL : (coeffP (p.take k) v m).length ≤ 1000000 := by
    unfold coeffP
    rw [List.length_map]
    have := List.length_filter_le (fun t : Trm => decide (t.1.get v = (m : Int))) (p.take k)
    rw [List.length_take] at this
    omega
   go_upto_region 7 with (fail)
   refine wp_region_L mixed (cur.ownBlock) (monoT) (hown.okr) [.eq (.slice (some ⟨og, 0, none⟩) N N), .eq (.int .i64 (m : Int)), .eq (.slice (some ⟨og, 0, none⟩) N N), .eq (.int .i64 (m : Int)), .eq (.pointer (some ⟨og, 0 + m * 1, none⟩)), .eq (cur), .eq (.agg #[.int .i64 g1, .int .i64 g2, .int .i64 g3, .int .i64 g4, .bool n1, .slice x1 k1 d1, .bool n2, .slice x2 k2 d2]), .new1 elTerm elTerm_okT (((g1, g2, g3, g4), q)), .row elTerm (w.heap.size) W3.heap.size (coeffP (p.take k) v m ++ [((g1, g2, g3, g4), q)]), .eq (.pointer (some ⟨og, 0 + m * 1, none⟩))] [27, 28, 29, 30, 31, 32, 33, 34, 35, 36] rfl rfl rfl rfl ⟨?_, ?_, ?_, ?_, ?_, ?_, ?_, ?_, ?_, ?_, trivial⟩ ?_
   ·exact fun A w1 hA hL hS he => goOn_plain rfl (stepG_mv rfl rfl (hA 5 rfl))
   ·exact fun A w1 hA hL hS he => goOn_plain rfl (stepG_mv rfl rfl (hA 8 rfl))
   ·exact fun A w1 hA hL hS he => goOn_plain rfl (stepG_mv rfl rfl (hA 5 rfl))
   ·exact fun A w1 hA hL hS he => goOn_plain rfl (stepG_mv rfl rfl (hA 8 rfl))
   ·intro A w1 hA hL hS he
    have h29 : A.eval (.tmp 29) = _ := he.1 rfl
    have h30 : A.eval (.tmp 30) = _ := he.2.1 rfl
    refine goOn_plain rfl ?_
    exact stepG_pure rfl rfl (execOp_index rfl (by rw [h29, h30]; exact run_index Tryz.underlying57 (by kernel_rfl) w1 og 0 _ _ m .i64 _ (by first | rfl | simp | omega) (hmN)))
   ·intro A w1 hA hL hS he
    have h31 : A.eval (.tmp 31) = _ := he.1 rfl
    refine goOn_plain rfl ?_
    have c0 := hcell w1 hL
    refine stepG_pure rfl rfl ?_
    generalize A.eval = ev at *
    go_simp
   ·intro A w1 hA hL hS he
    have h7 : A.eval (.tmp 7) = .pointer (some ⟨r, 0, none⟩) := hA 7 rfl
    have c0 := ((B3.lr hL hner)).at1 0 _ rfl
    have c1 := ((B3.lr hL hner)).at1 1 _ rfl
    have c2 := ((B3.lr hL hner)).at1 2 _ rfl
    have c3 := ((B3.lr hL hner)).at1 3 _ rfl
    have c4 := ((B3.lr hL hner)).at1 4 _ rfl
    have c5 := ((B3.lr hL hner)).at1 5 _ rfl
    have c6 := ((B3.lr hL hner)).at1 6 _ rfl
    have c7 := ((B3.lr hL hner)).at1 7 _ rfl
    refine goOn_plain rfl (stepG_pure rfl rfl ?_)
    generalize A.eval = ev at *
    go_simp
   ·intro A w1 hA hL hS he
    have hb := hS rfl
    have h33 : A.eval (.tmp 33) = _ := he.1 rfl
    refine goOn_plain rfl ?_
    have hE : (elTerm : El _).E w1 _ (((g1, g2, g3, g4), q)) := ⟨_, rfl, (hrat3.on hb).cellsC⟩
    refine stepG_new1 rfl rfl ((hown.okr).lr hL) hE (execOp_buildSlice rfl ?_) (fun _ _ h => h)
    simp only [List.map_toArray, List.map_cons, List.map_nil, h33]
    exact run_new1_elTermP _ _ ((elTerm).len hE)
   ·intro A w1 hA hL hS he
    have hb := hS rfl
    have h32 : A.eval (.tmp 32) = _ := he.1 rfl
    have f34 : ((.new1 elTerm elTerm_okT (((g1, g2, g3, g4), q)) : FactL (Lr (cur.ownBlock) (monoT)))).p (A.eval (.tmp 34)) w1 := he.2.1 rfl
    obtain ⟨v34, h34⟩ : ∃ v, A.eval (.tmp 34) = v := ⟨_, rfl⟩
    rw [h34] at f34
    refine goOn_plain rfl ?_
    exact stepG_append rfl rfl rfl Tryz.underlying38 info_elTerm h32 h34 (hown.on hb) rfl rfl (isSl_of_new f34) (by simp; omega) (Nat.le_trans hbW3.size hb.size) hL.1.size (fun _ _ h1 h2 => ⟨h1, h2⟩)
   ·intro A w1 hA hL hS he
    have h27 : A.eval (.tmp 27) = _ := he.1 rfl
    have h28 : A.eval (.tmp 28) = _ := he.2.1 rfl
    refine goOn_plain rfl ?_
    exact stepG_pure rfl rfl (execOp_index rfl (by rw [h27, h28]; exact run_index Tryz.underlying57 (by kernel_rfl) w1 og 0 _ _ m .i64 _ (by first | rfl | simp | omega) (hmN)))
   ·intro w5 hL
    simp only [TailL, FactL.eq, FactL.new1, FactL.row, FactL.of, FactL.fragile, List.length_cons, List.length_nil, List.drop_succ_cons, List.drop_zero]
    rintro v34 - v35 ⟨hown5, hnew⟩
    go_frame
    obtain ⟨ca, n5, cc, rfl⟩ : ∃ ca n cc, v35 = .slice ca n cc := let ⟨a, c, h, _⟩ := hown5.shape; ⟨a, _, c, h⟩
    have hBo := hB3.lr hL hneo
    have z := hBo.at1 m cur hcur
    have hf := hBo.frozen m
    have hR5 := hR3.set hcur hL hown5 hnew
    rw [← hstep] at hR5
    have hbW5 := hbW3.trans (hL.belowAt hbW3.size (fun k hk => (hbe.out k hk).1))
    clear hcell hown
    go_wp2
    have hl6 := setCell_lr (j := m) hBo (.slice ca n5 cc)
    go_roundw
    case measure => simp [intOf]; omega
    case rel => exact ⟨k + 1, _, by omega, by go_num, by simp; exact hvl, Lib.hid (hBo.set m _), Lib.hid (hR5.lr hl6 (by decide) (by decide)), hbW5.trans (hl6.belowAt hbW5.size (fun k hk => by cases hk; exact hog))⟩
  ·obtain rfl : k = p.length := by omega
   go_wp2
   go_ret
   exact ⟨og, vs, by rw [hvl]; rfl, hB.out, hog, hR.out, hb⟩
end Go.Proofs.YtplfdeohokkebaaGreat
end
