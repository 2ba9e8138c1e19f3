/- The reference's integers: divide (by one limb), DivMod, Gcd. The reference's rational numbers: Of, of, Whole, Valid, Sign, Add, Mul, Same. -/
import Derived.Test.YtplfdeohokkebaaGreatC19
set_option linter.unusedVariables false
set_option linter.unusedSimpArgs false
section
namespace Go.Proofs.YtplfdeohokkebaaGreat
open Go.RowKit Q
def RetD2 (w : World) (x y : Int) (e : Ending) (w' : World) : Prop :=
 ∃ n1 m1 n2 m2, e = .returned (.tuple #[.agg #[.bool n1, m1], .agg #[.bool n2, m2]]) ∧ IsInt w' n1 m1 x ∧ IsInt w' n2 m2 y ∧ Below w.heap.size w w'
theorem results_cells2 {P : Program} {fn : Func} {p q : Tmp} {ty : TypeId} (h : fn.results = #[.cell p ty, .cell q ty]) (tmps : Array Value) (w : World) (g1 g2 : Nat) {d : TypeDesc} (hu : P.underlying ty = some d)
  (hd : (match d with | .struct _ | .array _ _ => true | _ => false) = true) {T1 T2 : TypeId} {c1 c2 : List Value} (hp : tmps.getD p undef = .pointer (some ⟨g1, 0, none⟩)) (hq : tmps.getD q undef = .pointer (some ⟨g2, 0, none⟩)) (h1 : Blk w g1 T1 c1) (h2 : Blk w g2 T2 c2)
  (hi1 : (P.info? ty).map (·.size) = some c1.length) (hi2 : (P.info? ty).map (·.size) = some c2.length) :
  (results fn tmps).run P w = .ok (.tuple #[.agg c1.toArray, .agg c2.toArray]) w := by
 have hp' : tmps[p]?.getD undef = .pointer (some ⟨g1, 0, none⟩) := by simpa using hp
 have hq' : tmps[q]?.getD undef = .pointer (some ⟨g2, 0, none⟩) := by simpa using hq
 have e1 := run_loadVar_row (P := P) w g1 T1 ty c1.toArray (0, 0) d h1 hu hd (by simpa using hi1)
 have e2 := run_loadVar_row (P := P) w g2 T2 ty c2.toArray (0, 0) d h2 hu hd (by simpa using hi2)
 simp [results, h, hp', hq', asAddr, Sem.run_bind, e1, e2]
theorem made1_z {w : World} {neg : Bool} {m : Value} {z : Int} (h : IsInt w neg m z) (hz : nbits z.natAbs ≤ CS) : Calls Tryz.prog 84 #[m, .bool neg] w (RetI w z) := by
 obtain ⟨l, ao, cap, rfl, hc, b, u, L, mm, nn, hp, rfl⟩ := h.openS hz
 exact made1_any neg _ l w u (by omega)
theorem made1_abs {w : World} {neg : Bool} {m : Value} {z : Int} (h : IsInt w neg m z) (hz : nbits z.natAbs ≤ CS) : Calls Tryz.prog 84 #[m, .bool false] w (RetI w z.natAbs) := by
 obtain ⟨l, ao, cap, rfl, hc, b, u, L, mm, nn, hp, rfl⟩ := h.openS hz
 have := made1_any false _ l w u (by omega)
 have hl := lval_nonneg L
 rw [sgn_natAbs, Int.natAbs_of_nonneg hl]
 exact this
set_option maxHeartbeats 1000000 in
set_option maxRecDepth 100000 in
theorem divide1_any (v1 v2 : Value) (l1 : List Int) (d : Int) (w : World) (h1 : U32s w v1 l1) (h2 : U32s w v2 [d]) (b1 : l1.length ≤ 1000000) (hd : 1 ≤ d) :
  Calls Tryz.prog 130 #[v1, v2] w (RetD2 w (lval l1 / d) (lval l1 % d)) := by
 obtain ⟨ao2, cap2, rfl, hc2, L2, m2⟩ := h2
 obtain ⟨p2, o2, rfl, hcl⟩ := m2 (by simp [uc])
 have hdl : d < 4294967296 := (L2 d (by simp)).2
 simp only [List.length_cons, List.length_nil, Nat.zero_add] at hc2 ⊢
 go_enter Tryz.func130, Tryz.ntmps130
 go_upto_region 1 with (fail)
 refine abs2 fun W hb0 B1 B2 hsz => ?_
 have hcell := (hcl.on hb0).ucell 0 (by simp)
 simp only [List.getD_cons_zero, Nat.add_zero] at hcell
 go_upto_region 3 with (first
  | (refine wpList_index_at rfl (.tmp 21) _ _ rfl _ Tryz.underlying30 _ _ _ infoU32 _ _ _ rfl .i64 0 rfl 0 rfl (by omega) p2 o2 rfl ?_; rw [Nat.zero_mul, Nat.add_zero])
  | (go_at_call 143; refine (short1_any _ l1 d _ (h1.on hb0) (by omega) hd hdl).mono ?_; rintro e w1 ⟨v, l, r, rfl, hu, hl, he, hr0, hr1, hb1⟩))
 have hq : Hid (lval l1 / d = lval l ∧ lval l1 % d = r) := Lib.hid (euc (by omega) he hr0 hr1)
 have hr' : 0 ≤ r ∧ r < B32 := by rw [B32_eq]; omega
 clear he hcell
 have hb01 := hb0.trans (hb1.mono hb0.size)
 have B1' := B1.on hb1
 have B2' := B2.on hb1
 have hlr : lval [r] = r := by simp [lval]
 go_wp2_with fail
 refine (made1_any false _ l w1 hu (by omega)).mono ?_
 rintro e w2 hret
 obtain ⟨n3, a3, k3, c3, rfl, i3, hb2⟩ := retI_open hret
 clear hret
 have hba : Below w2.heap.size w2 (w2.alloc (.cells #[.int .u32 r] uT)) := (Below.refl _ _).alloc (Nat.le_refl _) _
 go_wp2_with fail
 refine (made1_any false _ [r] _ (U32s.newOne w2 hr') (by simp)).mono ?_
 rintro e w3 hret
 obtain ⟨n4, a4, k4, c4, rfl, i4, hb3⟩ := retI_open hret
 clear hret
 have hb23 := hb2.trans ((hba.trans (hb3.mono hba.size)).mono hb2.size)
 have hC1 := B1'.on hb23
 have hC2 := B2'.on hb23
 have i3' := i3.on (hba.trans (hb3.mono hba.size))
 go_wp2_with (first
  | (refine wpList_store_blk rfl _ (.tmp 4) (.tmp 28) rfl _ _ _ _ rfl rfl hC1 rfl sizeInt i3'.ones ?_; intro w4 R4 gr4; have hC2' := hC2.grown gr4 (by omega); have i3s := i3'.stored gr4 hC1 (by decide); have i4s := i4.stored gr4 hC1 (by decide))
  | (refine wpList_store_blk rfl _ (.tmp 5) (.tmp 31) rfl _ _ _ _ rfl rfl hC2' rfl sizeInt i4s.ones ?_; intro w5 R5 gr5))
 have hbz := hb01.trans (hb23.mono hb01.size)
 have hlt1 := hC1.lt
 have hlt2 := hC2'.lt
 refine bodyPost_ret (results_cells2 rfl _ _ _ _ Tryz.underlying32 rfl rfl rfl (R4.grown gr5 (by omega)) R5 sizeInt sizeInt) rfl ⟨_, _, _, _, rfl, ?_, ?_, (hbz.trans ((grown_below gr4 (Nat.le_of_lt hlt1) (Nat.le_refl _)).mono (by omega))).trans ((grown_below gr5 (Nat.le_of_lt hlt2) (Nat.le_refl _)).mono (by omega))⟩
 ·have := i3s.stored gr5 hC2' (by decide)
  rw [hq.out.1]; simpa [sgn] using this
 ·have := i4s.stored gr5 hC2' (by decide)
  rw [hlr] at this
  rw [hq.out.2]; simpa [sgn] using this
theorem wl_one {l : List Int} {z : Int} {n : Bool} (hf : Fits z) (hz : z ≠ 0) (h : Limbs l) (hn : Norm l) (e : z = sgn n (lval l)) : ∃ d, l = [d] ∧ 1 ≤ d := by
 have h1 := Fits.one (l := l) (by unfold Fits at *; rw [e, sgn_natAbs] at hf; exact hf) h hn
 match l, h1 with
 | [], _ => exact absurd (by rw [e]; cases n <;> rfl) hz
 | [d], _ =>
  refine ⟨d, rfl, ?_⟩
  have := h d (by simp)
  have hne : d ≠ 0 := by rintro rfl; apply hz; rw [e]; cases n <;> simp [sgn, lval]
  omega
 | _ :: _ :: _, h => simp at h
theorem nbits_abs_le {x y : Int} {K : Nat} (h : x.natAbs ≤ y.natAbs) (hy : nbits y.natAbs ≤ K) : nbits x.natAbs ≤ K := Nat.le_trans (nbits_mono h) hy
set_option maxHeartbeats 4000000 in
set_option maxRecDepth 100000 in
theorem divMod1_any (n1 n2 : Bool) (m1 m2 : Value) (z1 z2 : Int) (w : World) (h1 : IsInt w n1 m1 z1) (h2 : IsInt w n2 m2 z2) (c1 : nbits z1.natAbs ≤ CS / 2) (c2 : nbits z2.natAbs ≤ CS / 2) (hz : z2 ≠ 0) (hf : Fits z2) :
  Calls Tryz.prog 109 #[.agg #[.bool n1, m1], .agg #[.bool n2, m2]] w (RetDM w (z1 / z2) (z1 % z2)) := by
 obtain ⟨a1, k1, q1, rfl, -, -⟩ := h1.shape
 obtain ⟨a2, k2, q2, rfl, -, -⟩ := h2.shape
 have c1' : nbits z1.natAbs ≤ CS := by unfold CS at *; omega
 have c2' : nbits z2.natAbs ≤ CS := by unfold CS at *; omega
 have hsg : (sgnZ z2 == 0) = false := by unfold sgnZ; rw [if_neg hz]; split <;> rfl
 go_enter Tryz.func109, Tryz.ntmps109
 go_upto_region 1 with (fail)
 refine abs4 fun W hb0 B1 B2 B3 B4 hsz => ?_
 refine wp_region_L mixed (none) (0) (Okr.none) [.eq (.pointer (some ⟨w.heap.size, 1, none⟩)), .eq (.slice a1 k1 q1), .eq (.pointer (some ⟨w.heap.size, 0, none⟩)), .eq (.bool n1), .int (by decide) (z1), .eq (.pointer (some ⟨w.heap.size + 1, 1, none⟩)), .eq (.slice a2 k2 q2), .eq (.pointer (some ⟨w.heap.size + 1, 0, none⟩)), .eq (.bool n2), .int (by decide) (z2)] [9, 10, 11, 12, 13, 14, 15, 16, 17, 18] rfl rfl rfl rfl ⟨?_, ?_, ?_, ?_, ?_, ?_, ?_, ?_, ?_, ?_, trivial⟩ ?_
 ·intro A w1 hA hL hS he
  have h2 : A.eval (.tmp 2) = .pointer (some ⟨w.heap.size, 0, none⟩) := hA 2 rfl
  refine goOn_plain rfl (stepG_pure rfl rfl ?_)
  generalize A.eval = ev at *
  go_simp
 ·intro A w1 hA hL hS he
  have hb := hL.below
  have h9 : A.eval (.tmp 9) = _ := he.1 rfl
  have c0 := ((B1).on hb).at1 1 _ rfl
  refine goOn_plain rfl (stepG_pure rfl rfl ?_)
  generalize A.eval = ev at *
  go_simp
 ·intro A w1 hA hL hS he
  have h2 : A.eval (.tmp 2) = .pointer (some ⟨w.heap.size, 0, none⟩) := hA 2 rfl
  refine goOn_plain rfl (stepG_pure rfl rfl ?_)
  generalize A.eval = ev at *
  go_simp
 ·intro A w1 hA hL hS he
  have hb := hL.below
  have h11 : A.eval (.tmp 11) = _ := he.1 rfl
  have c0 := ((B1).on hb).at1 0 _ rfl
  refine goOn_plain rfl (stepG_pure rfl rfl ?_)
  generalize A.eval = ev at *
  go_simp
 ·intro A w1 hA hL hS he
  have hb := hS rfl
  have h10 : A.eval (.tmp 10) = _ := he.1 rfl
  have h12 : A.eval (.tmp 12) = _ := he.2.1 rfl
  have hf0 : A.eval (.func 84) = .func (.func 84) #[] #[] := rfl
  refine goOn_plain rfl ?_
  refine stepG_call (f := 84) (args := #[.slice a1 k1 q1, .bool n1]) rfl rfl ?_ ?_
  ·generalize A.eval = ev at *
   go_simp
  ·refine (made1_z ((h1.on hb0).on hb) c1').mono ?_
   rintro e w' ⟨neg, m, rfl, hi, hb'⟩
   exact ⟨_, rfl, hb', neg, m, rfl, hi⟩
 ·intro A w1 hA hL hS he
  have h3 : A.eval (.tmp 3) = .pointer (some ⟨w.heap.size + 1, 0, none⟩) := hA 3 rfl
  refine goOn_plain rfl (stepG_pure rfl rfl ?_)
  generalize A.eval = ev at *
  go_simp
 ·intro A w1 hA hL hS he
  have hb := hL.below
  have h14 : A.eval (.tmp 14) = _ := he.1 rfl
  have c0 := ((B2).on hb).at1 1 _ rfl
  refine goOn_plain rfl (stepG_pure rfl rfl ?_)
  generalize A.eval = ev at *
  go_simp
 ·intro A w1 hA hL hS he
  have h3 : A.eval (.tmp 3) = .pointer (some ⟨w.heap.size + 1, 0, none⟩) := hA 3 rfl
  refine goOn_plain rfl (stepG_pure rfl rfl ?_)
  generalize A.eval = ev at *
  go_simp
 ·intro A w1 hA hL hS he
  have hb := hL.below
  have h16 : A.eval (.tmp 16) = _ := he.1 rfl
  have c0 := ((B2).on hb).at1 0 _ rfl
  refine goOn_plain rfl (stepG_pure rfl rfl ?_)
  generalize A.eval = ev at *
  go_simp
 ·intro A w1 hA hL hS he
  have hb := hS rfl
  have h15 : A.eval (.tmp 15) = _ := he.1 rfl
  have h17 : A.eval (.tmp 17) = _ := he.2.1 rfl
  have hf0 : A.eval (.func 84) = .func (.func 84) #[] #[] := rfl
  refine goOn_plain rfl ?_
  refine stepG_call (f := 84) (args := #[.slice a2 k2 q2, .bool n2]) rfl rfl ?_ ?_
  ·generalize A.eval = ev at *
   go_simp
  ·refine (made1_z ((h2.on hb0).on hb) c2').mono ?_
   rintro e w' ⟨neg, m, rfl, hi, hb'⟩
   exact ⟨_, rfl, hb', neg, m, rfl, hi⟩
 ·intro W2 hL2
  have hb2 := hL2.below
  simp only [TailL, FactL.eq, FactL.ret, FactL.int, FactL.lim, FactL.of, List.length_cons, List.length_nil, List.drop_succ_cons, List.drop_zero]
  rintro _ ⟨n3, m3, rfl, i3⟩ _ ⟨n4, m4, rfl, i4⟩
  obtain ⟨a3, k3, q3, rfl, -, -⟩ := i3.shape
  obtain ⟨a4, k4, q4, rfl, -, -⟩ := i4.shape
  go_frame
  have C1 := B1.on hb2
  have C2 := B2.on hb2
  have C3 := B3.on hb2
  have C4 := B4.on hb2
  have hb02 := hb0.trans (hb2.mono hb0.size)
  clear B1 B2 B3 B4 hb0 hb2 hL2
  go_upto_region 2 with (first
   | (refine wpList_store_blk rfl _ (.tmp 2) (.tmp 13) rfl _ _ _ _ rfl rfl C1 rfl sizeInt i3.ones ?_; intro w3 R3 gr3; have D2 := C2.grown gr3 (by omega); have D3 := C3.grown gr3 (by omega); have D4 := C4.grown gr3 (by omega); have j3 := i3.stored gr3 C1 (by decide); have j4 := i4.stored gr3 C1 (by decide); have hb3 := hb02.trans ((grown_below gr3 (Nat.le_of_lt C1.lt) (Nat.le_refl _)).mono (by omega)))
   | (refine wpList_store_blk rfl _ (.tmp 3) (.tmp 18) rfl _ _ _ _ rfl rfl D2 rfl sizeInt j4.ones ?_; intro w4 R4 gr4; have E1 := R3.grown gr4 (by omega); have E3 := D3.grown gr4 (by omega); have E4 := D4.grown gr4 (by omega); have k3' := j3.stored gr4 D2 (by decide); have k4' := j4.stored gr4 D2 (by decide); have hb4 := hb3.trans ((grown_below gr4 (Nat.le_of_lt D2.lt) (Nat.le_refl _)).mono (by omega))))
  clear C1 C2 C3 C4 D2 D3 D4 R3 gr3 gr4 i3 i4 j3 j4 hb3 hb02
  have x1 := R4.at1 0 _ rfl
  have x2 := R4.at1 1 _ rfl
  obtain ⟨l3, ao3, cap3, es3, hc3, b3, u3, L3, mm3, nn3, hp3, e3⟩ := k3'.openS c1'
  obtain ⟨l4, ao4, cap4, es4, hc4, b4, u4, L4, mm4, nn4, hp4, e4⟩ := k4'.openS c2'
  obtain ⟨d, rfl, hd1⟩ := wl_one hf hz L4 nn4 e4
  have hlv4 : lval [d] = d := by simp [lval]
  rw [hlv4] at e4
  clear hp3 hp4 hc3 hc4 mm3 mm4 L4 nn4 es3 es4 hf c2 c2'
  have hq0 : lval l3 = (lval l3 / d) * d + lval l3 % d := by have := Int.mul_ediv_add_emod (lval l3) d; rw [Int.mul_comm]; omega
  have hr0 : 0 ≤ lval l3 % d := Int.emod_nonneg _ (by omega)
  have hr1 : lval l3 % d < d := Int.emod_lt_of_pos _ (by omega)
  have hlq0 : 0 ≤ lval l3 / d := Int.ediv_nonneg (lval_nonneg L3) (by omega)
  have hql : (lval l3 / d).natAbs ≤ (lval l3).natAbs := Int.natAbs_ediv_le_natAbs _ _
  have hcl3 : nbits (lval l3).natAbs ≤ CS / 2 := by rw [e3, sgn_natAbs] at c1; exact c1
  have hcq : nbits (lval l3 / d).natAbs ≤ CS := by have := nbits_abs_le hql hcl3; unfold CS at *; omega
  have hcd : nbits d.natAbs ≤ CS := Nat.le_trans (nbits_le (k := 32) (show d.natAbs < 2 ^ 32 from by have := (u4.limbs d (by simp)).2; rw [B32_eq] at this; omega)) (by unfold CS; omega)
  have hcr : nbits (lval l3 % d).natAbs ≤ CS := nbits_abs_le (show (lval l3 % d).natAbs ≤ d.natAbs by omega) hcd
  have hdz := fun h => dm_zero (n1 := n3) (n2 := n4) hq0 hr0 hr1 h
  have hdo := fun h => dm_one (n2 := n4) hq0 h hr1
  have hdv := fun W' (hb : Below w4.heap.size w4 W') => divide1_any _ _ l3 d W' (u3.on hb) (u4.on hb) (by omega) hd1
  replace hq0 := Lib.hid hq0
  rw [← e3, ← e4] at hdz
  replace hcl3 := Lib.hid hcl3
  replace hql := Lib.hid hql
  replace hlv4 := Lib.hid hlv4
  replace e3 := Lib.hid e3
  replace e4 := Lib.hid e4
  generalize lval l3 / d = Q at *
  generalize lval l3 % d = R at *
  have y1 := E1.at1 0 _ rfl
  have y2 := E1.at1 1 _ rfl
  go_upto_region 4 with (go_at_call 88; refine (sign1_any _ _ _ w4 k4').mono ?_; rintro e w5 ⟨rfl, hb5⟩)
  replace E1 := E1.on hb5
  replace R4 := R4.on hb5
  replace E3 := E3.on hb5
  replace E4 := E4.on hb5
  replace hb4 := hb4.trans (hb5.mono hb4.size)
  replace k3' := k3'.on hb5
  replace k4' := k4'.on hb5
  have hdv5 := hdv w5 hb5
  clear x1 x2 y1 y2 hdv hb5 u3 u4 hsg
  have x1 := R4.at1 0 _ rfl
  have x2 := R4.at1 1 _ rfl
  have y1 := E1.at1 0 _ rfl
  have y2 := E1.at1 1 _ rfl
  go_upto_region 5 with (go_at_call 130; refine hdv5.mono ?_; rintro e w6 ⟨n5, m5, n6, m6, rfl, i5, i6, hb6⟩; obtain ⟨a5, k5, q5, rfl, -, -⟩ := i5.shape; obtain ⟨a6, k6, q6, rfl, -, -⟩ := i6.shape)
  clear hdv5
  have hlt6 := E4.lt
  refine abs2 fun W' hb7 Bq Br hsz' => ?_
  have hbx := hb6.trans (hb7.mono hb6.size)
  have hlt7 : w.heap.size + 1 + 1 + 1 < w6.heap.size := by have := hb6.size; omega
  replace E1 := E1.on hbx
  replace R4 := R4.on hbx
  replace E3 := E3.on hbx
  replace E4 := E4.on hbx
  replace hb4 := hb4.trans (hbx.mono hb4.size)
  replace k3' := k3'.on hbx
  replace k4' := k4'.on hbx
  replace i5 := i5.on hb7
  replace i6 := i6.on hb7
  generalize w6.heap.size = g at *
  clear x1 x2 y1 y2 hb6 hb7 hbx
  obtain ⟨t, ht⟩ : ∃ t : Bool, t = (n3 && decide (0 < R)) := ⟨_, rfl⟩
  replace ht := Lib.hid ht
  replace hdz := Lib.hid hdz
  replace hdo := Lib.hid hdo
  have y1 := E1.at1 0 _ rfl
  have z1' := Br.at1 0 _ rfl
  have z2' := Br.at1 1 _ rfl
  go_cut [34, 35, 36, 37, 38] (fun v1 v2 v3 v4 v5 wc => v5 = .bool t ∧ Below W'.heap.size W' wc)
  case first =>
   cases n3
   ·go_wp2
    go_meet
    case rel => exact ⟨by rw [ht.out]; rfl, Below.refl _ _⟩
   ·have hsr := sign1_any _ _ _ W' i6
    by_cases hR : 0 < R
    ·have e : sgnZ R = 1 := by unfold sgnZ; rw [if_neg (by omega), if_neg (by omega)]
     rw [e] at hsr
     have htt : Hid (t = true) := Lib.hid (by rw [ht.out]; simpa using hR)
     go_wp2_with (go_at_call 88; refine hsr.mono ?_; rintro e w7 ⟨rfl, hb7⟩)
     go_meet
     case rel => exact ⟨by rw [htt.out] <;> rfl, hb7⟩
    ·have e : sgnZ R = 0 := by unfold sgnZ; rw [if_pos (by omega)]
     rw [e] at hsr
     have htt : Hid (t = false) := Lib.hid (by rw [ht.out]; simpa using hR)
     go_wp2_with (go_at_call 88; refine hsr.mono ?_; rintro e w7 ⟨rfl, hb7⟩)
     go_meet
     case rel => exact ⟨by rw [htt.out] <;> rfl, hb7⟩
  case rest =>
   obtain ⟨rfl, hbc⟩ := hcut
   replace E1 := E1.on hbc
   replace R4 := R4.on hbc
   replace E3 := E3.on hbc
   replace E4 := E4.on hbc
   replace Bq := Bq.on hbc
   replace Br := Br.on hbc
   replace i5 := i5.on hbc
   replace i6 := i6.on hbc
   replace k3' := k3'.on hbc
   replace k4' := k4'.on hbc
   replace hb4 := hb4.trans (hbc.mono hb4.size)
   clear y1 z1' z2' hbc
   go_upto_if 38 with (fail)
   go_cut [] (fun wc => Below w.heap.size w wc ∧ Hid (Blk wc w.heap.size 32 [.bool n3, .slice a3 k3 q3]) ∧ Hid (Blk wc (w.heap.size + 1) 32 [.bool n4, .slice a4 k4 q4]) ∧
    Hid (Blk wc (w.heap.size + 1 + 1) 32 [.bool false, .slice none 0 0]) ∧ Hid (Blk wc (w.heap.size + 1 + 1 + 1) 32 [.bool false, .slice none 0 0]) ∧ Hid (DM g (if n3 != n4 then -(z1 / z2) else z1 / z2) (z1 % z2) wc))
   case first =>
    cases t
    ·go_wp2
     go_meet
     case rel =>
      have hz : n3 = false ∨ R = 0 := by
       have := ht.out
       cases n3
       ·exact .inl rfl
       ·right; rw [Bool.true_and] at this; have := of_decide_eq_false this.symm; omega
      have hm := hdz.out hz
      exact ⟨hb4, Lib.hid E1, Lib.hid R4, Lib.hid E3, Lib.hid E4, Lib.hid ⟨_, _, _, _, _, _, _, _, Bq, Br, by rw [hm.1]; exact i5, by rw [hm.2]; exact i6⟩⟩
    ·have hn3 : n3 = true := band_left ht.out
     subst hn3
     have hRp : 0 < R := by have h := ht.out; rw [Bool.true_and] at h; exact of_decide_eq_true h.symm
     have hm := hdo.out hRp
     rw [← e3.out, ← e4.out] at hm
     replace hm := Lib.hid hm
     have hma : ∀ W, Below wc.heap.size wc W → Calls Tryz.prog 84 #[.slice a4 k4 q4, .bool false] W (RetI W d) := fun W hb => by
      have := made1_abs (k4'.on hb) (by rw [e4.out, sgn_natAbs]; exact hcd)
      rwa [e4.out, sgn_natAbs, Int.natAbs_of_nonneg (by omega)] at this
     go_upto_region 6 with (fail)
     refine wp_region_L mixed (none) (0) (Okr.none) [.eq (.agg #[.bool n5, .slice a5 k5 q5]), .int (by decide) (1), .int (by decide) ((Q + 1))] [39, 40, 41] rfl rfl rfl rfl ⟨?_, ?_, ?_, trivial⟩ ?_
     ·intro A w1 hA hL hS he
      have hb := hL.below
      have h7 : A.eval (.tmp 7) = .pointer (some ⟨g, 0, none⟩) := hA 7 rfl
      have c0 := ((Bq).on hb).at1 0 _ rfl
      have c1 := ((Bq).on hb).at1 1 _ rfl
      refine goOn_plain rfl (stepG_pure rfl rfl ?_)
      generalize A.eval = ev at *
      go_simp
     ·intro A w1 hA hL hS he
      have hb := hS rfl
      have hf0 : A.eval (.func 56) = .func (.func 56) #[] #[] := rfl
      have hc0 : A.eval (.const (.int .i64 1)) = .int .i64 1 := rfl
      refine goOn_plain rfl ?_
      refine stepG_call (f := 56) (args := #[(.int .i64 1)]) rfl rfl ?_ ?_
      ·generalize A.eval = ev at *
       go_simp
      ·refine (of1_any 1 _ (by omega) (by omega)).mono ?_
       rintro e w' ⟨neg, m, rfl, hi, hb'⟩
       exact ⟨_, rfl, hb', neg, m, rfl, hi⟩
     ·intro A w1 hA hL hS he
      have hb := hS rfl
      have h39 : A.eval (.tmp 39) = _ := he.1 rfl
      have f40 : ((.int (by decide) (1) : FactL (Lr (none) (0)))).p (A.eval (.tmp 40)) w1 := he.2.1 rfl
      obtain ⟨v40, h40⟩ : ∃ v, A.eval (.tmp 40) = v := ⟨_, rfl⟩
      rw [h40] at f40
      have hf0 : A.eval (.func 68) = .func (.func 68) #[] #[] := rfl
      refine goOn_plain rfl ?_
      refine stepG_call (f := 68) (args := #[.agg #[.bool n5, .slice a5 k5 q5], v40]) rfl rfl ?_ ?_
      ·generalize A.eval = ev at *
       go_simp
      ·obtain ⟨n40, m40, rfl, i40⟩ := f40
       refine (add1_any _ _ _ _ _ _ _ (i5.on hb) i40 hcq (by decide)).mono ?_
       rintro e w' ⟨neg, m, rfl, hi, hb'⟩
       exact ⟨_, rfl, hb', neg, m, rfl, hi⟩
     ·intro w8 hL8
      have hb8 := hL8.below
      simp only [TailL, FactL.eq, FactL.ret, FactL.int, FactL.lim, FactL.of, List.length_cons, List.length_nil, List.drop_succ_cons, List.drop_zero]
      rintro _ - _ ⟨n7, m7, rfl, i7⟩
      obtain ⟨a7, k7, q7, rfl, -, -⟩ := i7.shape
      go_frame
      have Bq8 := Bq.on hb8
      go_upto_region 7 with (refine wpList_store_blk rfl _ (.tmp 7) (.tmp 41) rfl _ _ _ _ rfl rfl Bq8 rfl sizeInt i7.ones ?_; intro w9 R9 gr9)
      have hb89 : Below w.heap.size w w9 := hb4.trans ((hb8.mono hb4.size).trans ((grown_below gr9 (Nat.le_of_lt Bq8.lt) (Nat.le_refl _)).mono (by omega)))
      have F1 := (E1.on hb8).grown gr9 (by omega)
      have F2 := (R4.on hb8).grown gr9 (by omega)
      have F3 := (E3.on hb8).grown gr9 (by omega)
      have F4 := (E4.on hb8).grown gr9 (by omega)
      have Fr := (Br.on hb8).grown gr9 (by omega)
      have j7 := i7.stored gr9 Bq8 (by decide)
      have j6 := (i6.on hb8).stored gr9 Bq8 (by decide)
      have j4 := (k4'.on hb8).stored gr9 Bq8 (by decide)
      have hma9 : ∀ W, Below w9.heap.size w9 W → Calls Tryz.prog 84 #[.slice a4 k4 q4, .bool false] W (RetI W d) := fun W hb => by
       have := made1_abs (j4.on hb) (by rw [e4.out, sgn_natAbs]; exact hcd)
       rwa [e4.out, sgn_natAbs, Int.natAbs_of_nonneg (by omega)] at this
      clear E1 R4 E3 E4 Bq Br i7 i6 i5 k4' k3' hma hb8 hL8 Bq8 gr9
      refine wp_region_L mixed (none) (0) (Okr.none) [.eq (.pointer (some ⟨w.heap.size + 1, 1, none⟩)), .eq (.slice a4 k4 q4), .int (by decide) (d), .eq (.agg #[.bool n6, .slice a6 k6 q6]), .int (by decide) ((d - R))] [42, 43, 44, 45, 46] rfl rfl rfl rfl ⟨?_, ?_, ?_, ?_, ?_, trivial⟩ ?_
      ·intro A w1 hA hL hS he
       have h3 : A.eval (.tmp 3) = .pointer (some ⟨w.heap.size + 1, 0, none⟩) := hA 3 rfl
       refine goOn_plain rfl (stepG_pure rfl rfl ?_)
       generalize A.eval = ev at *
       go_simp
      ·intro A w1 hA hL hS he
       have hb := hL.below
       have h42 : A.eval (.tmp 42) = _ := he.1 rfl
       have c0 := ((F2).on hb).at1 1 _ rfl
       refine goOn_plain rfl (stepG_pure rfl rfl ?_)
       generalize A.eval = ev at *
       go_simp
      ·intro A w1 hA hL hS he
       have hb := hS rfl
       have h43 : A.eval (.tmp 43) = _ := he.1 rfl
       have hf0 : A.eval (.func 84) = .func (.func 84) #[] #[] := rfl
       have hc0 : A.eval (.const (.bool false)) = .bool false := rfl
       refine goOn_plain rfl ?_
       refine stepG_call (f := 84) (args := #[.slice a4 k4 q4, (.bool false)]) rfl rfl ?_ ?_
       ·generalize A.eval = ev at *
        go_simp
       ·refine (hma9 _ hb).mono ?_
        rintro e w' ⟨neg, m, rfl, hi, hb'⟩
        exact ⟨_, rfl, hb', neg, m, rfl, hi⟩
      ·intro A w1 hA hL hS he
       have hb := hL.below
       have h8 : A.eval (.tmp 8) = .pointer (some ⟨g + 1, 0, none⟩) := hA 8 rfl
       have c0 := ((Fr).on hb).at1 0 _ rfl
       have c1 := ((Fr).on hb).at1 1 _ rfl
       refine goOn_plain rfl (stepG_pure rfl rfl ?_)
       generalize A.eval = ev at *
       go_simp
      ·intro A w1 hA hL hS he
       have hb := hS rfl
       have f44 : ((.int (by decide) (d) : FactL (Lr (none) (0)))).p (A.eval (.tmp 44)) w1 := he.1 rfl
       obtain ⟨v44, h44⟩ : ∃ v, A.eval (.tmp 44) = v := ⟨_, rfl⟩
       rw [h44] at f44
       have h45 : A.eval (.tmp 45) = _ := he.2.1 rfl
       have hf0 : A.eval (.func 131) = .func (.func 131) #[] #[] := rfl
       refine goOn_plain rfl ?_
       refine stepG_call (f := 131) (args := #[v44, .agg #[.bool n6, .slice a6 k6 q6]]) rfl rfl ?_ ?_
       ·generalize A.eval = ev at *
        go_simp
       ·obtain ⟨n44, m44, rfl, i44⟩ := f44
        refine (sub1_any _ _ _ _ _ _ _ i44 (j6.on hb) hcd hcr).mono ?_
        rintro e w' ⟨neg, m, rfl, hi, hb'⟩
        exact ⟨_, rfl, hb', neg, m, rfl, hi⟩
      ·intro w10 hL10
       have hb10 := hL10.below
       simp only [TailL, FactL.eq, FactL.ret, FactL.int, FactL.lim, FactL.of, List.length_cons, List.length_nil, List.drop_succ_cons, List.drop_zero]
       rintro _ - _ ⟨n11, m11, rfl, i11⟩
       obtain ⟨a11, k11, q11, rfl, -, -⟩ := i11.shape
       go_frame
       have Br10 := Fr.on hb10
       go_wp2_with (refine wpList_store_blk rfl _ (.tmp 8) (.tmp 46) rfl _ _ _ _ rfl rfl Br10 rfl sizeInt i11.ones ?_; intro w11 R11 gr11)
       have hs10 := Br10.lt
       go_meet
       case rel =>
        have hm := hm.out
        refine ⟨hb89.trans ((hb10.mono hb89.size).trans ((grown_below gr11 (Nat.le_of_lt hs10) (Nat.le_refl _)).mono (by omega))), Lib.hid ((F1.on hb10).grown gr11 (by omega)), Lib.hid ((F2.on hb10).grown gr11 (by omega)), Lib.hid ((F3.on hb10).grown gr11 (by omega)), Lib.hid ((F4.on hb10).grown gr11 (by omega)), Lib.hid ⟨_, _, _, _, _, _, _, _, (R9.on hb10).grown gr11 (by omega), R11, ?_, ?_⟩⟩
        ·rw [hm.1]; exact (j7.on hb10).stored gr11 Br10 (by decide)
        ·rw [hm.2]; exact i11.stored gr11 Br10 (by decide)
   case rest =>
    obtain ⟨hb, hB1, hB2, hB3, hB4, hDM⟩ := hcut
    obtain ⟨nq1, aq1, kq1, cq1, nr1, ar1, kr1, cr1, Bq1, Br1, hiq1, hir1⟩ := hDM.out
    have x1 := hB1.out.at1 0 _ rfl
    have x2 := hB2.out.at1 0 _ rfl
    clear E1 R4 E3 E4 Bq Br i5 i6 k3' k4' hb4 hdz hdo ht
    have hlt1 := Br1.lt
    go_upto_if 51 with (fail)
    clear x1 x2 hB1 hB2
    go_cut [] (fun wd => Below w.heap.size w wd ∧ Hid (Blk wd (w.heap.size + 1 + 1) 32 [.bool false, .slice none 0 0]) ∧ Hid (Blk wd (w.heap.size + 1 + 1 + 1) 32 [.bool false, .slice none 0 0]) ∧ Hid (DM g (z1 / z2) (z1 % z2) wd))
    case first =>
     obtain ⟨dd, hd⟩ : ∃ dd : Bool, dd = (n3 != n4) := ⟨_, rfl⟩
     have hd' : (!(n3 == n4)) = dd := by rw [hd]; rfl
     rw [← hd] at hiq1
     rw [hd']
     have u1 := Bq1.at1 0 _ rfl
     have u2 := Bq1.at1 1 _ rfl
     have hnq : nbits (-(z1 / z2)).natAbs ≤ CS := by rw [Int.natAbs_neg]; exact nbits_abs_le (Int.natAbs_ediv_le_natAbs z1 z2) c1'
     cases dd
     ·go_wp2
      go_meet
      case rel => exact ⟨hb, hB3, hB4, Lib.hid ⟨_, _, _, _, _, _, _, _, Bq1, Br1, hiq1, hir1⟩⟩
     ·rw [if_pos rfl] at hiq1
      go_wp2_with (first
       | (go_at_call 114; refine (neg1_any _ _ _ _ hiq1 hnq).mono ?_; rintro e w2 hret; obtain ⟨nq2, aq2, kq2, capq2, rfl, hiq2, hb2⟩ := retI_open hret; clear hret; rw [Int.neg_neg] at hiq2)
       | (refine wpList_store_blk rfl _ (.tmp 7) (.tmp 53) rfl _ _ _ _ rfl rfl (Bq1.on hb2) rfl sizeInt hiq2.ones ?_; intro w3 R3 gr3))
      have hBq := Bq1.on hb2
      go_meet
      case rel => exact ⟨hb.trans ((hb2.mono hb.size).trans ((grown_below gr3 (Nat.le_of_lt hBq.lt) (Nat.le_refl g)).mono (by omega))), Lib.hid ((hB3.out.on hb2).grown gr3 (by omega)), Lib.hid ((hB4.out.on hb2).grown gr3 (by omega)), Lib.hid ⟨_, _, _, _, _, _, _, _, R3, (Br1.on hb2).grown gr3 (by omega), hiq2.stored gr3 hBq (by decide), (hir1.on hb2).stored gr3 hBq (by decide)⟩⟩
    case rest =>
     obtain ⟨hb, hB3, hB4, hDM⟩ := hcut
     obtain ⟨nq1, aq1, kq1, cq1, nr1, ar1, kr1, cr1, Bq1, Br1, hiq1, hir1⟩ := hDM.out
     go_upto_region 10 with (fail)
     have y1 := Bq1.at1 0 _ rfl
     have y2 := Bq1.at1 1 _ rfl
     have y3 := Br1.at1 0 _ rfl
     have y4 := Br1.at1 1 _ rfl
     have s1 := hB3.out.at1 0 _ rfl
     have s2 := hB3.out.at1 1 _ rfl
     have s3 := hB4.out.at1 0 _ rfl
     have s4 := hB4.out.at1 1 _ rfl
     have f1 := hB3.out.frozen 0
     have f2 := hB3.out.frozen 1
     have f3 := hB4.out.frozen 0
     have f4 := hB4.out.frozen 1
     go_region
     obtain ⟨R1, gr1⟩ := setCells_blk [.bool nq1, .slice aq1 kq1 cq1] 0 wc _ hB3.out (by simp)
     obtain ⟨R2, gr2⟩ := setCells_blk [.bool nr1, .slice ar1 kr1 cr1] 0 _ _ (hB4.out.grown gr1 (by omega)) (by simp)
     have hR1 := R1.grown gr2 (by omega)
     have hiq2 := (hiq1.stored gr1 hB3.out (by decide)).stored gr2 (hB4.out.grown gr1 (by omega)) (by decide)
     have hir2 := (hir1.stored gr1 hB3.out (by decide)).stored gr2 (hB4.out.grown gr1 (by omega)) (by decide)
     have hb3 : Below w.heap.size w _ := (hb.trans ((grown_below gr1 (Nat.le_of_lt hB3.out.lt) (Nat.le_refl _)).mono (by omega))).trans ((grown_below gr2 (Nat.le_of_lt (hB4.out.grown gr1 (by omega)).lt) (Nat.le_refl _)).mono (by omega))
     go_wp2
     exact bodyPost_ret (results_row2 rfl _ _ _ _ Tryz.underlying32 rfl rfl rfl hR1 R2 sizeInt sizeInt) rfl ⟨_, _, _, _, rfl, hiq2, hir2, bdn hb3 1⟩
set_option maxHeartbeats 2000000 in
set_option maxRecDepth 100000 in
theorem gcd1_any (n1 n2 : Bool) (m1 m2 : Value) (z1 z2 : Int) (w : World) (h1 : IsInt w n1 m1 z1) (h2 : IsInt w n2 m2 z2) (c1 : nbits z1.natAbs ≤ CS / 2) (c2 : nbits z2.natAbs ≤ CS / 2) (hf : Fits z2) :
  Calls Tryz.prog 89 #[.agg #[.bool n1, m1], .agg #[.bool n2, m2]] w (RetI w (Int.gcd z1 z2)) := by
 obtain ⟨a1, k1, q1, rfl, -, -⟩ := h1.shape
 obtain ⟨a2, k2, q2, rfl, -, -⟩ := h2.shape
 go_enter Tryz.func89, Tryz.ntmps89
 go_upto_region 1 with (fail)
 refine abs3 fun W hb0 B1 B2 B3 hsz => ?_
 have hst : Hid (∃ x y, BoxI w.heap.size x W ∧ BoxI (w.heap.size + 1) y W ∧ nbits x.natAbs ≤ CS / 2 ∧ nbits y.natAbs ≤ CS / 2 ∧ Fits y ∧ Int.gcd x y = Int.gcd z1 z2 ∧ y.natAbs = z2.natAbs) :=
  Lib.hid ⟨z1, z2, ⟨_, _, _, _, B1, h1.on hb0⟩, ⟨_, _, _, _, B2, h2.on hb0⟩, c1, c2, hf, rfl, rfl⟩
 generalize z2.natAbs = n0 at hst
 clear B1 B2
 go_loopg [] n0 (fun n wr => Hid (∃ x y, BoxI w.heap.size x wr ∧ BoxI (w.heap.size + 1) y wr ∧ nbits x.natAbs ≤ CS / 2 ∧ nbits y.natAbs ≤ CS / 2 ∧ Fits y ∧ Int.gcd x y = Int.gcd z1 z2 ∧ y.natAbs = n) ∧ Below w.heap.size w wr ∧ Hid (Blk wr (w.heap.size + 1 + 1) 32 [.bool false, .slice none 0 0]))
 case atStart => exact ⟨hst, hb0, Lib.hid B3⟩
 case round =>
  clear hst hb0 B3 hsz
  obtain ⟨hst, hb, hB⟩ := hrel
  obtain ⟨x, y, ⟨nx, ax, kx, cx, Bx, ix⟩, ⟨ny, ay, ky, cy, By, iy⟩, bx, by', hfy, hg, hn⟩ := hst.out
  clear hst
  replace hg := Lib.hid hg
  replace hn := Lib.hid hn
  have u1 := Bx.at1 0 _ rfl
  have u2 := Bx.at1 1 _ rfl
  have v1 := By.at1 0 _ rfl
  have v2 := By.at1 1 _ rfl
  have hsg := sign1_any _ _ _ wr iy
  by_cases hy : y = 0
  ·subst hy
   have hg0 : Int.gcd z1 z2 = x.natAbs := by have := hg.out; simpa using this.symm
   have hma := fun W' (hb' : Below wr.heap.size wr W') => made1_abs (ix.on hb') (by unfold CS at *; omega)
   rw [← hg0] at hma
   replace hg0 := Lib.hid hg0
   rw [show sgnZ 0 = 0 from rfl] at hsg
   go_upto_region 4 with (go_at_call 88; refine hsg.mono ?_; rintro e w2 ⟨rfl, hb2⟩)
   have Bx2 := Bx.on hb2
   have hB2 := hB.out.on hb2
   clear u1 u2 v1 v2
   have u1 := Bx2.at1 0 _ rfl
   have u2 := Bx2.at1 1 _ rfl
   go_wp2_with (first
    | (go_at_call 84; refine (hma _ hb2).mono ?_; rintro e w3 hret; obtain ⟨n3, a3, k3, c3, rfl, i3, hb3⟩ := retI_open hret; clear hret; have hB3 := hB2.on hb3)
    | (refine wpList_store_blk rfl _ (.tmp 4) (.tmp 22) rfl _ _ _ _ rfl rfl hB3 rfl sizeInt i3.ones ?_; intro w4 R gr))
   exact ret_blk rfl rfl rfl R Tryz.underlying32 rfl sizeInt (int_end hb (hb2.trans (hb3.mono hb2.size)) (by omega) hB3 i3 gr)
  ·have hs0 : (sgnZ y != 0) = true := by unfold sgnZ; rw [if_neg hy]; split <;> rfl
   generalize sgnZ y = sy at hs0 hsg
   go_upto_region 2 with (go_at_call 88; refine hsg.mono ?_; rintro e w2 ⟨rfl, hb2⟩)
   have hdm := divMod1_any _ _ _ _ _ _ w2 (ix.on hb2) (iy.on hb2) bx by' hy hfy
   replace Bx := Bx.on hb2
   replace By := By.on hb2
   have hBB := hB.out.on hb2
   replace iy := iy.on hb2
   replace hb := hb.trans (hb2.mono hb.size)
   clear u1 u2 v1 v2 hs0 hb2 hB
   have u1 := Bx.at1 0 _ rfl
   have u2 := Bx.at1 1 _ rfl
   have v1 := By.at1 0 _ rfl
   have v2 := By.at1 1 _ rfl
   go_upto_region 3 with (go_at_call 109; refine hdm.mono ?_; rintro e w3 ⟨n5, m5, n6, m6, rfl, i5, i6, hb3⟩; obtain ⟨a5, k5, q5, rfl, -, -⟩ := i5.shape; obtain ⟨a6, k6, q6, rfl, -, -⟩ := i6.shape)
   clear hdm u1 u2 v1 v2
   replace Bx := Bx.on hb3
   replace By := By.on hb3
   replace hBB := hBB.on hb3
   replace iy := iy.on hb3
   replace hb := hb.trans (hb3.mono hb.size)
   refine abs2 fun W' hb7 Bq Br hsz' => ?_
   have hlt3 : w.heap.size + 1 + 1 < w3.heap.size := hBB.lt
   replace Bx := Bx.on hb7
   replace By := By.on hb7
   replace hBB := hBB.on hb7
   replace iy := iy.on hb7
   replace i6 := i6.on hb7
   replace hb := hb.trans (hb7.mono hb.size)
   clear i5 hb3 hb7 hsz'
   generalize w3.heap.size = g at *
   have y1 := By.at1 0 _ rfl
   have y2 := By.at1 1 _ rfl
   have y3 := Br.at1 0 _ rfl
   have y4 := Br.at1 1 _ rfl
   have s1 := Bx.at1 0 _ rfl
   have s2 := Bx.at1 1 _ rfl
   have f1 := Bx.frozen 0
   have f2 := Bx.frozen 1
   have f3 := By.frozen 0
   have f4 := By.frozen 1
   go_region
   obtain ⟨R1, gr1⟩ := setCells_blk [.bool ny, .slice ay ky cy] 0 W' _ Bx (by simp)
   have hBy := By.grown gr1 (by omega)
   obtain ⟨R2, gr2⟩ := setCells_blk [.bool n6, .slice a6 k6 q6] 0 _ _ hBy (by simp)
   have hR1 := R1.grown gr2 (by omega)
   have iy2 := (iy.stored gr1 Bx (by decide)).stored gr2 hBy (by decide)
   have i62 := (i6.stored gr1 Bx (by decide)).stored gr2 hBy (by decide)
   have hBB2 := (hBB.grown gr1 (by omega)).grown gr2 (by omega)
   have hb3 : Below w.heap.size w _ := (hb.trans ((grown_below gr1 (Nat.le_of_lt Bx.lt) (Nat.le_refl _)).mono (by omega))).trans ((grown_below gr2 (Nat.le_of_lt hBy.lt) (Nat.le_refl _)).mono (by omega))
   clear R1 hBy gr1 gr2 s1 s2 y1 y2 y3 y4 f1 f2 f3 f4 Bx By Bq Br iy i6 hBB hb
   have hm0 : 0 ≤ x % y := Int.emod_nonneg _ hy
   have hm1 : (x % y).natAbs < y.natAbs := by
    rcases Int.lt_or_gt_of_ne hy with h | h
    ·have := Int.emod_lt_of_pos x (show 0 < -y by omega); rw [Int.emod_neg] at this; omega
    ·have := Int.emod_lt_of_pos x h; omega
   have hgs : Int.gcd y (x % y) = Int.gcd x y := by
    have := gcd_step (x / y) y (x % y)
    rw [← this, Int.mul_comm, Int.mul_ediv_add_emod]
   go_wp2
   go_roundg ((x % y).natAbs)
   case measure => have := hn.out; omega
   case rel => exact ⟨Lib.hid ⟨y, x % y, ⟨_, _, _, _, hR1.drew, iy2.on (bdn (Below.refl _ _) 1)⟩, ⟨_, _, _, _, R2.drew, i62.on (bdn (Below.refl _ _) 1)⟩, by', nbits_abs_le (Nat.le_of_lt hm1) by', hfy.le (Nat.le_of_lt hm1), by rw [hgs, hg.out], rfl⟩, bdn hb3 1, Lib.hid hBB2.drew⟩
end Go.Proofs.YtplfdeohokkebaaGreat
end
section
namespace Go.Proofs.YtplfdeohokkebaaGreat
open Go.RowKit Q
def Rs (q : Rat) : Prop := q.den < 65536 ∧ nbits q.num.natAbs ≤ 1000000
theorem Rs.rk {q : Rat} (h : Rs q) : Rk q := ⟨h.1, by have := h.2; unfold CAP; omega⟩
theorem Rs.num {q : Rat} (h : Rs q) : nbits q.num.natAbs ≤ CS / 4 := by have := h.2; unfold CS; omega
theorem Rs.den {q : Rat} (h : Rs q) : nbits ((q.den : Int)).natAbs ≤ CS / 4 := by have := den_bits h.1; rw [Int.natAbs_natCast]; unfold CS; omega
theorem cs4 {x : Int} (h : nbits x.natAbs ≤ CS / 4) : nbits x.natAbs ≤ CS := by unfold CS at *; omega
theorem cs2 {x : Int} (h : nbits x.natAbs ≤ CS / 4) : nbits x.natAbs ≤ CS / 2 := by unfold CS at *; omega
theorem crossS {p q : Rat} (h : Rs p) (h' : Rs q) : nbits (p.num * (q.den : Int)).natAbs ≤ CS / 8 := by
 have := nbits_mul p.num.natAbs q.den
 have := h.2; have := den_bits h'.1
 rw [Int.natAbs_mul, Int.natAbs_natCast]; unfold CS; omega
theorem densS {p q : Rat} (h : Rs p) (h' : Rs q) : Fits ((p.den : Int) * q.den) ∧ nbits ((p.den : Int) * q.den).natAbs ≤ CS / 4 ∧ (p.den : Int) * q.den ≠ 0 := by
 obtain ⟨h1, h2, h3⟩ := dens_fit h.rk h'.rk
 refine ⟨h1, ?_, h3⟩
 have := nbits_le (n := ((p.den : Int) * q.den).natAbs) (k := 32) (by unfold Fits at h1; omega)
 unfold CS; omega
set_option maxHeartbeats 2000000 in
set_option maxRecDepth 100000 in
theorem of2_any (n1 n2 : Bool) (m1 m2 : Value) (z1 z2 : Int) (w : World) (h1 : IsInt w n1 m1 z1) (h2 : IsInt w n2 m2 z2) (c1 : nbits z1.natAbs ≤ CS / 4) (c2 : nbits z2.natAbs ≤ CS / 4) (hz : z2 ≠ 0) (hf : Fits z2) :
  Calls Tryz.prog 100 #[.agg #[.bool n1, m1], .agg #[.bool n2, m2]] w (RetRatE w (Rat.divInt z1 z2) 0) := by
 obtain ⟨a1, k1, q1, rfl, -, -⟩ := h1.shape
 obtain ⟨a2, k2, q2, rfl, -, -⟩ := h2.shape
 obtain ⟨x, d, hd, ed, ex, hneg, hpos, hn, hdn⟩ := divInt_any z1 z2 hz
 have hsg : (sgnZ z2 == 0) = false := by unfold sgnZ; rw [if_neg hz]; split <;> rfl
 generalize Rat.divInt z1 z2 = Qr at *
 have c1' := cs4 c1
 have c2' := cs4 c2
 rw [← ed] at c2
 rw [← ex] at c1
 replace hf : Fits d := by unfold Fits at *; rw [ed]; exact hf
 replace hn := Lib.hid hn
 replace hdn := Lib.hid hdn
 go_enter Tryz.func100, Tryz.ntmps100
 go_upto_region 1 with (fail)
 refine abs3 fun W hb0 B1 B2 B3 hsz => ?_
 have y1 := B2.at1 0 _ rfl
 have y2 := B2.at1 1 _ rfl
 go_upto_region 3 with (go_at_call 88; refine (sign1_any _ _ _ W (h2.on hb0)).mono ?_; rintro e w0 ⟨rfl, hbs⟩)
 replace B1 := B1.on hbs
 replace B2 := B2.on hbs
 replace B3 := B3.on hbs
 replace hb0 := hb0.trans (hbs.mono hb0.size)
 clear y1 y2 hbs hsg
 have y1 := B2.at1 0 _ rfl
 have y2 := B2.at1 1 _ rfl
 go_upto_if 19 with (go_at_call 88; refine (sign1_any _ _ _ w0 (h2.on hb0)).mono ?_; rintro e w1 ⟨rfl, hb1⟩)
 replace B1 := B1.on hb1
 replace B2 := B2.on hb1
 replace B3 := B3.on hb1
 replace hb0 := hb0.trans (hb1.mono hb0.size)
 clear y1 y2 hb1
 go_cut [] (fun wc => Below w.heap.size w wc ∧ Hid (BoxI w.heap.size x wc) ∧ Hid (BoxI (w.heap.size + 1) d wc) ∧ Hid (Blk wc (w.heap.size + 1 + 1) 34 [.bool false, .slice none 0 0, .bool false, .slice none 0 0]))
 case first =>
  rcases sgnZ_cases z2 with ⟨h, hs⟩ | ⟨h, -⟩ | ⟨h, hs⟩
  ·obtain ⟨rfl, rfl⟩ := hneg h
   rw [hs]
   replace h1 := h1.on hb0
   replace h2 := h2.on hb0
   clear hneg hpos
   go_upto_region 4 with (fail)
   refine wp_region_L mixed (none) (0) (Okr.none) [.eq (.agg #[.bool n1, .slice a1 k1 q1]), .int (by decide) ((-z1)), .eq (.agg #[.bool n2, .slice a2 k2 q2]), .int (by decide) ((-z2))] [20, 21, 22, 23] rfl rfl rfl rfl ⟨?_, ?_, ?_, ?_, trivial⟩ ?_
   ·intro A w1 hA hL hS he
    have hb := hL.below
    have h2 : A.eval (.tmp 2) = .pointer (some ⟨w.heap.size, 0, none⟩) := hA 2 rfl
    have c0 := ((B1).on hb).at1 0 _ rfl
    have c1 := ((B1).on hb).at1 1 _ rfl
    refine goOn_plain rfl (stepG_pure rfl rfl ?_)
    generalize A.eval = ev at *
    go_simp
   ·intro A w1 hA hL hS he
    have hb := hS rfl
    have h20 : A.eval (.tmp 20) = _ := he.1 rfl
    have hf0 : A.eval (.func 114) = .func (.func 114) #[] #[] := rfl
    refine goOn_plain rfl ?_
    refine stepG_call (f := 114) (args := #[.agg #[.bool n1, .slice a1 k1 q1]]) rfl rfl ?_ ?_
    ·generalize A.eval = ev at *
     go_simp
    ·refine (neg1_any _ _ _ _ (h1.on hb) c1').mono ?_
     rintro e w' ⟨neg, m, rfl, hi, hb'⟩
     exact ⟨_, rfl, hb', neg, m, rfl, hi⟩
   ·intro A w1 hA hL hS he
    have hb := hL.below
    have h3 : A.eval (.tmp 3) = .pointer (some ⟨w.heap.size + 1, 0, none⟩) := hA 3 rfl
    have c0 := ((B2).on hb).at1 0 _ rfl
    have c1 := ((B2).on hb).at1 1 _ rfl
    refine goOn_plain rfl (stepG_pure rfl rfl ?_)
    generalize A.eval = ev at *
    go_simp
   ·intro A w1 hA hL hS he
    have hb := hS rfl
    have h22 : A.eval (.tmp 22) = _ := he.1 rfl
    have hf0 : A.eval (.func 114) = .func (.func 114) #[] #[] := rfl
    refine goOn_plain rfl ?_
    refine stepG_call (f := 114) (args := #[.agg #[.bool n2, .slice a2 k2 q2]]) rfl rfl ?_ ?_
    ·generalize A.eval = ev at *
     go_simp
    ·refine (neg1_any _ _ _ _ (h2.on hb) c2').mono ?_
     rintro e w' ⟨neg, m, rfl, hi, hb'⟩
     exact ⟨_, rfl, hb', neg, m, rfl, hi⟩
   ·intro w2 hL2
    have hb2 := hL2.below
    simp only [TailL, FactL.eq, FactL.int, FactL.of, List.length_cons, List.length_nil, List.drop_succ_cons, List.drop_zero]
    rintro _ ⟨n3, m3, rfl, i3⟩ _ ⟨n4, m4, rfl, i4⟩
    obtain ⟨a3, k3, q3, rfl, -, -⟩ := i3.shape
    obtain ⟨a4, k4, q4, rfl, -, -⟩ := i4.shape
    go_frame
    refine wpList_store_blk rfl _ (.tmp 2) (.tmp 21) rfl _ _ _ _ rfl rfl (B1.on hb2) rfl sizeInt i3.ones ?_
    intro w3 R3 gr3
    have hB2 := (B2.on hb2).grown gr3 (by omega)
    have j4 := i4.stored gr3 (B1.on hb2) (by decide)
    go_frame
    refine wpList_store_blk rfl _ (.tmp 3) (.tmp 23) rfl _ _ _ _ rfl rfl hB2 rfl sizeInt j4.ones ?_
    intro w4 R4 gr4
    have hlt := B1.lt
    have hlt2 := (B1.on hb2).lt
    have hlt3 := hB2.lt
    go_wp2
    go_meet
    case rel => exact ⟨hb0.trans ((hb2.mono hb0.size).trans (((grown_below gr3 (Nat.le_of_lt hlt2) (Nat.le_refl _))).trans ((grown_below gr4 (by omega) (by omega))))), Lib.hid ⟨_, _, _, _, R3.grown gr4 (by omega), (i3.stored gr3 (B1.on hb2) (by decide)).stored gr4 hB2 (by decide)⟩, Lib.hid ⟨_, _, _, _, R4, j4.stored gr4 hB2 (by decide)⟩, Lib.hid (((B3.on hb2).grown gr3 (by omega)).grown gr4 (by omega))⟩
  ·omega
  ·obtain ⟨rfl, rfl⟩ := hpos h
   rw [hs]
   go_wp2
   go_meet
   case rel => exact ⟨hb0, Lib.hid ⟨_, _, _, _, B1, h1.on hb0⟩, Lib.hid ⟨_, _, _, _, B2, h2.on hb0⟩, Lib.hid B3⟩
 case rest =>
  obtain ⟨hb, hB1, hB2, hB3⟩ := hcut
  obtain ⟨nx, ax, kx, cx, Bx, ix⟩ := hB1.out
  obtain ⟨nd, ad, kd, cd, Bd, id⟩ := hB2.out
  have u1 := Bx.at1 0 _ rfl
  have u2 := Bx.at1 1 _ rfl
  have v1 := Bd.at1 0 _ rfl
  have v2 := Bd.at1 1 _ rfl
  clear B1 B2 B3 hneg hpos
  go_upto_region 6 with (go_at_call 89; refine (gcd1_any _ _ _ _ _ _ _ ix id (cs2 c1) (cs2 c2) hf).mono ?_; rintro e w2 hret; obtain ⟨ng, ag, kg, cg, rfl, ig, hb2⟩ := retI_open hret; clear hret)
  refine abs1 fun W2 hb3 Bg hsz2 => ?_
  have hbB := hb2.trans (hb3.mono hb2.size)
  replace Bx := Bx.on hbB
  replace Bd := Bd.on hbB
  replace ix := ix.on hbB
  replace id := id.on hbB
  replace ig := ig.on hb3
  have hB3' := hB3.out.on hbB
  replace hb := hb.trans (hbB.mono hb.size)
  have hlt2 : w.heap.size + 1 + 1 < w2.heap.size := by have := hb2.size; have := hB3.out.lt; omega
  generalize w2.heap.size = r at *
  have hg1 : Int.gcd x d ≤ d.natAbs := Int.gcd_le_natAbs_right _ (by omega)
  have hg0 : 0 < Int.gcd x d := Int.gcd_pos_of_ne_zero_right _ (by omega)
  generalize Int.gcd x d = g at *
  have c5 : nbits ((g : Int)).natAbs ≤ CS / 2 := by rw [Int.natAbs_natCast]; exact Nat.le_trans (nbits_mono hg1) (cs2 c2)
  have hgF : Fits (g : Int) := hf.le (by rw [Int.natAbs_natCast]; exact hg1)
  have hgz : (g : Int) ≠ 0 := by omega
  clear hbB hb2 hb3 u1 u2 v1 v2 hB1 hB2 hB3
  have e1 := Bx.at1 0 _ rfl
  have e2 := Bx.at1 1 _ rfl
  have e3 := Bg.at1 0 _ rfl
  have e4 := Bg.at1 1 _ rfl
  go_upto_region 7 with (go_at_call 109; refine (divMod1_any _ _ _ _ _ _ _ ix ig (cs2 c1) c5 hgz hgF).mono ?_; rintro e w5 ⟨n5, m5, n6, m6, rfl, i5, i6, hb5⟩; obtain ⟨a5, k5, q5, rfl, -, -⟩ := i5.shape; obtain ⟨a6, k6, q6, rfl, -, -⟩ := i6.shape)
  refine abs2 fun W5 hb6 Bp Bpr hsz5 => ?_
  have hbB := hb5.trans (hb6.mono hb5.size)
  replace Bd := Bd.on hbB
  replace Bg := Bg.on hbB
  replace id := id.on hbB
  replace ig := ig.on hbB
  replace hB3' := hB3'.on hbB
  replace hb := hb.trans (hbB.mono hb.size)
  replace i5 := i5.on hb6
  rw [← hn.out] at i5
  have hlt5 : r < w5.heap.size := by have := hb5.size; omega
  generalize w5.heap.size = r5 at *
  clear e1 e2 e3 e4 hb5 hb6 hbB ix Bx i6 Bpr
  have e1 := Bd.at1 0 _ rfl
  have e2 := Bd.at1 1 _ rfl
  have e3 := Bg.at1 0 _ rfl
  have e4 := Bg.at1 1 _ rfl
  go_upto_region 8 with (go_at_call 109; refine (divMod1_any _ _ _ _ _ _ _ id ig (cs2 c2) c5 hgz hgF).mono ?_; rintro e w7 ⟨n7, m7, n8, m8, rfl, i7, i8, hb7⟩; obtain ⟨a7, k7, q7, rfl, -, -⟩ := i7.shape; obtain ⟨a8, k8, q8, rfl, -, -⟩ := i8.shape)
  refine abs2 fun W7 hb8 Bq Bqr hsz7 => ?_
  have hbB := hb7.trans (hb8.mono hb7.size)
  replace Bp := Bp.on hbB
  replace hB3' := hB3'.on hbB
  replace hb := hb.trans (hbB.mono hb.size)
  replace i5 := i5.on hbB
  replace i7 := i7.on hb8
  rw [← hdn.out] at i7
  generalize w7.heap.size = r7 at *
  clear e1 e2 e3 e4 hb7 hb8 hbB id Bd i8 Bqr
  have e1 := Bp.at1 0 _ rfl
  have e2 := Bp.at1 1 _ rfl
  have e3 := Bq.at1 0 _ rfl
  have e4 := Bq.at1 1 _ rfl
  go_wp2_with (refine wpList_store_blk rfl _ (.tmp 4) (.tmp 43) rfl _ _ _ _ rfl rfl hB3' rfl sizeRat isRat_ones ?_; intro w9 R9 gr9)
  exact bodyPost_ret (results_cell1 rfl _ _ _ Tryz.underlying34 rfl rfl R9 sizeRat) rfl ⟨_, rfl, IsRat.stored ⟨_, _, _, _, _, _, _, _, rfl, i5, i7⟩ gr9 hB3' (by decide), hb.trans ((grown_below gr9 (Nat.le_of_lt hB3'.lt) (Nat.le_refl _)).mono (by omega))⟩
set_option maxHeartbeats 2000000 in
set_option maxRecDepth 100000 in
theorem of3_any (n1 n2 : Bool) (m1 m2 : Value) (z1 z2 : Int) (w : World) (h1 : IsInt w n1 m1 z1) (h2 : IsInt w n2 m2 z2) (c1 : nbits z1.natAbs ≤ CS / 4) (c2 : nbits z2.natAbs ≤ CS / 4) (hz : z2 ≠ 0) (hf : Fits z2) :
  Calls Tryz.prog 70 #[.agg #[.bool n1, m1], .agg #[.bool n2, m2]] w (RetRat w (Rat.divInt z1 z2)) := by
 obtain ⟨a1, k1, q1, rfl, -, -⟩ := h1.shape
 obtain ⟨a2, k2, q2, rfl, -, -⟩ := h2.shape
 go_enter Tryz.func70, Tryz.ntmps70
 go_upto_region 1 with (fail)
 refine abs3 fun W hb0 B1 B2 B3 hsz => ?_
 have x1 := B1.at1 0 _ rfl
 have x2 := B1.at1 1 _ rfl
 have y1 := B2.at1 0 _ rfl
 have y2 := B2.at1 1 _ rfl
 go_upto_region 2 with (go_at_call 100; refine (of2_any _ _ _ _ _ _ W (h1.on hb0) (h2.on hb0) c1 c2 hz hf).mono ?_; rintro e w1 ⟨v, rfl, hv, hb1⟩; obtain ⟨t1, b1, g1, d1, t2, b2, g2, d2, rfl, j1, j2⟩ := hv)
 refine abs1 fun W2 hb2 B5 hsz2 => ?_
 have hbB := hb1.trans (hb2.mono hb1.size)
 have C3 := B3.on hbB
 have e1 := B5.at1 0 _ rfl
 have e2 := B5.at1 1 _ rfl
 have e3 := B5.at1 2 _ rfl
 have e4 := B5.at1 3 _ rfl
 clear x1 x2 y1 y2
 go_wp2_with (refine wpList_store_blk rfl _ (.tmp 4) (.tmp 13) rfl _ _ _ _ rfl rfl C3 rfl sizeRat isRat_ones ?_; intro w3 R gr)
 exact ret_blk rfl rfl rfl R Tryz.underlying34 rfl sizeRat (rat_end hb0 hbB (by omega) C3 ⟨_, _, _, _, _, _, _, _, rfl, j1.on hb2, j2.on hb2⟩ gr)
end Go.Proofs.YtplfdeohokkebaaGreat
end
