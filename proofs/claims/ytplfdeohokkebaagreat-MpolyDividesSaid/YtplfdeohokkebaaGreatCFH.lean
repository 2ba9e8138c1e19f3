/- The law of division: its facts. -/
import Derived.Test.YtplfdeohokkebaaGreatCF2
import Derived.Test.YtplfdeohokkebaaGreatCFG
set_option linter.unusedVariables false
set_option linter.unusedSimpArgs false
namespace Q
open Go Go.Proofs.YtplfdeohokkebaaGreat
theorem bd_one {d b : Nat} {c : Rat} (h1 : Dv d c) (h2 : rabs c ≤ ((b : Nat) : Rat)) : Bd ⟨d, b, 0, 1⟩ [(e0, c)] := by
 refine ⟨by simp, fun t ht => ?_, fun t ht => ?_, ?_⟩
 ·rw [List.mem_singleton.1 ht]; simp [e0]
 ·rw [List.mem_singleton.1 ht]; exact h1
 ·simp only [asum]; show rabs c + 0 ≤ ((b : Nat) : Rat); grind
theorem Pk.scaleQ {s t : Sz} {p : List Trm} (h : Pk s p) {c : Rat} (hb : Bd t [(e0, c)]) (k : (s.mul t).ok) : Pk (s.mul t) (scaleP p c) := by
 refine ⟨h.v.scale c, ?_, k⟩
 rw [← timesP_scale]
 by_cases hc : c = 0
 ·rw [timesP, if_pos hc]; exact Bd.nil _
 ·rw [timesP_prods hc]; exact h.b.prods hb
theorem pk_one : Pk ⟨1, 1, 0, 1⟩ (constP 1) := ⟨Vld.const 1, bd_one (Dv.int 1 1) (by decide +kernel), by decide +kernel⟩
theorem canon_three {l : List Trm} {C : Rat} (hn : l.length ≤ 3) (hb : ∀ t ∈ l, rabs t.2 ≤ C) (hc : (canon l).length = 3) : ∀ t ∈ canon l, rabs t.2 ≤ C := by
 have hv := canon_val l
 have key : ∀ t ∈ canon l, t.2 = cf l t.1 ∧ ∃ u ∈ l, u.1 = t.1 := fun t ht => by
  have h1 := cf_one (hv.1.imp fun h => Ex.gt_ne h) ht
  have h2 := cf_canon l t.1
  rw [if_pos (hv.2 t ht).2, h1] at h2
  exact ⟨h2, cf_in (by rw [← h2]; exact (hv.2 t ht).1)⟩
 have hs := hv.1
 generalize canon l = c at *
 match c, hc with
 | [x, y, z], _ =>
  have d1 : x.1 ≠ y.1 := Ex.gt_ne (hs.head y (by simp))
  have d2 : x.1 ≠ z.1 := Ex.gt_ne (hs.head z (by simp))
  have d3 : y.1 ≠ z.1 := Ex.gt_ne (hs.tail.head z (by simp))
  obtain ⟨-, ux, hx, ex⟩ := key x (by simp)
  obtain ⟨-, uy, hy, ey⟩ := key y (by simp)
  obtain ⟨-, uz, hz, ez⟩ := key z (by simp)
  have hp : l.Pairwise (fun s t => s.1 ≠ t.1) := by
   match l, hn with
   | [], _ => exact List.Pairwise.nil
   | [_], _ => exact List.pairwise_singleton _ _
   | [a, b], _ => simp only [List.mem_cons, List.not_mem_nil, or_false] at hx hy hz; grind
   | [a, b, c], _ => simp only [List.mem_cons, List.not_mem_nil, or_false] at hx hy hz; simp only [List.pairwise_cons, List.mem_cons, List.not_mem_nil, or_false, List.Pairwise.nil, and_true, forall_eq_or_imp, forall_eq]; grind
   | _ :: _ :: _ :: _ :: _, h => simp at h
  intro t ht
  obtain ⟨h1, u, hu, he⟩ := key t ht
  rw [h1, ← he, cf_one hp hu]
  exact hb u hu
theorem made_three (L : List Drw) {vs : Nat} (h : (madeP L 3 vs).length = 3) : ∀ t ∈ madeP L 3 vs, rabs t.2 ≤ 9 := by
 refine canon_three ?_ (fun t ht => ?_) h
 ·have : (L.take 3).length ≤ 3 := by rw [List.length_take]; exact Nat.min_le_left _ _
  simpa [madeL] using this
 ·obtain ⟨s, hs, rfl⟩ := List.mem_map.1 ht
  show rabs ((s.2.2.2.2.tmod 10 : Int) : Rat) ≤ 9
  rw [rabs_int]
  have : (s.2.2.2.2.tmod 10).natAbs ≤ 9 := by
   have := Int.natAbs_tmod s.2.2.2.2 10
   have h10 : (10 : Int).natAbs = 10 := rfl
   rw [h10] at this
   have := Nat.mod_lt s.2.2.2.2.natAbs (show 0 < 10 by omega)
   omega
  have h9 : ((9 : Nat) : Rat) = 9 := rfl
  rw [← h9]
  exact Rat.natCast_le_natCast.2 this
structure Dvr (g : Trm) (ts : List Trm) : Prop where
 p : Pk ⟨1, 27, 2, 3⟩ (g :: ts)
 t : (g :: ts).length = 3 → ∀ t ∈ g :: ts, rabs t.2 ≤ 9
theorem okK {D B E N : Nat} (h1 : 0 < D) (h2 : D < 65536) (h3 : B < 2 ^ 1000) (h4 : E < 1000000) (h5 : N < 1000000) : (⟨D, B, E, N⟩ : Sz).ok := ⟨h1, h2, h3, h4, h5⟩
theorem big_lt {B : Nat} (h : B ≤ 1000000000) : B < 2 ^ 1000 := Nat.lt_of_le_of_lt h (by decide +kernel)
section
variable {g : Trm} {ts : List Trm}
theorem int_of_dv {c : Rat} (h : Dv 1 c) : ∃ z : Int, c = (z : Rat) := by
 obtain ⟨k, hk⟩ := h
 exact ⟨k, by rw [← hk, show ((1 : Nat) : Rat) = 1 from rfl, Rat.mul_one]⟩
theorem int_le {z : Int} {n : Nat} (h : rabs (z : Rat) ≤ (n : Rat)) : z.natAbs ≤ n := by
 rw [rabs_int] at h
 exact Rat.natCast_le_natCast.1 h
theorem Dvr.lead (D : Dvr g ts) : ∃ z : Int, g.2 = (z : Rat) ∧ z ≠ 0 ∧ z.natAbs ≤ 27 ∧ (ts.length = 2 → z.natAbs ≤ 9) := by
 obtain ⟨z, hz⟩ := int_of_dv (D.p.b.d g (by simp))
 refine ⟨z, hz, ?_, ?_, fun h => ?_⟩
 ·rintro rfl; exact (D.p.v.2 g (by simp)).1 hz
 ·have h1 := Rat.le_trans (asum_mem (l := g :: ts) (t := g) (by simp)) D.p.b.b
  rw [hz] at h1
  exact int_le h1
 ·have h1 := D.t (by simp [h]) g (by simp)
  rw [hz] at h1
  exact int_le h1
theorem Dvr.gs (D : Dvr g ts) : g.2.num.natAbs ≤ 65535 := by
 obtain ⟨z, hz, -, h, -⟩ := D.lead
 rw [hz, Rat.num_intCast]; omega
theorem Dvr.two (D : Dvr g ts) : ∀ t ∈ g :: ts, Le2 t.1 := fun t ht => by
 have := D.p.b.e t ht
 simp only at this
 unfold Le2; omega
theorem Dvr.any (D : Dvr g ts) {p : List Trm} (P : Pk ⟨1, 36, 2, 4⟩ p) : ∃ (n H G : Nat) (r : Option (List Trm)), RunB (saS H G) ⟨1, 27, 2, 3⟩ (sqS H G) (g :: ts) g ∧ RunD (saS H G) (sqS H G) (g :: ts) g n p [] r ∧
  ∀ s, r = some s → mulP s (g :: ts) = p ∧ Pk (soS H G) s ∧ ((soS H G).mul ⟨1, 27, 2, 3⟩).ok := by
 obtain ⟨z, hz, hz0, hz27, hz9⟩ := D.lead
 have hn : ts.length ≤ 2 := by have := D.p.b.n; simpa using this
 obtain ⟨h, H, hh, hle, hH⟩ := hgt_ex D.p.v hn (fun t ht => D.two t (by simp [ht]))
 have hbn := D.p.b.b
 have hg0 := rabs_nonneg g.2
 simp only [asum] at hbn
 have S : Smalls h H z.natAbs g ts := ⟨hh, ⟨z, hz, rfl, hz0⟩, hn, by have h27 : ((27 : Nat) : Rat) = 27 := rfl; rw [h27] at hbn; grind, fun t ht => D.p.b.d t (by simp [ht]), fun t ht => D.two t (by simp [ht]), (D.p.v.2 g (by simp)).2, D.p.v.1.head⟩
 have hk : 0 < z.natAbs ^ H ∧ z.natAbs ^ H < 65536 ∧ H ≤ 10 := by
  have h1 : 0 < z.natAbs := by omega
  refine ⟨Nat.pow_pos h1, ?_, by omega⟩
  rcases hH with hH | ⟨h2, rfl⟩
  ·calc z.natAbs ^ H ≤ z.natAbs ^ 2 := Nat.pow_le_pow_right h1 hH
    _ ≤ 27 ^ 2 := Nat.pow_le_pow_left hz27 2
    _ < 65536 := by decide
  ·calc z.natAbs ^ 4 ≤ 9 ^ 4 := Nat.pow_le_pow_left (hz9 h2) 4
    _ < 65536 := by decide
 have hH4 : H ≤ 4 := by omega
 have hpl : ∀ t ∈ p, Le2 t.1 := fun t ht => by
  have := P.b.e t ht
  simp only at this
  unfold Le2; omega
 have hJ : ∀ t ∈ p, Jn h H z.natAbs t.1 t.2 := fun t ht => by
  have h2 := hpl t ht
  refine ⟨hle _ h2, ?_, (P.b.d t ht).dvd (Nat.one_dvd _)⟩
  unfold Le2 at h2
  generalize (H - h t.1 : Nat) = y
  omega
 have hc : ∀ l : List Trm, (∀ t ∈ l, Le2 t.1) → cnt (hf h) l ≤ l.length * 31 := fun l => by
  induction l with
  | nil => intro _; simp [cnt]
  | cons t l ih =>
   intro hl
   have h1 := ih fun t ht => hl t (by simp [ht])
   have h2 := hle _ (hl t (by simp))
   have h3 : 2 ^ (h t.1 + 1) ≤ 2 ^ 5 := Nat.pow_le_pow_right (by omega) (by omega)
   simp only [cnt, hf, List.length_cons]
   omega
 have hc1 := hc p hpl
 have hpn := P.b.n
 simp only at hpn
 obtain ⟨n, r, hr, hq⟩ := run_ex S hk D.p.v _ p [] 0 (Nat.le_refl _) P.v hJ (by omega) (Rat.le_trans P.b.b (by decide +kernel)) (Nat.le_refl _)
 have hbig : 27 * (150 * B28) < 2 ^ 1000 := by decide +kernel
 have hb2 : 27 * B28 < 2 ^ 1000 := by decide +kernel
 refine ⟨n, H, z.natAbs, r, ⟨D.p, ⟨ts, rfl⟩, ?_, ?_, ?_, D.gs⟩, hr, fun s hs => ?_⟩
 ·exact okK hk.1 hk.2.1 (by omega) (by omega) (by omega)
 ·show (⟨1 * z.natAbs ^ H, 27 * B28, 2 + (2 + 2 * H), 3 * 1⟩ : Sz).ok
  exact okK (by omega) (by omega) hb2 (by omega) (by omega)
 ·show (⟨1 * z.natAbs ^ H * 1, 27 * B28 * 1, 2 + (2 + 2 * H) + 0, 3 * 1 * 1⟩ : Sz).ok
  exact okK (by omega) (by omega) (by omega) (by omega) (by omega)
 ·obtain ⟨l, rfl, hl⟩ := hq s hs
  refine ⟨hl.m, quo_pk hk hl, ?_⟩
  show (⟨z.natAbs ^ H * 1, 150 * B28 * 27, 2 + 2 * H + 2, 150 * 3⟩ : Sz).ok
  exact okK (by omega) (by omega) (by omega) (by omega) (by omega)
theorem Dvr.exact (D : Dvr g ts) {p : List Trm} (P : Pk ⟨1, 36, 2, 4⟩ p) : RunB (Sz.mul ⟨1, 36, 2, 4⟩ ⟨1, 27, 2, 3⟩) ⟨1, 27, 2, 3⟩ ⟨1, 36, 2, 4⟩ (g :: ts) g ∧ RunD (Sz.mul ⟨1, 36, 2, 4⟩ ⟨1, 27, 2, 3⟩) ⟨1, 36, 2, 4⟩ (g :: ts) g p.length (mulP p (g :: ts)) [] (some p) :=
 ⟨⟨D.p, ⟨ts, rfl⟩, P.k, by decide +kernel, by decide +kernel, D.gs⟩, run_exact (out := []) D.p (by decide +kernel) p P (fun t ht => P.b.sub (List.singleton_sublist.2 ht)) (by have := P.len; have := P.b.n; simp only [List.length_nil] at *; omega)⟩
theorem Dvr.near (D : Dvr g ts) {p : List Trm} (P : Pk ⟨1, 36, 2, 4⟩ p) : ∃ (sa sq : Sz) (n : Nat) (r : Option (List Trm)), RunB sa ⟨1, 27, 2, 3⟩ sq (g :: ts) g ∧ RunD sa sq (g :: ts) g n (addP (mulP p (g :: ts)) (constP 1)) [] r ∧ r.isSome = decide (ts = [] ∧ g.1 = e0) := by
 have hpn := P.b.n
 simp only at hpn
 by_cases hg : g.1 = e0
 ·have hts : ts = [] := by
   cases ts with
   | nil => rfl
   | cons t ts =>
    have h1 := D.p.v.1.head t (by simp)
    have h2 := Ex.nat_iff.1 (D.p.v.2 t (by simp)).2
    rw [hg, Ex.gt_iff] at h1
    simp only [e0] at h1
    omega
  subst hts
  obtain ⟨z, hz, hz0, h27, -⟩ := D.lead
  have PN := (P.mul D.p (by decide +kernel)).add pk_one (by decide +kernel)
  have hnum : Bd ⟨z.natAbs, 1, 0, 1⟩ [(e0, 1 / (z : Rat))] := by
   have h1 := (Dv.int 1 1).div hz0
   rw [Nat.one_mul] at h1
   exact bd_one h1 (Rat.le_trans (rabs_div hz0) (by decide +kernel))
  have hzp : 0 < z.natAbs := by omega
  have hk1 : (Sz.mul (Sz.add (Sz.mul ⟨1, 36, 2, 4⟩ ⟨1, 27, 2, 3⟩) ⟨1, 1, 0, 1⟩) ⟨z.natAbs, 1, 0, 1⟩).ok := by
   exact okK (by simp only [Sz.mul, Sz.add, Nat.lcm_self, Nat.one_mul, Nat.mul_one]; omega) (by simp only [Sz.mul, Sz.add, Nat.lcm_self, Nat.one_mul, Nat.mul_one]; omega) (big_lt (by simp only [Sz.mul, Sz.add]; omega)) (by simp only [Sz.mul, Sz.add]; omega) (by simp only [Sz.mul, Sz.add]; omega)
  have PS := PN.scaleQ hnum hk1
  have hone : ∀ t ∈ scaleP (addP (mulP p [g]) (constP 1)) (1 / (z : Rat)), Bd _ [t] := fun t ht => PS.b.sub (List.singleton_sublist.2 ht)
  have hm : mulP (scaleP (addP (mulP p [g]) (constP 1)) (1 / (z : Rat))) [g] = addP (mulP p [g]) (constP 1) := ev_inj (Vld.mul _ _) PN.v fun x => by
   rw [ev_mul x PS.v.nat D.p.v.nat, ev_scale, ev_cons (l := []), ev_nil, hg, hz]
   have h2 : mon x e0 = 1 := by simp [mon, e0, Rat.pow_zero]
   have h3 : 1 / (z : Rat) * (z : Rat) = 1 := Rat.div_mul_cancel (rintCast_ne hz0)
   rw [h2]; grind
  have ho1 : (Sz.mul ⟨1, 27, 2, 3⟩ (Sz.mul (Sz.add (Sz.mul ⟨1, 36, 2, 4⟩ ⟨1, 27, 2, 3⟩) ⟨1, 1, 0, 1⟩) ⟨z.natAbs, 1, 0, 1⟩)).ok := by
   exact okK (by simp only [Sz.mul, Sz.add, Nat.lcm_self, Nat.one_mul, Nat.mul_one]; omega) (by simp only [Sz.mul, Sz.add, Nat.lcm_self, Nat.one_mul, Nat.mul_one]; omega) (big_lt (by simp only [Sz.mul, Sz.add]; omega)) (by simp only [Sz.mul, Sz.add]; omega) (by simp only [Sz.mul, Sz.add]; omega)
  have ho2 : ((Sz.mul ⟨1, 27, 2, 3⟩ (Sz.mul (Sz.add (Sz.mul ⟨1, 36, 2, 4⟩ ⟨1, 27, 2, 3⟩) ⟨1, 1, 0, 1⟩) ⟨z.natAbs, 1, 0, 1⟩)).mul ⟨1, 1, 0, 1⟩).ok := by
   exact okK (by simp only [Sz.mul, Sz.add, Nat.lcm_self, Nat.one_mul, Nat.mul_one]; omega) (by simp only [Sz.mul, Sz.add, Nat.lcm_self, Nat.one_mul, Nat.mul_one]; omega) (big_lt (by simp only [Sz.mul, Sz.add]; omega)) (by simp only [Sz.mul, Sz.add]; omega) (by simp only [Sz.mul, Sz.add]; omega)
  have ho3 : ((Sz.mul (Sz.add (Sz.mul ⟨1, 36, 2, 4⟩ ⟨1, 27, 2, 3⟩) ⟨1, 1, 0, 1⟩) ⟨z.natAbs, 1, 0, 1⟩).mul ⟨1, 27, 2, 3⟩).ok := by
   exact okK (by simp only [Sz.mul, Sz.add, Nat.lcm_self, Nat.one_mul, Nat.mul_one]; omega) (by simp only [Sz.mul, Sz.add, Nat.lcm_self, Nat.one_mul, Nat.mul_one]; omega) (big_lt (by simp only [Sz.mul, Sz.add]; omega)) (by simp only [Sz.mul, Sz.add]; omega) (by simp only [Sz.mul, Sz.add]; omega)
  have hr := run_exact (out := []) D.p ho3 _ PS hone (by have h1 := PS.len; simpa using h1)
  rw [hm] at hr
  exact ⟨_, _, _, _, ⟨D.p, ⟨[], rfl⟩, PS.k, ho1, ho2, D.gs⟩, hr, by simp [hg]⟩
 ·refine ⟨_, _, _, _, ⟨D.p, ⟨ts, rfl⟩, P.k, by decide +kernel, by decide +kernel, D.gs⟩, run_near (out := []) D.p hg pk_one (by decide +kernel) (by decide +kernel) p P (fun t ht => P.b.sub (List.singleton_sublist.2 ht)) (by simp only [List.length_nil]; omega), ?_⟩
  simp [hg]
end
end Q
