/- Divisions of small polynomials: each ends, with small numbers. -/
import Derived.Test.YtplfdeohokkebaaGreatCFC
set_option linter.unusedVariables false
set_option linter.unusedSimpArgs false
namespace Q
open Go Go.Proofs.YtplfdeohokkebaaGreat
theorem Dv.div {D : Nat} {c : Rat} {z : Int} (h : Dv D c) (hz : z ≠ 0) : Dv (D * z.natAbs) (c / (z : Rat)) := by
 obtain ⟨k, hk⟩ := h
 have hz' : (z : Rat) ≠ 0 := rintCast_ne hz
 have h1 : c / (z : Rat) * (z : Rat) = c := Rat.div_mul_cancel hz'
 rcases Int.natAbs_eq z with h | h
 ·refine ⟨k, ?_⟩
  have h2 : ((z.natAbs : Nat) : Rat) = (z : Rat) := by rw [← Rat.intCast_natCast, ← h]
  rw [Rat.natCast_mul, h2, ← hk]; grind
 ·refine ⟨-k, ?_⟩
  have h2 : ((z.natAbs : Nat) : Rat) = -(z : Rat) := by
   rw [← Rat.intCast_natCast, ← Rat.intCast_neg]; congr 1; omega
  rw [Rat.natCast_mul, h2, Rat.intCast_neg, ← hk]; grind
theorem rabs_cast (z : Int) : rabs (z : Rat) = ((z.natAbs : Nat) : Rat) := by
 rw [← Rat.intCast_natCast]
 rcases Int.lt_or_le z 0 with h | h
 ·rw [rabs_of_neg (by exact Rat.intCast_neg_iff.2 h), ← Rat.intCast_neg]; congr 1; omega
 ·rw [rabs_of_pos (by exact Rat.intCast_nonneg.2 h)]; congr 1; omega
theorem rabs_div {c : Rat} {z : Int} (hz : z ≠ 0) : rabs (c / (z : Rat)) ≤ rabs c := by
 have h1 : c / (z : Rat) * (z : Rat) = c := Rat.div_mul_cancel (rintCast_ne hz)
 have h2 : rabs c = rabs (c / (z : Rat)) * rabs (z : Rat) := by rw [← rabs_mul, h1]
 have h3 : (1 : Rat) ≤ rabs (z : Rat) := by
  rw [rabs_cast]
  have : 1 ≤ z.natAbs := by omega
  exact_mod_cast this
 have h4 : rabs (c / (z : Rat)) * 1 ≤ rabs (c / (z : Rat)) * rabs (z : Rat) := Rat.mul_le_mul_of_nonneg_left h3 (rabs_nonneg _)
 rw [h2]; grind
structure Smalls (h : Ex → Nat) (H G : Nat) (g : Trm) (ts : List Trm) : Prop where
 hg : Hgt h g.1 ts
 z : ∃ z : Int, g.2 = (z : Rat) ∧ z.natAbs = G ∧ z ≠ 0
 n : ts.length ≤ 2
 a : asum ts ≤ 27
 i : ∀ t ∈ ts, Dv 1 t.2
 x : ∀ t ∈ ts, t.1.1 ≤ 2 ∧ t.1.2.1 ≤ 2 ∧ t.1.2.2.1 ≤ 2 ∧ t.1.2.2.2 ≤ 2
 gn : g.1.nat = true
 lt : ∀ t ∈ ts, g.1.gt t.1 = true
section
variable {h : Ex → Nat} {H G : Nat} {m g : Trm} {a ts : List Trm}
theorem Smalls.quo (S : Smalls h H G g ts) (c : Rat) : rabs (c / g.2) ≤ rabs c := by
 obtain ⟨z, h1, -, h3⟩ := S.z
 rw [h1]; exact rabs_div h3
theorem Smalls.ne (S : Smalls h H G g ts) : g.2 ≠ 0 := by
 obtain ⟨z, h1, -, h3⟩ := S.z
 rw [h1]; exact rintCast_ne h3
theorem Smalls.dv (S : Smalls h H G g ts) {k : Nat} {c : Rat} (hc : Dv (G ^ k) c) : Dv (G ^ (k + 1)) (c / g.2) := by
 obtain ⟨z, h1, h2, h3⟩ := S.z
 rw [h1, Nat.pow_succ, ← h2]
 rw [← h2] at hc
 exact hc.div h3
theorem rnd_jn (S : Smalls h H G g ts) (ha : Vld (m :: a)) (hJ : ∀ t ∈ m :: a, Jn h H G t.1 t.2) (hd : (m.1.sub g.1).nat = true) : ∀ t ∈ canon (rndL a ts (quoT m g)), Jn h H G t.1 t.2 := by
 have hmn := (ha.2 m (by simp)).2
 have hm := hJ m (by simp)
 refine canon_inv Jn.add fun t ht => ?_
 rcases List.mem_append.1 ht with ht | ht
 ·exact hJ t (by simp [ht])
 ·obtain ⟨u, hu, rfl⟩ := List.mem_map.1 ht
  have h1 := S.hg.dec m.1 hmn hd u hu
  have hx := S.x u hu
  have hgn := Ex.nat_iff.1 S.gn
  have hmx := hm.x
  have hb := hm.b
  change Jn h H G (u.1.add (m.1.sub g.1)) (-(u.2 * (m.2 / g.2)))
  refine ⟨by omega, ?_, ?_⟩
  ·have h2 : ((H - h m.1 : Nat) : Int) + 1 ≤ ((H - h (u.1.add (m.1.sub g.1)) : Nat) : Int) := by omega
   generalize ((H - h (u.1.add (m.1.sub g.1)) : Nat) : Int) = y at h2 ⊢
   generalize ((H - h m.1 : Nat) : Int) = y' at h2 hmx
   simp only [Ex.add, Ex.sub]
   omega
  ·have h2 := ((S.i u hu).mul (S.dv hm.d)).neg
   exact h2.dvd (by rw [Nat.one_mul]; exact Nat.pow_dvd_pow G (by omega))
theorem rnd_cnt (S : Smalls h H G g ts) (ha : Vld (m :: a)) (hd : (m.1.sub g.1).nat = true) : cnt (hf h) (canon (rndL a ts (quoT m g))) + 1 ≤ cnt (hf h) (m :: a) := by
 have hmn := (ha.2 m (by simp)).2
 have h0 := canon_cnt (hf h) (rndL a ts (quoT m g))
 rw [rndL, cnt_append] at h0
 have h1 : ∀ u ∈ ts, 2 * hf h (u.1.add (m.1.sub g.1)) + 1 ≤ hf h m.1 := fun u hu => hf_two (S.hg.dec m.1 hmn hd u hu)
 have h2 := hf_one h m.1
 have h3 := S.n
 have h4 : cnt (hf h) (ts.map fun t => (t.1.add (quoT m g).1, -(t.2 * (quoT m g).2))) + 1 ≤ hf h m.1 := by
  match ts, h1, h3 with
  | [], _, _ => simpa [cnt] using h2
  | [u], h1, _ => have := h1 u (by simp); simp only [List.map_cons, List.map_nil, cnt, quoT]; omega
  | [u, v], h1, _ => have := h1 u (by simp); have := h1 v (by simp); simp only [List.map_cons, List.map_nil, cnt, quoT]; omega
  | _ :: _ :: _ :: _, _, h3 => simp at h3
 simp only [rndL, cnt] at h0 ⊢
 omega
theorem rnd_asum (S : Smalls h H G g ts) : asum (canon (rndL a ts (quoT m g))) ≤ asum (m :: a) * 28 := by
 have h0 := canon_asum (rndL a ts (quoT m g))
 have h1 : asum (ts.map fun t => (t.1.add (quoT m g).1, -(t.2 * (quoT m g).2))) ≤ asum ts * rabs m.2 := asum_map_mul fun t _ => by
  show rabs (-(t.2 * (m.2 / g.2))) ≤ _
  rw [rabs_neg, rabs_mul]
  exact Rat.mul_le_mul_of_nonneg_left (S.quo _) (rabs_nonneg _)
 have h2 : asum ts * rabs m.2 ≤ 27 * rabs m.2 := Rat.mul_le_mul_of_nonneg_right S.a (rabs_nonneg _)
 have h3 := asum_nonneg a
 have h4 := rabs_nonneg m.2
 rw [rndL, asum_append] at h0
 simp only [rndL, asum] at h0 ⊢
 grind
theorem rnd_below (S : Smalls h H G g ts) (ha : Vld (m :: a)) : ∀ t ∈ canon (rndL a ts (quoT m g)), m.1.gt t.1 = true := by
 refine canon_ex (P := fun e => m.1.gt e = true) fun t ht => ?_
 rcases List.mem_append.1 ht with ht | ht
 ·exact ha.1.head t ht
 ·obtain ⟨u, hu, rfl⟩ := List.mem_map.1 ht
  have h1 := S.lt u hu
  have h2 : m.1 = (m.1.sub g.1).add g.1 := by
   simp only [Ex.add, Ex.sub]; refine Ex.ext' ?_ ?_ ?_ ?_ <;> simp only <;> omega
  show m.1.gt (u.1.add (m.1.sub g.1)) = true
  rw [Ex.add_comm u.1]
  rw [← Ex.gt_add (m.1.sub g.1), ← h2] at h1
  exact h1
end
def B28 : Nat := 1000 * 28 ^ 150
def saS (H G : Nat) : Sz := ⟨G ^ H, B28, 2 + 2 * H, 200⟩
def sqS (H G : Nat) : Sz := ⟨G ^ H, B28, 2 + 2 * H, 1⟩
theorem saS_ok {H G : Nat} (h : 0 < G ^ H ∧ G ^ H < 65536 ∧ H ≤ 10) : (saS H G).ok := ⟨h.1, h.2.1, by show B28 < _; decide +kernel, by show 2 + 2 * H < _; omega, by show 200 < _; decide⟩
theorem jn_pk {h : Ex → Nat} {H G k : Nat} {a : List Trm} (hk : 0 < G ^ H ∧ G ^ H < 65536 ∧ H ≤ 10) (hv : Vld a) (hJ : ∀ t ∈ a, Jn h H G t.1 t.2) (hc : k + cnt (hf h) a ≤ 150) (hs : asum a ≤ 1000 * 28 ^ k) : Pk (saS H G) a := by
 refine ⟨hv, ⟨?_, fun t ht => ?_, fun t ht => ?_, ?_⟩, saS_ok hk⟩
 ·have := len_cnt (hf_one h) a; show a.length ≤ 200; omega
 ·have h1 := (hJ t ht).x
  have h2 := Ex.nat_iff.1 (hv.2 t ht).2
  have h3 : ((H - h t.1 : Nat) : Int) ≤ H := by omega
  generalize ((H - h t.1 : Nat) : Int) = y at h1 h3
  show -((2 + 2 * H : Nat) : Int) ≤ t.1.1 ∧ t.1.1 ≤ ((2 + 2 * H : Nat) : Int) ∧ -((2 + 2 * H : Nat) : Int) ≤ t.1.2.1 ∧ t.1.2.1 ≤ ((2 + 2 * H : Nat) : Int) ∧ -((2 + 2 * H : Nat) : Int) ≤ t.1.2.2.1 ∧ t.1.2.2.1 ≤ ((2 + 2 * H : Nat) : Int) ∧ -((2 + 2 * H : Nat) : Int) ≤ t.1.2.2.2 ∧ t.1.2.2.2 ≤ ((2 + 2 * H : Nat) : Int)
  omega
 ·exact (hJ t ht).d.dvd (Nat.pow_dvd_pow G (by omega))
 ·refine Rat.le_trans hs ?_
  show (1000 : Rat) * 28 ^ k ≤ ((1000 * 28 ^ 150 : Nat) : Rat)
  rw [Rat.natCast_mul]
  have h1 : (28 : Rat) ^ k ≤ 28 ^ 150 := (pow_ge (by decide) (by omega)).2
  have h2 : ((28 ^ 150 : Nat) : Rat) = (28 : Rat) ^ 150 := by rw [Rat.natCast_pow]; rfl
  rw [h2]
  exact Rat.mul_le_mul_of_nonneg_left h1 (by decide)
end Q
