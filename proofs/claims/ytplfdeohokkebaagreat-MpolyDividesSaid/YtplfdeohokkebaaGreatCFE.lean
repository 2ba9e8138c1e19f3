/- Divisions of small polynomials: what they answer. -/
import Derived.Test.YtplfdeohokkebaaGreatCFD
set_option linter.unusedVariables false
set_option linter.unusedSimpArgs false
namespace Q
open Go Go.Proofs.YtplfdeohokkebaaGreat
structure QuoE (H G : Nat) (g : Trm) (ts a : List Trm) (k : Nat) (l : List Trm) : Prop where
 v : Vld l
 m : mulP l (g :: ts) = a
 e : ∀ e : Ex, (∀ t ∈ a, e.gt t.1 = true) → ∀ t ∈ l, (e.sub g.1).gt t.1 = true
 n : l.length + k ≤ 150
 b : ∀ t ∈ l, Bd (sqS H G) [t]
theorem quo_nil {H G k : Nat} {g : Trm} {ts : List Trm} (hk : k ≤ 150) : QuoE H G g ts [] k [] := ⟨Vld.nil, rfl, (fun _ _ _ h => by cases h), (by simpa using hk), (fun _ h => by cases h)⟩
theorem gt_sub {e f : Ex} (g : Ex) (h : e.gt f = true) : (e.sub g).gt (f.sub g) = true := by
 rw [Ex.gt_iff] at h ⊢
 simp only [Ex.sub]
 omega
theorem mul_step {m g : Trm} {ts a l : List Trm} (hb : Vld (g :: ts)) (ha : Vld (m :: a)) (hz : g.2 ≠ 0) (hd : (m.1.sub g.1).nat = true) (hl : NatL l) (he : mulP l (g :: ts) = subP (m :: a) (mulP (g :: ts) [quoT m g])) : mulP (quoT m g :: l) (g :: ts) = m :: a := by
 have hq := quoT_val ha hz hd
 have hql : NatL (quoT m g :: l) := fun t ht => by
  rcases List.mem_cons.1 ht with rfl | ht
  ·exact hd
  ·exact hl t ht
 refine ev_inj (Vld.mul _ _) ha fun x => ?_
 have h1 : ev x (mulP l (g :: ts)) = ev x (subP (m :: a) (mulP (g :: ts) [quoT m g])) := by rw [he]
 rw [ev_mul x hl hb.nat, ev_sub x ha.nat (Vld.mul _ _), ev_mul x hb.nat hq.nat, ev_cons (l := []), ev_nil] at h1
 rw [ev_mul x hql hb.nat, ev_cons x (quoT m g) l]
 grind
theorem quo_bd {h : Ex → Nat} {H G k : Nat} {m g : Trm} {a ts : List Trm} (S : Smalls h H G g ts) (ha : Vld (m :: a)) (hP : Pk (saS H G) (m :: a)) (hJ : Jn h H G m.1 m.2) (hd : (m.1.sub g.1).nat = true) : Bd (sqS H G) [quoT m g] := by
 have h1 := S.hg.one m.1 (ha.2 m (by simp)).2 hd
 have hb := hJ.b
 refine ⟨Nat.le_refl _, fun t ht => ?_, fun t ht => ?_, ?_⟩
 ·have ht : t = quoT m g := by simpa using ht
  subst ht
  have h1 := hP.b.e m (by simp)
  have h2 := Ex.nat_iff.1 hd
  have h3 := Ex.nat_iff.1 S.gn
  simp only [Ex.sub] at h2
  show -((2 + 2 * H : Nat) : Int) ≤ m.1.1 - g.1.1 ∧ m.1.1 - g.1.1 ≤ ((2 + 2 * H : Nat) : Int) ∧ -((2 + 2 * H : Nat) : Int) ≤ m.1.2.1 - g.1.2.1 ∧ m.1.2.1 - g.1.2.1 ≤ ((2 + 2 * H : Nat) : Int) ∧ -((2 + 2 * H : Nat) : Int) ≤ m.1.2.2.1 - g.1.2.2.1 ∧ m.1.2.2.1 - g.1.2.2.1 ≤ ((2 + 2 * H : Nat) : Int) ∧ -((2 + 2 * H : Nat) : Int) ≤ m.1.2.2.2 - g.1.2.2.2 ∧ m.1.2.2.2 - g.1.2.2.2 ≤ ((2 + 2 * H : Nat) : Int)
  simp only [saS] at h1
  omega
 ·have ht : t = quoT m g := by simpa using ht
  subst ht
  exact (S.dv hJ.d).dvd (Nat.pow_dvd_pow G (by omega))
 ·have h2 := S.quo m.2
  have h3 := hP.b.b
  have h4 := asum_nonneg a
  simp only [asum] at h3
  show rabs (m.2 / g.2) + asum [] ≤ ((sqS H G).B : Rat)
  have h5 : ((sqS H G).B : Rat) = ((saS H G).B : Rat) := rfl
  rw [h5]
  simp only [asum]
  grind
theorem run_ex {h : Ex → Nat} {H G : Nat} {g : Trm} {ts : List Trm} (S : Smalls h H G g ts) (hk : 0 < G ^ H ∧ G ^ H < 65536 ∧ H ≤ 10) (hb : Vld (g :: ts)) : ∀ (N : Nat) (a out : List Trm) (k : Nat), cnt (hf h) a ≤ N → Vld a → (∀ t ∈ a, Jn h H G t.1 t.2) → k + cnt (hf h) a ≤ 150 → asum a ≤ 1000 * 28 ^ k → out.length ≤ k →
  ∃ n r, RunD (saS H G) (sqS H G) (g :: ts) g n a out r ∧ ∀ s, r = some s → ∃ l, s = out ++ l ∧ QuoE H G g ts a k l := by
 intro N
 induction N with
 | zero =>
  intro a out k hN ha hJ hc hs ho
  have := len_cnt (hf_one h) a
  cases a with
  | nil => exact ⟨0, _, .done, fun s hs => ⟨[], by cases hs; simp, quo_nil (by omega)⟩⟩
  | cons m a => simp at this; omega
 | succ N ih =>
  intro a out k hN ha hJ hc hs ho
  have hP := jn_pk hk ha hJ hc hs
  cases a with
  | nil => exact ⟨0, _, .done, fun s hs => ⟨[], by cases hs; simp, quo_nil (by omega)⟩⟩
  | cons m a =>
   cases hd : (m.1.sub g.1).nat with
   | false => exact ⟨0, _, .fail hd hP, fun s hs => by cases hs⟩
   | true =>
    have hz := S.ne
    have h1 := rnd_eq (ts := ts) (a := a) (ha.2 m (by simp)).2 hz
    have h2 := rnd_jn S ha hJ hd
    have h3 := rnd_cnt S ha hd
    have h4 := rnd_asum (m := m) (a := a) S
    have h5 := rnd_below S ha
    have hB := quo_bd (k := k) S ha hP (hJ m (by simp)) hd
    rw [← h1] at h2 h3 h4 h5
    have hs' : asum (m :: a) * 28 ≤ 1000 * 28 ^ (k + 1) := by
     rw [Rat.pow_succ]
     have := Rat.mul_le_mul_of_nonneg_right hs (show (0 : Rat) ≤ 28 by decide)
     grind
    obtain ⟨n, r, hr, hq⟩ := ih _ (out ++ [quoT m g]) (k + 1) (by omega) (Vld.sub _ _) h2 (by omega) (Rat.le_trans h4 hs') (by simp; omega)
    refine ⟨n + 1, r, .step hd hP hB (by omega) hr, fun s hs => ?_⟩
    obtain ⟨l, rfl, hl⟩ := hq s hs
    refine ⟨quoT m g :: l, by simp, ⟨?_, ?_, ?_, ?_, ?_⟩⟩
    ·have h6 := hl.e m.1 h5
     have hqv := quoT_val ha hz hd
     refine ⟨List.pairwise_cons.2 ⟨fun t ht => h6 t ht, hl.v.1⟩, fun t ht => ?_⟩
     rcases List.mem_cons.1 ht with rfl | ht
     ·exact hqv.2 _ (by simp)
     ·exact hl.v.2 t ht
    ·exact mul_step hb ha hz hd hl.v.nat hl.m
    ·intro e he t ht
     have h7 := gt_sub g.1 (he m (by simp))
     rcases List.mem_cons.1 ht with rfl | ht
     ·exact h7
     ·exact Ex.gt_trans h7 (hl.e m.1 h5 t ht)
    ·have := hl.n; simp only [List.length_cons]; omega
    ·intro t ht
     rcases List.mem_cons.1 ht with rfl | ht
     ·exact hB
     ·exact hl.b t ht
def soS (H G : Nat) : Sz := ⟨G ^ H, 150 * B28, 2 + 2 * H, 150⟩
theorem quo_pk {H G : Nat} {g : Trm} {ts a l : List Trm} (hk : 0 < G ^ H ∧ G ^ H < 65536 ∧ H ≤ 10) (h : QuoE H G g ts a 0 l) : Pk (soS H G) l := by
 have hn := h.n
 refine ⟨h.v, ⟨by show l.length ≤ 150; omega, fun t ht => (h.b t ht).e t (by simp), fun t ht => (h.b t ht).d t (by simp), ?_⟩, ⟨hk.1, hk.2.1, by show 150 * B28 < _; decide +kernel, by show 2 + 2 * H < _; omega, by show 150 < _; decide⟩⟩
 have h1 : ∀ l : List Trm, (∀ t ∈ l, Bd (sqS H G) [t]) → asum l ≤ (l.length : Rat) * (B28 : Rat) := fun l => by
  induction l with
  | nil => intro _; simp only [asum, List.length_nil]; exact Rat.mul_nonneg (by decide) Rat.natCast_nonneg
  | cons t l ih =>
   intro hb
   have h2 := ih fun t ht => hb t (by simp [ht])
   have h3 := (hb t (by simp)).b
   simp only [asum] at h3
   have h4 : ((sqS H G).B : Rat) = (B28 : Rat) := rfl
   rw [h4] at h3
   simp only [asum, List.length_cons]
   rw [Rat.natCast_add]
   grind
 refine Rat.le_trans (h1 l h.b) ?_
 show (l.length : Rat) * (B28 : Rat) ≤ ((150 * B28 : Nat) : Rat)
 rw [Rat.natCast_mul]
 exact Rat.mul_le_mul_of_nonneg_right (by exact_mod_cast (show l.length ≤ 150 by omega)) Rat.natCast_nonneg
end Q
