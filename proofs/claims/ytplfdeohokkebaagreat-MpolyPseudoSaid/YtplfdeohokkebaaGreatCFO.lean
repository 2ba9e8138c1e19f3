/- Pseudo-division: sizes. -/
import Derived.Test.YtplfdeohokkebaaGreatCFN
import Derived.Test.YtplfdeohokkebaaGreatCH1
set_option linter.unusedVariables false
set_option linter.unusedSimpArgs false
namespace Q
open Go Go.Proofs.YtplfdeohokkebaaGreat
def ps (k : Nat) : Sz := ⟨1, 36 * 54 ^ k, 2 + 2 * k, 4 * 6 ^ k⟩
def sd : Sz := ⟨1, 27, 2, 3⟩
def PkA (s : Sz) (v : Nat) (L : List (List Trm)) : Prop := ∀ c ∈ L, Pk s c ∧ ∀ t ∈ c, t.1.get v = 0
theorem PkA.get {s : Sz} {v : Nat} {L : List (List Trm)} (h : PkA s v L) (k : s.ok) (i : Nat) : Pk s (L.getD i []) ∧ ∀ t ∈ L.getD i [], t.1.get v = 0 := by
 rw [List.getD_eq_getElem?_getD]
 cases hi : L[i]? with
 | none => exact ⟨Pk.nil k, fun t h => by cases h⟩
 | some c => exact h c (List.mem_of_getElem? hi)
theorem free_mul {p q : List Trm} {v : Nat} (h : ∀ t ∈ p, t.1.get v = 0) (h' : ∀ t ∈ q, t.1.get v = 0) : ∀ t ∈ mulP p q, t.1.get v = 0 :=
 canon_ex (P := fun e => e.get v = 0) fun t ht => by
  obtain ⟨a, ha, b, hb, rfl⟩ := mem_prods ht
  have h1 := h a ha
  have h2 := h' b hb
  simp only [mulT, Ex.get_add]; omega
theorem free_sub {p q : List Trm} {v : Nat} (h : ∀ t ∈ p, t.1.get v = 0) (h' : ∀ t ∈ q, t.1.get v = 0) : ∀ t ∈ subP p q, t.1.get v = 0 :=
 canon_ex (P := fun e => e.get v = 0) fun t ht => by
  rcases List.mem_append.1 ht with ht | ht
  ·exact h t ht
  ·unfold scaleP at ht
   split at ht
   ·cases ht
   ·obtain ⟨u, hu, rfl⟩ := List.mem_map.1 ht; exact h' u hu
theorem ps_ok {k : Nat} (h : k ≤ 3) : (ps k).ok := by
 obtain rfl | rfl | rfl | rfl : k = 0 ∨ k = 1 ∨ k = 2 ∨ k = 3 := by omega
 all_goals decide +kernel
theorem sd_ok : sd.ok := by decide +kernel
theorem ps_mul {k : Nat} (h : k ≤ 2) : ((ps k).mul sd).ok ∧ ((ps k).mul sd).le (ps (k + 1)) ∧ (((ps k).mul sd).mul ⟨1, 1, 0, 1⟩).ok ∧ (((ps k).mul sd).add (((ps k).mul sd).mul ⟨1, 1, 0, 1⟩)).ok ∧ (((ps k).mul sd).add (((ps k).mul sd).mul ⟨1, 1, 0, 1⟩)).le (ps (k + 1)) := by
 obtain rfl | rfl | rfl : k = 0 ∨ k = 1 ∨ k = 2 := by omega
 all_goals decide +kernel
theorem ps_le {j k : Nat} (h : j ≤ k) (hk : k ≤ 3) : (ps j).le (ps k) := by
 obtain rfl | rfl | rfl | rfl : k = 0 ∨ k = 1 ∨ k = 2 ∨ k = 3 := by omega
 all_goals (obtain rfl | rfl | rfl | rfl : j = 0 ∨ j = 1 ∨ j = 2 ∨ j = 3 := by omega) <;> first | omega | decide +kernel
theorem mulOk_of {s t : Sz} {p q : List Trm} (hp : Pk s p) (hq : Pk t q) (k : (s.mul t).ok) : MulOk p q := ⟨hp.ir, hq.ir, (hp.b.prods hq.b).okl k, ⟨hp.len, hq.len⟩⟩
theorem ps_round {k v : Nat} {D R : List (List Trm)} (hk : k ≤ 2) (hD : PkA sd v D) (hR : PkA (ps k) v R) : PkA (ps (k + 1)) v (psStep D R) ∧ PsOk D R := by
 obtain ⟨k1, k2, k3, k4, k5⟩ := ps_mul hk
 have ho := ps_ok (show k + 1 ≤ 3 by omega)
 have gR := hR.get (ps_ok (by omega))
 have gD := hD.get sd_ok
 refine ⟨fun c hc => ?_, fun i hi => ⟨mulOk_of (gR i).1 (gD _).1 k1, fun _ => ⟨mulOk_of (gR _).1 (gD _).1 k1, ?_⟩⟩⟩
 ·simp only [psStep, List.mem_map] at hc
  obtain ⟨i, -, rfl⟩ := hc
  split
  ·exact ⟨(((gR _).1.mul (gD _).1 k1).add (((gR _).1.mul (gD _).1 k1).scale neg_pk k3) k4).mono k5 ho, free_sub (free_mul (gR _).2 (gD _).2) (free_mul (gR _).2 (gD _).2)⟩
  ·exact ⟨((gR _).1.mul (gD _).1 k1).mono k2 ho, free_mul (gR _).2 (gD _).2⟩
 ·have A := (gR i).1.mul (gD (D.length - 1)).1 k1
  have B := (gR (R.length - 1)).1.mul (gD (i - (R.length - 1 - (D.length - 1)))).1 k1
  exact ⟨A.rk, B.rk, ⟨A.len, B.len⟩, ⟨A.v, B.v⟩⟩
def qt : Sz := ⟨1, 76527504, 12, 1296⟩
def qs (f : Nat) : Sz := ⟨1, f * 76527504, 12, f * 1296⟩
theorem qs_ok {f : Nat} (h : f ≤ 3) : (qs f).ok := by
 obtain rfl | rfl | rfl | rfl : f = 0 ∨ f = 1 ∨ f = 2 ∨ f = 3 := by omega
 all_goals decide +kernel
theorem qs_add {f : Nat} (h : f ≤ 2) : (qt.add (qs f)).ok ∧ (qt.add (qs f)).le (qs (f + 1)) := by
 obtain rfl | rfl | rfl : f = 0 ∨ f = 1 ∨ f = 2 := by omega
 all_goals decide +kernel
theorem qt_of {k j : Nat} (h : k ≤ 2) (h' : j ≤ 2) : (szp ⟨1, 1, 1, 1⟩ j).ok ∧ (szp sd j).ok ∧ ((ps k).mul (szp ⟨1, 1, 1, 1⟩ j)).ok ∧ (((ps k).mul (szp ⟨1, 1, 1, 1⟩ j)).mul (szp sd j)).ok ∧ (((ps k).mul (szp ⟨1, 1, 1, 1⟩ j)).mul (szp sd j)).le qt := by
 obtain rfl | rfl | rfl : k = 0 ∨ k = 1 ∨ k = 2 := by omega
 all_goals (obtain rfl | rfl | rfl : j = 0 ∨ j = 1 ∨ j = 2 := by omega) <;> decide +kernel
theorem qt_ok : qt.ok := by decide +kernel
theorem ps_all {v : Nat} {D : List (List Trm)} (hD : PkA sd v D) : ∀ (f k : Nat) (R : List (List Trm)), k + R.length ≤ 3 → f ≤ 3 → PkA (ps k) v R →
  PsAll D f R ∧ PkA (ps 3) v (psRun D f R) ∧ Pk (qs f) (psQuo v D f R)
 | 0, k, R, hk, _, hR => ⟨trivial, fun c hc => ⟨(hR c hc).1.mono (ps_le (by omega) (by omega)) (ps_ok (by omega)), (hR c hc).2⟩, Pk.nil (qs_ok (by omega))⟩
 | f + 1, k, R, hk, hf, hR => by
  by_cases hlt : D.length - 1 < R.length
  ·obtain ⟨h1, h2⟩ := ps_round (show k ≤ 2 by omega) hD hR
   obtain ⟨i1, i2, i3⟩ := ps_all hD f (k + 1) (psStep D R) (by rw [psStep_len]; omega) (by omega) h1
   refine ⟨fun _ => ⟨h2, i1⟩, by unfold psRun; rw [if_pos hlt]; exact i2, ?_⟩
   unfold psQuo
   rw [if_pos hlt]
   obtain ⟨a1, a2, a3, a4, a5⟩ := qt_of (show k ≤ 2 by omega) (show R.length - 1 - (D.length - 1) ≤ 2 by omega)
   obtain ⟨b1, b2⟩ := qs_add (show f ≤ 2 by omega)
   have gR := (hR.get (ps_ok (by omega)) (R.length - 1)).1
   have gD := (hD.get sd_ok (D.length - 1)).1
   exact (((((gR.mul ((Pk.var v).pow _ a1) a3).mul (gD.pow _ a2) a4).mono a5 qt_ok).add i3 b1).mono b2 (qs_ok hf))
  ·refine ⟨fun h => absurd h hlt, ?_, ?_⟩
   ·unfold psRun; rw [if_neg hlt]
    exact fun c hc => ⟨(hR c hc).1.mono (ps_le (by omega) (by omega)) (ps_ok (by omega)), (hR c hc).2⟩
   ·unfold psQuo; rw [if_neg hlt]; exact Pk.nil (qs_ok hf)
theorem psRun_len (D : List (List Trm)) (h1 : 1 ≤ D.length) : ∀ f R, R.length ≤ D.length - 1 + f → (psRun D f R).length ≤ D.length - 1 ∧ (psRun D f R).length ≤ R.length
 | 0, R, h => by unfold psRun; omega
 | f + 1, R, h => by
  unfold psRun
  by_cases hlt : D.length - 1 < R.length
  ·rw [if_pos hlt]
   have := psRun_len D h1 f (psStep D R) (by rw [psStep_len]; omega)
   rw [psStep_len] at this; omega
  ·rw [if_neg hlt]; omega
theorem degP_from {v : Nat} {l : List (List Trm)} (hv : v < 4) (h : ∀ c ∈ l, ∀ t ∈ c, t.1.get v = 0) : degP (fromP l v) v < l.length := by
 have key : ∀ (l : List (List Trm)) (i : Nat), (∀ c ∈ l, ∀ t ∈ c, t.1.get v = 0) → ∀ t ∈ fromL v i l, t.1.get v < (i + l.length : Nat) := fun l => by
  induction l with
  | nil => intro i _ t ht; cases ht
  | cons c l ih =>
   intro i hl t ht
   rcases List.mem_append.1 ht with ht | ht
   ·obtain ⟨u, hu, rfl⟩ := List.mem_map.1 ht
    have := hl c (by simp) u hu
    simp only [Ex.get_put, List.length_cons]; omega
   ·have := ih (i + 1) (fun c hc => hl c (by simp [hc])) t (by simpa using ht)
    simp only [List.length_cons]; omega
 have h2 : ∀ t ∈ fromP l v, t.1.get v < (l.length : Nat) := canon_ex (P := fun e => e.get v < (l.length : Nat)) fun t ht => by
  have := key l 0 h t ht
  omega
 by_cases hn : fromP l v = []
 ·rw [hn, degP_nil]; omega
 ·obtain ⟨t, ht, he⟩ := degP_mem hn (canon_val _).nat v
  rw [← he]; exact h2 t ht
end Q
