/- Divisions of small polynomials: the runs, plain. -/
import Derived.Test.YtplfdeohokkebaaGreatCFB
set_option linter.unusedVariables false
set_option linter.unusedSimpArgs false
namespace Q
open Go Go.Proofs.YtplfdeohokkebaaGreat
theorem ins_inv {P : Ex → Rat → Prop} (hadd : ∀ e c d, P e c → P e d → P e (c + d)) {l : List Trm} {m : Trm} (h : ∀ t ∈ l, P t.1 t.2) (hm : P m.1 m.2) : ∀ t ∈ ins l m, P t.1 t.2 := by
 induction l with
 | nil => unfold ins; split <;> simp; exact hm
 | cons t r ih =>
  unfold ins
  split
  ·intro s hs
   rcases List.mem_cons.1 hs with rfl | hs
   ·exact h _ (by simp)
   ·exact ih (fun s hs => h s (by simp [hs])) s hs
  ·split
   ·rename_i _ he
    split
    ·intro s hs
     rcases List.mem_cons.1 hs with rfl | hs
     ·exact hadd _ _ _ hm (he ▸ h t (by simp))
     ·exact h s (by simp [hs])
    ·intro s hs; exact h s (by simp [hs])
   ·split
    ·intro s hs
     rcases List.mem_cons.1 hs with rfl | hs
     ·exact hm
     ·exact h s hs
    ·exact h
theorem foldl_inv {P : Ex → Rat → Prop} (hadd : ∀ e c d, P e c → P e d → P e (c + d)) : ∀ {l r : List Trm}, (∀ t ∈ l, P t.1 t.2) → (∀ t ∈ r, P t.1 t.2) → ∀ t ∈ l.foldl ins r, P t.1 t.2
 | [], _, _, h2 => h2
 | m :: l, r, h1, h2 => foldl_inv hadd (l := l) (r := ins r m) (fun t ht => h1 t (by simp [ht])) (ins_inv (P := P) hadd h2 (h1 m (by simp)))
theorem canon_inv {P : Ex → Rat → Prop} (hadd : ∀ e c d, P e c → P e d → P e (c + d)) {l : List Trm} (h : ∀ t ∈ l, P t.1 t.2) : ∀ t ∈ canon l, P t.1 t.2 := foldl_inv hadd h (fun _ h => by cases h)
def cnt (f : Ex → Nat) : List Trm → Nat
 | [] => 0
 | t :: l => f t.1 + cnt f l
theorem cnt_append (f : Ex → Nat) (l r : List Trm) : cnt f (l ++ r) = cnt f l + cnt f r := by
 induction l with
 | nil => simp [cnt]
 | cons t l ih => simp only [List.cons_append, cnt, ih]; omega
theorem ins_cnt (f : Ex → Nat) (l : List Trm) (m : Trm) : cnt f (ins l m) ≤ cnt f l + f m.1 := by
 induction l with
 | nil => unfold ins; split <;> simp [cnt]
 | cons t r ih =>
  unfold ins
  split
  ·simp only [cnt]; omega
  ·split
   ·rename_i _ he
    split <;> simp only [cnt] <;> (try rw [he]) <;> omega
   ·split <;> simp only [cnt] <;> omega
theorem canon_cnt (f : Ex → Nat) (l : List Trm) : cnt f (canon l) ≤ cnt f l := by
 have h : ∀ (l r : List Trm), cnt f (l.foldl ins r) ≤ cnt f r + cnt f l := fun l => by
  induction l with
  | nil => intro r; simp [cnt]
  | cons m l ih => intro r; have := ih (ins r m); have := ins_cnt f r m; simp only [List.foldl_cons, cnt]; omega
 have := h l []
 simpa [canon, cnt] using this
theorem canon_asum (l : List Trm) : asum (canon l) ≤ asum l := by
 have h : ∀ (l r : List Trm), asum (l.foldl ins r) ≤ asum r + asum l := fun l => by
  induction l with
  | nil => intro r; simp only [List.foldl_nil, asum]; grind
  | cons m l ih => intro r; have := ih (ins r m); have := ins_asum r m; simp only [List.foldl_cons, asum]; grind
 have := h l []
 simp only [asum] at this
 unfold canon; grind
theorem len_cnt {f : Ex → Nat} (h : ∀ e, 1 ≤ f e) (l : List Trm) : l.length ≤ cnt f l := by
 induction l with
 | nil => exact Nat.zero_le _
 | cons t l ih => have := h t.1; simp only [List.length_cons, cnt]; omega
theorem prods_one (l : List Trm) (q : Trm) : prods l [q] = l.map fun s => mulT s q := by
 induction l with
 | nil => rfl
 | cons s l ih => rw [prods_cons, ih]; rfl
theorem cf_scale (p : List Trm) (c : Rat) (e : Ex) : cf (scaleP p c) e = cf p e * c := by
 unfold scaleP; split
 ·rename_i h; rw [cf_nil, h]; grind
 ·unfold cf
  rw [Lf_map _ _ (fun e' => c * (if e' = e then 1 else 0)) p (fun t _ => by grind), Lf_smul]; grind
def rndL (a ts : List Trm) (q : Trm) : List Trm := a ++ ts.map fun t => (t.1.add q.1, -(t.2 * q.2))
theorem rnd_eq {m g : Trm} {a ts : List Trm} (hm : m.1.nat = true) (hz : g.2 ≠ 0) : subP (m :: a) (mulP (g :: ts) [quoT m g]) = canon (rndL a ts (quoT m g)) := by
 unfold subP addP
 refine canon_congr fun e he => ?_
 rw [cf_append, cf_scale, mulP, cf_canon, if_pos he, prods_one, List.map_cons, cf_cons, cf_cons, rndL, cf_append]
 have h1 : (mulT g (quoT m g)).1 = m.1 := by
  simp only [mulT, quoT, Ex.add, Ex.sub]; refine Ex.ext' ?_ ?_ ?_ ?_ <;> simp only <;> omega
 have h2 : (mulT g (quoT m g)).2 = m.2 := by
  simp only [mulT, quoT]
  rw [Rat.mul_comm]; exact Rat.div_mul_cancel hz
 have h3 : cf (ts.map fun t => (t.1.add (quoT m g).1, -(t.2 * (quoT m g).2))) e = - cf (ts.map fun s => mulT s (quoT m g)) e := by
  induction ts with
  | nil => simp only [List.map_nil, cf_nil]; grind
  | cons t ts ih => rw [List.map_cons, List.map_cons, cf_cons, cf_cons, ih]; simp only [mulT]; grind
 rw [h1, h2, h3]
 grind
structure Hgt (h : Ex → Nat) (g : Ex) (ts : List Trm) : Prop where
 one : ∀ m : Ex, m.nat = true → (m.sub g).nat = true → 1 ≤ h m
 dec : ∀ m : Ex, m.nat = true → (m.sub g).nat = true → ∀ t ∈ ts, h (t.1.add (m.sub g)) + 1 ≤ h m
def hf (h : Ex → Nat) (e : Ex) : Nat := 2 ^ (h e + 1) - 1
theorem hf_one (h : Ex → Nat) (e : Ex) : 1 ≤ hf h e := by
 have := Nat.one_lt_two_pow (n := h e + 1) (by omega)
 unfold hf; omega
theorem hf_two {h : Ex → Nat} {d e : Ex} (hd : h d + 1 ≤ h e) : 2 * hf h d + 1 ≤ hf h e := by
 have h1 := Nat.pow_le_pow_right (n := 2) (by omega) (show h d + 1 + 1 ≤ h e + 1 by omega)
 have h2 := Nat.one_lt_two_pow (n := h d + 1) (by omega)
 rw [Nat.pow_succ] at h1
 unfold hf; omega
structure Jn (h : Ex → Nat) (H G : Nat) (e : Ex) (c : Rat) : Prop where
 b : h e ≤ H
 x : e.1 ≤ 2 + 2 * ((H - h e : Nat) : Int) ∧ e.2.1 ≤ 2 + 2 * ((H - h e : Nat) : Int) ∧ e.2.2.1 ≤ 2 + 2 * ((H - h e : Nat) : Int) ∧ e.2.2.2 ≤ 2 + 2 * ((H - h e : Nat) : Int)
 d : Dv (G ^ (H - h e)) c
theorem Jn.add {h : Ex → Nat} {H G : Nat} (e : Ex) (c d : Rat) (h1 : Jn h H G e c) (h2 : Jn h H G e d) : Jn h H G e (c + d) := ⟨h1.b, h1.x, h1.d.add h2.d⟩
end Q
