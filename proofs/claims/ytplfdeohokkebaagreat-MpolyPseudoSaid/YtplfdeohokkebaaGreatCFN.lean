/- Pseudo-division, plain: what is left is a multiple. -/
import Derived.Test.YtplfdeohokkebaaGreatC30
import Derived.Test.YtplfdeohokkebaaGreatCFU
set_option linter.unusedVariables false
set_option linter.unusedSimpArgs false
namespace Q
open Go Go.Proofs.YtplfdeohokkebaaGreat
def evl (x : Pt) (v : Nat) (L : List (List Trm)) : Rat := rsum (fun i => ev x (L.getD i []) * x.get v ^ i) L.length
theorem rsum_mul (c : Rat) (f : Nat → Rat) : ∀ n, rsum (fun i => c * f i) n = c * rsum f n
 | 0 => by simp [rsum]
 | n + 1 => by simp only [rsum, rsum_mul c f n]; grind
theorem rsum_shift (a : Nat) (g : Nat → Rat) : ∀ n, rsum (fun i => if a ≤ i then g (i - a) else 0) (a + n) = rsum g n
 | 0 => by
  have : ∀ k, k ≤ a → rsum (fun i => if a ≤ i then g (i - a) else 0) k = 0 := by
   intro k
   induction k with
   | zero => intro _; rfl
   | succ k ih => intro h; simp only [rsum]; rw [ih (by omega), if_neg (by omega)]; grind
  rw [Nat.add_zero, this a (Nat.le_refl _)]; rfl
 | n + 1 => by
  rw [← Nat.add_assoc]
  simp only [rsum]
  rw [rsum_shift a g n, if_pos (by omega), Nat.add_sub_cancel_left]
def VldA (L : List (List Trm)) : Prop := ∀ c ∈ L, Vld c
theorem VldA.get {L : List (List Trm)} (h : VldA L) (i : Nat) : Vld (L.getD i []) := by
 rw [List.getD_eq_getElem?_getD]
 cases hi : L[i]? with
 | none => exact Vld.nil
 | some c => exact h c (List.mem_of_getElem? hi)
theorem psStep_get {D R : List (List Trm)} {i : Nat} (h : i < R.length - 1) : (psStep D R).getD i [] = if R.length - 1 - (D.length - 1) ≤ i then subP (mulP (R.getD i []) (D.getD (D.length - 1) [])) (mulP (R.getD (R.length - 1) []) (D.getD (i - (R.length - 1 - (D.length - 1))) [])) else mulP (R.getD i []) (D.getD (D.length - 1) []) := by
 rw [List.getD_eq_getElem?_getD]
 simp [psStep, h]
theorem psStep_vld (D R : List (List Trm)) : VldA (psStep D R) := fun c hc => by
 simp only [psStep, List.mem_map] at hc
 obtain ⟨i, -, rfl⟩ := hc
 split
 ·exact Vld.sub _ _
 ·exact Vld.mul _ _
theorem evl_step (x : Pt) (v : Nat) {D R : List (List Trm)} (hD : VldA D) (hR : VldA R) (h1 : 1 ≤ D.length) (h2 : D.length - 1 < R.length) :
  evl x v (psStep D R) = ev x (D.getD (D.length - 1) []) * evl x v R - ev x (R.getD (R.length - 1) []) * x.get v ^ (R.length - 1 - (D.length - 1)) * evl x v D := by
 obtain ⟨n, hn⟩ : ∃ n, D.length = n + 1 := ⟨D.length - 1, by omega⟩
 obtain ⟨a, ha⟩ : ∃ a, R.length = a + n + 1 := ⟨R.length - 1 - n, by omega⟩
 have e1 : R.length - 1 = a + n := by omega
 have e2 : D.length - 1 = n := by omega
 have e3 : a + n - n = a := by omega
 unfold evl
 rw [psStep_len, e1, e2, e3]
 have hs : rsum (fun i => ev x ((psStep D R).getD i []) * x.get v ^ i) (a + n) = rsum (fun i => ev x (D.getD n []) * (ev x (R.getD i []) * x.get v ^ i) + (if a ≤ i then (fun j => (-(ev x (R.getD (a + n) []) * x.get v ^ a)) * (ev x (D.getD j []) * x.get v ^ j)) (i - a) else 0)) (a + n) := by
  refine rsum_congr fun i hi => ?_
  rw [psStep_get (by omega), e1, e2, e3]
  by_cases hia : a ≤ i
  ·rw [if_pos hia, if_pos hia, ev_sub x (Vld.mul _ _).nat (Vld.mul _ _), ev_mul x (hR.get _).nat (hD.get _).nat, ev_mul x (hR.get _).nat (hD.get _).nat]
   have : x.get v ^ i = x.get v ^ a * x.get v ^ (i - a) := by rw [← rpow_add]; congr 1; omega
   simp only
   rw [this]; grind
  ·rw [if_neg hia, if_neg hia, ev_mul x (hR.get _).nat (hD.get _).nat]; grind
 have hsh := rsum_shift a (fun j => (-(ev x (R.getD (a + n) []) * x.get v ^ a)) * (ev x (D.getD j []) * x.get v ^ j)) n
 rw [hs, rsum_add, hsh, rsum_mul, rsum_mul, ha, hn]
 simp only [rsum]
 rw [rpow_add]
 grind
def psQuo (v : Nat) (D : List (List Trm)) : Nat → List (List Trm) → List Trm
 | 0, _ => []
 | f + 1, R => if D.length - 1 < R.length then addP (mulP (mulP (R.getD (R.length - 1) []) (powP (varP v) (R.length - 1 - (D.length - 1)))) (powP (D.getD (D.length - 1) []) (R.length - 1 - (D.length - 1)))) (psQuo v D f (psStep D R)) else []
theorem psQuo_vld (v : Nat) (D : List (List Trm)) : ∀ f R, Vld (psQuo v D f R)
 | 0, _ => Vld.nil
 | f + 1, R => by unfold psQuo; split; exact Vld.add _ _; exact Vld.nil
theorem psRun_vld (D : List (List Trm)) : ∀ f R, VldA R → VldA (psRun D f R)
 | 0, _, h => h
 | f + 1, R, h => by unfold psRun; split; exact psRun_vld D f _ (psStep_vld D R); exact h
theorem evl_run (x : Pt) (v : Nat) {D : List (List Trm)} (hD : VldA D) (h1 : 1 ≤ D.length) : ∀ f R, VldA R → R.length ≤ D.length - 1 + f →
  ev x (D.getD (D.length - 1) []) ^ (R.length - (D.length - 1)) * evl x v R - evl x v (psRun D f R) = ev x (psQuo v D f R) * evl x v D
 | 0, R, _, h => by
  have : R.length - (D.length - 1) = 0 := by omega
  simp only [psRun, psQuo]
  rw [this, Rat.pow_zero, ev_nil]; grind
 | f + 1, R, hR, h => by
  unfold psRun psQuo
  by_cases hlt : D.length - 1 < R.length
  ·rw [if_pos hlt, if_pos hlt]
   have ih := evl_run x v hD h1 f (psStep D R) (psStep_vld D R) (by rw [psStep_len]; omega)
   have hs := evl_step x v hD hR h1 hlt
   rw [psStep_len] at ih
   have e1 : R.length - (D.length - 1) = (R.length - 1 - (D.length - 1)) + 1 := by omega
   rw [ev_add x (Vld.mul _ _).nat (psQuo_vld v D f _).nat, ev_mul x (Vld.mul _ _).nat (Vld.pow _ _).nat, ev_mul x (hR.get _).nat (Vld.pow _ _).nat, ev_pow x (hD.get _).nat, ev_pow x (Vld.var v).nat, ev_var, e1, Rat.pow_succ]
   grind
  ·rw [if_neg hlt, if_neg hlt]
   have : R.length - (D.length - 1) = 0 := by omega
   rw [this, Rat.pow_zero, ev_nil]; grind
end Q
