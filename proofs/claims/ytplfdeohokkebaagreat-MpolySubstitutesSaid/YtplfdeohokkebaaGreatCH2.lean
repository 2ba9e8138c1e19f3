/- Sizes for substitution and evaluation. -/
import Derived.Test.YtplfdeohokkebaaGreatCH1
set_option linter.unusedVariables false
set_option linter.unusedSimpArgs false
namespace Q
open Go Go.RowKit Go.Proofs.YtplfdeohokkebaaGreat
def szs (B E N k : Nat) : Sz := ⟨2 ^ k, B * 19 ^ k, E + k, N * 3 ^ k⟩
def szF : Sz := ⟨2, 18, 1, 2⟩
def hornB (B E N M : Nat) : Bool := decide ((⟨1, B, E, N⟩ : Sz).ok) && (List.range (M + 1)).all (fun k => decide ((szs B E N k).ok)) && (List.range M).all (fun k => decide (((szs B E N k).mul szF).ok) && decide ((((szs B E N k).mul szF).add ⟨1, B, E, N⟩).le (szs B E N (k + 1)))) && (List.range (M + 1)).all (fun k => decide ((szs B E N k).le (szs B E N M)))
theorem hornB_ok {B E N M : Nat} (h : hornB B E N M = true) {m : Nat} (hm : m ≤ M) : HornOk szF ⟨1, B, E, N⟩ (szs B E N) m ∧ (szs B E N m).le (szs B E N M) ∧ (szs B E N M).ok := by
 simp only [hornB, Bool.and_eq_true, List.all_eq_true, List.mem_range, decide_eq_true_eq] at h
 obtain ⟨⟨⟨h1, h2⟩, h3⟩, h4⟩ := h
 exact ⟨⟨by decide +kernel, h1, fun k hk => h2 k (by omega), fun k hk => (h3 k (by omega)).1, fun k hk => (h3 k (by omega)).2⟩, h4 m (by omega), h2 M (by omega)⟩
theorem range_getD (L : List (List Trm)) : (List.range L.length).map (fun i => L.getD i []) = L := by
 apply List.ext_getElem?
 intro i
 rw [List.getElem?_map]
 by_cases hi : i < L.length
 ·rw [List.getElem?_range hi]; simp [List.getD_eq_getElem?_getD, List.getElem?_eq_getElem hi]
 ·rw [List.getElem?_eq_none (by simp; omega), List.getElem?_eq_none (by omega)]; rfl
theorem subst_pk {B E N M : Nat} (h : hornB B E N M = true) {p f : List Trm} {v : Nat} (hp : Bd ⟨1, B, E, N⟩ p) (hf : Bd szF f) (hl : (coeffsP p v).length ≤ M) : Pk (szs B E N M) (substP p v f) := by
 refine ⟨Vld.subst _ _ _, ?_, (hornB_ok h hl).2.2⟩
 have ho := (hornB_ok h hl).1
 have hle := (hornB_ok h hl).2.1
 have hL : ∀ i, Bd ⟨1, B, E, N⟩ ((coeffsP p v).getD i []) := fun i => by
  rcases Nat.lt_or_ge i (coeffsP p v).length with hi | hi
  ·rw [List.getD_eq_getElem?_getD, List.getElem?_eq_getElem hi, Option.getD_some]
   obtain ⟨n, hn⟩ := mem_coeffsP (List.getElem_mem hi)
   rw [hn]; exact bd_coeff hp v n
  ·rw [List.getD_eq_getElem?_getD, List.getElem?_eq_none hi]; exact Bd.nil _
 have h1 := horn_bd ho hf hL (List.range (coeffsP p v).length).reverse (by simp)
 rw [List.map_reverse, range_getD, hornS_fold, List.length_reverse, List.length_range] at h1
 exact Bd.mono h1 hle
def sze (s : Sz) (d b e : Nat) : Sz := ⟨s.D * d ^ e, s.B * b ^ e, s.E, s.N⟩
theorem dv_pow {d : Nat} {c : Rat} (h : Dv d c) : ∀ n, Dv (d ^ n) (c ^ n)
 | 0 => by rw [Rat.pow_zero, Nat.pow_zero]; exact ⟨1, by decide +kernel⟩
 | n + 1 => by rw [Rat.pow_succ, Nat.pow_succ]; exact (dv_pow h n).mul h
theorem rabs_pow {b : Nat} {c : Rat} (h : rabs c ≤ (b : Rat)) : ∀ n, rabs (c ^ n) ≤ ((b ^ n : Nat) : Rat)
 | 0 => by rw [Rat.pow_zero, Nat.pow_zero]; decide +kernel
 | n + 1 => by
  rw [Rat.pow_succ, Nat.pow_succ, rabs_mul, Rat.natCast_mul]
  exact rmul_le (rabs_pow h n) h (rabs_nonneg _) Rat.natCast_nonneg
theorem term_eval {s : Sz} {d b e n : Nat} {q c : Rat} (hq : Dv s.D q) (hc : Dv d c) (hb : rabs c ≤ (b : Rat)) (h1 : 1 ≤ b) (hn : n ≤ e) : Dv (s.D * d ^ e) (q * c ^ n) ∧ rabs (q * c ^ n) ≤ rabs q * ((b ^ e : Nat) : Rat) := by
 refine ⟨hq.mul ((dv_pow hc n).dvd (Nat.pow_dvd_pow d hn)), ?_⟩
 rw [rabs_mul]
 exact Rat.mul_le_mul_of_nonneg_left (Rat.le_trans (rabs_pow hb n) (Rat.natCast_le_natCast.2 (Nat.pow_le_pow_right h1 hn))) (rabs_nonneg _)
theorem eval_bd {s : Sz} {p : List Trm} {v d b e : Nat} {c : Rat} (h : Pk s p) (he : ∀ t ∈ p, t.1.get v ≤ e) (hc : Dv d c) (hb : rabs c ≤ (b : Rat)) (h1 : 1 ≤ b) : Bd (sze s d b e) (evalL p v c) := by
 have hn : ∀ t ∈ p, (t.1.get v).toNat ≤ e := fun t ht => by have := he t ht; have := Ex.nat_get (h.v.2 t ht).2 v; omega
 refine ⟨by unfold evalL; rw [List.length_map]; exact h.b.n, fun t ht => ?_, fun t ht => ?_, ?_⟩
 ·obtain ⟨u, hu, rfl⟩ := List.mem_map.1 ht
  have := h.b.e u hu
  show _ ∧ _
  simp only [sze]
  rcases v with _ | _ | _ | v <;> simp only [Ex.put] <;> omega
 ·obtain ⟨u, hu, rfl⟩ := List.mem_map.1 ht
  exact (term_eval (h.b.d u hu) hc hb h1 (hn u hu)).1
 ·have h2 : asum (evalL p v c) ≤ asum p * ((b ^ e : Nat) : Rat) := asum_map_mul fun t ht => (term_eval (h.b.d t ht) hc hb h1 (hn t ht)).2
  refine Rat.le_trans h2 ?_
  simp only [sze]
  rw [Rat.natCast_mul]
  exact Rat.mul_le_mul_of_nonneg_right h.b.b Rat.natCast_nonneg
theorem eval_pk {s : Sz} {p : List Trm} {v d b e : Nat} {c : Rat} (h : Pk s p) (he : ∀ t ∈ p, t.1.get v ≤ e) (hc : Dv d c) (hb : rabs c ≤ (b : Rat)) (h1 : 1 ≤ b) (k : (sze s d b e).ok) : Pk (sze s d b e) (evalP p v c) :=
 ⟨Vld.eval _ _ _, (eval_bd h he hc hb h1).canon, k⟩
end Q
namespace Go.Proofs.YtplfdeohokkebaaGreat
open Go.RowKit Q
variable {w : World} {vp vq : Value} {p f : List Trm}
theorem substK {B E N M v : Nat} (h : hornB B E N M = true) (hP : Pk ⟨1, B, E, N⟩ p) (hf : Pk szF f) (hE : E ≤ 1000) (hl : (coeffsP p v).length ≤ M) (hv : v < 4) (hp : IsPoly w vp p) (hq : IsPoly w vq f) : Calls Tryz.prog 50 #[vp, .int .i64 v, vq] w (RetPoly w (substP p v f)) :=
 subst_any vp vq p f v szF ⟨1, B, E, N⟩ (szs B E N) w hp hq hv hP.v hf.v (by have := (hP.deg v).2; simp only at this; omega) hP.len (hornB_ok h hl).1 hf.b (fun c hc => by
  obtain ⟨n, rfl⟩ := mem_coeffsP hc
  exact bd_coeff hP.b v n)
theorem evalK {s : Sz} {v d b e : Nat} {c : Rat} (hP : Pk s p) (he : ∀ t ∈ p, t.1.get v ≤ e) (hc : Dv d c) (hb : rabs c ≤ (b : Rat)) (h1 : 1 ≤ b) (k : (sze s d b e).ok) (kc : (⟨d, b, 0, 1⟩ : Sz).ok) (hv : v < 4) (hp : IsPoly w vp p) (hq : IsRat w vq c) : Calls Tryz.prog 51 #[vp, .int .i64 v, vq] w (RetPoly w (evalP p v c)) :=
 eval_any vp vq p v c w hp hv hq (rs_of_dv kc hc hb).rk hP.v.nat (fun t ht => (hP.ir t ht).1) (fun t ht j hj => by
  have h2 := he t ht
  obtain ⟨e1, e2⟩ := term_eval (hP.b.d t ht) hc hb h1 (show j ≤ e by omega)
  refine (rs_of_dv (s := sze s d b e) k e1 (Rat.le_trans e2 ?_)).rk
  simp only [sze]
  rw [Rat.natCast_mul]
  exact Rat.mul_le_mul_of_nonneg_right (Rat.le_trans (asum_mem ht) hP.b.b) Rat.natCast_nonneg) ((eval_bd hP he hc hb h1).okl k)
end Go.Proofs.YtplfdeohokkebaaGreat
