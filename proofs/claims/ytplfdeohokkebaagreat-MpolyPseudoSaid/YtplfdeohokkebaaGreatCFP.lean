/- The law of pseudo-division: its facts. -/
import Derived.Test.YtplfdeohokkebaaGreatCFM
import Derived.Test.YtplfdeohokkebaaGreatCFO
set_option linter.unusedVariables false
set_option linter.unusedSimpArgs false
namespace Q
open Go Go.RowKit Go.Proofs.YtplfdeohokkebaaGreat
def rS : Sz := ⟨1, 36 * 54 ^ 3 * 3, 2 + 2 * 3 + 3, 4 * 6 ^ 3 * 3⟩
theorem rS_ok : rS.ok := by decide +kernel
theorem coeff_free (p : List Trm) (v : Nat) (n : Int) : ∀ t ∈ coeffP p v n, t.1.get v = 0 := fun t ht => by
 obtain ⟨u, -, rfl⟩ := List.mem_map.1 ht
 exact Ex.get_put _ _ _
theorem coeffs_pkA {s : Sz} {p : List Trm} (P : Pk s p) (v : Nat) : PkA s v (coeffsP p v) := fun c hc => by
 obtain ⟨n, rfl⟩ := mem_coeffsP hc
 exact ⟨P.coeff v n, coeff_free p v n⟩
theorem PkA.vld {s : Sz} {v : Nat} {L : List (List Trm)} (h : PkA s v L) : VldA L := fun c hc => (h c hc).1.v
def psRem (p q : List Trm) (v : Nat) : List Trm := fromP (psRun (coeffsP q v) (coeffsP p v).length (coeffsP p v)) v
theorem evl_coeffs (x : Pt) (v : Nat) {p : List Trm} (h : Vld p) : evl x v (coeffsP p v) = ev x p := by
 have h1 := ev_from x v (l := coeffsP p v) (fun c hc => by obtain ⟨n, rfl⟩ := mem_coeffsP hc; exact (h.coeff v n).nat)
 rw [from_coeffs h v] at h1
 exact h1.symm
section
variable {p q : List Trm} {v : Nat}
theorem deg_ge0 (hq : q ≠ []) (nq : NatL q) (v : Nat) : 0 ≤ degP q v := by
 obtain ⟨t, ht⟩ := List.exists_mem_of_ne_nil _ hq
 have := degP_le ht v
 have := Ex.nat_get (nq t ht) v
 omega
structure PsLaw (p q : List Trm) (v : Nat) (s : Nat) (S : List Trm) : Prop where
 r : Pk rS (psRem p q v)
 lt : degP p v < degP q v → psRem p q v = p
 d : degP q v ≤ degP p v → degP (psRem p q v) v < degP q v
 e : degP q v ≤ degP p v → subP (mulP (powP (coeffP q v (degP q v)) s) p) (psRem p q v) = mulP S q
 k : Pk (qs 3) S
theorem ps_law (P : Pk ⟨1, 36, 2, 4⟩ p) (Q : Pk sd q) (hq : q ≠ []) (hv : v < 4) :
  (∃ S, PsLaw p q v (degP p v - degP q v + 1).toNat S) ∧ PsAll (coeffsP q v) (coeffsP p v).length (coeffsP p v) ∧ Okl (fromL v 0 (psRun (coeffsP q v) (coeffsP p v).length (coeffsP p v))) ∧ ∀ c ∈ psRun (coeffsP q v) (coeffsP p v).length (coeffsP p v), c.length ≤ 1000000 := by
 have hd0 := deg_ge0 hq Q.v.nat v
 have hp2 := (P.deg v).2
 have hp1 := (P.deg v).1
 have hq2 := (Q.deg v).2
 simp only [sd] at hp2 hq2
 have hDl : (coeffsP q v).length = (degP q v + 1).toNat := coeffsP_length q v
 have hRl : (coeffsP p v).length = (degP p v + 1).toNat := coeffsP_length p v
 have AD := coeffs_pkA Q v
 have AR : PkA (ps 0) v (coeffsP p v) := coeffs_pkA P v
 obtain ⟨h1, h2, h3⟩ := ps_all AD (coeffsP p v).length 0 (coeffsP p v) (by omega) (by omega) AR
 have h4 := psRun_len (coeffsP q v) (by omega) (coeffsP p v).length (coeffsP p v) (by omega)
 have hb : ∀ c ∈ psRun (coeffsP q v) (coeffsP p v).length (coeffsP p v), Bd ⟨1, 36 * 54 ^ 3, 2 + 2 * 3, 4 * 6 ^ 3⟩ c := fun c hc => (h2 c hc).1.b
 obtain ⟨f1, f2⟩ := from_pk v hb (by omega) rS_ok
 have hx := fun x => evl_run x v AD.vld (by omega) (coeffsP p v).length (coeffsP p v) AR.vld (by omega)
 have hc : (coeffsP q v).getD ((coeffsP q v).length - 1) [] = coeffP q v (degP q v) := by
  rw [coeffsP_get (by omega)]; congr 1; omega
 have hqs : (qs (coeffsP p v).length).le (qs 3) := by
  have : (coeffsP p v).length ≤ 3 := by omega
  refine ⟨Nat.dvd_refl _, Nat.mul_le_mul_right _ this, Nat.le_refl _, Nat.mul_le_mul_right _ this⟩
 refine ⟨⟨psQuo v (coeffsP q v) (coeffsP p v).length (coeffsP p v), f2, fun hlt => ?_, fun hle => ?_, fun hle => ?_, h3.mono hqs (qs_ok (by omega))⟩, h1, f1.okl rS_ok, fun c hc => (h2 c hc).1.len⟩
 ·have : psRun (coeffsP q v) (coeffsP p v).length (coeffsP p v) = coeffsP p v := by
   cases hl : (coeffsP p v).length with
   | zero => rfl
   | succ f => unfold psRun; rw [if_neg (by omega)]
  rw [psRem, this, from_coeffs P.v]
 ·have := degP_from (l := psRun (coeffsP q v) (coeffsP p v).length (coeffsP p v)) hv (fun c hc => (h2 c hc).2)
  unfold psRem; omega
 ·refine ev_inj (Vld.sub _ _) (Vld.mul _ _) fun x => ?_
  have h5 := hx x
  rw [hc, evl_coeffs x v P.v, evl_coeffs x v Q.v] at h5
  have h6 : ev x (psRem p q v) = evl x v (psRun (coeffsP q v) (coeffsP p v).length (coeffsP p v)) := ev_from x v (fun c hc => (h2 c hc).1.v.nat)
  have h7 : (degP p v - degP q v + 1).toNat = (coeffsP p v).length - ((coeffsP q v).length - 1) := by omega
  have f3 : Vld (psRem p q v) := f2.v
  rw [ev_sub x (Vld.mul _ _).nat f3, ev_mul x (Vld.pow _ _).nat P.v.nat, ev_pow x (Q.v.coeff v _).nat, h7, h6, ev_mul x h3.v.nat Q.v.nat, ← h5]
theorem multiple {g : Trm} {ts S : List Trm} (D : Pk ⟨1, 27, 2, 3⟩ (g :: ts)) (K : Pk (qs 3) S) : RunB (Sz.mul (qs 3) ⟨1, 27, 2, 3⟩) ⟨1, 27, 2, 3⟩ (qs 3) (g :: ts) g ∧ RunD (Sz.mul (qs 3) ⟨1, 27, 2, 3⟩) (qs 3) (g :: ts) g S.length (mulP S (g :: ts)) [] (some S) := by
 have hn := K.b.n
 have hgs : g.2.num.natAbs ≤ 65535 := by
  obtain ⟨z, hz⟩ := int_of_dv (D.b.d g (by simp))
  have h1 := Rat.le_trans (asum_mem (l := g :: ts) (t := g) (by simp)) D.b.b
  rw [hz] at h1
  have h2 : z.natAbs ≤ 27 := int_le h1
  rw [hz, Rat.num_intCast]; omega
 refine ⟨⟨D, ⟨ts, rfl⟩, K.k, by decide +kernel, by decide +kernel, hgs⟩, run_exact (out := []) D (by decide +kernel) S K (fun t ht => ⟨?_, fun u hu => K.b.e u ?_, fun u hu => K.b.d u ?_, (K.b.sub (List.singleton_sublist.2 ht)).b⟩) (by have := K.len; simpa using this)⟩
 ·show 1 ≤ _; decide +kernel
 ·rw [List.mem_singleton.1 hu]; exact ht
 ·rw [List.mem_singleton.1 hu]; exact ht
end
end Q
