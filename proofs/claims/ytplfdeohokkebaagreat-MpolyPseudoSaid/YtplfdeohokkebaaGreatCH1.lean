/- For MpolyCoefficients: sizes of coefficients and of what From puts together; a list of three polynomials. -/
import Derived.Test.YtplfdeohokkebaaGreatC37
import Derived.Test.YtplfdeohokkebaaGreatCF6
set_option linter.unusedVariables false
set_option linter.unusedSimpArgs false
namespace Q
open Go Go.RowKit Go.Proofs.YtplfdeohokkebaaGreat
theorem bd_coeff {s : Sz} {p : List Trm} (h : Bd s p) (v : Nat) (n : Int) : Bd s (coeffP p v n) := by
 have h' : Bd s (p.filter fun t => t.1.get v = n) := h.sub List.filter_sublist
 refine ⟨by unfold coeffP; rw [List.length_map]; exact h'.n, fun t ht => ?_, fun t ht => ?_, ?_⟩
 ·obtain ⟨u, hu, rfl⟩ := List.mem_map.1 ht
  have := h'.e u hu
  rcases v with _ | _ | _ | v <;> simp only [Ex.put] <;> omega
 ·obtain ⟨u, hu, rfl⟩ := List.mem_map.1 ht
  exact h'.d u hu
 ·have : asum (coeffP p v n) = asum (p.filter fun t => t.1.get v = n) := by
   unfold coeffP
   generalize p.filter _ = l
   induction l with
   | nil => rfl
   | cons u l ih => simp only [List.map_cons, asum, ih]
  rw [this]; exact h'.b
theorem bd_shift {s : Sz} {p : List Trm} (h : Bd s p) (v i : Nat) : Bd ⟨s.D, s.B, s.E + i, s.N⟩ (shiftL p v i) := by
 refine ⟨by unfold shiftL; rw [List.length_map]; exact h.n, fun t ht => ?_, fun t ht => ?_, ?_⟩
 ·obtain ⟨u, hu, rfl⟩ := List.mem_map.1 ht
  have := h.e u hu
  show _ ∧ _
  rcases v with _ | _ | _ | v <;> simp only [Ex.put, Ex.get] <;> omega
 ·obtain ⟨u, hu, rfl⟩ := List.mem_map.1 ht
  exact h.d u hu
 ·have : asum (shiftL p v i) = asum p := by
   unfold shiftL
   have hb := h.b
   clear h hb
   induction p with
   | nil => rfl
   | cons u l ih => simp only [List.map_cons, asum, ih]
  rw [this]; exact h.b
theorem from_bd {B E N : Nat} (v : Nat) : ∀ (l : List (List Trm)) (i : Nat), (∀ c ∈ l, Bd ⟨1, B, E, N⟩ c) → Bd ⟨1, B * l.length, E + (i + l.length), N * l.length⟩ (fromL v i l)
 | [], i, _ => Bd.nil _
 | c :: l, i, h => by
  have h1 := bd_shift (h c (by simp)) v i
  have h2 := from_bd v l (i + 1) fun d hd => h d (by simp [hd])
  have e : fromL v (i : Int) (c :: l) = shiftL c v i ++ fromL v ((i + 1 : Nat) : Int) l := by
   rw [fromL]; rfl
  rw [e]
  refine (h1.append h2).mono ⟨?_, ?_, ?_, ?_⟩
  ·show Nat.lcm 1 1 ∣ 1; decide
  ·show B + B * l.length ≤ B * (l.length + 1); rw [Nat.mul_add]; omega
  ·show max (E + i) (E + (i + 1 + l.length)) ≤ E + (i + (l.length + 1)); omega
  ·show N + N * l.length ≤ N * (l.length + 1); rw [Nat.mul_add]; omega
theorem Pk.coeff {s : Sz} {p : List Trm} (h : Pk s p) (v : Nat) (n : Int) : Pk s (coeffP p v n) := ⟨h.v.coeff v n, bd_coeff h.b v n, h.k⟩
theorem from_pk {B E N : Nat} (v : Nat) {l : List (List Trm)} (h : ∀ c ∈ l, Bd ⟨1, B, E, N⟩ c) (hl : l.length ≤ 3) (k : (⟨1, B * 3, E + 3, N * 3⟩ : Sz).ok) : Bd ⟨1, B * 3, E + 3, N * 3⟩ (fromL v 0 l) ∧ Pk ⟨1, B * 3, E + 3, N * 3⟩ (fromP l v) := by
 have h1 : Bd ⟨1, B * 3, E + 3, N * 3⟩ (fromL v 0 l) := (from_bd v l 0 h).mono ⟨Nat.dvd_refl 1, Nat.mul_le_mul_left _ hl, by show E + (0 + l.length) ≤ E + 3; omega, Nat.mul_le_mul_left _ hl⟩
 exact ⟨h1, canon_val _, h1.canon, k⟩
end Q
namespace Go.Proofs.YtplfdeohokkebaaGreat
open Go.RowKit Q
variable {w : World} {v u x : Value} {p q r : List Trm}
theorem stepG_newL3 {g : Option Nat} {T : TypeId} {P : Program} {o : Oper} {A : Act} {i : Nat} {pu fr : Nat → Bool} {φ : Nat → Value → World → Prop} {Q : Exit → Act → World → Prop} (hp : pu i = false) (hf : fr i = false) (h1 : IsPoly w v p) (h2 : IsPoly w u q) (h3 : IsPoly w x r)
  (hrun : (execOp A.eval o).run P w = .ok (.value (.slice (some ⟨w.heap.size, 0, none⟩) 3 3)) (w.alloc (.cells #[v, u, x] 38)))
  (hφ : ∀ v w', IsPolys w' v [p, q, r] → φ i v w') : o.wp P A w (AfterG (Lr g T) pu fr φ o i A w) Q := by
 have hbe : Below w.heap.size w (w.alloc (.cells #[v, u, x] 38)) := (Below.refl _ _).alloc (Nat.le_refl _) _
 exact stepG_value hp hf hbe (hφ _ _ ⟨_, _, [v, u, x], rfl, Nat.le_refl _, (Blk.new w polyT [v, u, x]).at, ⟨[v], [u, x], rfl, ⟨v, rfl, h1.on hbe⟩, ⟨[u], [x], rfl, ⟨u, rfl, h2.on hbe⟩, ⟨[x], [], rfl, ⟨x, rfl, h3.on hbe⟩, rfl⟩⟩⟩⟩) hrun
theorem cell_poly {al : Option Addr} {n cl j : Nat} {L : List (List Trm)} {c : List Trm} (h : IsPolys w (.slice al n cl) L) (hj : L[j]? = some c) : ∃ b off v, al = some ⟨b, off, none⟩ ∧ IsPoly w v c ∧ Cells polyT w b (off + j * 1) [v] := by
 obtain ⟨b, off, cs, e, -, ⟨v, rfl, hv⟩, hC⟩ := h.get hj
 exact ⟨b, off, v, e, hv, hC⟩
theorem coeffsK {s : Sz} {vp : Value} {v : Nat} (hP : Pk s p) (hE : s.E ≤ 1000) (hv : v < 4) (hp : IsPoly w vp p) : Calls Tryz.prog 33 #[vp, .int .i64 v] w (RetPolys w (coeffsP p v)) :=
 coeffs_any vp p v w hp hv hP.v.nat (by have := (hP.deg v).2; omega) hP.len
theorem coeffs7K {s : Sz} {vp : Value} {v : Nat} (hP : Pk s p) (hE : s.E ≤ 1000) (hv : v < 4) (hp : IsPoly w vp p) : Calls Tryz.prog 39 #[vp, .int .i64 v] w (RetPolys w (coeffsP p v)) :=
 coeffs7_any vp p v w hp hv (by have := (hP.deg v).2; omega) hP.len
theorem deg7K {s : Sz} {vp : Value} {v : Nat} (hP : Pk s p) (hv : v < 4) (hp : IsPoly w vp p) : Calls Tryz.prog 34 #[vp, .int .i64 v] w (Ret w (.int .i64 (degP p v))) := deg7_any vp p v w hp hv hP.len
theorem fromK {B E N : Nat} {vl : Value} {v : Nat} {l : List (List Trm)} (h : ∀ c ∈ l, Bd ⟨1, B, E, N⟩ c) (hl : l.length ≤ 3) (k : (⟨1, B * 3, E + 3, N * 3⟩ : Sz).ok) (hv : v < 4) (hp : IsPolys w vl l) : Calls Tryz.prog 35 #[vl, .int .i64 v] w (RetPoly w (fromP l v)) :=
 from_any vl l v w hp hv ((from_pk v h hl k).1.okl k) (by omega) (fun c hc => by
  have h1 := (h c hc).n
  have h2 := k.2.2.2.2
  simp only at h1 h2
  omega)
end Go.Proofs.YtplfdeohokkebaaGreat
