/- Plain laws of the polynomials: powers, derivatives, coefficients, substitution. -/
import Derived.Test.YtplfdeohokkebaaGreatC13
set_option linter.unusedVariables false
set_option linter.unusedSimpArgs false
namespace Q
theorem powP_mul {p q : List Trm} (hp : Vld p) (hq : Vld q) (m : Nat) : powP (mulP p q) m = mulP (powP p m) (powP q m) :=
 ev_inj (Vld.pow _ _) (Vld.mul _ _) fun x => by
  rw [ev_pow x (Vld.mul _ _).nat, ev_mul x hp.nat hq.nat, ev_mul x (Vld.pow _ _).nat (Vld.pow _ _).nat, ev_pow x hp.nat, ev_pow x hq.nat, rpow_mulBase]
theorem vld_one {e : Ex} {c : Rat} (he : e.nat = true) (hc : c ≠ 0) : Vld [(e, c)] :=
 ⟨List.pairwise_singleton _ _, fun t ht => by rw [List.mem_singleton.1 ht]; exact ⟨hc, he⟩⟩
theorem powP_var2 (n : Nat) : powP (varP 2) n = [((0, 0, (n : Int), 0), 1)] :=
 ev_inj (Vld.pow _ _) (vld_one (Ex.nat_iff.2 ⟨by simp, by simp, by simp, by simp⟩) (by decide)) fun x => by
  rw [ev_pow x (Vld.var 2).nat, ev_var, ev_cons, ev_nil]
  simp only [mon, Pt.get, Int.toNat_natCast, Int.toNat_zero, Rat.pow_zero, Rat.mul_one, Rat.one_mul, Rat.add_zero]
theorem Lf_partial (f : Ex → Rat) (v : Nat) : ∀ {p : List Trm}, NatL p → Lf f (partialP p v) = Lf (fun e => (e.get v : Rat) * f (e.put v (e.get v - 1))) p
 | [], _ => rfl
 | t :: p, h => by
  have ih := Lf_partial f v h.tail
  have h0 := Ex.nat_get h.head v
  rw [Lf_cons, ← ih]
  unfold partialP
  by_cases hz : 0 < t.1.get v
  ·rw [List.filter_cons_of_pos (by simpa using hz), List.map_cons, Lf_cons]
   simp only
   grind
  ·rw [List.filter_cons_of_neg (by simpa using hz)]
   have : t.1.get v = 0 := by omega
   rw [this, show ((0 : Int) : Rat) = 0 from rfl]
   grind
theorem partialP_add {p q : List Trm} (hp : Vld p) (hq : Vld q) (v : Nat) : partialP (addP p q) v = addP (partialP p v) (partialP q v) :=
 ((Vld.add p q).pder v).eqv_inj (Vld.add _ _) fun f => by
  rw [Lf_partial f v (Vld.add p q).nat, addP, (canon_eqv (hp.nat.append hq.nat)) _, Lf_append, addP, (canon_eqv ((hp.pder v).nat.append (hq.pder v).nat)) _, Lf_append, Lf_partial f v hp.nat, Lf_partial f v hq.nat]
theorem Ex.put_sub_left (e f : Ex) (v : Nat) : (e.put v (e.get v - 1)).add f = (e.add f).put v ((e.add f).get v - 1) := by
 rcases v with _ | _ | _ | v <;> refine Ex.ext' ?_ ?_ ?_ ?_ <;> simp only [Ex.add, Ex.put, Ex.get] <;> omega
theorem partialP_mul {p q : List Trm} (hp : Vld p) (hq : Vld q) (v : Nat) : partialP (mulP p q) v = addP (mulP (partialP p v) q) (mulP p (partialP q v)) :=
 ((Vld.mul p q).pder v).eqv_inj (Vld.add _ _) fun f => by
  have hdp := (hp.pder v).nat; have hdq := (hq.pder v).nat
  rw [Lf_partial f v (Vld.mul p q).nat, mulP, (canon_eqv (hp.nat.prods hq.nat)) _, addP, (canon_eqv ((Vld.mul _ _).nat.append (Vld.mul _ _).nat)) _, Lf_append, mulP, (canon_eqv (hdp.prods hq.nat)) _, mulP, (canon_eqv (hp.nat.prods hdq)) _]
  rw [Lf_prods, Lf_prods, Lf_prods, Lf_partial _ v hp.nat, ← Lf_add]
  refine Lf_congr fun s _ => ?_
  rw [Lf_partial _ v hq.nat, ← Lf_smul, ← Lf_add]
  refine Lf_congr fun t _ => ?_
  have e1 := Ex.put_sub_left s.1 t.1 v
  have e2 := Ex.put_sub_left t.1 s.1 v
  rw [Ex.add_comm t.1 s.1, Ex.add_comm _ s.1] at e2
  rw [e1, e2, Ex.get_add, Rat.intCast_add]
  grind
theorem Ex.put_comm (e : Ex) {x y : Nat} (hx : x < 4) (hy : y < 4) (h : x ≠ y) (a b : Int) : (e.put x a).put y b = (e.put y b).put x a := by
 obtain rfl | rfl | rfl | rfl : x = 0 ∨ x = 1 ∨ x = 2 ∨ x = 3 := by omega
 all_goals (obtain rfl | rfl | rfl | rfl : y = 0 ∨ y = 1 ∨ y = 2 ∨ y = 3 := by omega) <;> first | rfl | exact absurd rfl h
theorem Ex.get_put_ne (e : Ex) {x y : Nat} (hx : x < 4) (hy : y < 4) (h : x ≠ y) (a : Int) : (e.put x a).get y = e.get y := by
 obtain rfl | rfl | rfl | rfl : x = 0 ∨ x = 1 ∨ x = 2 ∨ x = 3 := by omega
 all_goals (obtain rfl | rfl | rfl | rfl : y = 0 ∨ y = 1 ∨ y = 2 ∨ y = 3 := by omega) <;> first | rfl | exact absurd rfl h
theorem partialP_comm {p : List Trm} (hp : Vld p) {x y : Nat} (hx : x < 4) (hy : y < 4) : partialP (partialP p x) y = partialP (partialP p y) x := by
 by_cases h : x = y
 ·subst h; rfl
 ·refine ((hp.pder x).pder y).eqv_inj ((hp.pder y).pder x) fun f => ?_
  rw [Lf_partial f y (hp.pder x).nat, Lf_partial _ x hp.nat, Lf_partial f x (hp.pder y).nat, Lf_partial _ y hp.nat]
  refine Lf_congr fun t _ => ?_
  rw [Ex.get_put_ne _ hx hy h, Ex.get_put_ne _ hy hx (Ne.symm h), Ex.put_comm _ hx hy h]
  grind
theorem partialP_var {x y : Nat} (hx : x < 4) (hy : y < 4) : partialP (varP y) x = if x = y then constP 1 else [] := by
 obtain rfl | rfl | rfl | rfl : x = 0 ∨ x = 1 ∨ x = 2 ∨ x = 3 := by omega
 all_goals (obtain rfl | rfl | rfl | rfl : y = 0 ∨ y = 1 ∨ y = 2 ∨ y = 3 := by omega) <;> decide +kernel
theorem coeffP_deg (p : List Trm) (v : Nat) (n : Int) : degP (coeffP p v n) v ≤ 0 := by
 rcases (foldl_max (fun t => t.1.get v) (coeffP p v n) (-1)).2.2 with h | ⟨t, ht, h⟩
 ·show (coeffP p v n).foldl _ _ ≤ 0; rw [h]; omega
 ·show (coeffP p v n).foldl _ _ ≤ 0
  rw [← h]
  obtain ⟨s, -, rfl⟩ := List.mem_map.1 ht
  simp only [Ex.get_put]; omega
theorem evalP_deg (p : List Trm) (v : Nat) (c : Rat) : degP (evalP p v c) v ≤ 0 := by
 have hz : ∀ t ∈ evalP p v c, t.1.get v = 0 := canon_ex (P := fun e => e.get v = 0) fun t ht => by
  obtain ⟨s, -, rfl⟩ := List.mem_map.1 ht
  exact Ex.get_put _ _ _
 rcases (foldl_max (fun t => t.1.get v) (evalP p v c) (-1)).2.2 with h | ⟨t, ht, h⟩
 ·show (evalP p v c).foldl _ _ ≤ 0; rw [h]; omega
 ·show (evalP p v c).foldl _ _ ≤ 0
  rw [← h, hz t ht]; omega
theorem from_mixed {p q : List Trm} (hp : Vld p) (hq : Vld q) (v : Nat) : fromP [q, [], p] v = addP q (mulP p (mulP (varP v) (varP v))) :=
 ev_inj (canon_val _) (Vld.add _ _) fun x => by
  rw [ev_from x v (l := [q, [], p]) (fun c hc => by
   simp only [List.mem_cons, List.not_mem_nil, or_false] at hc
   rcases hc with rfl | rfl | rfl
   ·exact hq.nat
   ·exact NatL.nil
   ·exact hp.nat), ev_add x hq.nat (Vld.mul _ _).nat, ev_mul x hp.nat (Vld.mul _ _).nat, ev_mul x (Vld.var v).nat (Vld.var v).nat, ev_var]
  simp only [rsum, List.length_cons, List.length_nil, List.getD_cons_zero, List.getD_cons_succ, ev_nil]
  simp only [Rat.pow_succ, Rat.pow_zero]
  grind
theorem substP_add {p q f : List Trm} (hp : Vld p) (hq : Vld q) (hf : Vld f) (v : Nat) : substP (addP p q) v f = addP (substP p v f) (substP q v f) :=
 ev_inj (Vld.subst _ _ _) (Vld.add _ _) fun x => by
  rw [ev_subst x (Vld.add _ _) hf.nat, ev_add _ hp.nat hq.nat, ev_add x (Vld.subst _ _ _).nat (Vld.subst _ _ _).nat, ev_subst x hp hf.nat, ev_subst x hq hf.nat]
theorem substP_mul {p q f : List Trm} (hp : Vld p) (hq : Vld q) (hf : Vld f) (v : Nat) : substP (mulP p q) v f = mulP (substP p v f) (substP q v f) :=
 ev_inj (Vld.subst _ _ _) (Vld.mul _ _) fun x => by
  rw [ev_subst x (Vld.mul _ _) hf.nat, ev_mul _ hp.nat hq.nat, ev_mul x (Vld.subst _ _ _).nat (Vld.subst _ _ _).nat, ev_subst x hp hf.nat, ev_subst x hq hf.nat]
theorem Vld.eval (p : List Trm) (v : Nat) (c : Rat) : Vld (evalP p v c) := canon_val _
theorem evalP_add {p q : List Trm} (hp : Vld p) (hq : Vld q) (v : Nat) (c : Rat) : evalP (addP p q) v c = addP (evalP p v c) (evalP q v c) :=
 ev_inj (Vld.eval _ _ _) (Vld.add _ _) fun x => by
  rw [ev_eval x (Vld.add _ _).nat, ev_add _ hp.nat hq.nat, ev_add x (Vld.eval _ _ _).nat (Vld.eval _ _ _).nat, ev_eval x hp.nat, ev_eval x hq.nat]
theorem evalP_mul {p q : List Trm} (hp : Vld p) (hq : Vld q) (v : Nat) (c : Rat) : evalP (mulP p q) v c = mulP (evalP p v c) (evalP q v c) :=
 ev_inj (Vld.eval _ _ _) (Vld.mul _ _) fun x => by
  rw [ev_eval x (Vld.mul _ _).nat, ev_mul _ hp.nat hq.nat, ev_mul x (Vld.eval _ _ _).nat (Vld.eval _ _ _).nat, ev_eval x hp.nat, ev_eval x hq.nat]
theorem evalP_const {p : List Trm} (hp : Vld p) (v : Nat) (c : Rat) : evalP p v c = substP p v (constP c) :=
 ev_inj (Vld.eval _ _ _) (Vld.subst _ _ _) fun x => by rw [ev_eval x hp.nat, ev_subst x hp (Vld.const c).nat, ev_const]
theorem substP_self {p : List Trm} (hp : Vld p) (v : Nat) : substP p v (varP v) = p :=
 ev_inj (Vld.subst _ _ _) hp fun x => by rw [ev_subst x hp (Vld.var v).nat, ev_var, Pt.put_get]
theorem Pt.put_comm (e : Pt) {x y : Nat} (hx : x < 4) (hy : y < 4) (h : x ≠ y) (a b : Rat) : (e.put x a).put y b = (e.put y b).put x a := by
 obtain rfl | rfl | rfl | rfl : x = 0 ∨ x = 1 ∨ x = 2 ∨ x = 3 := by omega
 all_goals (obtain rfl | rfl | rfl | rfl : y = 0 ∨ y = 1 ∨ y = 2 ∨ y = 3 := by omega) <;> first | rfl | exact absurd rfl h
theorem evalP_comm {p : List Trm} (hp : Vld p) {x y : Nat} (hx : x < 4) (hy : y < 4) (h : x ≠ y) (c d : Rat) : evalP (evalP p x c) y d = evalP (evalP p y d) x c :=
 ev_inj (Vld.eval _ _ _) (Vld.eval _ _ _) fun z => by
  rw [ev_eval z (Vld.eval _ _ _).nat, ev_eval _ hp.nat, ev_eval z (Vld.eval _ _ _).nat, ev_eval _ hp.nat, Pt.put_comm z hy hx (Ne.symm h)]
end Q
