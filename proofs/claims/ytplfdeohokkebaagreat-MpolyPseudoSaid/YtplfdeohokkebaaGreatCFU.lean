/- Exact divisions: their runs. -/
import Derived.Test.YtplfdeohokkebaaGreatCFB
set_option linter.unusedVariables false
set_option linter.unusedSimpArgs false
namespace Q
open Go Go.Proofs.YtplfdeohokkebaaGreat
theorem head_is {a : List Trm} (hv : Vld a) {E : Ex} {c : Rat} (hc : c ≠ 0) (h1 : ∀ t ∈ a, E = t.1 ∨ E.gt t.1 = true) (h2 : cf a E = c) : ∃ a', a = (E, c) :: a' := by
 obtain ⟨t, ht, he⟩ := cf_in (l := a) (e := E) (by rw [h2]; exact hc)
 cases a with
 | nil => cases ht
 | cons m a =>
  have h3 : m.1 = E := by
   rcases h1 m (by simp) with h | h
   ·exact h.symm
   ·rcases List.mem_cons.1 ht with rfl | ht
    ·exact he
    ·have h4 := hv.1.head t ht
     rw [he] at h4
     rw [Ex.gt_asymm h] at h4; cases h4
  have h4 := hv.cf_head
  rw [h3, h2] at h4
  exact ⟨a, by rw [← h3, h4]⟩
theorem mul_top {x g : Trm} {s ts : List Trm} (hs : Vld (x :: s)) (hb : Vld (g :: ts)) : (∀ t ∈ mulP (x :: s) (g :: ts), x.1.add g.1 = t.1 ∨ (x.1.add g.1).gt t.1 = true) ∧ cf (mulP (x :: s) (g :: ts)) (x.1.add g.1) = x.2 * g.2 := by
 refine ⟨canon_ex (P := fun e => x.1.add g.1 = e ∨ (x.1.add g.1).gt e = true) fun t ht => ?_, ?_⟩
 ·obtain ⟨a, ha, b, hb', rfl⟩ := mem_prods ht
  by_cases h : x.1 = a.1 ∧ g.1 = b.1
  ·exact .inl (by simp only [mulT, h.1, h.2])
  ·exact .inr (gt_add_both (hs.1.head_or a ha) (hb.1.head_or b hb') h)
 ·rw [mulP, cf_canon, if_pos (Ex.nat_add hs.nat.head hb.nat.head), cf_prods_head hs.1 hb.1]
theorem quo_back {x g : Trm} (hz : g.2 ≠ 0) : quoT (x.1.add g.1, x.2 * g.2) g = x := by
 obtain ⟨e, c⟩ := x
 unfold quoT
 refine Prod.ext ?_ ?_
 ·show (e.add g.1).sub g.1 = e
  simp only [Ex.add, Ex.sub]; refine Ex.ext' ?_ ?_ ?_ ?_ <;> simp only <;> omega
 ·show c * g.2 / g.2 = c
  exact Rat.mul_div_cancel hz
theorem sub_back {x : Trm} {s b d : List Trm} (hs : Vld (x :: s)) (hb : Vld b) (hd : Vld d) : subP (addP (mulP (x :: s) b) d) (mulP b [x]) = addP (mulP s b) d :=
 ev_inj (Vld.sub _ _) (Vld.add _ _) fun y => by
  have hx : Vld [x] := ⟨List.pairwise_singleton _ _, fun t ht => hs.2 t (by simp at ht; simp [ht])⟩
  rw [ev_sub y (Vld.add _ _).nat (Vld.mul _ _), ev_add y (Vld.mul _ _).nat hd.nat, ev_mul y hs.nat hb.nat, ev_mul y hb.nat hx.nat, ev_add y (Vld.mul _ _).nat hd.nat, ev_mul y hs.tail.nat hb.nat, ev_cons, ev_cons, ev_nil]
  grind
theorem addP_nil {p : List Trm} (hp : Vld p) : addP p [] = p := by rw [addP, List.append_nil, canon_id hp]
theorem run_exact {sp sb sq : Sz} {g : Trm} {ts : List Trm} (hb : Pk sb (g :: ts)) (k : (sp.mul sb).ok) : ∀ (s out : List Trm), Pk sp s → (∀ t ∈ s, Bd sq [t]) → out.length + s.length ≤ 1000000 → RunD (sp.mul sb) sq (g :: ts) g s.length (mulP s (g :: ts)) out (some (out ++ s))
 | [], out, _, _, _ => by rw [List.append_nil]; exact .done
 | x :: s, out, hs, hq, hn => by
  have hz := (hb.v.2 g (by simp)).1
  have hx := hs.v.2 x (by simp)
  obtain ⟨h1, h2⟩ := mul_top hs.v hb.v
  obtain ⟨a, ha⟩ := head_is (Vld.mul _ _) (rmul_ne hx.1 hz) h1 h2
  have hP := hs.mul hb k
  have hs' : Pk sp s := ⟨hs.v.tail, hs.b.sub (List.sublist_cons_self _ _), hs.k⟩
  have ih := run_exact hb k s (out ++ [x]) hs' (fun t ht => hq t (by simp [ht])) (by simp at hn ⊢; omega)
  have h3 := sub_back hs.v hb.v Vld.nil
  rw [addP_nil (Vld.mul _ _), addP_nil (Vld.mul _ _)] at h3
  rw [ha] at hP h3 ⊢
  have h4 := quo_back (x := x) hz
  have h5 : ((x.1.add g.1).sub g.1) = x.1 := congrArg Prod.fst h4
  refine .step (by show ((x.1.add g.1).sub g.1).nat = true; rw [h5]; exact hx.2) hP (by rw [h4]; exact hq x (by simp)) (by simp at hn; omega) ?_
  rw [h4, h3]
  simpa using ih
theorem int_of_dv {c : Rat} (h : Dv 1 c) : ∃ z : Int, c = (z : Rat) := by
 obtain ⟨k, hk⟩ := h
 exact ⟨k, by rw [← hk, show ((1 : Nat) : Rat) = 1 from rfl, Rat.mul_one]⟩
theorem int_le {z : Int} {n : Nat} (h : rabs (z : Rat) ≤ (n : Rat)) : z.natAbs ≤ n := by
 rw [rabs_int] at h
 exact Rat.natCast_le_natCast.1 h
end Q
namespace Go.Proofs.YtplfdeohokkebaaGreat
open Go Go.RowKit Q
def RetDivT (w : World) (s : List Trm) (t : Bool) (e : Ending) (w' : World) : Prop := ∃ v, e = .returned (.tuple #[v, .bool t]) ∧ IsPoly w' v s ∧ Below w.heap.size w w'
end Go.Proofs.YtplfdeohokkebaaGreat
