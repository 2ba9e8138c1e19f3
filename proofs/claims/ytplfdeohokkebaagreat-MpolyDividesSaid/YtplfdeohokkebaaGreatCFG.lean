/- Divisions of small polynomials: heights, exact runs, both divisions alike. -/
import Derived.Test.YtplfdeohokkebaaGreatC30
import Derived.Test.YtplfdeohokkebaaGreatCFE
set_option linter.unusedVariables false
set_option linter.unusedSimpArgs false
namespace Q
open Go Go.Proofs.YtplfdeohokkebaaGreat
theorem hgt_of {w : Ex → Int} {g : Ex} {ts : List Trm} (ha : ∀ t m : Ex, w (t.add (m.sub g)) = w t + (w m - w g)) (hm : ∀ m : Ex, (m.sub g).nat = true → w g ≤ w m) (ht : ∀ t ∈ ts, w t.1 + 1 ≤ w g) : Hgt (fun e => (w e + 1 - w g).toNat) g ts where
 one m _ hd := by have := hm m hd; show 1 ≤ (w m + 1 - w g).toNat; omega
 dec m _ hd t hts := by
  have h1 := hm m hd
  have h2 := ht t hts
  show (w (t.1.add (m.sub g)) + 1 - w g).toNat + 1 ≤ (w m + 1 - w g).toNat
  rw [ha]; omega
theorem get_add_sub (t m g : Ex) (v : Nat) : (t.add (m.sub g)).get v = t.get v + (m.get v - g.get v) := by rcases v with _ | _ | _ | v <;> rfl
theorem nat_sub {m g : Ex} (h : (m.sub g).nat = true) (v : Nat) : g.get v ≤ m.get v := by
 have := Ex.nat_get h v
 have h2 : (m.sub g).get v = m.get v - g.get v := by rcases v with _ | _ | _ | v <;> rfl
 omega
theorem first_lt {g t : Ex} (h : g.gt t = true) : ∃ v, v < 4 ∧ t.get v < g.get v ∧ ∀ u, v < u → u < 4 → t.get u = g.get u := by
 rw [Ex.gt_iff] at h
 rcases h with h | ⟨h1, h | ⟨h2, h | ⟨h3, h⟩⟩⟩
 ·exact ⟨3, by omega, h, fun u h4 h5 => by omega⟩
 ·refine ⟨2, by omega, h, fun u h4 h5 => ?_⟩
  obtain rfl : u = 3 := by omega
  exact h1
 ·refine ⟨1, by omega, h, fun u h4 h5 => ?_⟩
  obtain rfl | rfl : u = 3 ∨ u = 2 := by omega
  ·exact h1
  ·exact h2
 ·refine ⟨0, by omega, h, fun u h4 h5 => ?_⟩
  obtain rfl | rfl | rfl : u = 3 ∨ u = 2 ∨ u = 1 := by omega
  ·exact h1
  ·exact h2
  ·exact h3
def Le2 (e : Ex) : Prop := e.1 ≤ 2 ∧ e.2.1 ≤ 2 ∧ e.2.2.1 ≤ 2 ∧ e.2.2.2 ≤ 2
theorem Le2.get {e : Ex} (h : Le2 e) (v : Nat) : e.get v ≤ 2 := by
 obtain ⟨h1, h2, h3, h4⟩ := h
 rcases v with _ | _ | _ | v
 ·exact h1
 ·exact h2
 ·exact h3
 ·exact h4
theorem hgt_two {g t u : Ex} {x y : Nat} (hg : g.nat = true) (ht : t.nat = true) (hu : u.nat = true) (lt : Le2 t) (lu : Le2 u) (h1 : t.get x < g.get x) (h2 : u.get y < g.get y) (h3 : u.get x = g.get x) (c d : Rat) :
  ∃ h : Ex → Nat, Hgt h g [(t, c), (u, d)] ∧ Hgt h g [(u, d), (t, c)] ∧ ∀ e, Le2 e → h e ≤ 4 := by
 have a1 := Ex.nat_get ht x
 have a2 := Ex.nat_get hu y
 have a3 := lt.get y
 refine ⟨fun e => (2 * e.get x + e.get y + 1 - (2 * g.get x + g.get y)).toNat, ?_, ?_, fun e he => ?_⟩
 ·refine hgt_of (w := fun e => 2 * e.get x + e.get y) (fun t m => by simp only [get_add_sub]; omega) (fun m hm => by have := nat_sub hm x; have := nat_sub hm y; omega) fun s hs => ?_
  simp only [List.mem_cons, List.not_mem_nil, or_false] at hs
  rcases hs with rfl | rfl <;> simp only <;> omega
 ·refine hgt_of (w := fun e => 2 * e.get x + e.get y) (fun t m => by simp only [get_add_sub]; omega) (fun m hm => by have := nat_sub hm x; have := nat_sub hm y; omega) fun s hs => ?_
  simp only [List.mem_cons, List.not_mem_nil, or_false] at hs
  rcases hs with rfl | rfl <;> simp only <;> omega
 ·have := he.get x
  have := he.get y
  simp only
  omega
theorem hgt_one {g : Ex} {ts : List Trm} (v : Nat) (h0 : 1 ≤ g.get v) (h : ∀ t ∈ ts, t.1.get v < g.get v) : ∃ h : Ex → Nat, Hgt h g ts ∧ ∀ e, Le2 e → h e ≤ 2 := by
 refine ⟨fun e => (e.get v + 1 - g.get v).toNat, hgt_of (w := fun e => e.get v) (fun t m => by simp only [get_add_sub]) (fun m hm => nat_sub hm v) (fun t ht => by have := h t ht; omega), fun e he => ?_⟩
 have := he.get v
 simp only
 omega
theorem hgt_ex {g : Trm} {ts : List Trm} (hv : Vld (g :: ts)) (hn : ts.length ≤ 2) (hx : ∀ t ∈ ts, Le2 t.1) : ∃ (h : Ex → Nat) (H : Nat), Hgt h g.1 ts ∧ (∀ e, Le2 e → h e ≤ H) ∧ (H ≤ 2 ∨ ts.length = 2 ∧ H = 4) := by
 match ts, hv, hn, hx with
 | [], _, _, _ => exact ⟨fun _ => 1, 1, ⟨fun _ _ _ => Nat.le_refl _, fun _ _ _ _ h => by cases h⟩, fun _ _ => Nat.le_refl _, .inl (by omega)⟩
 | [t], hv, _, hx =>
  obtain ⟨v, -, h1, -⟩ := first_lt (hv.1.head t (by simp))
  have h2 := Ex.nat_get (hv.2 t (by simp)).2 v
  obtain ⟨h, h3, h4⟩ := hgt_one (g := g.1) (ts := [t]) v (by omega) (fun s hs => by rw [List.mem_singleton.1 hs]; exact h1)
  exact ⟨h, 2, h3, h4, .inl (by omega)⟩
 | [t, u], hv, _, hx =>
  obtain ⟨v, hv4, h1, k1⟩ := first_lt (hv.1.head t (by simp))
  obtain ⟨y, hy4, h2, k2⟩ := first_lt (hv.1.head u (by simp))
  have n0 := (hv.2 g (by simp)).2
  have n1 := (hv.2 t (by simp)).2
  have n2 := (hv.2 u (by simp)).2
  have l1 := hx t (by simp)
  have l2 := hx u (by simp)
  obtain ⟨te, tc⟩ := t
  obtain ⟨ue, uc⟩ := u
  simp only at h1 h2 k1 k2 n1 n2 l1 l2
  rcases Nat.lt_trichotomy v y with h | h | h
  ·obtain ⟨h, -, h4, h5⟩ := hgt_two n0 n2 n1 l2 l1 h2 h1 (k1 y h hy4) uc tc
   exact ⟨h, 4, h4, h5, .inr ⟨rfl, rfl⟩⟩
  ·subst h
   have h3 := Ex.nat_get n1 v
   obtain ⟨h, h3, h4⟩ := hgt_one (g := g.1) (ts := [(te, tc), (ue, uc)]) v (by omega) (fun s hs => by
    simp only [List.mem_cons, List.not_mem_nil, or_false] at hs
    rcases hs with rfl | rfl
    ·exact h1
    ·exact h2)
   exact ⟨h, 2, h3, h4, .inl (by omega)⟩
  ·obtain ⟨h, h4, -, h5⟩ := hgt_two n0 n1 n2 l1 l2 h1 h2 (k2 v h hv4) tc uc
   exact ⟨h, 4, h4, h5, .inr ⟨rfl, rfl⟩⟩
theorem head_is {a : List Trm} (hv : Vld a) {E : Ex} {c : Rat} (hc : c ≠ 0) (h1 : ∀ t ∈ a, E = t.1 ∨ E.gt t.1 = true) (h2 : cf a E = c) : ∃ a', a = (E, c) :: a' := by
 obtain ⟨t, ht, he⟩ := cf_in (l := a) (e := E) (by rw [h2]; exact hc)
 cases a with
 | nil => cases ht
 | cons m a =>
  have h3 : m.1 = E := by
   rcases h1 m (by simp) with h | h
   ·exact h.symm
   ·rcases List.mem_cons.1 ht with rfl | ht
    ·exact he
    ·have h4 := hv.1.head t ht
     rw [he] at h4
     rw [Ex.gt_asymm h] at h4; cases h4
  have h4 := hv.cf_head
  rw [h3, h2] at h4
  exact ⟨a, by rw [← h3, h4]⟩
theorem mul_top {x g : Trm} {s ts : List Trm} (hs : Vld (x :: s)) (hb : Vld (g :: ts)) : (∀ t ∈ mulP (x :: s) (g :: ts), x.1.add g.1 = t.1 ∨ (x.1.add g.1).gt t.1 = true) ∧ cf (mulP (x :: s) (g :: ts)) (x.1.add g.1) = x.2 * g.2 := by
 refine ⟨canon_ex (P := fun e => x.1.add g.1 = e ∨ (x.1.add g.1).gt e = true) fun t ht => ?_, ?_⟩
 ·obtain ⟨a, ha, b, hb', rfl⟩ := mem_prods ht
  by_cases h : x.1 = a.1 ∧ g.1 = b.1
  ·exact .inl (by simp only [mulT, h.1, h.2])
  ·exact .inr (gt_add_both (hs.1.head_or a ha) (hb.1.head_or b hb') h)
 ·rw [mulP, cf_canon, if_pos (Ex.nat_add hs.nat.head hb.nat.head), cf_prods_head hs.1 hb.1]
theorem quo_back {x g : Trm} (hz : g.2 ≠ 0) : quoT (x.1.add g.1, x.2 * g.2) g = x := by
 obtain ⟨e, c⟩ := x
 unfold quoT
 refine Prod.ext ?_ ?_
 ·show (e.add g.1).sub g.1 = e
  simp only [Ex.add, Ex.sub]; refine Ex.ext' ?_ ?_ ?_ ?_ <;> simp only <;> omega
 ·show c * g.2 / g.2 = c
  exact Rat.mul_div_cancel hz
theorem sub_back {x : Trm} {s b d : List Trm} (hs : Vld (x :: s)) (hb : Vld b) (hd : Vld d) : subP (addP (mulP (x :: s) b) d) (mulP b [x]) = addP (mulP s b) d :=
 ev_inj (Vld.sub _ _) (Vld.add _ _) fun y => by
  have hx : Vld [x] := ⟨List.pairwise_singleton _ _, fun t ht => hs.2 t (by simp at ht; simp [ht])⟩
  rw [ev_sub y (Vld.add _ _).nat (Vld.mul _ _), ev_add y (Vld.mul _ _).nat hd.nat, ev_mul y hs.nat hb.nat, ev_mul y hb.nat hx.nat, ev_add y (Vld.mul _ _).nat hd.nat, ev_mul y hs.tail.nat hb.nat, ev_cons, ev_cons, ev_nil]
  grind
theorem addP_nil {p : List Trm} (hp : Vld p) : addP p [] = p := by rw [addP, List.append_nil, canon_id hp]
theorem run_exact {sp sb sq : Sz} {g : Trm} {ts : List Trm} (hb : Pk sb (g :: ts)) (k : (sp.mul sb).ok) : ∀ (s out : List Trm), Pk sp s → (∀ t ∈ s, Bd sq [t]) → out.length + s.length ≤ 1000000 → RunD (sp.mul sb) sq (g :: ts) g s.length (mulP s (g :: ts)) out (some (out ++ s))
 | [], out, _, _, _ => by rw [List.append_nil]; exact .done
 | x :: s, out, hs, hq, hn => by
  have hz := (hb.v.2 g (by simp)).1
  have hx := hs.v.2 x (by simp)
  obtain ⟨h1, h2⟩ := mul_top hs.v hb.v
  obtain ⟨a, ha⟩ := head_is (Vld.mul _ _) (rmul_ne hx.1 hz) h1 h2
  have hP := hs.mul hb k
  have hs' : Pk sp s := ⟨hs.v.tail, hs.b.sub (List.sublist_cons_self _ _), hs.k⟩
  have ih := run_exact hb k s (out ++ [x]) hs' (fun t ht => hq t (by simp [ht])) (by simp at hn ⊢; omega)
  have h3 := sub_back hs.v hb.v Vld.nil
  rw [addP_nil (Vld.mul _ _), addP_nil (Vld.mul _ _)] at h3
  rw [ha] at hP h3 ⊢
  have h4 := quo_back (x := x) hz
  have h5 : ((x.1.add g.1).sub g.1) = x.1 := congrArg Prod.fst h4
  refine .step (by show ((x.1.add g.1).sub g.1).nat = true; rw [h5]; exact hx.2) hP (by rw [h4]; exact hq x (by simp)) (by simp at hn; omega) ?_
  rw [h4, h3]
  simpa using ih
theorem gt_e0 {e g : Ex} (he : e.nat = true) (hg : g.nat = true) (h : g ≠ e0) : (e.add g).gt e0 = true := by
 have h1 := Ex.nat_iff.1 he
 have h2 := Ex.nat_iff.1 hg
 rw [Ex.gt_iff]
 have h3 : ¬ (g.1 = 0 ∧ g.2.1 = 0 ∧ g.2.2.1 = 0 ∧ g.2.2.2 = 0) := fun h' => h (Ex.ext' h'.1 h'.2.1 h'.2.2.1 h'.2.2.2)
 simp only [Ex.add, e0]
 omega
theorem run_near {sp sb so sq : Sz} {g : Trm} {ts : List Trm} (hb : Pk sb (g :: ts)) (hg : g.1 ≠ e0) (ho : Pk so (constP 1)) (k : (sp.mul sb).ok) (k' : ((sp.mul sb).add so).ok) : ∀ (s out : List Trm), Pk sp s → (∀ t ∈ s, Bd sq [t]) → out.length + s.length ≤ 1000000 → RunD ((sp.mul sb).add so) sq (g :: ts) g s.length (addP (mulP s (g :: ts)) (constP 1)) out none
 | [], out, hs, _, _ => by
  have h1 : addP (mulP [] (g :: ts)) (constP 1) = [(e0, 1)] := by
   show canon ([] ++ constP 1) = _
   rw [List.nil_append, canon_id ho.v]; rfl
  have hP := (hs.mul hb k).add ho k'
  rw [h1] at hP ⊢
  refine .fail ?_ hP
  have h2 := Ex.nat_iff.1 (hb.v.2 g (by simp)).2
  have h3 : ¬ (g.1.1 = 0 ∧ g.1.2.1 = 0 ∧ g.1.2.2.1 = 0 ∧ g.1.2.2.2 = 0) := fun h' => hg (Ex.ext' h'.1 h'.2.1 h'.2.2.1 h'.2.2.2)
  rw [Bool.eq_false_iff]
  intro h4
  have h5 := Ex.nat_iff.1 h4
  simp only [Ex.sub, e0] at h5
  omega
 | x :: s, out, hs, hq, hn => by
  have hz := (hb.v.2 g (by simp)).1
  have hx := hs.v.2 x (by simp)
  have hgn := (hb.v.2 g (by simp)).2
  obtain ⟨h1, h2⟩ := mul_top hs.v hb.v
  have hE := gt_e0 hx.2 hgn hg
  have h1' : ∀ t ∈ addP (mulP (x :: s) (g :: ts)) (constP 1), x.1.add g.1 = t.1 ∨ (x.1.add g.1).gt t.1 = true := canon_ex (P := fun e => x.1.add g.1 = e ∨ (x.1.add g.1).gt e = true) fun t ht => by
   rcases List.mem_append.1 ht with ht | ht
   ·exact h1 t ht
   ·have : t = (e0, 1) := by simpa [constP] using ht
    rw [this]; exact .inr hE
  have h2' : cf (addP (mulP (x :: s) (g :: ts)) (constP 1)) (x.1.add g.1) = x.2 * g.2 := by
   rw [addP, cf_canon, if_pos (Ex.nat_add hx.2 hgn), cf_append, h2, cf_out (l := constP 1) fun t ht => by
    have : t = (e0, 1) := by simpa [constP] using ht
    rw [this]; exact (Ex.gt_ne hE).symm]
   grind
  obtain ⟨a, ha⟩ := head_is (Vld.add _ _) (rmul_ne hx.1 hz) h1' h2'
  have hP := (hs.mul hb k).add ho k'
  have hs' : Pk sp s := ⟨hs.v.tail, hs.b.sub (List.sublist_cons_self _ _), hs.k⟩
  have ih := run_near hb hg ho k k' s (out ++ [x]) hs' (fun t ht => hq t (by simp [ht])) (by simp at hn ⊢; omega)
  have h3 := sub_back hs.v hb.v ho.v
  rw [ha] at hP h3 ⊢
  have h4 := quo_back (x := x) hz
  have h5 : ((x.1.add g.1).sub g.1) = x.1 := congrArg Prod.fst h4
  refine .step (by show ((x.1.add g.1).sub g.1).nat = true; rw [h5]; exact hx.2) hP (by rw [h4]; exact hq x (by simp)) (by simp at hn; omega) ?_
  rw [h4, h3]
  exact ih
theorem RunD.divr {sa sb sq : Sz} {b : List Trm} {g : Trm} (hB : RunB sa sb sq b g) {n : Nat} {a out : List Trm} {r : Option (List Trm)} (h : RunD sa sq b g n a out r) : DivR b g n a out r := by
 obtain ⟨ts, hts⟩ := hB.hd
 have hpb := hB.pb
 have ok : ∀ {m : Trm} {a : List Trm}, Pk sa (m :: a) → DivOk b g m a := fun {m a} hP => by
  refine ⟨ir_sub hP (hts ▸ hpb), hP.rk m (by simp), hpb.rk g (by rw [hts]; simp), hB.ne.1, fits_of hP hB.gs⟩
 induction h with
 | done => exact .done
 | fail h1 h2 => exact .fail h1 (ok h2)
 | step h1 h2 h3 h4 _ ih =>
  have hq : Pk sq [quoT _ g] := ⟨quoT_val h2.v hB.ne.1 h1, h3, hB.oq⟩
  refine .step h1 (ok h2) ⟨hq.rk _ (by simp; rfl), ⟨hpb.ir, hpb.len⟩, (hpb.b.prods h3).okl hB.om, ⟨h2.rk, h2.len, h2.v⟩, ⟨(hpb.mul hq hB.om).rk, (hpb.mul hq hB.om).len⟩⟩ h4 ih
end Q
