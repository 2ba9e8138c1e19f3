/- The fixed examples: plain values. The fixed examples: what the contracts ask, by tests. The fixed examples: the contracts at known values. MpolyMakes: plain facts on the drawn terms. R7.Made, plain: the terms that it lays for drawn ones. -/
import Derived.Test.YtplfdeohokkebaaGreatC28
import Derived.Test.YtplfdeohokkebaaGreatC29
import Derived.Test.YtplfdeohokkebaaGreatC31
import Derived.Test.YtplfdeohokkebaaGreatC33
set_option linter.unusedVariables false
set_option linter.unusedSimpArgs false
section
namespace Q
open Go.Proofs.YtplfdeohokkebaaGreat
def tm (c i k : Int) : Trm := ((i, k, 0, 0), (c : Rat))
theorem sv_sum : canon [tm 1 1 0, tm (-1) 1 0, tm 2 0 1, tm 1 0 1, tm 5 (-1) 0] = [tm 3 0 1] := by decide +kernel
theorem sv_x : varP 0 = [tm 1 1 0] := by decide +kernel
theorem sv_y : varP 1 = [tm 1 0 1] := by decide +kernel
theorem sv_l0 : canon [tm 1 1 1, tm 1 0 1, tm 3 0 0] = [tm 1 1 1, tm 1 0 1, tm 3 0 0] := by decide +kernel
theorem sv_l : coeffsP [tm 1 1 1, tm 1 0 1, tm 3 0 0] 1 = [[tm 3 0 0], [tm 1 1 0, tm 1 0 0]] := by decide +kernel
theorem sv_a : canon [tm 1 2 0, tm (-1) 0 2] = [tm (-1) 0 2, tm 1 2 0] := by decide +kernel
theorem vld_of {l : List Trm} (h : vldB l = true) : Vld l := vldB_vld.1 h
theorem sv_b : mergeP [tm 1 1 0] [tm 1 0 1] = [tm 1 0 1, tm 1 1 0] := (mergeP_eq (vld_of (by decide +kernel)) (vld_of (by decide +kernel))).trans (by decide +kernel)
theorem sv_xx : mulP [tm 1 1 0] [tm 1 1 0] = [tm 1 2 0] := by decide +kernel
theorem sv_d : canon [tm 2 1 0, tm 1 0 1] = [tm 1 0 1, tm 2 1 0] := by decide +kernel
theorem sv_dc : coeffsP [tm 1 0 1, tm 2 1 0] 0 = [[tm 1 0 1], [tm 2 0 0]] := by decide +kernel
theorem sv_rc : coeffsP [tm 1 2 0] 0 = [[], [], [tm 1 0 0]] := by decide +kernel
theorem sv_ps : psRun [[tm 1 0 1], [tm 2 0 0]] 3 [[], [], [tm 1 0 0]] = [[tm 1 0 2]] := by decide +kernel
theorem sv_r : fromP [[tm 1 0 2]] 0 = [tm 1 0 2] := by decide +kernel
theorem sv_s0 : canon [tm 1 2 1] = [tm 1 2 1] := by decide +kernel
theorem sv_one : constP (1 : Int) = [tm 1 0 0] := by decide +kernel
theorem sv_x1 : mergeP [tm 1 1 0] [tm 1 0 0] = [tm 1 1 0, tm 1 0 0] := (mergeP_eq (vld_of (by decide +kernel)) (vld_of (by decide +kernel))).trans (by decide +kernel)
theorem sv_s : substP [tm 1 2 1] 0 [tm 1 1 0, tm 1 0 0] = [tm 1 2 1, tm 2 1 1, tm 1 0 1] := by decide +kernel
theorem sv_s1 : canon [tm 1 2 1, tm 2 1 1, tm 1 0 1] = [tm 1 2 1, tm 2 1 1, tm 1 0 1] := by decide +kernel
theorem sv_q : canon [tm 1 1 0, tm (-1) 0 1] = [tm (-1) 0 1, tm 1 1 0] := by decide +kernel
theorem sv_cc : canon [tm 1 1 0, tm 1 0 0] = [tm 1 1 0, tm 1 0 0] := by decide +kernel
theorem sv_three : constP (3 : Int) = [tm 3 0 0] := by decide +kernel
theorem sv_zero : constP (0 : Int) = [] := by decide +kernel
theorem sv_deg : degP [tm 1 2 1, tm 2 1 1, tm 1 0 1] 0 = 2 := by decide +kernel
theorem sv_v1 : vldB [] = true ∧ vldB [tm 3 0 1] = true ∧ vldB [tm 1 0 0, tm 1 1 0] = false ∧ vldB [tm 0 1 0] = false ∧ vldB [tm 1 (-1) 0] = false := by decide +kernel
end Q
end
section
namespace Q
open Go Go.Proofs.YtplfdeohokkebaaGreat
def smB (B E N : Nat) (l : List Trm) : Bool :=
 decide (l.length ≤ N) && l.all (fun t => decide (-(E : Int) ≤ t.1.1) && decide (t.1.1 ≤ E) && decide (-(E : Int) ≤ t.1.2.1) && decide (t.1.2.1 ≤ E) && decide (-(E : Int) ≤ t.1.2.2.1) && decide (t.1.2.2.1 ≤ E) && decide (-(E : Int) ≤ t.1.2.2.2) && decide (t.1.2.2.2 ≤ E) && decide (t.2.den = 1)) && decide (asum l ≤ (B : Rat))
theorem smB_bd {B E N : Nat} {l : List Trm} (h : smB B E N l = true) : Bd ⟨1, B, E, N⟩ l := by
 simp only [smB, Bool.and_eq_true, decide_eq_true_eq, List.all_eq_true] at h
 obtain ⟨⟨h1, h2⟩, h3⟩ := h
 refine ⟨h1, fun t ht => ?_, fun t ht => ?_, h3⟩
 ·obtain ⟨⟨⟨⟨⟨⟨⟨⟨a1, a2⟩, a3⟩, a4⟩, a5⟩, a6⟩, a7⟩, a8⟩, -⟩ := h2 t ht
  exact ⟨a1, a2, a3, a4, a5, a6, a7, a8⟩
 ·obtain ⟨-, hd⟩ := h2 t ht
  refine ⟨t.2.num, ?_⟩
  have : (t.2.num : Rat) = t.2 := by
   refine Rat.ext rfl ?_
   rw [hd]; rfl
  rw [this]
  show t.2 * ((1 : Nat) : Rat) = t.2
  rw [show ((1 : Nat) : Rat) = 1 from rfl, Rat.mul_one]
def S1 : Sz := ⟨1, 100, 10, 10⟩
def sm (l : List Trm) : Bool := smB 100 10 10 l
theorem sm_bd {l : List Trm} (h : sm l = true) : Bd S1 l := smB_bd h
theorem s1_ok : S1.ok := by decide +kernel
theorem s1m_ok : (S1.mul S1).ok := by decide +kernel
theorem sm_okl {l : List Trm} (h : sm l = true) : Okl l := (sm_bd h).okl s1_ok
theorem sm_rs {l : List Trm} (h : sm l = true) : ∀ t ∈ l, Rs t.2 := (sm_bd h).rs s1_ok
theorem sm_rk {l : List Trm} (h : sm l = true) : ∀ t ∈ l, Rk t.2 := fun t ht => (sm_rs h t ht).rk
theorem sm_in {l : List Trm} (h : sm l = true) : ∀ t ∈ l, InR t.1 ∧ Rk t.2 := fun t ht => ⟨(sm_bd h).inR s1_ok t ht, sm_rk h t ht⟩
theorem sm_len {l : List Trm} (h : sm l = true) : l.length ≤ 1000000 := (sm_bd h).len s1_ok
theorem sm_prods {p q : List Trm} (h : sm p = true) (h' : sm q = true) : Okl (prods p q) := ((sm_bd h).prods (sm_bd h')).okl s1m_ok
theorem sm_mul {p q : List Trm} (h : (sm p && sm q) = true) : MulOk p q := by
 simp only [Bool.and_eq_true] at h
 exact ⟨sm_in h.1, sm_in h.2, sm_prods h.1 h.2, sm_len h.1, sm_len h.2⟩
theorem sm_sub {p q : List Trm} (h : (sm p && sm q && vldB p && vldB q) = true) : SubOk p q := by
 simp only [Bool.and_eq_true] at h
 exact ⟨sm_rk h.1.1.1, sm_rk h.1.1.2, ⟨sm_len h.1.1.1, sm_len h.1.1.2⟩, vldB_vld.1 h.1.2, vldB_vld.1 h.2⟩
def psB (D R : List (List Trm)) : Bool := (List.range (R.length - 1)).all fun i =>
 (sm (R.getD i []) && sm (D.getD (D.length - 1) [])) &&
 (!decide (R.length - 1 - (D.length - 1) ≤ i) ||
  ((sm (R.getD (R.length - 1) []) && sm (D.getD (i - (R.length - 1 - (D.length - 1))) [])) &&
  (sm (mulP (R.getD i []) (D.getD (D.length - 1) [])) && sm (mulP (R.getD (R.length - 1) []) (D.getD (i - (R.length - 1 - (D.length - 1))) [])) && vldB (mulP (R.getD i []) (D.getD (D.length - 1) [])) && vldB (mulP (R.getD (R.length - 1) []) (D.getD (i - (R.length - 1 - (D.length - 1))) [])))))
theorem psB_ok {D R : List (List Trm)} (h : psB D R = true) : PsOk D R := by
 intro i hi
 have h' := List.all_eq_true.1 h i (List.mem_range.2 hi)
 rw [Bool.and_eq_true] at h'
 refine ⟨sm_mul h'.1, fun hle => ?_⟩
 have h2 := h'.2
 rw [decide_eq_true hle, Bool.not_true, Bool.false_or, Bool.and_eq_true] at h2
 exact ⟨sm_mul h2.1, sm_sub h2.2⟩
def psAB (D : List (List Trm)) : Nat → List (List Trm) → Bool
 | 0, _ => true
 | f + 1, R => !decide (D.length - 1 < R.length) || (psB D R && psAB D f (psStep D R))
theorem psAB_ok {D : List (List Trm)} : ∀ {f : Nat} {R : List (List Trm)}, psAB D f R = true → PsAll D f R
 | 0, _, _ => trivial
 | f + 1, R, h => fun hlt => by
  rw [psAB, decide_eq_true hlt, Bool.not_true, Bool.false_or, Bool.and_eq_true] at h
  exact ⟨psB_ok h.1, psAB_ok h.2⟩
theorem sv_psa : PsAll [[tm 1 0 1], [tm 2 0 0]] 3 [[], [], [tm 1 0 0]] := psAB_ok (by decide +kernel)
def szH (k : Nat) : Sz := ⟨1, 2 ^ (k + 1) - 1, k + 1, 2 ^ (k + 1) - 1⟩
theorem hornH : HornOk ⟨1, 2, 1, 2⟩ ⟨1, 1, 1, 1⟩ szH 3 where
 b := by decide +kernel
 c := by decide +kernel
 z := fun k hk => by
  have h : ∀ k, k < 4 → (szH k).ok := by decide +kernel
  exact h k (by omega)
 m := by decide +kernel
 s := by decide +kernel
theorem divOk_of {b : List Trm} {g m : Trm} {a : List Trm} (h : (sm [g] && sm [m] && sm [(m.1.sub g.1, 1)] && !decide (g.2 = 0) && decide (((m.2.den : Int) * g.2.num).natAbs < 4294967296)) = true) : DivOk b g m a := by
 simp only [Bool.and_eq_true, Bool.not_eq_true', decide_eq_true_eq, decide_eq_false_iff_not] at h
 obtain ⟨⟨⟨⟨h1, h2⟩, h3⟩, h4⟩, h5⟩ := h
 exact ⟨(sm_in h3 _ (List.mem_singleton.2 rfl)).1, sm_rk h2 _ (List.mem_singleton.2 rfl), sm_rk h1 _ (List.mem_singleton.2 rfl), h4, h5⟩
theorem divOk2_of {b : List Trm} {g m : Trm} {a : List Trm} (h : (sm b && sm [quoT m g] && sm (m :: a) && vldB (m :: a) && sm (mulP b [quoT m g])) = true) : DivOk2 b g m a := by
 simp only [Bool.and_eq_true] at h
 obtain ⟨⟨⟨⟨h1, h2⟩, h3⟩, h4⟩, h5⟩ := h
 exact ⟨sm_rk h2 _ (List.mem_singleton.2 rfl), ⟨sm_in h1, sm_len h1⟩, sm_prods h1 h2, ⟨sm_rk h3, sm_len h3, vldB_vld.1 h4⟩, sm_rk h5, sm_len h5⟩
theorem sv_div1 : DivR [tm 1 0 1, tm 1 1 0] (tm 1 0 1) 2 [tm (-1) 0 2, tm 1 2 0] [] (some [tm (-1) 0 1, tm 1 1 0]) := by
 refine .step (by decide +kernel) (divOk_of (by decide +kernel)) (divOk2_of (by decide +kernel)) (by decide) ?_
 have e1 : subP (tm (-1) 0 2 :: [tm 1 2 0]) (mulP [tm 1 0 1, tm 1 1 0] [quoT (tm (-1) 0 2) (tm 1 0 1)]) = [tm 1 1 1, tm 1 2 0] := by decide +kernel
 have e2 : ([] : List Trm) ++ [quoT (tm (-1) 0 2) (tm 1 0 1)] = [tm (-1) 0 1] := by decide +kernel
 rw [e1, e2]
 refine .step (by decide +kernel) (divOk_of (by decide +kernel)) (divOk2_of (by decide +kernel)) (by decide) ?_
 have e3 : subP (tm 1 1 1 :: [tm 1 2 0]) (mulP [tm 1 0 1, tm 1 1 0] [quoT (tm 1 1 1) (tm 1 0 1)]) = [] := by decide +kernel
 have e4 : [tm (-1) 0 1] ++ [quoT (tm 1 1 1) (tm 1 0 1)] = [tm (-1) 0 1, tm 1 1 0] := by decide +kernel
 rw [e3, e4]
 exact .done
theorem sv_div2 : DivR [tm 1 0 1] (tm 1 0 1) 0 [tm 1 1 0] [] none := .fail (by decide +kernel) (divOk_of (by decide +kernel))
end Q
end
section
namespace Q
open Go Go.RowKit Go.Proofs.YtplfdeohokkebaaGreat
def FactL.polyT {g : Option Nat} {T : TypeId} (hT : uT ≠ T) (hT' : monoT ≠ T) (l : List Trm) (x : Value) : FactL (Lr g T) := FactL.of (fun v w => ∃ u, v = .tuple #[u, x] ∧ IsPoly w u l) (fun _ _ _ hb => fun ⟨u, e, h⟩ => ⟨u, e, h.lr hb hT hT'⟩)
def FactL.polys {g : Option Nat} {T : TypeId} (hT : uT ≠ T) (hT' : monoT ≠ T) (h3 : Go.Proofs.YtplfdeohokkebaaGreat.polyT ≠ T) (L : List (List Trm)) : FactL (Lr g T) := FactL.of (fun v w => IsPolys w v L) (fun _ _ _ hb h => IsSl.lr h hb ⟨hT, hT'⟩ h3)
end Q
namespace Go.Proofs.YtplfdeohokkebaaGreat
open Go.RowKit Q
variable {w : World} {v u : Value} {l p q r : List Trm}
theorem makeS (h : canon l = r) (hs : sm l = true) (hp : IsPoly w v l) : Calls Tryz.prog 14 #[v] w (RetPoly w r) := h ▸ make_any v l w hp (sm_okl hs)
theorem make7S (h : canon l = r) (hs : sm l = true) (hp : IsPoly w v l) : Calls Tryz.prog 18 #[v] w (RetPoly w r) := h ▸ make7_any v l S1 w hp (sm_bd hs) s1_ok
theorem mulS (h : mulP p q = r) (hs : sm p = true) (hs' : sm q = true) (hp : IsPoly w v p) (hq : IsPoly w u q) : Calls Tryz.prog 23 #[v, u] w (RetPoly w r) :=
 h ▸ mul_pp v u p q w hp hq (sm_in hs) (sm_in hs') (sm_prods hs hs') (sm_len hs) (sm_len hs')
theorem addS (h : mergeP p q = r) (hs : sm p = true) (hs' : sm q = true) (hp : IsPoly w v p) (hq : IsPoly w u q) : Calls Tryz.prog 25 #[v, u] w (RetPoly w r) :=
 h ▸ add_pp v u p q w hp hq (sm_rk hs) (sm_rk hs') (sm_len hs) (sm_len hs')
theorem coeffsS {n : Nat} {L : List (List Trm)} (h : coeffsP p n = L) (hn : n < 4) (hs : sm p = true) (hv : vldB p = true) (hd : degP p n ≤ 1000000) (hp : IsPoly w v p) : Calls Tryz.prog 33 #[v, .int .i64 n] w (RetPolys w L) :=
 h ▸ coeffs_any v p n w hp hn (vldB_vld.1 hv).nat hd (sm_len hs)
theorem same7S {b : Bool} (h : decide (p = q) = b) (hs : sm p = true) (hs' : sm q = true) (hp : IsPoly w v p) (hq : IsPoly w u q) : Calls Tryz.prog 17 #[v, u] w (Ret w (.bool b)) :=
 h ▸ same7_any v u p q w hp hq (sm_rk hs) (sm_rk hs') (sm_len hs)
theorem validS {b : Bool} (h : vldB p = b) (hs : sm p = true) (hp : IsPoly w v p) : Calls Tryz.prog 16 #[v] w (Ret w (.bool b)) := h ▸ validm_any v p w hp (sm_rk hs) (sm_len hs)
theorem degS {n : Nat} {d : Int} (h : degP p n = d) (hn : n < 4) (hs : sm p = true) (hp : IsPoly w v p) : Calls Tryz.prog 24 #[v, .int .i64 n] w (Ret w (.int .i64 d)) := h ▸ deg_any v p n w hp hn (sm_len hs)
theorem whole7S {n : Int} (h : constP n = r) (h1 : -4611686018427387904 ≤ n) (h2 : n ≤ 4611686018427387904) (hs : sm [(e0, (n : Rat))] = true) : Calls Tryz.prog 42 #[.int .i64 n] w (RetPoly w r) := h ▸ whole7_any n S1 w h1 h2 (sm_bd hs) s1_ok
theorem constS {c : Rat} (h : constP c = r) (hp : IsRat w v c) : Calls Tryz.prog 27 #[v] w (RetPoly w r) := h ▸ const_any v c w hp
theorem varS {n : Nat} (h : varP n = r) (hn : n < 4) : Calls Tryz.prog 31 #[.int .i64 n] w (RetPoly w r) := h ▸ var_any n w hn
theorem sameListS {L M : List (List Trm)} {b : Bool} (h : decide (L = M) = b) (hs : L.all sm = true) (hs' : M.all sm = true) (hl : L.length ≤ 1000000) (hp : IsPolys w v L) (hq : IsPolys w u M) : Calls Tryz.prog 38 #[v, u] w (Ret w (.bool b)) :=
 h ▸ sameList_any v u L M w hp hq (fun p hp => ⟨sm_rk (List.all_eq_true.1 hs p hp), sm_len (List.all_eq_true.1 hs p hp)⟩) (fun p hp => sm_rk (List.all_eq_true.1 hs' p hp)) hl
theorem pseudoS (hp : IsPoly w v [tm 1 2 0]) (hq : IsPoly w u [tm 1 0 1, tm 2 1 0]) : Calls Tryz.prog 43 #[v, u, .int .i64 0] w (RetPolyE w [tm 1 0 2] 0) := by
 have h := pseudo_any v u [tm 1 2 0] [tm 1 0 1, tm 2 1 0] 0 w hp hq (by decide) (by simp) (vldB_vld.1 (by decide +kernel)).nat (vldB_vld.1 (by decide +kernel)).nat (by decide +kernel) (by decide +kernel) (by decide) (by decide)
 rw [sv_dc, sv_rc, show ([[], [], [tm 1 0 0]] : List (List Trm)).length = 3 from rfl, sv_ps, sv_r] at h
 exact h sv_psa (sm_okl (by decide +kernel)) (fun c hc => by rw [List.mem_singleton.1 hc]; decide)
theorem substS (hp : IsPoly w v [tm 1 2 1]) (hq : IsPoly w u [tm 1 1 0, tm 1 0 0]) : Calls Tryz.prog 50 #[v, .int .i64 0, u] w (RetPoly w [tm 1 2 1, tm 2 1 1, tm 1 0 1]) := by
 have h := subst_any v u [tm 1 2 1] [tm 1 1 0, tm 1 0 0] 0 ⟨1, 2, 1, 2⟩ ⟨1, 1, 1, 1⟩ szH w hp hq (by decide) (vldB_vld.1 (by decide +kernel)) (vldB_vld.1 (by decide +kernel)) (by decide +kernel) (by decide)
 rw [sv_s, show coeffsP [tm 1 2 1] 0 = [[], [], [tm 1 0 1]] from by decide +kernel] at h
 exact h hornH (smB_bd (by decide +kernel)) (fun c hc => by
  have : ∀ c ∈ ([[], [], [tm 1 0 1]] : List (List Trm)), smB 1 1 1 c = true := by decide +kernel
  exact smB_bd (this c hc))
theorem pow0S (hp : IsPoly w v []) : Calls Tryz.prog 29 #[v, .int .i64 0] w (RetPoly w [tm 1 0 0]) := by
 have h := pow_any v [] 0 w hp (vldB_vld.1 (by decide +kernel)) (by omega) (fun j hj => by
  have : j = 0 := by omega
  subst this
  exact ⟨sm_in (by decide +kernel), sm_len (by decide +kernel)⟩) ⟨sm_in (by decide +kernel), sm_len (by decide +kernel)⟩ (fun i j h => by
  have h1 : i = 0 := by omega
  have h2 : j = 0 := by omega
  subst h1 h2
  exact sm_okl (by decide +kernel))
 rwa [show powP [] 0 = [tm 1 0 0] from by decide +kernel] at h
theorem stepG_newL2 {g : Option Nat} {T : TypeId} {P : Program} {o : Oper} {A : Act} {i : Nat} {pu fr : Nat → Bool} {φ : Nat → Value → World → Prop} {Q : Exit → Act → World → Prop} (hp : pu i = false) (hf : fr i = false) (h1 : IsPoly w v p) (h2 : IsPoly w u q)
  (hrun : (execOp A.eval o).run P w = .ok (.value (.slice (some ⟨w.heap.size, 0, none⟩) 2 2)) (w.alloc (.cells #[v, u] 38)))
  (hφ : ∀ v w', IsPolys w' v [p, q] → φ i v w') : o.wp P A w (AfterG (Lr g T) pu fr φ o i A w) Q := by
 have hbe : Below w.heap.size w (w.alloc (.cells #[v, u] 38)) := (Below.refl _ _).alloc (Nat.le_refl _) _
 exact stepG_value hp hf hbe (hφ _ _ ⟨_, _, [v, u], rfl, Nat.le_refl _, (Blk.new w polyT [v, u]).at, ⟨[v], [u], rfl, ⟨v, rfl, h1.on hbe⟩, ⟨[u], [], rfl, ⟨u, rfl, h2.on hbe⟩, rfl⟩⟩⟩) hrun
end Go.Proofs.YtplfdeohokkebaaGreat
end
section
namespace Q
open Go Go.Proofs.YtplfdeohokkebaaGreat
def rawT (t : Int × Int × Int × Int × Int) : Trm := ((t.1 % 3, t.2.1 % 4 - 1, t.2.2.1 % 2, t.2.2.2.1 % 2), ((t.2.2.2.2.tmod 4 : Int) : Rat))
abbrev Drw := Int × Int × Int × Int × Int
def RawOk (t : Drw) : Prop := (0 ≤ t.1 ∧ t.1 < 256) ∧ (0 ≤ t.2.1 ∧ t.2.1 < 256) ∧ (0 ≤ t.2.2.1 ∧ t.2.2.1 < 256) ∧ (0 ≤ t.2.2.2.1 ∧ t.2.2.2.1 < 256) ∧ -128 ≤ t.2.2.2.2 ∧ t.2.2.2.2 < 128
theorem rabs_tmod4 (c : Int) : rabs ((c.tmod 4 : Int) : Rat) ≤ ((3 : Nat) : Rat) := by
 rw [rabs_int]
 have : (c.tmod 4).natAbs < 4 := by rw [Int.natAbs_tmod]; exact Nat.mod_lt _ (by decide)
 exact Rat.natCast_le_natCast.2 (by omega)
theorem asum_raw : ∀ (L : List (Int × Int × Int × Int × Int)), asum (L.map rawT) ≤ ((3 * L.length : Nat) : Rat)
 | [] => by simp only [List.map_nil, asum, List.length_nil, Nat.mul_zero]; exact Rat.natCast_nonneg
 | t :: L => by
  have h1 := asum_raw L
  have h2 : rabs (rawT t).2 ≤ ((3 : Nat) : Rat) := rabs_tmod4 _
  have h3 : ((3 * (t :: L).length : Nat) : Rat) = ((3 : Nat) : Rat) + ((3 * L.length : Nat) : Rat) := by
   rw [← Rat.natCast_add]; congr 1; simp only [List.length_cons]; omega
  rw [h3]
  simp only [List.map_cons, asum]; grind
theorem raw_bd {L : List Drw} (hl : L.length ≤ 12) : Bd ⟨1, 36, 2, 12⟩ (L.map rawT) := by
 refine ⟨by simpa using hl, fun t ht => ?_, fun t ht => ?_, Rat.le_trans (asum_raw L) (Rat.natCast_le_natCast.2 (by show 3 * L.length ≤ 36; omega))⟩
 ·obtain ⟨s, hs, rfl⟩ := List.mem_map.1 ht
  simp only [rawT]
  omega
 ·obtain ⟨s, hs, rfl⟩ := List.mem_map.1 ht
  refine ⟨s.2.2.2.2.tmod 4, ?_⟩
  show ((s.2.2.2.2.tmod 4 : Int) : Rat) * ((1 : Nat) : Rat) = _
  rw [show ((1 : Nat) : Rat) = 1 from rfl, Rat.mul_one]
theorem raw_ok : (⟨1, 36, 2, 12⟩ : Sz).ok := by decide +kernel
end Q
namespace Go.Proofs.YtplfdeohokkebaaGreat
open Go.RowKit Q
def drawC (t : Int × Int × Int × Int × Int) : List Value := [.int .u8 t.1, .int .u8 t.2.1, .int .u8 t.2.2.1, .int .u8 t.2.2.2.1, .int .i8 t.2.2.2.2]
def elDraw (T : TypeId) : El Drw where
 T := T
 sz := 5
 pos := by decide
 E _ cs t := cs = drawC t ∧ RawOk t
 len := by rintro w c t ⟨rfl, h⟩; rfl
 one := by
  rintro w c t ⟨rfl, h⟩ v hv
  simp only [drawC, List.mem_cons, List.not_mem_nil, or_false] at hv
  rcases hv with rfl | rfl | rfl | rfl | rfl <;> rfl
 on := fun h _ => h
 ok _ := True
 lr := fun h _ _ => h
 self := trivial
def IsDraw (w : World) (v : Value) (l : List Drw) : Prop := ∃ T, IsSl (elDraw T) w v l
theorem IsDraw.on {w w' : World} {v : Value} {l : List Drw} (h : IsDraw w v l) (hb : Below w.heap.size w w') : IsDraw w' v l := let ⟨T, h⟩ := h; ⟨T, h.on hb⟩
theorem IsDraw.shape {w : World} {v : Value} {l : List Drw} (h : IsDraw w v l) : ∃ ao cap, v = .slice ao l.length cap ∧ l.length ≤ cap := let ⟨_, h⟩ := h; h.shape
theorem IsDraw.get {w : World} {ao : Option Addr} {n c j : Nat} {t : Drw} {l : List Drw} (h : IsDraw w (.slice ao n c) l) (hj : l[j]? = some t) : ∃ T b off, ao = some ⟨b, off, none⟩ ∧ RawOk t ∧ Cells T w b (off + j * 5) (drawC t) := by
 obtain ⟨T, h⟩ := h
 obtain ⟨b, off, cs, e, -, ⟨rfl, hok⟩, hC⟩ := h.get hj
 exact ⟨T, b, off, e, hok, hC⟩
end Go.Proofs.YtplfdeohokkebaaGreat
end
section
namespace Q
open Go Go.Proofs.YtplfdeohokkebaaGreat
def Drw.get (t : Drw) (v : Nat) : Int := match v with | 0 => t.1 | 1 => t.2.1 | 2 => t.2.2.1 | _ => t.2.2.2.1
def madeTo (t : Drw) (k : Nat) : Ex := (if 0 < k then t.1 % 3 else 0, if 1 < k then t.2.1 % 3 else 0, if 2 < k then t.2.2.1 % 3 else 0, if 3 < k then t.2.2.2.1 % 3 else 0)
def madeT (vs : Nat) (t : Drw) : Trm := (madeTo t vs, ((t.2.2.2.2.tmod 10 : Int) : Rat))
def madeL (L : List Drw) (n vs : Nat) : List Trm := (L.take n).map (madeT vs)
def madeP (L : List Drw) (n vs : Nat) : List Trm := canon (madeL L n vs)
theorem madeTo_zero (t : Drw) : madeTo t 0 = e0 := rfl
theorem madeTo_succ (t : Drw) {k : Nat} (hk : k < 4) : madeTo t (k + 1) = (madeTo t k).put k (t.get k % 3) := by
 obtain rfl | rfl | rfl | rfl : k = 0 ∨ k = 1 ∨ k = 2 ∨ k = 3 := by omega
 all_goals rfl
theorem madeTo_get (t : Drw) {k : Nat} (hk : k < 4) : (madeTo t k).get k = 0 := by
 obtain rfl | rfl | rfl | rfl : k = 0 ∨ k = 1 ∨ k = 2 ∨ k = 3 := by omega
 all_goals rfl
theorem madeTo_in (t : Drw) (k : Nat) : (madeTo t k).nat = true ∧ ∀ v, (madeTo t k).get v ≤ 2 := by
 refine ⟨Ex.nat_iff.2 ?_, fun v => ?_⟩
 ·simp only [madeTo]; refine ⟨?_, ?_, ?_, ?_⟩ <;> split <;> omega
 ·rcases v with _ | _ | _ | v <;> simp only [madeTo, Ex.get] <;> split <;> omega
theorem rabs_tmod10 (c : Int) : rabs ((c.tmod 10 : Int) : Rat) ≤ ((9 : Nat) : Rat) := by
 rw [rabs_int]
 have : (c.tmod 10).natAbs < 10 := by rw [Int.natAbs_tmod]; exact Nat.mod_lt _ (by decide)
 exact Rat.natCast_le_natCast.2 (by omega)
theorem asum_made (vs : Nat) : ∀ (L : List Drw), asum (L.map (madeT vs)) ≤ ((9 * L.length : Nat) : Rat)
 | [] => by simp only [List.map_nil, asum, List.length_nil, Nat.mul_zero]; exact Rat.natCast_nonneg
 | t :: L => by
  have h1 := asum_made vs L
  have h2 : rabs (madeT vs t).2 ≤ ((9 : Nat) : Rat) := rabs_tmod10 _
  have h3 : ((9 * (t :: L).length : Nat) : Rat) = ((9 : Nat) : Rat) + ((9 * L.length : Nat) : Rat) := by
   rw [← Rat.natCast_add]; congr 1; simp only [List.length_cons]; omega
  rw [h3]
  simp only [List.map_cons, asum]; grind
theorem made_bd (L : List Drw) (n vs : Nat) : Bd ⟨1, 9 * n, 2, n⟩ (madeL L n vs) := by
 have hl : (L.take n).length ≤ n := by rw [List.length_take]; exact Nat.min_le_left _ _
 refine ⟨by simpa [madeL] using hl, fun t ht => ?_, fun t ht => ?_, Rat.le_trans (asum_made vs _) (Rat.natCast_le_natCast.2 (by show 9 * (L.take n).length ≤ 9 * n; omega))⟩
 ·obtain ⟨s, hs, rfl⟩ := List.mem_map.1 ht
  obtain ⟨h1, h2⟩ := madeTo_in s vs
  obtain ⟨n1, n2, n3, n4⟩ := Ex.nat_iff.1 h1
  have b0 := h2 0; have b1 := h2 1; have b2 := h2 2; have b3 := h2 3
  simp only [Ex.get] at b0 b1 b2 b3
  simp only [madeT]
  omega
 ·obtain ⟨s, hs, rfl⟩ := List.mem_map.1 ht
  refine ⟨s.2.2.2.2.tmod 10, ?_⟩
  show ((s.2.2.2.2.tmod 10 : Int) : Rat) * ((1 : Nat) : Rat) = _
  rw [show ((1 : Nat) : Rat) = 1 from rfl, Rat.mul_one]
theorem made_ok {n : Nat} (h : n ≤ 5) : (⟨1, 9 * n, 2, n⟩ : Sz).ok := by
 obtain rfl | rfl | rfl | rfl | rfl | rfl : n = 0 ∨ n = 1 ∨ n = 2 ∨ n = 3 ∨ n = 4 ∨ n = 5 := by omega
 all_goals decide +kernel
theorem madeP_bd (L : List Drw) (n vs : Nat) : Bd ⟨1, 9 * n, 2, n⟩ (madeP L n vs) := (made_bd L n vs).canon
theorem madeP_val (L : List Drw) (n vs : Nat) : Vld (madeP L n vs) := canon_val _
end Q
namespace Go.Proofs.YtplfdeohokkebaaGreat
open Go.RowKit Q
theorem drawC_at (t : Drw) {v : Nat} (hv : v < 4) : (drawC t)[v]? = some (.int .u8 (t.get v)) := by
 obtain rfl | rfl | rfl | rfl : v = 0 ∨ v = 1 ∨ v = 2 ∨ v = 3 := by omega
 all_goals rfl
end Go.Proofs.YtplfdeohokkebaaGreat
namespace Q
open Go Go.RowKit Q Go.Proofs.YtplfdeohokkebaaGreat
theorem RawOk.get {t : Drw} (h : RawOk t) (v : Nat) : 0 ≤ t.get v ∧ t.get v < 256 := by
 obtain ⟨h1, h2, h3, h4, h5, h6⟩ := h
 rcases v with _ | _ | _ | v <;> assumption
end Q
namespace Go.Proofs.YtplfdeohokkebaaGreat
open Go.RowKit Q
end Go.Proofs.YtplfdeohokkebaaGreat
end
