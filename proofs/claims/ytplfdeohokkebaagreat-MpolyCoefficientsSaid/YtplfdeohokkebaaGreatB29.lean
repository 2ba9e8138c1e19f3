/- mpoly.Pseudo. The reference's lists of polynomials: SameList. Small laws of lists and cells. The reference's polynomials: times. -/
import Derived.Test.YtplfdeohokkebaaGreatB26
import Derived.Test.YtplfdeohokkebaaGreatB28
set_option linter.unusedVariables false
set_option linter.unusedSimpArgs false
section
namespace Q
/-- one round of a pseudo-division: the rest without its last element, times the leading coefficient, less the multiple of the divisor -/
def psStep (D R : List (List Trm)) : List (List Trm) :=
  let n := D.length - 1
  let top := R.getD (R.length - 1) []
  (List.range (R.length - 1)).map fun i => if R.length - 1 - n ≤ i then subP (mulP (R.getD i []) (D.getD n [])) (mulP top (D.getD (i - (R.length - 1 - n)) [])) else mulP (R.getD i []) (D.getD n [])
def psRun (D : List (List Trm)) : Nat → List (List Trm) → List (List Trm)
  | 0, R => R
  | f + 1, R => if D.length - 1 < R.length then psRun D f (psStep D R) else R
theorem psStep_len (D R : List (List Trm)) : (psStep D R).length = R.length - 1 := by simp [psStep]
/-- the rest behind i rounds of the inner loop -/
def psTo (D R : List (List Trm)) (i : Nat) : List (List Trm) := (psStep D R).take i ++ (R.take (R.length - 1)).drop i
theorem psTo_len {D R : List (List Trm)} {i : Nat} (h : i ≤ R.length - 1) : (psTo D R i).length = R.length - 1 := by simp [psTo, psStep_len]; omega
theorem psTo_zero (D R : List (List Trm)) : psTo D R 0 = R.take (R.length - 1) := by simp [psTo]
theorem psTo_full (D R : List (List Trm)) : psTo D R (R.length - 1) = psStep D R := by
  rw [psTo, List.drop_of_length_le (by simp), List.append_nil, List.take_of_length_le (by rw [psStep_len]; exact Nat.le_refl _)]
theorem psTo_get {D R : List (List Trm)} {i : Nat} (h : i < R.length - 1) : (psTo D R i)[i]? = some (R.getD i []) := by
  have hl : ((psStep D R).take i).length = i := by rw [List.length_take, psStep_len]; omega
  rw [psTo, List.getElem?_append_right (by omega), List.getElem?_drop]
  rw [hl, Nat.sub_self, Nat.add_zero, List.getElem?_take, if_pos h, List.getD_eq_getElem?_getD, List.getElem?_eq_getElem (by omega)]
  rfl
theorem psTo_succ {D R : List (List Trm)} {i : Nat} (h : i < R.length - 1) :
    psTo D R (i + 1) = (psTo D R i).set i (if R.length - 1 - (D.length - 1) ≤ i then subP (mulP (R.getD i []) (D.getD (D.length - 1) [])) (mulP (R.getD (R.length - 1) []) (D.getD (i - (R.length - 1 - (D.length - 1))) [])) else mulP (R.getD i []) (D.getD (D.length - 1) [])) := by
  have hl : ((psStep D R).take i).length = i := by rw [List.length_take, psStep_len]; omega
  rw [psTo, psTo, List.set_append_right _ _ (by omega), hl, Nat.sub_self, List.drop_eq_getElem_cons (show i < (R.take (R.length - 1)).length by simp; omega), List.set_cons_zero, List.take_add_one, List.append_assoc]
  congr 1
  have : (psStep D R)[i]? = some (if R.length - 1 - (D.length - 1) ≤ i then subP (mulP (R.getD i []) (D.getD (D.length - 1) [])) (mulP (R.getD (R.length - 1) []) (D.getD (i - (R.length - 1 - (D.length - 1))) [])) else mulP (R.getD i []) (D.getD (D.length - 1) [])) := by
    simp [psStep, h]
  rw [this]; rfl
end Q
namespace Q
open Go Go.RowKit Go.Proofs.YtplfdeohokkebaaGreat
structure MulOk (p q : List Trm) : Prop where
  kp : ∀ t ∈ p, InR t.1 ∧ Rk t.2
  kq : ∀ t ∈ q, InR t.1 ∧ Rk t.2
  ko : Okl (prods p q)
  kl : p.length ≤ 1000000 ∧ q.length ≤ 1000000
structure SubOk (p q : List Trm) : Prop where
  kp : ∀ t ∈ p, Rk t.2
  kq : ∀ t ∈ q, Rk t.2
  kl : p.length ≤ 1000000 ∧ q.length ≤ 1000000
  kv : Vld p ∧ Vld q
def PsOk (D R : List (List Trm)) : Prop := ∀ i, i < R.length - 1 → MulOk (R.getD i []) (D.getD (D.length - 1) []) ∧
  (R.length - 1 - (D.length - 1) ≤ i → MulOk (R.getD (R.length - 1) []) (D.getD (i - (R.length - 1 - (D.length - 1))) []) ∧ SubOk (mulP (R.getD i []) (D.getD (D.length - 1) [])) (mulP (R.getD (R.length - 1) []) (D.getD (i - (R.length - 1 - (D.length - 1))) [])))
def PsAll (D : List (List Trm)) : Nat → List (List Trm) → Prop
  | 0, _ => True
  | f + 1, R => D.length - 1 < R.length → PsOk D R ∧ PsAll D f (psStep D R)
/-- the polynomials that lie in the first cells of block g -/
structure Cols (w : World) (g : Nat) (vs : List Value) (R : List (List Trm)) : Prop where
  b : Blk w g polyT vs
  l : R.length ≤ vs.length
  p : ∀ (i : Nat) v p, vs[i]? = some v → R[i]? = some p → IsPoly w v p
theorem Cols.on {w w' : World} {g : Nat} {vs : List Value} {R : List (List Trm)} (h : Cols w g vs R) (hb : Below w.heap.size w w') : Cols w' g vs R :=
  ⟨h.b.on hb, h.l, fun i v p h1 h2 => (h.p i v p h1 h2).on hb⟩
theorem Cols.get {w : World} {g : Nat} {vs : List Value} {R : List (List Trm)} (h : Cols w g vs R) {i : Nat} (hi : i < R.length) : ∃ v, vs[i]? = some v ∧ IsPoly w v (R.getD i []) ∧ w.cell? ⟨g, i, none⟩ = some v := by
  have h1 := h.l
  have hv : vs[i]? = some vs[i] := List.getElem?_eq_getElem (by omega)
  refine ⟨vs[i], hv, h.p i _ _ hv ?_, h.b.at1 i _ hv⟩
  rw [List.getD_eq_getElem?_getD, List.getElem?_eq_getElem hi]; rfl
theorem Cols.set {w : World} {g : Nat} {vs : List Value} {R : List (List Trm)} (h : Cols w g vs R) {i : Nat} (hi : i < R.length) {v : Value} {q : List Trm} (hq : IsPoly w v q) :
    Cols (w.setCell ⟨g, i, none⟩ v) g (vs.set i v) (R.set i q) ∧ Lr (some g) polyT w (w.setCell ⟨g, i, none⟩ v) := by
  have hl := setCell_lr (j := i) h.b v
  refine ⟨⟨h.b.set i v, by simpa using h.l, fun j u p h1 h2 => ?_⟩, hl⟩
  rw [List.getElem?_set] at h1 h2
  by_cases hij : i = j
  · subst hij
    rw [if_pos rfl, if_pos (by have := h.l; omega)] at h1
    rw [if_pos rfl, if_pos hi] at h2
    cases h1; cases h2
    exact hq.lr hl (elTerm_ok (by decide)) (by decide)
  · rw [if_neg hij] at h1 h2
    exact (h.p j u p h1 h2).lr hl (elTerm_ok (by decide)) (by decide)
theorem Cols.take {w : World} {g : Nat} {vs : List Value} {R : List (List Trm)} (h : Cols w g vs R) (k : Nat) : Cols w g vs (R.take k) :=
  ⟨h.b, by have := h.l; rw [List.length_take]; omega, fun i v p h1 h2 => h.p i v p h1 (by rw [List.getElem?_take] at h2; split at h2; exact h2; cases h2)⟩
theorem Cols.other {w w' : World} {g h : Nat} {vs : List Value} {R : List (List Trm)} (hc : Cols w g vs R) (hl : Lr (some h) polyT w w') (hne : g ≠ h) : Cols w' g vs R :=
  ⟨hc.b.lr hl (by simpa using hne), hc.l, fun i v p h1 h2 => (hc.p i v p h1 h2).lr hl (elTerm_ok (by decide)) (by decide)⟩
theorem Cols.polys {w : World} {g : Nat} {vs : List Value} {R : List (List Trm)} (h : Cols w g vs R) : IsPolys w (.slice (some ⟨g, 0, none⟩) R.length vs.length) R := by
  refine ⟨_, _, vs.take R.length, rfl, h.l, fun _ => ⟨g, 0, rfl, h.b.cells.take _⟩, elems_polys (by rw [List.length_take]; have := h.l; omega) fun n v l h1 h2 => ?_⟩
  rw [List.getElem?_take] at h1
  split at h1
  · exact h.p n v l h1 h2
  · cases h1
end Q
namespace Go.Proofs.YtplfdeohokkebaaGreat
open Go Go.RowKit Q Go.Proofs.YtplfdeohokkebaaGreat
theorem Rows1.cols {w : World} {g base : Nat} {vs : List Value} {L : List (List Trm)} (h : Rows1 base w vs L) (hB : Blk w g polyT vs) : Cols w g vs L :=
  ⟨hB, by rw [h.len]; exact Nat.le_refl _, fun i v p h1 h2 => (h.own i v p h1 h2).isSl⟩
end Go.Proofs.YtplfdeohokkebaaGreat
namespace Q
open Go Go.RowKit Go.Proofs.YtplfdeohokkebaaGreat
end Q
namespace Q
open Go Go.RowKit
theorem wpList_slice_hi {P : Program} {w : World} {ops : Array Oper} {rest : List Oper} {o : Oper} {a : Act} {Q : Exit → Act → World → Prop} (hg : o.guard = none) (x hi : Operand) (t : TypeId) (hop : o.op = Op.slice t x none (some hi) none) {el : TypeId} (ht : P.underlying t = some (.slice el)) {size : Nat} (hs : (P.info? el).map (·.size) = some size)
    (ao : Option Addr) (n c : Nat) (hx : a.eval x = .slice ao n c) (k : IntKind) (i : Int) (hix : a.eval hi = .int k i) (j : Nat) (hij : i = (j : Int)) (hj : j ≤ c) (h : wpList P ops Q rest (a.put o.dst (.slice ao j c)) w) : wpList P ops Q (o :: rest) a w := by
  refine wpList_plain hg fun K hK => ?_
  have hrun := run_slice_high ht hs w ao n c j k i hij hj
  unfold Oper.wp
  rw [execOp_slice hop (by simp only [Option.map_some, Option.map_none]; rw [hx, hix]; exact hrun)]
  exact hK _ _ h
end Q
namespace Go.Proofs.YtplfdeohokkebaaGreat
open Go.RowKit Q Go.WideMaps Go.Maps
def RetPolyE (w : World) (l : List Trm) (c : Int) (e : Ending) (w' : World) : Prop := ∃ v, e = .returned (.tuple #[v, .int .i64 c]) ∧ IsPoly w' v l ∧ Below w.heap.size w w'
set_option maxHeartbeats 1000000 in
theorem pseudo_nil (vp vq : Value) (v : Int) (p : List Trm) (w : World) (hq : IsPoly w vq []) : Calls Tryz.prog 43 #[vp, vq, .int .i64 v] w (RetPolyE w [] 3) := by
  obtain ⟨aq, cq, rfl, hcq⟩ := hq.shape
  simp only [List.length_nil]
  go_enter Tryz.func43, Tryz.ntmps43
  go_wp2
  go_ret2
  exact ⟨_, rfl, IsSl.nil _ _, Below.refl _ _⟩
set_option maxHeartbeats 8000000 in
set_option maxRecDepth 100000 in
theorem pseudo_any (vp vq : Value) (p q : List Trm) (v : Nat) (w : World) (hp : IsPoly w vp p) (hq : IsPoly w vq q) (hv : v < 4) (hne : q ≠ []) (np : NatL p) (nq : NatL q) (dp : degP p v ≤ 1000) (dq : degP q v ≤ 1000) (lp : p.length ≤ 1000000) (lq : q.length ≤ 1000000)
    (hps : PsAll (coeffsP q v) (coeffsP p v).length (coeffsP p v)) (hok : Okl (fromL v 0 (psRun (coeffsP q v) (coeffsP p v).length (coeffsP p v)))) (hl2 : ∀ c ∈ psRun (coeffsP q v) (coeffsP p v).length (coeffsP p v), c.length ≤ 1000000) :
    Calls Tryz.prog 43 #[vp, vq, .int .i64 v] w (RetPolyE w (fromP (psRun (coeffsP q v) (coeffsP p v).length (coeffsP p v)) v) 0) := by
  have hD := fun W (hb : Below w.heap.size w W) => coeffs_own vq q v W (hq.on hb) hv nq (by omega) lq
  have hR := fun W (hb : Below w.heap.size w W) => coeffs_own vp p v W (hp.on hb) hv np (by omega) lp
  obtain ⟨aq, cq, rfl, hcq⟩ := hq.shape
  have hql : 0 < q.length := List.length_pos_iff.2 hne
  have hDl : 1 ≤ (coeffsP q v).length ∧ (coeffsP q v).length ≤ 1001 := by
    rw [coeffsP_length]
    obtain ⟨t, ht⟩ := List.exists_mem_of_ne_nil _ hne
    have := degP_le ht v
    have := Ex.nat_get (nq t ht) v
    omega
  have hRl : (coeffsP p v).length ≤ 1001 := by rw [coeffsP_length]; have := degP_ge p v; omega
  have hq0 : ((q.length : Int) == 0) = false := by simp; omega
  generalize coeffsP q v = D at *
  generalize coeffsP p v = R0 at *
  obtain ⟨RES, hRES⟩ : ∃ RES, psRun D R0.length R0 = RES := ⟨_, rfl⟩
  rw [hRES] at hok hl2 ⊢
  have hRESl : RES.length ≤ 1001 := by
    have : ∀ f R, (psRun D f R).length ≤ R.length := by
      intro f
      induction f with
      | zero => intro R; exact Nat.le_refl _
      | succ f ih => intro R; unfold psRun; split; exact Nat.le_trans (ih _) (by rw [psStep_len]; omega); exact Nat.le_refl _
    have := this R0.length R0
    rw [hRES] at this; omega
  replace hok := Lib.hid hok
  replace hl2 := Lib.hid hl2
  obtain ⟨f0, hf0⟩ : ∃ f0, f0 = R0.length := ⟨_, rfl⟩
  rw [← hf0] at hRES hps
  have hfl : R0.length ≤ D.length - 1 + f0 := by omega
  replace hRES := Lib.hid hRES
  replace hps := Lib.hid hps
  have hnD : ((D.length : Int) - 1) = ((D.length - 1 : Nat) : Int) := by omega
  clear hne hp hq np nq dp dq lp lq hf0
  go_enter Tryz.func43, Tryz.ntmps43
  go_upto_region 4 with (go_at_call 33; refine (hD _ (Below.refl _ _)).mono ?_; rintro en w1 ⟨gd, vd, rfl, hBd, hgd, hRd, hb1⟩)
  have hcD := hRd.cols hBd
  have hvdl := hRd.len
  clear hBd hRd hgd
  rw [hvdl]
  go_upto_region 6 with (go_at_call 33; refine (hR _ hb1).mono ?_; rintro en w2 ⟨g, vs, rfl, hB, hg, hRr, hb2⟩)
  have hb12 := hb1.trans (hb2.mono hb1.size)
  have hc0 := hRr.cols hB
  have hcD2 := hcD.on hb2
  have hgD : gd < g := by have := hcD.b.lt; omega
  have hgw : w.heap.size ≤ g := by have := hb1.size; omega
  have hvl := hRr.len
  have hst : Hid (Cols w2 g vs R0 ∧ vs.length = R0.length ∧ psRun D f0 R0 = RES ∧ PsAll D f0 R0 ∧ R0.length ≤ D.length - 1 + f0) := Lib.hid ⟨hc0, hvl, hRES.out, hps.out, hfl⟩
  rw [hvl]
  replace hst := hst.out
  clear hRES hps hB hRr hD hR hcD hc0 hb1 hb2 hg hvl
  go_loopg [10] f0 (fun f v10 wr => ∃ (R : List (List Trm)) (vs : List Value), v10 = .slice (some ⟨g, 0, none⟩) R.length R0.length ∧ Hid (Cols wr g vs R) ∧ vs.length = R0.length ∧ Hid (psRun D f R = RES) ∧ Hid (PsAll D f R) ∧ R.length ≤ D.length - 1 + f ∧ R.length ≤ R0.length ∧ Hid (Cols wr gd vd D) ∧ Below w.heap.size w wr)
  case atStart => exact ⟨R0, vs, rfl, Lib.hid hst.1, hst.2.1, Lib.hid hst.2.2.1, Lib.hid hst.2.2.2.1, hst.2.2.2.2, by omega, Lib.hid hcD2, hb12⟩
  case round =>
    clear hst hcD2 hb12
    obtain ⟨R, vs, rfl, hc, hvl, hrun, hps, hfl, hRc, hcD, hbr⟩ := hrel
    by_cases hlt : D.length - 1 < R.length
    · obtain ⟨f', rfl⟩ : ∃ f', gk = f' + 1 := ⟨gk - 1, by omega⟩
      have hrun' : Hid (psRun D f' (psStep D R) = RES) := Lib.hid (by rw [← hrun.out, psRun, if_pos hlt])
      have hps' := hps.out hlt
      have hpo := Lib.hid hps'.1
      have hpa := Lib.hid hps'.2
      obtain ⟨vt, hvt, hPt, hct⟩ := hc.out.get (i := R.length - 1) (by omega)
      have hlast : ((R.length : Int) - 1) = ((R.length - 1 : Nat) : Int) := by omega
      have hlt' : ((D.length - 1 : Nat) : Int) < (R.length : Int) := by omega
      have hsli := fun W' : World => run_slice_high (P := Tryz.prog) Tryz.underlying57 info38 W' (some ⟨g, 0, none⟩) R.length R0.length (R.length - 1) .i64 ((R.length - 1 : Nat) : Int) rfl (by omega)
      have hct2 := (hc.out.take (R.length - 1))
      rw [← psTo_zero D R] at hct2
      replace hct2 := Lib.hid hct2
      have hpt := Lib.hid hPt
      have hR1 : R.length ≤ 1001 := by omega
      clear hrun hps hps' hvt hPt hc
      go_upto_region 9 with (first
        | (refine wpList_index_at rfl _ _ 57 rfl polyT Tryz.underlying57 _ 1 24 (by kernel_rfl) _ _ _ rfl .i64 _ rfl (R.length - 1) (by omega) (by omega) g 0 rfl ?_; rw [Nat.mul_one, Nat.zero_add])
        | (refine wpList_slice_hi rfl _ _ 57 rfl Tryz.underlying57 info38 _ _ _ rfl .i64 _ rfl (R.length - 1) (by omega) (by omega) ?_))
      clear hct hsli
      go_wp2
      go_loopw [43] (fun i wr => ∃ (k : Nat) (vs : List Value), k ≤ R.length - 1 ∧ i = .int .i64 k ∧ Hid (Cols wr g vs (psTo D R k)) ∧ vs.length = R0.length ∧ Hid (IsPoly wr vt (R.getD (R.length - 1) [])) ∧ Hid (Cols wr gd vd D) ∧ Below w.heap.size w wr) (fun i _ => R.length - 1 - (intOf i).toNat)
      case atStart => exact ⟨0, vs, by omega, by go_num, hct2, hvl, hpt, hcD, hbr⟩
      case round =>
        clear hct2 hpt hcD hbr hvl
        obtain ⟨k, vs, hk, rfl, hc, hvl, hpt, hcD, hbr⟩ := hrel
        by_cases hkl : k < R.length - 1
        · have hkl' : (k : Int) < ((R.length - 1 : Nat) : Int) := by omega
          have hlen : (psTo D R k).length = R.length - 1 := psTo_len (by omega)
          obtain ⟨vk, hvk, -, hck⟩ := hc.out.get (i := k) (by omega)
          have hPk : IsPoly wr vk (R.getD k []) := hc.out.p k _ _ hvk (psTo_get hkl)
          obtain ⟨vn, hvn, hPn, hcn⟩ := hcD.out.get (i := D.length - 1) (by omega)
          obtain ⟨mo, mo2⟩ := hpo.out k hkl
          have hsucc := psTo_succ (D := D) hkl
          replace hsucc := Lib.hid hsucc
          replace mo2 := Lib.hid mo2
          have hgl : g < wr.heap.size := hc.out.b.lt
          have hgdl : gd < wr.heap.size := hcD.out.b.lt
          have f1 : ∀ W, Below wr.heap.size wr W → W.cell? ⟨g, k, none⟩ = some vk := fun W h => by rw [h.cell hgl]; exact hck
          have f2 : ∀ W, Below wr.heap.size wr W → W.cell? ⟨gd, D.length - 1, none⟩ = some vn := fun W h => by rw [h.cell hgdl]; exact hcn
          clear hck hcn
          go_upto_region 12 with (fail)
          refine wp_region_L mixed (none) (0) (Okr.none) [.eq (.slice (some ⟨g, 0, none⟩) (R.length - 1) R0.length), .eq (.int .i64 k), .eq (.slice (some ⟨g, 0, none⟩) (R.length - 1) R0.length), .eq (.int .i64 k), .eq (.pointer (some ⟨g, 0 + k * 1, none⟩)), .eq (vk), .eq (.slice (some ⟨gd, 0, none⟩) D.length D.length), .eq (.int .i64 (D.length - 1 : Nat)), .eq (.pointer (some ⟨gd, 0 + (D.length - 1) * 1, none⟩)), .eq (vn), .poly (by decide) (by decide) ((mulP (R.getD k []) (D.getD (D.length - 1) []))), .eq (.pointer (some ⟨g, 0 + k * 1, none⟩))] [46, 47, 48, 49, 50, 51, 52, 53, 54, 55, 56, 57] rfl rfl rfl rfl ⟨?_, ?_, ?_, ?_, ?_, ?_, ?_, ?_, ?_, ?_, ?_, ?_, trivial⟩ ?_
          · exact fun A w1 hA hL hS he => goOn_plain rfl (stepG_mv rfl rfl (hA 10 rfl))
          · exact fun A w1 hA hL hS he => goOn_plain rfl (stepG_mv rfl rfl (hA 12 rfl))
          · exact fun A w1 hA hL hS he => goOn_plain rfl (stepG_mv rfl rfl (hA 10 rfl))
          · exact fun A w1 hA hL hS he => goOn_plain rfl (stepG_mv rfl rfl (hA 12 rfl))
          · intro A w1 hA hL hS he
            have h48 : A.eval (.tmp 48) = _ := he.1 rfl
            have h49 : A.eval (.tmp 49) = _ := he.2.1 rfl
            refine goOn_plain rfl ?_
            exact stepG_pure rfl rfl (execOp_index rfl (by rw [h48, h49]; exact run_index Tryz.underlying57 (by kernel_rfl) w1 g 0 _ _ k .i64 _ (by first | rfl | simp | omega) (hkl)))
          · intro A w1 hA hL hS he
            have h50 : A.eval (.tmp 50) = _ := he.1 rfl
            refine goOn_plain rfl ?_
            have c0 := f1 w1 hL.below
            refine stepG_pure rfl rfl ?_
            generalize A.eval = ev at *
            go_simp
          · exact fun A w1 hA hL hS he => goOn_plain rfl (stepG_mv rfl rfl (hA 8 rfl))
          · exact fun A w1 hA hL hS he => goOn_plain rfl (stepG_mv rfl rfl (hA 9 rfl))
          · intro A w1 hA hL hS he
            have h52 : A.eval (.tmp 52) = _ := he.1 rfl
            have h53 : A.eval (.tmp 53) = _ := he.2.1 rfl
            refine goOn_plain rfl ?_
            exact stepG_pure rfl rfl (execOp_index rfl (by rw [h52, h53]; exact run_index Tryz.underlying57 (by kernel_rfl) w1 gd 0 _ _ (D.length - 1) .i64 _ (by first | rfl | simp | omega) (by omega)))
          · intro A w1 hA hL hS he
            have h54 : A.eval (.tmp 54) = _ := he.1 rfl
            refine goOn_plain rfl ?_
            have c0 := f2 w1 hL.below
            refine stepG_pure rfl rfl ?_
            generalize A.eval = ev at *
            go_simp
          · intro A w1 hA hL hS he
            have hb := hS rfl
            have h51 : A.eval (.tmp 51) = _ := he.1 rfl
            have h55 : A.eval (.tmp 55) = _ := he.2.1 rfl
            have hf0 : A.eval (.func 23) = .func (.func 23) #[] #[] := rfl
            refine goOn_plain rfl ?_
            refine stepG_call (f := 23) (args := #[vk, vn]) rfl rfl ?_ ?_
            · generalize A.eval = ev at *
              go_simp
            · refine (mul_pp _ _ _ _ _ (hPk.on hb) (hPn.on hb) mo.kp mo.kq mo.ko mo.kl.1 mo.kl.2).mono ?_
              rintro e w' ⟨v, rfl, hi, hb'⟩
              exact ⟨_, rfl, hb', hi⟩
          · intro A w1 hA hL hS he
            have h46 : A.eval (.tmp 46) = _ := he.1 rfl
            have h47 : A.eval (.tmp 47) = _ := he.2.1 rfl
            refine goOn_plain rfl ?_
            exact stepG_pure rfl rfl (execOp_index rfl (by rw [h46, h47]; exact run_index Tryz.underlying57 (by kernel_rfl) w1 g 0 _ _ k .i64 _ (by first | rfl | simp | omega) (hkl)))
          · intro W2 hL2
            have hb2 := hL2.below
            simp only [TailL, FactL.eq, FactL.poly, FactL.of, List.length_cons, List.length_nil, List.drop_succ_cons, List.drop_zero]
            rintro v56 h56
            go_frame
            have hc2 := hc.out.on hb2
            have hcD2 := hcD.out.on hb2
            have hpt2 := hpt.out.on hb2
            have hbr2 := hbr.trans (hb2.mono hbr.size)
            have z := hc2.b.at1 k _ hvk
            have hf := hc2.b.frozen k
            have hkT : k < (psTo D R k).length := by omega
            obtain ⟨hc3, hl3⟩ := hc2.set hkT h56
            have hcD3 : Cols (W2.setCell ⟨g, k, none⟩ v56) gd vd D := hcD2.other hl3 (by omega)
            have hpt3 := hpt2.lr hl3 (elTerm_ok (by decide)) (by decide)
            have hbr3 := hbr2.trans (hl3.belowAt hbr2.size (fun k hk => by cases hk; exact hgw))
            have h563 := h56.lr hl3 (elTerm_ok (by decide)) (by decide)
            obtain ⟨a56, c56, hs56, -⟩ := h56.shape
            subst hs56
            clear f1 f2 hPk hPn hL2 hc hcD hpt hb2 hbr hc2 hcD2 hpt2 hbr2 hvk hvn h56 mo
            generalize mulP (R.getD k []) (D.getD (D.length - 1) []) = A at *
            have hR2 : R.length - 1 ≤ 1000 := by omega
            have hD2 : D.length - 1 ≤ 1000 := by omega
            by_cases hge : R.length - 1 - (D.length - 1) ≤ k
            · obtain ⟨mo2a, so⟩ := mo2.out hge
              have hki : (0 : Int) ≤ (k : Int) - (((R.length - 1 : Nat) : Int) - ((D.length - 1 : Nat) : Int)) := by omega
              obtain ⟨j, hj⟩ : ∃ j, j = k - (R.length - 1 - (D.length - 1)) := ⟨_, rfl⟩
              have hji : (k : Int) - (((R.length - 1 : Nat) : Int) - ((D.length - 1 : Nat) : Int)) = (j : Int) := by omega
              replace hj := Lib.hid hj
              go_upto_region 15 with (fail)
              have hlenT : ((psTo D R k).set k A).length = R.length - 1 := by simpa using hlen
              have hjD : j < D.length := by omega
              rw [← hj.out] at mo2a so
              obtain ⟨vj, hvj, hPj, hcj⟩ := hcD3.get (i := j) hjD
              obtain ⟨W3, hW3⟩ : ∃ W3, W3 = W2.setCell ⟨g, k, none⟩ (.slice a56 A.length c56) := ⟨_, rfl⟩
              rw [← hW3] at hc3 hcD3 hpt3 hbr3 h563 hPj hcj ⊢
              have hkT3 : k < ((psTo D R k).set k A).length := by omega
              have hck3 : W3.cell? ⟨g, k, none⟩ = some (.slice a56 A.length c56) := hc3.b.at1 k _ (by rw [List.getElem?_set, if_pos rfl, if_pos (by have := hc3.l; simp at this; omega)])
              have hgl3 : g < W3.heap.size := hc3.b.lt
              have hgdl3 : gd < W3.heap.size := hcD3.b.lt
              have e1 : ∀ W, Below W3.heap.size W3 W → W.cell? ⟨g, k, none⟩ = some (.slice a56 A.length c56) := fun W h => by rw [h.cell hgl3]; exact hck3
              have e2 : ∀ W, Below W3.heap.size W3 W → W.cell? ⟨gd, j, none⟩ = some vj := fun W h => by rw [h.cell hgdl3]; exact hcj
              generalize hvv : Value.slice a56 A.length c56 = vv at *
              clear hW3 hl3 z hf hck3 hcj hki hvv
              rw [if_pos hge, ← hj.out] at hsucc
              refine wp_region_L mixed (none) (0) (Okr.none) [.eq (.slice (some ⟨g, 0, none⟩) (R.length - 1) R0.length), .eq (.int .i64 k), .eq (.slice (some ⟨g, 0, none⟩) (R.length - 1) R0.length), .eq (.int .i64 k), .eq (.pointer (some ⟨g, 0 + k * 1, none⟩)), .eq (vv), .eq (vt), .eq (.slice (some ⟨gd, 0, none⟩) D.length D.length), .eq (.int .i64 j), .eq (.pointer (some ⟨gd, 0 + j * 1, none⟩)), .eq (vj), .poly (by decide) (by decide) ((mulP (R.getD (R.length - 1) []) (D.getD j []))), .poly (by decide) (by decide) ((subP A (mulP (R.getD (R.length - 1) []) (D.getD j [])))), .eq (.pointer (some ⟨g, 0 + k * 1, none⟩))] [66, 67, 68, 69, 70, 71, 72, 73, 74, 75, 76, 77, 78, 79] rfl rfl rfl rfl ⟨?_, ?_, ?_, ?_, ?_, ?_, ?_, ?_, ?_, ?_, ?_, ?_, ?_, ?_, trivial⟩ ?_
              · exact fun A w1 hA hL hS he => goOn_plain rfl (stepG_mv rfl rfl (hA 10 rfl))
              · exact fun A w1 hA hL hS he => goOn_plain rfl (stepG_mv rfl rfl (hA 12 rfl))
              · exact fun A w1 hA hL hS he => goOn_plain rfl (stepG_mv rfl rfl (hA 10 rfl))
              · exact fun A w1 hA hL hS he => goOn_plain rfl (stepG_mv rfl rfl (hA 12 rfl))
              · intro A w1 hA hL hS he
                have h68 : A.eval (.tmp 68) = _ := he.1 rfl
                have h69 : A.eval (.tmp 69) = _ := he.2.1 rfl
                refine goOn_plain rfl ?_
                exact stepG_pure rfl rfl (execOp_index rfl (by rw [h68, h69]; exact run_index Tryz.underlying57 (by kernel_rfl) w1 g 0 _ _ k .i64 _ (by first | rfl | simp | omega) (hkl)))
              · intro A w1 hA hL hS he
                have h70 : A.eval (.tmp 70) = _ := he.1 rfl
                refine goOn_plain rfl ?_
                have c0 := e1 w1 hL.below
                refine stepG_pure rfl rfl ?_
                generalize A.eval = ev at *
                go_simp
              · exact fun A w1 hA hL hS he => goOn_plain rfl (stepG_mv rfl rfl (hA 11 rfl))
              · exact fun A w1 hA hL hS he => goOn_plain rfl (stepG_mv rfl rfl (hA 8 rfl))
              · exact fun A w1 hA hL hS he => goOn_plain rfl (stepG_mv rfl rfl (hA 13 rfl))
              · intro A w1 hA hL hS he
                have h73 : A.eval (.tmp 73) = _ := he.1 rfl
                have h74 : A.eval (.tmp 74) = _ := he.2.1 rfl
                refine goOn_plain rfl ?_
                exact stepG_pure rfl rfl (execOp_index rfl (by rw [h73, h74]; exact run_index Tryz.underlying57 (by kernel_rfl) w1 gd 0 _ _ j .i64 _ (by first | rfl | simp | omega) (hjD)))
              · intro A w1 hA hL hS he
                have h75 : A.eval (.tmp 75) = _ := he.1 rfl
                refine goOn_plain rfl ?_
                have c0 := e2 w1 hL.below
                refine stepG_pure rfl rfl ?_
                generalize A.eval = ev at *
                go_simp
              · intro A w1 hA hL hS he
                have hb := hS rfl
                have h72 : A.eval (.tmp 72) = _ := he.1 rfl
                have h76 : A.eval (.tmp 76) = _ := he.2.1 rfl
                have hf0 : A.eval (.func 23) = .func (.func 23) #[] #[] := rfl
                refine goOn_plain rfl ?_
                refine stepG_call (f := 23) (args := #[vt, vj]) rfl rfl ?_ ?_
                · generalize A.eval = ev at *
                  go_simp
                · refine (mul_pp _ _ _ _ _ (hpt3.on hb) (hPj.on hb) mo2a.kp mo2a.kq mo2a.ko mo2a.kl.1 mo2a.kl.2).mono ?_
                  rintro e w' ⟨v, rfl, hi, hb'⟩
                  exact ⟨_, rfl, hb', hi⟩
              · intro A w1 hA hL hS he
                have hb := hS rfl
                have h71 : A.eval (.tmp 71) = _ := he.1 rfl
                have f77 : ((.poly (by decide) (by decide) ((mulP (R.getD (R.length - 1) []) (D.getD j []))) : FactL (Lr (none) (0)))).p (A.eval (.tmp 77)) w1 := he.2.1 rfl
                obtain ⟨v77, h77⟩ : ∃ v, A.eval (.tmp 77) = v := ⟨_, rfl⟩
                rw [h77] at f77
                have hf0 : A.eval (.func 26) = .func (.func 26) #[] #[] := rfl
                refine goOn_plain rfl ?_
                refine stepG_call (f := 26) (args := #[vv, v77]) rfl rfl ?_ ?_
                · generalize A.eval = ev at *
                  go_simp
                · refine (sub_any _ _ _ _ _ (h563.on hb) f77 so.kp so.kq so.kl.1 so.kl.2 so.kv.1 so.kv.2).mono ?_
                  rintro e w' ⟨v, rfl, hi, hb'⟩
                  exact ⟨_, rfl, hb', hi⟩
              · intro A w1 hA hL hS he
                have h66 : A.eval (.tmp 66) = _ := he.1 rfl
                have h67 : A.eval (.tmp 67) = _ := he.2.1 rfl
                refine goOn_plain rfl ?_
                exact stepG_pure rfl rfl (execOp_index rfl (by rw [h66, h67]; exact run_index Tryz.underlying57 (by kernel_rfl) w1 g 0 _ _ k .i64 _ (by first | rfl | simp | omega) (hkl)))
              · intro W5 hL5
                have hb5 := hL5.below
                simp only [TailL, FactL.eq, FactL.poly, FactL.of, List.length_cons, List.length_nil, List.drop_succ_cons, List.drop_zero]
                rintro v77 - v78 h78
                generalize subP A (mulP (R.getD (R.length - 1) []) (D.getD j [])) = A2 at h78 hsucc
                go_frame
                have hc5 := hc3.on hb5
                have hcD5 := hcD3.on hb5
                have hpt5 := hpt3.on hb5
                have hbr5 := hbr3.trans (hb5.mono hbr3.size)
                obtain ⟨vq, hvq, -, z5⟩ := hc5.get (i := k) hkT3
                have hf5 := hc5.b.frozen k
                obtain ⟨hc6, hl6⟩ := hc5.set hkT3 h78
                have hcD6 := hcD5.other hl6 (by omega)
                have hpt6 := hpt5.lr hl6 (elTerm_ok (by decide)) (by decide)
                have hbr6 := hbr5.trans (hl6.belowAt hbr5.size (fun k hk => by cases hk; exact hgw))
                obtain ⟨a78, c78, hs78, -⟩ := h78.shape
                subst hs78
                rw [show ((psTo D R k).set k A).set k A2 = psTo D R (k + 1) by rw [hsucc.out]; simp] at hc6
                clear hc3 hcD3 hpt3 hbr3 h563 hPj e1 e2 hL5 hc5 hcD5 hpt5 hbr5 hvq h78
                go_wp2
                go_roundw
                case rel => exact ⟨k + 1, _, by omega, by go_num, Lib.hid hc6, by simpa using hvl, Lib.hid hpt6, Lib.hid hcD6, hbr6⟩
                case measure => simp [intOf]; omega
            · have hki : ¬ (0 : Int) ≤ (k : Int) - (((R.length - 1 : Nat) : Int) - ((D.length - 1 : Nat) : Int)) := by omega
              rw [if_neg hge] at hsucc
              go_wp2
              go_roundw
              case rel => exact ⟨k + 1, _, by omega, by go_num, Lib.hid (by rw [hsucc.out]; exact hc3), by simpa using hvl, Lib.hid hpt3, Lib.hid hcD3, hbr3⟩
              case measure => simp [intOf]; omega
        · obtain rfl : k = R.length - 1 := by omega
          rw [psTo_full] at hc
          have hsl := psStep_len D R
          go_wp2
          go_roundg f'
          case measure => omega
          case rel => exact ⟨psStep D R, vs, by rw [hsl], hc, hvl, hrun', hpa, by omega, by omega, hcD, hbr⟩
    · have hfin : RES = R := by
        have := hrun.out
        cases gk with
        | zero => exact this.symm
        | succ f => rw [psRun, if_neg hlt] at this; exact this.symm
      have hlt' : ¬ ((D.length - 1 : Nat) : Int) < (R.length : Int) := by omega
      have hPs := hc.out.polys
      rw [hvl] at hPs
      have hfr := fun W (hb : Below wr.heap.size wr W) => from_any _ R v W (hPs.on hb) hv (by rw [← hfin]; exact hok.out) (by omega) (by rw [← hfin]; exact hl2.out)
      replace hfin := Lib.hid hfin
      clear hrun hps hc hcD hok hl2
      go_wp2_with (go_at_call 35; refine (hfr _ (Below.refl _ _)).mono ?_; rintro en w5 ⟨v5, rfl, hv5, hb5⟩)
      go_ret2
      exact ⟨_, rfl, by rw [hfin.out]; exact hv5, hbr.trans (hb5.mono hbr.size)⟩
end Go.Proofs.YtplfdeohokkebaaGreat
end
section
namespace Go.Proofs.YtplfdeohokkebaaGreat
open Go.RowKit Q Go.WideMaps Go.Maps
theorem isPolys_get {w : World} {ao : Option Addr} {n c k : Nat} {L : List (List Trm)} {p : List Trm} (h : IsPolys w (.slice ao n c) L) (hk : L[k]? = some p) :
    ∃ b off v, ao = some ⟨b, off, none⟩ ∧ n = L.length ∧ IsPoly w v p ∧ w.cell? ⟨b, off + k, none⟩ = some v ∧ b < w.heap.size := by
  obtain ⟨b, off, cs, e, hn, ⟨v, rfl, hv⟩, hC⟩ := h.get hk
  refine ⟨b, off, v, e, hn, hv, ?_, hC.lt⟩
  have := hC.cell 0 (by simp)
  change w.cell? ⟨b, off + k * 1 + 0, none⟩ = _ at this
  rw [Nat.mul_one, Nat.add_zero] at this
  exact this
set_option maxHeartbeats 4000000 in
set_option maxRecDepth 100000 in
theorem sameList_any (vp vq : Value) (L M : List (List Trm)) (w : World) (hp : IsPolys w vp L) (hq : IsPolys w vq M) (rp : ∀ p ∈ L, (∀ t ∈ p, Rk t.2) ∧ p.length ≤ 1000000) (rq : ∀ p ∈ M, ∀ t ∈ p, Rk t.2) (lp : L.length ≤ 1000000) :
    Calls Tryz.prog 38 #[vp, vq] w (Ret w (.bool (decide (L = M)))) := by
  obtain ⟨ap, cp, rfl, hcp⟩ := hp.shape
  obtain ⟨aq, cq, rfl, hcq⟩ := hq.shape
  obtain ⟨R, hR⟩ : ∃ R, R = decide (L = M) := ⟨_, rfl⟩
  rw [← hR]
  replace hR := Lib.hid hR
  by_cases hl : L.length = M.length
  · have hne : ((L.length : Int) != M.length) = false := by simp [hl]
    replace rp := Lib.hid rp
    replace rq := Lib.hid rq
    replace hl := Lib.hid hl
    go_enter Tryz.func38, Tryz.ntmps38
    go_wp2
    go_loopw [5] (fun i wr => ∃ k : Nat, k ≤ L.length ∧ i = .int .i64 k ∧ Hid (∀ j : Nat, j < k → L[j]? = M[j]?) ∧ Below w.heap.size w wr) (fun i _ => L.length - (intOf i).toNat)
    case atStart => exact ⟨0, by omega, rfl, Lib.hid (fun j h => by omega), Below.refl _ _⟩
    case round =>
      obtain ⟨k, hk, rfl, heq, hbr⟩ := hrel
      by_cases hkl : k < L.length
      · have hj1 : L[k]? = some L[k] := List.getElem?_eq_getElem hkl
        have hkq : k < M.length := by have := hl.out; omega
        have hj2 : M[k]? = some M[k] := List.getElem?_eq_getElem hkq
        generalize L[k] = s at hj1
        generalize M[k] = t at hj2
        obtain ⟨b1, o1, x1, rfl, -, hP1, hC1, hlt1⟩ := isPolys_get hp hj1
        obtain ⟨b2, o2, x2, rfl, -, hP2, hC2, hlt2⟩ := isPolys_get hq hj2
        have hks := rp.out s (List.mem_of_getElem? hj1)
        have hkt := rq.out t (List.mem_of_getElem? hj2)
        have hkl' : (k : Int) < L.length := by omega
        have f1 : ∀ W, Below w.heap.size w W → W.cell? ⟨b1, o1 + k, none⟩ = some x1 := fun W h => by rw [h.cell hlt1]; exact hC1
        have f2 : ∀ W, Below w.heap.size w W → W.cell? ⟨b2, o2 + k, none⟩ = some x2 := fun W h => by rw [h.cell hlt2]; exact hC2
        have hc := fun W (hb : Below w.heap.size w W) => equal7_any x1 x2 s t W (hP1.on hb) (hP2.on hb) hks.1 hkt hks.2
        have hstep : s = t → Hid (∀ j : Nat, j < k + 1 → L[j]? = M[j]?) := fun h j hj => by
          rcases Nat.lt_or_ge j k with h' | h'
          · exact heq.out j h'
          · obtain rfl : j = k := by omega
            rw [hj1, hj2, h]
        have hstop : s ≠ t → Hid (R = false) := fun h => by
          rw [hR.out, decide_eq_false_iff_not]
          intro hpq
          rw [hpq, hj2] at hj1
          exact h (Option.some.inj hj1.symm)
        clear hj1 hj2 heq hC1 hC2
        go_upto_region 6 with (fail)
        refine wp_region_L mixed (none) (0) (Okr.none) [.eq (.slice (some ⟨b1, o1, none⟩) L.length cp), .eq (.int .i64 k), .eq (.pointer (some ⟨b1, o1 + k * 1, none⟩)), .eq (x1), .eq (.slice (some ⟨b2, o2, none⟩) M.length cq), .eq (.int .i64 k), .eq (.pointer (some ⟨b2, o2 + k * 1, none⟩)), .eq (x2), .ret (.bool (decide (s = t))), .eq (.bool (!(decide (s = t))))] [17, 18, 19, 20, 21, 22, 23, 24, 25, 26] rfl rfl rfl rfl ⟨?_, ?_, ?_, ?_, ?_, ?_, ?_, ?_, ?_, ?_, trivial⟩ ?_
        · exact fun A w1 hA hL hS he => goOn_plain rfl (stepG_mv rfl rfl (hA 0 rfl))
        · exact fun A w1 hA hL hS he => goOn_plain rfl (stepG_mv rfl rfl (hA 5 rfl))
        · intro A w1 hA hL hS he
          have h17 : A.eval (.tmp 17) = _ := he.1 rfl
          have h18 : A.eval (.tmp 18) = _ := he.2.1 rfl
          refine goOn_plain rfl ?_
          exact stepG_pure rfl rfl (execOp_index rfl (by rw [h17, h18]; exact run_index Tryz.underlying57 (by kernel_rfl) w1 b1 o1 _ _ k .i64 _ (by first | rfl | simp | omega) (hkl)))
        · intro A w1 hA hL hS he
          have h19 : A.eval (.tmp 19) = _ := he.1 rfl
          refine goOn_plain rfl ?_
          have c0 := f1 w1 (hbr.trans (hL.below.mono hbr.size))
          refine stepG_pure rfl rfl ?_
          generalize A.eval = ev at *
          go_simp
        · exact fun A w1 hA hL hS he => goOn_plain rfl (stepG_mv rfl rfl (hA 1 rfl))
        · exact fun A w1 hA hL hS he => goOn_plain rfl (stepG_mv rfl rfl (hA 5 rfl))
        · intro A w1 hA hL hS he
          have h21 : A.eval (.tmp 21) = _ := he.1 rfl
          have h22 : A.eval (.tmp 22) = _ := he.2.1 rfl
          refine goOn_plain rfl ?_
          exact stepG_pure rfl rfl (execOp_index rfl (by rw [h21, h22]; exact run_index Tryz.underlying57 (by kernel_rfl) w1 b2 o2 _ _ k .i64 _ (by first | rfl | simp | omega) (hkq)))
        · intro A w1 hA hL hS he
          have h23 : A.eval (.tmp 23) = _ := he.1 rfl
          refine goOn_plain rfl ?_
          have c0 := f2 w1 (hbr.trans (hL.below.mono hbr.size))
          refine stepG_pure rfl rfl ?_
          generalize A.eval = ev at *
          go_simp
        · intro A w1 hA hL hS he
          have hb := hS rfl
          have h20 : A.eval (.tmp 20) = _ := he.1 rfl
          have h24 : A.eval (.tmp 24) = _ := he.2.1 rfl
          have hf0 : A.eval (.func 66) = .func (.func 66) #[] #[] := rfl
          refine goOn_plain rfl ?_
          refine stepG_call (f := 66) (args := #[x1, x2]) rfl rfl ?_ ?_
          · generalize A.eval = ev at *
            go_simp
          · refine (hc _ (hbr.trans (hb.mono hbr.size))).mono ?_
            rintro e w' ⟨rfl, hb'⟩
            exact ⟨_, rfl, hb', rfl⟩
        · intro A w1 hA hL hS he
          have h25 : A.eval (.tmp 25) = _ := he.1 rfl
          refine goOn_plain rfl (stepG_pure rfl rfl ?_)
          generalize A.eval = ev at *
          go_simp
        · intro W2 hL2
          simp only [TailL, FactL.eq, FactL.ret, List.length_cons, List.length_nil, List.drop_succ_cons, List.drop_zero]
          go_frame
          have hb2 := hbr.trans (hL2.below.mono hbr.size)
          clear hc f1 f2
          by_cases hst : s = t
          · have hs := hstep hst
            have hd : (!(decide (s = t))) = false := by simp [hst]
            rw [hd]
            clear hstep hstop hst hd
            go_wp2
            go_roundw
            case rel => exact ⟨k + 1, by omega, by go_num, hs, hb2⟩
            case measure => simp [intOf]; omega
          · have hs := hstop hst
            have hd : (!(decide (s = t))) = true := by simp [hst]
            rw [hd]
            clear hstep hstop hst hd
            go_wp2
            go_ret
            exact ⟨by rw [hs.out] <;> rfl, hb2⟩
      · have hst : Hid (R = true) := by
          have : L = M := List.ext_getElem? fun j => by
            by_cases hj : j < L.length
            · exact heq.out j (by omega)
            · rw [List.getElem?_eq_none (by omega), List.getElem?_eq_none (by have := hl.out; omega)]
          exact Lib.hid (by rw [hR.out]; simpa using this)
        go_wp2
        go_ret
        exact ⟨by rw [hst.out] <;> rfl, hbr⟩
  · have hne : ((L.length : Int) != M.length) = true := by simp; omega
    have hst : Hid (R = false) := Lib.hid (by rw [hR.out, decide_eq_false_iff_not]; intro h; exact hl (by rw [h]))
    clear hl
    go_enter Tryz.func38, Tryz.ntmps38
    go_wp2
    go_ret
    exact ⟨by rw [hst.out] <;> rfl, Below.refl _ _⟩
end Go.Proofs.YtplfdeohokkebaaGreat
end
section
namespace Q
theorem map_snoc {α β : Type} {l : List α} {k : Nat} {t : α} (f : α → β) (h : l[k]? = some t) : (l.take (k + 1)).map f = (l.take k).map f ++ [f t] := by
  rw [List.take_add_one, h]; simp
end Q
namespace Go.Proofs.YtplfdeohokkebaaGreat
open Go.RowKit Q
theorem cell_term {w : World} {ap : Option Addr} {cp : Nat} {p : List Trm} {i : Nat} {s : Trm} (hp : IsPoly w (.slice ap p.length cp) p) (h : p[i]? = some s) :
    ∃ b o r, ap = some ⟨b, o, none⟩ ∧ IsRatC w r s.2 ∧ Cells monoT w b (o + i * 8) (exC s.1 ++ r) := by
  obtain ⟨b, o, cs, rfl, -, hE, hC⟩ := hp.get h
  obtain ⟨r, rfl, hr⟩ := hE
  exact ⟨b, o, r, rfl, hr, hC⟩
end Go.Proofs.YtplfdeohokkebaaGreat
end
section
namespace Q
/-- a polynomial times a term -/
def timesP (p : List Trm) (m : Trm) : List Trm := if m.2 = 0 then [] else p.map fun s => mulT s m
/-- the exponents behind k rounds -/
def addTo (e f : Ex) : Nat → Ex
  | 0 => e
  | k + 1 => (addTo e f k).put k (e.get k + f.get k)
theorem addTo_full (e f : Ex) : addTo e f 4 = e.add f := rfl
theorem addTo_get (e f : Ex) (k : Nat) (h : k < 4) : (addTo e f k).get k = e.get k := by
  obtain rfl | rfl | rfl | rfl : k = 0 ∨ k = 1 ∨ k = 2 ∨ k = 3 := by omega
  all_goals rfl
theorem addX (m g : Ex) (v : Nat) (h : v < 4) : (Ex.add m g).get v = m.get v + g.get v := by
  obtain rfl | rfl | rfl | rfl : v = 0 ∨ v = 1 ∨ v = 2 ∨ v = 3 := by omega
  all_goals rfl
theorem Vld.times {p : List Trm} {m : Trm} (h : Vld p) (hm : m.1.nat = true) : Vld (timesP p m) := by
  unfold timesP
  split
  · exact Vld.nil
  · rename_i hz
    refine ⟨h.1.map fun s _ t _ hst => ?_, fun t ht => ?_⟩
    · show (s.1.add m.1).gt (t.1.add m.1) = true
      rw [Ex.add_comm s.1, Ex.add_comm t.1, Ex.gt_add]; exact hst
    · obtain ⟨s, hs, rfl⟩ := List.mem_map.1 ht
      exact ⟨rmul_ne (h.2 s hs).1 hz, Ex.nat_add (h.2 s hs).2 hm⟩
theorem ev_times (x : Pt) {p : List Trm} (h : NatL p) {m : Trm} (hm : m.1.nat = true) : ev x (timesP p m) = ev x p * (m.2 * mon x m.1) := by
  unfold timesP
  split
  · rename_i hz; rw [hz, ev_nil]; grind
  · induction p with
    | nil => rw [List.map_nil, ev_nil]; grind
    | cons s p ih =>
      rw [List.map_cons, ev_cons, ev_cons, ih h.tail]
      simp only [mulT]
      rw [mon_add x h.head hm]
      grind
end Q
namespace Go.Proofs.YtplfdeohokkebaaGreat
open Go.RowKit Q Go.WideMaps Go.Maps
theorem exC_ones (e : Ex) : (exC e).toArray.all (·.oneCell') = true := by
  rw [Array.all_eq_true_iff_forall_mem]
  intro v hv
  exact exC_one e v (by simpa using hv)
theorem exC_at' (e : Ex) (v : Nat) (hv : v < 4) : (exC e)[v]? = some (.int .i64 (e.get v)) := by
  obtain rfl | rfl | rfl | rfl : v = 0 ∨ v = 1 ∨ v = 2 ∨ v = 3 := by omega
  all_goals rfl
theorem exC_set' (e : Ex) (v : Nat) (hv : v < 4) (x : Int) : (exC e).set v (.int .i64 x) = exC (e.put v x) := by
  obtain rfl | rfl | rfl | rfl : v = 0 ∨ v = 1 ∨ v = 2 ∨ v = 3 := by omega
  all_goals rfl
set_option maxHeartbeats 8000000 in
set_option maxRecDepth 100000 in
theorem times7_any (vp : Value) (p : List Trm) (cs : List Value) (m : Trm) (w : World) (hp : IsPoly w vp p) (hm : IsTerm w cs m) (rp : ∀ t ∈ p, Rs t.2) (rm : Rs m.2) (hin : ∀ t ∈ p, InR (t.1.add m.1)) (lp : p.length ≤ 1000000) :
    Calls Tryz.prog 75 #[vp, .agg cs.toArray] w (RetPoly w (timesP p m)) := by
  obtain ⟨ap, cp, rfl, hcp⟩ := hp.shape
  obtain ⟨r, rfl, hr⟩ := hm
  have h4 := hr.len
  replace rp := Lib.hid rp
  replace hin := Lib.hid hin
  obtain ⟨R, hR⟩ : ∃ R, R = timesP p m := ⟨_, rfl⟩
  rw [← hR]
  replace hR := Lib.hid hR
  go_enter Tryz.func75, Tryz.ntmps75
  go_upto_region 1 with (fail)
  refine abs1 fun W hb0 B hsz => ?_
  go_wp2
  have hba : Below W.heap.size W (W.alloc (.cells #[] monoT)) := (Below.refl _ _).alloc (Nat.le_refl _) _
  have hown0 := own_lit0' elTerm (w := W) (base := w.heap.size + 1) B.lt
  have hbW := hb0.trans (hba.mono hb0.size)
  have B0 := B.on hba
  change OwnPoly (w.heap.size + 1) (W.alloc (.cells #[] 37)) _ _ at hown0
  change Below w.heap.size w (W.alloc (.cells #[] 37)) at hbW
  change Blk (W.alloc (.cells #[] 37)) _ _ _ at B0
  clear hba B hb0
  replace hp := Lib.hid hp
  go_loopw [5, 6] (fun o vi wr => ∃ k : Nat, vi = .int .i64 k ∧ k ≤ p.length ∧ Hid (m.2 = 0 → k = 0) ∧ Hid (OwnPoly (w.heap.size + 1) wr o ((p.take k).map fun s => mulT s m)) ∧ Hid (Blk wr w.heap.size monoT (exC m.1 ++ r)) ∧ Below w.heap.size w wr) (fun _ vi _ => p.length - (intOf vi).toNat)
  case atStart => exact ⟨0, rfl, by omega, Lib.hid (fun _ => rfl), Lib.hid hown0, Lib.hid B0, hbW⟩
  case round =>
    clear hown0 B0 hbW hsz
    obtain ⟨k, rfl, hk, hz0, hown, hB, hbr⟩ := hrel
    by_cases hkl : k < p.length
    · have hkl' : (k : Int) < (p.length : Int) := by omega
      have BB := hB.out
      have hsgn := fun W (hb : Below wr.heap.size wr W) => sign2_any _ _ W (hr.on (hbr.trans (hb.mono hbr.size))).rat
      have hjq : p[k]? = some p[k] := List.getElem?_eq_getElem hkl
      generalize p[k] = s at hjq
      obtain ⟨ba, oa, ra, rfl, hra, hCa⟩ := cell_term hp.out hjq
      have hla := hra.len
      go_upto_region 3 with (fail)
      by_cases hz : m.2 = 0
      · have hk0 := hz0.out hz
        have hs0 : sgnZ m.2.num = 0 := by rw [hz]; rfl
        rw [hs0] at hsgn
        replace hk0 := Lib.hid hk0
        refine wp_region_S trivial (none) (0) (Okr.none) [.eq (.int .i64 k), .eq (.slice (some ⟨ba, oa, none⟩) p.length cp), .eq (.int .i64 p.length), .eq (.bool true), .eq (.bool true), .eq (.pointer (some ⟨w.heap.size, 0 + 4, none⟩)), .eq (.agg (r).toArray), .ret (.int .i64 0), .eq (.bool false), .eq (.bool false)] [10, 11, 12, 13, 14, 15, 16, 17, 18, 19] rfl rfl rfl rfl ⟨?_, ?_, ?_, ?_, ?_, ?_, ?_, ?_, ?_, ?_, trivial⟩ ?_
        · exact fun A w1 hA hL hS he => goOn_plain rfl (stepG_mv rfl rfl (hA 6 rfl))
        · exact fun A w1 hA hL hS he => goOn_plain rfl (stepG_mv rfl rfl (hA 0 rfl))
        · intro A w1 hA hL hS he
          have h11 : A.eval (.tmp 11) = _ := he.1 rfl
          refine goOn_plain rfl (stepG_pure rfl rfl ?_)
          generalize A.eval = ev at *
          go_simp
        · intro A w1 hA hL hS he
          have h10 : A.eval (.tmp 10) = _ := he.1 rfl
          have h12 : A.eval (.tmp 12) = _ := he.2.1 rfl
          refine goOn_plain rfl (stepG_pure rfl rfl ?_)
          generalize A.eval = ev at *
          go_simp
        · exact fun A w1 hA hL hS he => goOn_plain rfl (stepG_mv rfl rfl (he.1 rfl))
        · intro A w1 hA hL hS he
          have h14 : A.eval (.tmp 14) = _ := he.1 rfl
          have h3 : A.eval (.tmp 3) = .pointer (some ⟨w.heap.size, 0, none⟩) := hA 3 rfl
          refine goOn_yes rfl rfl h14 ?_
          exact stepG_pure rfl rfl (execOp_field rfl (by rw [h3]; exact run_field37_1 _ _ _))
        · intro A w1 hA hL hS he
          have hb := hL.below
          have h14 : A.eval (.tmp 14) = _ := he.2.1 rfl
          have h15 : A.eval (.tmp 15) = _ := he.1 rfl
          refine goOn_yes rfl rfl h14 ?_
          exact stepG_pure rfl rfl (execOp_load rfl (by rw [h15]; exact run_loadAt_mid w1 _ _ _ _ _ (blk_rat (BB.on hb)) Tryz.underlying34 rfl (by rw [h4]; kernel_rfl)))
        · intro A w1 hA hL hS he
          have hb := hS rfl
          have h14 : A.eval (.tmp 14) = _ := he.2.1 rfl
          have h16 : A.eval (.tmp 16) = _ := he.1 rfl
          have hf0 : A.eval (.func 60) = .func (.func 60) #[] #[] := rfl
          refine goOn_yes rfl rfl h14 ?_
          refine stepG_call (f := 60) (args := #[.agg (r).toArray]) rfl rfl ?_ ?_
          · generalize A.eval = ev at *
            go_simp
          · refine (hsgn _ hb).mono ?_
            rintro e w' ⟨rfl, hb'⟩
            exact ⟨_, rfl, hb', rfl⟩
        · intro A w1 hA hL hS he
          have h14 : A.eval (.tmp 14) = _ := he.2.1 rfl
          have h17 : A.eval (.tmp 17) = _ := he.1 rfl
          have hc0 : A.eval (.const (.int .i64 0)) = .int .i64 0 := rfl
          refine goOn_yes rfl rfl h14 ?_
          refine stepG_pure rfl rfl ?_
          generalize A.eval = ev at *
          go_simp
        · exact fun A w1 hA hL hS he => goOn_plain rfl (stepG_pk rfl (he.1 rfl) rfl (he.2.1 rfl))
        · intro W2 hL2
          simp only [TailL, FactL.eq, FactL.ret, List.length_cons, List.length_nil, List.drop_succ_cons, List.drop_zero]
          go_frame
          go_wp2
          go_ret
          refine ⟨_, rfl, ?_, hbr.trans (hL2.below.mono hbr.size)⟩
          have := (hown.out.on hL2.below).isSl
          rw [hk0.out] at this
          rw [hR.out, timesP, if_pos hz]; simpa using this
      · have hs0 := sgnZ_ne hz
        generalize sgnZ m.2.num = sg at hs0 hsgn
        have hs1 : (sg != 0) = true := by simpa using hs0
        refine wp_region_S trivial (none) (0) (Okr.none) [.eq (.int .i64 k), .eq (.slice (some ⟨ba, oa, none⟩) p.length cp), .eq (.int .i64 p.length), .eq (.bool true), .eq (.bool true), .eq (.pointer (some ⟨w.heap.size, 0 + 4, none⟩)), .eq (.agg (r).toArray), .ret (.int .i64 sg), .eq (.bool true), .eq (.bool true)] [10, 11, 12, 13, 14, 15, 16, 17, 18, 19] rfl rfl rfl rfl ⟨?_, ?_, ?_, ?_, ?_, ?_, ?_, ?_, ?_, ?_, trivial⟩ ?_
        · exact fun A w1 hA hL hS he => goOn_plain rfl (stepG_mv rfl rfl (hA 6 rfl))
        · exact fun A w1 hA hL hS he => goOn_plain rfl (stepG_mv rfl rfl (hA 0 rfl))
        · intro A w1 hA hL hS he
          have h11 : A.eval (.tmp 11) = _ := he.1 rfl
          refine goOn_plain rfl (stepG_pure rfl rfl ?_)
          generalize A.eval = ev at *
          go_simp
        · intro A w1 hA hL hS he
          have h10 : A.eval (.tmp 10) = _ := he.1 rfl
          have h12 : A.eval (.tmp 12) = _ := he.2.1 rfl
          refine goOn_plain rfl (stepG_pure rfl rfl ?_)
          generalize A.eval = ev at *
          go_simp
        · exact fun A w1 hA hL hS he => goOn_plain rfl (stepG_mv rfl rfl (he.1 rfl))
        · intro A w1 hA hL hS he
          have h14 : A.eval (.tmp 14) = _ := he.1 rfl
          have h3 : A.eval (.tmp 3) = .pointer (some ⟨w.heap.size, 0, none⟩) := hA 3 rfl
          refine goOn_yes rfl rfl h14 ?_
          exact stepG_pure rfl rfl (execOp_field rfl (by rw [h3]; exact run_field37_1 _ _ _))
        · intro A w1 hA hL hS he
          have hb := hL.below
          have h14 : A.eval (.tmp 14) = _ := he.2.1 rfl
          have h15 : A.eval (.tmp 15) = _ := he.1 rfl
          refine goOn_yes rfl rfl h14 ?_
          exact stepG_pure rfl rfl (execOp_load rfl (by rw [h15]; exact run_loadAt_mid w1 _ _ _ _ _ (blk_rat (BB.on hb)) Tryz.underlying34 rfl (by rw [h4]; kernel_rfl)))
        · intro A w1 hA hL hS he
          have hb := hS rfl
          have h14 : A.eval (.tmp 14) = _ := he.2.1 rfl
          have h16 : A.eval (.tmp 16) = _ := he.1 rfl
          have hf0 : A.eval (.func 60) = .func (.func 60) #[] #[] := rfl
          refine goOn_yes rfl rfl h14 ?_
          refine stepG_call (f := 60) (args := #[.agg (r).toArray]) rfl rfl ?_ ?_
          · generalize A.eval = ev at *
            go_simp
          · refine (hsgn _ hb).mono ?_
            rintro e w' ⟨rfl, hb'⟩
            exact ⟨_, rfl, hb', rfl⟩
        · intro A w1 hA hL hS he
          have h14 : A.eval (.tmp 14) = _ := he.2.1 rfl
          have h17 : A.eval (.tmp 17) = _ := he.1 rfl
          have hc0 : A.eval (.const (.int .i64 0)) = .int .i64 0 := rfl
          refine goOn_yes rfl rfl h14 ?_
          refine stepG_pure rfl rfl ?_
          generalize A.eval = ev at *
          go_simp
        · exact fun A w1 hA hL hS he => goOn_plain rfl (stepG_pk rfl (he.1 rfl) rfl (he.2.1 rfl))
        · intro W2 hL2
          simp only [TailL, FactL.eq, FactL.ret, List.length_cons, List.length_nil, List.drop_succ_cons, List.drop_zero]
          go_frame
          have hown2 := hown.out.on hL2.below
          have BB2 := BB.on hL2.below
          have hbr2 := hbr.trans (hL2.below.mono hbr.size)
          clear hsgn hL2 BB hown hB hbr hs0 hs1
          go_upto_region 5 with (fail)
          refine wp_region_S trivial (none) (0) (Okr.none) [.eq (.slice (some ⟨ba, oa, none⟩) p.length cp), .eq (.int .i64 k), .eq (.pointer (some ⟨ba, oa + k * 8, none⟩)), .eq (.pointer (some ⟨ba, oa + k * 8, none⟩)), .eq (.agg (exC s.1).toArray), .box 29 W2.heap.size [.int .i64 0, .int .i64 0, .int .i64 0, .int .i64 0]] [22, 23, 24, 25, 26, 7] rfl rfl rfl rfl ⟨?_, ?_, ?_, ?_, ?_, ?_, trivial⟩ ?_
          · exact fun A w1 hA hL hS he => goOn_plain rfl (stepG_mv rfl rfl (hA 0 rfl))
          · exact fun A w1 hA hL hS he => goOn_plain rfl (stepG_mv rfl rfl (hA 6 rfl))
          · intro A w1 hA hL hS he
            have h22 : A.eval (.tmp 22) = _ := he.1 rfl
            have h23 : A.eval (.tmp 23) = _ := he.2.1 rfl
            refine goOn_plain rfl ?_
            exact stepG_pure rfl rfl (execOp_index rfl (by rw [h22, h23]; exact run_index Tryz.underlying38 (by kernel_rfl) w1 ba oa _ _ k .i64 _ (by first | rfl | simp | omega) (hkl)))
          · intro A w1 hA hL hS he
            have h24 : A.eval (.tmp 24) = _ := he.1 rfl
            refine goOn_plain rfl ?_
            exact stepG_pure rfl rfl (execOp_field rfl (by rw [h24]; exact run_field37_0 _ _ _))
          · intro A w1 hA hL hS he
            have hb := hL.below
            have hbw : Below w.heap.size w w1 := hbr2.trans (hb.mono hbr2.size)
            have h25 : A.eval (.tmp 25) = _ := he.1 rfl
            refine goOn_plain rfl ?_
            exact stepG_pure rfl rfl (execOp_load rfl (by rw [h25]; exact run_loadAt_mid w1 _ _ _ _ _ (cells_ex (hCa.on hbw)) Tryz.underlying29 rfl (by rw [show (exC s.1).length = 4 from rfl]; kernel_rfl)))
          · intro A w1 hA hL hS he
            refine goOn_plain rfl ?_
            refine stepG_box rfl rfl ((Okr.none).lr hL) hL.1.size (by generalize A.eval = ev at *; go_simp) (fun _ _ h => h)
          · intro W3 hL3
            have hb3 := hL3.below
            simp only [TailL, FactL.eq, FactL.box, FactL.of, List.length_cons, List.length_nil, List.drop_succ_cons, List.drop_zero]
            rintro v7 ⟨x, -, hBx, rfl, B7⟩
            go_frame
            have hown3 := hown2.on hb3
            have BB3 := BB2.on hb3
            have hbr3 := hbr2.trans (hb3.mono hbr2.size)
            have hxw : w.heap.size < x := by have := BB2.lt; omega
            clear hL3 hb3 hown2 BB2
            go_upto_region 6 with (refine wpList_store_blk rfl _ (.tmp 7) (.tmp 26) rfl _ _ _ _ rfl rfl B7 rfl (by kernel_rfl) (exC_ones _) ?_; intro W4 R4 gr4)
            have hl4 : Lr (some x) 29 W3 W4 := ⟨gr4, fun k hk => by cases hk; exact ⟨B7.noOther, R4.noOther⟩⟩
            have hxo : u5.ownBlock ≠ some x := by
              intro h
              have h1 := (hown3.okr x h).2
              exact absurd (h1 _ _ _ B7) (by decide)
            have hown4 := hown3.lr hl4 (elTerm_ok (by decide)) (.inr hxo)
            have BB4 := BB3.lr hl4 (by simp; omega)
            have hbr4 := hbr3.trans (hl4.belowAt hbr3.size (fun k hk => by cases hk; omega))
            have hst : Hid (Blk W4 x 29 (exC (addTo s.1 m.1 0))) := Lib.hid (by simpa [addTo] using R4)
            clear hl4 gr4 B7 hown3 BB3 hbr3 R4 hBx
            go_wp2
            go_loopw [8] (fun i wr => ∃ j : Nat, j ≤ 4 ∧ i = .int .i64 j ∧ Hid (Blk wr x 29 (exC (addTo s.1 m.1 j))) ∧ Hid (Blk wr w.heap.size monoT (exC m.1 ++ r)) ∧ Hid (OwnPoly (w.heap.size + 1) wr u5 ((p.take k).map fun s => mulT s m)) ∧ Below w.heap.size w wr) (fun i _ => 4 - (intOf i).toNat)
            case atStart => exact ⟨0, by omega, rfl, hst, Lib.hid BB4, Lib.hid hown4, hbr4⟩
            case round =>
              clear hst BB4 hown4 hbr4 hbr2
              obtain ⟨j, hj, rfl, hX, hB, hown, hbr⟩ := hrel
              have BX := hX.out
              have BB := hB.out
              have hino := hin.out s (List.mem_of_getElem? hjq)
              by_cases hj4 : j < 4
              · have hj4' : (j : Int) < 4 := by omega
                have hat := exC_at' (addTo s.1 m.1 j) j hj4
                rw [addTo_get _ _ _ hj4] at hat
                have hset := exC_set' (addTo s.1 m.1 j) j hj4 (s.1.get j + m.1.get j)
                have hwr : IntKind.i64.wrap (s.1.get j + m.1.get j) = s.1.get j + m.1.get j := wrap_id (by rw [← addX _ _ j hj4]; exact Ex.get_bounds hino hj4)
                have hmat := exC_at m.1 j hj4 r
                have f1 : ∀ W', Below wr.heap.size wr W' → W'.cell? ⟨x, j, none⟩ = some (.int .i64 (s.1.get j)) := fun W' h => (BX.on h).at1 j _ hat
                have f2 : ∀ W', Below wr.heap.size wr W' → W'.cell? ⟨w.heap.size, j, none⟩ = some (.int .i64 (m.1.get j)) := fun W' h => (BB.on h).at1 j _ hmat
                have hsucc : addTo s.1 m.1 (j + 1) = Ex.put (addTo s.1 m.1 j) j (s.1.get j + m.1.get j) := rfl
                generalize s.1.get j = a at *
                generalize m.1.get j = b at *
                replace hsucc := Lib.hid hsucc
                clear hmat hino
                go_upto_region 9 with (fail)
                refine wp_region_L mixed (none) (0) (Okr.none) [.eq (.int .i64 j), .eq (.pointer (some ⟨x, j, none⟩)), .eq (.int .i64 a), .eq (.int .i64 j), .eq (.pointer (some ⟨w.heap.size, 0, none⟩)), .eq (.pointer (some ⟨w.heap.size, j, none⟩)), .eq (.int .i64 b), .eq (.int .i64 (a + b)), .eq (.pointer (some ⟨x, j, none⟩))] [31, 32, 33, 34, 35, 36, 37, 38, 39] rfl rfl rfl rfl ⟨?_, ?_, ?_, ?_, ?_, ?_, ?_, ?_, ?_, trivial⟩ ?_
                · exact fun A w1 hA hL hS he => goOn_plain rfl (stepG_mv rfl rfl (hA 8 rfl))
                · intro A w1 hA hL hS he
                  have h7 : A.eval (.tmp 7) = .pointer (some ⟨x, 0, none⟩) := hA 7 rfl
                  have h31 : A.eval (.tmp 31) = _ := he.1 rfl
                  refine goOn_plain rfl (stepG_pure rfl rfl ?_)
                  generalize A.eval = ev at *
                  go_simp
                · intro A w1 hA hL hS he
                  have h32 : A.eval (.tmp 32) = _ := he.1 rfl
                  refine goOn_plain rfl ?_
                  have c0 := f1 w1 hL.below
                  refine stepG_pure rfl rfl ?_
                  generalize A.eval = ev at *
                  go_simp
                · exact fun A w1 hA hL hS he => goOn_plain rfl (stepG_mv rfl rfl (hA 8 rfl))
                · intro A w1 hA hL hS he
                  have h3 : A.eval (.tmp 3) = .pointer (some ⟨w.heap.size, 0, none⟩) := hA 3 rfl
                  refine goOn_plain rfl ?_
                  exact stepG_pure rfl rfl (execOp_field rfl (by rw [h3]; exact run_field37_0 _ _ _))
                · intro A w1 hA hL hS he
                  have h35 : A.eval (.tmp 35) = _ := he.1 rfl
                  have h34 : A.eval (.tmp 34) = _ := he.2.1 rfl
                  refine goOn_plain rfl (stepG_pure rfl rfl ?_)
                  generalize A.eval = ev at *
                  go_simp
                · intro A w1 hA hL hS he
                  have h36 : A.eval (.tmp 36) = _ := he.1 rfl
                  refine goOn_plain rfl ?_
                  have c0 := f2 w1 hL.below
                  refine stepG_pure rfl rfl ?_
                  generalize A.eval = ev at *
                  go_simp
                · intro A w1 hA hL hS he
                  have h33 : A.eval (.tmp 33) = _ := he.1 rfl
                  have h37 : A.eval (.tmp 37) = _ := he.2.1 rfl
                  refine goOn_plain rfl (stepG_pure rfl rfl ?_)
                  generalize A.eval = ev at *
                  go_simp
                · intro A w1 hA hL hS he
                  have h7 : A.eval (.tmp 7) = .pointer (some ⟨x, 0, none⟩) := hA 7 rfl
                  have h31 : A.eval (.tmp 31) = _ := he.1 rfl
                  refine goOn_plain rfl (stepG_pure rfl rfl ?_)
                  generalize A.eval = ev at *
                  go_simp
                · intro W2 hL2
                  have hb2 := hL2.below
                  simp only [TailL, FactL.eq, List.length_cons, List.length_nil, List.drop_succ_cons, List.drop_zero]
                  go_frame
                  have B2 := BX.on hb2
                  have z := B2.at1 j _ hat
                  have hf := B2.frozen j
                  have hown2 := hown.out.on hb2
                  have BB2 := BB.on hb2
                  have hbr2 := hbr.trans (hb2.mono hbr.size)
                  have hl3 := setCell_lr (j := j) B2 (.int .i64 (a + b))
                  have B3 := B2.set j (.int .i64 (a + b))
                  rw [hset] at B3
                  clear f1 f2 hL2
                  go_wp2
                  go_roundw
                  case rel => exact ⟨j + 1, by omega, by go_num, Lib.hid (by rw [hsucc.out]; exact B3), Lib.hid (BB2.lr hl3 (by simp; omega)), Lib.hid (hown2.lr hl3 (elTerm_ok (by decide)) (.inr hxo)), hbr2.trans (hl3.belowAt hbr2.size (fun k hk => by cases hk; omega))⟩
                  case measure => simp [intOf]; omega
              · obtain rfl : j = 4 := by omega
                rw [addTo_full] at BX
                have hks : Rs s.2 := rp.out s (List.mem_of_getElem? hjq)
                have hsn := Lib.hid (map_snoc (fun s => mulT s m) hjq)
                have hlt : ((p.take k).map fun s => mulT s m).length ≤ 1000000 := by simp; omega
                replace hown := hown.out
                have hbase : ∀ k, u5.ownBlock = some k → w.heap.size ≤ k := fun k hk => by have := (hown.base_le k hk).1; omega
                have hneb : some w.heap.size ≠ u5.ownBlock := fun h => by have := (hown.base_le _ h.symm).1; omega
                have hnex : some x ≠ u5.ownBlock := fun h => hxo h.symm
                obtain ⟨E, hE⟩ : ∃ E, E = s.1.add m.1 := ⟨_, rfl⟩
                have hmt : mulT s m = (E, s.2 * m.2) := by rw [hE]; rfl
                rw [← hE] at BX
                replace hmt := Lib.hid hmt
                clear hE hino
                go_upto_region 10 with (fail)
                refine wp_region_L mixed (u5.ownBlock) (monoT) (hown.okr) [.eq (u5), .eq (.agg (exC E).toArray), .eq (.slice (some ⟨ba, oa, none⟩) p.length cp), .eq (.int .i64 k), .eq (.pointer (some ⟨ba, oa + k * 8, none⟩)), .eq (.pointer (some ⟨ba, oa + k * 8 + 4, none⟩)), .eq (.agg (ra).toArray), .eq (.pointer (some ⟨w.heap.size, 0 + 4, none⟩)), .eq (.agg (r).toArray), .rat (by decide) ((s.2 * m.2)), .term (by decide) ((E), (s.2 * m.2)), .new1 elTerm elTerm_okT ((E, s.2 * m.2)), .row elTerm (w.heap.size + 1) wr.heap.size (((p.take k).map fun s => mulT s m) ++ [(E, s.2 * m.2)])] [40, 41, 42, 43, 44, 45, 46, 47, 48, 49, 50, 51, 52] rfl rfl rfl rfl ⟨?_, ?_, ?_, ?_, ?_, ?_, ?_, ?_, ?_, ?_, ?_, ?_, ?_, trivial⟩ ?_
                · exact fun A w1 hA hL hS he => goOn_plain rfl (stepG_mv rfl rfl (hA 5 rfl))
                · intro A w1 hA hL hS he
                  have h7 : A.eval (.tmp 7) = .pointer (some ⟨x, 0, none⟩) := hA 7 rfl
                  refine goOn_plain rfl ?_
                  exact stepG_pure rfl rfl (execOp_load rfl (by rw [h7]; exact run_loadAt_mid w1 _ _ _ _ _ ((BX.lr hL hnex).cells.range) Tryz.underlying29 rfl (by rw [show (exC E).length = 4 from rfl]; kernel_rfl)))
                · exact fun A w1 hA hL hS he => goOn_plain rfl (stepG_mv rfl rfl (hA 0 rfl))
                · exact fun A w1 hA hL hS he => goOn_plain rfl (stepG_mv rfl rfl (hA 6 rfl))
                · intro A w1 hA hL hS he
                  have h42 : A.eval (.tmp 42) = _ := he.1 rfl
                  have h43 : A.eval (.tmp 43) = _ := he.2.1 rfl
                  refine goOn_plain rfl ?_
                  exact stepG_pure rfl rfl (execOp_index rfl (by rw [h42, h43]; exact run_index Tryz.underlying38 (by kernel_rfl) w1 ba oa _ _ k .i64 _ (by first | rfl | simp | omega) (hkl)))
                · intro A w1 hA hL hS he
                  have h44 : A.eval (.tmp 44) = _ := he.1 rfl
                  refine goOn_plain rfl ?_
                  exact stepG_pure rfl rfl (execOp_field rfl (by rw [h44]; exact run_field37_1 _ _ _))
                · intro A w1 hA hL hS he
                  have hbw : Below w.heap.size w w1 := hbr.trans (hL.belowAt hbr.size hbase)
                  have h45 : A.eval (.tmp 45) = _ := he.1 rfl
                  refine goOn_plain rfl ?_
                  exact stepG_pure rfl rfl (execOp_load rfl (by rw [h45]; exact run_loadAt_mid w1 _ _ _ _ _ (cells_rat (hCa.on hbw)) Tryz.underlying34 rfl (by rw [hla]; kernel_rfl)))
                · intro A w1 hA hL hS he
                  have h3 : A.eval (.tmp 3) = .pointer (some ⟨w.heap.size, 0, none⟩) := hA 3 rfl
                  refine goOn_plain rfl ?_
                  exact stepG_pure rfl rfl (execOp_field rfl (by rw [h3]; exact run_field37_1 _ _ _))
                · intro A w1 hA hL hS he
                  have h47 : A.eval (.tmp 47) = _ := he.1 rfl
                  refine goOn_plain rfl ?_
                  exact stepG_pure rfl rfl (execOp_load rfl (by rw [h47]; exact run_loadAt_mid w1 _ _ _ _ _ (blk_rat (BB.lr hL hneb)) Tryz.underlying34 rfl (by rw [h4]; kernel_rfl)))
                · intro A w1 hA hL hS he
                  have hb := hS rfl
                  have hbw : Below w.heap.size w w1 := hbr.trans (hL.belowAt hbr.size hbase)
                  have h46 : A.eval (.tmp 46) = _ := he.1 rfl
                  have h48 : A.eval (.tmp 48) = _ := he.2.1 rfl
                  have hf0 : A.eval (.func 104) = .func (.func 104) #[] #[] := rfl
                  refine goOn_plain rfl ?_
                  refine stepG_call (f := 104) (args := #[.agg (ra).toArray, .agg (r).toArray]) rfl rfl ?_ ?_
                  · generalize A.eval = ev at *
                    go_simp
                  · refine (mul2_any _ _ _ _ _ (hra.on hbw).rat (hr.on hbw).rat hks rm).mono ?_
                    rintro e w' ⟨v, rfl, hi, hb'⟩
                    exact ⟨_, rfl, hb', hi⟩
                · intro A w1 hA hL hS he
                  have h41 : A.eval (.tmp 41) = _ := he.1 rfl
                  have f49 : ((.rat (by decide) ((s.2 * m.2)) : FactL (Lr (u5.ownBlock) (monoT)))).p (A.eval (.tmp 49)) w1 := he.2.1 rfl
                  obtain ⟨v49, h49⟩ : ∃ v, A.eval (.tmp 49) = v := ⟨_, rfl⟩
                  rw [h49] at f49
                  refine goOn_plain rfl ?_
                  obtain ⟨n_, a_, k_, c_, n', a', k', c', rfl⟩ := rat_agg f49
                  exact stepG_value (c := .agg (_ ++ [.bool n_, .slice a_ k_ c_, .bool n', .slice a' k' c']).toArray) rfl rfl (Below.refl _ _) ⟨_, rfl, ⟨_, rfl, f49.cellsC⟩⟩ (execOp_build rfl (by simp only [List.map_toArray, List.map_cons, List.map_nil, h41, h49]; exact run_build37 _ _ _ rfl))
                · intro A w1 hA hL hS he
                  have f50 : ((.term (by decide) ((E), (s.2 * m.2)) : FactL (Lr (u5.ownBlock) (monoT)))).p (A.eval (.tmp 50)) w1 := he.1 rfl
                  obtain ⟨v50, h50⟩ : ∃ v, A.eval (.tmp 50) = v := ⟨_, rfl⟩
                  rw [h50] at f50
                  refine goOn_plain rfl ?_
                  obtain ⟨c50, rfl, e50⟩ := f50
                  refine stepG_new1 rfl rfl ((hown.okr).lr hL) (e := elTerm) (t := (E, s.2 * m.2)) e50 (execOp_buildSlice rfl ?_) (fun _ _ h => h)
                  simp only [List.map_toArray, List.map_cons, List.map_nil, h50]
                  exact run_new1_elTermP _ _ (elTerm.len e50)
                · intro A w1 hA hL hS he
                  have hb := hS rfl
                  have h40 : A.eval (.tmp 40) = _ := he.1 rfl
                  have f51 : ((.new1 elTerm elTerm_okT ((E, s.2 * m.2)) : FactL (Lr (u5.ownBlock) (monoT)))).p (A.eval (.tmp 51)) w1 := he.2.1 rfl
                  obtain ⟨v51, h51⟩ : ∃ v, A.eval (.tmp 51) = v := ⟨_, rfl⟩
                  rw [h51] at f51
                  refine goOn_plain rfl ?_
                  exact stepG_append rfl rfl rfl Tryz.underlying38 info_elTerm h40 h51 (hown.on hb) rfl rfl (isSl_of_new f51) (by simp only [List.length_cons, List.length_nil]; omega) ((BB.lr hL hneb).lt) hL.1.size (fun _ _ h1 h2 => ⟨h1, h2⟩)
                · intro W5 hL5
                  simp only [TailL, FactL.eq, FactL.rat, FactL.term, FactL.new1, FactL.row, FactL.asPure, FactL.of, FactL.fragile, List.length_cons, List.length_nil, List.drop_succ_cons, List.drop_zero]
                  rintro v49 - v50 - v51 - v52 ⟨hown5, hnew⟩
                  go_frame
                  have hbW5 := hbr.trans (hL5.belowAt hbr.size hbase)
                  have BB5 := BB.lr hL5 hneb
                  go_wp2
                  go_roundw
                  case measure => simp [intOf]; omega
                  case rel => exact ⟨k + 1, by go_num, by omega, Lib.hid (fun h => absurd h hz), Lib.hid (by rw [hsn.out, hmt.out]; exact hown5), Lib.hid BB5, hbW5⟩
    · obtain rfl : k = p.length := by omega
      rw [List.take_of_length_le (Nat.le_refl _)] at hown
      go_wp2
      go_ret
      refine ⟨_, rfl, ?_, hbr⟩
      rw [hR.out, timesP]
      split
      · rename_i h
        have h1 := hz0.out h
        have h2 : p = [] := List.eq_nil_of_length_eq_zero h1
        subst h2
        exact hown.out.isSl
      · exact hown.out.isSl
end Go.Proofs.YtplfdeohokkebaaGreat
end
