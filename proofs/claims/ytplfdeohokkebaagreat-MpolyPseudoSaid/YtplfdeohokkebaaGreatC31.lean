/- mpoly.Subst: the range over slices.Backward. mpoly.Subst. -/
import Derived.Test.YtplfdeohokkebaaGreatC27
import Derived.Test.YtplfdeohokkebaaGreatC30
import Derived.LoopIn
import Derived.LoopNIn
import Derived.OwnWalkIn
import Derived.RangeFuncBound
import Derived.RangeFuncBox
import Derived.RangeFuncCalls
import Derived.RangeFuncLeaves
import Derived.RangeFuncNested
import Derived.Shelf.Abstract
import Derived.Shelf.RegionOpen
import Derived.TacticsInMore
set_option linter.unusedVariables false
set_option linter.unusedSimpArgs false
section
namespace Q
open Go Go.RowKit Go.Proofs.YtplfdeohokkebaaGreat
def Kept (w w' : World) (row : Option Nat) : Prop := w.grownBy w' row ∧ ∀ r, row = some r → ∃ o : Obj, w.heap[r]? = some o ∧ o.isCells = false
theorem Kept.cells {w w' : World} {row : Option Nat} (h : Kept w w' row) {T : TypeId} {b off : Nat} {cs : List Value} (hc : Cells T w b off cs) : Cells T w' b off cs := by
 obtain ⟨C, fr, h1, h2⟩ := hc
 refine ⟨C, fr, ?_, h2⟩
 rw [h.1.block b (heap_lt h1) (fun e => ?_)]
 ·exact h1
 ·obtain ⟨o, h3, h4⟩ := h.2 b e.symm
  rw [h1] at h3; cases h3; cases h4
theorem Kept.at {w w' : World} {row : Option Nat} (h : Kept w w' row) {T : TypeId} {ao : Option Addr} {cs : List Value} (hc : At T w ao cs) : At T w' ao cs := fun hp =>
 let ⟨b, off, e, hb⟩ := hc hp; ⟨b, off, e, h.cells hb⟩
theorem Kept.int {w w' : World} {row : Option Nat} (h : Kept w w' row) {n : Bool} {m : Value} {z : Int} (hc : IsInt w n m z) : IsInt w' n m z := by
 obtain ⟨l, ⟨ao, cap, e, h1, h2, h3⟩, h4⟩ := hc
 exact ⟨l, ⟨ao, cap, e, h1, h2, h.at h3⟩, h4⟩
theorem Kept.term {w w' : World} {row : Option Nat} (h : Kept w w' row) {cs : List Value} {t : Trm} (hc : IsTerm w cs t) : IsTerm w' cs t := by
 obtain ⟨r, e, n, a, k, c, n', a', k', c', e2, h1, h2⟩ := hc
 exact ⟨r, e, n, a, k, c, n', a', k', c', e2, h.int h1, h.int h2⟩
theorem Kept.elems {w w' : World} {row : Option Nat} (h : Kept w w' row) : ∀ {l : List Trm} {xs : List Value}, Elems elTerm.E w xs l → Elems elTerm.E w' xs l
 | [], _, hc => hc
 | _ :: _, _, ⟨c, r, e, h1, h2⟩ => ⟨c, r, e, h.term h1, h.elems h2⟩
theorem Kept.poly {w w' : World} {row : Option Nat} (h : Kept w w' row) {v : Value} {l : List Trm} (hc : IsPoly w v l) : IsPoly w' v l := by
 obtain ⟨ao, cap, xs, e, h1, h2, h3⟩ := hc
 exact ⟨ao, cap, xs, e, h1, h.at h2, h.elems h3⟩
end Q
namespace Go.Proofs.YtplfdeohokkebaaGreat
open Go.RowKit Go.Shelf Q
attribute [local go_sem] Oper.semAt_some
abbrev fB := 79
abbrev fB1 := 106
set_option maxHeartbeats 1000000 in
theorem backward_any (F : Fence) (n : Nat) (h79 : F.fn 79) (hro : F.round = none) (g N cap : Nat) (w : World) :
  CallsIn F n Tryz.prog 79 #[.slice (some ⟨g, 0, none⟩) N cap] w (fun e W' => e = .returned (.func (.func 106) #[] #[.pointer (some ⟨w.heap.size, 0, none⟩)]) ∧ W' = w.alloc (.cells #[.slice (some ⟨g, 0, none⟩) N cap] 57)) := by
 refine callsIn_of_wp Tryz.func79 rfl h79 ?_ hro
 simp only [Tryz.ntmps79, List.size_toArray, List.length_cons, List.length_nil, Nat.reduceAdd, Nat.reduceSub, Array.replicate_succ, Array.replicate_zero, List.push_toArray, List.append_toArray, List.nil_append, List.cons_append]
 gi_wp2
 refine bodyPost_ret (results_tmp rfl _ _ _) rfl ?_
 exact ⟨rfl, rfl⟩
def Kb (Bs g : Nat) (W W' : World) : Prop := W'.heap[Bs]? = W.heap[Bs]? ∧ W'.heap[g]? = W.heap[g]?
theorem Kb.refl (Bs g : Nat) (W : World) : Kb Bs g W W := ⟨rfl, rfl⟩
theorem Kb.trans {Bs g : Nat} {A B C : World} (h : Kb Bs g A B) (h' : Kb Bs g B C) : Kb Bs g A C := ⟨h'.1.trans h.1, h'.2.trans h.2⟩
theorem cell_heap {W W' : World} {a : Addr} (h : W'.heap[a.block]? = W.heap[a.block]?) : W'.cell? a = W.cell? a := by unfold World.cell?; rw [h]
theorem Kb.putObj {Bs g : Nat} {w : World} (hB : Bs < w.heap.size) (hg : g < w.heap.size) (W : World) (l : Nat) (o o' : Obj) (hl : w.heap.size ≤ l) (_ : W.heap[l]? = some o) (_ : o.isCells = false) (_ : o.isWalk = false) : Kb Bs g W (W.putObj l o') :=
 ⟨World.putObj_heap_other (by omega), World.putObj_heap_other (by omega)⟩
def upto {α : Type} (f : Nat → α) (k : Nat) : List α := (List.range k).map f
theorem upto_succ {α : Type} (f : Nat → α) (k : Nat) : upto f (k + 1) = upto f k ++ [f k] := by simp [upto, List.range_succ]
theorem upto_length {α : Type} (f : Nat → α) (k : Nat) : (upto f k).length = k := by simp [upto]
set_option maxRecDepth 100000 in
set_option maxHeartbeats 2000000 in
theorem backward1_in {α : Type} (ix : α → Int) (vl : α → Value) (XS : Nat → α) (F : Fence) (n : Nat) (h106 : F.fn 106) (hro : F.round = none) (hn : 1 ≤ n) (l Bs g N cap : Nat) (hN : N ≤ 100000)
  (hX1 : ∀ k, k < N → ix (XS k) = (N : Int) - 1 - k) (J Jx : List α → World → Prop)
  (hY : ∀ pre x W, J pre W → pre.length < N → YieldAt F (n - 1) Tryz.prog l #[.int .i64 (ix x), vl x] W fun e W' =>
   (e = .returned (.bool true) ∧ J (pre ++ [x]) W' ∧ Kb Bs g W W') ∨ (e = .returned (.bool false) ∧ Jx (pre ++ [x]) W'))
  (W : World) (hBs : W.cell? ⟨Bs, 0, none⟩ = some (.slice (some ⟨g, 0, none⟩) N cap)) (hc : ∀ k, k < N → W.cell? ⟨g, N - 1 - k, none⟩ = some (vl (XS k))) (h0 : J [] W) :
  CallsIn F n Tryz.prog 106 #[.func (.yield l) #[] #[], .pointer (some ⟨Bs, 0, none⟩)] W fun e W' => (∃ v, e = .returned v) ∧
   ((∃ ys, ys = upto XS N ∧ J ys W') ∨ (∃ pre, (∃ k, k ≤ N ∧ pre = upto XS k) ∧ Jx pre W')) := by
 refine callsIn_of_wp Tryz.func106 rfl h106 ?_ hro
 simp only [Tryz.ntmps106, List.size_toArray, List.length_cons, List.length_nil, Nat.reduceAdd, Nat.reduceSub, Array.replicate_succ, Array.replicate_zero, List.push_toArray, List.append_toArray, List.nil_append, List.cons_append]
 gi_wp2
 gi_loopw [3] (fun i wr => ∃ k : Nat, k ≤ N ∧ i = .int .i64 ((N : Int) - 1 - k) ∧ J (upto XS k) wr ∧ Kb Bs g W wr) (fun i _ => (intOf i + 1).toNat)
 case atStart => exact ⟨0, Nat.zero_le _, by simp, h0, Kb.refl _ _ _⟩
 case round =>
  obtain ⟨k, hk, rfl, hJs, hnx⟩ := hrel
  have hbs := (cell_heap (a := ⟨Bs, 0, none⟩) hnx.1).trans hBs
  by_cases hlt : k < N
  ·have hcx := (cell_heap (a := ⟨g, N - 1 - k, none⟩) hnx.2).trans (hc k hlt)
   obtain ⟨fn, tmps, assign, body, hy, hR⟩ := hY _ (XS k) wr hJs (by rw [upto_length]; exact hlt)
   rw [hX1 k hlt] at hy
   obtain ⟨m, hm⟩ : ∃ m : Nat, m = N - 1 - k := ⟨_, rfl⟩
   have hmi : (N : Int) - 1 - k = (m : Int) := by omega
   rw [← hm] at hcx
   rw [hmi] at hy ⊢
   have hmN : (m : Int) < N := by omega
   have hm0 : (0 : Int) ≤ m := by omega
   have hmk : (m : Int) - 1 = (N : Int) - 1 - (k + 1 : Nat) := by omega
   have hmk := Lib.hid hmk
   clear hm hmi
   gi_wp2
   refine hR.mono ?_
   rintro e W3 (⟨rfl, hJ3, hk3⟩ | ⟨rfl, hJx3⟩)
   ·gi_wp2
    go_roundw
    case rel => exact ⟨k + 1, by omega, by have h := hmk.out; simp only [Value.int.injEq, true_and]; omega, by rw [upto_succ]; exact hJ3, hnx.trans hk3⟩
    case measure => have h := hmk.out; simp [intOf]; omega
   ·gi_wp2
    refine bodyPost_ret (results_none rfl _ _ _) rfl ?_
    exact ⟨⟨_, rfl⟩, .inr ⟨_, ⟨k + 1, by omega, (upto_succ _ _).symm⟩, hJx3⟩⟩
  ·obtain rfl : k = N := by omega
   gi_wp2
   go_end0
   exact ⟨⟨_, rfl⟩, .inl ⟨_, rfl, hJs⟩⟩
theorem backward_stops {α : Type} (ix : α → Int) (vl : α → Value) (XS : Nat → α) (F : Fence) (n : Nat) (h106 : F.fn 106) (hro : F.round = none) (hn : 1 ≤ n) (Bs g N cap : Nat) (hN : N ≤ 100000)
  (hX1 : ∀ k, k < N → ix (XS k) = (N : Int) - 1 - k) (w : World) (hBl : Bs < w.heap.size) (hgl : g < w.heap.size) (hBs : w.cell? ⟨Bs, 0, none⟩ = some (.slice (some ⟨g, 0, none⟩) N cap)) (hc : ∀ k, k < N → w.cell? ⟨g, N - 1 - k, none⟩ = some (vl (XS k))) :
  SeqStopsK F n Tryz.prog 106 #[.pointer (some ⟨Bs, 0, none⟩)] (fun x : α => #[.int .i64 (ix x), vl x]) (Kb Bs g) (fun ys => ys = upto XS N) (fun pre => ∃ k, k ≤ N ∧ pre = upto XS k) N w := fun l J Jx W hW _ _ hY h0 =>
 backward1_in ix vl XS F n h106 hro hn l Bs g N cap hN hX1 J Jx hY W ((hW.cell (p := ⟨Bs, 0, none⟩) hBl).trans hBs) (fun k hk => (hW.cell (p := ⟨g, N - 1 - k, none⟩) hgl).trans (hc k hk)) h0
structure HornOk (sb sc : Sz) (sz : Nat → Sz) (N : Nat) : Prop where
 b : sb.ok
 c : sc.ok
 z : ∀ k, k ≤ N → (sz k).ok
 m : ∀ k, k < N → ((sz k).mul sb).ok
 s : ∀ k, k < N → (((sz k).mul sb).add sc).le (sz (k + 1))
def hornS (b : List Trm) (out c : List Trm) : List Trm := addP (mulP out b) c
theorem hornS_fold (b : List Trm) (L : List (List Trm)) : L.reverse.foldl (hornS b) [] = hornerP b L := by
 rw [List.foldl_reverse]; rfl
end Go.Proofs.YtplfdeohokkebaaGreat
end
section
namespace Go.Proofs.YtplfdeohokkebaaGreat
open Go.RowKit Go.Shelf Q
end Go.Proofs.YtplfdeohokkebaaGreat
namespace Q
open Go Go.RowKit Q Go.Proofs.YtplfdeohokkebaaGreat
theorem Kept.blk {w w' : World} {row : Option Nat} (h : Kept w w' row) {g : Nat} {T : TypeId} {cs : List Value} (hc : Blk w g T cs) : Blk w' g T cs := by
 have hl := hc.lt
 unfold Blk at *
 rw [h.1.block g hl (fun e => ?_)]
 ·exact hc
 ·obtain ⟨o, h3, h4⟩ := h.2 g e.symm
  rw [hc] at h3; cases h3; cases h4
end Q
namespace Go.Proofs.YtplfdeohokkebaaGreat
open Go.RowKit Go.Shelf Q
attribute [local go_sem] Oper.semAt_some
theorem horn_bd {b : List Trm} {sb sc : Sz} {sz : Nat → Sz} {N : Nat} {L : List (List Trm)} (h : HornOk sb sc sz N) (hb : Bd sb b) (hL : ∀ i, Bd sc (L.getD i [])) : ∀ (pre : List Nat), pre.length ≤ N → Bd (sz pre.length) ((pre.map fun i => L.getD i []).foldl (hornS b) []) := by
 suffices h' : ∀ (n : Nat) (pre : List Nat), pre.length = n → n ≤ N → Bd (sz n) ((pre.map fun i => L.getD i []).foldl (hornS b) []) from fun pre hl => h' pre.length pre rfl hl
 intro n
 induction n with
 | zero => intro pre h0 _; rw [List.eq_nil_of_length_eq_zero h0]; exact Bd.nil _
 | succ n ih =>
  intro pre hl hn
  have hne : pre ≠ [] := by rintro rfl; simp at hl
  rw [← List.dropLast_concat_getLast hne, List.map_append, List.foldl_append]
  have h1 := ih pre.dropLast (by rw [List.length_dropLast]; omega) (by omega)
  have h2 : Bd ((sz n).mul sb) (mulP ((pre.dropLast.map fun i => L.getD i []).foldl (hornS b) []) b) := (h1.prods hb).canon
  exact ((h2.append (hL _)).canon).mono (h.s n (by omega))
set_option maxRecDepth 100000 in
set_option maxHeartbeats 4000000 in
theorem subst_any (vp vq : Value) (p b : List Trm) (v : Nat) (sb sc : Sz) (sz : Nat → Sz) (w : World) (hp : IsPoly w vp p) (hq : IsPoly w vq b) (hv : v < 4) (vp' : Vld p) (vb : Vld b) (dp : degP p v ≤ 1000) (lp : p.length ≤ 1000000)
  (hh : HornOk sb sc sz (coeffsP p v).length) (hb : Bd sb b) (hc : ∀ c ∈ coeffsP p v, Bd sc c) : Calls Tryz.prog 50 #[vp, .int .i64 v, vq] w (RetPoly w (substP p v b)) := by
 have hco := fun W (hb' : Below w.heap.size w W) => coeffs_own vp p v W (hp.on hb') hv vp'.nat (by omega) lp
 have hcv : ∀ c ∈ coeffsP p v, Vld c := fun c hc' => by obtain ⟨n, rfl⟩ := mem_coeffsP hc'; exact vp'.coeff v n
 have hNl : (coeffsP p v).length ≤ 1001 := by rw [coeffsP_length]; have := degP_ge p v; omega
 have hres : substP p v b = (coeffsP p v).reverse.foldl (hornS b) [] := by rw [hornS_fold]; rfl
 rw [hres]
 generalize coeffsP p v = L at *
 obtain ⟨aq, cq, rfl, hcq⟩ := hq.shape
 have hLB : ∀ i, Bd sc (L.getD i []) := fun i => by
  rw [List.getD_eq_getElem?_getD]
  cases h : L[i]? with
  | none => exact Bd.nil _
  | some c => exact hc c (List.mem_of_getElem? h)
 have hLV : ∀ i, Vld (L.getD i []) := fun i => by
  rw [List.getD_eq_getElem?_getD]
  cases h : L[i]? with
  | none => exact Vld.nil
  | some c => exact hcv c (List.mem_of_getElem? h)
 have hout := horn_bd hh hb hLB
 have hov : ∀ pre : List Nat, Vld ((pre.map fun i => L.getD i []).foldl (hornS b) []) := fun pre => by
  by_cases h : pre = []
  ·subst h; exact Vld.nil
  ·rw [← List.dropLast_concat_getLast h, List.map_append, List.foldl_append]; exact Vld.add _ _
 clear hres hp hc hcv vp' dp lp
 refine (callsIn_wide (n := 6)).1 ?_
 refine callsIn_of_wp_marks Tryz.func50 rfl trivial ?_ rfl
 simp only [Tryz.ntmps50, List.size_toArray, List.length_cons, List.length_nil, Nat.reduceAdd, Nat.reduceSub, Array.replicate_succ, Array.replicate_zero, List.push_toArray, List.append_toArray, List.nil_append, List.cons_append]
 have hb0 : Below w.heap.size w ((w.alloc (.cells #[.slice aq b.length cq] polyT)).alloc (.cells #[.slice none 0 0] polyT)) := below2 _ _ _
 have hcw := hco _ hb0
 gi_wp2_with (first
  | (refine ⟨trivial, ?_⟩; gi_at_call 33; refine (callsIn_wide.2 hcw).mono ?_; rintro e w1 ⟨g, vs, rfl, hB, hg, hR, hb1⟩)
  | (refine ⟨trivial, ?_⟩; gi_at_call 79; refine (backward_any Fence.wide _ trivial rfl _ _ _ _).mono ?_; rintro e w2 ⟨rfl, rfl⟩))
 have hvl : vs.length = L.length := hR.len
 have hcol := hR.cols hB
 rw [hvl]
 obtain ⟨W0, hW0⟩ : ∃ W0, W0 = (w.alloc (.cells #[.slice aq b.length cq] polyT)).alloc (.cells #[.slice none 0 0] polyT) := ⟨_, rfl⟩
 have hW0s : W0.heap.size = w.heap.size + 1 + 1 := by rw [hW0]; simp
 have hbx : W0.cell? ⟨w.heap.size, 0, none⟩ = some (.slice aq b.length cq) := by rw [hW0]; exact ((Blk.new w polyT [.slice aq b.length cq]).alloc _).at1 0 _ rfl
 have hox : Blk W0 (w.heap.size + 1) polyT [.slice none 0 0] := by rw [hW0]; have := Blk.new (w.alloc (.cells #[.slice aq b.length cq] polyT)) polyT [.slice none 0 0]; simpa using this
 change Below w.heap.size w ((w.alloc (.cells #[.slice aq b.length cq] polyT)).alloc (.cells #[.slice none 0 0] polyT)) at hb0
 change Below ((w.alloc (.cells #[.slice aq b.length cq] polyT)).alloc (.cells #[.slice none 0 0] polyT)).heap.size _ w1 at hb1
 change ((w.alloc (.cells #[.slice aq b.length cq] polyT)).alloc (.cells #[.slice none 0 0] polyT)).heap.size ≤ g at hg
 rw [← hW0] at hb0 hb1 hg
 clear hR hB hco hcw hW0
 have hgl : g < w1.heap.size := hcol.b.lt
 have hba : Below w1.heap.size w1 (w1.alloc (.cells #[.slice (some ⟨g, 0, none⟩) L.length L.length] 57)) := (Below.refl _ _).alloc (Nat.le_refl _) _
 have hbs : (w1.alloc (.cells #[.slice (some ⟨g, 0, none⟩) L.length L.length] 57)).cell? ⟨w1.heap.size, 0, none⟩ = some (.slice (some ⟨g, 0, none⟩) L.length L.length) := (Blk.new w1 57 [.slice (some ⟨g, 0, none⟩) L.length L.length]).at1 0 _ rfl
 obtain ⟨W2, hW2⟩ : ∃ W2, W2 = w1.alloc (.cells #[.slice (some ⟨g, 0, none⟩) L.length L.length] 57) := ⟨_, rfl⟩
 have hW2s : W2.heap.size = w1.heap.size + 1 := by rw [hW2]; simp
 rw [← hW2] at hba hbs
 have hcol2 := hcol.on hba
 have hb12 := hb1.trans (hba.mono hb1.size)
 have hbw2 := hb0.trans (hb12.mono hb0.size)
 have hpolys : ∀ i, IsPoly W2 (vs.getD i (.slice none 0 0)) (L.getD i []) := fun i => by
  rw [List.getD_eq_getElem?_getD, List.getD_eq_getElem?_getD]
  by_cases hi : i < L.length
  ·rw [List.getElem?_eq_getElem hi, List.getElem?_eq_getElem (show i < vs.length by omega)]
   exact hcol2.p i _ _ (List.getElem?_eq_getElem (by omega)) (List.getElem?_eq_getElem hi)
  ·rw [List.getElem?_eq_none (l := L) (by omega), List.getElem?_eq_none (l := vs) (by omega)]
   exact IsSl.nil _ _
 have hcells : ∀ k, k < L.length → W2.cell? ⟨g, L.length - 1 - k, none⟩ = some (vs.getD (L.length - 1 - k) (.slice none 0 0)) := fun k hk => by
  refine hcol2.b.at1 _ _ ?_
  rw [List.getD_eq_getElem?_getD, List.getElem?_eq_getElem (show L.length - 1 - k < vs.length by omega)]; rfl
 have hbox2 : W2.cell? ⟨w.heap.size, 0, none⟩ = some (.slice aq b.length cq) := by rw [hb12.cell (p := ⟨w.heap.size, 0, none⟩) (by simp only; omega)]; exact hbx
 have hob2 := hox.on hb12
 have hg2 : g < W2.heap.size := by omega
 have hsz2 : w.heap.size + 1 < g := by omega
 rw [← hW2]
 have hbl : w1.heap.size < W2.heap.size := by omega
 have hwl : w.heap.size + 1 < W2.heap.size := by omega
 clear hW2 hba hcol hcol2 hbx hox hb0 hb1 hb12 hgl
 refine wpIn_rangeFunc_ownF (α := Nat) rfl (by omega) (gf := 106) (lb := #[.pointer (some ⟨w1.heap.size, 0, none⟩)]) rfl trivial (enters_of Tryz.func106 (by kernel_rfl) rfl)
  (backward_stops (α := Nat) (fun i => (i : Int)) (fun i => vs.getD i (.slice none 0 0)) (fun k => L.length - 1 - k) Fence.wide _ trivial rfl (by omega) w1.heap.size g L.length L.length (by omega) (fun k hk => by omega) W2 hbl hg2 hbs hcells)
  (fun h k => h.trans k) (Kb.putObj hbl hg2) (Below.refl _ _) (fun _ => rfl)
  (fun pre W => ((∃ vo, Blk W (w.heap.size + 1) polyT [vo] ∧ IsPoly W vo ((pre.map fun i => L.getD i []).foldl (hornS b) [])) ∧ W.cell? ⟨w.heap.size, 0, none⟩ = some (.slice aq b.length cq) ∧ (∀ i, IsPoly W (vs.getD i (.slice none 0 0)) (L.getD i [])) ∧ IsPoly W (.slice aq b.length cq) b ∧ W2.heap.size ≤ W.heap.size) ∧ Below w.heap.size w W)
  (fun _ _ _ => False)
  (OwnFrom.and (Own.from (fun s A B row hs hg hr => by
   obtain ⟨⟨vo, h1, h3⟩, h4, h5, h6, h7⟩ := hs
   have hk : Kept A B row := ⟨hg, hr⟩
   exact ⟨⟨vo, hk.blk h1, hk.poly h3⟩, cell_kept h4 hg hr, fun i => hk.poly (h5 i), hk.poly h6, Nat.le_trans h7 hg.size⟩) _) (ownFrom_below (Nat.le_refl _) (by omega)))
  (fun _ _ _ _ _ hs _ _ => hs)
  ⟨⟨⟨_, hob2, IsSl.nil _ _⟩, hbox2, hpolys, hq.on hbw2, Nat.le_refl _⟩, hbw2⟩
  (fun x => { tmps := #[vp, .int .i64 v, .slice aq b.length cq, undef, undef, .pointer (some ⟨w.heap.size, 0, none⟩), .slice none 0 0, .pointer (some ⟨w.heap.size + 1, 0, none⟩), undef, vs.getD x (.slice none 0 0), vp, .int .i64 v, .slice (some ⟨g, 0, none⟩) L.length L.length, .func (.func 106) #[] #[.pointer (some ⟨w1.heap.size, 0, none⟩)], .int .i64 x, vs.getD x (.slice none 0 0), undef, undef, undef, undef, undef, undef], defers := [] }) ?assign ?body ?done ?stop
 case assign =>
  intro l x W K hK
  gi_wp2
  exact hK
 case body =>
  rintro l pre x W ⟨⟨⟨vo, Bo, hpo⟩, hbx, hpl, hqb, hsz⟩, hbw⟩ hlen
  have hBd := hout pre (by omega)
  have hBm := hh.m pre.length hlen
  have hVo := hov pre
  have hxB := hLB x
  have hxV := hLV x
  have hpx := hpl x
  have hfold : ((pre ++ [x]).map fun i => L.getD i []).foldl (hornS b) [] = hornS b ((pre.map fun i => L.getD i []).foldl (hornS b) []) (L.getD x []) := by rw [List.map_append, List.foldl_append]; rfl
  generalize (pre.map fun i => L.getD i []).foldl (hornS b) [] = out at *
  generalize L.getD x [] = cx at *
  generalize vs.getD x (.slice none 0 0) = vx at *
  have hz := hh.z pre.length (by omega)
  have hpr : Bd ((sz pre.length).mul sb) (prods out b) := hBd.prods hb
  have hmc : Bd ((sz pre.length).mul sb) (mulP out b) := hpr.canon
  have ho := Bo.at1 0 _ rfl
  have hf := Bo.frozen 0
  have hmul := mul_pp vo _ out b W hpo hqb (fun t ht => ⟨hBd.inR hz t ht, (hBd.rs hz t ht).rk⟩) (fun t ht => ⟨hb.inR hh.b t ht, (hb.rs hh.b t ht).rk⟩) (hpr.okl hBm) (hBd.len hz) (hb.len hh.b)
  have hadd := fun vm W' (hm : IsPoly W' vm (mulP out b)) (hx' : IsPoly W' vx cx) => add_pp vm vx (mulP out b) cx W' hm hx' (fun t ht => (hmc.rs hBm t ht).rk) (fun t ht => (hxB.rs hh.c t ht).rk) (hmc.len hBm) (hxB.len hh.c)
  have hme : mergeP (mulP out b) cx = hornS b out cx := mergeP_eq (Vld.mul _ _) hxV
  generalize hornS b out cx = nx at *
  generalize mulP out b = mo at *
  replace hme := Lib.hid hme
  replace hfold := Lib.hid hfold
  gi_wp2_with (refine ⟨trivial, ?_⟩; gi_at_call 23; refine (CallsIn.inRound l (callsIn_wide.2 hmul)).mono ?_; rintro e w3 ⟨v3, rfl, hp3, hb3⟩)
  have hadd3 := hadd v3 w3 hp3 (hpx.on hb3)
  have Bo3 := Bo.on hb3
  have ho3 := Bo3.at1 0 _ rfl
  have hf3 := Bo3.frozen 0
  refine ⟨trivial, ?_⟩
  gi_at_call 25
  refine (CallsIn.inRound l (callsIn_wide.2 hadd3)).mono ?_
  rintro e w4 ⟨v4, rfl, hp4, hb4⟩
  have Bo4 := Bo3.on hb4
  have ho4 := Bo4.at1 0 _ rfl
  have hf4 := Bo4.frozen 0
  rw [hme.out] at hp4
  obtain ⟨a4, c4, rfl, hc4⟩ := hp4.shape
  gi_wp2
  have hb34 := hb3.trans (hb4.mono hb3.size)
  have hl := setCell_lr (j := 0) Bo4 (.slice a4 nx.length c4)
  have hs34 := hb34.size
  have hgw : w1.heap.size < W.heap.size := by omega
  have hgg : g < W.heap.size := by omega
  have hbk : ∀ k, k < W.heap.size → k ≠ w.heap.size + 1 → (w4.setCell ⟨w.heap.size + 1, 0, none⟩ (.slice a4 nx.length c4)).heap[k]? = W.heap[k]? := fun k h1 h2 =>
   (Below.heap_setCell _ _ _ k (fun e => h2 (by rw [e]))).trans (hb34.block k h1)
  have hne1 : w1.heap.size ≠ w.heap.size + 1 := by omega
  have hne2 : g ≠ w.heap.size + 1 := by omega
  have Bn := Bo4.set 0 (.slice a4 nx.length c4)
  have hkp : ∀ {v l}, IsPoly w4 v l → IsPoly (w4.setCell ⟨w.heap.size + 1, 0, none⟩ (.slice a4 nx.length c4)) v l := fun h => IsSl.lr h hl (elTerm_ok (by decide)) (by decide)
  refine ⟨(KeepsOthers.of_grownBy (below_grownBy hb34 none) (fun j o e => by cases e)).trans (KeepsOthers.setCell _ _ _), ⟨hbk _ hgw hne1, hbk _ hgg hne2⟩, ⟨⟨_, Bn, ?_⟩, ?_, fun i => hkp ((hpl i).on hb34), hkp (hqb.on hb34), by rw [World.size_setCell]; omega⟩, ?_⟩
  ·rw [hfold.out]; exact hkp hp4
  ·rw [← hbx]; exact cell_heap (hbk _ (by simp only; omega) (by simp only; omega))
  ·exact (hbw.trans (hb34.mono (by omega))).trans (setCell_below (by omega) _)
 case done =>
  rintro D ys W hD rfl ⟨⟨⟨vo, Bo, hpo⟩, hbx, hpl, hqb, hsz⟩, hbw⟩ hK
  have ho := Bo.at1 0 _ rfl
  have hf := Bo.frozen 0
  have hrev : (upto (fun k => L.length - 1 - k) L.length).map (fun i => L.getD i []) = L.reverse := by
   refine List.ext_getElem (by simp [upto]) fun i h1 h2 => ?_
   simp [upto] at h1
   simp [upto, List.getElem_reverse]
   rw [List.getElem?_eq_getElem (by omega)]; rfl
  rw [hrev] at hpo
  gi_wp2
  refine ⟨by simp, .inl ⟨_, _, rfl, run_takeDeferred hK, ?_⟩⟩
  refine ⟨_, results_tmp rfl _ _ _, _, rfl, ?_, ?_⟩
  ·exact Kept.poly (row := some D) ⟨grownBy_putObj' _ _ _, fun r e => by cases e; exact ⟨_, hK, rfl⟩⟩ hpo
  ·exact hbw.trans (belowK_b (w := w) (Nat.le_refl _) W D _ _ (by have := hbw2.size; omega) hK rfl rfl)
 case stop =>
  rintro D c pre W _ _ h _
  exact h.elim
end Go.Proofs.YtplfdeohokkebaaGreat
end
