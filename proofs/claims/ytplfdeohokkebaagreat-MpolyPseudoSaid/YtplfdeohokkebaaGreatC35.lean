/- Readings: a list of drawn terms that came in. -/
import Derived.Test.YtplfdeohokkebaaGreatC34
import Derived.Deep.Slices
import Derived.OpenShut
set_option linter.unusedVariables false
set_option linter.unusedSimpArgs false
namespace Go.Proofs.YtplfdeohokkebaaGreat
open Go.RowKit Go.ChangeShapes Go.WideShapes Go.Deep Q
theorem flat_get {α β : Type} {g : α → List β} {n : Nat} (hg : ∀ a, (g a).length = n) : ∀ (l : List α) (i q : Nat), q < n → (l.flatMap g)[i * n + q]? = (l[i]?).bind fun a => (g a)[q]?
 | [], i, q, _ => by simp
 | a :: l, 0, q, hq => by
  rw [List.flatMap_cons, Nat.zero_mul, Nat.zero_add, List.getElem?_append_left (by rw [hg]; exact hq)]; rfl
 | a :: l, i + 1, q, hq => by
  rw [List.flatMap_cons, List.getElem?_append_right (by rw [hg, Nat.add_mul]; omega), hg, show (i + 1) * n + q - n = i * n + q by rw [Nat.add_mul]; omega, flat_get hg l i q hq]
  rfl
theorem elems_draw {T : TypeId} {w : World} : ∀ {l : List Drw}, (∀ t ∈ l, RawOk t) → Elems (elDraw T).E w (l.flatMap drawC) l
 | [], _ => rfl
 | t :: l, h => ⟨drawC t, l.flatMap drawC, rfl, ⟨rfl, h t (by simp)⟩, elems_draw fun s hs => h s (by simp [hs])⟩
theorem cellsTerm : Tryz.prog.cellsOf 28 = 5 := by kernel_rfl
theorem cellsArr8 : Tryz.prog.cellsOf 25 = 4 := by kernel_rfl
theorem cellsU8 : Tryz.prog.cellsOf 5 = 1 := by kernel_rfl
theorem cellsI8 : Tryz.prog.cellsOf 26 = 1 := by kernel_rfl
section
variable {H : Type} {enc : TypeId × Value → H} {w : World}
set_option maxRecDepth 100000 in
theorem draw_elem {fuel : Nat} {cs : List Value} {x : DataW H × List MemPlace} (h : DataW.trod enc Tryz.prog w 0 (fun _ => true) true fuel 28 cs = some x) : ∃ t : Drw, cs = drawC t ∧ RawOk t := by
 obtain ⟨y0, y1, n, -, hl, h0, h1⟩ := trod_struct2 Tryz.underlying28 h
 rw [cellsTerm] at hl
 match cs, hl with
 | [a0, a1, a2, a3, a4], _ =>
  change DataW.trod enc Tryz.prog w 0 (fun _ => true) true n 25 (([a0, a1, a2, a3, a4].drop 0).take (Tryz.prog.cellsOf 25)) = some y0 at h0
  change DataW.trod enc Tryz.prog w 0 (fun _ => true) true n 26 (([a0, a1, a2, a3, a4].drop 4).take (Tryz.prog.cellsOf 26)) = some y1 at h1
  rw [cellsArr8] at h0
  rw [cellsI8] at h1
  obtain ⟨xs, m, -, -, hla, hxl, hx⟩ := DataW.trod_array Tryz.underlying25 h0
  obtain ⟨c, e4, -, w4⟩ := DataW.trod_int Tryz.underlying26 (show DataW.trod enc Tryz.prog w 0 (fun _ => true) true n 26 [a4] = some y1 from h1)
  have g : ∀ i (v : Value), i < 4 → [a0, a1, a2, a3][i]? = some v → ∃ z, v = .int .u8 z ∧ (Lit.int .u8 z).wf = true := by
   intro i v hi hv
   have hxi := hx i hi
   rw [cellsU8] at hxi
   have hsome : ∃ y, xs[i]? = some y := by
    cases he : xs[i]? with
    | some y => exact ⟨y, rfl⟩
    | none =>
     exfalso
     have := List.getElem?_eq_none_iff.1 he
     omega
   obtain ⟨y, hy⟩ := hsome
   rw [hy] at hxi
   have e : ((([a0, a1, a2, a3, a4].drop 0).take 4).drop (i * 1)).take 1 = [v] := by
    obtain rfl | rfl | rfl | rfl : i = 0 ∨ i = 1 ∨ i = 2 ∨ i = 3 := by omega
    all_goals (simp at hv; subst hv; rfl)
   obtain ⟨z, e1, -, wz⟩ := DataW.trod_int Tryz.underlying5 (show DataW.trod enc Tryz.prog w 0 (fun _ => true) true m 5 [v] = some y by rw [← e]; exact hxi)
   simp at e1
   exact ⟨z, e1, wz⟩
  obtain ⟨z0, rfl, b0⟩ := g 0 a0 (by omega) rfl
  obtain ⟨z1, rfl, b1⟩ := g 1 a1 (by omega) rfl
  obtain ⟨z2, rfl, b2⟩ := g 2 a2 (by omega) rfl
  obtain ⟨z3, rfl, b3⟩ := g 3 a3 (by omega) rfl
  simp at e4
  subst e4
  have c0 := bounds_u8 b0; have c1 := bounds_u8 b1; have c2 := bounds_u8 b2; have c3 := bounds_u8 b3; have c4 := bounds_i8 w4
  exact ⟨(z0, z1, z2, z3, c), rfl, ⟨by simp only; omega, by simp only; omega⟩, ⟨by simp only; omega, by simp only; omega⟩, ⟨by simp only; omega, by simp only; omega⟩, ⟨by simp only; omega, by simp only; omega⟩, by simp only; omega, by simp only; omega⟩
theorem draw_of {fuel : Nat} {a0 : Option Addr} {len cap : Nat} {x : DataW H × List MemPlace} (h : DataW.trod enc Tryz.prog w 0 (fun _ => true) true fuel 22 [.slice a0 len cap] = some x) : ∃ L, IsDraw w (.slice a0 len cap) L := by
 rcases open_slice Tryz.underlying22 h with ⟨hcs, -⟩ | ⟨a, l, c, m, n, D, Pl, hcs, -, hl, -, hm, -, hx⟩
 ·simp at hcs
  obtain ⟨rfl, rfl, rfl⟩ := hcs
  exact ⟨[], 0, IsSl.nil _ _⟩
 ·simp at hcs
  obtain ⟨rfl, rfl, rfl⟩ := hcs
  simp only [if_true] at hm
  rw [cellsTerm] at hx
  obtain ⟨f, hf⟩ := choose_lt (α := Drw) (n := len) (p := fun i t => RawOk t ∧ ∀ j, j < 5 → w.cell? ((a.add (i * 5)).add j) = (drawC t)[j]?) (fun i hi => by
   obtain ⟨cs', h1, h2⟩ := hx i (by omega)
   obtain ⟨t, rfl, hok⟩ := draw_elem h2
   exact ⟨t, hok, (World.cells?_some h1).2.2⟩)
  rcases Nat.eq_zero_or_pos len with h0 | hpos
  ·subst h0
   exact ⟨[], 0, some a, cap, [], rfl, by simp, At.nil, rfl⟩
  have hcell0 : w.cell? a = (drawC (f 0))[0]? := by
   have := (hf 0 hpos).2 0 (by omega)
   simpa [Addr.add] using this
  obtain ⟨b, off, spot⟩ := a
  have hspot : spot = none := by simpa using World.cell?_spot hcell0
  subst hspot
  have hblk : ∃ C T fr, w.heap[b]? = some (.cells C T fr) := by
   cases hh : w.heap[b]? with
   | none => simp [World.cell?, hh, drawC] at hcell0
   | some o => cases o with
    | cells C T fr => exact ⟨C, T, fr, rfl⟩
    | _ => simp [World.cell?, hh, drawC] at hcell0
  obtain ⟨C, T, fr, hC⟩ := hblk
  refine ⟨(List.range len).map f, T, some ⟨b, off, none⟩, cap, ((List.range len).map f).flatMap drawC, by simp, by simpa using hl, fun _ => ⟨b, off, rfl, C, fr, hC, ?_⟩, ?_⟩
  ·intro j hj
   have hlen : ∀ t : Drw, (drawC t).length = 5 := fun _ => rfl
   have hj5 : j < len * 5 := by
    have : (((List.range len).map f).flatMap drawC).length = len * 5 := (elems_draw (T := T) (w := w) (l := (List.range len).map f) (fun t ht => by
     obtain ⟨i, hi, rfl⟩ := List.mem_map.1 ht
     exact (hf i (List.mem_range.1 hi)).1)).length.trans (by simp [elDraw])
    omega
   have e : j = j / 5 * 5 + j % 5 := by omega
   have hi : j / 5 < len := by omega
   have h1 := (hf (j / 5) hi).2 (j % 5) (by omega)
   rw [Go.Deep.add_add] at h1
   have h2 : w.cell? ((⟨b, off, none⟩ : Addr).add j) = C[off + j]? := by
    rw [Addr.add_mid]; simp [World.cell?, hC]
   rw [← e, h2] at h1
   rw [h1]
   conv => rhs; rw [e, flat_get hlen _ _ _ (show j % 5 < 5 by omega)]
   simp [hi]
  ·exact elems_draw fun t ht => by
    obtain ⟨i, hi, rfl⟩ := List.mem_map.1 ht
    exact (hf i (List.mem_range.1 hi)).1
theorem arr_ints {T e : TypeId} {n : Nat} {k : IntKind} (hT : Tryz.prog.underlying T = some (.array n e)) (he : Tryz.prog.underlying e = some (.int k)) (hc : Tryz.prog.cellsOf e = 1) {fuel : Nat} {cs : List Value} {x : DataW H × List MemPlace}
  (h : DataW.trod enc Tryz.prog w 0 (fun _ => true) true fuel T cs = some x) (i : Nat) (v : Value) (hi : i < n) (hv : cs[i]? = some v) : ∃ z, v = .int k z ∧ (Lit.int k z).wf = true := by
 obtain ⟨xs, m, -, -, hla, hxl, hx⟩ := DataW.trod_array hT h
 have hxi := hx i hi
 rw [hc, Nat.mul_one] at hxi
 obtain ⟨y, hy⟩ : ∃ y, xs[i]? = some y := ⟨xs[i], List.getElem?_eq_getElem (by omega)⟩
 rw [hy] at hxi
 have hil : i < cs.length := (List.getElem?_eq_some_iff.1 hv).1
 have e : (cs.drop i).take 1 = [v] := by
  rw [List.drop_eq_getElem_cons hil, List.take_succ_cons, List.take_zero]
  rw [List.getElem?_eq_getElem hil] at hv
  rw [Option.some.inj hv]
 rw [e] at hxi
 obtain ⟨z, e1, -, wz⟩ := DataW.trod_int he hxi
 simp at e1
 exact ⟨z, e1, wz⟩
set_option maxRecDepth 100000 in
theorem pair_of {v : Value} {d : DataW H} {ps : List MemPlace} {b0 : Nat} (hv : Value.okWide Tryz.prog w .any b0 51 v) (h : DataW.Trod enc Tryz.prog w 0 (fun _ => true) true 51 v d ps) :
  ∃ x y, v = .agg #[.int .u8 x, .int .u8 y] ∧ 0 ≤ x ∧ x < 256 ∧ 0 ≤ y ∧ y < 256 := by
 simp only [Value.okWide, Tryz.underlying51] at hv
 obtain ⟨⟨cs⟩, rfl, h2, -⟩ := hv
 have h2' : cs.length = 2 := h2.trans (show Tryz.prog.cellsOf 51 = 2 by kernel_rfl)
 obtain ⟨fuel, hf⟩ := h
 match cs, h2' with
 | [a, b], _ =>
  have g := arr_ints (fuel := fuel) (cs := [a, b]) Tryz.underlying51 Tryz.underlying5 cellsU8 hf
  obtain ⟨x, rfl, wx⟩ := g 0 a (by omega) rfl
  obtain ⟨y, rfl, wy⟩ := g 1 b (by omega) rfl
  have := bounds_u8 wx; have := bounds_u8 wy
  exact ⟨x, y, rfl, by omega, by omega, by omega, by omega⟩
set_option maxRecDepth 100000 in
theorem quad_of {v : Value} {d : DataW H} {ps : List MemPlace} {b0 : Nat} (hv : Value.okWide Tryz.prog w .any b0 69 v) (h : DataW.Trod enc Tryz.prog w 0 (fun _ => true) true 69 v d ps) :
  ∃ x y z u, v = .agg #[.int .i8 x, .int .i8 y, .int .i8 z, .int .i8 u] ∧ (-128 ≤ x ∧ x < 128) ∧ (-128 ≤ y ∧ y < 128) ∧ (-128 ≤ z ∧ z < 128) ∧ -128 ≤ u ∧ u < 128 := by
 simp only [Value.okWide, Tryz.underlying69] at hv
 obtain ⟨⟨cs⟩, rfl, h2, -⟩ := hv
 have h2' : cs.length = 4 := h2.trans (show Tryz.prog.cellsOf 69 = 4 by kernel_rfl)
 obtain ⟨fuel, hf⟩ := h
 match cs, h2' with
 | [a, b, c, e], _ =>
  have g := arr_ints (fuel := fuel) (cs := [a, b, c, e]) Tryz.underlying69 Tryz.underlying26 cellsI8 hf
  obtain ⟨x, rfl, wx⟩ := g 0 a (by omega) rfl
  obtain ⟨y, rfl, wy⟩ := g 1 b (by omega) rfl
  obtain ⟨z, rfl, wz⟩ := g 2 c (by omega) rfl
  obtain ⟨u, rfl, wu⟩ := g 3 e (by omega) rfl
  have := bounds_i8 wx; have := bounds_i8 wy; have := bounds_i8 wz; have := bounds_i8 wu
  exact ⟨x, y, z, u, rfl, by omega, by omega, by omega, by omega⟩
end
end Go.Proofs.YtplfdeohokkebaaGreat
