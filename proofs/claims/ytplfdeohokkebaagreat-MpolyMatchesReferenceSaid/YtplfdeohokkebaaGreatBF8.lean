/- EqualFunc of terms, mpoly.Equal. -/
import Derived.Test.YtplfdeohokkebaaGreatBF7
set_option linter.unusedVariables false
set_option linter.unusedSimpArgs false
namespace Go.Proofs.YtplfdeohokkebaaGreat
open Go.RowKit Q Go.WideMaps Go.Maps
set_option maxHeartbeats 8000000 in
set_option maxRecDepth 100000 in
theorem equalFunc_any (vp vq : Value) (p q : List Trm) (w : World) (hp : IsPoly w vp p) (hq : IsPoly w vq q) (rp : ∀ t ∈ p, Rk t.2) (rq : ∀ t ∈ q, Rk t.2) (lp : p.length ≤ 1000000) :
    Calls Tryz.prog 81 #[vp, vq, .func (.func 82) #[] #[]] w (Ret w (.bool (decide (p = q)))) := by
  obtain ⟨ap, cp, rfl, hcp⟩ := hp.shape
  obtain ⟨aq, cq, rfl, hcq⟩ := hq.shape
  obtain ⟨R, hR⟩ : ∃ R, R = decide (p = q) := ⟨_, rfl⟩
  rw [← hR]
  replace hR := Lib.hid hR
  by_cases hl : p.length = q.length
  · have hne : ((p.length : Int) != q.length) = false := by simp [hl]
    replace rp := Lib.hid rp
    replace rq := Lib.hid rq
    have hlt : ∀ k : Nat, k < p.length → k < q.length := fun k h => by omega
    replace hl := Lib.hid hl
    replace hp := Lib.hid hp
    replace hq := Lib.hid hq
    go_enter Tryz.func81, Tryz.ntmps81
    go_wp2
    go_loopw [17] (fun i wr => ∃ k : Nat, k ≤ p.length ∧ i = .int .i64 k ∧ Hid (∀ j : Nat, j < k → p[j]? = q[j]?) ∧ Below w.heap.size w wr) (fun i _ => p.length - (intOf i).toNat)
    case atStart => exact ⟨0, by omega, rfl, Lib.hid (fun j h => by omega), Below.refl _ _⟩
    case round =>
      obtain ⟨k, hk, rfl, heq, hbr⟩ := hrel
      by_cases hkl : k < p.length
      · have hj1 : p[k]? = some p[k] := List.getElem?_eq_getElem hkl
        have hkq := hlt k hkl
        have hj2 : q[k]? = some q[k] := List.getElem?_eq_getElem hkq
        generalize p[k] = s at hj1
        generalize q[k] = t at hj2
        obtain ⟨b1, o1, r1, rfl, hr1, hC1⟩ := cell_term (hp.out.on hbr) hj1
        obtain ⟨b2, o2, r2, rfl, hr2, hC2⟩ := cell_term (hq.out.on hbr) hj2
        have hks := rp.out s (List.mem_of_getElem? hj1)
        have hkt := rq.out t (List.mem_of_getElem? hj2)
        have hkl' : (k : Int) < p.length := by omega
        have hkq' : (k : Int) < q.length := by omega
        have hcl := fun (c1 c2 : List Value) W (h1 : IsTerm W c1 s) (h2 : IsTerm W c2 t) => eqTerm_any c1 c2 s t W h1 h2 hks hkt
        have hstep : s = t → Hid (∀ j : Nat, j < k + 1 → p[j]? = q[j]?) := fun h j hj => by
          rcases Nat.lt_or_ge j k with h' | h'
          · exact heq.out j h'
          · obtain rfl : j = k := by omega
            rw [hj1, hj2, h]
        have hstop : s ≠ t → Hid (R = false) := fun h => by
          rw [hR.out, decide_eq_false_iff_not]
          intro hpq
          rw [hpq, hj2] at hj1
          exact h (Option.some.inj hj1.symm)
        clear hj1 hj2 heq hks hkt
        obtain ⟨⟨x1, x2, x3, x4⟩, s2⟩ := s
        obtain ⟨⟨y1, y2, y3, y4⟩, t2⟩ := t
        simp only [exC, List.cons_append, List.nil_append] at hr1 hr2 hC1 hC2
        obtain ⟨n1, a1, k1, c1, n1', a1', k1', c1', rfl, i1, i1'⟩ := id hr1
        obtain ⟨n2, a2, k2, c2, n2', a2', k2', c2', rfl, i2, i2'⟩ := id hr2
        clear i1 i1' i2 i2'
        have R1 := hC1.range
        have R2 := hC2.range
        go_upto_region 6 with (first
          | (refine wpList_index_at rfl _ _ 38 rfl monoT Tryz.underlying38 _ 8 96 (by kernel_rfl) _ _ _ rfl .i64 _ rfl k rfl hkl b1 o1 rfl ?_)
          | (refine wpList_load_mid rfl 37 _ rfl _ _ rfl _ _ R1 Tryz.underlying37 rfl (by kernel_rfl) ?_))
        refine abs1 fun W1 hb1 B1 hs1 => ?_
        have R2' := (hC2.on hb1).range
        go_upto_region 7 with (first
          | (refine wpList_index_at rfl _ _ 38 rfl monoT Tryz.underlying38 _ 8 96 (by kernel_rfl) _ _ _ rfl .i64 _ rfl k rfl hkq b2 o2 rfl ?_)
          | (refine wpList_load_mid rfl 37 _ rfl _ _ rfl _ _ R2' Tryz.underlying37 rfl (by kernel_rfl) ?_))
        refine abs1 fun W2 hb2 B2 hs2 => ?_
        have B1' := B1.on hb2
        have hb12 := hb1.trans (hb2.mono hb1.size)
        have T1 : IsTerm W2 [.int .i64 x1, .int .i64 x2, .int .i64 x3, .int .i64 x4, .bool n1, .slice a1 k1 c1, .bool n1', .slice a1' k1' c1'] ((x1, x2, x3, x4), s2) := ⟨_, rfl, hr1.on hb12⟩
        have T2 : IsTerm W2 [.int .i64 y1, .int .i64 y2, .int .i64 y3, .int .i64 y4, .bool n2, .slice a2 k2 c2, .bool n2', .slice a2' k2' c2'] ((y1, y2, y3, y4), t2) := ⟨_, rfl, hr2.on hb12⟩
        have hcl2 := hcl _ _ W2 T1 T2
        have hbr2 := hbr.trans (hb12.mono hbr.size)
        have z0 := B1'.at1 0 _ rfl
        have z1 := B1'.at1 1 _ rfl
        have z2 := B1'.at1 2 _ rfl
        have z3 := B1'.at1 3 _ rfl
        have z4 := B1'.at1 4 _ rfl
        have z5 := B1'.at1 5 _ rfl
        have z6 := B1'.at1 6 _ rfl
        have z7 := B1'.at1 7 _ rfl
        have g0 := B2.at1 0 _ rfl
        have g1 := B2.at1 1 _ rfl
        have g2 := B2.at1 2 _ rfl
        have g3 := B2.at1 3 _ rfl
        have g4 := B2.at1 4 _ rfl
        have g5 := B2.at1 5 _ rfl
        have g6 := B2.at1 6 _ rfl
        have g7 := B2.at1 7 _ rfl
        clear hcl T1 T2 R1 R2 R2' hC1 hC2 hr1 hr2 hs1 hs2
        by_cases hst : (((x1, x2, x3, x4), s2) : Trm) = ((y1, y2, y3, y4), t2)
        · have hs := hstep hst
          rw [decide_eq_true hst] at hcl2
          replace hcl2 := Lib.hid hcl2
          clear hstep hstop hst
          go_wp2_with (go_at_call 82; refine hcl2.out.mono ?_; rintro en w3 ⟨rfl, hb3⟩)
          go_roundw
          case rel => exact ⟨k + 1, by omega, by go_num, hs, hbr2.trans (hb3.mono hbr2.size)⟩
          case measure => simp [intOf]; omega
        · have hs := hstop hst
          rw [decide_eq_false hst] at hcl2
          replace hcl2 := Lib.hid hcl2
          clear hstep hstop hst
          go_wp2_with (go_at_call 82; refine hcl2.out.mono ?_; rintro en w3 ⟨rfl, hb3⟩)
          go_ret
          exact ⟨by rw [hs.out] <;> rfl, hbr2.trans (hb3.mono hbr2.size)⟩
      · have hst : Hid (R = true) := by
          have := eq_at hl.out (fun j hj => heq.out j (by omega))
          exact Lib.hid (by rw [hR.out]; simpa using this)
        go_wp2
        go_ret
        exact ⟨by rw [hst.out] <;> rfl, hbr⟩
  · have hne : ((p.length : Int) != q.length) = true := by simp; omega
    have hst : Hid (R = false) := Lib.hid (by rw [hR.out, decide_eq_false_iff_not]; intro h; exact hl (by rw [h]))
    clear hl
    go_enter Tryz.func81, Tryz.ntmps81
    go_wp2
    go_ret
    exact ⟨by rw [hst.out] <;> rfl, Below.refl _ _⟩
theorem equalK {s t : Sz} {v u : Value} {p q : List Trm} {w : World} (hP : Pk s p) (hQ : Pk t q) (hp : IsPoly w v p) (hq : IsPoly w u q) : Calls Tryz.prog 54 #[v, u] w (Ret w (.bool (decide (p = q)))) := by
  have hc := Lib.hid (equalFunc_any v u p q w hp hq hP.rk hQ.rk hP.len)
  obtain ⟨a, c, rfl, -⟩ := hp.shape
  obtain ⟨a', c', rfl, -⟩ := hq.shape
  replace hp := Lib.hid hp
  replace hq := Lib.hid hq
  generalize decide (p = q) = R at *
  go_enter Tryz.func54, Tryz.ntmps54
  go_wp2_with (go_at_call 81; refine hc.out.mono ?_; rintro en w3 ⟨rfl, hb3⟩)
  go_ret
  exact ⟨rfl, hb3⟩
end Go.Proofs.YtplfdeohokkebaaGreat
