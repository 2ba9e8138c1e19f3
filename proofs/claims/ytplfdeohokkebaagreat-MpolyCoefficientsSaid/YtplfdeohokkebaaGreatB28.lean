/- The reference's polynomials: Var, Const, Whole, Equal, Same. law07.term. Slices of terms; facts for terms. mpoly.Div. -/
import Derived.Test.YtplfdeohokkebaaGreatB25
import Derived.Test.YtplfdeohokkebaaGreatB27
set_option linter.unusedVariables false
set_option linter.unusedSimpArgs false
section
namespace Go.Proofs.YtplfdeohokkebaaGreat
open Go.RowKit Q Go.WideMaps Go.Maps
set_option maxHeartbeats 4000000 in
set_option maxRecDepth 100000 in
theorem var7_any (v : Nat) (w : World) (hv : v < 4) : Calls Tryz.prog 37 #[.int .i64 v] w (RetPoly w (varP v)) := by
  have hw := fun W => whole2_any 1 W (by omega) (by omega)
  obtain rfl | rfl | rfl | rfl : v = 0 ∨ v = 1 ∨ v = 2 ∨ v = 3 := by omega
  · go_enter Tryz.func37, Tryz.ntmps37
    go_upto_region 2 with (go_at_call 13; refine (hw _).mono ?_; rintro e w1 ⟨v1, rfl, hv1, hb1⟩; obtain ⟨n, a, k, c, n', a', k', c', rfl⟩ := rat_agg hv1)
    refine abs1 fun W hb2 B hsz => ?_
    have z := B.at1 0 _ rfl
    have hf := B.frozen 0
    go_upto_region 3 with (fail)
    have B' := B.set 0 (.int .i64 1)
    have hb3 : Below w1.heap.size W (W.setCell ⟨w1.heap.size, 0, none⟩ (.int .i64 1)) := setCell_below (Nat.le_refl _) _
    generalize W.setCell ⟨w1.heap.size, 0, none⟩ (.int .i64 1) = W3 at *
    have hv3 := (hv1.on hb2)
    have hb13 := hb2.trans hb3
    have z1 := B'.at1 0 _ rfl
    have z2 := B'.at1 1 _ rfl
    have z3 := B'.at1 2 _ rfl
    have z4 := B'.at1 3 _ rfl
    have y1 := B'.at1 4 _ rfl
    have y2 := B'.at1 5 _ rfl
    have y3 := B'.at1 6 _ rfl
    have y4 := B'.at1 7 _ rfl
    clear z hf
    go_wp2
    go_ret
    have hba : Below W3.heap.size W3 (W3.alloc (.cells #[.int .i64 1, .int .i64 0, .int .i64 0, .int .i64 0, .bool n, .slice a k c, .bool n', .slice a' k' c'] monoT)) := (Below.refl _ _).alloc (Nat.le_refl _) _
    have hb1a := hb13.trans (hba.mono hb13.size)
    exact ⟨_, rfl, isSl_new1 (t := (unitE 0, 1)) (Blk.new W3 monoT [.int .i64 1, .int .i64 0, .int .i64 0, .int .i64 0, .bool n, .slice a k c, .bool n', .slice a' k' c']) ⟨[.bool n, .slice a k c, .bool n', .slice a' k' c'], rfl, (hv1.on hb1a).cellsC⟩, hb1.trans (hb1a.mono hb1.size)⟩
  · go_enter Tryz.func37, Tryz.ntmps37
    go_upto_region 2 with (go_at_call 13; refine (hw _).mono ?_; rintro e w1 ⟨v1, rfl, hv1, hb1⟩; obtain ⟨n, a, k, c, n', a', k', c', rfl⟩ := rat_agg hv1)
    refine abs1 fun W hb2 B hsz => ?_
    have z := B.at1 1 _ rfl
    have hf := B.frozen 1
    go_upto_region 3 with (fail)
    have B' := B.set 1 (.int .i64 1)
    have hb3 : Below w1.heap.size W (W.setCell ⟨w1.heap.size, 1, none⟩ (.int .i64 1)) := setCell_below (Nat.le_refl _) _
    generalize W.setCell ⟨w1.heap.size, 1, none⟩ (.int .i64 1) = W3 at *
    have hv3 := (hv1.on hb2)
    have hb13 := hb2.trans hb3
    have z1 := B'.at1 0 _ rfl
    have z2 := B'.at1 1 _ rfl
    have z3 := B'.at1 2 _ rfl
    have z4 := B'.at1 3 _ rfl
    have y1 := B'.at1 4 _ rfl
    have y2 := B'.at1 5 _ rfl
    have y3 := B'.at1 6 _ rfl
    have y4 := B'.at1 7 _ rfl
    clear z hf
    go_wp2
    go_ret
    have hba : Below W3.heap.size W3 (W3.alloc (.cells #[.int .i64 0, .int .i64 1, .int .i64 0, .int .i64 0, .bool n, .slice a k c, .bool n', .slice a' k' c'] monoT)) := (Below.refl _ _).alloc (Nat.le_refl _) _
    have hb1a := hb13.trans (hba.mono hb13.size)
    exact ⟨_, rfl, isSl_new1 (t := (unitE 1, 1)) (Blk.new W3 monoT [.int .i64 0, .int .i64 1, .int .i64 0, .int .i64 0, .bool n, .slice a k c, .bool n', .slice a' k' c']) ⟨[.bool n, .slice a k c, .bool n', .slice a' k' c'], rfl, (hv1.on hb1a).cellsC⟩, hb1.trans (hb1a.mono hb1.size)⟩
  · go_enter Tryz.func37, Tryz.ntmps37
    go_upto_region 2 with (go_at_call 13; refine (hw _).mono ?_; rintro e w1 ⟨v1, rfl, hv1, hb1⟩; obtain ⟨n, a, k, c, n', a', k', c', rfl⟩ := rat_agg hv1)
    refine abs1 fun W hb2 B hsz => ?_
    have z := B.at1 2 _ rfl
    have hf := B.frozen 2
    go_upto_region 3 with (fail)
    have B' := B.set 2 (.int .i64 1)
    have hb3 : Below w1.heap.size W (W.setCell ⟨w1.heap.size, 2, none⟩ (.int .i64 1)) := setCell_below (Nat.le_refl _) _
    generalize W.setCell ⟨w1.heap.size, 2, none⟩ (.int .i64 1) = W3 at *
    have hv3 := (hv1.on hb2)
    have hb13 := hb2.trans hb3
    have z1 := B'.at1 0 _ rfl
    have z2 := B'.at1 1 _ rfl
    have z3 := B'.at1 2 _ rfl
    have z4 := B'.at1 3 _ rfl
    have y1 := B'.at1 4 _ rfl
    have y2 := B'.at1 5 _ rfl
    have y3 := B'.at1 6 _ rfl
    have y4 := B'.at1 7 _ rfl
    clear z hf
    go_wp2
    go_ret
    have hba : Below W3.heap.size W3 (W3.alloc (.cells #[.int .i64 0, .int .i64 0, .int .i64 1, .int .i64 0, .bool n, .slice a k c, .bool n', .slice a' k' c'] monoT)) := (Below.refl _ _).alloc (Nat.le_refl _) _
    have hb1a := hb13.trans (hba.mono hb13.size)
    exact ⟨_, rfl, isSl_new1 (t := (unitE 2, 1)) (Blk.new W3 monoT [.int .i64 0, .int .i64 0, .int .i64 1, .int .i64 0, .bool n, .slice a k c, .bool n', .slice a' k' c']) ⟨[.bool n, .slice a k c, .bool n', .slice a' k' c'], rfl, (hv1.on hb1a).cellsC⟩, hb1.trans (hb1a.mono hb1.size)⟩
  · go_enter Tryz.func37, Tryz.ntmps37
    go_upto_region 2 with (go_at_call 13; refine (hw _).mono ?_; rintro e w1 ⟨v1, rfl, hv1, hb1⟩; obtain ⟨n, a, k, c, n', a', k', c', rfl⟩ := rat_agg hv1)
    refine abs1 fun W hb2 B hsz => ?_
    have z := B.at1 3 _ rfl
    have hf := B.frozen 3
    go_upto_region 3 with (fail)
    have B' := B.set 3 (.int .i64 1)
    have hb3 : Below w1.heap.size W (W.setCell ⟨w1.heap.size, 3, none⟩ (.int .i64 1)) := setCell_below (Nat.le_refl _) _
    generalize W.setCell ⟨w1.heap.size, 3, none⟩ (.int .i64 1) = W3 at *
    have hv3 := (hv1.on hb2)
    have hb13 := hb2.trans hb3
    have z1 := B'.at1 0 _ rfl
    have z2 := B'.at1 1 _ rfl
    have z3 := B'.at1 2 _ rfl
    have z4 := B'.at1 3 _ rfl
    have y1 := B'.at1 4 _ rfl
    have y2 := B'.at1 5 _ rfl
    have y3 := B'.at1 6 _ rfl
    have y4 := B'.at1 7 _ rfl
    clear z hf
    go_wp2
    go_ret
    have hba : Below W3.heap.size W3 (W3.alloc (.cells #[.int .i64 0, .int .i64 0, .int .i64 0, .int .i64 1, .bool n, .slice a k c, .bool n', .slice a' k' c'] monoT)) := (Below.refl _ _).alloc (Nat.le_refl _) _
    have hb1a := hb13.trans (hba.mono hb13.size)
    exact ⟨_, rfl, isSl_new1 (t := (unitE 3, 1)) (Blk.new W3 monoT [.int .i64 0, .int .i64 0, .int .i64 0, .int .i64 1, .bool n, .slice a k c, .bool n', .slice a' k' c']) ⟨[.bool n, .slice a k c, .bool n', .slice a' k' c'], rfl, (hv1.on hb1a).cellsC⟩, hb1.trans (hb1a.mono hb1.size)⟩

/-- the value of an exponent's cell -/

theorem canon_one (c : Rat) : canon [(e0, c)] = constP c := by
  show ins [] (e0, c) = _
  unfold ins constP
  by_cases h : c = 0
  · rw [if_pos h, if_neg (by simp [h])]
  · rw [if_neg h, if_pos ⟨h, rfl⟩]
set_option maxHeartbeats 2000000 in
set_option maxRecDepth 100000 in
theorem const7_any (v : Value) (c : Rat) (s : Sz) (w : World) (h : IsRat w v c) (hb : Bd s [(e0, c)]) (hs : s.ok) : Calls Tryz.prog 49 #[v] w (RetPoly w (constP c)) := by
  obtain ⟨n, a, k, q, n', a', k', q', rfl⟩ := rat_agg h
  have hmk := fun W v hv => make7_any v [(e0, c)] s W hv hb hs
  rw [canon_one] at hmk
  clear hb hs
  go_enter Tryz.func49, Tryz.ntmps49
  go_upto_region 1 with (fail)
  refine abs1 fun W hb B hsz => ?_
  have y1 := B.at1 0 _ rfl
  have y2 := B.at1 1 _ rfl
  have y3 := B.at1 2 _ rfl
  have y4 := B.at1 3 _ rfl
  have hba : Below W.heap.size W (W.alloc (.cells #[.int .i64 0, .int .i64 0, .int .i64 0, .int .i64 0, .bool n, .slice a k q, .bool n', .slice a' k' q'] monoT)) := (Below.refl _ _).alloc (Nat.le_refl _) _
  have hsl : IsPoly (W.alloc (.cells #[.int .i64 0, .int .i64 0, .int .i64 0, .int .i64 0, .bool n, .slice a k q, .bool n', .slice a' k' q'] monoT)) (.slice (some ⟨W.heap.size, 0, none⟩) 1 1) [(e0, c)] :=
    isSl_new1 (t := (e0, c)) (Blk.new W monoT [.int .i64 0, .int .i64 0, .int .i64 0, .int .i64 0, .bool n, .slice a k q, .bool n', .slice a' k' q']) ⟨[.bool n, .slice a k q, .bool n', .slice a' k' q'], rfl, ((h.on hb).on hba).cellsC⟩
  go_wp2_with (go_at_call 18; refine (hmk _ _ hsl).mono ?_; rintro e w4 ⟨v4, rfl, hv4, hb4⟩)
  go_ret
  exact ⟨_, rfl, hv4, hb.trans ((hba.trans (hb4.mono hba.size)).mono hb.size)⟩
set_option maxHeartbeats 1000000 in
theorem whole7_any (n : Int) (s : Sz) (w : World) (h1 : -4611686018427387904 ≤ n) (h2 : n ≤ 4611686018427387904) (hb : Bd s [(e0, (n : Rat))]) (hs : s.ok) : Calls Tryz.prog 42 #[.int .i64 n] w (RetPoly w (constP n)) := by
  go_enter Tryz.func42, Tryz.ntmps42
  go_wp2_with (first
    | (go_at_call 13; refine (whole2_any n _ h1 h2).mono ?_; rintro e w1 ⟨v1, rfl, hv1, hb1⟩)
    | (go_at_call 49; refine (const7_any _ _ s _ hv1 hb hs).mono ?_; rintro e w2 ⟨v2, rfl, hv2, hb2⟩))
  go_ret
  exact ⟨_, rfl, hv2, hb1.trans (hb2.mono hb1.size)⟩
theorem eq_at {p q : List Trm} (hl : p.length = q.length) (h : ∀ j : Nat, j < p.length → p[j]? = q[j]?) : p = q := by
  apply List.ext_getElem? ; intro j
  by_cases hj : j < p.length
  · exact h j hj
  · rw [List.getElem?_eq_none (by omega), List.getElem?_eq_none (by omega)]
set_option maxHeartbeats 4000000 in
set_option maxRecDepth 100000 in
theorem equal7_any (vp vq : Value) (p q : List Trm) (w : World) (hp : IsPoly w vp p) (hq : IsPoly w vq q) (rp : ∀ t ∈ p, Rk t.2) (rq : ∀ t ∈ q, Rk t.2) (lp : p.length ≤ 1000000) :
    Calls Tryz.prog 66 #[vp, vq] w (Ret w (.bool (decide (p = q)))) := by
  obtain ⟨ap, cp, rfl, hcp⟩ := hp.shape
  obtain ⟨aq, cq, rfl, hcq⟩ := hq.shape
  obtain ⟨R, hR⟩ : ∃ R, R = decide (p = q) := ⟨_, rfl⟩
  rw [← hR]
  replace hR := Lib.hid hR
  by_cases hl : p.length = q.length
  · have hne : ((p.length : Int) != q.length) = false := by simp [hl]
    replace rp := Lib.hid rp
    replace rq := Lib.hid rq
    replace hl := Lib.hid hl
    go_enter Tryz.func66, Tryz.ntmps66
    go_wp2
    go_loopw [5] (fun i wr => ∃ k : Nat, k ≤ p.length ∧ i = .int .i64 k ∧ Hid (∀ j : Nat, j < k → p[j]? = q[j]?) ∧ Below w.heap.size w wr) (fun i _ => p.length - (intOf i).toNat)
    case atStart => exact ⟨0, by omega, rfl, Lib.hid (fun j h => by omega), Below.refl _ _⟩
    case round =>
      obtain ⟨k, hk, rfl, heq, hbr⟩ := hrel
      by_cases hkl : k < p.length
      · have hj1 : p[k]? = some p[k] := List.getElem?_eq_getElem hkl
        have hkq : k < q.length := by have := hl.out; omega
        have hj2 : q[k]? = some q[k] := List.getElem?_eq_getElem hkq
        generalize p[k] = s at hj1
        generalize q[k] = t at hj2
        obtain ⟨b1, o1, cs1, rfl, -, hE1, hC1⟩ := hp.get hj1
        obtain ⟨b2, o2, cs2, rfl, -, hE2, hC2⟩ := hq.get hj2
        obtain ⟨r1, rfl, hr1⟩ := hE1
        obtain ⟨r2, rfl, hr2⟩ := hE2
        change Cells monoT w b1 (o1 + k * 8) _ at hC1
        change Cells monoT w b2 (o2 + k * 8) _ at hC2
        have hks := rp.out s (List.mem_of_getElem? hj1)
        have hkt := rq.out t (List.mem_of_getElem? hj2)
        have hkl' : (k : Int) < p.length := by omega
        have hl1 := hr1.len
        have hl2 := hr2.len
        have hex := fun W' => eq_ex s.1 t.1 W'
        have hstep : s = t → Hid (∀ j : Nat, j < k + 1 → p[j]? = q[j]?) := fun h j hj => by
          rcases Nat.lt_or_ge j k with h' | h'
          · exact heq.out j h'
          · obtain rfl : j = k := by omega
            rw [hj1, hj2, h]
        have hstop : s ≠ t → Hid (R = false) := fun h => by
          rw [hR.out, decide_eq_false_iff_not]
          intro hpq
          rw [hpq, hj2] at hj1
          exact h (Option.some.inj hj1.symm)
        clear hj1 hj2 heq
        go_upto_region 6 with (fail)
        by_cases he : s.1 = t.1
        · have hd : decide (s.1 = t.1) = true := by simpa using he
          rw [hd] at hex
          replace he := Lib.hid he
          by_cases hc : s.2 = t.2
          · have hst := hstep (Prod.ext he.out hc)
            have hdc : decide (s.2 = t.2) = true := by simpa using hc
            clear hstep hstop hd hc
            refine wp_region_L mixed (none) (0) (Okr.none) [.eq (.slice (some ⟨b1, o1, none⟩) p.length cp), .eq (.int .i64 k), .eq (.pointer (some ⟨b1, o1 + k * 8, none⟩)), .eq (.pointer (some ⟨b1, o1 + k * 8, none⟩)), .eq (.agg (exC s.1).toArray), .eq (.slice (some ⟨b2, o2, none⟩) q.length cq), .eq (.int .i64 k), .eq (.pointer (some ⟨b2, o2 + k * 8, none⟩)), .eq (.pointer (some ⟨b2, o2 + k * 8, none⟩)), .eq (.agg (exC t.1).toArray), .eq (.bool false), .eq (.bool false), .eq (.slice (some ⟨b1, o1, none⟩) p.length cp), .eq (.int .i64 k), .eq (.pointer (some ⟨b1, o1 + k * 8, none⟩)), .eq (.pointer (some ⟨b1, o1 + k * 8 + 4, none⟩)), .eq (.agg (r1).toArray), .eq (.slice (some ⟨b2, o2, none⟩) q.length cq), .eq (.int .i64 k), .eq (.pointer (some ⟨b2, o2 + k * 8, none⟩)), .eq (.pointer (some ⟨b2, o2 + k * 8 + 4, none⟩)), .eq (.agg (r2).toArray), .ret (.bool true), .eq (.bool false), .eq (.bool false)] [17, 18, 19, 20, 21, 22, 23, 24, 25, 26, 27, 28, 29, 30, 31, 32, 33, 34, 35, 36, 37, 38, 39, 40, 41] rfl rfl rfl rfl ⟨?_, ?_, ?_, ?_, ?_, ?_, ?_, ?_, ?_, ?_, ?_, ?_, ?_, ?_, ?_, ?_, ?_, ?_, ?_, ?_, ?_, ?_, ?_, ?_, ?_, trivial⟩ ?_
            · exact fun A w1 hA hL hS he => goOn_plain rfl (stepG_mv rfl rfl (hA 0 rfl))
            · exact fun A w1 hA hL hS he => goOn_plain rfl (stepG_mv rfl rfl (hA 5 rfl))
            · intro A w1 hA hL hS he
              have h17 : A.eval (.tmp 17) = _ := he.1 rfl
              have h18 : A.eval (.tmp 18) = _ := he.2.1 rfl
              refine goOn_plain rfl ?_
              exact stepG_pure rfl rfl (execOp_index rfl (by rw [h17, h18]; exact run_index Tryz.underlying38 (by kernel_rfl) w1 b1 o1 _ _ k .i64 _ (by first | rfl | simp | omega) (hkl)))
            · intro A w1 hA hL hS he
              have h19 : A.eval (.tmp 19) = _ := he.1 rfl
              refine goOn_plain rfl ?_
              exact stepG_pure rfl rfl (execOp_field rfl (by rw [h19]; exact run_field37_0 _ _ _))
            · intro A w1 hA hL hS he
              have hb := hL.below
              have h20 : A.eval (.tmp 20) = _ := he.1 rfl
              refine goOn_plain rfl ?_
              exact stepG_pure rfl rfl (execOp_load rfl (by rw [h20]; exact run_loadAt_mid w1 _ _ _ _ _ (cells_ex (hC1.on (hbr.trans (hb.mono hbr.size)))) Tryz.underlying29 rfl (by rw [show (exC s.1).length = 4 from rfl]; kernel_rfl)))
            · exact fun A w1 hA hL hS he => goOn_plain rfl (stepG_mv rfl rfl (hA 1 rfl))
            · exact fun A w1 hA hL hS he => goOn_plain rfl (stepG_mv rfl rfl (hA 5 rfl))
            · intro A w1 hA hL hS he
              have h22 : A.eval (.tmp 22) = _ := he.1 rfl
              have h23 : A.eval (.tmp 23) = _ := he.2.1 rfl
              refine goOn_plain rfl ?_
              exact stepG_pure rfl rfl (execOp_index rfl (by rw [h22, h23]; exact run_index Tryz.underlying38 (by kernel_rfl) w1 b2 o2 _ _ k .i64 _ (by first | rfl | simp | omega) (hkq)))
            · intro A w1 hA hL hS he
              have h24 : A.eval (.tmp 24) = _ := he.1 rfl
              refine goOn_plain rfl ?_
              exact stepG_pure rfl rfl (execOp_field rfl (by rw [h24]; exact run_field37_0 _ _ _))
            · intro A w1 hA hL hS he
              have hb := hL.below
              have h25 : A.eval (.tmp 25) = _ := he.1 rfl
              refine goOn_plain rfl ?_
              exact stepG_pure rfl rfl (execOp_load rfl (by rw [h25]; exact run_loadAt_mid w1 _ _ _ _ _ (cells_ex (hC2.on (hbr.trans (hb.mono hbr.size)))) Tryz.underlying29 rfl (by rw [show (exC t.1).length = 4 from rfl]; kernel_rfl)))
            · intro A w1 hA hL hS he
              have h21 : A.eval (.tmp 21) = _ := he.1 rfl
              have h26 : A.eval (.tmp 26) = _ := he.2.1 rfl
              refine goOn_plain rfl (stepG_pure rfl rfl ?_)
              generalize A.eval = ev at *
              go_simp
            · exact fun A w1 hA hL hS he => goOn_plain rfl (stepG_mv rfl rfl (he.1 rfl))
            · exact fun A w1 hA hL hS he => goOn_yes rfl rfl (he.1 rfl) (stepG_mv rfl rfl (hA 0 rfl))
            · exact fun A w1 hA hL hS he => goOn_yes rfl rfl (he.1 rfl) (stepG_mv rfl rfl (hA 5 rfl))
            · intro A w1 hA hL hS he
              have h28 : A.eval (.tmp 28) = _ := he.2.2.1 rfl
              have h29 : A.eval (.tmp 29) = _ := he.1 rfl
              have h30 : A.eval (.tmp 30) = _ := he.2.1 rfl
              refine goOn_yes rfl rfl h28 ?_
              exact stepG_pure rfl rfl (execOp_index rfl (by rw [h29, h30]; exact run_index Tryz.underlying38 (by kernel_rfl) w1 b1 o1 _ _ k .i64 _ (by first | rfl | simp | omega) (hkl)))
            · intro A w1 hA hL hS he
              have h28 : A.eval (.tmp 28) = _ := he.2.1 rfl
              have h31 : A.eval (.tmp 31) = _ := he.1 rfl
              refine goOn_yes rfl rfl h28 ?_
              exact stepG_pure rfl rfl (execOp_field rfl (by rw [h31]; exact run_field37_1 _ _ _))
            · intro A w1 hA hL hS he
              have hb := hL.below
              have h28 : A.eval (.tmp 28) = _ := he.2.1 rfl
              have h32 : A.eval (.tmp 32) = _ := he.1 rfl
              refine goOn_yes rfl rfl h28 ?_
              exact stepG_pure rfl rfl (execOp_load rfl (by rw [h32]; exact run_loadAt_mid w1 _ _ _ _ _ (cells_rat (hC1.on (hbr.trans (hb.mono hbr.size)))) Tryz.underlying34 rfl (by rw [hl1]; kernel_rfl)))
            · exact fun A w1 hA hL hS he => goOn_yes rfl rfl (he.1 rfl) (stepG_mv rfl rfl (hA 1 rfl))
            · exact fun A w1 hA hL hS he => goOn_yes rfl rfl (he.1 rfl) (stepG_mv rfl rfl (hA 5 rfl))
            · intro A w1 hA hL hS he
              have h28 : A.eval (.tmp 28) = _ := he.2.2.1 rfl
              have h34 : A.eval (.tmp 34) = _ := he.1 rfl
              have h35 : A.eval (.tmp 35) = _ := he.2.1 rfl
              refine goOn_yes rfl rfl h28 ?_
              exact stepG_pure rfl rfl (execOp_index rfl (by rw [h34, h35]; exact run_index Tryz.underlying38 (by kernel_rfl) w1 b2 o2 _ _ k .i64 _ (by first | rfl | simp | omega) (hkq)))
            · intro A w1 hA hL hS he
              have h28 : A.eval (.tmp 28) = _ := he.2.1 rfl
              have h36 : A.eval (.tmp 36) = _ := he.1 rfl
              refine goOn_yes rfl rfl h28 ?_
              exact stepG_pure rfl rfl (execOp_field rfl (by rw [h36]; exact run_field37_1 _ _ _))
            · intro A w1 hA hL hS he
              have hb := hL.below
              have h28 : A.eval (.tmp 28) = _ := he.2.1 rfl
              have h37 : A.eval (.tmp 37) = _ := he.1 rfl
              refine goOn_yes rfl rfl h28 ?_
              exact stepG_pure rfl rfl (execOp_load rfl (by rw [h37]; exact run_loadAt_mid w1 _ _ _ _ _ (cells_rat (hC2.on (hbr.trans (hb.mono hbr.size)))) Tryz.underlying34 rfl (by rw [hl2]; kernel_rfl)))
            · intro A w1 hA hL hS he
              have hb := hS rfl
              have h28 : A.eval (.tmp 28) = _ := he.2.2.1 rfl
              have h33 : A.eval (.tmp 33) = _ := he.1 rfl
              have h38 : A.eval (.tmp 38) = _ := he.2.1 rfl
              have hf0 : A.eval (.func 21) = .func (.func 21) #[] #[] := rfl
              refine goOn_yes rfl rfl h28 ?_
              refine stepG_call (f := 21) (args := #[.agg (r1).toArray, .agg (r2).toArray]) rfl rfl ?_ ?_
              · generalize A.eval = ev at *
                go_simp
              · refine (hdc ▸ same2_any _ _ _ _ _ (hr1.on (hbr.trans (hb.mono hbr.size))).rat (hr2.on (hbr.trans (hb.mono hbr.size))).rat hks hkt).mono ?_
                rintro e w' ⟨rfl, hb'⟩
                exact ⟨_, rfl, hb', rfl⟩
            · intro A w1 hA hL hS he
              have h28 : A.eval (.tmp 28) = _ := he.2.1 rfl
              have h39 : A.eval (.tmp 39) = _ := he.1 rfl
              refine goOn_yes rfl rfl h28 ?_
              refine stepG_pure rfl rfl ?_
              generalize A.eval = ev at *
              go_simp
            · exact fun A w1 hA hL hS he => goOn_plain rfl (stepG_pk rfl (he.1 rfl) rfl (he.2.1 rfl))
            · intro W2 hL2
              simp only [TailL, FactL.eq, FactL.ret, List.length_cons, List.length_nil, List.drop_succ_cons, List.drop_zero]
              go_frame
              clear hex
              go_wp2
              go_roundw
              case rel => exact ⟨k + 1, by omega, by go_num, hst, hbr.trans (hL2.below.mono hbr.size)⟩
              case measure => simp [intOf]; omega
          · have hst := hstop (fun h => hc (by rw [h]))
            have hdc : decide (s.2 = t.2) = false := by simpa using hc
            clear hstep hstop hd hc
            refine wp_region_L mixed (none) (0) (Okr.none) [.eq (.slice (some ⟨b1, o1, none⟩) p.length cp), .eq (.int .i64 k), .eq (.pointer (some ⟨b1, o1 + k * 8, none⟩)), .eq (.pointer (some ⟨b1, o1 + k * 8, none⟩)), .eq (.agg (exC s.1).toArray), .eq (.slice (some ⟨b2, o2, none⟩) q.length cq), .eq (.int .i64 k), .eq (.pointer (some ⟨b2, o2 + k * 8, none⟩)), .eq (.pointer (some ⟨b2, o2 + k * 8, none⟩)), .eq (.agg (exC t.1).toArray), .eq (.bool false), .eq (.bool false), .eq (.slice (some ⟨b1, o1, none⟩) p.length cp), .eq (.int .i64 k), .eq (.pointer (some ⟨b1, o1 + k * 8, none⟩)), .eq (.pointer (some ⟨b1, o1 + k * 8 + 4, none⟩)), .eq (.agg (r1).toArray), .eq (.slice (some ⟨b2, o2, none⟩) q.length cq), .eq (.int .i64 k), .eq (.pointer (some ⟨b2, o2 + k * 8, none⟩)), .eq (.pointer (some ⟨b2, o2 + k * 8 + 4, none⟩)), .eq (.agg (r2).toArray), .ret (.bool false), .eq (.bool true), .eq (.bool true)] [17, 18, 19, 20, 21, 22, 23, 24, 25, 26, 27, 28, 29, 30, 31, 32, 33, 34, 35, 36, 37, 38, 39, 40, 41] rfl rfl rfl rfl ⟨?_, ?_, ?_, ?_, ?_, ?_, ?_, ?_, ?_, ?_, ?_, ?_, ?_, ?_, ?_, ?_, ?_, ?_, ?_, ?_, ?_, ?_, ?_, ?_, ?_, trivial⟩ ?_
            · exact fun A w1 hA hL hS he => goOn_plain rfl (stepG_mv rfl rfl (hA 0 rfl))
            · exact fun A w1 hA hL hS he => goOn_plain rfl (stepG_mv rfl rfl (hA 5 rfl))
            · intro A w1 hA hL hS he
              have h17 : A.eval (.tmp 17) = _ := he.1 rfl
              have h18 : A.eval (.tmp 18) = _ := he.2.1 rfl
              refine goOn_plain rfl ?_
              exact stepG_pure rfl rfl (execOp_index rfl (by rw [h17, h18]; exact run_index Tryz.underlying38 (by kernel_rfl) w1 b1 o1 _ _ k .i64 _ (by first | rfl | simp | omega) (hkl)))
            · intro A w1 hA hL hS he
              have h19 : A.eval (.tmp 19) = _ := he.1 rfl
              refine goOn_plain rfl ?_
              exact stepG_pure rfl rfl (execOp_field rfl (by rw [h19]; exact run_field37_0 _ _ _))
            · intro A w1 hA hL hS he
              have hb := hL.below
              have h20 : A.eval (.tmp 20) = _ := he.1 rfl
              refine goOn_plain rfl ?_
              exact stepG_pure rfl rfl (execOp_load rfl (by rw [h20]; exact run_loadAt_mid w1 _ _ _ _ _ (cells_ex (hC1.on (hbr.trans (hb.mono hbr.size)))) Tryz.underlying29 rfl (by rw [show (exC s.1).length = 4 from rfl]; kernel_rfl)))
            · exact fun A w1 hA hL hS he => goOn_plain rfl (stepG_mv rfl rfl (hA 1 rfl))
            · exact fun A w1 hA hL hS he => goOn_plain rfl (stepG_mv rfl rfl (hA 5 rfl))
            · intro A w1 hA hL hS he
              have h22 : A.eval (.tmp 22) = _ := he.1 rfl
              have h23 : A.eval (.tmp 23) = _ := he.2.1 rfl
              refine goOn_plain rfl ?_
              exact stepG_pure rfl rfl (execOp_index rfl (by rw [h22, h23]; exact run_index Tryz.underlying38 (by kernel_rfl) w1 b2 o2 _ _ k .i64 _ (by first | rfl | simp | omega) (hkq)))
            · intro A w1 hA hL hS he
              have h24 : A.eval (.tmp 24) = _ := he.1 rfl
              refine goOn_plain rfl ?_
              exact stepG_pure rfl rfl (execOp_field rfl (by rw [h24]; exact run_field37_0 _ _ _))
            · intro A w1 hA hL hS he
              have hb := hL.below
              have h25 : A.eval (.tmp 25) = _ := he.1 rfl
              refine goOn_plain rfl ?_
              exact stepG_pure rfl rfl (execOp_load rfl (by rw [h25]; exact run_loadAt_mid w1 _ _ _ _ _ (cells_ex (hC2.on (hbr.trans (hb.mono hbr.size)))) Tryz.underlying29 rfl (by rw [show (exC t.1).length = 4 from rfl]; kernel_rfl)))
            · intro A w1 hA hL hS he
              have h21 : A.eval (.tmp 21) = _ := he.1 rfl
              have h26 : A.eval (.tmp 26) = _ := he.2.1 rfl
              refine goOn_plain rfl (stepG_pure rfl rfl ?_)
              generalize A.eval = ev at *
              go_simp
            · exact fun A w1 hA hL hS he => goOn_plain rfl (stepG_mv rfl rfl (he.1 rfl))
            · exact fun A w1 hA hL hS he => goOn_yes rfl rfl (he.1 rfl) (stepG_mv rfl rfl (hA 0 rfl))
            · exact fun A w1 hA hL hS he => goOn_yes rfl rfl (he.1 rfl) (stepG_mv rfl rfl (hA 5 rfl))
            · intro A w1 hA hL hS he
              have h28 : A.eval (.tmp 28) = _ := he.2.2.1 rfl
              have h29 : A.eval (.tmp 29) = _ := he.1 rfl
              have h30 : A.eval (.tmp 30) = _ := he.2.1 rfl
              refine goOn_yes rfl rfl h28 ?_
              exact stepG_pure rfl rfl (execOp_index rfl (by rw [h29, h30]; exact run_index Tryz.underlying38 (by kernel_rfl) w1 b1 o1 _ _ k .i64 _ (by first | rfl | simp | omega) (hkl)))
            · intro A w1 hA hL hS he
              have h28 : A.eval (.tmp 28) = _ := he.2.1 rfl
              have h31 : A.eval (.tmp 31) = _ := he.1 rfl
              refine goOn_yes rfl rfl h28 ?_
              exact stepG_pure rfl rfl (execOp_field rfl (by rw [h31]; exact run_field37_1 _ _ _))
            · intro A w1 hA hL hS he
              have hb := hL.below
              have h28 : A.eval (.tmp 28) = _ := he.2.1 rfl
              have h32 : A.eval (.tmp 32) = _ := he.1 rfl
              refine goOn_yes rfl rfl h28 ?_
              exact stepG_pure rfl rfl (execOp_load rfl (by rw [h32]; exact run_loadAt_mid w1 _ _ _ _ _ (cells_rat (hC1.on (hbr.trans (hb.mono hbr.size)))) Tryz.underlying34 rfl (by rw [hl1]; kernel_rfl)))
            · exact fun A w1 hA hL hS he => goOn_yes rfl rfl (he.1 rfl) (stepG_mv rfl rfl (hA 1 rfl))
            · exact fun A w1 hA hL hS he => goOn_yes rfl rfl (he.1 rfl) (stepG_mv rfl rfl (hA 5 rfl))
            · intro A w1 hA hL hS he
              have h28 : A.eval (.tmp 28) = _ := he.2.2.1 rfl
              have h34 : A.eval (.tmp 34) = _ := he.1 rfl
              have h35 : A.eval (.tmp 35) = _ := he.2.1 rfl
              refine goOn_yes rfl rfl h28 ?_
              exact stepG_pure rfl rfl (execOp_index rfl (by rw [h34, h35]; exact run_index Tryz.underlying38 (by kernel_rfl) w1 b2 o2 _ _ k .i64 _ (by first | rfl | simp | omega) (hkq)))
            · intro A w1 hA hL hS he
              have h28 : A.eval (.tmp 28) = _ := he.2.1 rfl
              have h36 : A.eval (.tmp 36) = _ := he.1 rfl
              refine goOn_yes rfl rfl h28 ?_
              exact stepG_pure rfl rfl (execOp_field rfl (by rw [h36]; exact run_field37_1 _ _ _))
            · intro A w1 hA hL hS he
              have hb := hL.below
              have h28 : A.eval (.tmp 28) = _ := he.2.1 rfl
              have h37 : A.eval (.tmp 37) = _ := he.1 rfl
              refine goOn_yes rfl rfl h28 ?_
              exact stepG_pure rfl rfl (execOp_load rfl (by rw [h37]; exact run_loadAt_mid w1 _ _ _ _ _ (cells_rat (hC2.on (hbr.trans (hb.mono hbr.size)))) Tryz.underlying34 rfl (by rw [hl2]; kernel_rfl)))
            · intro A w1 hA hL hS he
              have hb := hS rfl
              have h28 : A.eval (.tmp 28) = _ := he.2.2.1 rfl
              have h33 : A.eval (.tmp 33) = _ := he.1 rfl
              have h38 : A.eval (.tmp 38) = _ := he.2.1 rfl
              have hf0 : A.eval (.func 21) = .func (.func 21) #[] #[] := rfl
              refine goOn_yes rfl rfl h28 ?_
              refine stepG_call (f := 21) (args := #[.agg (r1).toArray, .agg (r2).toArray]) rfl rfl ?_ ?_
              · generalize A.eval = ev at *
                go_simp
              · refine (hdc ▸ same2_any _ _ _ _ _ (hr1.on (hbr.trans (hb.mono hbr.size))).rat (hr2.on (hbr.trans (hb.mono hbr.size))).rat hks hkt).mono ?_
                rintro e w' ⟨rfl, hb'⟩
                exact ⟨_, rfl, hb', rfl⟩
            · intro A w1 hA hL hS he
              have h28 : A.eval (.tmp 28) = _ := he.2.1 rfl
              have h39 : A.eval (.tmp 39) = _ := he.1 rfl
              refine goOn_yes rfl rfl h28 ?_
              refine stepG_pure rfl rfl ?_
              generalize A.eval = ev at *
              go_simp
            · exact fun A w1 hA hL hS he => goOn_plain rfl (stepG_pk rfl (he.1 rfl) rfl (he.2.1 rfl))
            · intro W2 hL2
              simp only [TailL, FactL.eq, FactL.ret, List.length_cons, List.length_nil, List.drop_succ_cons, List.drop_zero]
              go_frame
              clear hex
              go_wp2
              go_ret
              exact ⟨by rw [hst.out] <;> rfl, hbr.trans (hL2.below.mono hbr.size)⟩
        · have hst := hstop (fun h => he (by rw [h]))
          have hd : decide (s.1 = t.1) = false := by simpa using he
          rw [hd] at hex
          clear hstep hstop hd he
          refine wp_region_L mixed (none) (0) (Okr.none) [.eq (.slice (some ⟨b1, o1, none⟩) p.length cp), .eq (.int .i64 k), .eq (.pointer (some ⟨b1, o1 + k * 8, none⟩)), .eq (.pointer (some ⟨b1, o1 + k * 8, none⟩)), .eq (.agg (exC s.1).toArray), .eq (.slice (some ⟨b2, o2, none⟩) q.length cq), .eq (.int .i64 k), .eq (.pointer (some ⟨b2, o2 + k * 8, none⟩)), .eq (.pointer (some ⟨b2, o2 + k * 8, none⟩)), .eq (.agg (exC t.1).toArray), .eq (.bool true), .eq (.bool true), .eq undef, .eq undef, .eq undef, .eq undef, .eq undef, .eq undef, .eq undef, .eq undef, .eq undef, .eq undef, .eq undef, .eq undef, .eq (.bool true)] [17, 18, 19, 20, 21, 22, 23, 24, 25, 26, 27, 28, 29, 30, 31, 32, 33, 34, 35, 36, 37, 38, 39, 40, 41] rfl rfl rfl rfl ⟨?_, ?_, ?_, ?_, ?_, ?_, ?_, ?_, ?_, ?_, ?_, ?_, ?_, ?_, ?_, ?_, ?_, ?_, ?_, ?_, ?_, ?_, ?_, ?_, ?_, trivial⟩ ?_
          · exact fun A w1 hA hL hS he => goOn_plain rfl (stepG_mv rfl rfl (hA 0 rfl))
          · exact fun A w1 hA hL hS he => goOn_plain rfl (stepG_mv rfl rfl (hA 5 rfl))
          · intro A w1 hA hL hS he
            have h17 : A.eval (.tmp 17) = _ := he.1 rfl
            have h18 : A.eval (.tmp 18) = _ := he.2.1 rfl
            refine goOn_plain rfl ?_
            exact stepG_pure rfl rfl (execOp_index rfl (by rw [h17, h18]; exact run_index Tryz.underlying38 (by kernel_rfl) w1 b1 o1 _ _ k .i64 _ (by first | rfl | simp | omega) (hkl)))
          · intro A w1 hA hL hS he
            have h19 : A.eval (.tmp 19) = _ := he.1 rfl
            refine goOn_plain rfl ?_
            exact stepG_pure rfl rfl (execOp_field rfl (by rw [h19]; exact run_field37_0 _ _ _))
          · intro A w1 hA hL hS he
            have hb := hL.below
            have h20 : A.eval (.tmp 20) = _ := he.1 rfl
            refine goOn_plain rfl ?_
            exact stepG_pure rfl rfl (execOp_load rfl (by rw [h20]; exact run_loadAt_mid w1 _ _ _ _ _ (cells_ex (hC1.on (hbr.trans (hb.mono hbr.size)))) Tryz.underlying29 rfl (by rw [show (exC s.1).length = 4 from rfl]; kernel_rfl)))
          · exact fun A w1 hA hL hS he => goOn_plain rfl (stepG_mv rfl rfl (hA 1 rfl))
          · exact fun A w1 hA hL hS he => goOn_plain rfl (stepG_mv rfl rfl (hA 5 rfl))
          · intro A w1 hA hL hS he
            have h22 : A.eval (.tmp 22) = _ := he.1 rfl
            have h23 : A.eval (.tmp 23) = _ := he.2.1 rfl
            refine goOn_plain rfl ?_
            exact stepG_pure rfl rfl (execOp_index rfl (by rw [h22, h23]; exact run_index Tryz.underlying38 (by kernel_rfl) w1 b2 o2 _ _ k .i64 _ (by first | rfl | simp | omega) (hkq)))
          · intro A w1 hA hL hS he
            have h24 : A.eval (.tmp 24) = _ := he.1 rfl
            refine goOn_plain rfl ?_
            exact stepG_pure rfl rfl (execOp_field rfl (by rw [h24]; exact run_field37_0 _ _ _))
          · intro A w1 hA hL hS he
            have hb := hL.below
            have h25 : A.eval (.tmp 25) = _ := he.1 rfl
            refine goOn_plain rfl ?_
            exact stepG_pure rfl rfl (execOp_load rfl (by rw [h25]; exact run_loadAt_mid w1 _ _ _ _ _ (cells_ex (hC2.on (hbr.trans (hb.mono hbr.size)))) Tryz.underlying29 rfl (by rw [show (exC t.1).length = 4 from rfl]; kernel_rfl)))
          · intro A w1 hA hL hS he
            have h21 : A.eval (.tmp 21) = _ := he.1 rfl
            have h26 : A.eval (.tmp 26) = _ := he.2.1 rfl
            refine goOn_plain rfl (stepG_pure rfl rfl ?_)
            generalize A.eval = ev at *
            go_simp
          · exact fun A w1 hA hL hS he => goOn_plain rfl (stepG_mv rfl rfl (he.1 rfl))
          · exact fun A w1 hA hL hS he => goOn_no (x := true) rfl rfl (he.1 rfl) rfl rfl
          · exact fun A w1 hA hL hS he => goOn_no (x := true) rfl rfl (he.1 rfl) rfl rfl
          · exact fun A w1 hA hL hS he => goOn_no (x := true) rfl rfl (he.2.2.1 rfl) rfl rfl
          · exact fun A w1 hA hL hS he => goOn_no (x := true) rfl rfl (he.2.1 rfl) rfl rfl
          · exact fun A w1 hA hL hS he => goOn_no (x := true) rfl rfl (he.2.1 rfl) rfl rfl
          · exact fun A w1 hA hL hS he => goOn_no (x := true) rfl rfl (he.1 rfl) rfl rfl
          · exact fun A w1 hA hL hS he => goOn_no (x := true) rfl rfl (he.1 rfl) rfl rfl
          · exact fun A w1 hA hL hS he => goOn_no (x := true) rfl rfl (he.2.2.1 rfl) rfl rfl
          · exact fun A w1 hA hL hS he => goOn_no (x := true) rfl rfl (he.2.1 rfl) rfl rfl
          · exact fun A w1 hA hL hS he => goOn_no (x := true) rfl rfl (he.2.1 rfl) rfl rfl
          · exact fun A w1 hA hL hS he => goOn_no (x := true) rfl rfl (he.2.2.1 rfl) rfl rfl
          · exact fun A w1 hA hL hS he => goOn_no (x := true) rfl rfl (he.2.1 rfl) rfl rfl
          · exact fun A w1 hA hL hS he => goOn_plain rfl (stepG_pk rfl (he.1 rfl) rfl rfl)
          · intro W2 hL2
            simp only [TailL, FactL.eq, FactL.ret, List.length_cons, List.length_nil, List.drop_succ_cons, List.drop_zero]
            go_frame
            clear hex
            go_wp2
            go_ret
            exact ⟨by rw [hst.out] <;> rfl, hbr.trans (hL2.below.mono hbr.size)⟩
      · have hst : Hid (R = true) := by
          have := eq_at hl.out (fun j hj => heq.out j (by omega))
          exact Lib.hid (by rw [hR.out]; simpa using this)
        go_wp2
        go_ret
        exact ⟨by rw [hst.out] <;> rfl, hbr⟩
  · have hne : ((p.length : Int) != q.length) = true := by simp; omega
    have hst : Hid (R = false) := Lib.hid (by rw [hR.out, decide_eq_false_iff_not]; intro h; exact hl (by rw [h]))
    clear hl
    go_enter Tryz.func66, Tryz.ntmps66
    go_wp2
    go_ret
    exact ⟨by rw [hst.out] <;> rfl, Below.refl _ _⟩
theorem same7_any (vp vq : Value) (p q : List Trm) (w : World) (hp : IsPoly w vp p) (hq : IsPoly w vq q) (rp : ∀ t ∈ p, Rk t.2) (rq : ∀ t ∈ q, Rk t.2) (lp : p.length ≤ 1000000) :
    Calls Tryz.prog 17 #[vp, vq] w (Ret w (.bool (decide (p = q)))) := by
  have hc := fun W (hb : Below w.heap.size w W) => equal7_any vp vq p q W (hp.on hb) (hq.on hb) rp rq lp
  generalize decide (p = q) = R at *
  go_enter Tryz.func17, Tryz.ntmps17
  go_wp2_with (go_at_call 66; refine (hc _ (Below.refl _ _)).mono ?_; rintro e w1 ⟨rfl, hb1⟩)
  go_ret
  exact ⟨rfl, hb1⟩
end Go.Proofs.YtplfdeohokkebaaGreat
end
section
namespace Go.Proofs.YtplfdeohokkebaaGreat
open Go.RowKit Q
def RetTerm (w : World) (t : Trm) (e : Ending) (w' : World) : Prop := ∃ cs, e = .returned (.agg cs.toArray) ∧ IsTerm w' cs t ∧ Below w.heap.size w w'
set_option maxHeartbeats 4000000 in
set_option maxRecDepth 100000 in
theorem term_any (c i k : Int) (w : World) (h1 : -4611686018427387904 ≤ c) (h2 : c ≤ 4611686018427387904) : Calls Tryz.prog 55 #[.int .i64 c, .int .i64 i, .int .i64 k] w (RetTerm w ((i, k, 0, 0), (c : Rat))) := by
  have hw := fun W => whole2_any c W h1 h2
  go_enter Tryz.func55, Tryz.ntmps55
  go_upto_region 1 with (fail)
  refine abs1 fun W hb2 B hsz => ?_
  go_wp2_with (go_at_call 13; refine (hw _).mono ?_; rintro e w1 ⟨v1, rfl, hv1, hb1⟩; obtain ⟨n, a, k2, c2, n', a', k', c', rfl⟩ := rat_agg hv1; have B1 := B.on hb1; have z0 := B1.at1 0 _ rfl; have f0 := B1.frozen 0; have z1 := B1.at1 1 _ rfl; have f1 := B1.frozen 1; have z2 := B1.at1 2 _ rfl; have f2 := B1.frozen 2; have z3 := B1.at1 3 _ rfl; have f3 := B1.frozen 3; have z4 := B1.at1 4 _ rfl; have f4 := B1.frozen 4; have z5 := B1.at1 5 _ rfl; have f5 := B1.frozen 5; have z6 := B1.at1 6 _ rfl; have f6 := B1.frozen 6; have z7 := B1.at1 7 _ rfl; have f7 := B1.frozen 7)
  have B1 := B.on hb1
  obtain ⟨R5, gr5⟩ := setCells_blk [.int .i64 i, .int .i64 k, .int .i64 0, .int .i64 0, .bool n, .slice a k2 c2, .bool n', .slice a' k' c'] 0 w1 _ B1 (by simp)
  change bodyPost _ _ _ _ _ (w1.setCells w.heap.size 0 [.int .i64 i, .int .i64 k, .int .i64 0, .int .i64 0, .bool n, .slice a k2 c2, .bool n', .slice a' k' c'])
  have hb5 : Below w.heap.size w1 (w1.setCells w.heap.size 0 [.int .i64 i, .int .i64 k, .int .i64 0, .int .i64 0, .bool n, .slice a k2 c2, .bool n', .slice a' k' c']) := grown_below gr5 (by have := hb1.size; omega) (Nat.le_refl _)
  have hr5 : IsRat (w1.setCells w.heap.size 0 [.int .i64 i, .int .i64 k, .int .i64 0, .int .i64 0, .bool n, .slice a k2 c2, .bool n', .slice a' k' c']) (.agg #[.bool n, .slice a k2 c2, .bool n', .slice a' k' c']) (c : Rat) := hv1.lr (g := some w.heap.size) (T := monoT) ⟨gr5, fun k hk => by cases hk; exact ⟨B1.noOther, R5.noOther⟩⟩ (by decide)
  generalize w1.setCells w.heap.size 0 [.int .i64 i, .int .i64 k, .int .i64 0, .int .i64 0, .bool n, .slice a k2 c2, .bool n', .slice a' k' c'] = W5 at *
  exact ret_blk rfl rfl rfl R5 Tryz.underlying37 rfl (by kernel_rfl) ⟨_, rfl, ⟨_, rfl, hr5.cellsC⟩, (hb2.trans (hb1.mono hb2.size)).trans hb5⟩
end Go.Proofs.YtplfdeohokkebaaGreat
end
section
namespace Q
open Go Go.RowKit Go.Proofs.YtplfdeohokkebaaGreat
def FactL.term {g : Option Nat} {T : TypeId} (hT : uT ≠ T) (t : Trm) : FactL (Lr g T) := FactL.of (fun v w => ∃ cs : List Value, v = .agg cs.toArray ∧ IsTerm w cs t) (fun _ _ _ hb => fun ⟨cs, e, h⟩ => ⟨cs, e, elTerm.lr h hb hT⟩)
end Q
namespace Go.Proofs.YtplfdeohokkebaaGreat
open Go.RowKit Q
set_option maxRecDepth 100000 in
set_option maxHeartbeats 4000000 in
theorem run_newT0 (w : World)   : (Instr.buildSlice 24 0 #[]).run Tryz.prog w = .ok (.slice (some ⟨w.heap.size, 0, none⟩) 0 0) (w.alloc (.cells (([] : List Value)).toArray 37)) := by
  go_simp
set_option maxRecDepth 100000 in
set_option maxHeartbeats 4000000 in
theorem run_newT1 (w : World) (a : List Value) (ha : a.length = 8) : (Instr.buildSlice 24 1 #[(0, .agg a.toArray)]).run Tryz.prog w = .ok (.slice (some ⟨w.heap.size, 0, none⟩) 1 1) (w.alloc (.cells (a ++ []).toArray 37)) := by
  match a, ha with
  | [a0, a1, a2, a3, a4, a5, a6, a7], _ =>
    go_simp
set_option maxRecDepth 100000 in
set_option maxHeartbeats 4000000 in
theorem run_newT1P (w : World) (a : List Value) (ha : a.length = 8) : (Instr.buildSlice 38 1 #[(0, .agg a.toArray)]).run Tryz.prog w = .ok (.slice (some ⟨w.heap.size, 0, none⟩) 1 1) (w.alloc (.cells (a ++ []).toArray 37)) := by
  match a, ha with
  | [a0, a1, a2, a3, a4, a5, a6, a7], _ =>
    go_simp
set_option maxRecDepth 100000 in
set_option maxHeartbeats 4000000 in
theorem run_newT2 (w : World) (a : List Value) (b : List Value) (ha : a.length = 8) (hb : b.length = 8) : (Instr.buildSlice 24 2 #[(0, .agg a.toArray), (1, .agg b.toArray)]).run Tryz.prog w = .ok (.slice (some ⟨w.heap.size, 0, none⟩) 2 2) (w.alloc (.cells (a ++ (b ++ [])).toArray 37)) := by
  match a, b, ha, hb with
  | [a0, a1, a2, a3, a4, a5, a6, a7], [b0, b1, b2, b3, b4, b5, b6, b7], _, _ =>
    go_simp
set_option maxRecDepth 100000 in
set_option maxHeartbeats 4000000 in
theorem run_newT2P (w : World) (a : List Value) (b : List Value) (ha : a.length = 8) (hb : b.length = 8) : (Instr.buildSlice 38 2 #[(0, .agg a.toArray), (1, .agg b.toArray)]).run Tryz.prog w = .ok (.slice (some ⟨w.heap.size, 0, none⟩) 2 2) (w.alloc (.cells (a ++ (b ++ [])).toArray 37)) := by
  match a, b, ha, hb with
  | [a0, a1, a2, a3, a4, a5, a6, a7], [b0, b1, b2, b3, b4, b5, b6, b7], _, _ =>
    go_simp
set_option maxRecDepth 100000 in
set_option maxHeartbeats 4000000 in
theorem run_newT3 (w : World) (a : List Value) (b : List Value) (c : List Value) (ha : a.length = 8) (hb : b.length = 8) (hc : c.length = 8) : (Instr.buildSlice 24 3 #[(0, .agg a.toArray), (1, .agg b.toArray), (2, .agg c.toArray)]).run Tryz.prog w = .ok (.slice (some ⟨w.heap.size, 0, none⟩) 3 3) (w.alloc (.cells (a ++ (b ++ (c ++ []))).toArray 37)) := by
  match a, b, c, ha, hb, hc with
  | [a0, a1, a2, a3, a4, a5, a6, a7], [b0, b1, b2, b3, b4, b5, b6, b7], [c0, c1, c2, c3, c4, c5, c6, c7], _, _, _ =>
    go_simp
set_option maxRecDepth 100000 in
set_option maxHeartbeats 4000000 in
theorem run_newT3P (w : World) (a : List Value) (b : List Value) (c : List Value) (ha : a.length = 8) (hb : b.length = 8) (hc : c.length = 8) : (Instr.buildSlice 38 3 #[(0, .agg a.toArray), (1, .agg b.toArray), (2, .agg c.toArray)]).run Tryz.prog w = .ok (.slice (some ⟨w.heap.size, 0, none⟩) 3 3) (w.alloc (.cells (a ++ (b ++ (c ++ []))).toArray 37)) := by
  match a, b, c, ha, hb, hc with
  | [a0, a1, a2, a3, a4, a5, a6, a7], [b0, b1, b2, b3, b4, b5, b6, b7], [c0, c1, c2, c3, c4, c5, c6, c7], _, _, _ =>
    go_simp
set_option maxRecDepth 100000 in
set_option maxHeartbeats 4000000 in
theorem run_newT5 (w : World) (a : List Value) (b : List Value) (c : List Value) (d : List Value) (e : List Value) (ha : a.length = 8) (hb : b.length = 8) (hc : c.length = 8) (hd : d.length = 8) (he : e.length = 8) : (Instr.buildSlice 24 5 #[(0, .agg a.toArray), (1, .agg b.toArray), (2, .agg c.toArray), (3, .agg d.toArray), (4, .agg e.toArray)]).run Tryz.prog w = .ok (.slice (some ⟨w.heap.size, 0, none⟩) 5 5) (w.alloc (.cells (a ++ (b ++ (c ++ (d ++ (e ++ []))))).toArray 37)) := by
  match a, b, c, d, e, ha, hb, hc, hd, he with
  | [a0, a1, a2, a3, a4, a5, a6, a7], [b0, b1, b2, b3, b4, b5, b6, b7], [c0, c1, c2, c3, c4, c5, c6, c7], [d0, d1, d2, d3, d4, d5, d6, d7], [e0, e1, e2, e3, e4, e5, e6, e7], _, _, _, _, _ =>
    go_simp
set_option maxRecDepth 100000 in
set_option maxHeartbeats 4000000 in
theorem run_newT5P (w : World) (a : List Value) (b : List Value) (c : List Value) (d : List Value) (e : List Value) (ha : a.length = 8) (hb : b.length = 8) (hc : c.length = 8) (hd : d.length = 8) (he : e.length = 8) : (Instr.buildSlice 38 5 #[(0, .agg a.toArray), (1, .agg b.toArray), (2, .agg c.toArray), (3, .agg d.toArray), (4, .agg e.toArray)]).run Tryz.prog w = .ok (.slice (some ⟨w.heap.size, 0, none⟩) 5 5) (w.alloc (.cells (a ++ (b ++ (c ++ (d ++ (e ++ []))))).toArray 37)) := by
  match a, b, c, d, e, ha, hb, hc, hd, he with
  | [a0, a1, a2, a3, a4, a5, a6, a7], [b0, b1, b2, b3, b4, b5, b6, b7], [c0, c1, c2, c3, c4, c5, c6, c7], [d0, d1, d2, d3, d4, d5, d6, d7], [e0, e1, e2, e3, e4, e5, e6, e7], _, _, _, _, _ =>
    go_simp
theorem stepG_newT {g : Option Nat} {T : TypeId} {w : World} {P : Program} {o : Oper} {A : Act} {i n : Nat} {pu fr : Nat → Bool} {φ : Nat → Value → World → Prop} {Q : Exit → Act → World → Prop} {xs : List Value} {ts : List Trm} (hp : pu i = false) (hf : fr i = false) (he : Elems elTerm.E w xs ts) (hn : ts.length = n)
    (hrun : (execOp A.eval o).run P w = .ok (.value (.slice (some ⟨w.heap.size, 0, none⟩) n n)) (w.alloc (.cells xs.toArray 37)))
    (hφ : ∀ v w', IsPoly w' v ts → φ i v w') : o.wp P A w (AfterG (Lr g T) pu fr φ o i A w) Q := by
  subst hn
  have hbe : Below w.heap.size w (w.alloc (.cells xs.toArray 37)) := (Below.refl _ _).alloc (Nat.le_refl _) _
  exact stepG_value hp hf hbe (hφ _ _ ⟨_, _, xs, rfl, Nat.le_refl _, (Blk.new w monoT xs).at, he.on hbe⟩) hrun
end Go.Proofs.YtplfdeohokkebaaGreat
end
section
namespace Q
open Go Go.RowKit
/-- a slice whose block is none of those that are written -/
theorem IsSl.lrB {α : Type} {e : El α} {w w' : World} {v : Value} {l : List α} {g : Option Nat} {T : TypeId} (h : IsSl e w v l) (hl : Lr g T w w') (hT : e.ok T) (hne : ∀ ao n c, v = .slice (some ao) n c → some ao.block ≠ g) : IsSl e w' v l := by
  obtain ⟨ao, cap, xs, rfl, h2, h3, h4⟩ := h
  refine ⟨ao, cap, xs, rfl, h2, fun hp => ?_, h4.lr hT hl⟩
  obtain ⟨b, off, e1, hc⟩ := h3 hp
  subst e1
  exact ⟨b, off, rfl, hc.lr' hl (hne _ _ _ rfl)⟩
end Q
namespace Q
open Go Go.RowKit Go.Proofs.YtplfdeohokkebaaGreat
/-- a polynomial in blocks of the function's own, for regions that write no row -/
def FactL.own {T : TypeId} (B : Nat) (l : List Trm) : FactL (Lr none T) := FactL.of (fun v w => OwnPoly B w v l) (fun _ _ _ hb h => h.on hb.below)
end Q
namespace Go.Proofs.YtplfdeohokkebaaGreat
open Go.RowKit Q Go.WideMaps Go.Maps
theorem term_ones' {w : World} {r : List Value} {q : Rat} {e : Ex} (h : IsRatC w r q) : (exC e ++ r).toArray.all (·.oneCell') = true := by
  rw [Array.all_eq_true_iff_forall_mem]
  intro v hv
  rcases List.mem_append.1 (by simpa using hv) with hv | hv
  · exact exC_one e v hv
  · exact h.one v hv
theorem exC_len (e : Ex) : (exC e).length = 4 := rfl
/-- the quotient of two terms -/
def quoT (m g : Trm) : Trm := (m.1.sub g.1, m.2 / g.2)
/-- what one round of a division asks -/
structure DivOk (b : List Trm) (g m : Trm) (a : List Trm) : Prop where
  he : InR (m.1.sub g.1)
  hm : Rk m.2
  hg : Rk g.2
  hz : g.2 ≠ 0
  hf : Fits ((m.2.den : Int) * g.2.num)
structure DivOk2 (b : List Trm) (g m : Trm) (a : List Trm) : Prop where
  hq : Rk (m.2 / g.2)
  hb : (∀ t ∈ b, InR t.1 ∧ Rk t.2) ∧ b.length ≤ 1000000
  hp : Okl (prods b [quoT m g])
  ha : (∀ t ∈ (m :: a), Rk t.2) ∧ (m :: a).length ≤ 1000000 ∧ Vld (m :: a)
  hc : (∀ t ∈ mulP b [quoT m g], Rk t.2) ∧ (mulP b [quoT m g]).length ≤ 1000000
/-- THE ROUNDS OF A DIVISION by b, whose first term is g: n rounds, the rest, what has been put out, the answer -/
inductive DivR (b : List Trm) (g : Trm) : Nat → List Trm → List Trm → Option (List Trm) → Prop
  | done {out : List Trm} : DivR b g 0 [] out (some out)
  | fail {m : Trm} {a out : List Trm} : (m.1.sub g.1).nat = false → DivOk b g m a → DivR b g 0 (m :: a) out none
  | step {n : Nat} {m : Trm} {a out : List Trm} {r : Option (List Trm)} : (m.1.sub g.1).nat = true → DivOk b g m a → DivOk2 b g m a → out.length ≤ 1000000 →
      DivR b g n (subP (m :: a) (mulP b [quoT m g])) (out ++ [quoT m g]) r → DivR b g (n + 1) (m :: a) out r
theorem DivR.inv {b : List Trm} {g m : Trm} {n : Nat} {a out : List Trm} {r : Option (List Trm)} (h : DivR b g n (m :: a) out r) :
    DivOk b g m a ∧ ((m.1.sub g.1).nat = false → r = none) ∧ ((m.1.sub g.1).nat = true → ∃ n', n = n' + 1 ∧ DivOk2 b g m a ∧ out.length ≤ 1000000 ∧ DivR b g n' (subP (m :: a) (mulP b [quoT m g])) (out ++ [quoT m g]) r) := by
  cases h with
  | fail h1 h2 => exact ⟨h2, fun _ => rfl, (fun h => by rw [h1] at h; cases h)⟩
  | step h1 h2 h3 h4 h5 => exact ⟨h2, (fun h => by rw [h1] at h; cases h), fun _ => ⟨_, rfl, h3, h4, h5⟩⟩
theorem DivR.inv0 {b : List Trm} {g : Trm} {n : Nat} {out : List Trm} {r : Option (List Trm)} (h : DivR b g n [] out r) : r = some out := by cases h; rfl
def RetDivP (w : World) (r : Option (List Trm)) (e : Ending) (w' : World) : Prop := ∃ v, e = .returned (.tuple #[v, .bool r.isSome]) ∧ IsPoly w' v (r.getD []) ∧ Below w.heap.size w w'
set_option maxHeartbeats 1000000 in
theorem div_nil (vp vq : Value) (p : List Trm) (w : World) (hp : IsPoly w vp p) (hq : IsPoly w vq []) : Calls Tryz.prog 40 #[vp, vq] w (RetDivP w none) := by
  obtain ⟨ap, cp, rfl, hcp⟩ := hp.shape
  obtain ⟨aq, cq, rfl, hcq⟩ := hq.shape
  simp only [List.length_nil]
  go_enter Tryz.func40, Tryz.ntmps40
  go_wp2
  go_ret2
  exact ⟨_, rfl, IsSl.nil _ _, Below.refl _ _⟩
theorem subX (m g : Ex) (v : Nat) (h : v < 4) : (Ex.sub m g).get v = m.get v - g.get v := by
  obtain rfl | rfl | rfl | rfl : v = 0 ∨ v = 1 ∨ v = 2 ∨ v = 3 := by omega
  all_goals rfl
/-- the exponents behind k rounds -/
def subTo (m g : Ex) : Nat → Ex
  | 0 => m
  | k + 1 => (subTo m g k).put k (m.get k - g.get k)
theorem subTo_full (m g : Ex) : subTo m g 4 = m.sub g := rfl
theorem subTo_get (m g : Ex) (k : Nat) (h : k < 4) : (subTo m g k).get k = m.get k := by
  obtain rfl | rfl | rfl | rfl : k = 0 ∨ k = 1 ∨ k = 2 ∨ k = 3 := by omega
  all_goals rfl
set_option maxHeartbeats 8000000 in
set_option maxRecDepth 100000 in
theorem div_any (vp vq : Value) (p b : List Trm) (g : Trm) (n : Nat) (r : Option (List Trm)) (w : World) (hp : IsPoly w vp p) (hq : IsPoly w vq (g :: b)) (hd : DivR (g :: b) g n p [] r) :
    Calls Tryz.prog 40 #[vp, vq] w (RetDivP w r) := by
  obtain ⟨bq, oq, csq, e1, -, hEg, hCg⟩ : ∃ bq oq cs, (∃ cq, vq = .slice (some ⟨bq, oq, none⟩) (b.length + 1) cq) ∧ True ∧ IsTerm w cs g ∧ Cells monoT w bq (oq + 0 * 8) cs := by
    obtain ⟨aq, cq, rfl, hcq⟩ := hq.shape
    obtain ⟨bq, oq, cs, rfl, -, hE, hC⟩ := hq.get (j := 0) (t := g) rfl
    exact ⟨bq, oq, cs, ⟨cq, rfl⟩, trivial, hE, hC⟩
  obtain ⟨cq, rfl⟩ := e1
  obtain ⟨rg, rfl, hrg⟩ := hEg
  have hlg := hrg.len
  replace hd := Lib.hid hd
  go_enter Tryz.func40, Tryz.ntmps40
  go_wp2
  go_loopg [0, 6] n (fun n va vo wr => ∃ a out, Hid (IsPoly wr va a) ∧ Hid (OwnPoly w.heap.size wr vo out) ∧ Hid (DivR (g :: b) g n a out r) ∧ Below w.heap.size w wr ∧ Hid (a ≠ [] → ∀ ao n c, va = .slice (some ao) n c → some ao.block ≠ vo.ownBlock))
  case atStart => exact ⟨p, [], Lib.hid hp, Lib.hid (OwnSl.nil _ _ _), hd, Below.refl _ _, Lib.hid (fun _ ao n c _ h => by simp [Value.ownBlock] at h)⟩
  case round =>
    clear hd
    obtain ⟨a, out, ha, hown, hd, hbr, hap⟩ := hrel
    cases a with
    | nil =>
      have hr : r = some out := hd.out.inv0
      obtain ⟨aa, ca, rfl, hca⟩ := ha.out.shape
      replace hr := Lib.hid hr
      simp only [List.length_nil]
      go_wp2
      go_ret2
      exact ⟨_, by rw [hr.out]; rfl, by rw [hr.out]; exact hown.out.isSl, hbr⟩
    | cons m a =>
      obtain ⟨hok, hfail, hstep⟩ := hd.out.inv
      obtain ⟨aa, ca, rfl, hca⟩ := ha.out.shape
      obtain ⟨ba, oa, csa, rfl, -, hEa, hCa⟩ := ha.out.get (j := 0) (t := m) rfl
      obtain ⟨ra, rfl, hra⟩ := hEa
      change Cells monoT wr ba (oa + 0 * 8) _ at hCa
      have hla := hra.len
      have h8a : (exC m.1 ++ ra).length = 8 := by rw [List.length_append, hla]; rfl
      have hrga := hCa.range
      rw [Nat.zero_mul, Nat.add_zero] at hrga
      have hne1 : some ba ≠ u6.ownBlock := fun h => hap.out (by simp) _ _ _ rfl h
      have hgo := fun v hv => Ex.get_bounds hok.he (v := v) hv
      have hsx := fun v hv => subX m.1 g.1 v hv
      replace hgo := Lib.hid hgo
      replace hsx := Lib.hid hsx
      replace hfail := Lib.hid hfail
      replace hstep := Lib.hid hstep
      replace hok := Lib.hid hok
      simp only [List.length_cons]
      go_upto_region 6 with (first
        | (refine wpList_index_at rfl _ _ 38 rfl monoT Tryz.underlying38 _ 8 96 (by kernel_rfl) _ _ _ rfl .i64 0 rfl 0 rfl (by omega) ba oa rfl ?_; rw [Nat.zero_mul, Nat.add_zero])
        | (refine wpList_load_mid rfl 37 _ rfl _ _ rfl _ _ hrga Tryz.underlying37 rfl (by rw [h8a]; kernel_rfl) ?_)
        | (refine wpList_store_blk rfl _ (.tmp 7) (.tmp 17) rfl _ _ _ _ rfl rfl (Blk.new wr monoT [.int .i64 0, .int .i64 0, .int .i64 0, .int .i64 0, .bool false, .slice none 0 0, .bool false, .slice none 0 0]) (by simp [exC, hla]) (by simp only [List.size_toArray, h8a]; exact info37) (term_ones' hra) ?_; intro W3 R3 gr3))
      have BB : Blk W3 wr.heap.size monoT (exC m.1 ++ ra) := by simpa using R3
      have hba : Below wr.heap.size wr (wr.alloc (.cells #[.int .i64 0, .int .i64 0, .int .i64 0, .int .i64 0, .bool false, .slice none 0 0, .bool false, .slice none 0 0] monoT)) := (Below.refl _ _).alloc (Nat.le_refl _) _
      have hb3 : Below wr.heap.size wr W3 := hba.trans (grown_below gr3 (by simp) (Nat.le_refl _))
      have hbr3 := hbr.trans (hb3.mono hbr.size)
      have ha3 := ha.out.on hb3
      have hown3 := hown.out.on hb3
      have hra3 := hra.on hb3
      have hwm : w.heap.size ≤ wr.heap.size := hbr.size
      have hom : u6.ownBlock ≠ some wr.heap.size := fun h => by have := (hown.out.base_le _ h).2; omega
      have ham : ba ≠ wr.heap.size := fun h => by have := hCa.lt; omega
      have hbase : ∀ k, u6.ownBlock = some k → w.heap.size ≤ k := fun k hk => (hown.out.base_le k hk).1
      clear hrga R3 gr3 hba hb3 hCa ha hown hra hbr hap hd
      generalize wr.heap.size = mb at *
      have hst : Hid (Blk W3 mb monoT (exC (subTo m.1 g.1 0) ++ ra)) := Lib.hid BB
      clear BB
      go_wp2
      go_loopw [18] (fun i wr => ∃ k : Nat, k ≤ 4 ∧ i = .int .i64 k ∧ Hid (Blk wr mb monoT (exC (subTo m.1 g.1 k) ++ ra)) ∧ Hid (IsPoly wr (.slice (some ⟨ba, oa, none⟩) (a.length + 1) ca) (m :: a)) ∧ Hid (OwnPoly w.heap.size wr u6 out) ∧ Hid (IsRatC wr ra m.2) ∧ Below w.heap.size w wr) (fun i _ => 4 - (intOf i).toNat)
      case atStart => exact ⟨0, by omega, rfl, hst, Lib.hid ha3, Lib.hid hown3, Lib.hid hra3, hbr3⟩
      case round =>
        clear hst ha3 hown3 hra3 hbr3
        obtain ⟨k, hk, rfl, hB, ha, hown, hra, hbr⟩ := hrel
        by_cases hk4 : k < 4
        · have BB := hB.out
          have hk4' : (k : Int) < 4 := by omega
          have hat := exC_at (subTo m.1 g.1 k) k hk4 ra
          rw [subTo_get _ _ _ hk4] at hat
          have hset := exC_set (subTo m.1 g.1 k) k hk4 (m.1.get k - g.1.get k) ra
          have hw : IntKind.i64.wrap (m.1.get k - g.1.get k) = m.1.get k - g.1.get k := wrap_id (by rw [← hsx.out k hk4]; exact hgo.out k hk4)
          have hgat := exC_at g.1 k hk4 rg
          have f1 : ∀ W', Below wr.heap.size wr W' → W'.cell? ⟨mb, k, none⟩ = some (.int .i64 (m.1.get k)) := fun W' h => (BB.on h).at1 k _ hat
          have f2 : ∀ W', Below wr.heap.size wr W' → W'.cell? ⟨bq, oq + k, none⟩ = some (.int .i64 (g.1.get k)) := fun W' h => by
            have := (hCg.on (hbr.trans (h.mono hbr.size))).cell k (by simp [exC]; omega)
            rw [Nat.zero_mul, Nat.add_zero] at this
            rw [this]; exact hgat
          have hsucc : subTo m.1 g.1 (k + 1) = Ex.put (subTo m.1 g.1 k) k (m.1.get k - g.1.get k) := rfl
          generalize m.1.get k = x at *
          generalize g.1.get k = y at *
          replace hsucc := Lib.hid hsucc
          go_upto_region 9 with (fail)
          refine wp_region_L mixed (none) (0) (Okr.none) [.eq (.int .i64 k), .eq (.pointer (some ⟨mb, 0, none⟩)), .eq (.pointer (some ⟨mb, k, none⟩)), .eq (.int .i64 x), .eq (.slice (some ⟨bq, oq, none⟩) (b.length + 1) cq), .eq (.int .i64 k), .eq (.pointer (some ⟨bq, oq + 0 * 8, none⟩)), .eq (.pointer (some ⟨bq, oq + 0 * 8, none⟩)), .eq (.pointer (some ⟨bq, oq + k, none⟩)), .eq (.int .i64 y), .eq (.int .i64 (x - y)), .eq (.pointer (some ⟨mb, 0, none⟩)), .eq (.pointer (some ⟨mb, k, none⟩))] [21, 22, 23, 24, 25, 26, 27, 28, 29, 30, 31, 32, 33] rfl rfl rfl rfl ⟨?_, ?_, ?_, ?_, ?_, ?_, ?_, ?_, ?_, ?_, ?_, ?_, ?_, trivial⟩ ?_
          · exact fun A w1 hA hL hS he => goOn_plain rfl (stepG_mv rfl rfl (hA 8 rfl))
          · intro A w1 hA hL hS he
            have h7 : A.eval (.tmp 7) = .pointer (some ⟨mb, 0, none⟩) := hA 7 rfl
            refine goOn_plain rfl ?_
            exact stepG_pure rfl rfl (execOp_field rfl (by rw [h7]; exact run_field37_0 _ _ _))
          · intro A w1 hA hL hS he
            have h22 : A.eval (.tmp 22) = _ := he.1 rfl
            have h21 : A.eval (.tmp 21) = _ := he.2.1 rfl
            refine goOn_plain rfl (stepG_pure rfl rfl ?_)
            generalize A.eval = ev at *
            go_simp
          · intro A w1 hA hL hS he
            have h23 : A.eval (.tmp 23) = _ := he.1 rfl
            refine goOn_plain rfl ?_
            have c0 := f1 w1 hL.below
            refine stepG_pure rfl rfl ?_
            generalize A.eval = ev at *
            go_simp
          · exact fun A w1 hA hL hS he => goOn_plain rfl (stepG_mv rfl rfl (hA 1 rfl))
          · exact fun A w1 hA hL hS he => goOn_plain rfl (stepG_mv rfl rfl (hA 8 rfl))
          · intro A w1 hA hL hS he
            have h25 : A.eval (.tmp 25) = _ := he.1 rfl
            have hc0 : A.eval (.const (.int .i64 0)) = .int .i64 0 := rfl
            refine goOn_plain rfl ?_
            exact stepG_pure rfl rfl (execOp_index rfl (by rw [h25, show A.eval (.const (.int .i64 0)) = (.int .i64 0) from rfl]; exact run_index Tryz.underlying38 (by kernel_rfl) w1 bq oq _ _ 0 .i64 _ (by first | rfl | simp | omega) (by omega)))
          · intro A w1 hA hL hS he
            have h27 : A.eval (.tmp 27) = _ := he.1 rfl
            refine goOn_plain rfl ?_
            exact stepG_pure rfl rfl (execOp_field rfl (by rw [h27]; exact run_field37_0 _ _ _))
          · intro A w1 hA hL hS he
            have h28 : A.eval (.tmp 28) = _ := he.1 rfl
            have h26 : A.eval (.tmp 26) = _ := he.2.1 rfl
            refine goOn_plain rfl (stepG_pure rfl rfl ?_)
            generalize A.eval = ev at *
            go_simp
          · intro A w1 hA hL hS he
            have h29 : A.eval (.tmp 29) = _ := he.1 rfl
            refine goOn_plain rfl ?_
            have c0 := f2 w1 hL.below
            refine stepG_pure rfl rfl ?_
            generalize A.eval = ev at *
            go_simp
          · intro A w1 hA hL hS he
            have h24 : A.eval (.tmp 24) = _ := he.1 rfl
            have h30 : A.eval (.tmp 30) = _ := he.2.1 rfl
            refine goOn_plain rfl (stepG_pure rfl rfl ?_)
            generalize A.eval = ev at *
            go_simp
          · intro A w1 hA hL hS he
            have h7 : A.eval (.tmp 7) = .pointer (some ⟨mb, 0, none⟩) := hA 7 rfl
            refine goOn_plain rfl ?_
            exact stepG_pure rfl rfl (execOp_field rfl (by rw [h7]; exact run_field37_0 _ _ _))
          · intro A w1 hA hL hS he
            have h32 : A.eval (.tmp 32) = _ := he.1 rfl
            have h21 : A.eval (.tmp 21) = _ := he.2.1 rfl
            refine goOn_plain rfl (stepG_pure rfl rfl ?_)
            generalize A.eval = ev at *
            go_simp
          · intro W2 hL2
            have hb2 := hL2.below
            simp only [TailL, FactL.eq, List.length_cons, List.length_nil, List.drop_succ_cons, List.drop_zero]
            go_frame
            have B2 := BB.on hb2
            have z := B2.at1 k _ hat
            have hf := B2.frozen k
            have hown2 := hown.out.on hb2
            have ha2 := ha.out.on hb2
            have hra2 := hra.out.on hb2
            have hbr2 := hbr.trans (hb2.mono hbr.size)
            have hl3 := setCell_lr (j := k) B2 (.int .i64 (x - y))
            have B3 := B2.set k (.int .i64 (x - y))
            rw [hset] at B3
            clear f1 f2 hL2
            go_wp2
            go_roundw
            case rel =>
              refine ⟨k + 1, by omega, by go_num, Lib.hid (by rw [hsucc.out]; exact B3), Lib.hid (ha2.lrB hl3 (elTerm_ok (by decide)) (fun ao n c h => by simp only [Value.slice.injEq, Option.some.injEq] at h; rw [← h.1]; simpa using ham)), Lib.hid (hown2.lr hl3 (elTerm_ok (by decide)) (.inr hom)), Lib.hid (hra2.lr hl3 (by decide)), hbr2.trans (hl3.belowAt hbr2.size (fun k hk => by cases hk; exact hwm))⟩
            case measure => simp [intOf]; omega
        · obtain rfl : k = 4 := by omega
          rw [subTo_full] at hB
          clear hgo hsx
          obtain ⟨E, hE⟩ : ∃ E, E = m.1.sub g.1 := ⟨_, rfl⟩
          have hqe : quoT m g = (E, m.2 / g.2) := by rw [hE]; rfl
          have hEr : InR E := by rw [hE]; exact hok.out.he
          rw [← hE] at hB hfail hstep
          replace hqe := Lib.hid hqe
          replace hEr := Lib.hid hEr
          clear hE
          have BB := hB.out
          go_upto_region 11 with (fail)
          refine wp_region_S trivial (none) (0) (Okr.none) [.eq (.pointer (some ⟨mb, 0, none⟩)), .eq (.agg (exC E).toArray), .ret (.bool E.nat), .eq (.bool (!E.nat))] [35, 36, 37, 38] rfl rfl rfl rfl ⟨?_, ?_, ?_, ?_, trivial⟩ ?_
          · intro A w1 hA hL hS he
            have h7 : A.eval (.tmp 7) = .pointer (some ⟨mb, 0, none⟩) := hA 7 rfl
            refine goOn_plain rfl ?_
            exact stepG_pure rfl rfl (execOp_field rfl (by rw [h7]; exact run_field37_0 _ _ _))
          · intro A w1 hA hL hS he
            have hb := hL.below
            have h35 : A.eval (.tmp 35) = _ := he.1 rfl
            refine goOn_plain rfl ?_
            exact stepG_pure rfl rfl (execOp_load rfl (by rw [h35]; exact run_loadAt_mid w1 _ _ _ _ _ (blk_ex (BB.on hb)) Tryz.underlying29 rfl (by rw [show (exC E).length = 4 from rfl]; kernel_rfl)))
          · intro A w1 hA hL hS he
            have hb := hS rfl
            have h36 : A.eval (.tmp 36) = _ := he.1 rfl
            have hf0 : A.eval (.func 62) = .func (.func 62) #[] #[] := rfl
            refine goOn_plain rfl ?_
            refine stepG_call (f := 62) (args := #[.agg (exC E).toArray]) rfl rfl ?_ ?_
            · generalize A.eval = ev at *
              go_simp
            · refine (natural_any E _).mono ?_
              rintro e w' ⟨rfl, hb'⟩
              exact ⟨_, rfl, hb', rfl⟩
          · intro A w1 hA hL hS he
            have h37 : A.eval (.tmp 37) = _ := he.1 rfl
            refine goOn_plain rfl (stepG_pure rfl rfl ?_)
            generalize A.eval = ev at *
            go_simp
          · intro W2 hL2
            have hb2 := hL2.below
            simp only [TailL, FactL.eq, FactL.ret, List.length_cons, List.length_nil, List.drop_succ_cons, List.drop_zero]
            go_frame
            have B2 := BB.on hb2
            have hown2 := hown.out.on hb2
            have ha2 := ha.out.on hb2
            have hra2 := hra.out.on hb2
            have hbr2 := hbr.trans (hb2.mono hbr.size)
            clear hL2 BB hB hown ha hra hbr hb2
            cases hEn : E.nat
            · have hr := hfail.out hEn
              replace hr := Lib.hid hr
              clear hstep hEn
              go_wp2
              go_ret2
              exact ⟨_, by rw [hr.out]; rfl, by rw [hr.out]; exact IsSl.nil _ _, hbr2⟩
            · obtain ⟨n', hn', hok2, hol, hd'⟩ := hstep.out hEn
              rw [hqe.out] at hd'
              replace hok2 := Lib.hid hok2
              replace hd' := Lib.hid hd'
              replace hn' := Lib.hid hn'
              clear hfail hstep hEn
              have hdiv := fun W (hb : Below W2.heap.size W2 W) => rdiv_any _ _ _ _ W (hra2.on hb).rat (hrg.on (hbr2.trans (hb.mono hbr2.size))).rat hok.out.hm hok.out.hg hok.out.hz hok.out.hf
              obtain ⟨N1, A1, K1, C1, N2, A2, K2, C2, rfl, -, -⟩ := hra2
              obtain ⟨N3, A3, K3, C3, N4, A4, K4, C4, rfl, -, -⟩ := id hrg
              have y1 := B2.at1 4 _ rfl
              have y2 := B2.at1 5 _ rfl
              have y3 := B2.at1 6 _ rfl
              have y4 := B2.at1 7 _ rfl
              have hCg2 := hCg.on hbr2
              have x1 : W2.cell? ⟨bq, oq + 4, none⟩ = some (.bool N3) := by have := hCg2.cell 4 (by simp [exC]); simpa [exC] using this
              have x2 : W2.cell? ⟨bq, oq + 4 + 1, none⟩ = some (.slice A3 K3 C3) := by have := hCg2.cell 5 (by simp [exC]); simpa [exC, Nat.add_assoc] using this
              have x3 : W2.cell? ⟨bq, oq + 4 + 2, none⟩ = some (.bool N4) := by have := hCg2.cell 6 (by simp [exC]); simpa [exC, Nat.add_assoc] using this
              have x4 : W2.cell? ⟨bq, oq + 4 + 3, none⟩ = some (.slice A4 K4 C4) := by have := hCg2.cell 7 (by simp [exC]); simpa [exC, Nat.add_assoc] using this
              have f1 := B2.frozen 4
              have f2 := B2.frozen 5
              have f3 := B2.frozen 6
              have f4 := B2.frozen 7
              clear hCg2
              go_upto_region 13 with (fail)
              go_cut [39, 40, 41, 42, 43, 44, 45, 46, 47, 48, 49] (fun _ _ _ _ _ _ _ _ _ _ _ wc => ∃ r' : List Value, Hid (Blk wc mb monoT (exC E ++ r')) ∧ Hid (IsRatC wc r' (m.2 / g.2)) ∧ Hid (OwnPoly w.heap.size wc u6 out) ∧ Hid (IsPoly wc (.slice (some ⟨ba, oa, none⟩) (a.length + 1) ca) (m :: a)) ∧ Below w.heap.size w wc)
              case first =>
                replace hown2 := Lib.hid hown2
                replace ha2 := Lib.hid ha2
                go_region_with (go_at_call 77; refine (hdiv _ (bdn (Below.refl _ _) _)).mono ?_; rintro en w5 ⟨v5, rfl, hv5, hb5⟩; obtain ⟨N5, A5, K5, C5, N6, A6, K6, C6, rfl⟩ := rat_agg hv5; have B5 := (B2.on (bdn (Below.refl _ _) _)).on hb5; have z1 := B5.at1 4 _ rfl; have z2 := B5.at1 5 _ rfl; have z3 := B5.at1 6 _ rfl; have z4 := B5.at1 7 _ rfl; have g1 := B5.frozen 4; have g2 := B5.frozen 5; have g3 := B5.frozen 6; have g4 := B5.frozen 7)
                all_goals
                  obtain ⟨R5, gr5⟩ := setCells_blk [.bool N5, .slice A5 K5 C5, .bool N6, .slice A6 K6 C6] 4 w5 _ B5 (by simp [exC])
                  have hl5 : Lr (some mb) monoT w5 _ := ⟨gr5, fun k hk => by cases hk; exact ⟨B5.noOther, R5.noOther⟩⟩
                  have hb25 : Below W2.heap.size W2 w5 := (bdn (Below.refl _ _) 1).trans (hb5.mono (Nat.le_refl _))
                  have hbw5 := hbr2.trans (hb25.mono hbr2.size)
                  have hown5 := (hown2.out.on hb25).lr hl5 (elTerm_ok (by decide)) (.inr hom)
                  have ha5 := (ha2.out.on hb25).lrB hl5 (elTerm_ok (by decide)) (fun ao n c h => by simp only [Value.slice.injEq, Option.some.injEq] at h; rw [← h.1]; simpa using ham)
                  have hr5 := (hv5.lr hl5 (by decide)).cellsC (cs := [.bool N5, .slice A5 K5 C5, .bool N6, .slice A6 K6 C6])
                  have hbw6 := hbw5.trans (hl5.belowAt hbw5.size (fun k hk => by cases hk; exact hwm))
                  clear z1 z2 z3 z4 g1 g2 g3 g4 B5 hv5 hl5 gr5
                  go_wp2
                  go_meet
                  case rel => exact ⟨_, Lib.hid R5, Lib.hid hr5, Lib.hid hown5, Lib.hid ha5, hbw6⟩
              case rest =>
                clear B2 hown2 ha2 hdiv y1 y2 y3 y4 x1 x2 x3 x4 f1 f2 f3 f4 hbr2
                obtain ⟨r', hB, hr', hown, ha, hbr⟩ := hcut
                have BB := hB.out
                have h4r := hr'.out.len
                have h8 : (exC E ++ r').length = 8 := by rw [List.length_append, h4r]; rfl
                have hne' : some mb ≠ u6.ownBlock := fun h => hom h.symm
                obtain ⟨k1, k2, k3, k4, k5⟩ := hok2.out
                rw [hqe.out] at k3 k5
                have kq : ∀ t ∈ [((E, m.2 / g.2) : Trm)], InR t.1 ∧ Rk t.2 := fun t ht => by
                  rw [List.mem_singleton.1 ht]; exact ⟨hEr.out, k1⟩
                replace k1 := Lib.hid k1
                replace k2 := Lib.hid k2
                replace k3 := Lib.hid k3
                replace k4 := Lib.hid k4
                replace k5 := Lib.hid k5
                replace kq := Lib.hid kq
                replace hbase := Lib.hid hbase
                clear hB hok2 hlg
                go_upto_region 14 with (fail)
                refine wp_region_S trivial (u6.ownBlock) (monoT) (hown.out.okr) [.eq (u6), .eq (.agg (exC E ++ r').toArray), .new1 elTerm elTerm_okT ((E, m.2 / g.2)), .row elTerm (w.heap.size) wc.heap.size (out ++ [(E, m.2 / g.2)])] [50, 51, 52, 53] rfl rfl rfl rfl ⟨?_, ?_, ?_, ?_, trivial⟩ ?_
                · exact fun A w1 hA hL hS he => goOn_plain rfl (stepG_mv rfl rfl (hA 6 rfl))
                · intro A w1 hA hL hS he
                  have h7 : A.eval (.tmp 7) = .pointer (some ⟨mb, 0, none⟩) := hA 7 rfl
                  refine goOn_plain rfl ?_
                  exact stepG_pure rfl rfl (execOp_load rfl (by rw [h7]; exact run_loadAt_mid w1 _ _ _ _ _ ((BB.lr hL hne').cells.range) Tryz.underlying37 rfl (by rw [h8]; kernel_rfl)))
                · intro A w1 hA hL hS he
                  have h51 : A.eval (.tmp 51) = _ := he.1 rfl
                  refine goOn_plain rfl ?_
                  have hE : (elTerm : El _).E w1 _ ((E, m.2 / g.2)) := ⟨_, rfl, hr'.out.lr hL (by decide)⟩
                  refine stepG_new1 rfl rfl ((hown.out.okr).lr hL) hE (execOp_buildSlice rfl ?_) (fun _ _ h => h)
                  simp only [List.map_toArray, List.map_cons, List.map_nil, h51]
                  exact run_new1_elTermP _ _ ((elTerm).len hE)
                · intro A w1 hA hL hS he
                  have hb := hS rfl
                  have hbw : Below w.heap.size w w1 := hbr.trans (hL.belowAt hbr.size hbase.out)
                  have h50 : A.eval (.tmp 50) = _ := he.1 rfl
                  have f52 : ((.new1 elTerm elTerm_okT ((E, m.2 / g.2)) : FactL (Lr (u6.ownBlock) (monoT)))).p (A.eval (.tmp 52)) w1 := he.2.1 rfl
                  obtain ⟨v52, h52⟩ : ∃ v, A.eval (.tmp 52) = v := ⟨_, rfl⟩
                  rw [h52] at f52
                  refine goOn_plain rfl ?_
                  exact stepG_append rfl rfl rfl Tryz.underlying38 info_elTerm h50 h52 (hown.out.on hb) rfl rfl (isSl_of_new f52) (by simp only [List.length_cons, List.length_nil]; omega) (hbw.size) hL.1.size (fun _ _ h1 h2 => ⟨h1, h2⟩)
                · intro W6 hL6
                  simp only [TailL, FactL.eq, FactL.new1, FactL.row, FactL.asPure, FactL.of, FactL.fragile, List.length_cons, List.length_nil, List.drop_succ_cons, List.drop_zero]
                  rintro v52 - v53 ⟨hown6, hnew⟩
                  go_frame
                  have hbW6 := hbr.trans (hL6.belowAt hbr.size hbase.out)
                  have ha6 := ha.out.lrB hL6 (elTerm_ok (by decide)) (fun ao n c h => by simp only [Value.slice.injEq, Option.some.injEq] at h; rw [← h.1]; exact hne1)
                  have B6 := BB.lr hL6 hne'
                  have hr6 := hr'.out.lr hL6 (by decide)
                  have hq6 := hq.on hbW6
                  have hblk6 := Lib.hid hown6.base_le
                  clear hL6 BB ha hown hr' hbr hnew
                  go_upto_region 15 with (fail)
                  refine wp_region_S trivial (none) (0) (Okr.none) [.eq (.slice (some ⟨ba, oa, none⟩) (a.length + 1) ca), .eq (.slice (some ⟨bq, oq, none⟩) (b.length + 1) cq), .eq (.agg (exC E ++ r').toArray), .new1 elTerm (elTerm_ok (by decide)) ((E, m.2 / g.2)), .poly (by decide) (by decide) ((mulP (g :: b) [(E, m.2 / g.2)])), .own W6.heap.size (subP (m :: a) (mulP (g :: b) [(E, m.2 / g.2)]))] [54, 55, 56, 57, 58, 59] rfl rfl rfl rfl ⟨?_, ?_, ?_, ?_, ?_, ?_, trivial⟩ ?_
                  · exact fun A w1 hA hL hS he => goOn_plain rfl (stepG_mv rfl rfl (hA 0 rfl))
                  · exact fun A w1 hA hL hS he => goOn_plain rfl (stepG_mv rfl rfl (hA 1 rfl))
                  · intro A w1 hA hL hS he
                    have hb := hL.below
                    have h7 : A.eval (.tmp 7) = .pointer (some ⟨mb, 0, none⟩) := hA 7 rfl
                    refine goOn_plain rfl ?_
                    exact stepG_pure rfl rfl (execOp_load rfl (by rw [h7]; exact run_loadAt_mid w1 _ _ _ _ _ ((B6.on hb).cells.range) Tryz.underlying37 rfl (by rw [h8]; kernel_rfl)))
                  · intro A w1 hA hL hS he
                    have hb := hS rfl
                    have h56 : A.eval (.tmp 56) = _ := he.1 rfl
                    refine goOn_plain rfl ?_
                    have hE : (elTerm : El _).E w1 _ ((E, m.2 / g.2)) := ⟨_, rfl, hr6.on hb⟩
                    refine stepG_new1 rfl rfl ((Okr.none).lr hL) hE (execOp_buildSlice rfl ?_) (fun _ _ h => h)
                    simp only [List.map_toArray, List.map_cons, List.map_nil, h56]
                    exact run_new1_elTermP _ _ ((elTerm).len hE)
                  · intro A w1 hA hL hS he
                    have hb := hS rfl
                    have h55 : A.eval (.tmp 55) = _ := he.1 rfl
                    have f57 : ((.new1 elTerm (elTerm_ok (by decide)) ((E, m.2 / g.2)) : FactL (Lr (none) (0)))).p (A.eval (.tmp 57)) w1 := he.2.1 rfl
                    obtain ⟨v57, h57⟩ : ∃ v, A.eval (.tmp 57) = v := ⟨_, rfl⟩
                    rw [h57] at f57
                    have hf0 : A.eval (.func 23) = .func (.func 23) #[] #[] := rfl
                    refine goOn_plain rfl ?_
                    refine stepG_call (f := 23) (args := #[.slice (some ⟨bq, oq, none⟩) (b.length + 1) cq, v57]) rfl rfl ?_ ?_
                    · generalize A.eval = ev at *
                      go_simp
                    · refine (mul_pp _ _ _ _ _ (hq6.on hb) (isSl_of_new f57) k2.out.1 kq.out k3.out k2.out.2 (by simp)).mono ?_
                      rintro e w' ⟨v, rfl, hi, hb'⟩
                      exact ⟨_, rfl, hb', hi⟩
                  · intro A w1 hA hL hS he
                    have hb := hS rfl
                    have h54 : A.eval (.tmp 54) = _ := he.1 rfl
                    have f58 : ((.poly (by decide) (by decide) ((mulP (g :: b) [(E, m.2 / g.2)])) : FactL (Lr (none) (0)))).p (A.eval (.tmp 58)) w1 := he.2.1 rfl
                    obtain ⟨v58, h58⟩ : ∃ v, A.eval (.tmp 58) = v := ⟨_, rfl⟩
                    rw [h58] at f58
                    have hf0 : A.eval (.func 26) = .func (.func 26) #[] #[] := rfl
                    refine goOn_plain rfl ?_
                    refine stepG_call (f := 26) (args := #[.slice (some ⟨ba, oa, none⟩) (a.length + 1) ca, v58]) rfl rfl ?_ ?_
                    · generalize A.eval = ev at *
                      go_simp
                    · refine (sub_own _ _ _ _ _ (ha6.on hb) f58 k4.out.1 k5.out.1 k4.out.2.1 k5.out.2 k4.out.2.2 (Vld.mul _ _)).mono ?_
                      rintro e w' ⟨v, rfl, hi, hb'⟩
                      exact ⟨_, rfl, hb', hi.base_mono hb.size⟩
                  · intro W7 hL7
                    have hb7 := hL7.below
                    simp only [TailL, FactL.eq, FactL.new1, FactL.poly, FactL.own, FactL.of, List.length_cons, List.length_nil, List.drop_succ_cons, List.drop_zero]
                    rintro v57 - v58 - v59 hown9
                    go_frame
                    have hown7 := hown6.on hb7
                    have hbW7 := hbW6.trans (hb7.mono hbW6.size)
                    have hap : (subP (m :: a) (mulP (g :: b) [(E, m.2 / g.2)])) ≠ [] → ∀ ao n c, v59 = .slice (some ao) n c → some ao.block ≠ v53.ownBlock := fun _ ao n c h hc => by
                      have h1 := (hblk6.out ao.block hc.symm).2
                      obtain ⟨xs, ⟨-, h2⟩, -⟩ := hown9
                      rcases h2 with ⟨h2, -⟩ | ⟨gg, cap, cur, h2, h3, -⟩
                      · rw [h] at h2; cases h2
                      · rw [h] at h2; cases h2; simp only at h1; omega
                    replace hap := Lib.hid hap
                    clear hL7 hb7 hown6 ha6 B6 hr6 hq6 hbW6
                    go_wp2
                    go_roundg n'
                    case measure => have := hn'.out; omega
                    case rel => exact ⟨_, _, Lib.hid hown9.isSl, Lib.hid hown7, hd', hbW7, hap⟩
end Go.Proofs.YtplfdeohokkebaaGreat
end
