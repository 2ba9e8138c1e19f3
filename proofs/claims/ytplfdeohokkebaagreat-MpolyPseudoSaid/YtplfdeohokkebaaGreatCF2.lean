/- R7.Made: for every list of drawn terms the polynomial of its first terms. -/
import Derived.Test.YtplfdeohokkebaaGreatC28
import Derived.Test.YtplfdeohokkebaaGreatC34
set_option linter.unusedVariables false
set_option linter.unusedSimpArgs false
namespace Go.Proofs.YtplfdeohokkebaaGreat
open Go.RowKit Q Go.WideMaps Go.Maps
set_option maxHeartbeats 8000000 in
set_option maxRecDepth 100000 in
theorem made_draw_any (vl : Value) (L : List Drw) (n vs : Nat) (w : World) (hL : IsDraw w vl L) (hn : n ≤ 5) (hvs : vs < 4) :
  Calls Tryz.prog 28 #[vl, .int .i64 n, .int .i64 vs] w (RetPoly w (madeP L n vs)) := by
 obtain ⟨al, cl, rfl, hcl⟩ := hL.shape
 have hfin := fun (u : Value) (W : World) (h : IsPoly W u (madeL L n vs)) => make7_any u _ _ W h (made_bd L n vs) (made_ok hn)
 have hvs4 : (vs : Int) < 4 := by omega
 have hn5 : (n : Int) ≤ 5 := by omega
 go_enter Tryz.func28, Tryz.ntmps28
 go_wp2
 have hown0 := own_lit0 elTerm w
 have hb0 : Below w.heap.size w (w.alloc (.cells #[] monoT)) := (Below.refl _ _).alloc (Nat.le_refl _) _
 change OwnPoly w.heap.size (w.alloc (.cells #[] 37)) _ _ at hown0
 change Below w.heap.size w (w.alloc (.cells #[] 37)) at hb0
 replace hL := Lib.hid hL
 replace hfin := Lib.hid hfin
 go_loopw [7, 8] (fun o i wr => ∃ k : Nat, k ≤ L.length ∧ k ≤ n ∧ i = .int .i64 k ∧ Hid (OwnPoly w.heap.size wr o ((L.take k).map (madeT vs))) ∧ Below w.heap.size w wr) (fun _ i _ => n - (intOf i).toNat)
 case atStart => exact ⟨0, by omega, by omega, rfl, Lib.hid hown0, hb0⟩
 case round =>
  clear hown0 hb0
  obtain ⟨k, hk, hkn, rfl, hown, hbr⟩ := hrel
  by_cases h1 : k < L.length
  ·have g1 : (k : Int) < (L.length : Int) := by omega
   by_cases h2 : k < n
   ·have g2 : (k : Int) < (n : Int) := by omega
    have hjq : L[k]? = some L[k] := List.getElem?_eq_getElem h1
    generalize L[k] = t at hjq
    obtain ⟨T9, b, off, rfl, hok, hC⟩ := hL.out.get hjq
    have z4 : wr.cell? ⟨b, off + k * 5 + 4, none⟩ = some (.int .i8 t.2.2.2.2) := (hC.on hbr).cell 4 (by simp [drawC])
    have c1 := hok.2.2.2.2.1
    have c2 := hok.2.2.2.2.2
    have ctm : (t.2.2.2.2.tmod 10).natAbs < 10 := by rw [Int.natAbs_tmod]; exact Nat.mod_lt _ (by decide)
    have hget := Lib.hid (fun v => hok.get v)
    have hsn := Lib.hid (map_snoc (madeT vs) hjq)
    have hcC := Lib.hid hC
    clear hok hC
    go_upto_region 6 with (first
     | (refine wpList_index_at rfl _ _ 22 rfl 28 Tryz.underlying22 _ 5 5 (by kernel_rfl) _ _ _ rfl .i64 _ rfl k rfl h1 b off rfl ?_)
     | (go_at_call 13; refine (whole2_any _ _ (by omega) (by omega)).mono ?_; rintro e w1 ⟨v1, rfl, hv1, hb1⟩; obtain ⟨N1, A1, K1, C1, N2, A2, K2, C2, rfl⟩ := rat_agg hv1))
    refine abs1 fun W2 hb2 B hsz2 => ?_
    have hvr := (hv1.on hb2).cellsC (cs := [.bool N1, .slice A1 K1 C1, .bool N2, .slice A2 K2 C2])
    obtain ⟨rc, hrcE⟩ : ∃ rc, rc = [Value.bool N1, .slice A1 K1 C1, .bool N2, .slice A2 K2 C2] := ⟨_, rfl⟩
    have hrc : rc.length = 4 := by rw [hrcE]; rfl
    have hst : Hid (Blk W2 w1.heap.size monoT (exC (madeTo t 0) ++ rc)) := Lib.hid (by rw [hrcE]; exact B)
    rw [← hrcE] at hvr
    have hown2 := hown.out.on (hb1.trans (hb2.mono hb1.size))
    have hbr2 := hbr.trans ((hb1.trans (hb2.mono hb1.size)).mono hbr.size)
    have hxo : u7.ownBlock ≠ some w1.heap.size := fun h => by have := (hown.out.base_le _ h).2; have := hb1.size; omega
    have hwm : w.heap.size ≤ w1.heap.size := by have := hbr.size; have := hb1.size; omega
    obtain ⟨q, hq⟩ : ∃ q : Rat, q = ((t.2.2.2.2.tmod 10 : Int) : Rat) := ⟨_, rfl⟩
    rw [← hq] at hvr
    replace hq := Lib.hid hq
    clear hv1 hb1 hb2 B hrcE hsz2 hown z4 ctm c1 c2 hbr
    generalize w1.heap.size = mb at *
    go_wp2
    go_loopw [10] (fun i wr => ∃ j : Nat, j ≤ vs ∧ i = .int .i64 j ∧ Hid (Blk wr mb monoT (exC (madeTo t j) ++ rc)) ∧ Hid (IsRatC wr rc q) ∧ Hid (OwnPoly w.heap.size wr u7 ((L.take k).map (madeT vs))) ∧ Below w.heap.size w wr) (fun i _ => vs - (intOf i).toNat)
    case atStart => exact ⟨0, by omega, rfl, hst, Lib.hid hvr, Lib.hid hown2, hbr2⟩
    case round =>
     clear hst hvr hown2 hbr2
     obtain ⟨j, hj, rfl, hB, hr, hown, hbr⟩ := hrel
     have BB := hB.out
     have hj4 : j < 4 := by omega
     have hj4' : (j : Int) < 4 := by omega
     by_cases hjv : j < vs
     ·have hjv' : (j : Int) < (vs : Int) := by omega
      have hat := exC_at (madeTo t j) j hj4 rc
      have hset := exC_set (madeTo t j) j hj4 (t.get j % 3) rc
      have hsucc := madeTo_succ t hj4
      have f2 : ∀ W', Below wr.heap.size wr W' → W'.cell? ⟨b, off + k * 5 + j, none⟩ = some (.int .u8 (t.get j)) := fun W' h => by
       rw [(hcC.out.on (hbr.trans (h.mono hbr.size))).cell j (by simp [drawC]; omega)]; exact drawC_at t hj4
      have x0 := (hget.out j).1
      have x1 := (hget.out j).2
      generalize t.get j = x at *
      have hwx : IntKind.i64.wrap x = x := wrap_id (by omega)
      have hxt : x.tmod 3 = x % 3 := Int.tmod_eq_emod_of_nonneg x0
      replace hsucc := Lib.hid hsucc
      go_upto_region 9 with (fail)
      refine wp_region_S trivial (none) (0) (Okr.none) [.eq (.int .i64 j), .eq (.slice (some ⟨b, off, none⟩) L.length cl), .eq (.int .i64 k), .eq (.int .i64 j), .eq (.pointer (some ⟨b, off + k * 5, none⟩)), .eq (.pointer (some ⟨b, off + k * 5, none⟩)), .eq (.pointer (some ⟨b, off + k * 5 + j, none⟩)), .eq (.int .u8 x), .eq (.int .i64 x), .eq (.int .i64 (x % 3)), .eq (.pointer (some ⟨mb, 0, none⟩)), .eq (.pointer (some ⟨mb, j, none⟩))] [41, 42, 43, 44, 45, 46, 47, 48, 49, 50, 51, 52] rfl rfl rfl rfl ⟨?_, ?_, ?_, ?_, ?_, ?_, ?_, ?_, ?_, ?_, ?_, ?_, trivial⟩ ?_
      ·exact fun A w1 hA hL hS he => goOn_plain rfl (stepG_mv rfl rfl (hA 10 rfl))
      ·exact fun A w1 hA hL hS he => goOn_plain rfl (stepG_mv rfl rfl (hA 0 rfl))
      ·exact fun A w1 hA hL hS he => goOn_plain rfl (stepG_mv rfl rfl (hA 8 rfl))
      ·exact fun A w1 hA hL hS he => goOn_plain rfl (stepG_mv rfl rfl (hA 10 rfl))
      ·intro A w1 hA hL hS he
       have h42 : A.eval (.tmp 42) = _ := he.1 rfl
       have h43 : A.eval (.tmp 43) = _ := he.2.1 rfl
       refine goOn_plain rfl ?_
       exact stepG_pure rfl rfl (execOp_index rfl (by rw [h42, h43]; exact run_index Tryz.underlying22 (by kernel_rfl) w1 b off _ _ k .i64 _ (by first | rfl | simp | omega) (h1)))
      ·intro A w1 hA hL hS he
       have h45 : A.eval (.tmp 45) = _ := he.1 rfl
       refine goOn_plain rfl (stepG_pure rfl rfl ?_)
       generalize A.eval = ev at *
       go_simp
      ·intro A w1 hA hL hS he
       have h46 : A.eval (.tmp 46) = _ := he.1 rfl
       have h44 : A.eval (.tmp 44) = _ := he.2.1 rfl
       refine goOn_plain rfl (stepG_pure rfl rfl ?_)
       generalize A.eval = ev at *
       go_simp
      ·intro A w1 hA hL hS he
       have h47 : A.eval (.tmp 47) = _ := he.1 rfl
       refine goOn_plain rfl ?_
       have c0 := f2 w1 hL.below
       refine stepG_pure rfl rfl ?_
       generalize A.eval = ev at *
       go_simp
      ·intro A w1 hA hL hS he
       have h48 : A.eval (.tmp 48) = _ := he.1 rfl
       refine goOn_plain rfl (stepG_pure rfl rfl ?_)
       generalize A.eval = ev at *
       go_simp
      ·intro A w1 hA hL hS he
       have h49 : A.eval (.tmp 49) = _ := he.1 rfl
       have hc0 : A.eval (.const (.int .i64 3)) = .int .i64 3 := rfl
       refine goOn_plain rfl (stepG_pure rfl rfl ?_)
       generalize A.eval = ev at *
       go_simp
      ·intro A w1 hA hL hS he
       have h9 : A.eval (.tmp 9) = .pointer (some ⟨mb, 0, none⟩) := hA 9 rfl
       refine goOn_plain rfl ?_
       exact stepG_pure rfl rfl (execOp_field rfl (by rw [h9]; exact run_field37_0 _ _ _))
      ·intro A w1 hA hL hS he
       have h51 : A.eval (.tmp 51) = _ := he.1 rfl
       have h41 : A.eval (.tmp 41) = _ := he.2.1 rfl
       refine goOn_plain rfl (stepG_pure rfl rfl ?_)
       generalize A.eval = ev at *
       go_simp
      ·intro W3 hL3
       have hb3 := hL3.below
       simp only [TailL, FactL.eq, List.length_cons, List.length_nil, List.drop_succ_cons, List.drop_zero]
       go_frame
       have B2 := BB.on hb3
       have z := B2.at1 j _ hat
       have hf := B2.frozen j
       have hown3 := hown.out.on hb3
       have hr3 := hr.out.on hb3
       have hbr3 := hbr.trans (hb3.mono hbr.size)
       have hl3 := setCell_lr (j := j) B2 (.int .i64 (x % 3))
       have B3 := B2.set j (.int .i64 (x % 3))
       rw [hset] at B3
       clear f2 hL3
       go_wp2
       go_roundw
       case rel => exact ⟨j + 1, by omega, by go_num, Lib.hid (by rw [hsucc.out]; exact B3), Lib.hid (hr3.lr hl3 (by decide)), Lib.hid (hown3.lr hl3 (elTerm_ok (by decide)) (.inr hxo)), hbr3.trans (hl3.belowAt hbr3.size (fun k hk => by cases hk; exact hwm))⟩
       case measure => simp [intOf]; omega
     ·obtain rfl : j = vs := by omega
      have hmt : madeT j t = (madeTo t j, q) := by rw [hq.out]; rfl
      replace hown := hown.out
      replace hr := hr.out
      have hbase : ∀ k, u7.ownBlock = some k → w.heap.size ≤ k := fun k hk => (hown.base_le k hk).1
      have hne : some mb ≠ u7.ownBlock := fun h => hxo h.symm
      have h8 : (exC (madeTo t j) ++ rc).length = 8 := by rw [List.length_append, hrc]; rfl
      have hlt : ((L.take k).map (madeT j)).length ≤ 5 := by simp; omega
      generalize madeTo t j = E at *
      replace hmt := Lib.hid hmt
      go_upto_region 10 with (fail)
      refine wp_region_S trivial (u7.ownBlock) (monoT) (hown.okr) [.eq (u7), .eq (.agg (exC E ++ rc).toArray), .new1 elTerm elTerm_okT ((E, q)), .row elTerm (w.heap.size) wr.heap.size (((L.take k).map (madeT j)) ++ [(E, q)])] [53, 54, 55, 56] rfl rfl rfl rfl ⟨?_, ?_, ?_, ?_, trivial⟩ ?_
      ·exact fun A w1 hA hL hS he => goOn_plain rfl (stepG_mv rfl rfl (hA 7 rfl))
      ·intro A w1 hA hL hS he
       have h9 : A.eval (.tmp 9) = .pointer (some ⟨mb, 0, none⟩) := hA 9 rfl
       refine goOn_plain rfl ?_
       exact stepG_pure rfl rfl (execOp_load rfl (by rw [h9]; exact run_loadAt_mid w1 _ _ _ _ _ ((BB.lr hL hne).cells.range) Tryz.underlying37 rfl (by rw [h8]; kernel_rfl)))
      ·intro A w1 hA hL hS he
       have h54 : A.eval (.tmp 54) = _ := he.1 rfl
       refine goOn_plain rfl ?_
       have hE : (elTerm : El _).E w1 _ ((E, q)) := ⟨_, rfl, hr.lr hL (by decide)⟩
       refine stepG_new1 rfl rfl ((hown.okr).lr hL) hE (execOp_buildSlice rfl ?_) (fun _ _ h => h)
       simp only [List.map_toArray, List.map_cons, List.map_nil, h54]
       exact run_new1_elTerm _ _ ((elTerm).len hE)
      ·intro A w1 hA hL hS he
       have hb := hS rfl
       have hbw : Below w.heap.size w w1 := hbr.trans (hL.belowAt hbr.size hbase)
       have h53 : A.eval (.tmp 53) = _ := he.1 rfl
       have f55 : ((.new1 elTerm elTerm_okT ((E, q)) : FactL (Lr (u7.ownBlock) (monoT)))).p (A.eval (.tmp 55)) w1 := he.2.1 rfl
       obtain ⟨v55, h55⟩ : ∃ v, A.eval (.tmp 55) = v := ⟨_, rfl⟩
       rw [h55] at f55
       refine goOn_plain rfl ?_
       exact stepG_append rfl rfl rfl Tryz.underlying24 info_elTerm h53 h55 (hown.on hb) rfl rfl (isSl_of_new f55) (by simp only [List.length_cons, List.length_nil]; omega) (hbw.size) hL.1.size (fun _ _ h1 h2 => ⟨h1, h2⟩)
      ·intro W5 hL5
       simp only [TailL, FactL.eq, FactL.new1, FactL.row, FactL.asPure, FactL.of, FactL.fragile, List.length_cons, List.length_nil, List.drop_succ_cons, List.drop_zero]
       rintro v55 - v56 ⟨hown5, hnew⟩
       go_frame
       have hbW5 := hbr.trans (hL5.belowAt hbr.size hbase)
       go_wp2
       go_roundw
       case measure => simp [intOf]; omega
       case rel => exact ⟨k + 1, by omega, by omega, by go_num, Lib.hid (by rw [hsn.out, hmt.out]; exact hown5), hbW5⟩
   ·have g2 : ¬ (k : Int) < (n : Int) := by omega
    obtain rfl : k = n := by omega
    have hf := fun u h => hfin.out u wr h
    have hisl : IsPoly wr u7 (madeL L k vs) := hown.out.isSl
    clear hown
    go_wp2_with (go_at_call 18; refine (hf _ hisl).mono ?_; rintro e w9 ⟨v9, rfl, hv9, hb9⟩)
    go_ret
    exact ⟨_, rfl, hv9, hbr.trans (hb9.mono hbr.size)⟩
  ·have g1 : ¬ (k : Int) < (L.length : Int) := by omega
   have hf := fun u h => hfin.out u wr h
   have hisl : IsPoly wr u7 (madeL L n vs) := by
    have := hown.out.isSl
    rwa [show L.take k = L.take n by rw [List.take_of_length_le (by omega), List.take_of_length_le (by omega)]] at this
   clear hown
   go_wp2_with (go_at_call 18; refine (hf _ hisl).mono ?_; rintro e w9 ⟨v9, rfl, hv9, hb9⟩)
   go_ret
   exact ⟨_, rfl, hv9, hbr.trans (hb9.mono hbr.size)⟩
theorem made_any (vl : Value) (L : List Drw) (w : World) (hL : IsDraw w vl L) : Calls Tryz.prog 22 #[vl] w (RetPoly w (madeP L 5 3)) := by
 have h := fun W (hb : Below w.heap.size w W) => made_draw_any vl L 5 3 W (hL.on hb) (by omega) (by omega)
 obtain ⟨al, cl, rfl, hcl⟩ := hL.shape
 replace hL := Lib.hid hL
 go_enter Tryz.func22, Tryz.ntmps22
 go_wp2_with (go_at_call 28; refine (h _ (Below.refl _ _)).mono ?_; rintro e w9 ⟨v9, rfl, hv9, hb9⟩)
 go_ret
 exact ⟨_, rfl, hv9, hb9⟩
end Go.Proofs.YtplfdeohokkebaaGreat
