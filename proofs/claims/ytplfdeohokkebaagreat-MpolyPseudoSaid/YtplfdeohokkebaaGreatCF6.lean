/- The reference's polynomials: Deg, Coeff, Coeffs. -/
import Derived.Test.YtplfdeohokkebaaGreatC28
set_option linter.unusedVariables false
set_option linter.unusedSimpArgs false
namespace Go.Proofs.YtplfdeohokkebaaGreat
open Go.RowKit Q Go.WideMaps Go.Maps
set_option maxHeartbeats 2000000 in
set_option maxRecDepth 100000 in
theorem deg7_any (vp : Value) (p : List Trm) (v : Nat) (w : World) (h : IsPoly w vp p) (hv : v < 4) (hlen : p.length ≤ 1000000) : Calls Tryz.prog 34 #[vp, .int .i64 v] w (Ret w (.int .i64 (degP p v))) := by
 obtain ⟨ao, cap, rfl, hcap⟩ := h.shape
 obtain ⟨R, HR⟩ : ∃ R, R = degP p v := ⟨_, rfl⟩
 rw [← HR]
 replace HR := Lib.hid HR
 replace h := Lib.hid h
 have hv4 : (v : Int) < 4 := by omega
 go_enter Tryz.func34, Tryz.ntmps34
 go_wp2
 go_loopw [5, 6] (fun d i wr => ∃ k : Nat, k ≤ p.length ∧ i = .int .i64 k ∧ d = .int .i64 (degP (p.take k) v) ∧ Below w.heap.size w wr) (fun _ i _ => p.length - (intOf i).toNat)
 case atStart => exact ⟨0, by omega, rfl, rfl, Below.refl _ _⟩
 case round =>
  obtain ⟨k, hk, rfl, rfl, hb⟩ := hrel
  by_cases hkl : k < p.length
  ·have hj : p[k]? = some p[k] := List.getElem?_eq_getElem hkl
   have hstep : degP (p.take (k + 1)) v = max (degP (p.take k) v) (p[k].1.get v) := by
    unfold degP; rw [List.take_succ_eq_append_getElem hkl, List.foldl_append]; rfl
   generalize p[k] = t at hj hstep
   obtain ⟨b', off, r, rfl, -, hC⟩ := cell_term (h.out.on hb) hj
   have hkl' : (k : Int) < p.length := by omega
   have z : wr.cell? ⟨b', off + k * 8 + v, none⟩ = some (.int .i64 (t.1.get v)) := by
    rw [hC.cell v (by simp [exC]; omega)]; exact exC_at t.1 v hv r
   generalize t.1.get v = x at *
   generalize degP (p.take k) v = d at *
   replace hstep := Lib.hid hstep
   clear hC
   go_wp2_with (refine wpList_index_at rfl _ _ 38 rfl monoT Tryz.underlying38 _ 8 96 (by kernel_rfl) _ _ _ rfl .i64 _ rfl k rfl hkl b' off rfl ?_)
   go_roundw
   case measure => simp [intOf]; omega
   case rel => exact ⟨k + 1, by omega, by go_num, by rw [hstep.out], hb⟩
  ·obtain rfl : k = p.length := by omega
   rw [List.take_of_length_le (Nat.le_refl _), ← HR.out]
   go_wp2
   go_ret
   exact ⟨rfl, hb⟩
theorem term_ones7 {w : World} {r : List Value} {q : Rat} {e : Ex} (h : IsRatC w r q) : (exC e ++ r).toArray.all (·.oneCell') = true := by
 rw [Array.all_eq_true_iff_forall_mem]
 intro v hv
 rcases List.mem_append.1 (by simpa using hv) with hv | hv
 ·exact exC_one e v hv
 ·exact h.one v hv
set_option maxHeartbeats 4000000 in
set_option maxRecDepth 100000 in
theorem coeff7_any (vp : Value) (p : List Trm) (v : Nat) (n : Int) (w : World) (hp : IsPoly w vp p) (hv : v < 4) (lp : p.length ≤ 1000000) : Calls Tryz.prog 76 #[vp, .int .i64 v, .int .i64 n] w (RetPoly w (coeffP p v n)) := by
 obtain ⟨ap, cp, rfl, hcp⟩ := hp.shape
 have hv4 : (v : Int) < 4 := by omega
 obtain ⟨R, hR⟩ : ∃ R, R = coeffP p v n := ⟨_, rfl⟩
 rw [← hR]
 replace hR := Lib.hid hR
 go_enter Tryz.func76, Tryz.ntmps76
 go_wp2
 have hown0 := own_lit0 elTerm w
 have hb0 : Below w.heap.size w (w.alloc (.cells #[] monoT)) := (Below.refl _ _).alloc (Nat.le_refl _) _
 change OwnPoly w.heap.size (w.alloc (.cells #[] 37)) _ _ at hown0
 change Below w.heap.size w (w.alloc (.cells #[] 37)) at hb0
 replace hp := Lib.hid hp
 go_loopw [7, 8] (fun o i wr => ∃ k : Nat, k ≤ p.length ∧ i = .int .i64 k ∧ Hid (OwnPoly w.heap.size wr o (coeffP (p.take k) v n)) ∧ (coeffP (p.take k) v n).length ≤ k ∧ Below w.heap.size w wr) (fun _ i _ => p.length - (intOf i).toNat)
 case atStart => exact ⟨0, by omega, rfl, Lib.hid hown0, by simp [coeffP], hb0⟩
 case round =>
  clear hown0 hb0
  obtain ⟨k, hk, rfl, hown, hln, hbr⟩ := hrel
  by_cases hkl : k < p.length
  ·have hjq : p[k]? = some p[k] := List.getElem?_eq_getElem hkl
   generalize p[k] = t at hjq
   have hsn := coeffP_step p hjq v n
   obtain ⟨bp, op, rc, rfl, hrc, hC⟩ := cell_term (hp.out.on hbr) hjq
   have hlc := hrc.len
   have h8 : (exC t.1 ++ rc).length = 8 := by rw [List.length_append, hlc]; rfl
   have hr := hC.range
   have hkl' : (k : Int) < p.length := by omega
   clear hC
   go_upto_region 6 with (first
    | (refine wpList_index_at rfl _ _ 38 rfl monoT Tryz.underlying38 _ 8 96 (by kernel_rfl) _ _ _ rfl .i64 _ rfl k rfl hkl bp op rfl ?_)
    | (refine wpList_load_mid rfl 37 _ rfl _ _ rfl _ _ hr Tryz.underlying37 rfl (by rw [h8]; kernel_rfl) ?_)
    | (refine wpList_store_blk rfl _ (.tmp 9) (.tmp 20) rfl _ _ _ _ rfl rfl (Blk.new wr monoT [.int .i64 0, .int .i64 0, .int .i64 0, .int .i64 0, .bool false, .slice none 0 0, .bool false, .slice none 0 0]) (by simp [exC, hlc]) (by simp only [List.size_toArray, h8]; exact info37) (term_ones7 hrc) ?_; intro W3 R3 gr3))
   have BB : Blk W3 wr.heap.size monoT (exC t.1 ++ rc) := by simpa using R3
   have hba : Below wr.heap.size wr (wr.alloc (.cells #[.int .i64 0, .int .i64 0, .int .i64 0, .int .i64 0, .bool false, .slice none 0 0, .bool false, .slice none 0 0] monoT)) := (Below.refl _ _).alloc (Nat.le_refl _) _
   have hb3 : Below wr.heap.size wr W3 := hba.trans (grown_below gr3 (by simp) (Nat.le_refl _))
   have hbr3 := hbr.trans (hb3.mono hbr.size)
   have hown3 := hown.out.on hb3
   have hrc3 := hrc.on hb3
   have hwm : w.heap.size ≤ wr.heap.size := hbr.size
   have hom : u7.ownBlock ≠ some wr.heap.size := fun h => by have := (hown.out.base_le _ h).2; omega
   have hbase : ∀ k, u7.ownBlock = some k → w.heap.size ≤ k := fun k hk => (hown.out.base_le k hk).1
   clear hr R3 gr3 hba hb3 hrc hown hbr
   generalize wr.heap.size = mb at *
   have hat := exC_at t.1 v hv rc
   have z := BB.at1 v _ hat
   have hset := exC_set t.1 v hv 0 rc
   by_cases hx : t.1.get v = n
   ·have e1 : (t.1.get v == n) = true := by simpa using hx
    rw [if_pos hx] at hsn
    have hf := BB.frozen v
    go_upto_region 8 with (fail)
    have hl4 := setCell_lr (j := v) BB (.int .i64 0)
    have B4 := BB.set v (.int .i64 0)
    rw [hset] at B4
    have hown4 := hown3.lr hl4 (elTerm_ok (by decide)) (.inr hom)
    have hrc4 := hrc3.lr hl4 (by decide)
    have hbr4 := hbr3.trans (hl4.belowAt hbr3.size (fun k hk => by cases hk; exact hwm))
    generalize W3.setCell ⟨mb, v, none⟩ (.int .i64 0) = W4 at *
    have hne : some mb ≠ u7.ownBlock := fun h => hom h.symm
    obtain ⟨E, hE⟩ : ∃ E, E = t.1.put v 0 := ⟨_, rfl⟩
    rw [← hE] at B4 hsn
    have h8' : (exC E ++ rc).length = 8 := by rw [List.length_append, hlc]; rfl
    replace hsn := Lib.hid hsn
    clear hl4 z hf BB hown3 hrc3 hbr3 hat hset hE e1 hx
    refine wp_region_S trivial (u7.ownBlock) (monoT) (hown4.okr) [.eq (u7), .eq (.agg (exC E ++ rc).toArray), .new1 elTerm elTerm_okT ((E, t.2)), .row elTerm (w.heap.size) W4.heap.size (coeffP (p.take k) v n ++ [(E, t.2)])] [30, 31, 32, 33] rfl rfl rfl rfl ⟨?_, ?_, ?_, ?_, trivial⟩ ?_
    ·exact fun A w1 hA hL hS he => goOn_plain rfl (stepG_mv rfl rfl (hA 7 rfl))
    ·intro A w1 hA hL hS he
     have h9 : A.eval (.tmp 9) = .pointer (some ⟨mb, 0, none⟩) := hA 9 rfl
     refine goOn_plain rfl ?_
     exact stepG_pure rfl rfl (execOp_load rfl (by rw [h9]; exact run_loadAt_mid w1 _ _ _ _ _ ((B4.lr hL hne).cells.range) Tryz.underlying37 rfl (by rw [h8']; kernel_rfl)))
    ·intro A w1 hA hL hS he
     have h31 : A.eval (.tmp 31) = _ := he.1 rfl
     refine goOn_plain rfl ?_
     have hE : (elTerm : El _).E w1 _ ((E, t.2)) := ⟨_, rfl, hrc4.lr hL (by decide)⟩
     refine stepG_new1 rfl rfl ((hown4.okr).lr hL) hE (execOp_buildSlice rfl ?_) (fun _ _ h => h)
     simp only [List.map_toArray, List.map_cons, List.map_nil, h31]
     exact run_new1_elTermP _ _ ((elTerm).len hE)
    ·intro A w1 hA hL hS he
     have hb := hS rfl
     have hbw : Below w.heap.size w w1 := hbr4.trans (hL.belowAt hbr4.size hbase)
     have h30 : A.eval (.tmp 30) = _ := he.1 rfl
     have f32 : ((.new1 elTerm elTerm_okT ((E, t.2)) : FactL (Lr (u7.ownBlock) (monoT)))).p (A.eval (.tmp 32)) w1 := he.2.1 rfl
     obtain ⟨v32, h32⟩ : ∃ v, A.eval (.tmp 32) = v := ⟨_, rfl⟩
     rw [h32] at f32
     refine goOn_plain rfl ?_
     exact stepG_append rfl rfl rfl Tryz.underlying38 info_elTerm h30 h32 (hown4.on hb) rfl rfl (isSl_of_new f32) (by simp only [List.length_cons, List.length_nil]; omega) (hbw.size) hL.1.size (fun _ _ h1 h2 => ⟨h1, h2⟩)
    ·intro W5 hL5
     simp only [TailL, FactL.eq, FactL.new1, FactL.row, FactL.asPure, FactL.of, FactL.fragile, List.length_cons, List.length_nil, List.drop_succ_cons, List.drop_zero]
     rintro v32 - v33 ⟨hown5, hnew⟩
     go_frame
     have hbW5 := hbr4.trans (hL5.belowAt hbr4.size hbase)
     go_wp2
     go_roundw
     case measure => simp [intOf]; omega
     case rel => exact ⟨k + 1, by omega, by go_num, Lib.hid (by rw [hsn.out]; exact hown5), by rw [hsn.out, List.length_append]; simp only [List.length_cons, List.length_nil]; omega, hbW5⟩
   ·have e1 : (t.1.get v == n) = false := by simpa using hx
    rw [if_neg hx, List.append_nil] at hsn
    replace hsn := Lib.hid hsn
    go_wp2
    go_roundw
    case measure => simp [intOf]; omega
    case rel => exact ⟨k + 1, by omega, by go_num, Lib.hid (by rw [hsn.out]; exact hown3), by rw [hsn.out]; omega, hbr3⟩
  ·obtain rfl : k = p.length := by omega
   rw [List.take_of_length_le (Nat.le_refl _)] at hown
   go_wp2
   go_ret
   exact ⟨_, rfl, by rw [hR.out]; exact hown.out.isSl, hbr⟩
set_option maxHeartbeats 4000000 in
set_option maxRecDepth 100000 in
theorem coeffs7_any (vp : Value) (p : List Trm) (v : Nat) (w : World) (hp : IsPoly w vp p) (hv : v < 4) (hd : degP p v ≤ 1000000) (lp : p.length ≤ 1000000) : Calls Tryz.prog 39 #[vp, .int .i64 v] w (RetPolys w (coeffsP p v)) := by
 obtain ⟨ap, cp, rfl, hcp⟩ := hp.shape
 have hdg := Lib.hid (fun W (hb : Below w.heap.size w W) => deg7_any _ p v W (hp.on hb) hv lp)
 have hcf := Lib.hid (fun W (hb : Below w.heap.size w W) (n : Nat) => coeff7_any _ p v n W (hp.on hb) hv lp)
 have hge := degP_ge p v
 obtain ⟨R, hR⟩ : ∃ R, R = coeffsP p v := ⟨_, rfl⟩
 rw [← hR]
 have hR' : R = (List.range (degP p v + 1).toNat).map fun n : Nat => coeffP p v n := hR
 clear hR
 generalize degP p v = d at *
 replace hR' := Lib.hid hR'
 replace hp := Lib.hid hp
 go_enter Tryz.func39, Tryz.ntmps39
 go_wp2
 have hown0 := own_lit0 elPoly w
 have hb0 : Below w.heap.size w (w.alloc (.cells #[] polyT)) := (Below.refl _ _).alloc (Nat.le_refl _) _
 change OwnPolys w.heap.size (w.alloc (.cells #[] 38)) _ _ at hown0
 change Below w.heap.size w (w.alloc (.cells #[] 38)) at hb0
 go_loopw [5, 6] (fun o i wr => ∃ k : Nat, (k : Int) ≤ d + 1 ∧ i = .int .i64 k ∧ Hid (OwnPolys w.heap.size wr o ((List.range k).map fun n : Nat => coeffP p v n)) ∧ Below w.heap.size w wr) (fun _ i _ => (d + 1).toNat - (intOf i).toNat)
 case atStart => exact ⟨0, by omega, rfl, Lib.hid hown0, hb0⟩
 case round =>
  clear hown0 hb0
  obtain ⟨k, hk, rfl, hown, hbr⟩ := hrel
  by_cases hkd : (k : Int) ≤ d
  ·have hsn : (List.range (k + 1)).map (fun n : Nat => coeffP p v n) = (List.range k).map (fun n : Nat => coeffP p v n) ++ [coeffP p v k] := by rw [List.range_succ, List.map_append]; rfl
   have hlen : ((List.range k).map fun n : Nat => coeffP p v n).length + ([coeffP p v k] : List (List Trm)).length ≤ 1000000000 := by simp; omega
   have happ : ∀ (W : World) (a : Option Addr) (c : Nat), Below wr.heap.size wr W → IsPoly W (.slice a (coeffP p v k).length c) (coeffP p v k) →
     OwnPolys w.heap.size (W.alloc (.cells #[.slice a (coeffP p v k).length c] 38)) u5 ((List.range k).map fun n : Nat => coeffP p v n) ∧
     IsPolys (W.alloc (.cells #[.slice a (coeffP p v k).length c] 38)) (.slice (some ⟨W.heap.size, 0, none⟩) 1 1) [coeffP p v k] ∧
     Below w.heap.size w (W.alloc (.cells #[.slice a (coeffP p v k).length c] 38)) := fun W a c hb h => by
    have hba : Below W.heap.size W (W.alloc (.cells #[.slice a (coeffP p v k).length c] 38)) := (Below.refl _ _).alloc (Nat.le_refl _) _
    exact ⟨hown.out.on (hb.trans (hba.mono hb.size)), isSl_new1 (e := elPoly) (Blk.new W polyT [.slice a (coeffP p v k).length c]) ⟨_, rfl, h.on hba⟩, (hbr.trans (hb.mono hbr.size)).trans (hba.mono (hbr.trans (hb.mono hbr.size)).size)⟩
   have hbase : ∀ k, u5.ownBlock = some k → w.heap.size ≤ k := fun k hk => (hown.out.base_le k hk).1
   replace happ := Lib.hid happ
   replace hsn := Lib.hid hsn
   go_wp2_with (first
    | (go_at_call 34; refine (hdg.out _ hbr).mono ?_; rintro en w2 ⟨rfl, hb2⟩)
    | (go_at_call 76; refine (hcf.out _ (hbr.trans (hb2.mono hbr.size)) k).mono ?_; rintro en w3 ⟨v3, rfl, hv3, hb3⟩; obtain ⟨a3, c3, rfl, -⟩ := hv3.shape)
    | (at_builtin; refine wpList_app rfl _ _ 57 rfl Tryz.underlying57 info_elPoly rfl rfl (happ.out _ _ _ (hb2.trans (hb3.mono hb2.size)) hv3).1 (happ.out _ _ _ (hb2.trans (hb3.mono hb2.size)) hv3).2.1 hlen (happ.out _ _ _ (hb2.trans (hb3.mono hb2.size)) hv3).2.2.size ?_; intro v8 w8 hown8 hl8 hv8))
   have hbw := (happ.out _ _ _ (hb2.trans (hb3.mono hb2.size)) hv3).2.2
   go_roundw
   case measure => simp [intOf]; omega
   case rel => exact ⟨k + 1, by omega, by go_num, Lib.hid (by rw [hsn.out]; exact hown8), hbw.trans (hl8.belowAt hbw.size hbase)⟩
  ·have e1 : (d + 1).toNat = k := by omega
   rw [e1] at hR'
   go_wp2_with (go_at_call 34; refine (hdg.out _ hbr).mono ?_; rintro en w2 ⟨rfl, hb2⟩)
   go_ret
   exact ⟨_, rfl, by rw [hR'.out]; exact (hown.out.on hb2).isSl, hbr.trans (hb2.mono hbr.size)⟩
end Go.Proofs.YtplfdeohokkebaaGreat
