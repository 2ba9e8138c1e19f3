/- The reference's Lead and Pow. -/
import Derived.Test.YtplfdeohokkebaaGreatC37
import Derived.Test.YtplfdeohokkebaaGreatCF6
set_option linter.unusedVariables false
set_option linter.unusedSimpArgs false
namespace Go.Proofs.YtplfdeohokkebaaGreat
open Go.RowKit Q Go.WideMaps Go.Maps
set_option maxHeartbeats 1000000 in
theorem lead7_any (vp : Value) (p : List Trm) (v : Nat) (w : World) (hp : IsPoly w vp p) (hv : v < 4) (lp : p.length ≤ 1000000) : Calls Tryz.prog 46 #[vp, .int .i64 v] w (RetPoly w (coeffP p v (degP p v))) := by
 have hd := Lib.hid (fun W (hb : Below w.heap.size w W) => deg7_any vp p v W (hp.on hb) hv lp)
 have hc := Lib.hid (fun W (hb : Below w.heap.size w W) => coeff7_any vp p v (degP p v) W (hp.on hb) hv lp)
 generalize degP p v = d at *
 go_enter Tryz.func46, Tryz.ntmps46
 go_wp2_with (first
  | (go_at_call 34; refine (hd.out _ (Below.refl _ _)).mono ?_; rintro e w1 ⟨rfl, hb1⟩)
  | (go_at_call 76; refine (hc.out _ hb1).mono ?_; rintro e w2 ⟨v2, rfl, hv2, hb2⟩))
 go_ret
 exact ⟨_, rfl, hv2, hb1.trans (hb2.mono hb1.size)⟩
set_option maxHeartbeats 4000000 in
set_option maxRecDepth 100000 in
theorem pow7_any (vp : Value) (p : List Trm) (n : Nat) (w : World) (s : Sz) (t : Nat → Sz) (hP : Pk s p) (hj : ∀ j, j < n → Pk (t j) (powP p j) ∧ ((t j).mul s).ok) (hn : n ≤ 1000000) (hp : IsPoly w vp p) : Calls Tryz.prog 45 #[vp, .int .i64 n] w (RetPoly w (powP p n)) := by
 have hw7 := Lib.hid (fun W => whole7_any 1 ⟨1, 1, 0, 1⟩ W (by omega) (by omega) (smB_bd (by decide +kernel)) (by decide +kernel))
 have hm := Lib.hid (fun j (h : j < n) W u (h1 : IsPoly W u (powP p j)) (h2 : IsPoly W vp p) => mul7K (hj j h).1 hP (hj j h).2 h1 h2)
 replace hj := Lib.hid hj
 replace hp := Lib.hid hp
 have hn0 : ¬ (n : Int) < 0 := by omega
 go_enter Tryz.func45, Tryz.ntmps45
 go_wp2_with (go_at_call 42; refine (hw7.out _).mono ?_; rintro e w1 ⟨v1, rfl, hv1, hb1⟩)
 go_loopw [5, 6] (fun va vi wr => ∃ i : Nat, vi = .int .i64 i ∧ Hid (IsPoly wr va (powP p i)) ∧ i ≤ n ∧ Below w.heap.size w wr) (fun _ vi _ => n - (intOf vi).toNat)
 case atStart => exact ⟨0, rfl, Lib.hid hv1, by omega, hb1⟩
 case round =>
  clear hv1 hb1
  obtain ⟨i, rfl, ha, hin, hb⟩ := hrel
  by_cases hi : i < n
  ·have hi' : (i : Int) < n := by omega
   have hc := hm.out i hi wr _ ha.out (hp.out.on hb)
   go_wp2_with (go_at_call 30; refine hc.mono ?_; rintro e w3 ⟨v3, rfl, hv3, hb3⟩)
   go_roundw
   case measure => simp [intOf]; omega
   case rel => exact ⟨i + 1, by go_num, Lib.hid hv3, by omega, hb.trans (hb3.mono hb.size)⟩
  ·obtain rfl : i = n := by omega
   have hi' : ¬ (i : Int) < i := by omega
   go_wp2
   go_ret
   exact ⟨_, rfl, ha.out, hb⟩
end Go.Proofs.YtplfdeohokkebaaGreat
