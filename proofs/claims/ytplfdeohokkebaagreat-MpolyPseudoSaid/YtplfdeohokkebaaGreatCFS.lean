/- law07.MpolyPseudo: joined. -/
import Derived.Test.YtplfdeohokkebaaGreatCFR
set_option linter.unusedVariables false
set_option linter.unusedSimpArgs false
namespace Go.Proofs.YtplfdeohokkebaaGreat
open Go.RowKit Q Go.WideMaps Go.Maps
theorem pslaw_any (v1 v2 : Value) (z : Int) (L1 L2 : List Drw) (w : World) (h1 : IsDraw w v1 L1) (h2 : IsDraw w v2 L2) (z0 : 0 ≤ z) (z1 : z < 256) :
  Calls Tryz.prog 8 #[v1, v2, .int .u8 z] w (Ret w (.bool true)) := by
 have P : Pk ⟨1, 36, 2, 4⟩ (madeP L1 4 3) := made_pk (n := 4) (vs := 3) L1 (by decide)
 have D : Pk ⟨1, 27, 2, 3⟩ (madeP L2 3 3) := made_pk (n := 3) (vs := 3) L2 (by decide)
 have m1 := Lib.hid (fun W (hb : Below w.heap.size w W) => made_draw_any v1 L1 4 3 W (h1.on hb) (by decide) (by decide))
 have m2 := Lib.hid (fun W (hb : Below w.heap.size w W) => made_draw_any v2 L2 3 3 W (h2.on hb) (by decide) (by decide))
 generalize madeP L1 4 3 = p at *
 generalize madeP L2 3 3 = q at *
 obtain ⟨a, ha, ha4⟩ := mod4 z0
 have c1 := Lib.hid (fun W => variable_any z a W z0 z1 ha)
 cases q with
 | nil => exact pslaw_nil v1 v2 z a p w m1 m2 c1
 | cons g b =>
  have hne : (g :: b) ≠ [] := by simp
  obtain ⟨⟨S, hL⟩, hps, hok, hl2⟩ := ps_law (p := p) (q := g :: b) (v := a) P D hne ha4
  have hp2 := P.deg a
  have hq2 := D.deg a
  have hq0 := deg_ge0 hne D.v.nat a
  simp only at hp2 hq2
  have d1 : ∀ W vp vq, IsPoly W vp p → IsPoly W vq (g :: b) → Calls Tryz.prog 43 #[vp, vq, .int .i64 a] W (RetPolyE W (psRem p (g :: b) a) 0) := fun W vp vq hp hq =>
   pseudo_any vp vq p (g :: b) a W hp hq ha4 hne P.v.nat D.v.nat (by omega) (by omega) P.len D.len hps hok hl2
  have d2 : ∀ W vp, IsPoly W vp p → Calls Tryz.prog 34 #[vp, .int .i64 a] W (Ret W (.int .i64 (degP p a))) := fun W vp hp => deg7_any vp p a W hp ha4 P.len
  have d3 : ∀ W vp, IsPoly W vp (g :: b) → Calls Tryz.prog 34 #[vp, .int .i64 a] W (Ret W (.int .i64 (degP (g :: b) a))) := fun W vp hp => deg7_any vp _ a W hp ha4 D.len
  by_cases hmn : degP p a < degP (g :: b) a
  ·have hr := hL.lt hmn
   rw [hr] at d1
   exact pslaw_less v1 v2 z a p b g _ _ w P D hmn m1 m2 c1 (Lib.hid d1) (Lib.hid d2) (Lib.hid d3)
  ·have hle : degP (g :: b) a ≤ degP p a := by omega
   have he := hL.e hle
   have hd := hL.d hle
   have hs : degP p a - degP (g :: b) a + 1 = (((degP p a - degP (g :: b) a + 1).toNat : Nat) : Int) := by omega
   have hs3 : (degP p a - degP (g :: b) a + 1).toNat ≤ 3 := by omega
   generalize (degP p a - degP (g :: b) a + 1).toNat = s at *
   have C : Pk sd (coeffP (g :: b) a (degP (g :: b) a)) := Pk.coeff (s := sd) D a _
   have kk : ∀ j, j ≤ 3 → (szp sd j).ok ∧ (szp sd j).le ⟨1, 19683, 6, 27⟩ ∧ ((szp sd j).mul sd).ok := fun j hj => by
    obtain rfl | rfl | rfl | rfl : j = 0 ∨ j = 1 ∨ j = 2 ∨ j = 3 := by omega
    all_goals decide +kernel
   have PW : Pk ⟨1, 19683, 6, 27⟩ (powP (coeffP (g :: b) a (degP (g :: b) a)) s) := (C.pow s (kk s hs3).1).mono (kk s hs3).2.1 (by decide +kernel)
   obtain ⟨hB, hR⟩ := multiple D hL.k
   exact pslaw_main v1 v2 z a s p b (psRem p (g :: b) a) _ S g _ _ (degP (psRem p (g :: b) a) a) w P D hL.r PW hmn (by omega) (by omega) (Lib.hid hs) hd (Lib.hid he) m1 m2 c1 (Lib.hid d1) (Lib.hid d2) (Lib.hid d3)
    (Lib.hid fun W vp hp => lead7_any vp _ a W hp ha4 D.len)
    (Lib.hid fun W vp hp => pow7_any vp _ s W sd (szp sd) C (fun j hj => ⟨C.pow j (kk j (by omega)).1, (kk j (by omega)).2.2⟩) (by omega) hp)
    (Lib.hid fun W vp vq hp hq => div7_any vp vq _ b g _ (some S) _ _ _ W hp hq hB hR)
    (Lib.hid fun W vp hp => deg7_any vp _ a W hp ha4 hL.r.len)
end Go.Proofs.YtplfdeohokkebaaGreat
