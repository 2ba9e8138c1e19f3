/- law07.MpolyDivides: joined. -/
import Derived.Test.YtplfdeohokkebaaGreatCFJ
set_option linter.unusedVariables false
set_option linter.unusedSimpArgs false
namespace Go.Proofs.YtplfdeohokkebaaGreat
open Go.RowKit Q Go.WideMaps Go.Maps
theorem divides_any (v1 v2 : Value) (L1 L2 : List Drw) (w : World) (h1 : IsDraw w v1 L1) (h2 : IsDraw w v2 L2) :
  Calls Tryz.prog 7 #[v1, v2] w (Ret w (.bool true)) := by
 have P : Pk ⟨1, 36, 2, 4⟩ (madeP L1 4 3) := made_pk (n := 4) (vs := 3) L1 (by decide)
 have D : Pk ⟨1, 27, 2, 3⟩ (madeP L2 3 3) := made_pk (n := 3) (vs := 3) L2 (by decide)
 have m1 := Lib.hid (fun W (hb : Below w.heap.size w W) => made_draw_any v1 L1 4 3 W (h1.on hb) (by decide) (by decide))
 have m2 := Lib.hid (fun W (hb : Below w.heap.size w W) => made_draw_any v2 L2 3 3 W (h2.on hb) (by decide) (by decide))
 have T : (madeP L2 3 3).length = 3 → ∀ t ∈ madeP L2 3 3, rabs t.2 ≤ 9 := made_three L2
 generalize madeP L1 4 3 = p at *
 generalize madeP L2 3 3 = q at *
 cases q with
 | nil => exact divides_nil v1 v2 p w P m1 m2
 | cons g b =>
  have DD : Dvr g b := ⟨D, T⟩
  obtain ⟨n, H, G, r, hB, hr, hq⟩ := DD.any P
  obtain ⟨hB1, hr1⟩ := DD.exact P
  obtain ⟨sa, sq, n4, r4, hB4, hr4, hc⟩ := DD.near P
  have key : ∃ ss, Pk ss (r.getD []) ∧ (ss.mul ⟨1, 27, 2, 3⟩).ok := by
   cases r with
   | none => exact ⟨⟨1, 1, 0, 1⟩, Pk.nil (by decide +kernel), by decide +kernel⟩
   | some s => exact ⟨_, (hq s rfl).2.1, (hq s rfl).2.2⟩
  obtain ⟨ss, S, kS⟩ := key
  refine divides_cons v1 v2 p b (r.getD []) (r4.getD []) g r.isSome r4.isSome w ss P D S kS (Lib.hid ?_) (Lib.hid hc) m1 m2
   (Lib.hid fun W vp vq hp hq => div_any vp vq _ b g _ (some p) W hp hq (hr1.divr hB1))
   (Lib.hid fun W vp vq hp hq => div_any vp vq _ b g _ r W hp hq (hr.divr hB))
   (Lib.hid fun W vp vq hp hq => div7_any vp vq _ b g _ r _ _ _ W hp hq hB hr)
   (Lib.hid fun W vp vq hp hq => div_any vp vq _ b g _ r4 W hp hq (hr4.divr hB4))
  intro h
  cases r with
  | none => cases h
  | some s => exact (hq s rfl).1
end Go.Proofs.YtplfdeohokkebaaGreat
