/- Contracts in terms of sizes: a polynomial that is valid and of a size. The reference's polynomials: Mul, Scale, Sub, in terms of sizes. Contracts in terms of sizes, more: powers, derivatives; a drawn variable; a pair of bytes. -/
import Derived.Test.YtplfdeohokkebaaGreatC15
import Derived.Test.YtplfdeohokkebaaGreatC29
import Derived.Test.YtplfdeohokkebaaGreatC34
import Derived.Test.YtplfdeohokkebaaGreatCF2
set_option linter.unusedVariables false
set_option linter.unusedSimpArgs false
section
namespace Q
open Go Go.Proofs.YtplfdeohokkebaaGreat
structure Pk (s : Sz) (p : List Trm) : Prop where
 v : Vld p
 b : Bd s p
 k : s.ok
theorem Sz.add_ok_left {s t : Sz} (h : (s.add t).ok) (hs : 0 < s.D) (ht : 0 < t.D) : s.ok ∧ t.ok := by
 obtain ⟨h1, h2, h3, h4, h5⟩ := h
 simp only [Sz.add] at h1 h2 h3 h4 h5
 have d1 : s.D ≤ Nat.lcm s.D t.D := Nat.le_of_dvd h1 (Nat.dvd_lcm_left _ _)
 have d2 : t.D ≤ Nat.lcm s.D t.D := Nat.le_of_dvd h1 (Nat.dvd_lcm_right _ _)
 exact ⟨⟨hs, by omega, by omega, by omega, by omega⟩, ⟨ht, by omega, by omega, by omega, by omega⟩⟩
namespace Pk
variable {s t : Sz} {p q : List Trm}
theorem mul (h : Pk s p) (h' : Pk t q) (k : (s.mul t).ok) : Pk (s.mul t) (mulP p q) := ⟨Vld.mul _ _, (h.b.prods h'.b).canon, k⟩
theorem add (h : Pk s p) (h' : Pk t q) (k : (s.add t).ok) : Pk (s.add t) (addP p q) := ⟨Vld.add _ _, (h.b.append h'.b).canon, k⟩
theorem mono (h : Pk s p) (hs : s.le t) (k : t.ok) : Pk t p := ⟨h.v, h.b.mono hs, k⟩
theorem rs (h : Pk s p) : ∀ t ∈ p, Rs t.2 := h.b.rs h.k
theorem rk (h : Pk s p) : ∀ t ∈ p, Rk t.2 := fun t ht => (h.rs t ht).rk
theorem ir (h : Pk s p) : ∀ t ∈ p, InR t.1 ∧ Rk t.2 := fun t ht => ⟨h.b.inR h.k t ht, h.rk t ht⟩
theorem len (h : Pk s p) : p.length ≤ 1000000 := h.b.len h.k
theorem nil (k : s.ok) : Pk s [] := ⟨Vld.nil, Bd.nil _, k⟩
theorem deg (h : Pk s p) (v : Nat) : -1 ≤ degP p v ∧ degP p v ≤ s.E := by
 refine ⟨degP_ge p v, ?_⟩
 rcases (foldl_max (fun t => t.1.get v) p (-1)).2.2 with h1 | ⟨t, ht, h1⟩
 ·show p.foldl _ _ ≤ _; rw [h1]; omega
 ·show p.foldl _ _ ≤ _
  rw [← h1]
  have := h.b.e t ht
  rcases v with _ | _ | _ | v <;> simp only [Ex.get] <;> omega
end Pk
theorem made_pk (L : List Drw) {n vs : Nat} (h : n ≤ 5) : Pk ⟨1, 9 * n, 2, n⟩ (madeP L n vs) := ⟨madeP_val _ _ _, madeP_bd _ _ _, made_ok h⟩
end Q
namespace Go.Proofs.YtplfdeohokkebaaGreat
open Go.RowKit Q
variable {w : World} {v u : Value} {s t : Sz} {p q : List Trm}
theorem mulK (hP : Pk s p) (hQ : Pk t q) (k : (s.mul t).ok) (hp : IsPoly w v p) (hq : IsPoly w u q) : Calls Tryz.prog 23 #[v, u] w (RetPoly w (mulP p q)) :=
 mul_pp v u p q w hp hq hP.ir hQ.ir ((hP.b.prods hQ.b).okl k) hP.len hQ.len
theorem addK (hP : Pk s p) (hQ : Pk t q) (hp : IsPoly w v p) (hq : IsPoly w u q) : Calls Tryz.prog 25 #[v, u] w (RetPoly w (addP p q)) :=
 mergeP_eq hP.v hQ.v ▸ add_pp v u p q w hp hq hP.rk hQ.rk hP.len hQ.len
theorem subK (hP : Pk s p) (hQ : Pk t q) (hp : IsPoly w v p) (hq : IsPoly w u q) : Calls Tryz.prog 26 #[v, u] w (RetPoly w (subP p q)) :=
 sub_any v u p q w hp hq hP.rk hQ.rk hP.len hQ.len hP.v hQ.v
theorem sameK (hP : Pk s p) (hQ : Pk t q) (e : p = q) (hp : IsPoly w v p) (hq : IsPoly w u q) : Calls Tryz.prog 17 #[v, u] w (Ret w (.bool true)) :=
 (decide_eq_true e) ▸ same7_any v u p q w hp hq hP.rk hQ.rk hP.len
theorem valid7K (hP : Pk s p) (hp : IsPoly w v p) : Calls Tryz.prog 15 #[v] w (Ret w (.bool true)) :=
 (vldB_vld.2 hP.v) ▸ valid7_any v p w hp hP.rs hP.len
theorem degK {n : Nat} (hP : Pk s p) (hn : n < 4) (hp : IsPoly w v p) : Calls Tryz.prog 24 #[v, .int .i64 n] w (Ret w (.int .i64 (degP p n))) := deg_any v p n w hp hn hP.len
end Go.Proofs.YtplfdeohokkebaaGreat
end
section
namespace Q
theorem timesP_prods {p : List Trm} {m : Trm} (h : m.2 ≠ 0) : timesP p m = prods p [m] := by
 rw [timesP, if_neg h]
 induction p with
 | nil => rfl
 | cons s p ih => rw [List.map_cons, ih]; rfl
theorem ev_single (x : Pt) (t : Trm) : ev x [t] = t.2 * mon x t.1 := by rw [ev_cons, ev_nil]; grind
theorem mul_snoc {p q : List Trm} {k : Nat} {t : Trm} (hp : Vld p) (hq : Vld q) (h : q[k]? = some t) : mergeP (mulP p (q.take k)) (timesP p t) = mulP p (q.take (k + 1)) := by
 have ht : t.1.nat = true := (hq.2 t (List.mem_of_getElem? h)).2
 have h1 := (hq.sublist (List.take_sublist k q)).nat
 have h2 := (hq.sublist (List.take_sublist (k + 1) q)).nat
 rw [mergeP_eq (Vld.mul _ _) (hp.times ht)]
 refine ev_inj (Vld.add _ _) (Vld.mul _ _) fun x => ?_
 rw [ev_add x (Vld.mul _ _).nat (hp.times ht).nat, ev_mul x hp.nat h1, ev_times x hp.nat ht, ev_mul x hp.nat h2, List.take_add_one, h]
 simp only [Option.toList_some]
 rw [ev_append, ev_single, Rat.mul_add]
theorem add_e0 (e : Ex) : e.add e0 = e := by simp [Ex.add, e0]
theorem timesP_scale (p : List Trm) (c : Rat) : timesP p (e0, c) = scaleP p c := by
 unfold timesP scaleP
 split
 ·rfl
 ·refine List.map_congr_left fun t _ => ?_
  simp only [mulT, add_e0]
namespace Pk
variable {s t : Sz} {p q : List Trm}
theorem times (h : Pk s p) (h' : Pk t q) (k : (s.mul t).ok) {u : Trm} (hu : u ∈ q) : Bd (s.mul t) (timesP p u) ∧ ∀ a ∈ p, Go.Proofs.YtplfdeohokkebaaGreat.InR (a.1.add u.1) := by
 have hz : u.2 ≠ 0 := (h'.v.2 u hu).1
 have hb : Bd t [u] := h'.b.sub (List.singleton_sublist.2 hu)
 have hp := h.b.prods hb
 refine ⟨by rw [timesP_prods hz]; exact hp, fun a ha => ?_⟩
 exact hp.inR k (mulT a u) (List.mem_flatMap.2 ⟨a, ha, by simp⟩)
theorem take (h : Pk s p) (k : Nat) : Pk s (p.take k) := ⟨h.v.sublist (List.take_sublist _ _), h.b.take k, h.k⟩
theorem scale (h : Pk s p) {c : Rat} (hb : Bd ⟨1, 1, 0, 1⟩ [(e0, c)]) (k : (s.mul ⟨1, 1, 0, 1⟩).ok) : Pk (s.mul ⟨1, 1, 0, 1⟩) (scaleP p c) := by
 refine ⟨h.v.scale c, ?_, k⟩
 rw [← timesP_scale]
 by_cases hc : c = 0
 ·rw [timesP, if_pos hc]; exact Bd.nil _
 ·rw [timesP_prods hc]; exact h.b.prods hb
end Pk
end Q
namespace Go.Proofs.YtplfdeohokkebaaGreat
open Go.RowKit Q Go.WideMaps Go.Maps
set_option maxHeartbeats 2000000 in
set_option maxRecDepth 100000 in
theorem mul7K {s t : Sz} {vp vq : Value} {p q : List Trm} {w : World} (hP : Pk s p) (hQ : Pk t q) (kk : (s.mul t).ok) (hp : IsPoly w vp p) (hq : IsPoly w vq q) : Calls Tryz.prog 30 #[vp, vq] w (RetPoly w (mulP p q)) := by
 obtain ⟨ap, cp, rfl, hcp⟩ := hp.shape
 obtain ⟨aq, cq, rfl, hcq⟩ := hq.shape
 have hlen := hQ.len
 have hmk := Lib.hid (fun k => hP.mul (hQ.take k) kk)
 have hti := Lib.hid (fun u (hu : u ∈ q) => hP.times hQ kk hu)
 have hsn := Lib.hid (fun k t (h : q[k]? = some t) => mul_snoc hP.v hQ.v h)
 go_enter Tryz.func30, Tryz.ntmps30
 go_wp2
 have hb0 : Below w.heap.size w (w.alloc (.cells #[] monoT)) := (Below.refl _ _).alloc (Nat.le_refl _) _
 have hst : IsPoly (w.alloc (.cells #[] monoT)) (.slice (some ⟨w.heap.size, 0, none⟩) 0 0) [] := (own_lit0 elTerm w).isSl
 change Below w.heap.size w (w.alloc (.cells #[] 37)) at hb0
 change IsPoly (w.alloc (.cells #[] 37)) _ _ at hst
 replace hp := Lib.hid hp
 replace hq := Lib.hid hq
 go_loopw [5, 6] (fun o i wr => ∃ k : Nat, k ≤ q.length ∧ i = .int .i64 k ∧ Hid (IsPoly wr o (mulP p (q.take k))) ∧ Below w.heap.size w wr) (fun _ i _ => q.length - (intOf i).toNat)
 case atStart => exact ⟨0, by omega, rfl, Lib.hid (by rw [List.take_zero, mulP_nil_right]; exact hst), hb0⟩
 case round =>
  clear hst hb0
  obtain ⟨k, hk, rfl, hO, hbr⟩ := hrel
  by_cases hkl : k < q.length
  ·have hjq : q[k]? = some q[k] := List.getElem?_eq_getElem hkl
   generalize q[k] = t at hjq
   obtain ⟨bq, oq, rt, rfl, hrt, hC⟩ := cell_term (hq.out.on hbr) hjq
   have hkl' : (k : Int) < q.length := by omega
   have hr := hC.range
   have h8 : (exC t.1 ++ rt).length = 8 := by rw [List.length_append, hrt.len]; rfl
   have hmem := List.mem_of_getElem? hjq
   have htm := times7_any _ p _ t wr (hp.out.on hbr) ⟨rt, rfl, hrt⟩ hP.rs (hQ.rs t hmem) (hti.out t hmem).2 hP.len
   have had := fun W u (hb : Below wr.heap.size wr W) (hu : IsPoly W u (timesP p t)) => add7_any u5 u _ _ W (hO.out.on hb) hu (hmk.out k).rs ((hti.out t hmem).1.rs kk) (hmk.out k).len ((hti.out t hmem).1.len kk)
   rw [hsn.out k t hjq] at had
   clear hC hmem hrt
   replace htm := Lib.hid htm
   replace had := Lib.hid had
   go_wp2_with (first
    | (refine wpList_index_at rfl _ _ 38 rfl monoT Tryz.underlying38 _ 8 96 (by kernel_rfl) _ _ _ rfl .i64 _ rfl k rfl hkl bq oq rfl ?_)
    | (refine wpList_load_mid rfl 37 _ rfl _ _ rfl _ _ hr Tryz.underlying37 rfl (by rw [h8]; kernel_rfl) ?_)
    | (go_at_call 75; refine htm.out.mono ?_; rintro en w3 ⟨v3, rfl, hv3, hb3⟩)
    | (go_at_call 36; refine (had.out _ _ hb3 hv3).mono ?_; rintro en w4 ⟨v4, rfl, hv4, hb4⟩))
   have hb34 := hb3.trans (hb4.mono hb3.size)
   go_roundw
   case rel => exact ⟨k + 1, by omega, by go_num, Lib.hid hv4, hbr.trans (hb34.mono hbr.size)⟩
   case measure => simp [intOf]; omega
  ·obtain rfl : k = q.length := by omega
   rw [List.take_of_length_le (Nat.le_refl _)] at hO
   go_wp2
   go_ret
   exact ⟨_, rfl, hO.out, hbr⟩
set_option maxHeartbeats 1000000 in
set_option maxRecDepth 100000 in
theorem scale7_any (vp vc : Value) (p : List Trm) (c : Rat) (w : World) (hp : IsPoly w vp p) (hc : IsRat w vc c) (rp : ∀ t ∈ p, Rs t.2) (rc : Rs c) (hin : ∀ t ∈ p, InR t.1) (lp : p.length ≤ 1000000) :
  Calls Tryz.prog 48 #[vp, vc] w (RetPoly w (scaleP p c)) := by
 obtain ⟨n5, a5, k5, c5, n6, a6, k6, c6, rfl⟩ := rat_agg hc
 have htm := Lib.hid (fun W (hb : Below w.heap.size w W) => times7_any vp p (exC e0 ++ [.bool n5, .slice a5 k5 c5, .bool n6, .slice a6 k6 c6]) (e0, c) W (hp.on hb) ⟨_, rfl, (hc.on hb).cellsC⟩ rp rc (fun t ht => by rw [add_e0]; exact hin t ht) lp)
 rw [timesP_scale] at htm
 replace hp := Lib.hid hp
 replace hc := Lib.hid hc
 clear rp rc hin
 go_enter Tryz.func48, Tryz.ntmps48
 go_upto_region 1 with (fail)
 refine abs1 fun W hb0 B hsz => ?_
 have y1 := B.at1 0 _ rfl
 have y2 := B.at1 1 _ rfl
 have y3 := B.at1 2 _ rfl
 have y4 := B.at1 3 _ rfl
 go_wp2_with (go_at_call 75; refine (htm.out _ hb0).mono ?_; rintro en w3 ⟨v3, rfl, hv3, hb3⟩)
 go_ret
 exact ⟨_, rfl, hv3, hb0.trans (hb3.mono hb0.size)⟩
theorem rs_neg : Rs (-1 : Rat) := rs_of_dv (s := ⟨1, 1, 0, 1⟩) (by decide +kernel) (Dv.int 1 (-1)) (show rabs (((-1 : Int)) : Rat) ≤ ((1 : Nat) : Rat) by rw [rabs_int]; exact Rat.natCast_le_natCast.2 (by decide))
theorem neg_pk : Bd ⟨1, 1, 0, 1⟩ [(e0, (-1 : Rat))] := smB_bd (by decide +kernel)
theorem scaleK {s : Sz} {vp vc : Value} {p : List Trm} {c : Rat} {w : World} (hP : Pk s p) (rc : Rs c) (hp : IsPoly w vp p) (hc : IsRat w vc c) : Calls Tryz.prog 48 #[vp, vc] w (RetPoly w (scaleP p c)) :=
 scale7_any vp vc p c w hp hc hP.rs rc (fun t ht => (hP.ir t ht).1) hP.len
theorem add7K {s t : Sz} {v u : Value} {p q : List Trm} {w : World} (hP : Pk s p) (hQ : Pk t q) (hp : IsPoly w v p) (hq : IsPoly w u q) : Calls Tryz.prog 36 #[v, u] w (RetPoly w (addP p q)) :=
 mergeP_eq hP.v hQ.v ▸ add7_any v u p q w hp hq hP.rs hQ.rs hP.len hQ.len
set_option maxHeartbeats 1000000 in
set_option maxRecDepth 100000 in
theorem sub7K {s t : Sz} {vp vq : Value} {p q : List Trm} {w : World} (hP : Pk s p) (hQ : Pk t q) (k : (t.mul ⟨1, 1, 0, 1⟩).ok) (hp : IsPoly w vp p) (hq : IsPoly w vq q) : Calls Tryz.prog 44 #[vp, vq] w (RetPoly w (subP p q)) := by
 have hs := Lib.hid (fun W u (hb : Below w.heap.size w W) (hu : IsRat W u (((-1 : Int)) : Rat)) => scaleK (w := W) (vc := u) (c := -1) hQ rs_neg (hq.on hb) hu)
 have ha := Lib.hid (fun W u (hb : Below w.heap.size w W) (hu : IsPoly W u (scaleP q (-1))) => add7K (w := W) (u := u) hP (hQ.scale neg_pk k) (hp.on hb) hu)
 replace hp := Lib.hid hp
 replace hq := Lib.hid hq
 go_enter Tryz.func44, Tryz.ntmps44
 go_wp2_with (first
  | (go_at_call 13; refine (whole2_any (-1) _ (by omega) (by omega)).mono ?_; rintro en w3 ⟨v3, rfl, hv3, hb3⟩)
  | (go_at_call 48; refine (hs.out _ _ hb3 hv3).mono ?_; rintro en w4 ⟨v4, rfl, hv4, hb4⟩)
  | (go_at_call 36; refine (ha.out _ _ (hb3.trans (hb4.mono hb3.size)) hv4).mono ?_; rintro en w5 ⟨v5, rfl, hv5, hb5⟩))
 have hb34 := hb3.trans (hb4.mono hb3.size)
 go_ret
 exact ⟨_, rfl, hv5, hb34.trans (hb5.mono hb34.size)⟩
end Go.Proofs.YtplfdeohokkebaaGreat
end
section
namespace Q
open Go Go.Proofs.YtplfdeohokkebaaGreat
def szp (s : Sz) (n : Nat) : Sz := ⟨s.D ^ n, s.B ^ n, s.E * n, s.N ^ n⟩
theorem szp_mul (s : Sz) (i j : Nat) : (szp s i).mul (szp s j) = szp s (i + j) := by
 simp only [szp, Sz.mul, Nat.pow_add, Nat.mul_add]
theorem szp_one (s : Sz) : szp s 1 = s := by simp [szp]
theorem one_bd : Bd ⟨1, 1, 0, 1⟩ (constP 1) := smB_bd (by decide +kernel)
theorem one_pk : Pk ⟨1, 1, 0, 1⟩ (constP 1) := ⟨Vld.const 1, one_bd, by decide +kernel⟩
namespace Pk
variable {s t : Sz} {p q : List Trm}
theorem pow_bd (h : Pk s p) : ∀ n, Bd (szp s n) (powP p n)
 | 0 => by simpa [szp, powP] using one_bd
 | n + 1 => by
  have := (pow_bd h n).prods h.b
  have e : (szp s n).mul s = szp s (n + 1) := by rw [← szp_mul, szp_one]
  rw [e] at this
  exact this.canon
theorem pow (h : Pk s p) (n : Nat) (k : (szp s n).ok) : Pk (szp s n) (powP p n) := ⟨Vld.pow p n, h.pow_bd n, k⟩
theorem get_le (h : Pk s p) (v : Nat) : ∀ t ∈ p, t.1.get v ≤ s.E := fun t ht => by
 have := h.b.e t ht
 rcases v with _ | _ | _ | v <;> simp only [Ex.get] <;> omega
theorem der (h : Pk s p) (v : Nat) (k : (⟨s.D, s.B * s.E, s.E + 1, s.N⟩ : Sz).ok) : Pk ⟨s.D, s.B * s.E, s.E + 1, s.N⟩ (partialP p v) := by
 refine ⟨h.v.pder v, ⟨?_, ?_, ?_, ?_⟩, k⟩
 ·unfold partialP; rw [List.length_map]; exact Nat.le_trans (List.length_filter_le _ _) h.b.n
 ·intro t ht
  obtain ⟨u, hu, rfl⟩ := List.mem_map.1 ht
  have hu' := (List.mem_filter.1 hu).1
  have hn := h.b.e u hu'
  show _ ∧ _
  rcases v with _ | _ | _ | v <;> simp only [Ex.put, Ex.get] <;> omega
 ·intro t ht
  obtain ⟨u, hu, rfl⟩ := List.mem_map.1 ht
  obtain ⟨a, ha⟩ := h.b.d u (List.mem_filter.1 hu).1
  refine ⟨a * u.1.get v, ?_⟩
  simp only
  rw [Rat.intCast_mul, ← ha]
  grind
 ·have h1 : ∀ l : List Trm, (∀ t ∈ l, t.1.nat = true ∧ t.1.get v ≤ s.E) → asum (partialP l v) ≤ asum l * ((s.E : Nat) : Rat) := by
   intro l
   induction l with
   | nil => intro _; simp only [partialP, List.filter_nil, List.map_nil, asum]; grind
   | cons u l ih =>
    intro hl
    have ih' := ih fun t ht => hl t (by simp [ht])
    have h0 := Ex.nat_get (hl u (by simp)).1 v
    have hE := (hl u (by simp)).2
    have hr := rabs_nonneg u.2
    have hE0 : (0 : Rat) ≤ ((s.E : Nat) : Rat) := Rat.natCast_nonneg
    unfold partialP at ih' ⊢
    by_cases hz : 0 < u.1.get v
    ·rw [List.filter_cons_of_pos (by simpa using hz), List.map_cons]
     simp only [asum]
     rw [rabs_mul, Rat.add_mul]
     have h2 : rabs ((u.1.get v : Int) : Rat) ≤ ((s.E : Nat) : Rat) := by
      rw [rabs_int]; exact Rat.natCast_le_natCast.2 (by omega)
     have h3 : rabs u.2 * rabs ((u.1.get v : Int) : Rat) ≤ rabs u.2 * ((s.E : Nat) : Rat) := Rat.mul_le_mul_of_nonneg_left h2 hr
     grind
    ·rw [List.filter_cons_of_neg (by simpa using hz)]
     simp only [asum]
     rw [Rat.add_mul]
     have h3 : 0 ≤ rabs u.2 * ((s.E : Nat) : Rat) := Rat.mul_nonneg hr hE0
     grind
  refine Rat.le_trans (h1 p fun t ht => ⟨(h.v.2 t ht).2, h.get_le v t ht⟩) ?_
  show asum p * ((s.E : Nat) : Rat) ≤ ((s.B * s.E : Nat) : Rat)
  rw [Rat.natCast_mul]
  exact Rat.mul_le_mul_of_nonneg_right h.b.b Rat.natCast_nonneg
theorem var (v : Nat) : Pk ⟨1, 1, 1, 1⟩ (varP v) := ⟨Vld.var v, by
 obtain rfl | rfl | rfl | h : v = 0 ∨ v = 1 ∨ v = 2 ∨ 3 ≤ v := by omega
 ·exact smB_bd (by decide +kernel)
 ·exact smB_bd (by decide +kernel)
 ·exact smB_bd (by decide +kernel)
 ·obtain ⟨u, rfl⟩ : ∃ u, v = u + 3 := ⟨v - 3, by omega⟩
  exact smB_bd (show smB 1 1 1 [((0, 0, 0, 1), 1)] = true by decide +kernel), by decide +kernel⟩
end Pk
end Q
namespace Go.Proofs.YtplfdeohokkebaaGreat
open Go.RowKit Q
theorem powK {s : Sz} {vp : Value} {p : List Trm} {n : Nat} {w : World} (hP : Pk s p) (hn : n ≤ 1000000) (k : ∀ j, j ≤ n → (szp s j).ok) (hp : IsPoly w vp p) : Calls Tryz.prog 29 #[vp, .int .i64 n] w (RetPoly w (powP p n)) :=
 pow_any vp p n w hp hP.v hn (fun j hj => ⟨(hP.pow j (k j hj)).ir, (hP.pow j (k j hj)).len⟩) ⟨hP.ir, hP.len⟩
  (fun i j h => (((hP.pow_bd i).prods (hP.pow_bd j))).okl (by rw [szp_mul]; exact k _ h))
theorem partialK {s : Sz} {vp : Value} {p : List Trm} {v : Nat} {w : World} (hP : Pk s p) (hE : s.E ≤ 1000) (hv : v < 4) (hp : IsPoly w vp p) : Calls Tryz.prog 52 #[vp, .int .i64 v] w (RetPoly w (partialP p v)) :=
 partial_any vp p v w hp hv (fun t ht => by
  have h1 := hP.get_le v t ht
  have h0 := Ex.nat_get (hP.v.2 t ht).2 v
  refine ⟨hP.rk t ht, by omega, ?_⟩
  obtain ⟨m, hm⟩ : ∃ m : Nat, t.1.get v = m := ⟨(t.1.get v).toNat, by omega⟩
  rw [hm]
  refine (rs_of_dv (s := ⟨1, 1000, 1, 1⟩) (by decide +kernel) (Dv.int 1 (m : Int)) ?_).rk
  rw [rabs_int]; exact Rat.natCast_le_natCast.2 (by show (m : Int).natAbs ≤ 1000; omega)) hP.len
set_option maxHeartbeats 1000000 in
theorem variable_any (x : Int) (a : Nat) (w : World) (h0 : 0 ≤ x) (h1 : x < 256) (ha : x % 4 = (a : Int)) : Calls Tryz.prog 32 #[.int .u8 x] w (Ret w (.int .i64 a)) := by
 have hwx : IntKind.i64.wrap x = x := wrap_id (by omega)
 have hxt : x.tmod 4 = (a : Int) := by rw [Int.tmod_eq_emod_of_nonneg h0]; exact ha
 clear ha
 go_enter Tryz.func32, Tryz.ntmps32
 go_wp2
 go_ret
 exact ⟨rfl, Below.refl _ _⟩
theorem mod4 {x : Int} (h0 : 0 ≤ x) : ∃ a : Nat, x % 4 = (a : Int) ∧ a < 4 := ⟨(x % 4).toNat, by omega, by omega⟩
end Go.Proofs.YtplfdeohokkebaaGreat
end
