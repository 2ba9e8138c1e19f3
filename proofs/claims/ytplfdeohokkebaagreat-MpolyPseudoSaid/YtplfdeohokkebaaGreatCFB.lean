/- The reference's Div of polynomials: what a run asks; the contract. -/
import Derived.Test.YtplfdeohokkebaaGreatCFA
set_option linter.unusedVariables false
set_option linter.unusedSimpArgs false
namespace Q
open Go Go.Proofs.YtplfdeohokkebaaGreat
inductive RunD (sa sq : Sz) (b : List Trm) (g : Trm) : Nat → List Trm → List Trm → Option (List Trm) → Prop
 | done {out : List Trm} : RunD sa sq b g 0 [] out (some out)
 | fail {m : Trm} {a out : List Trm} : (m.1.sub g.1).nat = false → Pk sa (m :: a) → RunD sa sq b g 0 (m :: a) out none
 | step {n : Nat} {m : Trm} {a out : List Trm} {r : Option (List Trm)} : (m.1.sub g.1).nat = true → Pk sa (m :: a) → Bd sq [quoT m g] → out.length ≤ 1000000 →
   RunD sa sq b g n (subP (m :: a) (mulP b [quoT m g])) (out ++ [quoT m g]) r → RunD sa sq b g (n + 1) (m :: a) out r
theorem RunD.inv {sa sq : Sz} {b : List Trm} {g m : Trm} {n : Nat} {a out : List Trm} {r : Option (List Trm)} (h : RunD sa sq b g n (m :: a) out r) :
  Pk sa (m :: a) ∧ ((m.1.sub g.1).nat = false → r = none) ∧ ((m.1.sub g.1).nat = true → ∃ n', n = n' + 1 ∧ Bd sq [quoT m g] ∧ out.length ≤ 1000000 ∧ RunD sa sq b g n' (subP (m :: a) (mulP b [quoT m g])) (out ++ [quoT m g]) r) := by
 cases h with
 | fail h1 h2 => exact ⟨h2, fun _ => rfl, (fun h => by rw [h1] at h; cases h)⟩
 | step h1 h2 h3 h4 h5 => exact ⟨h2, (fun h => by rw [h1] at h; cases h), fun _ => ⟨_, rfl, h3, h4, h5⟩⟩
theorem RunD.inv0 {sa sq : Sz} {b : List Trm} {g : Trm} {n : Nat} {out : List Trm} {r : Option (List Trm)} (h : RunD sa sq b g n [] out r) : r = some out := by cases h; rfl
structure RunB (sa sb sq : Sz) (b : List Trm) (g : Trm) : Prop where
 pb : Pk sb b
 hd : ∃ r, b = g :: r
 oq : sq.ok
 om : (sb.mul sq).ok
 os : ((sb.mul sq).mul ⟨1, 1, 0, 1⟩).ok
 gs : g.2.num.natAbs ≤ 65535
theorem RunB.ne {sa sb sq : Sz} {b : List Trm} {g : Trm} (h : RunB sa sb sq b g) : g.2 ≠ 0 ∧ g.1.nat = true := by
 obtain ⟨r, hr⟩ := h.hd
 exact h.pb.v.2 g (by rw [hr]; simp)
theorem quoT_val {m g : Trm} {a : List Trm} (ha : Vld (m :: a)) (hz : g.2 ≠ 0) (hn : (m.1.sub g.1).nat = true) : Vld [quoT m g] :=
 vld_one hn (by
  show m.2 / g.2 ≠ 0
  have := (ha.2 m (by simp)).1
  intro h
  rw [Rat.div_def] at h
  exact rmul_ne this (fun h' => hz (by rw [← Rat.inv_inv g.2, h', Rat.inv_zero])) h)
theorem times_mul {b : List Trm} {q : Trm} (hb : Vld b) (hq : Vld [q]) : timesP b q = mulP b [q] := by
 rw [timesP_prods (hq.2 q (by simp)).1, mulP]
 refine (canon_id ?_).symm
 have := hb.times (hq.2 q (by simp)).2
 rwa [timesP_prods (hq.2 q (by simp)).1] at this
theorem fits_of {sa : Sz} {m g : Trm} {a : List Trm} (ha : Pk sa (m :: a)) (hg : g.2.num.natAbs ≤ 65535) : Fits ((m.2.den : Int) * g.2.num) := by
 have h1 := (ha.rs m (by simp)).1
 unfold Fits
 rw [Int.natAbs_mul, Int.natAbs_natCast]
 have : m.2.den * g.2.num.natAbs ≤ 65535 * 65535 := Nat.mul_le_mul (by omega) hg
 omega
theorem ir_sub {sa sb : Sz} {m g : Trm} {a b : List Trm} (ha : Pk sa (m :: a)) (hb : Pk sb (g :: b)) : InR (m.1.sub g.1) := by
 have h1 := ha.b.e m (by simp)
 have h2 := hb.b.e g (by simp)
 have e1 := ha.k.2.2.2.1
 have e2 := hb.k.2.2.2.1
 refine InR.of (K := sa.E + sb.E) (by omega) ?_
 simp only [Ex.sub]
 omega
end Q
namespace Go.Proofs.YtplfdeohokkebaaGreat
open Go.RowKit Q Go.WideMaps Go.Maps
set_option maxHeartbeats 1000000 in
set_option maxRecDepth 100000 in
theorem sub7_own {s t : Sz} {vp vq : Value} {p q : List Trm} {w : World} (hP : Pk s p) (hQ : Pk t q) (k : (t.mul ⟨1, 1, 0, 1⟩).ok) (hp : IsPoly w vp p) (hq : IsPoly w vq q) : Calls Tryz.prog 44 #[vp, vq] w (RetOwn w (subP p q)) := by
 have hs := Lib.hid (fun W u (hb : Below w.heap.size w W) (hu : IsRat W u (((-1 : Int)) : Rat)) => scaleK (w := W) (vc := u) (c := -1) hQ rs_neg (hq.on hb) hu)
 have ha := Lib.hid (fun W u (hb : Below w.heap.size w W) (hu : IsPoly W u (scaleP q (-1))) => mergeP_eq hP.v (hQ.v.scale (-1)) ▸ add7_own vp u p _ W (hp.on hb) hu hP.rs (hQ.scale neg_pk k).rs hP.len (hQ.scale neg_pk k).len)
 replace hp := Lib.hid hp
 replace hq := Lib.hid hq
 go_enter Tryz.func44, Tryz.ntmps44
 go_wp2_with (first
  | (go_at_call 13; refine (whole2_any (-1) _ (by omega) (by omega)).mono ?_; rintro en w3 ⟨v3, rfl, hv3, hb3⟩)
  | (go_at_call 48; refine (hs.out _ _ hb3 hv3).mono ?_; rintro en w4 ⟨v4, rfl, hv4, hb4⟩)
  | (go_at_call 36; refine (ha.out _ _ (hb3.trans (hb4.mono hb3.size)) hv4).mono ?_; rintro en w5 ⟨v5, rfl, hv5, hb5⟩))
 have hb34 := hb3.trans (hb4.mono hb3.size)
 go_ret
 exact ⟨_, rfl, hv5.base_mono hb34.size, hb34.trans (hb5.mono hb34.size)⟩
def subZ (m g : Ex) : Nat → Ex
 | 0 => e0
 | k + 1 => (subZ m g k).put k (m.get k - g.get k)
theorem subZ_full (m g : Ex) : subZ m g 4 = m.sub g := rfl
theorem nil_own {w : World} {base : Nat} (h : base ≤ w.heap.size) : IsPoly (w.alloc (.cells #[] 37)) (.slice (some ⟨w.heap.size, 0, none⟩) 0 0) [] := (own_lit0' elTerm h).isSl
set_option maxHeartbeats 1000000 in
theorem div7_nil (vp vq : Value) (p : List Trm) (w : World) (hp : IsPoly w vp p) (hq : IsPoly w vq []) : Calls Tryz.prog 41 #[vp, vq] w (RetDivP w none) := by
 obtain ⟨ap, cp, rfl, hcp⟩ := hp.shape
 obtain ⟨aq, cq, rfl, hcq⟩ := hq.shape
 simp only [List.length_nil]
 go_enter Tryz.func41, Tryz.ntmps41
 go_wp2
 go_ret2
 exact ⟨_, rfl, nil_own (Nat.le_refl _), (Below.refl _ _).alloc (Nat.le_refl _) _⟩
set_option maxHeartbeats 16000000 in
set_option maxRecDepth 100000 in
theorem div7_any (vp vq : Value) (p b : List Trm) (g : Trm) (n : Nat) (r : Option (List Trm)) (sa sb sq : Sz) (w : World) (hp : IsPoly w vp p) (hq : IsPoly w vq (g :: b)) (hB : RunB sa sb sq (g :: b) g) (hd : RunD sa sq (g :: b) g n p [] r) :
  Calls Tryz.prog 41 #[vp, vq] w (RetDivP w r) := by
 obtain ⟨ap, cp, rfl, hcp⟩ := hp.shape
 obtain ⟨aq, cq, rfl, hcq⟩ := hq.shape
 obtain ⟨bq, oq, rg, rfl, hrg, hCg⟩ := cell_term hq (i := 0) (s := g) rfl
 rw [Nat.zero_mul, Nat.add_zero] at hCg
 have hlg := hrg.len
 have hgz := hB.ne
 have hgs := hB.pb.rs g (by simp)
 have hn1 : ((b.length + 1 : Nat) : Int) ≠ 0 := by omega
 have hn2 : (((b.length + 1 : Nat) : Int) == 0) = false := by simp; omega
 replace hd := Lib.hid hd
 replace hB := Lib.hid hB
 replace hgz := Lib.hid hgz
 replace hgs := Lib.hid hgs
 simp only [List.length_cons] at *
 go_enter Tryz.func41, Tryz.ntmps41
 go_wp2
 have hown0 := own_lit0 elTerm w
 have hb0 : Below w.heap.size w (w.alloc (.cells #[] monoT)) := (Below.refl _ _).alloc (Nat.le_refl _) _
 change OwnPoly w.heap.size (w.alloc (.cells #[] 37)) _ _ at hown0
 change Below w.heap.size w (w.alloc (.cells #[] 37)) at hb0
 have hap0 : p ≠ [] → ∀ ao n c, (.slice ap p.length cp : Value) = .slice (some ao) n c → some ao.block ≠ (.slice (some ⟨w.heap.size, 0, none⟩) 0 0 : Value).ownBlock := by
  intro hne ao n c h hh
  cases p with
  | nil => exact hne rfl
  | cons t p' =>
   obtain ⟨b', o', r', e', -, hC'⟩ := cell_term hp (i := 0) (s := t) rfl
   simp only [Value.slice.injEq] at h
   have h2 := hC'.lt
   rw [e'] at h
   have h1 := h.1
   simp only [Option.some.injEq] at h1
   subst h1
   simp [Value.ownBlock] at hh
   omega
 replace hp := Lib.hid hp
 replace hq := Lib.hid hq
 replace hap0 := Lib.hid hap0
 go_loopg [6, 7] n (fun n vo va wr => ∃ a out, Hid (IsPoly wr va a) ∧ Hid (OwnPoly w.heap.size wr vo out) ∧ Hid (RunD sa sq (g :: b) g n a out r) ∧ Below w.heap.size w wr ∧ Hid (a ≠ [] → ∀ ao n c, va = .slice (some ao) n c → some ao.block ≠ vo.ownBlock))
 case atStart => exact ⟨p, [], Lib.hid (hp.out.on hb0), Lib.hid hown0, hd, hb0, hap0⟩
 case round =>
  clear hd hown0 hb0 hap0
  obtain ⟨a, out, ha, hown, hd, hbr, hap⟩ := hrel
  cases a with
  | nil =>
   have hr : r = some out := hd.out.inv0
   obtain ⟨aa, ca, rfl, hca⟩ := ha.out.shape
   replace hr := Lib.hid hr
   simp only [List.length_nil]
   go_wp2
   go_ret2
   exact ⟨_, by rw [hr.out]; rfl, by rw [hr.out]; exact hown.out.isSl, hbr⟩
  | cons m a =>
   obtain ⟨hPa, hfail, hstep⟩ := hd.out.inv
   obtain ⟨aa, ca, rfl, hca⟩ := ha.out.shape
   obtain ⟨ba, oa, ra, rfl, hra, hCa⟩ := cell_term ha.out (i := 0) (s := m) rfl
   rw [Nat.zero_mul, Nat.add_zero] at hCa
   have hla := hra.len
   have hne1 : some ba ≠ u6.ownBlock := fun h => hap.out (by simp) _ _ _ rfl h
   have hgo := fun v hv => Ex.get_bounds (ir_sub hPa hB.out.pb) (v := v) hv
   have hsx := fun v hv => subX m.1 g.1 v hv
   have hg0 : ((a.length + 1 : Nat) : Int) > 0 := by omega
   replace hgo := Lib.hid hgo
   replace hsx := Lib.hid hsx
   replace hfail := Lib.hid hfail
   replace hstep := Lib.hid hstep
   simp only [List.length_cons]
   go_upto_region 6 with (fail)
   refine abs1 fun W3 hb3 BB hs3 => ?_
   have hbr3 := hbr.trans (hb3.mono hbr.size)
   have ha3 := ha.out.on hb3
   have hown3 := hown.out.on hb3
   have hra3 := hra.on hb3
   have hwm : w.heap.size ≤ wr.heap.size := hbr.size
   have hom : u6.ownBlock ≠ some wr.heap.size := fun h => by have := (hown.out.base_le _ h).2; omega
   have ham : ba ≠ wr.heap.size := fun h => by have := hCa.lt; omega
   have hbase : ∀ k, u6.ownBlock = some k → w.heap.size ≤ k := fun k hk => (hown.out.base_le k hk).1
   clear hb3 hCa ha hown hra hbr hap hd hs3
   generalize wr.heap.size = mb at *
   have hst : Hid (Blk W3 mb monoT (exC (subZ m.1 g.1 0) ++ [.bool false, .slice none 0 0, .bool false, .slice none 0 0])) := Lib.hid BB
   clear BB
   go_wp2
   go_loopw [9] (fun i wr => ∃ k : Nat, k ≤ 4 ∧ i = .int .i64 k ∧ Hid (Blk wr mb monoT (exC (subZ m.1 g.1 k) ++ [.bool false, .slice none 0 0, .bool false, .slice none 0 0])) ∧ Hid (IsPoly wr (.slice (some ⟨ba, oa, none⟩) (a.length + 1) ca) (m :: a)) ∧ Hid (OwnPoly w.heap.size wr u6 out) ∧ Below w.heap.size w wr) (fun i _ => 4 - (intOf i).toNat)
   case atStart => exact ⟨0, by omega, rfl, hst, Lib.hid ha3, Lib.hid hown3, hbr3⟩
   case round =>
    clear hst ha3 hown3 hra3 hbr3
    obtain ⟨k, hk, rfl, hB1, ha, hown, hbr⟩ := hrel
    obtain ⟨ba', oa', ra, e9, hra, hCa⟩ := cell_term (ap := some ⟨ba, oa, none⟩) (cp := ca) (p := m :: a) ha.out (i := 0) (s := m) rfl
    simp only [Option.some.injEq, Addr.mk.injEq, and_true] at e9
    obtain ⟨rfl, rfl⟩ := e9
    rw [Nat.zero_mul, Nat.add_zero] at hCa
    have hla := hra.len
    have BB := hB1.out
    by_cases hk4 : k < 4
    ·have hk4' : (k : Int) < 4 := by omega
     have hat := exC_at (subZ m.1 g.1 k) k hk4 [.bool false, .slice none 0 0, .bool false, .slice none 0 0]
     have hset := exC_set (subZ m.1 g.1 k) k hk4 (m.1.get k - g.1.get k) [.bool false, .slice none 0 0, .bool false, .slice none 0 0]
     have hw : IntKind.i64.wrap (m.1.get k - g.1.get k) = m.1.get k - g.1.get k := wrap_id (by rw [← hsx.out k hk4]; exact hgo.out k hk4)
     have hgat := exC_at g.1 k hk4 rg
     have hmat := exC_at m.1 k hk4 ra
     have f1 : ∀ W', Below wr.heap.size wr W' → W'.cell? ⟨ba, oa + k, none⟩ = some (.int .i64 (m.1.get k)) := fun W' h => by
      rw [(hCa.on h).cell k (by simp [exC]; omega)]; exact hmat
     have f2 : ∀ W', Below wr.heap.size wr W' → W'.cell? ⟨bq, oq + k, none⟩ = some (.int .i64 (g.1.get k)) := fun W' h => by
      rw [(hCg.on (hbr.trans (h.mono hbr.size))).cell k (by simp [exC]; omega)]; exact hgat
     have hsucc : subZ m.1 g.1 (k + 1) = Ex.put (subZ m.1 g.1 k) k (m.1.get k - g.1.get k) := rfl
     generalize m.1.get k = x at *
     generalize g.1.get k = y at *
     replace hsucc := Lib.hid hsucc
     clear hgat hmat
     go_upto_region 9 with (fail)
     refine wp_region_L mixed (none) (0) (Okr.none) [.eq (.int .i64 k), .eq (.slice (some ⟨ba, oa, none⟩) (a.length + 1) ca), .eq (.int .i64 k), .eq (.pointer (some ⟨ba, oa + 0 * 8, none⟩)), .eq (.pointer (some ⟨ba, oa + 0 * 8, none⟩)), .eq (.pointer (some ⟨ba, oa + k, none⟩)), .eq (.int .i64 x), .eq (.slice (some ⟨bq, oq, none⟩) (b.length + 1) cq), .eq (.int .i64 k), .eq (.pointer (some ⟨bq, oq + 0 * 8, none⟩)), .eq (.pointer (some ⟨bq, oq + 0 * 8, none⟩)), .eq (.pointer (some ⟨bq, oq + k, none⟩)), .eq (.int .i64 y), .eq (.int .i64 (x - y)), .eq (.pointer (some ⟨mb, 0, none⟩)), .eq (.pointer (some ⟨mb, k, none⟩))] [24, 25, 26, 27, 28, 29, 30, 31, 32, 33, 34, 35, 36, 37, 38, 39] rfl rfl rfl rfl ⟨?_, ?_, ?_, ?_, ?_, ?_, ?_, ?_, ?_, ?_, ?_, ?_, ?_, ?_, ?_, ?_, trivial⟩ ?_
     ·exact fun A w1 hA hL hS he => goOn_plain rfl (stepG_mv rfl rfl (hA 9 rfl))
     ·exact fun A w1 hA hL hS he => goOn_plain rfl (stepG_mv rfl rfl (hA 7 rfl))
     ·exact fun A w1 hA hL hS he => goOn_plain rfl (stepG_mv rfl rfl (hA 9 rfl))
     ·intro A w1 hA hL hS he
      have h25 : A.eval (.tmp 25) = _ := he.1 rfl
      have hc0 : A.eval (.const (.int .i64 0)) = .int .i64 0 := rfl
      refine goOn_plain rfl ?_
      exact stepG_pure rfl rfl (execOp_index rfl (by rw [h25, show A.eval (.const (.int .i64 0)) = (.int .i64 0) from rfl]; exact run_index Tryz.underlying38 (by kernel_rfl) w1 ba oa _ _ 0 .i64 _ (by first | rfl | simp | omega) (by omega)))
     ·intro A w1 hA hL hS he
      have h27 : A.eval (.tmp 27) = _ := he.1 rfl
      refine goOn_plain rfl ?_
      exact stepG_pure rfl rfl (execOp_field rfl (by rw [h27]; exact run_field37_0 _ _ _))
     ·intro A w1 hA hL hS he
      have h28 : A.eval (.tmp 28) = _ := he.1 rfl
      have h26 : A.eval (.tmp 26) = _ := he.2.1 rfl
      refine goOn_plain rfl (stepG_pure rfl rfl ?_)
      generalize A.eval = ev at *
      go_simp
     ·intro A w1 hA hL hS he
      have h29 : A.eval (.tmp 29) = _ := he.1 rfl
      refine goOn_plain rfl ?_
      have c0 := f1 w1 hL.below
      refine stepG_pure rfl rfl ?_
      generalize A.eval = ev at *
      go_simp
     ·exact fun A w1 hA hL hS he => goOn_plain rfl (stepG_mv rfl rfl (hA 1 rfl))
     ·exact fun A w1 hA hL hS he => goOn_plain rfl (stepG_mv rfl rfl (hA 9 rfl))
     ·intro A w1 hA hL hS he
      have h31 : A.eval (.tmp 31) = _ := he.1 rfl
      have hc0 : A.eval (.const (.int .i64 0)) = .int .i64 0 := rfl
      refine goOn_plain rfl ?_
      exact stepG_pure rfl rfl (execOp_index rfl (by rw [h31, show A.eval (.const (.int .i64 0)) = (.int .i64 0) from rfl]; exact run_index Tryz.underlying38 (by kernel_rfl) w1 bq oq _ _ 0 .i64 _ (by first | rfl | simp | omega) (by omega)))
     ·intro A w1 hA hL hS he
      have h33 : A.eval (.tmp 33) = _ := he.1 rfl
      refine goOn_plain rfl ?_
      exact stepG_pure rfl rfl (execOp_field rfl (by rw [h33]; exact run_field37_0 _ _ _))
     ·intro A w1 hA hL hS he
      have h34 : A.eval (.tmp 34) = _ := he.1 rfl
      have h32 : A.eval (.tmp 32) = _ := he.2.1 rfl
      refine goOn_plain rfl (stepG_pure rfl rfl ?_)
      generalize A.eval = ev at *
      go_simp
     ·intro A w1 hA hL hS he
      have h35 : A.eval (.tmp 35) = _ := he.1 rfl
      refine goOn_plain rfl ?_
      have c0 := f2 w1 hL.below
      refine stepG_pure rfl rfl ?_
      generalize A.eval = ev at *
      go_simp
     ·intro A w1 hA hL hS he
      have h30 : A.eval (.tmp 30) = _ := he.1 rfl
      have h36 : A.eval (.tmp 36) = _ := he.2.1 rfl
      refine goOn_plain rfl (stepG_pure rfl rfl ?_)
      generalize A.eval = ev at *
      go_simp
     ·intro A w1 hA hL hS he
      have h8 : A.eval (.tmp 8) = .pointer (some ⟨mb, 0, none⟩) := hA 8 rfl
      refine goOn_plain rfl ?_
      exact stepG_pure rfl rfl (execOp_field rfl (by rw [h8]; exact run_field37_0 _ _ _))
     ·intro A w1 hA hL hS he
      have h38 : A.eval (.tmp 38) = _ := he.1 rfl
      have h24 : A.eval (.tmp 24) = _ := he.2.1 rfl
      refine goOn_plain rfl (stepG_pure rfl rfl ?_)
      generalize A.eval = ev at *
      go_simp
     ·intro W2 hL2
      have hb2 := hL2.below
      simp only [TailL, FactL.eq, List.length_cons, List.length_nil, List.drop_succ_cons, List.drop_zero]
      go_frame
      have B2 := BB.on hb2
      have z := B2.at1 k _ hat
      have hf := B2.frozen k
      have hown2 := hown.out.on hb2
      have ha2 := ha.out.on hb2
      have hbr2 := hbr.trans (hb2.mono hbr.size)
      have hl3 := setCell_lr (j := k) B2 (.int .i64 (x - y))
      have B3 := B2.set k (.int .i64 (x - y))
      rw [hset] at B3
      clear f1 f2 hL2
      go_wp2
      go_roundw
      case rel =>
       refine ⟨k + 1, by omega, by go_num, Lib.hid (by rw [hsucc.out]; exact B3), Lib.hid (ha2.lrB hl3 (elTerm_ok (by decide)) (fun ao n c h => by simp only [Value.slice.injEq, Option.some.injEq] at h; rw [← h.1]; simpa using ham)), Lib.hid (hown2.lr hl3 (elTerm_ok (by decide)) (.inr hom)), hbr2.trans (hl3.belowAt hbr2.size (fun k hk => by cases hk; exact hwm))⟩
      case measure => simp [intOf]; omega
    ·obtain rfl : k = 4 := by omega
     rw [subZ_full] at BB
     clear hgo hsx hB1
     obtain ⟨E, hE⟩ : ∃ E, E = m.1.sub g.1 := ⟨_, rfl⟩
     have hqe : quoT m g = (E, m.2 / g.2) := by rw [hE]; rfl
     rw [← hE] at BB hfail hstep
     replace hqe := Lib.hid hqe
     replace hE := Lib.hid hE
     go_upto_region 10 with (fail)
     refine wp_region_S trivial (none) (0) (Okr.none) [.eq (.pointer (some ⟨mb, 0, none⟩)), .eq (.agg (exC E).toArray), .ret (.bool E.nat), .eq (.bool (!E.nat))] [40, 41, 42, 43] rfl rfl rfl rfl ⟨?_, ?_, ?_, ?_, trivial⟩ ?_
     ·intro A w1 hA hL hS he
      have h8 : A.eval (.tmp 8) = .pointer (some ⟨mb, 0, none⟩) := hA 8 rfl
      refine goOn_plain rfl ?_
      exact stepG_pure rfl rfl (execOp_field rfl (by rw [h8]; exact run_field37_0 _ _ _))
     ·intro A w1 hA hL hS he
      have hb := hL.below
      have h40 : A.eval (.tmp 40) = _ := he.1 rfl
      refine goOn_plain rfl ?_
      exact stepG_pure rfl rfl (execOp_load rfl (by rw [h40]; exact run_loadAt_mid w1 _ _ _ _ _ (blk_ex (BB.on hb)) Tryz.underlying29 rfl (by rw [show (exC E).length = 4 from rfl]; kernel_rfl)))
     ·intro A w1 hA hL hS he
      have hb := hS rfl
      have h41 : A.eval (.tmp 41) = _ := he.1 rfl
      have hf0 : A.eval (.func 19) = .func (.func 19) #[] #[] := rfl
      refine goOn_plain rfl ?_
      refine stepG_call (f := 19) (args := #[.agg (exC E).toArray]) rfl rfl ?_ ?_
      ·generalize A.eval = ev at *
       go_simp
      ·refine (natural7_any E _).mono ?_
       rintro e w' ⟨rfl, hb'⟩
       exact ⟨_, rfl, hb', rfl⟩
     ·intro A w1 hA hL hS he
      have h42 : A.eval (.tmp 42) = _ := he.1 rfl
      refine goOn_plain rfl (stepG_pure rfl rfl ?_)
      generalize A.eval = ev at *
      go_simp
     ·intro W2 hL2
      have hb2 := hL2.below
      simp only [TailL, FactL.eq, FactL.ret, List.length_cons, List.length_nil, List.drop_succ_cons, List.drop_zero]
      go_frame
      have B2 := BB.on hb2
      have hown2 := hown.out.on hb2
      have ha2 := ha.out.on hb2
      have hra2 := hra.on hb2
      have hCa2 := hCa.on hb2
      have hbr2 := hbr.trans (hb2.mono hbr.size)
      clear hL2 BB hown ha hra hbr hb2 hCa
      cases hEn : E.nat
      ·have hr := hfail.out hEn
       replace hr := Lib.hid hr
       clear hstep hEn
       go_wp2
       go_ret2
       exact ⟨_, by rw [hr.out]; rfl, by rw [hr.out]; exact nil_own (Nat.le_refl _), hbr2.trans (((Below.refl _ _).alloc (Nat.le_refl _) _).mono hbr2.size)⟩
      ·obtain ⟨n', hn', hqb, hol, hd'⟩ := hstep.out hEn
       rw [hqe.out] at hd' hqb
       have hms := hPa.rs m (by simp)
       have hff := fits_of hPa hB.out.gs
       have QV : Pk sq [((E, m.2 / g.2) : Trm)] := ⟨hqe.out ▸ quoT_val hPa.v hgz.out.1 (by rw [← hE.out]; exact hEn), hqb, hB.out.oq⟩
       have PT := hB.out.pb.mul QV hB.out.om
       have htm := Lib.hid (fun W u (hu : IsPoly W u (g :: b)) cs (hc : IsTerm W cs (E, m.2 / g.2)) => times_mul hB.out.pb.v QV.v ▸ times7_any u (g :: b) cs (E, m.2 / g.2) W hu hc hB.out.pb.rs (QV.rs _ (by simp)) (hB.out.pb.times QV hB.out.om (by simp)).2 hB.out.pb.len)
       replace hd' := Lib.hid hd'
       replace hn' := Lib.hid hn'
       clear hfail hstep hEn
       have hdiv := fun W (hb : Below W2.heap.size W2 W) => div2_any _ _ _ _ W (hra2.on hb).rat (hrg.on (hbr2.trans (hb.mono hbr2.size))).rat hms hgs.out hgz.out.1 hff
       obtain ⟨N1, A1, K1, C1, N2, A2, K2, C2, rfl, -, -⟩ := id hra2
       obtain ⟨N3, A3, K3, C3, N4, A4, K4, C4, rfl, -, -⟩ := id hrg
       have u1 := B2.at1 4 _ rfl
       have u2 := B2.at1 5 _ rfl
       have u3 := B2.at1 6 _ rfl
       have u4 := B2.at1 7 _ rfl
       have hCg2 := hCg.on hbr2
       have x1 : W2.cell? ⟨bq, oq + 4, none⟩ = some (.bool N3) := by have := hCg2.cell 4 (by simp [exC]); simpa [exC] using this
       have x2 : W2.cell? ⟨bq, oq + 4 + 1, none⟩ = some (.slice A3 K3 C3) := by have := hCg2.cell 5 (by simp [exC]); simpa [exC, Nat.add_assoc] using this
       have x3 : W2.cell? ⟨bq, oq + 4 + 2, none⟩ = some (.bool N4) := by have := hCg2.cell 6 (by simp [exC]); simpa [exC, Nat.add_assoc] using this
       have x4 : W2.cell? ⟨bq, oq + 4 + 3, none⟩ = some (.slice A4 K4 C4) := by have := hCg2.cell 7 (by simp [exC]); simpa [exC, Nat.add_assoc] using this
       have y1 : W2.cell? ⟨ba, oa + 4, none⟩ = some (.bool N1) := by have := hCa2.cell 4 (by simp [exC]); simpa [exC] using this
       have y2 : W2.cell? ⟨ba, oa + 4 + 1, none⟩ = some (.slice A1 K1 C1) := by have := hCa2.cell 5 (by simp [exC]); simpa [exC, Nat.add_assoc] using this
       have y3 : W2.cell? ⟨ba, oa + 4 + 2, none⟩ = some (.bool N2) := by have := hCa2.cell 6 (by simp [exC]); simpa [exC, Nat.add_assoc] using this
       have y4 : W2.cell? ⟨ba, oa + 4 + 3, none⟩ = some (.slice A2 K2 C2) := by have := hCa2.cell 7 (by simp [exC]); simpa [exC, Nat.add_assoc] using this
       have f1 := B2.frozen 4
       have f2 := B2.frozen 5
       have f3 := B2.frozen 6
       have f4 := B2.frozen 7
       clear hCg2 hCa2
       go_upto_region 12 with (fail)
       go_cut [45, 46, 47, 48, 49, 50, 51, 52, 53, 54, 55, 56, 57] (fun _ _ _ _ _ _ _ _ _ _ _ _ _ wc => ∃ r' : List Value, Hid (Blk wc mb monoT (exC E ++ r')) ∧ Hid (IsRatC wc r' (m.2 / g.2)) ∧ Hid (OwnPoly w.heap.size wc u6 out) ∧ Hid (IsPoly wc (.slice (some ⟨ba, oa, none⟩) (a.length + 1) ca) (m :: a)) ∧ Below w.heap.size w wc)
       case first =>
        replace hown2 := Lib.hid hown2
        replace ha2 := Lib.hid ha2
        go_region_with (go_at_call 78; refine (hdiv _ (bdn (Below.refl _ _) _)).mono ?_; rintro en w5 ⟨v5, rfl, hv5, hb5⟩; obtain ⟨N5, A5, K5, C5, N6, A6, K6, C6, rfl⟩ := rat_agg hv5; have B5 := (B2.on (bdn (Below.refl _ _) _)).on hb5; have z1 := B5.at1 4 _ rfl; have z2 := B5.at1 5 _ rfl; have z3 := B5.at1 6 _ rfl; have z4 := B5.at1 7 _ rfl; have g1 := B5.frozen 4; have g2 := B5.frozen 5; have g3 := B5.frozen 6; have g4 := B5.frozen 7)
        all_goals
         obtain ⟨R5, gr5⟩ := setCells_blk [.bool N5, .slice A5 K5 C5, .bool N6, .slice A6 K6 C6] 4 w5 _ B5 (by simp [exC])
         have hl5 : Lr (some mb) monoT w5 _ := ⟨gr5, fun k hk => by cases hk; exact ⟨B5.noOther, R5.noOther⟩⟩
         have hb25 : Below W2.heap.size W2 w5 := (bdn (Below.refl _ _) _).trans (hb5.mono (Nat.le_refl _))
         have hbw5 := hbr2.trans (hb25.mono hbr2.size)
         have hown5 := (hown2.out.on hb25).lr hl5 (elTerm_ok (by decide)) (.inr hom)
         have ha5 := (ha2.out.on hb25).lrB hl5 (elTerm_ok (by decide)) (fun ao n c h => by simp only [Value.slice.injEq, Option.some.injEq] at h; rw [← h.1]; simpa using ham)
         have hr5 := (hv5.lr hl5 (by decide)).cellsC (cs := [.bool N5, .slice A5 K5 C5, .bool N6, .slice A6 K6 C6])
         have hbw6 := hbw5.trans (hl5.belowAt hbw5.size (fun k hk => by cases hk; exact hwm))
         clear z1 z2 z3 z4 g1 g2 g3 g4 B5 hv5 hl5 gr5
         go_wp2
         go_meet
         case rel => exact ⟨_, Lib.hid R5, Lib.hid hr5, Lib.hid hown5, Lib.hid ha5, hbw6⟩
       case rest =>
        clear B2 hown2 ha2 hra2 hdiv y1 y2 y3 y4 x1 x2 x3 x4 f1 f2 f3 f4 u1 u2 u3 u4 hbr2
        obtain ⟨r', hB1, hr', hown, ha, hbr⟩ := hcut
        have BB := hB1.out
        have h4r := hr'.out.len
        have hlen8 : (exC E ++ r').length = 8 := by rw [List.length_append, h4r]; rfl
        have hne' : some mb ≠ u6.ownBlock := fun h => hom h.symm
        replace hbase := Lib.hid hbase
        clear hB1 hlg
        go_upto_region 13 with (fail)
        refine wp_region_S trivial (u6.ownBlock) (monoT) (hown.out.okr) [.eq (u6), .eq (.agg (exC E ++ r').toArray), .new1 elTerm elTerm_okT ((E, m.2 / g.2)), .row elTerm (w.heap.size) wc.heap.size (out ++ [(E, m.2 / g.2)])] [58, 59, 60, 61] rfl rfl rfl rfl ⟨?_, ?_, ?_, ?_, trivial⟩ ?_
        ·exact fun A w1 hA hL hS he => goOn_plain rfl (stepG_mv rfl rfl (hA 6 rfl))
        ·intro A w1 hA hL hS he
         have h8 : A.eval (.tmp 8) = .pointer (some ⟨mb, 0, none⟩) := hA 8 rfl
         refine goOn_plain rfl ?_
         exact stepG_pure rfl rfl (execOp_load rfl (by rw [h8]; exact run_loadAt_mid w1 _ _ _ _ _ ((BB.lr hL hne').cells.range) Tryz.underlying37 rfl (by rw [hlen8]; kernel_rfl)))
        ·intro A w1 hA hL hS he
         have h59 : A.eval (.tmp 59) = _ := he.1 rfl
         refine goOn_plain rfl ?_
         have hE : (elTerm : El _).E w1 _ ((E, m.2 / g.2)) := ⟨_, rfl, hr'.out.lr hL (by decide)⟩
         refine stepG_new1 rfl rfl ((hown.out.okr).lr hL) hE (execOp_buildSlice rfl ?_) (fun _ _ h => h)
         simp only [List.map_toArray, List.map_cons, List.map_nil, h59]
         exact run_new1_elTermP _ _ ((elTerm).len hE)
        ·intro A w1 hA hL hS he
         have hb := hS rfl
         have hbw : Below w.heap.size w w1 := hbr.trans (hL.belowAt hbr.size hbase.out)
         have h58 : A.eval (.tmp 58) = _ := he.1 rfl
         have f60 : ((.new1 elTerm elTerm_okT ((E, m.2 / g.2)) : FactL (Lr (u6.ownBlock) (monoT)))).p (A.eval (.tmp 60)) w1 := he.2.1 rfl
         obtain ⟨v60, h60⟩ : ∃ v, A.eval (.tmp 60) = v := ⟨_, rfl⟩
         rw [h60] at f60
         refine goOn_plain rfl ?_
         exact stepG_append rfl rfl rfl Tryz.underlying38 info_elTerm h58 h60 (hown.out.on hb) rfl rfl (isSl_of_new f60) (by simp only [List.length_cons, List.length_nil]; omega) (hbw.size) hL.1.size (fun _ _ h1 h2 => ⟨h1, h2⟩)
        ·intro W6 hL6
         simp only [TailL, FactL.eq, FactL.new1, FactL.row, FactL.asPure, FactL.of, FactL.fragile, List.length_cons, List.length_nil, List.drop_succ_cons, List.drop_zero]
         rintro v60 - v61 ⟨hown6, hnew⟩
         go_frame
         have hbW6 := hbr.trans (hL6.belowAt hbr.size hbase.out)
         have ha6 := ha.out.lrB hL6 (elTerm_ok (by decide)) (fun ao n c h => by simp only [Value.slice.injEq, Option.some.injEq] at h; rw [← h.1]; exact hne1)
         have B6 := BB.lr hL6 hne'
         have hr6 := hr'.out.lr hL6 (by decide)
         have hq6 := hq.out.on hbW6
         have hblk6 := Lib.hid hown6.base_le
         clear hL6 BB ha hown hr' hbr hnew
         go_upto_region 14 with (fail)
         refine wp_region_S trivial (none) (0) (Okr.none) [.eq (.slice (some ⟨ba, oa, none⟩) (a.length + 1) ca), .eq (.slice (some ⟨bq, oq, none⟩) (b.length + 1) cq), .eq (.agg (exC E ++ r').toArray), .poly (by decide) (by decide) ((mulP (g :: b) [(E, m.2 / g.2)])), .own W6.heap.size (subP (m :: a) (mulP (g :: b) [(E, m.2 / g.2)]))] [62, 63, 64, 65, 66] rfl rfl rfl rfl ⟨?_, ?_, ?_, ?_, ?_, trivial⟩ ?_
         ·exact fun A w1 hA hL hS he => goOn_plain rfl (stepG_mv rfl rfl (hA 7 rfl))
         ·exact fun A w1 hA hL hS he => goOn_plain rfl (stepG_mv rfl rfl (hA 1 rfl))
         ·intro A w1 hA hL hS he
          have hb := hL.below
          have h8 : A.eval (.tmp 8) = .pointer (some ⟨mb, 0, none⟩) := hA 8 rfl
          refine goOn_plain rfl ?_
          exact stepG_pure rfl rfl (execOp_load rfl (by rw [h8]; exact run_loadAt_mid w1 _ _ _ _ _ ((B6.on hb).cells.range) Tryz.underlying37 rfl (by rw [hlen8]; kernel_rfl)))
         ·intro A w1 hA hL hS he
          have hb := hS rfl
          have h63 : A.eval (.tmp 63) = _ := he.1 rfl
          have h64 : A.eval (.tmp 64) = _ := he.2.1 rfl
          have hf0 : A.eval (.func 75) = .func (.func 75) #[] #[] := rfl
          refine goOn_plain rfl ?_
          refine stepG_call (f := 75) (args := #[.slice (some ⟨bq, oq, none⟩) (b.length + 1) cq, .agg (exC E ++ r').toArray]) rfl rfl ?_ ?_
          ·generalize A.eval = ev at *
           go_simp
          ·refine (htm.out _ _ (hq6.on hb) _ ⟨_, rfl, hr6.on hb⟩).mono ?_
           rintro e w' ⟨v, rfl, hi, hb'⟩
           exact ⟨_, rfl, hb', hi⟩
         ·intro A w1 hA hL hS he
          have hb := hS rfl
          have h62 : A.eval (.tmp 62) = _ := he.1 rfl
          have f65 : ((.poly (by decide) (by decide) ((mulP (g :: b) [(E, m.2 / g.2)])) : FactL (Lr (none) (0)))).p (A.eval (.tmp 65)) w1 := he.2.1 rfl
          obtain ⟨v65, h65⟩ : ∃ v, A.eval (.tmp 65) = v := ⟨_, rfl⟩
          rw [h65] at f65
          have hf0 : A.eval (.func 44) = .func (.func 44) #[] #[] := rfl
          refine goOn_plain rfl ?_
          refine stepG_call (f := 44) (args := #[.slice (some ⟨ba, oa, none⟩) (a.length + 1) ca, v65]) rfl rfl ?_ ?_
          ·generalize A.eval = ev at *
           go_simp
          ·refine (sub7_own hPa PT hB.out.os (ha6.on hb) f65).mono ?_
           rintro e w' ⟨v, rfl, hi, hb'⟩
           exact ⟨_, rfl, hb', hi.base_mono hb.size⟩
         ·intro W7 hL7
          have hb7 := hL7.below
          simp only [TailL, FactL.eq, FactL.poly, FactL.own, FactL.of, List.length_cons, List.length_nil, List.drop_succ_cons, List.drop_zero]
          rintro v65 - v66 hown9
          go_frame
          have hown7 := hown6.on hb7
          have hbW7 := hbW6.trans (hb7.mono hbW6.size)
          have hap : (subP (m :: a) (mulP (g :: b) [(E, m.2 / g.2)])) ≠ [] → ∀ ao n c, v66 = .slice (some ao) n c → some ao.block ≠ v61.ownBlock := fun _ ao n c h hc => by
           have h1 := (hblk6.out ao.block hc.symm).2
           obtain ⟨xs, ⟨-, h2⟩, -⟩ := hown9
           rcases h2 with ⟨h2, -⟩ | ⟨gg, cap, cur, h2, h3, -⟩
           ·rw [h] at h2; cases h2
           ·rw [h] at h2; cases h2; simp only at h1; omega
          replace hap := Lib.hid hap
          clear hL7 hb7 hown6 ha6 B6 hr6 hq6 hbW6
          go_wp2
          go_roundg n'
          case measure => have := hn'.out; omega
          case rel => exact ⟨_, _, Lib.hid hown9.isSl, Lib.hid hown7, hd', hbW7, hap⟩
end Go.Proofs.YtplfdeohokkebaaGreat
