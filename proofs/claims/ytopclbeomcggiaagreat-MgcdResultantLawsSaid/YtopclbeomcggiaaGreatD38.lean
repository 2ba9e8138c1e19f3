/- The reference's Subst and Eval, for polynomials with the sizes of drawn ones. -/
import Derived.Test.YtopclbeomcggiaaGreatD26
import Derived.Test.YtopclbeomcggiaaGreatD27
import Derived.Test.YtopclbeomcggiaaGreatD31
import Derived.Test.YtopclbeomcggiaaGreatDSW
set_option linter.unusedVariables false
set_option linter.unusedSimpArgs false
namespace Q
open Go Go.Proofs.YtopclbeomcggiaaGreat
def soP (a : List Trm) (v : Nat) (b : List Trm) : Nat → List Trm
 | 0=>[]
 | n + 1=>addP (soP a v b n) (mulP (coeffP a v (n : Nat)) (powP b n))
theorem soP_vld (a : List Trm) (v : Nat) (b : List Trm) : ∀ n,Vld (soP a v b n)
 | 0=>Vld.nil
 | _ + 1=>Vld.add _ _
theorem soP_ev (x : Pt) {a b : List Trm} (ha : Vld a) (hb : Vld b) (v : Nat) : ∀ n,ev x (soP a v b n)=rsum (fun i=>ev x (coeffP a v (i : Nat)) * ev x b ^ i) n
 | 0=>rfl
 | n + 1=>by rw [soP,rsum,ev_add x (soP_vld a v b n).nat (Vld.mul _ _).nat,ev_mul x (ha.coeff v n).nat (Vld.pow _ _).nat,ev_pow x hb.nat,soP_ev x ha hb v n]
theorem soP_subst {a b : List Trm} (ha : Vld a) (hb : Vld b) (v : Nat) {n : Nat} (hn : degP a v + 1=n) : soP a v b n=substP a v b :=
 ev_inj (soP_vld _ _ _ _) (Vld.subst _ _ _) fun x=>by
  rw [soP_ev x ha hb,ev_subst x ha hb.nat,ev_split x v (ev x b) n ha.nat fun t ht=>by have:=degP_le ht v; omega]
def soS : Nat → Sz
 | 0=>⟨1,0,0,0⟩
 | n + 1=>(soS n).add (sz8.mul (szp sz8 n))
theorem so_ok : ∀ n,n ≤ 3 → (soS n).ok ∧ (szp sz8 n).ok ∧ (sz8.mul (szp sz8 n)).ok ∧ ((szp sz8 n).mul sz8).ok:=by decide +kernel
theorem soP_pk {a b : List Trm} (ha : Pk sz8 a) (hb : Pk sz8 b) (v : Nat) : ∀ n,n ≤ 3 → Pk (soS n) (soP a v b n)
 | 0,_=>Pk.nil (so_ok 0 (by omega)).1
 | n + 1,h=>(soP_pk ha hb v n (by omega)).add ((ha.coeff v n).mul (hb.pow n (so_ok n (by omega)).2.1) (so_ok n (by omega)).2.2.1) (so_ok (n + 1) h).1
end Q
namespace Go.Proofs.YtopclbeomcggiaaGreat
open Go.RowKit Q Go.WideMaps Go.Maps
set_option maxHeartbeats 4000000 in
set_option maxRecDepth 100000 in
theorem subst7_any (va vb : Value) (a b : List Trm) (v : Nat) (w : World) (hv : v < 4) (ka : Pk sz8 a) (kb : Pk sz8 b) (ha : IsPoly w va a) (hb : IsPoly w vb b) : Calls Tryz.prog 38 #[va,.int .i64 v,vb] w (RetPoly w (substP a v b)):=by
 have hd2:=(ka.deg v).1
 have hd1 : degP a v ≤ 2:=(ka.deg v).2
 obtain ⟨n,hn⟩ : ∃ n : Nat,degP a v + 1=n:=⟨(degP a v + 1).toNat,by omega⟩
 have hfin:=Lib.hid (soP_subst ka.v kb.v v hn)
 have hw7:=Lib.hid (fun W=>whole7_any 1 ⟨1,1,0,1⟩ W (by omega) (by omega) (smB_bd (by decide +kernel)) (by decide +kernel))
 have hdg:=Lib.hid (fun W (h : IsPoly W va a)=>deg7K (v:=v) ka hv h)
 have hco:=Lib.hid (fun (i : Nat) W (h : IsPoly W va a)=>coeff7_any va a v i W h hv ka.len)
 have hm1:=Lib.hid (fun (i : Nat) (hi : i < n) W u1 u2 (h1 : IsPoly W u1 (coeffP a v i)) (h2 : IsPoly W u2 (powP b i))=>mul7K (ka.coeff v i) (kb.pow i (so_ok i (by omega)).2.1) (so_ok i (by omega)).2.2.1 h1 h2)
 have had:=Lib.hid (fun (i : Nat) (hi : i < n) W u1 u2 (h1 : IsPoly W u1 (soP a v b i)) (h2 : IsPoly W u2 (mulP (coeffP a v i) (powP b i)))=>add7K (soP_pk ka kb v i (by omega)) ((ka.coeff v i).mul (kb.pow i (so_ok i (by omega)).2.1) (so_ok i (by omega)).2.2.1) h1 h2)
 have hm2:=Lib.hid (fun (i : Nat) (hi : i < n) W u1 u2 (h1 : IsPoly W u1 (powP b i)) (h2 : IsPoly W u2 b)=>mul7K (kb.pow i (so_ok i (by omega)).2.1) kb (so_ok i (by omega)).2.2.2 h1 h2)
 generalize degP a v=D at *
 replace ha:=Lib.hid ha
 replace hb:=Lib.hid hb
 replace hn:=Lib.hid hn
 clear ka kb
 go_enter Tryz.func38,Tryz.ntmps38
 go_wp2_with (go_at_call 79; refine (hw7.out _).mono ?_; rintro e w1 ⟨v1,rfl,hv1,hb1⟩)
 have hb0 : Below w.heap.size w (w.alloc (.cells #[] monoT)):=(Below.refl _ _).alloc (Nat.le_refl _) _
 have hst : IsPoly (w.alloc (.cells #[] monoT)) (.slice (some ⟨w.heap.size,0,none⟩) 0 0) []:=(own_lit0 elTerm w).isSl
 change Below w.heap.size w (w.alloc (.cells #[] 43)) at hb0
 change IsPoly (w.alloc (.cells #[] 43)) _ _ at hst
 replace hb0:=hb0.trans (hb1.mono hb0.size)
 replace hst:=hst.on hb1
 clear hb1
 go_loopw [7,8,9] (fun vo vp vi wr=>∃ i : Nat,i ≤ n ∧ vi=.int .i64 i ∧ Hid (IsPoly wr vo (soP a v b i)) ∧ Hid (IsPoly wr vp (powP b i)) ∧ Below w.heap.size w wr) (fun _ _ vi _=>n - (intOf vi).toNat)
 case atStart=>exact ⟨0,by omega,rfl,Lib.hid hst,Lib.hid hv1,hb0⟩
 case round =>
  clear hst hv1 hb0
  obtain ⟨i,hin,rfl,hO,hP,hbr⟩:=hrel
  have hdw:=hdg.out wr (ha.out.on hbr)
  by_cases hi : i < n
  ·have hi' : (i : Int) ≤ D:=by have:=hn.out; omega
   go_wp2_with (first
    | (go_at_call 27; refine hdw.mono ?_; rintro e w2 ⟨rfl,hb2⟩; have hc3:=hco.out i w2 ((ha.out.on hbr).on hb2))
    | (go_at_call 80; refine hc3.mono ?_; rintro e w3 ⟨v3,rfl,hv3,hb3⟩; have hc4:=hm1.out i hi w3 _ _ hv3 ((hP.out.on hb2).on hb3))
    | (go_at_call 12; refine hc6.mono ?_; rintro e w6 ⟨v6,rfl,hv6,hb6⟩)
    | (go_at_call 12; refine hc4.mono ?_; rintro e w4 ⟨v4,rfl,hv4,hb4⟩; have hc5:=had.out i hi w4 _ _ (((hO.out.on hb2).on hb3).on hb4) hv4)
    | (go_at_call 39; refine hc5.mono ?_; rintro e w5 ⟨v5,rfl,hv5,hb5⟩; have hc6:=hm2.out i hi w5 _ _ ((((hP.out.on hb2).on hb3).on hb4).on hb5) (((((hb.out.on hbr).on hb2).on hb3).on hb4).on hb5)))
   have hbb:=((((hb2.trans (hb3.mono hb2.size)).trans (hb4.mono (hb2.trans (hb3.mono hb2.size)).size))))
   have hb5':=hbb.trans (hb5.mono hbb.size)
   have hb6':=hb5'.trans (hb6.mono hb5'.size)
   go_roundw
   case measure=>simp [intOf]; omega
   case rel=>exact ⟨i + 1,by omega,by go_num,Lib.hid (hv5.on hb6),Lib.hid hv6,hbr.trans (hb6'.mono hbr.size)⟩
  ·obtain rfl : i=n:=by omega
   have hi' : ¬ (i : Int) ≤ D:=by have:=hn.out; omega
   go_wp2_with (go_at_call 27; refine hdw.mono ?_; rintro e w2 ⟨rfl,hb2⟩)
   go_ret
   rw [hfin.out] at hO
   exact ⟨_,rfl,hO.out.on hb2,hbr.trans (hb2.mono hbr.size)⟩
set_option maxHeartbeats 2000000 in
set_option maxRecDepth 100000 in
theorem eval7_any (va vc : Value) (a : List Trm) (v : Nat) (w : World) (hv : v < 4) (ka : Pk sz8 a) (ha : IsPoly w va a) (hc : IsRat w vc 1) : Calls Tryz.prog 36 #[va,.int .i64 v,vc] w (RetPoly w (substP a v (constP 1))):=by
 obtain ⟨n5,a5,k5,c5,n6,a6,k6,c6,rfl⟩:=rat_agg hc
 have k1 : Pk sz8 (constP 1):=one_pk.mono (by decide +kernel) sz8_ok
 have hcs:=Lib.hid (fun W vq (h : IsRat W vq 1)=>const7_any vq 1 ⟨1,1,0,1⟩ W h (smB_bd (by decide +kernel)) (by decide +kernel))
 have hsu:=Lib.hid (fun W u1 u2 (h1 : IsPoly W u1 a) (h2 : IsPoly W u2 (constP 1))=>subst7_any u1 u2 a (constP 1) v W hv ka k1 h1 h2)
 clear ka k1
 go_enter Tryz.func36,Tryz.ntmps36
 go_wp2_with (first
  | (go_at_call 72; refine (hcs.out _ _ (hc.on ((Below.refl _ _).alloc (Nat.le_refl _) _))).mono ?_; rintro e w1 ⟨v1,rfl,hv1,hb1⟩)
  | (go_at_call 38; refine (hsu.out _ _ _ ((ha.on ((Below.refl _ _).alloc (Nat.le_refl _) _)).on hb1) hv1).mono ?_; rintro e w2 ⟨v2,rfl,hv2,hb2⟩))
 have hbA:=(Below.refl w.heap.size w).alloc (Nat.le_refl _) (.cells #[.bool n5,.slice a5 k5 c5,.bool n6,.slice a6 k6 c6] 41)
 have hb0:=hbA.trans (hb1.mono hbA.size)
 replace hb0:=hb0.trans (hb2.mono hb0.size)
 go_ret
 exact ⟨_,rfl,hv2,hb0⟩
end Go.Proofs.YtopclbeomcggiaaGreat
