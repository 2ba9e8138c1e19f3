/- The reference's polynomials: Var, Const, Whole, Equal, Same. -/
import Derived.Test.YtopclbeomcggiaaGreatW25
set_option linter.unusedVariables false
set_option linter.unusedSimpArgs false
set_option maxHeartbeats 16000000
set_option maxRecDepth 100000
section
namespace Go.Proofs.YtopclbeomcggiaaGreat
open Go.RowKit Q Go.WideMaps Go.Maps
theorem H8 (v:Nat) (w:World) (hv:v<4):Calls Tryz.prog 37 #[.int .i64 v] w (aX w (GK v)):=by
 have hw:=fun W=>jh 1 W (by omega) (by omega);obtain rfl|rfl|rfl|rfl:v=0\/v=1\/v=2\/v=3:=by omega
 ·go_enter Tryz.func37,Tryz.ntmps37
  go_upto_region 2 with (go_at_call 24;refine (hw _).mono ?_;rintro e w1 ⟨v1,rfl,hv1,hb1⟩;obtain⟨n,a,k,c,n',a',k',c',rfl⟩:=fQ hv1)
  refine jI fun W hb2 B hsz=>?_;have z:=B.at1 0 _ rfl;have hf:=B.frozen 0
  go_upto_region 3 with (fail)
  have B':=B.set 0 (.int .i64 1);have hb3:Below w1.heap.size W (W.setCell ⟨w1.heap.size,0,none⟩ (.int .i64 1)):=bI (Nat.le_refl _) _;generalize W.setCell ⟨w1.heap.size,0,none⟩ (.int .i64 1)=W3 at *;have hv3:=(hv1.on hb2);have hb13:=hb2.trans hb3;have z1:=B'.at1 0 _ rfl;have z2:=B'.at1 1 _ rfl;have z3:=B'.at1 2 _ rfl;have z4:=B'.at1 3 _ rfl;have y1:=B'.at1 4 _ rfl;have y2:=B'.at1 5 _ rfl;have y3:=B'.at1 6 _ rfl;have y4:=B'.at1 7 _ rfl;clear z hf;go_wp2;go_ret;have hba:Below W3.heap.size W3 (W3.alloc (.cells #[.int .i64 1,.int .i64 0,.int .i64 0,.int .i64 0,.bool n,.slice a k c,.bool n',.slice a' k' c'] aN)):=(Below.refl _ _).alloc (Nat.le_refl _) _;have hb1a:=hb13.trans (hba.mono hb13.size);exact⟨_,rfl,jv (t:=(yL 0,1)) (Blk.new W3 aN [.int .i64 1,.int .i64 0,.int .i64 0,.int .i64 0,.bool n,.slice a k c,.bool n',.slice a' k' c']) ⟨[.bool n,.slice a k c,.bool n',.slice a' k' c'],rfl,(hv1.on hb1a).cellsC⟩,hb1.trans (hb1a.mono hb1.size)⟩
 ·go_enter Tryz.func37,Tryz.ntmps37
  go_upto_region 2 with (go_at_call 24;refine (hw _).mono ?_;rintro e w1 ⟨v1,rfl,hv1,hb1⟩;obtain⟨n,a,k,c,n',a',k',c',rfl⟩:=fQ hv1)
  refine jI fun W hb2 B hsz=>?_;have z:=B.at1 1 _ rfl;have hf:=B.frozen 1
  go_upto_region 3 with (fail)
  have B':=B.set 1 (.int .i64 1);have hb3:Below w1.heap.size W (W.setCell ⟨w1.heap.size,1,none⟩ (.int .i64 1)):=bI (Nat.le_refl _) _;generalize W.setCell ⟨w1.heap.size,1,none⟩ (.int .i64 1)=W3 at *;have hv3:=(hv1.on hb2);have hb13:=hb2.trans hb3;have z1:=B'.at1 0 _ rfl;have z2:=B'.at1 1 _ rfl;have z3:=B'.at1 2 _ rfl;have z4:=B'.at1 3 _ rfl;have y1:=B'.at1 4 _ rfl;have y2:=B'.at1 5 _ rfl;have y3:=B'.at1 6 _ rfl;have y4:=B'.at1 7 _ rfl;clear z hf;go_wp2;go_ret;have hba:Below W3.heap.size W3 (W3.alloc (.cells #[.int .i64 0,.int .i64 1,.int .i64 0,.int .i64 0,.bool n,.slice a k c,.bool n',.slice a' k' c'] aN)):=(Below.refl _ _).alloc (Nat.le_refl _) _;have hb1a:=hb13.trans (hba.mono hb13.size);exact⟨_,rfl,jv (t:=(yL 1,1)) (Blk.new W3 aN [.int .i64 0,.int .i64 1,.int .i64 0,.int .i64 0,.bool n,.slice a k c,.bool n',.slice a' k' c']) ⟨[.bool n,.slice a k c,.bool n',.slice a' k' c'],rfl,(hv1.on hb1a).cellsC⟩,hb1.trans (hb1a.mono hb1.size)⟩
 ·go_enter Tryz.func37,Tryz.ntmps37
  go_upto_region 2 with (go_at_call 24;refine (hw _).mono ?_;rintro e w1 ⟨v1,rfl,hv1,hb1⟩;obtain⟨n,a,k,c,n',a',k',c',rfl⟩:=fQ hv1)
  refine jI fun W hb2 B hsz=>?_;have z:=B.at1 2 _ rfl;have hf:=B.frozen 2
  go_upto_region 3 with (fail)
  have B':=B.set 2 (.int .i64 1);have hb3:Below w1.heap.size W (W.setCell ⟨w1.heap.size,2,none⟩ (.int .i64 1)):=bI (Nat.le_refl _) _;generalize W.setCell ⟨w1.heap.size,2,none⟩ (.int .i64 1)=W3 at *;have hv3:=(hv1.on hb2);have hb13:=hb2.trans hb3;have z1:=B'.at1 0 _ rfl;have z2:=B'.at1 1 _ rfl;have z3:=B'.at1 2 _ rfl;have z4:=B'.at1 3 _ rfl;have y1:=B'.at1 4 _ rfl;have y2:=B'.at1 5 _ rfl;have y3:=B'.at1 6 _ rfl;have y4:=B'.at1 7 _ rfl;clear z hf;go_wp2;go_ret;have hba:Below W3.heap.size W3 (W3.alloc (.cells #[.int .i64 0,.int .i64 0,.int .i64 1,.int .i64 0,.bool n,.slice a k c,.bool n',.slice a' k' c'] aN)):=(Below.refl _ _).alloc (Nat.le_refl _) _;have hb1a:=hb13.trans (hba.mono hb13.size);exact⟨_,rfl,jv (t:=(yL 2,1)) (Blk.new W3 aN [.int .i64 0,.int .i64 0,.int .i64 1,.int .i64 0,.bool n,.slice a k c,.bool n',.slice a' k' c']) ⟨[.bool n,.slice a k c,.bool n',.slice a' k' c'],rfl,(hv1.on hb1a).cellsC⟩,hb1.trans (hb1a.mono hb1.size)⟩
 ·go_enter Tryz.func37,Tryz.ntmps37
  go_upto_region 2 with (go_at_call 24;refine (hw _).mono ?_;rintro e w1 ⟨v1,rfl,hv1,hb1⟩;obtain⟨n,a,k,c,n',a',k',c',rfl⟩:=fQ hv1)
  refine jI fun W hb2 B hsz=>?_;have z:=B.at1 3 _ rfl;have hf:=B.frozen 3
  go_upto_region 3 with (fail)
  have B':=B.set 3 (.int .i64 1);have hb3:Below w1.heap.size W (W.setCell ⟨w1.heap.size,3,none⟩ (.int .i64 1)):=bI (Nat.le_refl _) _;generalize W.setCell ⟨w1.heap.size,3,none⟩ (.int .i64 1)=W3 at *;have hv3:=(hv1.on hb2);have hb13:=hb2.trans hb3;have z1:=B'.at1 0 _ rfl;have z2:=B'.at1 1 _ rfl;have z3:=B'.at1 2 _ rfl;have z4:=B'.at1 3 _ rfl;have y1:=B'.at1 4 _ rfl;have y2:=B'.at1 5 _ rfl;have y3:=B'.at1 6 _ rfl;have y4:=B'.at1 7 _ rfl;clear z hf;go_wp2;go_ret;have hba:Below W3.heap.size W3 (W3.alloc (.cells #[.int .i64 0,.int .i64 0,.int .i64 0,.int .i64 1,.bool n,.slice a k c,.bool n',.slice a' k' c'] aN)):=(Below.refl _ _).alloc (Nat.le_refl _) _;have hb1a:=hb13.trans (hba.mono hb13.size);exact⟨_,rfl,jv (t:=(yL 3,1)) (Blk.new W3 aN [.int .i64 0,.int .i64 0,.int .i64 0,.int .i64 1,.bool n,.slice a k c,.bool n',.slice a' k' c']) ⟨[.bool n,.slice a k c,.bool n',.slice a' k' c'],rfl,(hv1.on hb1a).cellsC⟩,hb1.trans (hb1a.mono hb1.size)⟩
theorem NL (c:Rat):canon [(e0,c)]=bX c:=by
 show ins [] (e0,c)=_;unfold ins bX;by_cases h:c=0
 ·rw [if_pos h,if_neg (by simp [h])]
 ·rw [if_neg h,if_pos ⟨h,rfl⟩]
theorem Bi (v:Value) (c:Rat) (s:Sz) (w:World) (h:bV w v c) (hb:Bd s [(e0,c)]) (hs:s.ok):Calls Tryz.prog 72 #[v] w (aX w (bX c)):=by
 obtain⟨n,a,k,q,n',a',k',q',rfl⟩:=fQ h;have hmk:=fun W v hv=>DW v [(e0,c)] s W hv hb hs;rw [NL] at hmk;clear hb hs
 go_enter Tryz.func72,Tryz.ntmps72
 go_upto_region 1 with (fail)
 refine jI fun W hb B hsz=>?_;have y1:=B.at1 0 _ rfl;have y2:=B.at1 1 _ rfl;have y3:=B.at1 2 _ rfl;have y4:=B.at1 3 _ rfl;have hba:Below W.heap.size W (W.alloc (.cells #[.int .i64 0,.int .i64 0,.int .i64 0,.int .i64 0,.bool n,.slice a k q,.bool n',.slice a' k' q'] aN)):=(Below.refl _ _).alloc (Nat.le_refl _) _
 have hsl:ak (W.alloc (.cells #[.int .i64 0,.int .i64 0,.int .i64 0,.int .i64 0,.bool n,.slice a k q,.bool n',.slice a' k' q'] aN)) (.slice (some ⟨W.heap.size,0,none⟩) 1 1) [(e0,c)] :=
  jv (t:=(e0,c)) (Blk.new W aN [.int .i64 0,.int .i64 0,.int .i64 0,.int .i64 0,.bool n,.slice a k q,.bool n',.slice a' k' q']) ⟨[.bool n,.slice a k q,.bool n',.slice a' k' q'],rfl,((h.on hb).on hba).cellsC⟩
 go_wp2_with (go_at_call 43;refine (hmk _ _ hsl).mono ?_;rintro e w4 ⟨v4,rfl,hv4,hb4⟩)
 go_ret;exact⟨_,rfl,hv4,hb.trans ((hba.trans (hb4.mono hba.size)).mono hb.size)⟩
theorem We {p q:List ai} (hl:p.length=q.length) (h:∀ j:Nat,j<p.length->p[j]?=q[j]?):p=q:=by
 apply List.ext_getElem? ;intro j;by_cases hj:j<p.length
 ·exact h j hj
 ·rw [List.getElem?_eq_none (by omega),List.getElem?_eq_none (by omega)]
theorem JQ (vp vq:Value) (p q:List ai) (w:World) (hp:ak w vp p) (hq:ak w vq q) (rp:∀ t∈p,Rk t.2) (rq:∀ t∈q,Rk t.2) (lp:p.length<=100000000) :
  Calls Tryz.prog 45 #[vp,vq] w (rO w (.bool (decide (p=q)))):=by
 obtain⟨ap,cp,rfl,hcp⟩:=hp.shape;obtain⟨aq,cq,rfl,hcq⟩:=hq.shape;obtain⟨R,hR⟩:∃ R,R=decide (p=q):=⟨_,rfl⟩;rw [<- hR];replace hR:=zH hR;by_cases hl:p.length=q.length
 ·have hne:((p.length:Int) != q.length)=false:=by simp [hl]
  replace rp:=zH rp;replace rq:=zH rq;replace hl:=zH hl
  go_enter Tryz.func45,Tryz.ntmps45
  go_wp2
  go_loopw [5] (fun i wr=>∃ k:Nat,k<=p.length/\i=.int .i64 k/\Hid (∀ j:Nat,j<k->p[j]?=q[j]?)/\Below w.heap.size w wr) (fun i _=>p.length-(intOf i).toNat)
  case atStart=>exact⟨0,by omega,rfl,zH (fun j h=>by omega),Below.refl _ _⟩
  case round =>
   obtain⟨k,hk,rfl,heq,hbr⟩:=hrel;by_cases hkl:k<p.length
   ·have hj1:p[k]?=some p[k]:=List.getElem?_eq_getElem hkl;have hkq:k<q.length:=by have:=hl.out;omega
    have hj2:q[k]?=some q[k]:=List.getElem?_eq_getElem hkq;generalize p[k]=s at hj1;generalize q[k]=t at hj2;obtain⟨b1,o1,cs1,rfl,-,hE1,hC1⟩:=hp.get hj1;obtain⟨b2,o2,UQ,rfl,-,hE2,hC2⟩:=hq.get hj2;obtain⟨r1,rfl,hr1⟩:=hE1;obtain⟨r2,rfl,hr2⟩:=hE2;change bO aN w b1 (o1+k*8) _ at hC1;change bO aN w b2 (o2+k*8) _ at hC2;have hks:=rp.out s (List.mem_of_getElem? hj1);have hkt:=rq.out t (List.mem_of_getElem? hj2);have hkl':(k:Int)<p.length:=by omega
    have hl1:=hr1.len;have hl2:=hr2.len;have hex:=fun W'=>PV s.1 t.1 W'
    have dG:s=t->Hid (∀ j:Nat,j<k+1->p[j]?=q[j]?):=fun h j hj=>by
     rcases Nat.lt_or_ge j k with h'|h'
     ·exact heq.out j h'
     ·obtain rfl:j=k:=by omega
      rw [hj1,hj2,h]
    have hstop:s≠t->Hid (R=false):=fun h=>by
     rw [hR.out,decide_eq_false_iff_not];intro hpq;rw [hpq,hj2] at hj1;exact h (Option.some.inj hj1.symm)
    clear hj1 hj2 heq
    go_upto_region 6 with (fail)
    by_cases he:s.1=t.1
    ·have hd:decide (s.1=t.1)=true:=by simpa using he
     rw [hd] at hex;replace he:=zH he;by_cases hc:s.2=t.2
     ·have hst:=dG (Prod.ext he.out hc);have hdc:decide (s.2=t.2)=true:=by simpa using hc
      clear dG hstop hd hc;refine aF mixed (none) (0) (gp.none) [.eq (.slice (some ⟨b1,o1,none⟩) p.length cp),.eq (.int .i64 k),.eq (.pointer (some ⟨b1,o1+k*8,none⟩)),.eq (.pointer (some ⟨b1,o1+k*8,none⟩)),.eq (.agg (bR s.1).toArray),.eq (.slice (some ⟨b2,o2,none⟩) q.length cq),.eq (.int .i64 k),.eq (.pointer (some ⟨b2,o2+k*8,none⟩)),.eq (.pointer (some ⟨b2,o2+k*8,none⟩)),.eq (.agg (bR t.1).toArray),.eq (.bool false),.eq (.bool false),.eq (.slice (some ⟨b1,o1,none⟩) p.length cp),.eq (.int .i64 k),.eq (.pointer (some ⟨b1,o1+k*8,none⟩)),.eq (.pointer (some ⟨b1,o1+k*8+4,none⟩)),.eq (.agg (r1).toArray),.eq (.slice (some ⟨b2,o2,none⟩) q.length cq),.eq (.int .i64 k),.eq (.pointer (some ⟨b2,o2+k*8,none⟩)),.eq (.pointer (some ⟨b2,o2+k*8+4,none⟩)),.eq (.agg (r2).toArray),.ret (.bool true),.eq (.bool false),.eq (.bool false)] [17,18,19,20,21,22,23,24,25,26,27,28,29,30,31,32,33,34,35,36,37,38,39,40,41] rfl rfl rfl rfl ⟨?_,?_,?_,?_,?_,?_,?_,?_,?_,?_,?_,?_,?_,?_,?_,?_,?_,?_,?_,?_,?_,?_,?_,?_,?_,trivial⟩ ?_
      ·exact fun _ _ a _ _ _=>xM rfl (a 0 rfl)
      ·exact fun _ _ a _ _ _=>xM rfl (a 5 rfl)
      ·exact fun _ _ _ _ _ e=>pI rfl Tryz.underlying27 b1 o1 k (hkl) (e.1 rfl) (e.2.1 rfl)
      ·exact fun _ _ _ _ _ e=>ae rfl (yQ rfl (e.1 rfl))
      ·exact fun _ _ _ hL _ e=>pL rfl (fA (hC1.on (hbr.trans (hL.below.mono hbr.size)))) Tryz.underlying36 (show (bR s.1).length=4 from rfl) (e.1 rfl)
      ·exact fun _ _ a _ _ _=>xM rfl (a 1 rfl)
      ·exact fun _ _ a _ _ _=>xM rfl (a 5 rfl)
      ·exact fun _ _ _ _ _ e=>pI rfl Tryz.underlying27 b2 o2 k (hkq) (e.1 rfl) (e.2.1 rfl)
      ·exact fun _ _ _ _ _ e=>ae rfl (yQ rfl (e.1 rfl))
      ·exact fun _ _ _ hL _ e=>pL rfl (fA (hC2.on (hbr.trans (hL.below.mono hbr.size)))) Tryz.underlying36 (show (bR t.1).length=4 from rfl) (e.1 rfl)
      ·intro A w1 hA hL hS he;have h21:=eT 21 (he.1 rfl);have h26:=eT 26 (he.2.1 rfl);exact pZ rfl
      ·exact fun _ _ _ _ _ e=>xM rfl (e.1 rfl)
      ·exact fun _ _ a _ _ e=>yM (e.1 rfl) rfl (a 0 rfl)
      ·exact fun _ _ a _ _ e=>yM (e.1 rfl) rfl (a 5 rfl)
      ·exact fun _ _ _ _ _ e=>aJ rfl rfl (e.2.2.1 rfl) (xI rfl Tryz.underlying27 b1 o1 k (hkl) (e.1 rfl) (e.2.1 rfl))
      ·exact fun _ _ _ _ _ e=>aJ rfl rfl (e.2.1 rfl) (Fe rfl (e.1 rfl))
      ·exact fun _ _ _ hL _ e=>aJ rfl rfl (e.2.1 rfl) (xL rfl (gY (hC1.on (hbr.trans (hL.below.mono hbr.size)))) Tryz.underlying41 (hl1) (e.1 rfl))
      ·exact fun _ _ a _ _ e=>yM (e.1 rfl) rfl (a 1 rfl)
      ·exact fun _ _ a _ _ e=>yM (e.1 rfl) rfl (a 5 rfl)
      ·exact fun _ _ _ _ _ e=>aJ rfl rfl (e.2.2.1 rfl) (xI rfl Tryz.underlying27 b2 o2 k (hkq) (e.1 rfl) (e.2.1 rfl))
      ·exact fun _ _ _ _ _ e=>aJ rfl rfl (e.2.1 rfl) (Fe rfl (e.1 rfl))
      ·exact fun _ _ _ hL _ e=>aJ rfl rfl (e.2.1 rfl) (xL rfl (gY (hC2.on (hbr.trans (hL.below.mono hbr.size)))) Tryz.underlying41 (hl2) (e.1 rfl))
      ·intro A w1 hA hL hS he;have hb:=hS rfl;have h28:=eT 28 (he.2.2.1 rfl);have h33:=eT 33 (he.1 rfl);have h38:=eT 38 (he.2.1 rfl);have hf0:=eF A 23;exact cY (f:=23) (args:=#[.agg (r1).toArray,.agg (r2).toArray]) h28 (hdc ▸ DV _ _ _ _ _ (hr1.on (hbr.trans (hb.mono hbr.size))).rat (hr2.on (hbr.trans (hb.mono hbr.size))).rat hks hkt)
      ·intro A w1 hA hL hS he;have h28:=eT 28 (he.2.1 rfl);have h39:=eT 39 (he.1 rfl);exact yZ h28 rfl
      ·exact fun _ _ _ _ _ e=>pK rfl (e.1 rfl) (e.2.1 rfl)
      ·intro W2 hL2;simp only [aU,af.eq,af.ret,lZ];go_frame;clear hex;go_wp2;go_roundw
       case rel=>exact⟨k+1,by omega,by go_num,hst,hbr.trans (hL2.below.mono hbr.size)⟩
       case measure=>simp [intOf];omega
     ·have hst:=hstop (fun h=>hc (by rw [h]));have hdc:decide (s.2=t.2)=false:=by simpa using hc
      clear dG hstop hd hc;refine aF mixed (none) (0) (gp.none) [.eq (.slice (some ⟨b1,o1,none⟩) p.length cp),.eq (.int .i64 k),.eq (.pointer (some ⟨b1,o1+k*8,none⟩)),.eq (.pointer (some ⟨b1,o1+k*8,none⟩)),.eq (.agg (bR s.1).toArray),.eq (.slice (some ⟨b2,o2,none⟩) q.length cq),.eq (.int .i64 k),.eq (.pointer (some ⟨b2,o2+k*8,none⟩)),.eq (.pointer (some ⟨b2,o2+k*8,none⟩)),.eq (.agg (bR t.1).toArray),.eq (.bool false),.eq (.bool false),.eq (.slice (some ⟨b1,o1,none⟩) p.length cp),.eq (.int .i64 k),.eq (.pointer (some ⟨b1,o1+k*8,none⟩)),.eq (.pointer (some ⟨b1,o1+k*8+4,none⟩)),.eq (.agg (r1).toArray),.eq (.slice (some ⟨b2,o2,none⟩) q.length cq),.eq (.int .i64 k),.eq (.pointer (some ⟨b2,o2+k*8,none⟩)),.eq (.pointer (some ⟨b2,o2+k*8+4,none⟩)),.eq (.agg (r2).toArray),.ret (.bool false),.eq (.bool true),.eq (.bool true)] [17,18,19,20,21,22,23,24,25,26,27,28,29,30,31,32,33,34,35,36,37,38,39,40,41] rfl rfl rfl rfl ⟨?_,?_,?_,?_,?_,?_,?_,?_,?_,?_,?_,?_,?_,?_,?_,?_,?_,?_,?_,?_,?_,?_,?_,?_,?_,trivial⟩ ?_
      ·exact fun _ _ a _ _ _=>xM rfl (a 0 rfl)
      ·exact fun _ _ a _ _ _=>xM rfl (a 5 rfl)
      ·exact fun _ _ _ _ _ e=>pI rfl Tryz.underlying27 b1 o1 k (hkl) (e.1 rfl) (e.2.1 rfl)
      ·exact fun _ _ _ _ _ e=>ae rfl (yQ rfl (e.1 rfl))
      ·exact fun _ _ _ hL _ e=>pL rfl (fA (hC1.on (hbr.trans (hL.below.mono hbr.size)))) Tryz.underlying36 (show (bR s.1).length=4 from rfl) (e.1 rfl)
      ·exact fun _ _ a _ _ _=>xM rfl (a 1 rfl)
      ·exact fun _ _ a _ _ _=>xM rfl (a 5 rfl)
      ·exact fun _ _ _ _ _ e=>pI rfl Tryz.underlying27 b2 o2 k (hkq) (e.1 rfl) (e.2.1 rfl)
      ·exact fun _ _ _ _ _ e=>ae rfl (yQ rfl (e.1 rfl))
      ·exact fun _ _ _ hL _ e=>pL rfl (fA (hC2.on (hbr.trans (hL.below.mono hbr.size)))) Tryz.underlying36 (show (bR t.1).length=4 from rfl) (e.1 rfl)
      ·intro A w1 hA hL hS he;have h21:=eT 21 (he.1 rfl);have h26:=eT 26 (he.2.1 rfl);exact pZ rfl
      ·exact fun _ _ _ _ _ e=>xM rfl (e.1 rfl)
      ·exact fun _ _ a _ _ e=>yM (e.1 rfl) rfl (a 0 rfl)
      ·exact fun _ _ a _ _ e=>yM (e.1 rfl) rfl (a 5 rfl)
      ·exact fun _ _ _ _ _ e=>aJ rfl rfl (e.2.2.1 rfl) (xI rfl Tryz.underlying27 b1 o1 k (hkl) (e.1 rfl) (e.2.1 rfl))
      ·exact fun _ _ _ _ _ e=>aJ rfl rfl (e.2.1 rfl) (Fe rfl (e.1 rfl))
      ·exact fun _ _ _ hL _ e=>aJ rfl rfl (e.2.1 rfl) (xL rfl (gY (hC1.on (hbr.trans (hL.below.mono hbr.size)))) Tryz.underlying41 (hl1) (e.1 rfl))
      ·exact fun _ _ a _ _ e=>yM (e.1 rfl) rfl (a 1 rfl)
      ·exact fun _ _ a _ _ e=>yM (e.1 rfl) rfl (a 5 rfl)
      ·exact fun _ _ _ _ _ e=>aJ rfl rfl (e.2.2.1 rfl) (xI rfl Tryz.underlying27 b2 o2 k (hkq) (e.1 rfl) (e.2.1 rfl))
      ·exact fun _ _ _ _ _ e=>aJ rfl rfl (e.2.1 rfl) (Fe rfl (e.1 rfl))
      ·exact fun _ _ _ hL _ e=>aJ rfl rfl (e.2.1 rfl) (xL rfl (gY (hC2.on (hbr.trans (hL.below.mono hbr.size)))) Tryz.underlying41 (hl2) (e.1 rfl))
      ·intro A w1 hA hL hS he;have hb:=hS rfl;have h28:=eT 28 (he.2.2.1 rfl);have h33:=eT 33 (he.1 rfl);have h38:=eT 38 (he.2.1 rfl);have hf0:=eF A 23;exact cY (f:=23) (args:=#[.agg (r1).toArray,.agg (r2).toArray]) h28 (hdc ▸ DV _ _ _ _ _ (hr1.on (hbr.trans (hb.mono hbr.size))).rat (hr2.on (hbr.trans (hb.mono hbr.size))).rat hks hkt)
      ·intro A w1 hA hL hS he;have h28:=eT 28 (he.2.1 rfl);have h39:=eT 39 (he.1 rfl);exact yZ h28 rfl
      ·exact fun _ _ _ _ _ e=>pK rfl (e.1 rfl) (e.2.1 rfl)
      ·intro W2 hL2;simp only [aU,af.eq,af.ret,lZ];go_frame;clear hex;go_wp2;go_ret;exact⟨by rw [hst.out] <;> rfl,hbr.trans (hL2.below.mono hbr.size)⟩
    ·have hst:=hstop (fun h=>he (by rw [h]));have hd:decide (s.1=t.1)=false:=by simpa using he
     rw [hd] at hex;clear dG hstop hd he;refine aF mixed (none) (0) (gp.none) [.eq (.slice (some ⟨b1,o1,none⟩) p.length cp),.eq (.int .i64 k),.eq (.pointer (some ⟨b1,o1+k*8,none⟩)),.eq (.pointer (some ⟨b1,o1+k*8,none⟩)),.eq (.agg (bR s.1).toArray),.eq (.slice (some ⟨b2,o2,none⟩) q.length cq),.eq (.int .i64 k),.eq (.pointer (some ⟨b2,o2+k*8,none⟩)),.eq (.pointer (some ⟨b2,o2+k*8,none⟩)),.eq (.agg (bR t.1).toArray),.eq (.bool true),.eq (.bool true),.eq undef,.eq undef,.eq undef,.eq undef,.eq undef,.eq undef,.eq undef,.eq undef,.eq undef,.eq undef,.eq undef,.eq undef,.eq (.bool true)] [17,18,19,20,21,22,23,24,25,26,27,28,29,30,31,32,33,34,35,36,37,38,39,40,41] rfl rfl rfl rfl ⟨?_,?_,?_,?_,?_,?_,?_,?_,?_,?_,?_,?_,?_,?_,?_,?_,?_,?_,?_,?_,?_,?_,?_,?_,?_,trivial⟩ ?_
     ·exact fun _ _ a _ _ _=>xM rfl (a 0 rfl)
     ·exact fun _ _ a _ _ _=>xM rfl (a 5 rfl)
     ·exact fun _ _ _ _ _ e=>pI rfl Tryz.underlying27 b1 o1 k (hkl) (e.1 rfl) (e.2.1 rfl)
     ·exact fun _ _ _ _ _ e=>ae rfl (yQ rfl (e.1 rfl))
     ·exact fun _ _ _ hL _ e=>pL rfl (fA (hC1.on (hbr.trans (hL.below.mono hbr.size)))) Tryz.underlying36 (show (bR s.1).length=4 from rfl) (e.1 rfl)
     ·exact fun _ _ a _ _ _=>xM rfl (a 1 rfl)
     ·exact fun _ _ a _ _ _=>xM rfl (a 5 rfl)
     ·exact fun _ _ _ _ _ e=>pI rfl Tryz.underlying27 b2 o2 k (hkq) (e.1 rfl) (e.2.1 rfl)
     ·exact fun _ _ _ _ _ e=>ae rfl (yQ rfl (e.1 rfl))
     ·exact fun _ _ _ hL _ e=>pL rfl (fA (hC2.on (hbr.trans (hL.below.mono hbr.size)))) Tryz.underlying36 (show (bR t.1).length=4 from rfl) (e.1 rfl)
     ·intro A w1 hA hL hS he;have h21:=eT 21 (he.1 rfl);have h26:=eT 26 (he.2.1 rfl);exact pZ rfl
     ·exact fun _ _ _ _ _ e=>xM rfl (e.1 rfl)
     ·exact fun _ _ _ _ _ e=>nO true (e.1 rfl)
     ·exact fun _ _ _ _ _ e=>nO true (e.1 rfl)
     ·exact fun _ _ _ _ _ e=>nO true (e.2.2.1 rfl)
     ·exact fun _ _ _ _ _ e=>nO true (e.2.1 rfl)
     ·exact fun _ _ _ _ _ e=>nO true (e.2.1 rfl)
     ·exact fun _ _ _ _ _ e=>nO true (e.1 rfl)
     ·exact fun _ _ _ _ _ e=>nO true (e.1 rfl)
     ·exact fun _ _ _ _ _ e=>nO true (e.2.2.1 rfl)
     ·exact fun _ _ _ _ _ e=>nO true (e.2.1 rfl)
     ·exact fun _ _ _ _ _ e=>nO true (e.2.1 rfl)
     ·exact fun _ _ _ _ _ e=>nO true (e.2.2.1 rfl)
     ·exact fun _ _ _ _ _ e=>nO true (e.2.1 rfl)
     ·exact fun _ _ _ _ _ e=>ae rfl (iM rfl (e.1 rfl) rfl rfl)
     ·intro W2 hL2;simp only [aU,af.eq,af.ret,lZ];go_frame;clear hex;go_wp2;go_ret;exact⟨by rw [hst.out] <;> rfl,hbr.trans (hL2.below.mono hbr.size)⟩
   ·have hst:Hid (R=true):=by
     have:=We hl.out (fun j hj=>heq.out j (by omega));exact zH (by rw [hR.out];simpa using this)
    go_wp2;go_ret;exact⟨by rw [hst.out] <;> rfl,hbr⟩
 ·have hne:((p.length:Int) != q.length)=true:=by simp;omega
  have hst:Hid (R=false):=zH (by rw [hR.out,decide_eq_false_iff_not];intro h;exact hl (by rw [h]));clear hl
  go_enter Tryz.func45,Tryz.ntmps45
  go_wp2;go_ret;exact⟨by rw [hst.out] <;> rfl,Below.refl _ _⟩
theorem NM (vp vq:Value) (p q:List ai) (w:World) (hp:ak w vp p) (hq:ak w vq q) (rp:∀ t∈p,Rk t.2) (rq:∀ t∈q,Rk t.2) (lp:p.length<=100000000) :
  Calls Tryz.prog 13 #[vp,vq] w (rO w (.bool (decide (p=q)))):=by
 have hc:=fun W (hb:Below w.heap.size w W)=>JQ vp vq p q W (hp.on hb) (hq.on hb) rp rq lp;generalize decide (p=q)=R at *
 go_enter Tryz.func13,Tryz.ntmps13
 go_wp2_with (go_at_call 45;refine (hc _ (Below.refl _ _)).mono ?_;rintro e w1 ⟨rfl,hb1⟩)
 go_ret;exact⟨rfl,hb1⟩
end Go.Proofs.YtopclbeomcggiaaGreat
end
section
namespace Q
open Go Go.RowKit
theorem bS.lrB {α:Type} {e:El α} {w w':World} {v:Value} {l:List α} {g:Option Nat} {T:TypeId} (h:bS e w v l) (hl:Lr g T w w') (hT:e.ok T) (hne:∀ ao n c,v=.slice (some ao) n c->some ao.block≠g):bS e w' v l:=by
 obtain⟨ao,cap,xs,rfl,h2,h3,h4⟩:=h;refine⟨ao,cap,xs,rfl,h2,fun hp=>?_,h4.lr hT hl⟩;obtain⟨b,off,e1,hc⟩:=h3 hp;subst e1;exact⟨b,off,rfl,hc.lr' hl (hne _ _ _ rfl)⟩
end Q
namespace Q
open Go Go.RowKit Go.Proofs.YtopclbeomcggiaaGreat
def af.own {T:TypeId} (B:Nat) (l:List ai):af (Lr none T):=af.of (fun v w=>cK B w v l) (fun _ _ _ hb h=>h.on hb.below)
end Q
namespace Go.Proofs.YtopclbeomcggiaaGreat
open Go.RowKit Q Go.WideMaps Go.Maps
theorem Bj {w:World} {r:List Value} {q:Rat} {e:Ex} (h:gM w r q):(bR e++r).toArray.all (·.oneCell')=true:=by
 rw [Array.all_eq_true_iff_forall_mem];intro v hv;rcases List.mem_append.1 (by simpa using hv) with hv|hv
 ·exact zI e v hv
 ·exact h.one v hv
def ji (m g:ai):ai:=(m.1.sub g.1,m.2 / g.2)
structure LW (b:List ai) (g m:ai) (a:List ai):Prop where
 he:InR (m.1.sub g.1)
 hm:Rk m.2
 hg:Rk g.2
 hz:g.2≠0
structure PW (b:List ai) (g m:ai) (a:List ai):Prop where
 hq:Rk (m.2 / g.2)
 hb:(∀ t∈b,InR t.1/\Rk t.2)/\b.length<=100000000
 hp:SC (prods b [ji m g])
 ha:(∀ t∈(m::a),Rk t.2)/\(m::a).length<=100000000/\aV (m::a)
 hc:(∀ t∈aQ b [ji m g],Rk t.2)/\(aQ b [ji m g]).length<=100000000
inductive xX (b:List ai) (g:ai):Nat->List ai->List ai->Option (List ai)->Prop
 | done {out:List ai}:xX b g 0 [] out (some out)
 | fail {m:ai} {a out:List ai}:(m.1.sub g.1).nat=false->LW b g m a->xX b g 0 (m::a) out none
 | step {n:Nat} {m:ai} {a out:List ai} {r:Option (List ai)}:(m.1.sub g.1).nat=true->LW b g m a->PW b g m a->out.length<=100000000 ->
   xX b g n (dK (m::a) (aQ b [ji m g])) (out++[ji m g]) r->xX b g (n+1) (m::a) out r
theorem xX.inv {b:List ai} {g m:ai} {n:Nat} {a out:List ai} {r:Option (List ai)} (h:xX b g n (m::a) out r) :
  LW b g m a/\((m.1.sub g.1).nat=false->r=none)/\((m.1.sub g.1).nat=true->∃ n',n=n'+1/\PW b g m a/\out.length<=100000000/\xX b g n' (dK (m::a) (aQ b [ji m g])) (out++[ji m g]) r):=by
 cases h with
 | fail h1 h2=>exact⟨h2,fun _=>rfl,(fun h=>by rw [h1] at h;cases h)⟩
 | step h1 h2 h3 h4 h5=>exact⟨h2,(fun h=>by rw [h1] at h;cases h),fun _=>⟨_,rfl,h3,h4,h5⟩⟩
theorem xX.inv0 {b:List ai} {g:ai} {n:Nat} {out:List ai} {r:Option (List ai)} (h:xX b g n [] out r):r=some out:=by cases h;rfl
def Fx (w:World) (r:Option (List ai)) (e:Ending) (w':World):Prop:=∃ v,e=.returned (.tuple #[v,.bool r.isSome])/\ak w' v (r.getD [])/\Below w.heap.size w w'
theorem SL (vp vq:Value) (p:List ai) (w:World) (hp:ak w vp p) (hq:ak w vq []):Calls Tryz.prog 93 #[vp,vq] w (Fx w none):=by
 obtain⟨ap,cp,rfl,hcp⟩:=hp.shape;obtain⟨aq,cq,rfl,hcq⟩:=hq.shape;simp only [List.length_nil]
 go_enter Tryz.func93,Tryz.ntmps93
 go_wp2;go_ret2;exact⟨_,rfl,bS.nil _ _,Below.refl _ _⟩
theorem XC (m g:Ex) (v:Nat) (h:v<4):(Ex.sub m g).get v=m.get v-g.get v:=by
 obtain rfl|rfl|rfl|rfl:v=0\/v=1\/v=2\/v=3:=by omega
 all_goals rfl
def wE (m g:Ex):Nat->Ex
 | 0=>m
 | k+1=>(wE m g k).put k (m.get k-g.get k)
theorem JR (m g:Ex):wE m g 4=m.sub g:=rfl
theorem NN (m g:Ex) (k:Nat) (h:k<4):(wE m g k).get k=m.get k:=by
 obtain rfl|rfl|rfl|rfl:k=0\/k=1\/k=2\/k=3:=by omega
 all_goals rfl
theorem SN (vp vq:Value) (p b:List ai) (g:ai) (n:Nat) (r:Option (List ai)) (w:World) (hp:ak w vp p) (hq:ak w vq (g::b)) (hd:xX (g::b) g n p [] r) :
  Calls Tryz.prog 93 #[vp,vq] w (Fx w r):=by
 obtain⟨bq,oq,csq,e1,-,hEg,hCg⟩:∃ bq oq cs,(∃ cq,vq=.slice (some ⟨bq,oq,none⟩) (b.length+1) cq)/\True/\qf w cs g/\bO aN w bq (oq+0*8) cs:=by
  obtain⟨aq,cq,rfl,hcq⟩:=hq.shape;obtain⟨bq,oq,cs,rfl,-,hE,hC⟩:=hq.get (j:=0) (t:=g) rfl;exact⟨bq,oq,cs,⟨cq,rfl⟩,trivial,hE,hC⟩
 obtain⟨cq,rfl⟩:=e1;obtain⟨rg,rfl,hrg⟩:=hEg;have hlg:=hrg.len;replace hd:=zH hd
 go_enter Tryz.func93,Tryz.ntmps93
 go_wp2
 go_loopg [0,6] n (fun n va vo wr=>∃ a out,Hid (ak wr va a)/\Hid (cK w.heap.size wr vo out)/\Hid (xX (g::b) g n a out r)/\Below w.heap.size w wr/\Hid (a≠[]->∀ ao n c,va=.slice (some ao) n c->some ao.block≠vo.ownBlock))
 case atStart=>exact⟨p,[],zH hp,zH (cB.nil _ _ _),hd,Below.refl _ _,zH (fun _ ao n c _ h=>by simp [Value.ownBlock] at h)⟩
 case round =>
  clear hd;obtain⟨a,out,ha,hown,hd,hbr,hap⟩:=hrel
  cases a with
  | nil =>
   have hr:r=some out:=hd.out.inv0;obtain⟨aa,ca,rfl,hca⟩:=ha.out.shape;replace hr:=zH hr;simp only [List.length_nil];go_wp2;go_ret2;exact⟨_,by rw [hr.out];rfl,by rw [hr.out];exact hown.out.isSl,hbr⟩
  | cons m a =>
   obtain⟨hok,hfail,dG⟩:=hd.out.inv;obtain⟨aa,ca,rfl,hca⟩:=ha.out.shape;obtain⟨ba,oa,csa,rfl,-,hEa,hCa⟩:=ha.out.get (j:=0) (t:=m) rfl;obtain⟨ra,rfl,hra⟩:=hEa;change bO aN wr ba (oa+0*8) _ at hCa;have hla:=hra.len;have h8a:(bR m.1++ra).length=8:=by rw [List.length_append,hla];rfl
   have hrga:=hCa.range;rw [Nat.zero_mul,Nat.add_zero] at hrga;have hne1:some ba≠u6.ownBlock:=fun h=>hap.out (by simp) _ _ _ rfl h;have hgo:=fun v hv=>Ex.get_bounds hok.he (v:=v) hv;have hsx:=fun v hv=>XC m.1 g.1 v hv;replace hgo:=zH hgo;replace hsx:=zH hsx;replace hfail:=zH hfail;replace dG:=zH dG;replace hok:=zH hok;simp only [List.length_cons]
   go_upto_region 6 with (first
    | (refine aj rfl _ _ 27 rfl aN Tryz.underlying27 _ 8 96 (by kernel_rfl) _ _ _ rfl .i64 0 rfl 0 rfl (by omega) ba oa rfl ?_;rw [Nat.zero_mul,Nat.add_zero])
    | (refine wpList_load_mid rfl 43 _ rfl _ _ rfl _ _ hrga Tryz.underlying43 rfl (by rw [h8a];kernel_rfl) ?_)
    | (refine aA rfl _ (.tmp 7) (.tmp 17) rfl _ _ _ _ rfl rfl (Blk.new wr aN [.int .i64 0,.int .i64 0,.int .i64 0,.int .i64 0,.bool false,.slice none 0 0,.bool false,.slice none 0 0]) (by simp [bR,hla]) (by simp only [List.size_toArray,h8a];exact xR) (Bj hra) ?_;intro W3 R3 gr3))
   have BB:Blk W3 wr.heap.size aN (bR m.1++ra):=by simpa using R3
   have hba:Below wr.heap.size wr (wr.alloc (.cells #[.int .i64 0,.int .i64 0,.int .i64 0,.int .i64 0,.bool false,.slice none 0 0,.bool false,.slice none 0 0] aN)):=(Below.refl _ _).alloc (Nat.le_refl _) _;have hb3:Below wr.heap.size wr W3:=hba.trans (aM gr3 (by simp) (Nat.le_refl _));have hbr3:=hbr.trans (hb3.mono hbr.size);have ha3:=ha.out.on hb3;have hown3:=hown.out.on hb3;have hra3:=hra.on hb3;have hwm:w.heap.size<=wr.heap.size:=hbr.size;have hom:u6.ownBlock≠some wr.heap.size:=fun h=>by have:=(hown.out.base_le _ h).2;omega
   have ham:ba≠wr.heap.size:=fun h=>by have:=hCa.lt;omega
   have hbase:∀ k,u6.ownBlock=some k->w.heap.size<=k:=fun k hk=>(hown.out.base_le k hk).1;clear hrga R3 gr3 hba hb3 hCa ha hown hra hbr hap hd;generalize wr.heap.size=mb at *;have hst:Hid (Blk W3 mb aN (bR (wE m.1 g.1 0)++ra)):=zH BB;clear BB;go_wp2
   go_loopw [18] (fun i wr=>∃ k:Nat,k<=4/\i=.int .i64 k/\Hid (Blk wr mb aN (bR (wE m.1 g.1 k)++ra))/\Hid (ak wr (.slice (some ⟨ba,oa,none⟩) (a.length+1) ca) (m::a))/\Hid (cK w.heap.size wr u6 out)/\Hid (gM wr ra m.2)/\Below w.heap.size w wr) (fun i _=>4-(intOf i).toNat)
   case atStart=>exact⟨0,by omega,rfl,hst,zH ha3,zH hown3,zH hra3,hbr3⟩
   case round =>
    clear hst ha3 hown3 hra3 hbr3;obtain⟨k,hk,rfl,hB,ha,hown,hra,hbr⟩:=hrel;by_cases hk4:k<4
    ·have BB:=hB.out;have hk4':(k:Int)<4:=by omega
     have hat:=sQ (wE m.1 g.1 k) k hk4 ra;rw [NN _ _ _ hk4] at hat;have hset:=wD (wE m.1 g.1 k) k hk4 (m.1.get k-g.1.get k) ra;have hw:IntKind.i64.wrap (m.1.get k-g.1.get k)=m.1.get k-g.1.get k:=mJ (by rw [<- hsx.out k hk4];exact hgo.out k hk4);have hgat:=sQ g.1 k hk4 rg;have f1:∀ W',Below wr.heap.size wr W'->W'.cell? ⟨mb,k,none⟩=some (.int .i64 (m.1.get k)):=fun W' h=>(BB.on h).at1 k _ hat
     have f2:∀ W',Below wr.heap.size wr W'->W'.cell? ⟨bq,oq+k,none⟩=some (.int .i64 (g.1.get k)):=fun W' h=>by
      have:=(hCg.on (hbr.trans (h.mono hbr.size))).cell k (by simp [bR];omega);rw [Nat.zero_mul,Nat.add_zero] at this;rw [this];exact hgat
     have hsucc:wE m.1 g.1 (k+1)=Ex.put (wE m.1 g.1 k) k (m.1.get k-g.1.get k):=rfl;generalize m.1.get k=x at *;generalize g.1.get k=y at *;replace hsucc:=zH hsucc
     go_upto_region 9 with (fail)
     refine aF mixed (none) (0) (gp.none) [.eq (.int .i64 k),.eq (.pointer (some ⟨mb,0,none⟩)),.eq (.pointer (some ⟨mb,k,none⟩)),.eq (.int .i64 x),.eq (.slice (some ⟨bq,oq,none⟩) (b.length+1) cq),.eq (.int .i64 k),.eq (.pointer (some ⟨bq,oq+0*8,none⟩)),.eq (.pointer (some ⟨bq,oq+0*8,none⟩)),.eq (.pointer (some ⟨bq,oq+k,none⟩)),.eq (.int .i64 y),.eq (.int .i64 (x-y)),.eq (.pointer (some ⟨mb,0,none⟩)),.eq (.pointer (some ⟨mb,k,none⟩))] [21,22,23,24,25,26,27,28,29,30,31,32,33] rfl rfl rfl rfl ⟨?_,?_,?_,?_,?_,?_,?_,?_,?_,?_,?_,?_,?_,trivial⟩ ?_
     ·exact fun _ _ a _ _ _=>xM rfl (a 8 rfl)
     ·exact fun _ _ a _ _ _=>ae rfl (yQ rfl (a 7 rfl))
     ·intro A w1 hA hL hS he;have h22:=eT 22 (he.1 rfl);have h21:=eT 21 (he.2.1 rfl);exact pZ rfl
     ·intro A w1 hA hL hS he;have h23:=eT 23 (he.1 rfl);refine ae rfl ?_;have c0:=f1 w1 hL.below;exact aC rfl rfl gZ
     ·exact fun _ _ a _ _ _=>xM rfl (a 1 rfl)
     ·exact fun _ _ a _ _ _=>xM rfl (a 8 rfl)
     ·exact fun _ _ _ _ _ e=>pI rfl Tryz.underlying27 bq oq 0 (by omega) (e.1 rfl) rfl
     ·exact fun _ _ _ _ _ e=>ae rfl (yQ rfl (e.1 rfl))
     ·intro A w1 hA hL hS he;have h28:=eT 28 (he.1 rfl);have h26:=eT 26 (he.2.1 rfl);exact pZ rfl
     ·intro A w1 hA hL hS he;have h29:=eT 29 (he.1 rfl);refine ae rfl ?_;have c0:=f2 w1 hL.below;exact aC rfl rfl gZ
     ·intro A w1 hA hL hS he;have h24:=eT 24 (he.1 rfl);have h30:=eT 30 (he.2.1 rfl);exact pZ rfl
     ·exact fun _ _ a _ _ _=>ae rfl (yQ rfl (a 7 rfl))
     ·intro A w1 hA hL hS he;have h32:=eT 32 (he.1 rfl);have h21:=eT 21 (he.2.1 rfl);exact pZ rfl
     ·intro W2 hL2;have hb2:=hL2.below;simp only [aU,af.eq,lZ];go_frame;have B2:=BB.on hb2;have z:=B2.at1 k _ hat;have hf:=B2.frozen k;have hown2:=hown.out.on hb2;have ha2:=ha.out.on hb2;have hra2:=hra.out.on hb2;have hbr2:=hbr.trans (hb2.mono hbr.size);have hl3:=aY (j:=k) B2 (.int .i64 (x - y));have B3:=B2.set k (.int .i64 (x - y));rw [hset] at B3;clear f1 f2 hL2;go_wp2;go_roundw
      case rel =>
       refine⟨k+1,by omega,by go_num,zH (by rw [hsucc.out];exact B3),zH (ha2.lrB hl3 (bu (by decide)) (fun ao n c h=>by simp only [Value.slice.injEq,Option.some.injEq] at h;rw [<- h.1];simpa using ham)),zH (hown2.lr hl3 (bu (by decide)) (.inr hom)),zH (hra2.lr hl3 (by decide)),hbr2.trans (hl3.belowAt hbr2.size (fun k hk=>by cases hk;exact hwm))⟩
      case measure=>simp [intOf];omega
    ·obtain rfl:k=4:=by omega
     rw [JR] at hB;clear hgo hsx;obtain⟨E,hE⟩:∃ E,E=m.1.sub g.1:=⟨_,rfl⟩;have hqe:ji m g=(E,m.2 / g.2):=by rw [hE];rfl
     have hEr:InR E:=by rw [hE];exact hok.out.he
     rw [<- hE] at hB hfail dG;replace hqe:=zH hqe;replace hEr:=zH hEr;clear hE;have BB:=hB.out
     go_upto_region 11 with (fail)
     refine aP trivial (none) (0) (gp.none) [.eq (.pointer (some ⟨mb,0,none⟩)),.eq (.agg (bR E).toArray),.ret (.bool E.nat),.eq (.bool (!E.nat))] [35,36,37,38] rfl rfl rfl rfl ⟨?_,?_,?_,?_,trivial⟩ ?_
     ·exact fun _ _ a _ _ _=>ae rfl (yQ rfl (a 7 rfl))
     ·exact fun _ _ _ hL _ e=>pL rfl (Fw (BB.on hL.below)) Tryz.underlying36 (show (bR E).length=4 from rfl) (e.1 rfl)
     ·intro A w1 hA hL hS he;have hb:=hS rfl;have h36:=eT 36 (he.1 rfl);have hf0:=eF A 114;exact cP (f:=114) (args:=#[.agg (bR E).toArray]) (yR E _)
     ·intro A w1 hA hL hS he;have h37:=eT 37 (he.1 rfl);exact pZ rfl
     ·intro W2 hL2;have hb2:=hL2.below;simp only [aU,af.eq,af.ret,lZ];go_frame;have B2:=BB.on hb2;have hown2:=hown.out.on hb2;have ha2:=ha.out.on hb2;have hra2:=hra.out.on hb2;have hbr2:=hbr.trans (hb2.mono hbr.size);clear hL2 BB hB hown ha hra hbr hb2;cases hEn:E.nat
      ·have hr:=hfail.out hEn;replace hr:=zH hr;clear dG hEn;go_wp2;go_ret2;exact⟨_,by rw [hr.out];rfl,by rw [hr.out];exact bS.nil _ _,hbr2⟩
      ·obtain⟨n',hn',hok2,hol,hd'⟩:=dG.out hEn;rw [hqe.out] at hd';replace hok2:=zH hok2;replace hd':=zH hd';replace hn':=zH hn';clear hfail dG hEn;have hdiv:=fun W (hb:Below W2.heap.size W2 W)=>G6 _ _ _ _ W (hra2.on hb).rat (hrg.on (hbr2.trans (hb.mono hbr2.size))).rat hok.out.hm hok.out.hg hok.out.hz;obtain⟨N1,A1,K1,C1,N2,A2,K2,C2,rfl,-,-⟩:=hra2;obtain⟨N3,A3,K3,C3,N4,A4,K4,C4,rfl,-,-⟩:=id hrg;have y1:=B2.at1 4 _ rfl;have y2:=B2.at1 5 _ rfl;have y3:=B2.at1 6 _ rfl;have y4:=B2.at1 7 _ rfl;have hCg2:=hCg.on hbr2;have x1:W2.cell? ⟨bq,oq+4,none⟩=some (.bool N3):=by have:=hCg2.cell 4 (by simp [bR]);simpa [bR] using this
       have x2:W2.cell? ⟨bq,oq+4+1,none⟩=some (.slice A3 K3 C3):=by have:=hCg2.cell 5 (by simp [bR]);simpa [bR,Nat.add_assoc] using this
       have x3:W2.cell? ⟨bq,oq+4+2,none⟩=some (.bool N4):=by have:=hCg2.cell 6 (by simp [bR]);simpa [bR,Nat.add_assoc] using this
       have x4:W2.cell? ⟨bq,oq+4+3,none⟩=some (.slice A4 K4 C4):=by have:=hCg2.cell 7 (by simp [bR]);simpa [bR,Nat.add_assoc] using this
       have f1:=B2.frozen 4;have f2:=B2.frozen 5;have f3:=B2.frozen 6;have f4:=B2.frozen 7;clear hCg2
       go_upto_region 13 with (fail)
       go_cut [39,40,41,42,43,44,45,46,47,48,49] (fun _ _ _ _ _ _ _ _ _ _ _ wc=>∃ r':List Value,Hid (Blk wc mb aN (bR E++r'))/\Hid (gM wc r' (m.2 / g.2))/\Hid (cK w.heap.size wc u6 out)/\Hid (ak wc (.slice (some ⟨ba,oa,none⟩) (a.length+1) ca) (m::a))/\Below w.heap.size w wc)
       case first =>
        replace hown2:=zH hown2;replace ha2:=zH ha2
        go_region_with (go_at_call 46;refine (hdiv _ (pV (Below.refl _ _) _)).mono ?_;rintro en w5 ⟨v5,rfl,hv5,hb5⟩;obtain⟨N5,A5,K5,C5,N6,A6,K6,C6,rfl⟩:=fQ hv5;have B5:=(B2.on (pV (Below.refl _ _) _)).on hb5;have z1:=B5.at1 4 _ rfl;have z2:=B5.at1 5 _ rfl;have z3:=B5.at1 6 _ rfl;have z4:=B5.at1 7 _ rfl;have g1:=B5.frozen 4;have g2:=B5.frozen 5;have g3:=B5.frozen 6;have g4:=B5.frozen 7)
        all_goals
         obtain⟨R5,gr5⟩:=eU [.bool N5,.slice A5 K5 C5,.bool N6,.slice A6 K6 C6] 4 w5 _ B5 (by simp [bR]);have hl5:Lr (some mb) aN w5 _:=⟨gr5,fun k hk=>by cases hk;exact⟨B5.noOther,R5.noOther⟩⟩;have hb25:Below W2.heap.size W2 w5:=(pV (Below.refl _ _) 1).trans (hb5.mono (Nat.le_refl _));have hbw5:=hbr2.trans (hb25.mono hbr2.size);have hown5:=(hown2.out.on hb25).lr hl5 (bu (by decide)) (.inr hom);have ha5:=(ha2.out.on hb25).lrB hl5 (bu (by decide)) (fun ao n c h=>by simp only [Value.slice.injEq,Option.some.injEq] at h;rw [<- h.1];simpa using ham);have hr5:=(hv5.lr hl5 (by decide)).cellsC (cs:=[.bool N5,.slice A5 K5 C5,.bool N6,.slice A6 K6 C6]);have hbw6:=hbw5.trans (hl5.belowAt hbw5.size (fun k hk=>by cases hk;exact hwm));clear z1 z2 z3 z4 g1 g2 g3 g4 B5 hv5 hl5 gr5;go_wp2;go_meet
         case rel=>exact⟨_,zH R5,zH hr5,zH hown5,zH ha5,hbw6⟩
       case rest =>
        clear B2 hown2 ha2 hdiv y1 y2 y3 y4 x1 x2 x3 x4 f1 f2 f3 f4 hbr2;obtain⟨r',hB,hr',hown,ha,hbr⟩:=hcut;have BB:=hB.out;have h4r:=hr'.out.len;have h8:(bR E++r').length=8:=by rw [List.length_append,h4r];rfl
        have hne':some mb≠u6.ownBlock:=fun h=>hom h.symm;obtain⟨k1,k2,k3,k4,k5⟩:=hok2.out;rw [hqe.out] at k3 k5
        have kq:∀ t∈[((E,m.2 / g.2):ai)],InR t.1/\Rk t.2:=fun t ht=>by
         rw [List.mem_singleton.1 ht];exact⟨hEr.out,k1⟩
        replace k1:=zH k1;replace k2:=zH k2;replace k3:=zH k3;replace k4:=zH k4;replace k5:=zH k5;replace kq:=zH kq;replace hbase:=zH hbase;clear hB hok2 hlg
        go_upto_region 14 with (fail)
        refine aP trivial (u6.ownBlock) (aN) (hown.out.okr) [.eq (u6),.eq (.agg (bR E++r').toArray),.new1 aO fw ((E,m.2 / g.2)),.row aO (w.heap.size) wc.heap.size (out++[(E,m.2 / g.2)])] [50,51,52,53] rfl rfl rfl rfl ⟨?_,?_,?_,?_,trivial⟩ ?_
        ·exact fun _ _ a _ _ _=>xM rfl (a 6 rfl)
        ·exact fun _ _ a hL _ _=>pL rfl ((BB.lr hL hne').cells.range) Tryz.underlying43 (h8) (a 7 rfl)
        ·intro A w1 hA hL hS he;have h51:=eT 51 (he.1 rfl);refine ae rfl ?_;have hE:(aO:El _).E w1 _ ((E,m.2 / g.2)):=⟨_,rfl,hr'.out.lr hL (by decide)⟩;refine fo rfl rfl ((hown.out.okr).lr hL) hE (bC rfl ?_) (fun _ _ h=>h);simp only [List.map_toArray,List.map_cons,List.map_nil,h51];exact bN _ _ ((aO).len hE)
        ·intro A w1 hA hL hS he;have hb:=hS rfl;have hbw:Below w.heap.size w w1:=hbr.trans (hL.belowAt hbr.size hbase.out);have h50:=eT 50 (he.1 rfl);obtain⟨v52,h52,f52⟩:=fT 52 (he.2.1 rfl);exact ae rfl (dO rfl rfl rfl Tryz.underlying27 bK h50 h52 (hown.out.on hb) rfl rfl (dV f52) (by simp only [List.length_cons,List.length_nil];omega) (hbw.size) hL.1.size (fun _ _ h1 h2=>⟨h1,h2⟩))
        ·intro W6 hL6;simp only [aU,af.eq,af.new1,af.row,af.asPure,af.of,af.fragile,lZ];rintro v52 - v53 ⟨hown6,hnew⟩;go_frame;have hbW6:=hbr.trans (hL6.belowAt hbr.size hbase.out);have ha6:=ha.out.lrB hL6 (bu (by decide)) (fun ao n c h=>by simp only [Value.slice.injEq,Option.some.injEq] at h;rw [<- h.1];exact hne1);have B6:=BB.lr hL6 hne';have hr6:=hr'.out.lr hL6 (by decide);have hq6:=hq.on hbW6;have hblk6:=zH hown6.base_le;clear hL6 BB ha hown hr' hbr hnew
         go_upto_region 15 with (fail)
         refine aP trivial (none) (0) (gp.none) [.eq (.slice (some ⟨ba,oa,none⟩) (a.length+1) ca),.eq (.slice (some ⟨bq,oq,none⟩) (b.length+1) cq),.eq (.agg (bR E++r').toArray),.new1 aO (bu (by decide)) ((E,m.2 / g.2)),.poly (by decide) (by decide) ((aQ (g::b) [(E,m.2 / g.2)])),.own W6.heap.size (dK (m::a) (aQ (g::b) [(E,m.2 / g.2)]))] [54,55,56,57,58,59] rfl rfl rfl rfl ⟨?_,?_,?_,?_,?_,?_,trivial⟩ ?_
         ·exact fun _ _ a _ _ _=>xM rfl (a 0 rfl)
         ·exact fun _ _ a _ _ _=>xM rfl (a 1 rfl)
         ·exact fun _ _ a hL _ _=>pL rfl ((B6.on hL.below).cells.range) Tryz.underlying43 (h8) (a 7 rfl)
         ·intro A w1 hA hL hS he;have hb:=hS rfl;have h56:=eT 56 (he.1 rfl);refine ae rfl ?_;have hE:(aO:El _).E w1 _ ((E,m.2 / g.2)):=⟨_,rfl,hr6.on hb⟩;refine fo rfl rfl ((gp.none).lr hL) hE (bC rfl ?_) (fun _ _ h=>h);simp only [List.map_toArray,List.map_cons,List.map_nil,h56];exact bN _ _ ((aO).len hE)
         ·intro A w1 hA hL hS he;have hb:=hS rfl;have h55:=eT 55 (he.1 rfl);obtain⟨v57,h57,f57⟩:=fT 57 (he.2.1 rfl);have hf0:=eF A 54;exact cP (f:=54) (args:=#[.slice (some ⟨bq,oq,none⟩) (b.length+1) cq,v57]) (xU _ _ _ _ _ (hq6.on hb) (dV f57) k2.out.1 kq.out k3.out k2.out.2 (by simp))
         ·intro A w1 hA hL hS he;have hb:=hS rfl;have h54:=eT 54 (he.1 rfl);obtain⟨v58,h58,f58⟩:=fT 58 (he.2.1 rfl);have hf0:=eF A 74;refine ae rfl ?_;refine fI (f:=74) (args:=#[.slice (some ⟨ba,oa,none⟩) (a.length+1) ca,v58]) rfl rfl ?_ ?_
          ·exact gZ
          ·refine (LQ _ _ _ _ _ (ha6.on hb) f58 k4.out.1 k5.out.1 k4.out.2.1 k5.out.2 k4.out.2.2 (aV.mul _ _)).mono ?_;rintro e w' ⟨v,rfl,hi,hb'⟩;exact⟨_,rfl,hb',hi.base_mono hb.size⟩
         ·intro W7 hL7;have hb7:=hL7.below;simp only [aU,af.eq,af.new1,af.poly,af.own,af.of,lZ];rintro v57 - v58 - v59 hown9;go_frame;have hown7:=hown6.on hb7;have hbW7:=hbW6.trans (hb7.mono hbW6.size)
          have hap:(dK (m::a) (aQ (g::b) [(E,m.2 / g.2)]))≠[]->∀ ao n c,v59=.slice (some ao) n c->some ao.block≠v53.ownBlock:=fun _ ao n c h hc=>by
           have h1:=(hblk6.out ao.block hc.symm).2;obtain⟨xs,⟨-,h2⟩,-⟩:=hown9;rcases h2 with ⟨h2,-⟩|⟨gg,cap,cur,h2,h3,-⟩
           ·rw [h] at h2;cases h2
           ·rw [h] at h2;cases h2;simp only at h1;omega
          replace hap:=zH hap;clear hL7 hb7 hown6 ha6 B6 hr6 hq6 hbW6;go_wp2;go_roundg n'
          case measure=>have:=hn'.out;omega
          case rel=>exact⟨_,_,zH hown9.isSl,zH hown7,hd',hbW7,hap⟩
end Go.Proofs.YtopclbeomcggiaaGreat
end
section
namespace Q
def fE (D R:List (List ai)):List (List ai) :=
 let n:=D.length-1
 let top:=R.getD (R.length-1) []
 (List.range (R.length-1)).map fun i=>if R.length-1-n<=i then dK (aQ (R.getD i []) (D.getD n [])) (aQ top (D.getD (i-(R.length-1-n)) [])) else aQ (R.getD i []) (D.getD n [])
def fO (D:List (List ai)):Nat->List (List ai)->List (List ai)
 | 0,R=>R
 | f+1,R=>if D.length-1<R.length then fO D f (fE D R) else R
theorem gP (D R:List (List ai)):(fE D R).length=R.length-1:=by simp [fE]
def rG (D R:List (List ai)) (i:Nat):List (List ai):=(fE D R).take i++(R.take (R.length-1)).drop i
theorem PX {D R:List (List ai)} {i:Nat} (h:i<=R.length-1):(rG D R i).length=R.length-1:=by simp [rG,gP];omega
theorem NP (D R:List (List ai)):rG D R 0=R.take (R.length-1):=by simp [rG]
theorem NQ (D R:List (List ai)):rG D R (R.length-1)=fE D R:=by
 rw [rG,List.drop_of_length_le (by simp),List.append_nil,List.take_of_length_le (by rw [gP];exact Nat.le_refl _)]
theorem PY {D R:List (List ai)} {i:Nat} (h:i<R.length-1):(rG D R i)[i]?=some (R.getD i []):=by
 have hl:((fE D R).take i).length=i:=by rw [List.length_take,gP];omega
 rw [rG,List.getElem?_append_right (by omega),List.getElem?_drop];rw [hl,Nat.sub_self,Nat.add_zero,List.getElem?_take,if_pos h,List.getD_eq_getElem?_getD,List.getElem?_eq_getElem (by omega)]
 rfl
theorem NR {D R:List (List ai)} {i:Nat} (h:i<R.length-1) :
  rG D R (i+1)=(rG D R i).set i (if R.length-1-(D.length-1)<=i then dK (aQ (R.getD i []) (D.getD (D.length-1) [])) (aQ (R.getD (R.length-1) []) (D.getD (i-(R.length-1-(D.length-1))) [])) else aQ (R.getD i []) (D.getD (D.length-1) [])):=by
 have hl:((fE D R).take i).length=i:=by rw [List.length_take,gP];omega
 rw [rG,rG,List.set_append_right _ _ (by omega),hl,Nat.sub_self,List.drop_eq_getElem_cons (show i<(R.take (R.length-1)).length by simp;omega),List.set_cons_zero,List.take_add_one,List.append_assoc]
 congr 1
 have:(fE D R)[i]?=some (if R.length-1-(D.length-1)<=i then dK (aQ (R.getD i []) (D.getD (D.length-1) [])) (aQ (R.getD (R.length-1) []) (D.getD (i-(R.length-1-(D.length-1))) [])) else aQ (R.getD i []) (D.getD (D.length-1) [])):=by
  simp [fE,h]
 rw [this];rfl
end Q
namespace Q
open Go Go.RowKit Go.Proofs.YtopclbeomcggiaaGreat
structure PZ (p q:List ai):Prop where
 kp:∀ t∈p,InR t.1/\Rk t.2
 kq:∀ t∈q,InR t.1/\Rk t.2
 ko:SC (prods p q)
 kl:p.length<=100000000/\q.length<=100000000
structure Wh (p q:List ai):Prop where
 kp:∀ t∈p,Rk t.2
 kq:∀ t∈q,Rk t.2
 kl:p.length<=100000000/\q.length<=100000000
 kv:aV p/\aV q
def XD (D R:List (List ai)):Prop:=∀ i,i<R.length-1->PZ (R.getD i []) (D.getD (D.length-1) []) /\
 (R.length-1-(D.length-1)<=i->PZ (R.getD (R.length-1) []) (D.getD (i-(R.length-1-(D.length-1))) [])/\Wh (aQ (R.getD i []) (D.getD (D.length-1) [])) (aQ (R.getD (R.length-1) []) (D.getD (i-(R.length-1-(D.length-1))) [])))
def H9 (D:List (List ai)):Nat->List (List ai)->Prop
 | 0,_=>True
 | f+1,R=>D.length-1<R.length->XD D R/\H9 D f (fE D R)
structure nM (w:World) (g:Nat) (vs:List Value) (R:List (List ai)):Prop where
 b:Blk w g polyT vs
 l:R.length<=vs.length
 p:∀ (i:Nat) v p,vs[i]?=some v->R[i]?=some p->ak w v p
theorem nM.on {w w':World} {g:Nat} {vs:List Value} {R:List (List ai)} (h:nM w g vs R) (hb:Below w.heap.size w w'):nM w' g vs R :=
 ⟨h.b.on hb,h.l,fun i v p h1 h2=>(h.p i v p h1 h2).on hb⟩
theorem nM.get {w:World} {g:Nat} {vs:List Value} {R:List (List ai)} (h:nM w g vs R) {i:Nat} (hi:i<R.length):∃ v,vs[i]?=some v/\ak w v (R.getD i [])/\w.cell? ⟨g,i,none⟩=some v:=by
 have h1:=h.l;have hv:vs[i]?=some vs[i]:=List.getElem?_eq_getElem (by omega);refine⟨vs[i],hv,h.p i _ _ hv ?_,h.b.at1 i _ hv⟩;rw [List.getD_eq_getElem?_getD,List.getElem?_eq_getElem hi];rfl
theorem nM.set {w:World} {g:Nat} {vs:List Value} {R:List (List ai)} (h:nM w g vs R) {i:Nat} (hi:i<R.length) {v:Value} {q:List ai} (hq:ak w v q) :
  nM (w.setCell ⟨g,i,none⟩ v) g (vs.set i v) (R.set i q)/\Lr (some g) polyT w (w.setCell ⟨g,i,none⟩ v):=by
 have hl:=aY (j:=i) h.b v;refine⟨⟨h.b.set i v,by simpa using h.l,fun j u p h1 h2=>?_⟩,hl⟩;rw [List.getElem?_set] at h1 h2;by_cases hij:i=j
 ·subst hij;rw [if_pos rfl,if_pos (by have:=h.l;omega)] at h1;rw [if_pos rfl,if_pos hi] at h2;cases h1;cases h2;exact hq.lr hl (bu (by decide)) (by decide)
 ·rw [if_neg hij] at h1 h2;exact (h.p j u p h1 h2).lr hl (bu (by decide)) (by decide)
theorem nM.take {w:World} {g:Nat} {vs:List Value} {R:List (List ai)} (h:nM w g vs R) (k:Nat):nM w g vs (R.take k) :=
 ⟨h.b,by have:=h.l;rw [List.length_take];omega,fun i v p h1 h2=>h.p i v p h1 (by rw [List.getElem?_take] at h2;split at h2;exact h2;cases h2)⟩
theorem nM.other {w w':World} {g h:Nat} {vs:List Value} {R:List (List ai)} (hc:nM w g vs R) (hl:Lr (some h) polyT w w') (hne:g≠h):nM w' g vs R :=
 ⟨hc.b.lr hl (by simpa using hne),hc.l,fun i v p h1 h2=>(hc.p i v p h1 h2).lr hl (bu (by decide)) (by decide)⟩
theorem nM.polys {w:World} {g:Nat} {vs:List Value} {R:List (List ai)} (h:nM w g vs R):fG w (.slice (some ⟨g,0,none⟩) R.length vs.length) R:=by
 refine⟨_,_,vs.take R.length,rfl,h.l,fun _=>⟨g,0,rfl,h.b.cells.take _⟩,sU (by rw [List.length_take];have:=h.l;omega) fun n v l h1 h2=>?_⟩;rw [List.getElem?_take] at h1;split at h1
 ·exact h.p n v l h1 h2
 ·cases h1
end Q
namespace Go.Proofs.YtopclbeomcggiaaGreat
open Go Go.RowKit Q Go.Proofs.YtopclbeomcggiaaGreat
theorem jR.cols {w:World} {g base:Nat} {vs:List Value} {L:List (List ai)} (h:jR base w vs L) (hB:Blk w g polyT vs):nM w g vs L :=
 ⟨hB,by rw [h.len];exact Nat.le_refl _,fun i v p h1 h2=>(h.own i v p h1 h2).isSl⟩
end Go.Proofs.YtopclbeomcggiaaGreat
namespace Q
open Go Go.RowKit Go.Proofs.YtopclbeomcggiaaGreat
end Q
namespace Q
open Go Go.RowKit
theorem ni {P:Program} {w:World} {ops:Array Oper} {rest:List Oper} {o:Oper} {a:Act} {Q:Exit->Act->World->Prop} (hg:o.guard=none) (x hi:Operand) (t:TypeId) (hop:o.op=Op.slice t x none (some hi) none) {el:TypeId} (ht:P.underlying t=some (.slice el)) {size:Nat} (hs:(P.info? el).map (·.size)=some size)
  (ao:Option Addr) (n c:Nat) (hx:a.eval x=.slice ao n c) (k:IntKind) (i:Int) (hix:a.eval hi=.int k i) (j:Nat) (hij:i=(j:Int)) (hj:j<=c) (h:wpList P ops Q rest (a.put o.dst (.slice ao j c)) w):wpList P ops Q (o::rest) a w:=by
 refine wpList_plain hg fun K hK=>?_;have hrun:=jL ht hs w ao n c j k i hij hj;unfold Oper.wp;rw [iA hop (by simp only [Option.map_some,Option.map_none];rw [hx,hix];exact hrun)];exact hK _ _ h
end Q
namespace Go.Proofs.YtopclbeomcggiaaGreat
open Go.RowKit Q Go.WideMaps Go.Maps
def Ia (w:World) (l:List ai) (c:Int) (e:Ending) (w':World):Prop:=∃ v,e=.returned (.tuple #[v,.int .i64 c])/\ak w' v l/\Below w.heap.size w w'
theorem JS (vp vq:Value) (p q:List ai) (v:Nat) (w:World) (hp:ak w vp p) (hq:ak w vq q) (hv:v<4) (hne:q≠[]) (np:dh p) (nq:dh q) (dp:aG p v<=100000) (dq:aG q v<=100000) (lp:p.length<=100000000) (lq:q.length<=100000000)
  (hps:H9 (aB q v) (aB p v).length (aB p v)) (hok:SC (fromL v 0 (fO (aB q v) (aB p v).length (aB p v)))) (hl2:∀ c∈fO (aB q v) (aB p v).length (aB p v),c.length<=100000000) :
  Calls Tryz.prog 94 #[vp,vq,.int .i64 v] w (Ia w (sG (fO (aB q v) (aB p v).length (aB p v)) v) 0):=by
 have hD:=fun W (hb:Below w.heap.size w W)=>uX vq q v W (hq.on hb) hv nq (by omega) lq;have hR:=fun W (hb:Below w.heap.size w W)=>uX vp p v W (hp.on hb) hv np (by omega) lp;obtain⟨aq,cq,rfl,hcq⟩:=hq.shape;have hql:0<q.length:=List.length_pos_iff.2 hne
 have hDl:1<=(aB q v).length/\(aB q v).length<=100001:=by
  rw [aW];obtain⟨t,ht⟩:=List.exists_mem_of_ne_nil _ hne;have:=dU ht v;have:=Ex.nat_get (nq t ht) v;omega
 have hRl:(aB p v).length<=100001:=by rw [aW];have:=ug p v;omega
 have hq0:((q.length:Int) == 0)=false:=by simp;omega
 generalize aB q v=D at *;generalize aB p v=R0 at *;obtain⟨RES,hRES⟩:∃ RES,fO D R0.length R0=RES:=⟨_,rfl⟩;rw [hRES] at hok hl2 ⊢
 have hRESl:RES.length<=100001:=by
  have:∀ f R,(fO D f R).length<=R.length:=by
   intro f
   induction f with
   | zero=>intro R;exact Nat.le_refl _
   | succ f ih=>intro R;unfold fO;split;exact Nat.le_trans (ih _) (by rw [gP];omega);exact Nat.le_refl _
  have:=this R0.length R0;rw [hRES] at this;omega
 replace hok:=zH hok;replace hl2:=zH hl2;obtain⟨f0,hf0⟩:∃ f0,f0=R0.length:=⟨_,rfl⟩;rw [<- hf0] at hRES hps;have hfl:R0.length<=D.length - 1+f0:=by omega
 replace hRES:=zH hRES;replace hps:=zH hps;have hnD:((D.length:Int)-1)=((D.length-1:Nat):Int):=by omega
 clear hne hp hq np nq dp dq lp lq hf0
 go_enter Tryz.func94,Tryz.ntmps94
 go_upto_region 4 with (go_at_call 62;refine (hD _ (Below.refl _ _)).mono ?_;rintro en w1 ⟨gd,vd,rfl,hBd,hgd,hRd,hb1⟩)
 have hcD:=hRd.cols hBd;have hvdl:=hRd.len;clear hBd hRd hgd;rw [hvdl]
 go_upto_region 6 with (go_at_call 62;refine (hR _ hb1).mono ?_;rintro en w2 ⟨g,vs,rfl,hB,hg,hRr,hb2⟩)
 have hb12:=hb1.trans (hb2.mono hb1.size);have hc0:=hRr.cols hB;have hcD2:=hcD.on hb2;have hgD:gd<g:=by have:=hcD.b.lt;omega
 have hgw:w.heap.size<=g:=by have:=hb1.size;omega
 have hvl:=hRr.len;have hst:Hid (nM w2 g vs R0/\vs.length=R0.length/\fO D f0 R0=RES/\H9 D f0 R0/\R0.length<=D.length-1+f0):=zH ⟨hc0,hvl,hRES.out,hps.out,hfl⟩;rw [hvl];replace hst:=hst.out;clear hRES hps hB hRr hD hR hcD hc0 hb1 hb2 hg hvl
 go_loopg [10] f0 (fun f v10 wr=>∃ (R:List (List ai)) (vs:List Value),v10=.slice (some ⟨g,0,none⟩) R.length R0.length/\Hid (nM wr g vs R)/\vs.length=R0.length/\Hid (fO D f R=RES)/\Hid (H9 D f R)/\R.length<=D.length-1+f/\R.length<=R0.length/\Hid (nM wr gd vd D)/\Below w.heap.size w wr)
 case atStart=>exact⟨R0,vs,rfl,zH hst.1,hst.2.1,zH hst.2.2.1,zH hst.2.2.2.1,hst.2.2.2.2,by omega,zH hcD2,hb12⟩
 case round =>
  clear hst hcD2 hb12;obtain⟨R,vs,rfl,hc,hvl,hrun,hps,hfl,hRc,hcD,hbr⟩:=hrel;by_cases hlt:D.length - 1<R.length
  ·obtain⟨f',rfl⟩:∃ f',gk=f'+1:=⟨gk - 1,by omega⟩;have hrun':Hid (fO D f' (fE D R)=RES):=zH (by rw [<- hrun.out,fO,if_pos hlt]);have hps':=hps.out hlt;have hpo:=zH hps'.1;have hpa:=zH hps'.2;obtain⟨vt,hvt,hPt,hct⟩:=hc.out.get (i:=R.length - 1) (by omega);have hlast:((R.length:Int) - 1)=((R.length - 1:Nat):Int):=by omega
   have hlt':((D.length-1:Nat):Int)<(R.length:Int):=by omega
   have hsli:=fun W':World=>jL (P:=Tryz.prog) Tryz.underlying75 Fa W' (some ⟨g,0,none⟩) R.length R0.length (R.length-1) .i64 ((R.length-1:Nat):Int) rfl (by omega);have hct2:=(hc.out.take (R.length-1));rw [<- NP D R] at hct2;replace hct2:=zH hct2;have hpt:=zH hPt;have hR1:R.length<=100001:=by omega
   clear hrun hps hps' hvt hPt hc
   go_upto_region 9 with (first
    | (refine aj rfl _ _ 75 rfl polyT Tryz.underlying75 _ 1 24 (by kernel_rfl) _ _ _ rfl .i64 _ rfl (R.length-1) (by omega) (by omega) g 0 rfl ?_;rw [Nat.mul_one,Nat.zero_add])
    | (refine ni rfl _ _ 75 rfl Tryz.underlying75 Fa _ _ _ rfl .i64 _ rfl (R.length-1) (by omega) (by omega) ?_))
   clear hct hsli;go_wp2
   go_loopw [43] (fun i wr=>∃ (k:Nat) (vs:List Value),k<=R.length-1/\i=.int .i64 k/\Hid (nM wr g vs (rG D R k))/\vs.length=R0.length/\Hid (ak wr vt (R.getD (R.length-1) []))/\Hid (nM wr gd vd D)/\Below w.heap.size w wr) (fun i _=>R.length-1-(intOf i).toNat)
   case atStart=>exact⟨0,vs,by omega,by go_num,hct2,hvl,hpt,hcD,hbr⟩
   case round =>
    clear hct2 hpt hcD hbr hvl;obtain⟨k,vs,hk,rfl,hc,hvl,hpt,hcD,hbr⟩:=hrel;by_cases hkl:k<R.length - 1
    ·have hkl':(k:Int)<((R.length-1:Nat):Int):=by omega
     have hlen:(rG D R k).length=R.length - 1:=PX (by omega);obtain⟨vk,hvk,-,hck⟩:=hc.out.get (i:=k) (by omega);have hPk:ak wr vk (R.getD k []):=hc.out.p k _ _ hvk (PY hkl);obtain⟨vn,hvn,hPn,hcn⟩:=hcD.out.get (i:=D.length - 1) (by omega);obtain⟨mo,mo2⟩:=hpo.out k hkl;have hsucc:=NR (D:=D) hkl;replace hsucc:=zH hsucc;replace mo2:=zH mo2;have hgl:g<wr.heap.size:=hc.out.b.lt;have hgdl:gd<wr.heap.size:=hcD.out.b.lt;have f1:∀ W,Below wr.heap.size wr W->W.cell? ⟨g,k,none⟩=some vk:=fun W h=>by rw [h.cell hgl];exact hck
     have f2:∀ W,Below wr.heap.size wr W->W.cell? ⟨gd,D.length-1,none⟩=some vn:=fun W h=>by rw [h.cell hgdl];exact hcn
     clear hck hcn
     go_upto_region 12 with (fail)
     refine aF mixed (none) (0) (gp.none) [.eq (.slice (some ⟨g,0,none⟩) (R.length-1) R0.length),.eq (.int .i64 k),.eq (.slice (some ⟨g,0,none⟩) (R.length-1) R0.length),.eq (.int .i64 k),.eq (.pointer (some ⟨g,0+k*1,none⟩)),.eq (vk),.eq (.slice (some ⟨gd,0,none⟩) D.length D.length),.eq (.int .i64 (D.length-1:Nat)),.eq (.pointer (some ⟨gd,0+(D.length-1)*1,none⟩)),.eq (vn),.poly (by decide) (by decide) ((aQ (R.getD k []) (D.getD (D.length-1) []))),.eq (.pointer (some ⟨g,0+k*1,none⟩))] [46,47,48,49,50,51,52,53,54,55,56,57] rfl rfl rfl rfl ⟨?_,?_,?_,?_,?_,?_,?_,?_,?_,?_,?_,?_,trivial⟩ ?_
     ·exact fun _ _ a _ _ _=>xM rfl (a 10 rfl)
     ·exact fun _ _ a _ _ _=>xM rfl (a 12 rfl)
     ·exact fun _ _ a _ _ _=>xM rfl (a 10 rfl)
     ·exact fun _ _ a _ _ _=>xM rfl (a 12 rfl)
     ·exact fun _ _ _ _ _ e=>pI rfl Tryz.underlying75 g 0 k (hkl) (e.1 rfl) (e.2.1 rfl)
     ·intro A w1 hA hL hS he;have h50:=eT 50 (he.1 rfl);refine ae rfl ?_;have c0:=f1 w1 hL.below;exact aC rfl rfl gZ
     ·exact fun _ _ a _ _ _=>xM rfl (a 8 rfl)
     ·exact fun _ _ a _ _ _=>xM rfl (a 9 rfl)
     ·exact fun _ _ _ _ _ e=>pI rfl Tryz.underlying75 gd 0 (D.length-1) (by omega) (e.1 rfl) (e.2.1 rfl)
     ·intro A w1 hA hL hS he;have h54:=eT 54 (he.1 rfl);refine ae rfl ?_;have c0:=f2 w1 hL.below;exact aC rfl rfl gZ
     ·intro A w1 hA hL hS he;have hb:=hS rfl;have h51:=eT 51 (he.1 rfl);have h55:=eT 55 (he.2.1 rfl);have hf0:=eF A 54;exact cP (f:=54) (args:=#[vk,vn]) (xU _ _ _ _ _ (hPk.on hb) (hPn.on hb) mo.kp mo.kq mo.ko mo.kl.1 mo.kl.2)
     ·exact fun _ _ _ _ _ e=>pI rfl Tryz.underlying75 g 0 k (hkl) (e.1 rfl) (e.2.1 rfl)
     ·intro W2 hL2;have hb2:=hL2.below;simp only [aU,af.eq,af.poly,af.of,lZ];rintro v56 h56;go_frame;have hc2:=hc.out.on hb2;have hcD2:=hcD.out.on hb2;have hpt2:=hpt.out.on hb2;have hbr2:=hbr.trans (hb2.mono hbr.size);have z:=hc2.b.at1 k _ hvk;have hf:=hc2.b.frozen k;have hkT:k<(rG D R k).length:=by omega
      obtain⟨hc3,hl3⟩:=hc2.set hkT h56;have hcD3:nM (W2.setCell ⟨g,k,none⟩ v56) gd vd D:=hcD2.other hl3 (by omega);have hpt3:=hpt2.lr hl3 (bu (by decide)) (by decide);have hbr3:=hbr2.trans (hl3.belowAt hbr2.size (fun k hk=>by cases hk;exact hgw));have h563:=h56.lr hl3 (bu (by decide)) (by decide);obtain⟨a56,c56,hs56,-⟩:=h56.shape;subst hs56;clear f1 f2 hPk hPn hL2 hc hcD hpt hb2 hbr hc2 hcD2 hpt2 hbr2 hvk hvn h56 mo;generalize aQ (R.getD k []) (D.getD (D.length - 1) [])=A at *;have hR2:R.length - 1<=100000:=by omega
      have hD2:D.length-1<=100000:=by omega
      by_cases hge:R.length-1-(D.length-1)<=k
      ·obtain⟨mo2a,so⟩:=mo2.out hge;have hki:(0:Int)<=(k:Int) - (((R.length - 1:Nat):Int) - ((D.length - 1:Nat):Int)):=by omega
       obtain⟨j,hj⟩:∃ j,j=k - (R.length - 1 - (D.length - 1)):=⟨_,rfl⟩;have hji:(k:Int) - (((R.length - 1:Nat):Int) - ((D.length - 1:Nat):Int))=(j:Int):=by omega
       replace hj:=zH hj
       go_upto_region 15 with (fail)
       have hlenT:((rG D R k).set k A).length=R.length-1:=by simpa using hlen
       have hjD:j<D.length:=by omega
       rw [<- hj.out] at mo2a so;obtain⟨vj,hvj,hPj,hcj⟩:=hcD3.get (i:=j) hjD;obtain⟨W3,hW3⟩:∃ W3,W3=W2.setCell ⟨g,k,none⟩ (.slice a56 A.length c56):=⟨_,rfl⟩;rw [<- hW3] at hc3 hcD3 hpt3 hbr3 h563 hPj hcj ⊢;have hkT3:k<((rG D R k).set k A).length:=by omega
       have hck3:W3.cell? ⟨g,k,none⟩=some (.slice a56 A.length c56):=hc3.b.at1 k _ (by rw [List.getElem?_set,if_pos rfl,if_pos (by have:=hc3.l;simp at this;omega)]);have hgl3:g<W3.heap.size:=hc3.b.lt;have hgdl3:gd<W3.heap.size:=hcD3.b.lt;have e1:∀ W,Below W3.heap.size W3 W->W.cell? ⟨g,k,none⟩=some (.slice a56 A.length c56):=fun W h=>by rw [h.cell hgl3];exact hck3
       have e2:∀ W,Below W3.heap.size W3 W->W.cell? ⟨gd,j,none⟩=some vj:=fun W h=>by rw [h.cell hgdl3];exact hcj
       generalize hvv:Value.slice a56 A.length c56=vv at *;clear hW3 hl3 z hf hck3 hcj hki hvv;rw [if_pos hge,<- hj.out] at hsucc;refine aF mixed (none) (0) (gp.none) [.eq (.slice (some ⟨g,0,none⟩) (R.length-1) R0.length),.eq (.int .i64 k),.eq (.slice (some ⟨g,0,none⟩) (R.length-1) R0.length),.eq (.int .i64 k),.eq (.pointer (some ⟨g,0+k*1,none⟩)),.eq (vv),.eq (vt),.eq (.slice (some ⟨gd,0,none⟩) D.length D.length),.eq (.int .i64 j),.eq (.pointer (some ⟨gd,0+j*1,none⟩)),.eq (vj),.poly (by decide) (by decide) ((aQ (R.getD (R.length-1) []) (D.getD j []))),.poly (by decide) (by decide) ((dK A (aQ (R.getD (R.length-1) []) (D.getD j [])))),.eq (.pointer (some ⟨g,0+k*1,none⟩))] [66,67,68,69,70,71,72,73,74,75,76,77,78,79] rfl rfl rfl rfl ⟨?_,?_,?_,?_,?_,?_,?_,?_,?_,?_,?_,?_,?_,?_,trivial⟩ ?_
       ·exact fun _ _ a _ _ _=>xM rfl (a 10 rfl)
       ·exact fun _ _ a _ _ _=>xM rfl (a 12 rfl)
       ·exact fun _ _ a _ _ _=>xM rfl (a 10 rfl)
       ·exact fun _ _ a _ _ _=>xM rfl (a 12 rfl)
       ·exact fun _ _ _ _ _ e=>pI rfl Tryz.underlying75 g 0 k (hkl) (e.1 rfl) (e.2.1 rfl)
       ·intro A w1 hA hL hS he;have h70:=eT 70 (he.1 rfl);refine ae rfl ?_;have c0:=e1 w1 hL.below;exact aC rfl rfl gZ
       ·exact fun _ _ a _ _ _=>xM rfl (a 11 rfl)
       ·exact fun _ _ a _ _ _=>xM rfl (a 8 rfl)
       ·exact fun _ _ a _ _ _=>xM rfl (a 13 rfl)
       ·exact fun _ _ _ _ _ e=>pI rfl Tryz.underlying75 gd 0 j (hjD) (e.1 rfl) (e.2.1 rfl)
       ·intro A w1 hA hL hS he;have h75:=eT 75 (he.1 rfl);refine ae rfl ?_;have c0:=e2 w1 hL.below;exact aC rfl rfl gZ
       ·intro A w1 hA hL hS he;have hb:=hS rfl;have h72:=eT 72 (he.1 rfl);have h76:=eT 76 (he.2.1 rfl);have hf0:=eF A 54;exact cP (f:=54) (args:=#[vt,vj]) (xU _ _ _ _ _ (hpt3.on hb) (hPj.on hb) mo2a.kp mo2a.kq mo2a.ko mo2a.kl.1 mo2a.kl.2)
       ·intro A w1 hA hL hS he;have hb:=hS rfl;have h71:=eT 71 (he.1 rfl);obtain⟨v77,h77,f77⟩:=fT 77 (he.2.1 rfl);have hf0:=eF A 74;exact cP (f:=74) (args:=#[vv,v77]) (Fu _ _ _ _ _ (h563.on hb) f77 so.kp so.kq so.kl.1 so.kl.2 so.kv.1 so.kv.2)
       ·exact fun _ _ _ _ _ e=>pI rfl Tryz.underlying75 g 0 k (hkl) (e.1 rfl) (e.2.1 rfl)
       ·intro W5 hL5;have hb5:=hL5.below;simp only [aU,af.eq,af.poly,af.of,lZ];rintro v77 - v78 h78;generalize dK A (aQ (R.getD (R.length - 1) []) (D.getD j []))=A2 at h78 hsucc;go_frame;have hc5:=hc3.on hb5;have hcD5:=hcD3.on hb5;have hpt5:=hpt3.on hb5;have hbr5:=hbr3.trans (hb5.mono hbr3.size);obtain⟨vq,hvq,-,z5⟩:=hc5.get (i:=k) hkT3;have hf5:=hc5.b.frozen k;obtain⟨hc6,hl6⟩:=hc5.set hkT3 h78;have hcD6:=hcD5.other hl6 (by omega);have hpt6:=hpt5.lr hl6 (bu (by decide)) (by decide);have hbr6:=hbr5.trans (hl6.belowAt hbr5.size (fun k hk=>by cases hk;exact hgw));obtain⟨a78,c78,hs78,-⟩:=h78.shape;subst hs78;rw [show ((rG D R k).set k A).set k A2=rG D R (k+1) by rw [hsucc.out];simp] at hc6;clear hc3 hcD3 hpt3 hbr3 h563 hPj e1 e2 hL5 hc5 hcD5 hpt5 hbr5 hvq h78;go_wp2;go_roundw
        case rel=>exact⟨k+1,_,by omega,by go_num,zH hc6,by simpa using hvl,zH hpt6,zH hcD6,hbr6⟩
        case measure=>simp [intOf];omega
      ·have hki:¬ (0:Int)<=(k:Int)-(((R.length-1:Nat):Int)-((D.length-1:Nat):Int)):=by omega
       rw [if_neg hge] at hsucc;go_wp2;go_roundw
       case rel=>exact⟨k+1,_,by omega,by go_num,zH (by rw [hsucc.out];exact hc3),by simpa using hvl,zH hpt3,zH hcD3,hbr3⟩
       case measure=>simp [intOf];omega
    ·obtain rfl:k=R.length - 1:=by omega
     rw [NQ] at hc;have hsl:=gP D R;go_wp2;go_roundg f'
     case measure=>omega
     case rel=>exact⟨fE D R,vs,by rw [hsl],hc,hvl,hrun',hpa,by omega,by omega,hcD,hbr⟩
  ·have hfin:RES=R:=by
    have:=hrun.out
    cases gk with
    | zero=>exact this.symm
    | succ f=>rw [fO,if_neg hlt] at this;exact this.symm
   have hlt':¬ ((D.length-1:Nat):Int)<(R.length:Int):=by omega
   have hPs:=hc.out.polys;rw [hvl] at hPs;have hfr:=fun W (hb:Below wr.heap.size wr W)=>PP _ R v W (hPs.on hb) hv (by rw [<- hfin];exact hok.out) (by omega) (by rw [<- hfin];exact hl2.out);replace hfin:=zH hfin;clear hrun hps hc hcD hok hl2
   go_wp2_with (go_at_call 120;refine (hfr _ (Below.refl _ _)).mono ?_;rintro en w5 ⟨v5,rfl,hv5,hb5⟩)
   go_ret2;exact⟨_,rfl,by rw [hfin.out];exact hv5,hbr.trans (hb5.mono hbr.size)⟩
end Go.Proofs.YtopclbeomcggiaaGreat
end
section
namespace Go.Proofs.YtopclbeomcggiaaGreat
open Go.RowKit Q
def Xr (w:World) (t:ai) (e:Ending) (w':World):Prop:=∃ cs,e=.returned (.agg cs.toArray)/\qf w' cs t/\Below w.heap.size w w'
end Go.Proofs.YtopclbeomcggiaaGreat
end
section
namespace Q
open Go Go.RowKit Go.Proofs.YtopclbeomcggiaaGreat
def af.term {g:Option Nat} {T:TypeId} (hT:uT≠T) (t:ai):af (Lr g T):=af.of (fun v w=>∃ cs:List Value,v=.agg cs.toArray/\qf w cs t) (fun _ _ _ hb=>fun⟨cs,e,h⟩=>⟨cs,e,aO.lr h hb hT⟩)
end Q
namespace Go.Proofs.YtopclbeomcggiaaGreat
open Go.RowKit Q
end Go.Proofs.YtopclbeomcggiaaGreat
end
section
namespace Q
theorem Bl {α β:Type} {l:List α} {k:Nat} {t:α} (f:α->β) (h:l[k]?=some t):(l.take (k+1)).map f=(l.take k).map f++[f t]:=by
 rw [List.take_add_one,h];simp
end Q
namespace Go.Proofs.YtopclbeomcggiaaGreat
open Go.RowKit Q
theorem iO {w:World} {ap:Option Addr} {cp:Nat} {p:List ai} {i:Nat} {s:ai} (hp:ak w (.slice ap p.length cp) p) (h:p[i]?=some s) :
  ∃ b o r,ap=some ⟨b,o,none⟩/\gM w r s.2/\bO aN w b (o+i*8) (bR s.1++r):=by
 obtain⟨b,o,cs,rfl,-,hE,hC⟩:=hp.get h;obtain⟨r,rfl,hr⟩:=hE;exact⟨b,o,r,rfl,hr,hC⟩
end Go.Proofs.YtopclbeomcggiaaGreat
end
section
namespace Q
def NS (l:List ai) (i:Nat):Bool:=match l[i]? with
 | none=>true
 | some t=>t.1.nat && decide (t.2≠0) && (match i with|0=>true|j+1=>match l[j]? with|none=>true|some s=>s.1.gt t.1)
def JU (l:List ai):Bool:=(List.range l.length).all (NS l)
theorem P5 {l:List ai}:JU l=true↔∀ i,i<l.length->NS l i=true:=by
 unfold JU;rw [List.all_eq_true];simp only [List.mem_range]
theorem sZ {l:List ai}:JU l=true↔aV l:=by
 rw [P5];constructor
 ·intro h;refine⟨List.pairwise_iff_getElem.2 fun i j hi hj hij=>?_,fun t ht=>?_⟩
  ·obtain⟨d,rfl⟩:∃ d,j=i+1+d:=⟨j - (i+1),by omega⟩;clear hij
   induction d with
   | zero =>
    have:=h (i+1) (by omega);simp only [NS,List.getElem?_eq_getElem (show i+1<l.length by omega),List.getElem?_eq_getElem hi,Bool.and_eq_true] at this;exact this.2
   | succ d ih =>
    have h1:=ih (by omega);have:=h (i+1+d+1) (by omega);simp only [NS,List.getElem?_eq_getElem (show i+1+d+1<l.length by omega),List.getElem?_eq_getElem (show i+1+d<l.length by omega),Bool.and_eq_true] at this;exact Ex.gt_trans h1 this.2
  ·obtain⟨i,hi⟩:=List.mem_iff_getElem?.1 ht;have hil:=(List.getElem?_eq_some_iff.1 hi).1;have:=h i hil;simp only [NS,hi,Bool.and_eq_true,decide_eq_true_eq] at this;exact⟨this.1.2,this.1.1⟩
 ·intro hv i hi;have hm:=hv.2 l[i] (List.getElem_mem hi);simp only [NS,List.getElem?_eq_getElem hi,Bool.and_eq_true,decide_eq_true_eq];refine⟨⟨hm.2,hm.1⟩,?_⟩
  cases i with
  | zero=>rfl
  | succ j =>
   simp only [List.getElem?_eq_getElem (show j<l.length by omega)];exact List.pairwise_iff_getElem.1 hv.1 j (j+1) (by omega) hi (by omega)
end Q
namespace Go.Proofs.YtopclbeomcggiaaGreat
open Go.RowKit Q Go.WideMaps Go.Maps
end Go.Proofs.YtopclbeomcggiaaGreat
end
