/- The reference's polynomials: Mul, Scale, Sub, in terms of sizes. -/
import Derived.Test.YtopclbeomcggiaaGreatW27
import Derived.Test.YtopclbeomcggiaaGreatW28
set_option linter.unusedVariables false
set_option linter.unusedSimpArgs false
set_option maxHeartbeats 16000000
set_option maxRecDepth 100000
section
namespace Q
theorem wK {p:List ai} {m:ai} (h:m.2≠0):kK p m=prods p [m]:=by
 rw [kK,if_neg h]
 induction p with
 | nil=>rfl
 | cons s p ih=>rw [List.map_cons,ih];rfl
theorem N8 (x:Pt) (t:ai):ev x [t]=t.2*kP x t.1:=by rw [jY,di];grind
theorem Qt {p q:List ai} {k:Nat} {t:ai} (hp:aV p) (hq:aV q) (h:q[k]?=some t):dD (aQ p (q.take k)) (kK p t)=aQ p (q.take (k+1)):=by
 have ht:t.1.nat=true:=(hq.2 t (List.mem_of_getElem? h)).2;have h1:=(hq.sublist (List.take_sublist k q)).nat;have h2:=(hq.sublist (List.take_sublist (k+1) q)).nat;rw [xN (aV.mul _ _) (hp.times ht)];refine kH (aV.add _ _) (aV.mul _ _) fun x=>?_;rw [ev_add x (aV.mul _ _).nat (hp.times ht).nat,ev_mul x hp.nat h1,Qm x hp.nat ht,ev_mul x hp.nat h2,List.take_add_one,h];simp only [Option.toList_some];rw [nW,N8,Rat.mul_add]
theorem Qu (e:Ex):e.add e0=e:=by simp [Ex.add,e0]
theorem wL (p:List ai) (c:Rat):kK p (e0,c)=bY p c:=by
 unfold kK bY;split
 ·rfl
 ·refine List.map_congr_left fun t _=>?_;simp only [mulT,Qu]
namespace Pk
variable {s t:Sz} {p q:List ai}
theorem times (h:Pk s p) (h':Pk t q) (k:(s.mul t).ok) {u:ai} (hu:u∈q):Bd (s.mul t) (kK p u)/\∀ a∈p,Go.Proofs.YtopclbeomcggiaaGreat.InR (a.1.add u.1):=by
 have hz:u.2≠0:=(h'.v.2 u hu).1;have hb:Bd t [u]:=h'.b.sub (List.singleton_sublist.2 hu);have hp:=h.b.prods hb;refine⟨by rw [wK hz];exact hp,fun a ha=>?_⟩;exact hp.inR k (mulT a u) (List.mem_flatMap.2 ⟨a,ha,by simp⟩)
theorem take (h:Pk s p) (k:Nat):Pk s (p.take k):=⟨h.v.sublist (List.take_sublist _ _),h.b.take k,h.k⟩
theorem scale (h:Pk s p) {c:Rat} (hb:Bd ⟨1,1,0,1⟩ [(e0,c)]) (k:(s.mul ⟨1,1,0,1⟩).ok):Pk (s.mul ⟨1,1,0,1⟩) (bY p c):=by
 refine⟨h.v.scale c,?_,k⟩;rw [<- wL];by_cases hc:c=0
 ·rw [kK,if_pos hc];exact Bd.nil _
 ·rw [wK hc];exact h.b.prods hb
end Pk
end Q
namespace Go.Proofs.YtopclbeomcggiaaGreat
open Go.RowKit Q Go.WideMaps Go.Maps
theorem Ui {s t:Sz} {vp vq:Value} {p q:List ai} {w:World} (hP:Pk s p) (hQ:Pk t q) (kk:(s.mul t).ok) (hp:ak w vp p) (hq:ak w vq q):Calls Tryz.prog 12 #[vp,vq] w (aX w (aQ p q)):=by
 obtain⟨ap,cp,rfl,hcp⟩:=hp.shape;obtain⟨aq,cq,rfl,hcq⟩:=hq.shape;have hlen:=hQ.len;have hmk:=zH (fun k=>hP.mul (hQ.take k) kk);have hti:=zH (fun u (hu:u∈q)=>hP.times hQ kk hu);have hsn:=zH (fun k t (h:q[k]?=some t)=>Qt hP.v hQ.v h)
 go_enter Tryz.func12,Tryz.ntmps12
 go_wp2;have hb0:Below w.heap.size w (w.alloc (.cells #[] aN)):=(Below.refl _ _).alloc (Nat.le_refl _) _;have hst:ak (w.alloc (.cells #[] aN)) (.slice (some ⟨w.heap.size,0,none⟩) 0 0) []:=(fV aO w).isSl;change Below w.heap.size w (w.alloc (.cells #[] 43)) at hb0;change ak (w.alloc (.cells #[] 43)) _ _ at hst;replace hp:=zH hp;replace hq:=zH hq
 go_loopw [5,6] (fun o i wr=>∃ k:Nat,k<=q.length/\i=.int .i64 k/\Hid (ak wr o (aQ p (q.take k)))/\Below w.heap.size w wr) (fun _ i _=>q.length-(intOf i).toNat)
 case atStart=>exact⟨0,by omega,rfl,zH (by rw [List.take_zero,sI];exact hst),hb0⟩
 case round =>
  clear hst hb0;obtain⟨k,hk,rfl,hO,hbr⟩:=hrel;by_cases hkl:k<q.length
  ·have hjq:q[k]?=some q[k]:=List.getElem?_eq_getElem hkl;generalize q[k]=t at hjq;obtain⟨bq,oq,rt,rfl,hrt,hC⟩:=iO (hq.out.on hbr) hjq;have hkl':(k:Int)<q.length:=by omega
   have hr:=hC.range;have h8:(bR t.1++rt).length=8:=by rw [List.length_append,hrt.len];rfl
   have hmem:=List.mem_of_getElem? hjq;have htm:=BK _ p _ t wr (hp.out.on hbr) ⟨rt,rfl,hrt⟩ hP.rs (hQ.rs t hmem) (hti.out t hmem).2 hP.len;have had:=fun W u (hb:Below wr.heap.size wr W) (hu:ak W u (kK p t))=>Iy u5 u _ _ W (hO.out.on hb) hu (hmk.out k).rs ((hti.out t hmem).1.rs kk) (hmk.out k).len ((hti.out t hmem).1.len kk);rw [hsn.out k t hjq] at had;clear hC hmem hrt;replace htm:=zH htm;replace had:=zH had
   go_wp2_with (first
    | (refine aj rfl _ _ 27 rfl aN Tryz.underlying27 _ 8 96 (by kernel_rfl) _ _ _ rfl .i64 _ rfl k rfl hkl bq oq rfl ?_)
    | (refine wpList_load_mid rfl 43 _ rfl _ _ rfl _ _ hr Tryz.underlying43 rfl (by rw [h8];kernel_rfl) ?_)
    | (go_at_call 44;refine htm.out.mono ?_;rintro en w3 ⟨v3,rfl,hv3,hb3⟩)
    | (go_at_call 39;refine (had.out _ _ hb3 hv3).mono ?_;rintro en w4 ⟨v4,rfl,hv4,hb4⟩))
   have hb34:=hb3.trans (hb4.mono hb3.size);go_roundw
   case rel=>exact⟨k+1,by omega,by go_num,zH hv4,hbr.trans (hb34.mono hbr.size)⟩
   case measure=>simp [intOf];omega
  ·obtain rfl:k=q.length:=by omega
   rw [List.take_of_length_le (Nat.le_refl _)] at hO;go_wp2;go_ret;exact⟨_,rfl,hO.out,hbr⟩
theorem Kh (vp vc:Value) (p:List ai) (c:Rat) (w:World) (hp:ak w vp p) (hc:bV w vc c) (rp:∀ t∈p,Rs t.2) (rc:Rs c) (hin:∀ t∈p,InR t.1) (lp:p.length<=100000000) :
  Calls Tryz.prog 42 #[vp,vc] w (aX w (bY p c)):=by
 obtain⟨n5,a5,k5,c5,n6,a6,k6,c6,rfl⟩:=fQ hc;have htm:=zH (fun W (hb:Below w.heap.size w W)=>BK vp p (bR e0++[.bool n5,.slice a5 k5 c5,.bool n6,.slice a6 k6 c6]) (e0,c) W (hp.on hb) ⟨_,rfl,(hc.on hb).cellsC⟩ rp rc (fun t ht=>by rw [Qu];exact hin t ht) lp);rw [wL] at htm;replace hp:=zH hp;replace hc:=zH hc;clear rp rc hin
 go_enter Tryz.func42,Tryz.ntmps42
 go_upto_region 1 with (fail)
 refine jI fun W hb0 B hsz=>?_;have y1:=B.at1 0 _ rfl;have y2:=B.at1 1 _ rfl;have y3:=B.at1 2 _ rfl;have y4:=B.at1 3 _ rfl
 go_wp2_with (go_at_call 44;refine (htm.out _ hb0).mono ?_;rintro en w3 ⟨v3,rfl,hv3,hb3⟩)
 go_ret;exact⟨_,rfl,hv3,hb0.trans (hb3.mono hb0.size)⟩
theorem Ve:Rs (-1:Rat):=Bh (s:=⟨1,1,0,1⟩) (by decide +kernel) (Dv.int 1 (-1)) (show bH (((-1:Int)):Rat)<=((1:Nat):Rat) by rw [rabs_int];exact Rat.natCast_le_natCast.2 (by decide))
theorem Vf:Bd ⟨1,1,0,1⟩ [(e0,(-1:Rat))]:=UV (by decide +kernel)
theorem Qv {s:Sz} {vp vc:Value} {p:List ai} {c:Rat} {w:World} (hP:Pk s p) (rc:Rs c) (hp:ak w vp p) (hc:bV w vc c):Calls Tryz.prog 42 #[vp,vc] w (aX w (bY p c)) :=
 Kh vp vc p c w hp hc hP.rs rc (fun t ht=>(hP.ir t ht).1) hP.len
theorem Mg {s t:Sz} {v u:Value} {p q:List ai} {w:World} (hP:Pk s p) (hQ:Pk t q) (hp:ak w v p) (hq:ak w u q):Calls Tryz.prog 39 #[v,u] w (aX w (lN p q)) :=
 xN hP.v hQ.v ▸ Iy v u p q w hp hq hP.rs hQ.rs hP.len hQ.len
theorem Qw {s t:Sz} {vp vq:Value} {p q:List ai} {w:World} (hP:Pk s p) (hQ:Pk t q) (k:(t.mul ⟨1,1,0,1⟩).ok) (hp:ak w vp p) (hq:ak w vq q):Calls Tryz.prog 35 #[vp,vq] w (aX w (dK p q)):=by
 have hs:=zH (fun W u (hb:Below w.heap.size w W) (hu:bV W u (((-1:Int)):Rat))=>Qv (w:=W) (vc:=u) (c:=-1) hQ Ve (hq.on hb) hu);have ha:=zH (fun W u (hb:Below w.heap.size w W) (hu:ak W u (bY q (-1)))=>Mg (w:=W) (u:=u) hP (hQ.scale Vf k) (hp.on hb) hu);replace hp:=zH hp;replace hq:=zH hq
 go_enter Tryz.func35,Tryz.ntmps35
 go_wp2_with (first
  | (go_at_call 24;refine (jh (-1) _ (by omega) (by omega)).mono ?_;rintro en w3 ⟨v3,rfl,hv3,hb3⟩)
  | (go_at_call 42;refine (hs.out _ _ hb3 hv3).mono ?_;rintro en w4 ⟨v4,rfl,hv4,hb4⟩)
  | (go_at_call 39;refine (ha.out _ _ (hb3.trans (hb4.mono hb3.size)) hv4).mono ?_;rintro en w5 ⟨v5,rfl,hv5,hb5⟩))
 have hb34:=hb3.trans (hb4.mono hb3.size);go_ret;exact⟨_,rfl,hv5,hb34.trans (hb5.mono hb34.size)⟩
end Go.Proofs.YtopclbeomcggiaaGreat
end
section
namespace Q
open Go Go.Proofs.YtopclbeomcggiaaGreat
def Yu (s:Sz) (n:Nat):Sz:=⟨s.D ^ n,s.B ^ n,s.E*n,s.N ^ n⟩
namespace Pk
variable {s t:Sz} {p q:List ai}
end Pk
end Q
namespace Go.Proofs.YtopclbeomcggiaaGreat
open Go.RowKit Q
end Go.Proofs.YtopclbeomcggiaaGreat
end
section
namespace Q
open Go Go.RowKit Go.Proofs.YtopclbeomcggiaaGreat
theorem IA {s:Sz} {p:List ai} (h:Bd s p) (v:Nat) (n:Int):Bd s (aD p v n):=by
 have h':Bd s (p.filter fun t=>t.1.get v=n):=h.sub List.filter_sublist;refine⟨by unfold aD;rw [List.length_map];exact h'.n,fun t ht=>?_,fun t ht=>?_,?_⟩
 ·obtain⟨u,hu,rfl⟩:=List.mem_map.1 ht;have:=h'.e u hu;rcases v with _|_|_|v <;> simp only [Ex.put] <;> omega
 ·obtain⟨u,hu,rfl⟩:=List.mem_map.1 ht;exact h'.d u hu
 ·have:bD (aD p v n)=bD (p.filter fun t=>t.1.get v=n):=by
   unfold aD;generalize p.filter _=l
   induction l with
   | nil=>rfl
   | cons u l ih=>simp only [List.map_cons,bD,ih]
  rw [this];exact h'.b
end Q
namespace Go.Proofs.YtopclbeomcggiaaGreat
open Go.RowKit Q
variable {w:World} {v u x:Value} {p q r:List ai}
theorem qG {al:Option Addr} {n cl j:Nat} {L:List (List ai)} {c:List ai} (h:fG w (.slice al n cl) L) (hj:L[j]?=some c):∃ b off v,al=some ⟨b,off,none⟩/\ak w v c/\bO polyT w b (off+j*1) [v]:=by
 obtain⟨b,off,cs,e,-,⟨v,rfl,hv⟩,hC⟩:=h.get hj;exact⟨b,off,v,e,hv,hC⟩
theorem Qx {s:Sz} {vp:Value} {v:Nat} (hP:Pk s p) (hv:v<4) (hp:ak w vp p):Calls Tryz.prog 27 #[vp,.int .i64 v] w (rO w (.int .i64 (aG p v))):=Iz vp p v w hp hv hP.len
end Go.Proofs.YtopclbeomcggiaaGreat
end
section
namespace Q
open Go Go.Proofs.YtopclbeomcggiaaGreat
def ve:List ai->Nat
 | []=>1
 | t::l=>Nat.lcm t.2.den (ve l)
theorem oK:∀ l,0<ve l
 | []=>Nat.one_pos
 | t::l=>Nat.lcm_pos t.2.den_pos (oK l)
theorem IB {l:List ai} {t:ai} (h:t∈l):t.2.den∣ve l:=by
 induction l with
 | nil=>cases h
 | cons s l ih =>
  rcases List.mem_cons.1 h with rfl|h
  ·exact Nat.dvd_lcm_left _ _
  ·exact Nat.dvd_trans (ih h) (Nat.dvd_lcm_right _ _)
theorem FN (c:Rat):Dv c.den c:=by
 refine⟨c.num,?_⟩;have h1:(c.den:Rat)≠0:=fun h=>c.den_nz (by rw [<- Rat.intCast_natCast] at h;have:=Rat.intCast_inj.1 (h.trans Rat.intCast_zero.symm);omega);have h2:=Rat.num_divInt_den c;rw [Rat.divInt_eq_div,Rat.intCast_natCast] at h2;have h3:(c.num:Rat) / (c.den:Rat)*(c.den:Rat)=c.num:=Rat.div_mul_cancel h1;rwa [h2] at h3
def LB:Nat:=17179869184
theorem D9:LB=17179869184:=rfl
def VQ (D B:Nat):Sz:=⟨D,B,100000,10000⟩
def N9 (l:List ai):Nat:=(bD l).num.natAbs
def RO (l:List ai):Bool :=
 decide (l.length<=10000) && l.all (fun t=>decide (-100000<=t.1.1) && decide (t.1.1<=100000) && decide (-100000<=t.1.2.1) && decide (t.1.2.1<=100000) && decide (-100000<=t.1.2.2.1) && decide (t.1.2.2.1<=100000) && decide (-100000<=t.1.2.2.2) && decide (t.1.2.2.2<=100000)) && decide (aI (ve l)<=LB) && decide (aI (N9 l)<=LB)
theorem Vg {c:Rat} (h:0<=c):c<=(c.num.natAbs:Rat):=by
 obtain⟨k,hk⟩:=FN c
 have h1:c*(c.den:Rat)=((c.num:Int):Rat):=by
  have h1:(c.den:Rat)≠0:=fun h=>c.den_nz (by rw [<- Rat.intCast_natCast] at h;have:=Rat.intCast_inj.1 (h.trans Rat.intCast_zero.symm);omega);have h2:=Rat.num_divInt_den c;rw [Rat.divInt_eq_div,Rat.intCast_natCast] at h2;have h3:(c.num:Rat) / (c.den:Rat)*(c.den:Rat)=c.num:=Rat.div_mul_cancel h1;rwa [h2] at h3
 have h2:((c.num.natAbs:Nat):Rat)=((c.num:Int):Rat):=by
  have h0:=Rat.num_nonneg.2 h;rw [<- Rat.intCast_natCast];congr 1;omega
 rw [h2,<- h1]
 have h3:(1:Rat)<=(c.den:Rat):=by
  have e:(1:Rat)=((1:Nat):Rat):=rfl;rw [e];exact Rat.natCast_le_natCast.2 c.den_pos
 have h4:=Rat.mul_le_mul_of_nonneg_left h3 h;rwa [Rat.mul_one] at h4
theorem Qy {l:List ai} (h:RO l=true):Bd (VQ (ve l) (N9 l)) l/\aI (ve l)<=LB/\aI (N9 l)<=LB:=by
 simp only [RO,Bool.and_eq_true,decide_eq_true_eq,List.all_eq_true] at h;obtain⟨⟨⟨h1,h2⟩,h3⟩,h4⟩:=h;refine⟨⟨h1,fun t ht=>?_,fun t ht=>?_,Vg (jP l)⟩,h3,h4⟩
 ·obtain⟨⟨⟨⟨⟨⟨⟨a1,a2⟩,a3⟩,a4⟩,a5⟩,a6⟩,a7⟩,a8⟩:=h2 t ht;exact⟨a1,a2,a3,a4,a5,a6,a7,a8⟩
 ·exact (FN t.2).dvd (IB ht)
def zw (l:List ai):Bool:=JU l && RO l
structure Wk (s:Sz) (p:List ai):Prop where
 v:aV p
 b:Bd s p
 k:s.okw
def Wp (p:List ai):Prop:=∃ D B,0<D/\aI D<=LB/\aI B<=LB/\Wk (VQ D B) p
theorem Ki {D B:Nat} (h:0<D) (h':aI D<=LB) (h2:aI B<=LB):(VQ D B).okw :=
 ⟨h,by show aI D<=_;rw [D9] at h';unfold iT;omega,by show aI B<=_;rw [D9] at h2;unfold iT;omega,by show 100000<1000000;omega,by show 10000<=100000000;omega⟩
theorem Mh {D D' B B':Nat} (h:0<D) (h':aI D<=LB) (k:0<D') (k':aI D'<=LB) (hb:aI B<=LB) (kb:aI B'<=LB):((VQ D B).mul (VQ D' B')).okw:=by
 have e1:=jV D D';have e2:=jV B B';rw [D9] at *;refine⟨Nat.mul_pos h k,?_,?_,by show 100000+100000<1000000;omega,by show 10000*10000<=100000000;omega⟩
 ·show aI (D*D')<=_;unfold iT;omega
 ·show aI (B*B')<=_;unfold iT;omega
theorem jS {l:List ai} (h:zw l=true):Wp l:=by
 rw [zw,Bool.and_eq_true] at h;obtain⟨h1,h2,h3⟩:=Qy h.2;exact⟨ve l,N9 l,oK l,h2,h3,sZ.1 h.1,h1,Ki (oK l) h2 h3⟩
theorem Te {l:List ai} (h:RO l=true):SC l:=by
 obtain⟨h1,h2,h3⟩:=Qy h;exact h1.oklw (Ki (oK l) h2 h3)
theorem FO:aI 1<=LB:=by rw [D9];decide
theorem Wp.nil:Wp []:=⟨1,1,by omega,FO,FO,aV.nil,Bd.nil _,Ki (by omega) FO FO⟩
theorem Wp.val {p:List ai} (h:Wp p):aV p:=by obtain⟨_,_,_,_,_,h⟩:=h;exact h.v
theorem Wp.rk {p:List ai} (h:Wp p):∀ t∈p,Rk t.2:=by obtain⟨_,_,_,_,_,h⟩:=h;exact h.b.rkw h.k
theorem Wp.ir {p:List ai} (h:Wp p):∀ t∈p,InR t.1/\Rk t.2:=by obtain⟨_,_,_,_,_,h⟩:=h;exact fun t ht=>⟨h.b.inRw h.k t ht,h.b.rkw h.k t ht⟩
theorem Wp.len {p:List ai} (h:Wp p):p.length<=10000:=by obtain⟨_,_,_,_,_,h⟩:=h;exact h.b.n
theorem Wp.deg {p:List ai} (h:Wp p) (v:Nat):-1<=aG p v/\aG p v<=100000:=by
 obtain⟨_,_,_,_,_,h⟩:=h;refine⟨ug p v,?_⟩;rcases (gW (fun t=>t.1.get v) p (-1)).2.2 with h1|⟨t,ht,h1⟩
 ·show p.foldl _ _<=_;rw [h1];omega
 ·show p.foldl _ _<=_;rw [<- h1];have:=h.b.e t ht;simp only [VQ] at this;rcases v with _|_|_|v <;> simp only [Ex.get] <;> omega
theorem Wp.exps {p:List ai} (h:Wp p) {t:ai} (ht:t∈p) (v:Nat):0<=t.1.get v/\t.1.get v<=100000 :=
 ⟨Ex.nat_get (h.val.nat t ht) v,Int.le_trans (dU ht v) (h.deg v).2⟩
theorem Wp.mulOk {p q:List ai} (h:Wp p) (h':Wp q):PZ p q:=by
 have i1:=h.ir;have i2:=h'.ir;have l1:=h.len;have l2:=h'.len;obtain⟨D,B,d1,d2,d3,h⟩:=h;obtain⟨D',B',e1,e2,e3,h'⟩:=h';exact⟨i1,i2,(h.b.prods h'.b).oklw (Mh d1 d2 e1 e2 d3 e3),by omega,by omega⟩
theorem Wp.prod {p q:List ai} (h:Wp p) (h':Wp q):(∀ t∈aQ p q,Rk t.2)/\(aQ p q).length<=100000000:=by
 obtain⟨D,B,d1,d2,d3,h⟩:=h;obtain⟨D',B',e1,e2,e3,h'⟩:=h';have hb:=(h.b.prods h'.b).canon;have hk:=Mh d1 d2 e1 e2 d3 e3;exact⟨hb.rkw hk,Nat.le_trans hb.n hk.2.2.2.2⟩
theorem Wp.coeff {p:List ai} (h:Wp p) (v:Nat) (n:Int):Wp (aD p v n):=by
 obtain⟨D,B,d1,d2,d3,h⟩:=h;exact⟨D,B,d1,d2,d3,h.v.coeff v n,IA h.b v n,h.k⟩
theorem Wp.coeffs {p c:List ai} (h:Wp p) {v:Nat} (hc:c∈aB p v):Wp c:=by
 obtain⟨n,rfl⟩:=gF hc;exact h.coeff v n
def g1 (p:List ai):Option (List ai):=if zw p then some p else none
theorem jG {p q:List ai} (h:g1 p=some q):q=p/\Wp p:=by
 unfold g1 at h;split at h
 ·cases h;exact⟨rfl,jS (by assumption)⟩
 ·cases h
def qH (b:List ai) (g:ai):Nat->List ai->List ai->Option (Option (List ai))
 | 0,_,_=>none
 | _+1,[],out=>some (some out)
 | n+1,m::a,out =>
  if zw (m::a) then
   if (m.1.sub g.1).nat then
    if zw [ji m g] then qH b g n (dK (m::a) (aQ b [ji m g])) (out++[ji m g]) else none
   else some none
  else none
theorem Tf {m g:ai} (hm:∀ v,0<=m.1.get v/\m.1.get v<=100000) (hg:∀ v,0<=g.1.get v/\g.1.get v<=100000):InR (m.1.sub g.1):=by
 have a0:=hm 0;have a1:=hm 1;have a2:=hm 2;have a3:=hm 3;have b0:=hg 0;have b1:=hg 1;have b2:=hg 2;have b3:=hg 3;simp only [Ex.get] at *;exact InR.of (K:=100000) (by omega) (by simp only [Ex.sub];omega)
theorem Qz {b ts:List ai} {g:ai} (hb:Wp b) (hg:b=g::ts):∀ {n:Nat} {a out:List ai} {r:Option (List ai)},qH b g n a out=some r->out.length+n<=100000000->∃ k,xX b g k a out r:=by
 have hgm:g∈b:=by rw [hg];simp
 intro n
 induction n with
 | zero=>intro a out r h;simp [qH] at h
 | succ n ih =>
  intro a out r h hl
  cases a with
  | nil=>simp only [qH,Option.some.injEq] at h;subst h;exact⟨0,.done⟩
  | cons m a =>
   rw [qH] at h;split at h
   next h1 =>
    have hW:=jS h1;have hok:LW b g m a:=⟨Tf (fun v=>hW.exps (by simp) v) (fun v=>hb.exps hgm v),hW.rk m (by simp),hb.rk g hgm,(hb.val.2 g hgm).1⟩;split at h
    next h2 =>
     split at h
     next h3 =>
      have hq:=jS h3;obtain⟨k,hk⟩:=ih h (by simp;omega);exact⟨k+1,.step h2 hok ⟨hq.rk (ji m g) (by simp),⟨hb.ir,by have:=hb.len;omega⟩,(hb.mulOk hq).ko,⟨hW.rk,by have:=hW.len;omega,hW.val⟩,hb.prod hq⟩ (by omega) hk⟩
     next=>cases h
    next h2 =>
     simp only [Option.some.injEq] at h;subst h;exact⟨0,.fail (by simpa using h2) hok⟩
   next=>cases h
def fuel:Nat:=10000000
def wM (a b:List ai):Option (Option (List ai)):=match b with
 | []=>some none
 | g::_=>qH b g fuel a []
def eD (a b:List ai):Option (List ai):=match wM a b with
 | some r=>g1 (r.getD [])
 | none=>none
def Kj (D:List (List ai)):Nat->List (List ai)->Bool
 | 0,_=>true
 | f+1,R=>if D.length-1<R.length then R.all zw && Kj D f (fE D R) else true
theorem IC {D:List (List ai)} (hD:∀ c∈D,Wp c):∀ {f:Nat} {R:List (List ai)},Kj D f R=true->H9 D f R
 | 0,_,_=>trivial
 | f+1,R,h=>fun hlt=>by
  rw [Kj,if_pos hlt,Bool.and_eq_true,List.all_eq_true] at h
  have hR:∀ i,Wp (R.getD i []):=fun i=>by
   rcases Nat.lt_or_ge i R.length with hi|hi
   ·rw [List.getD_eq_getElem?_getD,List.getElem?_eq_getElem hi];exact jS (h.1 _ (List.getElem_mem hi))
   ·rw [List.getD_eq_getElem?_getD,List.getElem?_eq_none hi];exact Wp.nil
  have hD':∀ i,Wp (D.getD i []):=fun i=>by
   rcases Nat.lt_or_ge i D.length with hi|hi
   ·rw [List.getD_eq_getElem?_getD,List.getElem?_eq_getElem hi];exact hD _ (List.getElem_mem hi)
   ·rw [List.getD_eq_getElem?_getD,List.getElem?_eq_none hi];exact Wp.nil
  exact⟨fun i _=>⟨(hR _).mulOk (hD' _),fun _=>⟨(hR _).mulOk (hD' _),((hR _).prod (hD' _)).1,((hR _).prod (hD' _)).1,⟨((hR _).prod (hD' _)).2,((hR _).prod (hD' _)).2⟩,aV.mul _ _,aV.mul _ _⟩⟩,IC hD h.2⟩
def RP (a b:List ai) (v:Nat):Option (List ai) :=
 let D:=aB b v;let R:=aB a v;let r:=fO D R.length R
 if b≠[]/\Kj D R.length R=true/\RO (fromL v 0 r)=true/\r.all zw=true then g1 (sG r v) else none
def nP:List ai:=[(e0,1)]
def kS (a:List ai):Option (List ai):=match a with
 | []=>some []
 | t::_=>g1 (bY a (1 / t.2))
def kL (a:List ai):Bool:=match a with
 | [t]=>decide (t.1=e0)
 | _=>false
def rP (l:List (List ai)):Nat->Option Nat
 | 0=>none
 | v+1=>if l.any (fun a=>decide (0<aG a v)) then some v else rP l v
def QA (l:List (List ai)):Option Nat:=rP l 4
def vg (G:List ai->List ai->Option (List ai)):List ai->List (List ai)->Option (List ai)
 | acc,[]=>some acc
 | acc,a::l=>match G acc a with
  | none=>none
  | some g=>if kL g then some g else vg G g l
def mU (G:List ai->List ai->Option (List ai)) (a:List ai) (v:Nat):Option (List ai):=vg G [] (aB a v)
def lU (G:List ai->List ai->Option (List ai)) (a:List ai) (v:Nat):Option (List ai):=match a with
 | []=>some []
 | t::l=>match mU G (t::l) v with
  | none=>none
  | some c=>eD (t::l) c
def yc (m:ai) (v at_:Nat):Nat->Nat
 | 0=>fH m.2.num*lC (fH m.2.den) (pr-2) % pr
 | w+1=>if w=v then yc m v at_ w else yc m v at_ w*lC (at_+w) (m.1.get w).toNat % pr
def Oa (m:ai) (v at_:Nat):Nat:=yc m v at_ 4
def kT (v at_:Nat):List ai->List Nat->Option (List Nat)
 | [],out=>some out
 | m::l,out=>if fH m.2.den=0 then none else kT v at_ l (out.set (m.1.get v).toNat ((out.getD (m.1.get v).toNat 0+Oa m v at_) % pr))
def oU (a:List ai) (v at_:Nat):Option (List Nat):=kT v at_ a (List.replicate (aG a v+1).toNat 0)
def mV (o:Option (List Nat)):Bool:=match o with
 | none=>false
 | some l=>decide (l.getD (l.length-1) 0≠0)
def strip:List Nat->List Nat
 | []=>[]
 | x::l=>match strip l with
  | []=>if x=0 then [] else [x]
  | y::r=>x::y::r
def gT (b rest:List Nat) (f at_:Nat):Nat->List Nat
 | 0=>rest
 | i+1=>(gT b rest f at_ i).set (at_+i) (((gT b rest f at_ i).getD (at_+i) 0+(pr-b.getD i 0)*f) % pr)
def qI (b:List Nat) (inv:Nat):Nat->List Nat->Option (List Nat)
 | 0,_=>none
 | n+1,r=>if b.length<=r.length then qI b inv n (strip (gT b r (r.getD (r.length-1) 0*inv % pr) (r.length-b.length) b.length)) else some r
def lW:Nat->List Nat->List Nat->Option Nat
 | 0,_,_=>none
 | n+1,a,b=>if b=[] then some a.length else match qI b (lC (b.getD (b.length-1) 0) (pr-2)) fuel a with
  | none=>none
  | some r=>lW n b r
def qj (a b:List Nat):Option Nat:=if a.length<b.length then lW fuel b a else lW fuel a b
def kF (a b:List ai) (v:Nat):List Nat->Option Int
 | []=>some (min (aG a v) (aG b v))
 | k::l=>match oU a v (17+100*k),oU b v (17+100*k) with
  | some x,some y=>if mV (some x) && mV (some y) then (qj x y).map (fun n=>(n:Int)-1) else kF a b v l
  | _,_=>kF a b v l
def yf (a b:List ai) (v:Nat):Option Int:=kF a b v [0,1,2]
def qJ (G:List ai->List ai->Option (List ai)) (v:Nat):Nat->List ai->List ai->Option (List ai)
 | 0,_,_=>none
 | n+1,a,b=>match RP a b v with
  | none=>none
  | some []=>some b
  | some (t::r)=>if aG (t::r) v=0 then some nP else match lU G (t::r) v with
   | none=>none
   | some p=>match kS p with
    | none=>none
    | some q=>qJ G v n b q
def zx (G:List ai->List ai->Option (List ai)) (a b:List ai) (v:Nat):Option (List ai):=match yf a b v with
 | none=>none
 | some m=>if m=0 then some nP else match wM a b with
  | none=>none
  | some r=>if r.isSome && decide (m=aG b v) then some b else qJ G v fuel a b
def C9 (G:List ai->List ai->Option (List ai)) (a b:List ai) (v:Nat):Option (List ai):=if aG a v<aG b v then zx G b a v else zx G a b v
def eB {α β:Type} (a:Option α) (f:α->Option β):Option β:=match a with
 | none=>none
 | some x=>f x
def QB (G:List ai->List ai->Option (List ai)) (a b:List ai):Option (List ai) :=
 if a=[] then kS b else if b=[] then kS a else if kL a=true\/kL b=true then some nP else
 eB (QA [a,b]) fun v =>
  if aG b v=0 then eB (mU G a v) fun c=>G c b
  else if aG a v=0 then eB (mU G b v) fun c=>G a c
  else eB (mU G a v) fun x=>eB (mU G b v) fun y=>eB (G x y) fun g=>eB (eD a x) fun p=>eB (eD b y) fun q=>eB (C9 G p q v) fun s=>eB (g1 (aQ g s)) kS
def XO:Nat->List ai->List ai->Option (List ai)
 | 0,_,_=>none
 | n+1,a,b=>QB (XO n) a b
def BL (G:List ai->List ai->Option (List ai)) (v:Nat):Nat->Nat->List ai->List ai->List (List ai × Nat)->Option (List (List ai × Nat))
 | 0,_,_,_,_=>none
 | f+1,n,w,y,out=>if 0<aG w v then
   eB (g1 (dA w v)) fun d=>eB (g1 (dK y d)) fun z=>eB (G w z) fun g=>eB (eD w g) fun w'=>eB (eD z g) fun y' =>
    BL G v f (n+1) w' y' (if 0<aG g v then out++[(g,n)] else out)
  else some out
def Ws (G:List ai->List ai->Option (List ai)) (a:List ai) (v:Nat):Option (List (List ai × Nat)) :=
 eB (lU G a v) fun p=>if aG p v<1 then some [] else
  eB (g1 (dA p v)) fun d=>eB (G p d) fun g=>eB (eD p g) fun w=>eB (eD d g) fun y=>BL G v fuel 1 w y []
end Q
end
section
namespace Q
open Go Go.RowKit Go.Proofs.YtopclbeomcggiaaGreat
def Ea:El Nat where
 T:=CX
 sz:=1
 pos:=by decide
 E _ cs x:=cs=[.int .u64 (x:Int)]/\x<2147483647
 len:=by rintro w c t ⟨rfl,-⟩;rfl
 one:=by
  rintro w c t ⟨rfl,-⟩ v hv;simp only [List.mem_cons,List.not_mem_nil,or_false] at hv;subst hv;rfl
 on:=fun h _=>h
 ok _:=True
 lr:=fun h _ _=>h
 self:=trivial
def nc (l:List Nat):List Value:=l.map (fun x:Nat=>Value.int .u64 (x:Int))
def Eb (l:List Nat):Prop:=∀ x∈l,x<2147483647
theorem Kk (l:List Nat):(nc l).length=l.length:=by simp [nc]
theorem Eb.nil:Eb []:=fun _ h=>by cases h
theorem Eb.getD {l:List Nat} (h:Eb l) (i:Nat):l.getD i 0<2147483647:=by
 rcases Nat.lt_or_ge i l.length with hi|hi
 ·rw [List.getD_eq_getElem?_getD,List.getElem?_eq_getElem hi];exact h _ (List.getElem_mem hi)
 ·rw [List.getD_eq_getElem?_getD,List.getElem?_eq_none hi];decide
theorem Eb.set {l:List Nat} (h:Eb l) (i:Nat) {x:Nat} (hx:x<2147483647):Eb (l.set i x):=fun y hy=>by
 rcases List.mem_or_eq_of_mem_set hy with hy|rfl
 ·exact h y hy
 ·exact hx
theorem Eb.sub {l r:List Nat} (h:Eb l) (hr:∀ x∈r,x∈l):Eb r:=fun x hx=>h x (hr x hx)
theorem wN {w:World}:∀ {l:List Nat} {xs:List Value},dS Ea.E w xs l↔xs=nc l/\Eb l
 | [],xs=>by
  constructor
  ·intro h;exact⟨h,Eb.nil⟩
  ·rintro⟨h,-⟩;exact h
 | x::l,xs=>by
  constructor
  ·rintro⟨c,r,rfl,⟨rfl,h1⟩,h⟩;obtain⟨rfl,h3⟩:=wN.1 h
   exact⟨rfl,fun y hy=>by
    rcases List.mem_cons.1 hy with rfl|hy
    ·exact h1
    ·exact h3 y hy⟩
  ·rintro⟨rfl,h⟩;exact⟨_,_,rfl,⟨rfl,h x (by simp)⟩,wN.2 ⟨rfl,fun y hy=>h y (by simp [hy])⟩⟩
theorem yg {w:World} {v:Value} {l:List Nat}:bS Ea w v l↔∃ ao cap,v=.slice ao l.length cap/\l.length<=cap/\At CX w ao (nc l)/\Eb l:=by
 constructor
 ·rintro⟨ao,cap,xs,rfl,h1,h2,h3⟩;obtain⟨rfl,hl⟩:=wN.1 h3;exact⟨ao,cap,rfl,h1,h2,hl⟩
 ·rintro⟨ao,cap,rfl,h1,h2,h3⟩;exact⟨ao,cap,nc l,rfl,h1,h2,wN.2 ⟨rfl,h3⟩⟩
theorem Kl (l:List Nat) (j:Nat) (hj:j<l.length):(nc l)[j]?=some (Value.int .u64 ((l.getD j 0:Nat):Int)):=by
 rw [nc,List.getElem?_map,List.getElem?_eq_getElem hj,List.getD_eq_getElem?_getD,List.getElem?_eq_getElem hj];rfl
theorem _root_.Go.RowKit.Blk.nsl {w:World} {g:Nat} {l:List Nat} (h:Blk w g CX (nc l)) (hl:Eb l):bS Ea w (.slice (some ⟨g,0,none⟩) l.length l.length) l :=
 yg.2 ⟨_,_,rfl,Nat.le_refl _,h.at,hl⟩
theorem Blk.ncell {w:World} {g:Nat} {T:TypeId} {l:List Nat} (h:Blk w g T (nc l)) (j:Nat) (hj:j<l.length):w.cell? ⟨g,j,none⟩=some (.int .u64 ((l.getD j 0:Nat):Int)):=by
 rw [h.cell,Kl _ _ hj]
theorem bO.ncell {T:TypeId} {w:World} {b off:Nat} {l:List Nat} (h:bO T w b off (nc l)) (j:Nat) (hj:j<l.length):w.cell? ⟨b,off+j,none⟩=some (.int .u64 ((l.getD j 0:Nat):Int)):=by
 rw [h.cell j (by rw [Kk];exact hj),Kl _ _ hj]
theorem Blk.nset {w:World} {g:Nat} {T:TypeId} {l:List Nat} (h:Blk w g T (nc l)) (j x:Nat):Blk (w.setCell ⟨g,j,none⟩ (.int .u64 (x:Int))) g T (nc (l.set j x)):=by
 have:=h.set j (.int .u64 (x:Int));rwa [show nc (l.set j x)=(nc l).set j (.int .u64 (x:Int)) by rw [nc,List.map_set];rfl]
theorem IE (n:Nat):(List.replicate n (Value.int IntKind.u64 0).cells[0]!)=nc (List.replicate n 0):=by simp [nc,Value.cells]
theorem Km (x:Nat):x % pr<2147483647:=Nat.mod_lt _ (by decide)
theorem QC (n:Nat):Eb (List.replicate n 0):=fun x hx=>by rw [List.eq_of_mem_replicate hx];decide
end Q
namespace Go.Proofs.YtopclbeomcggiaaGreat
open Go.RowKit Q
theorem pO:(Tryz.prog.info? 97).map (fun i=>(i.zero,i.size,i.bytes))=some (some (.int .u64 0),1,8):=by kernel_rfl
end Go.Proofs.YtopclbeomcggiaaGreat
end
section
namespace Q
open Go Go.RowKit Go.Proofs.YtopclbeomcggiaaGreat
theorem Ec {v at_:Nat}:∀ {a:List ai} {out o:List Nat},kT v at_ a out=some o->o.length=out.length/\(Eb out->Eb o)
 | [],out,o,h=>by rw [kT,Option.some.injEq] at h;subst h;exact⟨rfl,fun h=>h⟩
 | m::a,out,o,h=>by
  rw [kT] at h;split at h
  ·cases h
  ·obtain⟨h1,h2⟩:=Ec h;exact⟨by rw [h1,List.length_set],fun hl=>h2 (hl.set _ (Km _))⟩
theorem jT {P:Program} {w:World} {ops:Array Oper} {rest:List Oper} {o:Oper} {a:Act} {R:Exit->Act->World->Prop} (hgd:o.guard=none) {t:TypeId} {x i:Operand} (ho:o.op=.index t x i) {v u r:Value} (hx:a.eval x=v) (hi:a.eval i=u)
  (hrun:(Instr.index t v u).run P w=.ok r w) (h:wpList P ops R rest (a.put o.dst r) w):wpList P ops R (o::rest) a w:=by
 refine wpList_plain hgd fun K hK=>?_;unfold Oper.wp
 have:(execOp a.eval o).run P w=.ok (.value r) w:=by
  unfold execOp;rw [ho];simp [hx,hi,hrun,Result.andThen]
 rw [this];exact hK _ _ h
end Q
namespace Go.Proofs.YtopclbeomcggiaaGreat
open Go.RowKit Q Go.WideMaps Go.Maps
theorem Wt (a b c d:Int) (w:World):(Instr.index 36 (.agg #[.int .i64 a,.int .i64 b,.int .i64 c,.int .i64 d]) (.int .i64 0)).run Tryz.prog w=.ok (.int .i64 a) w:=by kernel_rfl
theorem Wu (a b c d:Int) (w:World):(Instr.index 36 (.agg #[.int .i64 a,.int .i64 b,.int .i64 c,.int .i64 d]) (.int .i64 1)).run Tryz.prog w=.ok (.int .i64 b) w:=by kernel_rfl
theorem Wv (a b c d:Int) (w:World):(Instr.index 36 (.agg #[.int .i64 a,.int .i64 b,.int .i64 c,.int .i64 d]) (.int .i64 2)).run Tryz.prog w=.ok (.int .i64 c) w:=by kernel_rfl
theorem Ww (a b c d:Int) (w:World):(Instr.index 36 (.agg #[.int .i64 a,.int .i64 b,.int .i64 c,.int .i64 d]) (.int .i64 3)).run Tryz.prog w=.ok (.int .i64 d) w:=by kernel_rfl
def Vh (w:World) (o:Option (List Nat)) (e:Ending) (w':World):Prop:=∃ v,e=.returned (.tuple #[v,.bool (mV o)])/\(∀ l,o=some l->bS Ea w' v l)/\Below w.heap.size w w'
theorem Ed (va:Value) (a:List ai) (v at_:Nat) (w:World) (ha:ak w va a) (ka:Wp a) (hv:v<4) (hne:a≠[]) (hat:at_<=1000) :
  Calls Tryz.prog 118 #[va,.int .i64 v,.int .u64 at_] w (Vh w (oU a v at_)):=by
 have hdeg:=jF va a v w ha hv (by have:=ka.len;omega);have hd2:=(ka.deg v).2
 have hdl:∀ t∈a,0<=t.1.get v/\(t.1.get v).toNat<(aG a v+1).toNat:=fun t ht=>by
  have h1:=(ka.exps ht v).1;have h2:=dU ht v;omega
 have hd0:0<=aG a v:=by
  obtain⟨t,ht⟩:=List.exists_mem_of_ne_nil _ hne;have:=hdl t ht;omega
 obtain⟨D,hD⟩:∃ D:Nat,aG a v=D:=⟨(aG a v).toNat,by omega⟩;have hRES:oU a v at_=kT v at_ a (List.replicate (D+1) 0):=by rw [oU,hD];congr 1
 rw [hRES];clear hRES;obtain⟨RES,hR⟩:∃ RES,RES=kT v at_ a (List.replicate (D+1) 0):=⟨_,rfl⟩;rw [<- hR];rw [hD] at hdeg hdl hd2;have hdl':∀ t∈a,0<=t.1.get v/\(t.1.get v).toNat<D+1:=fun t ht=>by have:=hdl t ht;omega
 have hD2:D<=100000:=by omega
 have hexp:=fun t (ht:t∈a) u=>ka.exps ht u;have hrk:=ka.rk;have hal:a.length<=10000:=ka.len;obtain⟨aa,ca,rfl,hca⟩:=ha.shape;replace hR:=zH hR;replace hdl:=zH hdl';replace hexp:=zH hexp;replace hrk:=zH hrk;replace ha:=zH ha;have hv4:(v:Int)<4:=by omega
 clear hdl' hne ka hd0 hD
 go_enter Tryz.func118,Tryz.ntmps118
 go_wp2_with (first
  | (go_at_call 53;refine hdeg.mono ?_;rintro en w1 ⟨rfl,hb1⟩)
  | (at_make;refine bQ rfl _ _ _ rfl _ (.int .u64 0) 1 8 Tryz.underlying94 pO rfl rfl .i64 .i64 _ _ (D+1) rfl rfl (by omega) (by omega) (by omega) (by omega) ?_;intro w2 own2 gr2))
 rw [IE] at own2;have hsz:=hb1.size;have hgw:w.heap.size<=w1.heap.size:=hsz;generalize hg:w1.heap.size=g at *;have hb12:=hb1.trans (gr2.mono hsz);have hstO:Hid (Blk w2 g CX (nc (List.replicate (D+1) 0))):=zH own2;clear own2 gr2 hb1 hg
 go_loopw [22] (fun i wr=>∃ (k:Nat) (out:List Nat),k<=a.length/\i=.int .i64 k/\Hid (Blk wr g CX (nc out))/\out.length=D+1/\Hid (Eb out)/\Hid (RES=kT v at_ (a.drop k) out)/\Below w.heap.size w wr) (fun i _=>a.length-(intOf i).toNat)
 case atStart=>exact⟨0,_,by omega,rfl,hstO,by simp,zH (QC _),zH hR.out,hb12⟩
 case round =>
  clear hstO hb12 hR;obtain⟨k,out,hk,rfl,hO,hol,hLo,hR,hbr⟩:=hrel;by_cases hkl:k<a.length
  ·have hjq:a[k]?=some a[k]:=List.getElem?_eq_getElem hkl;have hR2:=hR.out;rw [List.drop_eq_getElem_cons hkl] at hR2;have hmem:=List.getElem_mem hkl;generalize a[k]=t at *;obtain⟨bq,oq,rt,e1,hrt,hC⟩:=iO (ha.out.on hbr) hjq;have hx0:=hexp.out t hmem 0;have hx1:=hexp.out t hmem 1;have hx2:=hexp.out t hmem 2;have hx3:=hexp.out t hmem 3;have hnv:=hdl.out t hmem;have hrkt:=hrk.out t hmem;obtain⟨⟨z0,z1,z2,z3⟩,q⟩:=t;simp only [Ex.get] at hx0 hx1 hx2 hx3;obtain⟨n0,rfl⟩:=Int.eq_ofNat_of_zero_le hx0.1;obtain⟨n1,rfl⟩:=Int.eq_ofNat_of_zero_le hx1.1;obtain⟨n2,rfl⟩:=Int.eq_ofNat_of_zero_le hx2.1;obtain⟨n3,rfl⟩:=Int.eq_ofNat_of_zero_le hx3.1;obtain⟨nv,hnve⟩:∃ nv:Nat,Ex.get ((n0:Int),(n1:Int),(n2:Int),(n3:Int)) v=(nv:Int):=⟨_,(Int.toNat_of_nonneg hnv.1).symm⟩;rw [hnve] at hnv;have hnvl:nv<D+1:=by simpa using hnv.2
   have hkl':(k:Int)<(a.length:Int):=by omega
   have hr:=hC.range;have h8:(bR ((n0:Int),(n1:Int),(n2:Int),(n3:Int))++rt).length=8:=by rw [List.length_append,hrt.len];rfl
   have hlr:=hrt.len;subst e1;replace hR2:=zH hR2;clear hR hjq hmem hnv hdeg
   go_upto_region 5 with (first
    | (refine aj rfl _ _ 27 rfl aN Tryz.underlying27 _ 8 96 (by kernel_rfl) _ _ _ rfl .i64 _ rfl k rfl hkl bq oq rfl ?_)
    | (refine wpList_load_mid rfl 43 _ rfl _ _ rfl _ _ hr Tryz.underlying43 rfl (by rw [h8];kernel_rfl) ?_)
    | (refine aA rfl _ (.tmp 10) (.tmp 25) rfl _ _ _ _ rfl rfl (Blk.new wr aN [.int .i64 0,.int .i64 0,.int .i64 0,.int .i64 0,.bool false,.slice none 0 0,.bool false,.slice none 0 0]) (by simp [bR,hlr]) (by simp only [List.size_toArray,h8];exact xR) (Bj hrt) ?_;intro W3 R3 gr3))
   have hE:bR ((n0:Int),(n1:Int),(n2:Int),(n3:Int))=[.int .i64 n0,.int .i64 n1,.int .i64 n2,.int .i64 n3]:=rfl;have BB:Blk W3 wr.heap.size aN (bR ((n0:Int),(n1:Int),(n2:Int),(n3:Int))++rt):=by simpa using R3
   have hba:Below wr.heap.size wr (wr.alloc (.cells #[.int .i64 0,.int .i64 0,.int .i64 0,.int .i64 0,.bool false,.slice none 0 0,.bool false,.slice none 0 0] aN)):=(Below.refl _ _).alloc (Nat.le_refl _) _;have hb3:Below wr.heap.size wr W3:=hba.trans (aM gr3 (by simp) (Nat.le_refl _));have hbr3:=hbr.trans (hb3.mono hbr.size);have hO3:=hO.out.on hb3;have hrt3:=hrt.on hb3;have hgm:g<wr.heap.size:=hO.out.lt;have hwm:w.heap.size<=wr.heap.size:=hbr.size;clear hr R3 gr3 hba hb3 hC hrt hbr hO h8;generalize wr.heap.size=mb at *;obtain⟨N1,A1,K1,C1,N2,A2,K2,C2,rfl,i1,i2⟩:=hrt3;simp only at i1 i2 hrkt;rw [hE] at BB;have y0:=BB.at1 0 _ rfl;have y1:=BB.at1 1 _ rfl;have y2:=BB.at1 2 _ rfl;have y3:=BB.at1 3 _ rfl;have y4:=BB.at1 4 _ rfl;have y5:=BB.at1 5 _ rfl;have y6:=BB.at1 6 _ rfl;have y7:=BB.at1 7 _ rfl;have hden:=yU _ _ _ W3 i2 hrkt.den';have hR3:=hR2.out;rw [kT] at hR3;clear hR2;have hdl9:=tq (q.den:Int);by_cases hz:fH (q.den:Int)=0
   ·rw [if_pos hz] at hR3;rw [hz] at hden;replace hR3:=zH hR3;clear hz hdl9
    go_wp2_with (go_at_call 136;refine hden.mono ?_;rintro en w4 ⟨rfl,hb4⟩)
    go_ret2;exact⟨_,by rw [hR3.out];rfl,(fun l hl=>by rw [hR3.out] at hl;cases hl),hbr3.trans (hb4.mono hbr3.size)⟩
   ·rw [if_neg hz] at hR3;have hnum:=fun W (hb:Below W3.heap.size W3 W)=>yU _ _ _ W (i1.on hb) hrkt.num';have hpw:=fun W=>xC (fH (q.den:Int)) 2147483645 W (by omega) (by omega);have hnl:=tq q.num;have hX0:yc (((n0:Int),(n1:Int),(n2:Int),(n3:Int)),q) v at_ 0=fH q.num*lC (fH (q.den:Int)) 2147483645 % pr:=rfl;have hpl:=EM (fH (q.den:Int)) 2147483645;rw [lL] at hpl;generalize hdd:fH (q.den:Int)=d at *;generalize fH q.num=nn at *;generalize lC d 2147483645=pp at *;have hdne:((d:Int) == 0)=false:=by simp;omega
    have hnp:nn*pp<=2147483647*2147483647:=Nat.mul_le_mul (by omega) (by omega);obtain⟨X0,hX⟩:∃ X0,X0=nn*pp % 2147483647:=⟨_,rfl⟩;have hXi:((nn:Int)*(pp:Int)) % 2147483647=(X0:Int):=by rw [hX];simp
    rw [lL,<- hX] at hX0;have hXl:X0<2147483647:=by rw [hX];exact Nat.mod_lt _ (by decide)
    replace hX0:=zH hX0;replace hR3:=zH hR3;replace hnum:=zH hnum;replace hpw:=zH hpw;clear hX hdd hz hnl hpl hdl9
    go_upto_region 8 with (go_at_call 136;refine hden.mono ?_;rintro en w4 ⟨rfl,hb4⟩)
    have BB4:=BB.on hb4;replace y4:=BB4.at1 4 _ rfl;replace y5:=BB4.at1 5 _ rfl
    go_upto_region 9 with (first
     | (go_at_call 136;refine (hnum.out _ hb4).mono ?_;rintro en w5 ⟨rfl,hb5⟩)
     | (go_at_call 137;refine (hpw.out _).mono ?_;rintro en w6 ⟨rfl,hb6⟩))
    have hb46:=hb4.trans ((hb5.trans (hb6.mono hb5.size)).mono hb4.size);have BB6:=BB.on hb46;have hO6:=zH (hO3.on hb46);have hbr6:=hbr3.trans (hb46.mono hbr3.size);replace y0:=BB6.at1 0 _ rfl;replace y1:=BB6.at1 1 _ rfl;replace y2:=BB6.at1 2 _ rfl;replace y3:=BB6.at1 3 _ rfl;have hstB:=zH BB6;clear BB BB4 BB6 hb4 hb5 hb6 hb46 y4 y5 y6 y7 hO3 hbr3 i1 i2 hden hnum hpw;go_wp2
    go_loopw [12,42] (fun x i wz=>∃ u X:Nat,u<=4/\x=.int .u64 X/\i=.int .i64 u/\X<2147483647/\Hid (yc (((n0:Int),(n1:Int),(n2:Int),(n3:Int)),q) v at_ u=X)/\Hid (Blk wz mb aN ([.int .i64 n0,.int .i64 n1,.int .i64 n2,.int .i64 n3]++[.bool N1,.slice A1 K1 C1,.bool N2,.slice A2 K2 C2]))/\Hid (Blk wz g CX (nc out))/\Below w.heap.size w wz) (fun _ i _=>4-(intOf i).toNat)
    case atStart=>exact⟨0,X0,by omega,by rw [hXi],by go_num,hXl,hX0,hstB,hO6,hbr6⟩
    case round =>
     clear hstB hO6 hbr6 hX0 hXl hnp hXi;obtain⟨u,X,hu,rfl,rfl,hXl,hX,hB,hO,hbz⟩:=hrel;by_cases hu4:u<4
     ·have hpu:∀ W,Calls Tryz.prog 137 #[.int .u64 ((at_:Int)+(u:Int)),.int .i64 (Ex.get ((n0:Int),(n1:Int),(n2:Int),(n3:Int)) u)] W (rO W (.int .u64 (lC (at_+u) (Ex.get ((n0:Int),(n1:Int),(n2:Int),(n3:Int)) u).toNat))):=fun W=>by
       have h1:0<=Ex.get ((n0:Int),(n1:Int),(n2:Int),(n3:Int)) u/\Ex.get ((n0:Int),(n1:Int),(n2:Int),(n3:Int)) u<=100000:=by
        obtain rfl|rfl|rfl|rfl:u=0\/u=1\/u=2\/u=3:=by omega
        all_goals (simp only [Ex.get];omega)
       have h2:=xC (at_+u) (Ex.get ((n0:Int),(n1:Int),(n2:Int),(n3:Int)) u).toNat W (by omega) (by omega);rw [Int.toNat_of_nonneg h1.1,Int.natCast_add] at h2;exact h2
      have hpl:=EM (at_+u) (Ex.get ((n0:Int),(n1:Int),(n2:Int),(n3:Int)) u).toNat;rw [lL] at hpl;by_cases huv:u=v
      ·have hsx:Hid (yc (((n0:Int),(n1:Int),(n2:Int),(n3:Int)),q) v at_ (u+1)=X):=zH (by rw [yc,if_pos huv];exact hX.out);clear hpu hpl hX;obtain rfl|rfl|rfl|rfl:u=0\/u=1\/u=2\/u=3:=by omega
       ·have k1:((0:Int)=(v:Int))=True:=eq_true (by omega);have k2:((v:Int)=(0:Int))=True:=eq_true (by omega);have k3:(v=0)=True:=eq_true (by omega);have k4:((0:Nat)=v)=True:=eq_true (by omega);have k5:((0:Int) == (v:Int))=true:=by simp only [beq_iff_eq];omega
        clear huv
        go_wp2_with (refine jT rfl rfl rfl rfl (Wt _ _ _ _ _) ?_)
        go_roundw
        case rel=>exact⟨1,X,by omega,rfl,by go_num,hXl,hsx,hB,hO,hbz⟩
        case measure=>simp [intOf]
       ·have k1:((1:Int)=(v:Int))=True:=eq_true (by omega);have k2:((v:Int)=(1:Int))=True:=eq_true (by omega);have k3:(v=1)=True:=eq_true (by omega);have k4:((1:Nat)=v)=True:=eq_true (by omega);have k5:((1:Int) == (v:Int))=true:=by simp only [beq_iff_eq];omega
        clear huv
        go_wp2_with (refine jT rfl rfl rfl rfl (Wu _ _ _ _ _) ?_)
        go_roundw
        case rel=>exact⟨2,X,by omega,rfl,by go_num,hXl,hsx,hB,hO,hbz⟩
        case measure=>simp [intOf]
       ·have k1:((2:Int)=(v:Int))=True:=eq_true (by omega);have k2:((v:Int)=(2:Int))=True:=eq_true (by omega);have k3:(v=2)=True:=eq_true (by omega);have k4:((2:Nat)=v)=True:=eq_true (by omega);have k5:((2:Int) == (v:Int))=true:=by simp only [beq_iff_eq];omega
        clear huv
        go_wp2_with (refine jT rfl rfl rfl rfl (Wv _ _ _ _ _) ?_)
        go_roundw
        case rel=>exact⟨3,X,by omega,rfl,by go_num,hXl,hsx,hB,hO,hbz⟩
        case measure=>simp [intOf]
       ·have k1:((3:Int)=(v:Int))=True:=eq_true (by omega);have k2:((v:Int)=(3:Int))=True:=eq_true (by omega);have k3:(v=3)=True:=eq_true (by omega);have k4:((3:Nat)=v)=True:=eq_true (by omega);have k5:((3:Int) == (v:Int))=true:=by simp only [beq_iff_eq];omega
        clear huv
        go_wp2_with (refine jT rfl rfl rfl rfl (Ww _ _ _ _ _) ?_)
        go_roundw
        case rel=>exact⟨4,X,by omega,rfl,by go_num,hXl,hsx,hB,hO,hbz⟩
        case measure=>simp [intOf]
      ·obtain⟨Y,hY⟩:∃ Y,Y=X*lC (at_+u) (Ex.get ((n0:Int),(n1:Int),(n2:Int),(n3:Int)) u).toNat % 2147483647:=⟨_,rfl⟩;have hsx:Hid (yc (((n0:Int),(n1:Int),(n2:Int),(n3:Int)),q) v at_ (u+1)=Y):=zH (by rw [yc,if_neg huv,hX.out,hY];rfl);generalize lC (at_+u) (Ex.get ((n0:Int),(n1:Int),(n2:Int),(n3:Int)) u).toNat=pw at *;have hYl:Y<2147483647:=by rw [hY];exact Nat.mod_lt _ (by decide)
       have hYi:Hid (((X:Int)*(pw:Int)) % 2147483647=(Y:Int)):=zH (by rw [hY];simp);have hXp:X*pw<=2147483647*2147483647:=Nat.mul_le_mul (by omega) (by omega);clear hX hY;obtain rfl|rfl|rfl|rfl:u=0\/u=1\/u=2\/u=3:=by omega
       ·simp only [Ex.get] at hpu;have hne:¬ v=0:=fun h=>huv h.symm;have hne2:¬ (0:Int)=(v:Int):=by omega
        have hne3:¬ (0:Nat)=v:=huv
        go_wp2_with (first
         | (refine jT rfl rfl rfl rfl (Wt _ _ _ _ _) ?_)
         | (go_at_call 137;refine (hpu _).mono ?_;rintro en w7 ⟨rfl,hb7⟩))
        go_roundw
        case rel=>exact⟨1,Y,by omega,by rw [<- hYi.out],by go_num,hYl,hsx,zH (hB.out.on hb7),zH (hO.out.on hb7),hbz.trans (hb7.mono hbz.size)⟩
        case measure=>simp [intOf]
       ·simp only [Ex.get] at hpu;have hne:¬ v=1:=fun h=>huv h.symm;have hne2:¬ (1:Int)=(v:Int):=by omega
        have hne3:¬ (1:Nat)=v:=huv
        go_wp2_with (first
         | (refine jT rfl rfl rfl rfl (Wu _ _ _ _ _) ?_)
         | (go_at_call 137;refine (hpu _).mono ?_;rintro en w7 ⟨rfl,hb7⟩))
        go_roundw
        case rel=>exact⟨2,Y,by omega,by rw [<- hYi.out],by go_num,hYl,hsx,zH (hB.out.on hb7),zH (hO.out.on hb7),hbz.trans (hb7.mono hbz.size)⟩
        case measure=>simp [intOf]
       ·simp only [Ex.get] at hpu;have hne:¬ v=2:=fun h=>huv h.symm;have hne2:¬ (2:Int)=(v:Int):=by omega
        have hne3:¬ (2:Nat)=v:=huv
        go_wp2_with (first
         | (refine jT rfl rfl rfl rfl (Wv _ _ _ _ _) ?_)
         | (go_at_call 137;refine (hpu _).mono ?_;rintro en w7 ⟨rfl,hb7⟩))
        go_roundw
        case rel=>exact⟨3,Y,by omega,by rw [<- hYi.out],by go_num,hYl,hsx,zH (hB.out.on hb7),zH (hO.out.on hb7),hbz.trans (hb7.mono hbz.size)⟩
        case measure=>simp [intOf]
       ·simp only [Ex.get] at hpu;have hne:¬ v=3:=fun h=>huv h.symm;have hne2:¬ (3:Int)=(v:Int):=by omega
        have hne3:¬ (3:Nat)=v:=huv
        go_wp2_with (first
         | (refine jT rfl rfl rfl rfl (Ww _ _ _ _ _) ?_)
         | (go_at_call 137;refine (hpu _).mono ?_;rintro en w7 ⟨rfl,hb7⟩))
        go_roundw
        case rel=>exact⟨4,Y,by omega,by rw [<- hYi.out],by go_num,hYl,hsx,zH (hB.out.on hb7),zH (hO.out.on hb7),hbz.trans (hb7.mono hbz.size)⟩
        case measure=>simp [intOf]
     ·obtain rfl:u=4:=by omega
      have hB4:=hB.out;have hO4:=hO.out;have hg4:g<wr.heap.size:=hO4.lt;have hmb4:mb<wr.heap.size:=hB4.lt
      have hee:∀ W,Below wr.heap.size wr W->W.cell? ⟨mb,v,none⟩=some (.int .i64 nv):=fun W hb=>by
       have h1:=Mf ((n0:Int),(n1:Int),(n2:Int),(n3:Int)) v hv;rw [hnve] at h1;refine (hB4.on hb).at1 v _ ?_;rw [List.getElem?_append_left (by show v<4;exact hv)];exact h1
      have hoc:∀ W,Below wr.heap.size wr W->W.cell? ⟨g,nv,none⟩=some (.int .u64 ((out.getD nv 0:Nat):Int)):=fun W hb=>(hO4.on hb).ncell nv (by omega);have hol2:=hLo.out.getD nv;have hnvn:(Ex.get ((n0:Int),(n1:Int),(n2:Int),(n3:Int)) v).toNat=nv:=by rw [hnve];rfl
      obtain⟨Y,hY⟩:∃ Y,Y=(out.getD nv 0+X) % 2147483647:=⟨_,rfl⟩
      have hR4:Hid (RES=kT v at_ (a.drop (k+1)) (out.set nv Y)):=zH (by
       rw [hR3.out,hY];simp only [hnvn]
       rw [Oa,hX.out];rfl)
      generalize out.getD nv 0=y at *;have hYl:Y<2147483647:=by rw [hY];exact Nat.mod_lt _ (by decide)
      have hYi:Hid (((y:Int)+(X:Int)) % 2147483647=(Y:Int)):=zH (by rw [hY];simp);replace hee:=zH hee;replace hoc:=zH hoc;have hol3:(out.set nv Y).length=D+1:=by rw [List.length_set];exact hol
      have hLo2:=zH (hLo.out.set nv hYl);clear hX hY hnvn hR3 hnve
      go_upto_region 15 with (fail)
      refine aF mixed (none) (0) (gp.none) [.eq (.slice (some ⟨g,0,none⟩) (D+1) (D+1)),.eq (.int .i64 v),.eq (.pointer (some ⟨mb,0,none⟩)),.eq (.pointer (some ⟨mb,v,none⟩)),.eq (.int .i64 nv),.eq (.slice (some ⟨g,0,none⟩) (D+1) (D+1)),.eq (.int .i64 v),.eq (.pointer (some ⟨mb,0,none⟩)),.eq (.pointer (some ⟨mb,v,none⟩)),.eq (.int .i64 nv),.eq (.pointer (some ⟨g,0+nv*1,none⟩)),.eq (.int .u64 y),.eq (.int .u64 X),.eq (.int .u64 ((y:Int)+(X:Int))),.eq (.int .u64 (((y:Int)+(X:Int)) % 2147483647)),.eq (.pointer (some ⟨g,0+nv*1,none⟩))] [59,60,61,62,63,64,65,66,67,68,69,70,71,72,73,74] rfl rfl rfl rfl ⟨?_,?_,?_,?_,?_,?_,?_,?_,?_,?_,?_,?_,?_,?_,?_,?_,trivial⟩ ?_
      ·exact fun _ _ a _ _ _=>xM rfl (a 8 rfl)
      ·exact fun _ _ a _ _ _=>xM rfl (a 1 rfl)
      ·intro A w1 hA hL hS he;have h10:A.eval (.tmp 10)=.pointer (some ⟨mb,0,none⟩):=hA 10 rfl;exact pZ rfl
      ·intro A w1 hA hL hS he;have h61:=eT 61 (he.1 rfl);have h60:=eT 60 (he.2.1 rfl);exact pZ rfl
      ·intro A w1 hA hL hS he;have h62:=eT 62 (he.1 rfl);refine ae rfl ?_;have c0:=hee.out w1 hL.below;exact aC rfl rfl gZ
      ·exact fun _ _ a _ _ _=>xM rfl (a 8 rfl)
      ·exact fun _ _ a _ _ _=>xM rfl (a 1 rfl)
      ·intro A w1 hA hL hS he;have h10:A.eval (.tmp 10)=.pointer (some ⟨mb,0,none⟩):=hA 10 rfl;exact pZ rfl
      ·intro A w1 hA hL hS he;have h66:=eT 66 (he.1 rfl);have h65:=eT 65 (he.2.1 rfl);exact pZ rfl
      ·intro A w1 hA hL hS he;have h67:=eT 67 (he.1 rfl);refine ae rfl ?_;have c0:=hee.out w1 hL.below;exact aC rfl rfl gZ
      ·exact fun _ _ _ _ _ e=>pI rfl Tryz.underlying94 g 0 nv (hnvl) (e.1 rfl) (e.2.1 rfl)
      ·intro A w1 hA hL hS he;have h69:=eT 69 (he.1 rfl);refine ae rfl ?_;have c0:=hoc.out w1 hL.below;exact aC rfl rfl gZ
      ·exact fun _ _ a _ _ _=>xM rfl (a 12 rfl)
      ·intro A w1 hA hL hS he;have h70:=eT 70 (he.1 rfl);have h71:=eT 71 (he.2.1 rfl);refine ae rfl (aC rfl rfl ?_);generalize A.eval=ev at *;go_simp
       (have hw:=IntKind.wrap_u64 ((y:Int)+(X:Int));omega)
      ·intro A w1 hA hL hS he;have h72:=eT 72 (he.1 rfl);have hc0:=eC A (.int .u64 2147483647);refine ae rfl (aC rfl rfl ?_);generalize A.eval=ev at *;go_simp;exact Int.tmod_eq_emod_of_nonneg (by omega)
      ·exact fun _ _ _ _ _ e=>pI rfl Tryz.underlying94 g 0 nv (hnvl) (e.1 rfl) (e.2.1 rfl)
      ·intro W5 hL5;have hb5:=hL5.below;simp only [aU,af.eq,lZ];go_frame;have hO5:=hO4.on hb5;have z5:=hO5.ncell nv (by omega);have f5:=hO5.frozen nv;have hO6:=zH (hO5.nset nv Y);have hb6:=hbz.trans ((hb5.mono hbz.size).trans (bI (W:=W5) (g:=g) (j:=nv) hgw (.int .u64 (Y:Int))));clear hee hoc hL5 hB4 hO4 hB hO hO5 hb5;go_wp2;go_roundw
       case rel=>exact⟨k+1,out.set nv Y,by omega,by go_num,by rw [hYi.out];exact hO6,hol3,hLo2,hR4,by rw [hYi.out];exact hb6⟩
       case measure=>simp [intOf];omega
  ·obtain rfl:k=a.length:=by omega
   have hfin:Hid (RES=some out):=zH (by rw [hR.out,List.drop_of_length_le (Nat.le_refl _)];rfl);have hO4:=hO.out;have hg4:g<wr.heap.size:=hO4.lt;have hoc:∀ W,Below wr.heap.size wr W->W.cell? ⟨g,D,none⟩=some (.int .u64 ((out.getD D 0:Nat):Int)):=fun W hb=>(hO4.on hb).ncell D (by omega)
   have hfine:Hid (mV RES=decide (¬ ((out.getD D 0:Nat):Int)=0)):=zH (by
    rw [hfin.out];show decide (out.getD (out.length-1) 0≠0)=_;rw [hol,Nat.add_sub_cancel];refine decide_eq_decide.2 ?_;constructor
    ·intro h h';exact h (by omega)
    ·intro h h';exact h (by omega))
   have hDD:((D:Int)+1-1)=D:=by omega
   have hw1:=kG (x:=(D:Int)+1) (by omega) (by omega);have hw2:=kG (x:=(D:Int)) (by omega) (by omega);replace hoc:=zH hoc;generalize out.getD D 0=y at *
   go_upto_region 17 with (fail)
   refine aF mixed (none) (0) (gp.none) [.eq (.slice (some ⟨g,0,none⟩) (D+1) (D+1)),.eq (.slice (some ⟨g,0,none⟩) (D+1) (D+1)),.eq (.slice (some ⟨g,0,none⟩) (D+1) (D+1)),.eq (.int .i64 (D+1)),.eq (.int .i64 D),.eq (.pointer (some ⟨g,0+D*1,none⟩)),.eq (.int .u64 y),.eq (.bool (decide (¬ (y:Int)=0))),.eq (.slice (some ⟨g,0,none⟩) (D+1) (D+1))] [76,77,78,79,80,81,82,83,6] rfl rfl rfl rfl ⟨?_,?_,?_,?_,?_,?_,?_,?_,?_,trivial⟩ ?_
   ·exact fun _ _ a _ _ _=>xM rfl (a 8 rfl)
   ·exact fun _ _ a _ _ _=>xM rfl (a 8 rfl)
   ·exact fun _ _ a _ _ _=>xM rfl (a 8 rfl)
   ·intro A w1 hA hL hS he;have h78:=eT 78 (he.1 rfl);exact pZ rfl
   ·intro A w1 hA hL hS he;have h79:=eT 79 (he.1 rfl);have hc0:=eC A (.int .i64 1);exact pZ rfl
   ·exact fun _ _ _ _ _ e=>pI rfl Tryz.underlying94 g 0 D (by omega) (e.1 rfl) (e.2.1 rfl)
   ·intro A w1 hA hL hS he;have h81:=eT 81 (he.1 rfl);refine ae rfl ?_;have c0:=hoc.out w1 hL.below;exact aC rfl rfl gZ
   ·intro A w1 hA hL hS he;have h82:=eT 82 (he.1 rfl);have hc0:=eC A (.int .u64 0);refine ae rfl (aC rfl rfl ?_);generalize A.eval=ev at *;go_simp
    (by_cases h9:y=0 <;> simp [h9])
   ·intro A w1 hA hL hS he;have h76:=eT 76 (he.1 rfl);exact pZ rfl
   ·intro W5 hL5;have hb5:=hL5.below;simp only [aU,af.eq,lZ];go_frame;have hO5:=hO4.on hb5;have hS:=Go.RowKit.Blk.nsl hO5 hLo.out;rw [hol] at hS;clear hoc hL5 hO4;go_wp2;go_ret2;exact⟨_,by rw [hfine.out];rfl,fun l hl=>by rw [hfin.out] at hl;cases hl;exact hS,hbr.trans (hb5.mono hbr.size)⟩
end Go.Proofs.YtopclbeomcggiaaGreat
end
section
namespace Q
open Go Go.RowKit Go.Proofs.YtopclbeomcggiaaGreat
def CK (base:Nat) (w:World) (v:Value) (l:List Nat):Prop :=
 ∃ ao cap,v=.slice ao l.length cap/\l.length<=cap/\Eb l/\(0<l.length->∃ g cs,ao=some ⟨g,0,none⟩/\base<=g/\Blk w g CX cs/\cs.take l.length=nc l)
theorem CK.of {base:Nat} {w:World} {v:Value} {l:List Nat} (h:cB Ea base w v l):CK base w v l:=by
 obtain⟨xs,⟨hxl,hrow⟩,hex⟩:=h;obtain⟨rfl,hl⟩:=wN.1 hex;rcases hrow with ⟨rfl,h0⟩|⟨g,cap,cur,rfl,hbg,hg,hnc,hcm,hcs,htk⟩
 ·obtain rfl:l=[]:=List.eq_nil_of_length_eq_zero h0;exact⟨none,0,rfl,Nat.le_refl _,hl,fun h=>by simp at h⟩
 ·refine⟨_,cap,rfl,hnc,hl,fun _=>⟨g,cur.toList,rfl,hbg,by unfold Blk;rw [Array.toArray_toList];exact hg,?_⟩⟩;have:cur.toList.take (l.length*1)=nc l:=htk;rwa [Nat.mul_one] at this
theorem CK.on {base:Nat} {w w':World} {v:Value} {l:List Nat} (h:CK base w v l) (hb:Below w.heap.size w w'):CK base w' v l:=by
 obtain⟨ao,cap,h1,h2,h3,h4⟩:=h;refine⟨ao,cap,h1,h2,h3,fun hp=>?_⟩;obtain⟨g,cs,e,hg,hB,ht⟩:=h4 hp;exact⟨g,cs,e,hg,hB.on hb,ht⟩
theorem CK.isSl {base:Nat} {w:World} {v:Value} {l:List Nat} (h:CK base w v l):bS Ea w v l:=by
 obtain⟨ao,cap,h1,h2,h3,h4⟩:=h;refine yg.2 ⟨ao,cap,h1,h2,fun hp=>?_,h3⟩;obtain⟨g,cs,e,hg,hB,ht⟩:=h4 (by rw [Kk] at hp;exact hp);refine⟨g,0,e,?_⟩;rw [<- ht];exact hB.cells.take _
theorem CK.open {base:Nat} {w:World} {v:Value} {l:List Nat} (h:CK base w v l) (hp:0<l.length) :
  ∃ g cap,v=.slice (some ⟨g,0,none⟩) l.length cap/\l.length<=cap/\base<=g/\g<w.heap.size/\(∀ j,j<l.length->w.cell? ⟨g,j,none⟩=some (.int .u64 ((l.getD j 0:Nat):Int)))/\(∀ j,w.frozen? ⟨g,j,none⟩=false) /\
   (∀ k,k<=l.length->CK base w (.slice (some ⟨g,0,none⟩) k cap) (l.take k)) /\
   ∀ (j x:Nat),j<l.length->x<2147483647->CK base (w.setCell ⟨g,j,none⟩ (.int .u64 (x:Int))) v (l.set j x):=by
 obtain⟨ao,cap,h1,h2,h3,h4⟩:=h;obtain⟨g,cs,rfl,hg,hB,ht⟩:=h4 hp
 have hcs:∀ j,j<l.length->cs[j]?=some (.int .u64 ((l.getD j 0:Nat):Int)):=fun j hj=>by
  rw [<- Kl l j hj,<- ht,List.getElem?_take,if_pos hj]
 refine⟨g,cap,h1,h2,hg,hB.lt,fun j hj=>hB.at1 j _ (hcs j hj),hB.frozen,fun k hk=>?_,fun j x hj hx=>?_⟩
 ·refine⟨some ⟨g,0,none⟩,cap,by rw [List.length_take,Nat.min_eq_left hk],by rw [List.length_take];omega,h3.sub fun x hx=>List.mem_of_mem_take hx,fun _=>⟨g,cs,rfl,hg,hB,?_⟩⟩;rw [List.length_take,Nat.min_eq_left hk,nc,List.map_take];have h5:(cs.take l.length).take k=(nc l).take k:=by rw [ht]
  rw [List.take_take,Nat.min_eq_left hk] at h5;exact h5
 ·refine⟨some ⟨g,0,none⟩,cap,by rw [List.length_set];exact h1,by rw [List.length_set];exact h2,h3.set j hx,fun _=>⟨g,cs.set j (.int .u64 (x:Int)),rfl,hg,hB.set j _,?_⟩⟩;rw [List.length_set,List.take_set,ht,nc,nc,List.map_set]
theorem Kn {r:List Nat} (h:0<r.length) (h0:r.getD (r.length-1) 0=0):strip (r.take (r.length-1))=strip r:=by
 have hr:r=r.take (r.length-1)++[0]:=by
  have h1:r.drop (r.length-1)=[0]:=by
   rw [List.drop_eq_getElem_cons (by omega),List.drop_of_length_le (by omega)];rw [List.getD_eq_getElem?_getD,List.getElem?_eq_getElem (by omega)] at h0;simpa using h0
  rw [<- h1,List.take_append_drop]
 generalize r.take (r.length-1)=s at *;subst hr;clear h h0
 induction s with
 | nil=>rfl
 | cons x s ih=>rw [List.cons_append,strip,strip,ih]
theorem Ko {r:List Nat} (h:0<r.length) (h0:r.getD (r.length-1) 0≠0):strip r=r:=by
 induction r with
 | nil=>rfl
 | cons x r ih =>
  cases r with
  | nil=>simp at h0;simp [strip,h0]
  | cons y r =>
   have:=ih (by simp) (by simpa using h0);rw [strip,this]
theorem yh (b r:List Nat) (f at_:Nat):∀ i,(gT b r f at_ i).length=r.length
 | 0=>rfl
 | i+1=>by rw [gT,List.length_set,yh b r f at_ i]
end Q
namespace Go.Proofs.YtopclbeomcggiaaGreat
open Go.RowKit Q
theorem QD:∃ z bytes,(Tryz.prog.info? Ea.T).map (fun i=>(i.zero,i.size,i.bytes))=some (some z,Ea.sz,bytes)/\z.cells.size=Ea.sz/\bytes<=100000:=⟨.int .u64 0,8,pO,rfl,by decide⟩
def Vi (w:World) (l:List Nat) (e:Ending) (w':World):Prop:=∃ v,e=.returned v/\CK w.heap.size w' v l/\Below w.heap.size w w'
theorem Kq (v:Value) (l:List Nat) (w:World) (h:bS Ea w v l) (hl:l.length<=1000000):Calls Tryz.prog 138 #[v] w (Vi w l):=by
 obtain⟨ao,cap,xs,rfl,hcap,hat,hex⟩:=id h;have heq:=Go.Lib.run_eql_slice_nil (P:=Tryz.prog) w 94 97 ao l.length cap 0 0 Tryz.underlying94
 cases ao with
 | none =>
  have hnil:l=[]:=by
   cases l with
   | nil=>rfl
   | cons t l =>
    obtain⟨b,off,e,_⟩:=hat (by rw [hex.length];simp [Ea]);cases e
  subst hnil;simp only [List.length_nil,Option.isNone_none] at heq ⊢
  go_enter Tryz.func138,Tryz.ntmps138
  go_wp2;go_ret;exact⟨_,rfl,CK.of (cB.nil _ _ _),Below.refl _ _⟩
 | some a =>
  have hbe:Below w.heap.size w (w.alloc (.cells #[] CX)):=(Below.refl _ _).alloc (Nat.le_refl _) _;have hown:cB Ea w.heap.size (w.alloc (.cells #[] CX)) (.slice (some ⟨w.heap.size,0,none⟩) 0 0) []:=fV Ea w;have h1:=h.on hbe;clear hat
  go_enter Tryz.func138,Tryz.ntmps138
  go_wp2_with (at_builtin;refine fM rfl _ _ 94 rfl Tryz.underlying94 QD rfl rfl hown h1 (by simp;omega) hbe.size ?_;intro v5 w5 hown5 hl5 hv5)
  go_ret;exact⟨_,rfl,by simpa using CK.of hown5,hbe.trans (hl5.belowAt hbe.size (fun k hk=>by cases hk;exact Nat.le_refl _))⟩
end Go.Proofs.YtopclbeomcggiaaGreat
end
section
namespace Q
open Go Go.RowKit Go.Proofs.YtopclbeomcggiaaGreat
theorem CK.mono {b b':Nat} {w:World} {v:Value} {l:List Nat} (h:CK b w v l) (hb:b'<=b):CK b' w v l:=by
 obtain⟨ao,cap,h1,h2,h3,h4⟩:=h;refine⟨ao,cap,h1,h2,h3,fun hp=>?_⟩;obtain⟨g,cs,e,hg,hB⟩:=h4 hp;exact⟨g,cs,e,by omega,hB⟩
def af.rst {T:TypeId} (B:Nat) (l:List Nat):af (Lr none T):=af.of (fun v w=>CK B w v l) (fun _ _ _ hb h=>h.on hb.below)
theorem Ob {w:World} {v:Value} {l:List Nat} (h:bS Ea w v l) (hp:0<l.length):∃ b off cap,v=.slice (some ⟨b,off,none⟩) l.length cap/\bO CX w b off (nc l)/\Eb l:=by
 obtain⟨ao,cap,rfl,h1,h2,h3⟩:=yg.1 h;obtain⟨b,off,rfl,hc⟩:=h2 (by rw [Kk];exact hp);exact⟨b,off,cap,rfl,hc,h3⟩
theorem Yn:pr-2=2147483645:=rfl
end Q
namespace Go.Proofs.YtopclbeomcggiaaGreat
open Go.RowKit Q
theorem Kr (vx vy:Value) (x y:List Nat) (R:Nat) (w:World) (hx:bS Ea w vx x) (hy:bS Ea w vy y) (lx:x.length<=1000000) (ly:y.length<=1000000) (h:qj x y=some R) :
  Calls Tryz.prog 119 #[vx,vy] w (rO w (.int .i64 ((R:Int)-1))):=by
 obtain⟨F,hF⟩:∃ F,F=fuel:=⟨_,rfl⟩;unfold qj at h;rw [<- hF] at h;obtain⟨ax,cx,rfl,hcx⟩:=hx.shape;obtain⟨ay,cy,rfl,hcy⟩:=hy.shape;replace hx:=zH hx;replace hy:=zH hy;replace hF:=zH hF
 go_enter Tryz.func119,Tryz.ntmps119
 go_upto_if 15 with (fail)
 go_cut [0,1,16,17] (fun va vb _ _ wc=>∃ a b,Hid (bS Ea wc va a)/\Hid (bS Ea wc vb b)/\Hid (lW F a b=some R)/\a.length<=1000000/\b.length<=1000000/\Below w.heap.size w wc)
 case first =>
  by_cases hlt:x.length<y.length
  ·rw [if_pos hlt] at h;replace h:=zH h;have hlt':(x.length:Int)<y.length:=by omega
   go_wp2;go_meet
   case rel=>exact⟨y,x,hy,hx,h,ly,lx,Below.refl _ _⟩
  ·rw [if_neg hlt] at h;replace h:=zH h;have hlt':¬ (x.length:Int)<y.length:=by omega
   go_wp2;go_meet
   case rel=>exact⟨x,y,hx,hy,h,lx,ly,Below.refl _ _⟩
 case rest =>
  clear hx hy h lx ly hcx hcy;obtain⟨a,b,ha,hb,hs,la,lb,hbw⟩:=hcut;go_wp2
  go_loopg [0,1] F (fun n va vb wr=>∃ a b,Hid (bS Ea wr va a)/\Hid (bS Ea wr vb b)/\Hid (lW n a b=some R)/\a.length<=1000000/\b.length<=1000000/\Below w.heap.size w wr)
  case atStart=>exact⟨a,b,ha,hb,hs,la,lb,hbw⟩
  case round =>
   clear ha hb hs la lb hbw a b;obtain⟨a,b,ha,hb,hs,la,lb,hbr⟩:=hrel
   cases gk with
   | zero=>exact absurd hs.out (by simp [lW])
   | succ n =>
   have hs2:=hs.out;rw [lW] at hs2;clear hs;by_cases hb0:b=[]
   ·rw [if_pos hb0,Option.some.injEq] at hs2;subst hb0;obtain⟨aa,ca,rfl,hca⟩:=ha.out.shape;obtain⟨ab,cb,rfl,hcb⟩:=hb.out.shape;simp only [List.length_nil];have hfin:=zH hs2;clear hs2;go_wp2;go_ret;exact⟨by rw [<- hfin.out];rfl,hbr⟩
   ·rw [if_neg hb0] at hs2;have hpb:0<b.length:=List.length_pos_iff.2 hb0;obtain⟨bb,ob,cb,rfl,hCb,hLb⟩:=Ob hb.out hpb;rw [<- hF.out] at hs2;obtain⟨inv,hinv⟩:∃ inv,inv=lC (b.getD (b.length - 1) 0) 2147483645:=⟨_,rfl⟩;rw [Yn,<- hinv] at hs2
    cases hr:qI b inv F a with
    | none=>rw [hr] at hs2;cases hs2
    | some r1 =>
    rw [hr] at hs2;have hinvl:inv<2147483647:=by rw [hinv];exact EM _ _
    have hcl:=zH (fun W (hb:Below wr.heap.size wr W)=>Kq _ a W (ha.out.on hb) (by omega));have hlast:=hLb.getD (b.length-1);have hpw:=zH (fun W=>xC (b.getD (b.length-1) 0) 2147483645 W (by omega) (by omega));rw [<- hinv] at hpw;have hcell:∀ W,Below wr.heap.size wr W->W.cell? ⟨bb,ob+(b.length-1),none⟩=some (.int .u64 ((b.getD (b.length-1) 0:Nat):Int)):=fun W hb=>(hCb.on hb).ncell _ (by omega);generalize b.getD (b.length-1) 0=xl at hpw hcell;replace hinv:=zH hinv;replace hs2:=zH hs2;replace hr:=zH hr;replace hcell:=zH hcell;have hpos:(0:Int)<(b.length:Int):=by omega
    clear hlast hb0
    go_upto_region 4 with (fail)
    refine aF mixed (none) (0) (gp.none) [.eq (u0),.rst wr.heap.size a,.eq (.slice (some ⟨bb,ob,none⟩) b.length cb),.eq (.slice (some ⟨bb,ob,none⟩) b.length cb),.eq (.int .i64 b.length),.eq (.int .i64 ((b.length:Int)-1)),.eq (.pointer (some ⟨bb,ob+(b.length-1)*1,none⟩)),.eq (.int .u64 xl),.ret (.int .u64 inv)] [21,22,23,24,25,26,27,28,29] rfl rfl rfl rfl ⟨?_,?_,?_,?_,?_,?_,?_,?_,?_,trivial⟩ ?_
    ·exact fun _ _ a _ _ _=>xM rfl (a 0 rfl)
    ·intro A w1 hA hL hS he;have hb:=hS rfl;have h21:=eT 21 (he.1 rfl);have hf0:=eF A 138;refine ae rfl ?_;refine fI (f:=138) (args:=#[u0]) rfl rfl ?_ ?_
     ·exact gZ
     ·refine (hcl.out _ hb).mono ?_;rintro e w' ⟨v,rfl,hi,hb'⟩;exact⟨_,rfl,hb',hi.mono hb.size⟩
    ·exact fun _ _ a _ _ _=>xM rfl (a 1 rfl)
    ·exact fun _ _ a _ _ _=>xM rfl (a 1 rfl)
    ·intro A w1 hA hL hS he;have h24:=eT 24 (he.1 rfl);exact pZ rfl
    ·intro A w1 hA hL hS he;have h25:=eT 25 (he.1 rfl);have hc0:=eC A (.int .i64 1);refine ae rfl (aC rfl rfl ?_);generalize A.eval=ev at *;go_simp;exact kG (by omega) (by omega)
    ·exact fun _ _ _ _ _ e=>pI rfl Tryz.underlying94 bb ob (b.length-1) (by omega) (e.1 rfl) (e.2.1 rfl)
    ·intro A w1 hA hL hS he;have hb:=hL.below;have h27:=eT 27 (he.1 rfl);refine ae rfl ?_;have c0:=hcell.out w1 hb;exact aC rfl rfl gZ
    ·intro A w1 hA hL hS he;have hb:=hS rfl;have h28:=eT 28 (he.1 rfl);have hf0:=eF A 137;have hc0:=eC A (.int .i64 2147483645);exact cP (f:=137) (args:=#[.int .u64 xl,(.int .i64 2147483645)]) (hpw.out _)
    ·intro W1 hL1;have hb1:=hL1.below;simp only [aU,af.eq,af.rst,af.ret,af.of,lZ];rintro v22 h22;go_frame;have hbr1:=hbr.trans (hb1.mono hbr.size);have hbc:∀ W,Below wr.heap.size wr W->∀ k,k<b.length->W.cell? ⟨bb,ob+k,none⟩=some (.int .u64 ((b.getD k 0:Nat):Int)):=fun W hb k hk=>(hCb.on hb).ncell _ hk;replace hbc:=zH hbc;replace h22:=zH h22;clear hL1 hcl hpw hcell hCb;generalize wr=Wb at *;go_wp2
     go_loopg [5] F (fun m v5 wz=>∃ r,Hid (CK Wb.heap.size wz v5 r)/\Hid (qI b inv m r=some r1)/\r.length<=1000000/\Below Wb.heap.size Wb wz)
     case atStart=>exact⟨a,h22,hr,la,hb1⟩
     case round =>
      clear h22 hr hb1 hbr1;obtain⟨r,hR,hrun,lr,hbz⟩:=hrel;obtain⟨gk',hgk⟩:∃ gk',gk'=gk:=⟨_,rfl⟩
      cases gk with
      | zero=>exact absurd hrun.out (by simp [qI])
      | succ m =>
      clear hgk;have hrun2:=hrun.out;rw [qI] at hrun2;clear hrun;by_cases nz:b.length<=r.length
      ·rw [if_pos nz] at hrun2;obtain⟨g,cap,rfl,hcap,hgb,hgl,hcr,-,-,-⟩:=hR.out.open (by omega);obtain⟨A,hA⟩:∃ A,A=r.length - b.length:=⟨_,rfl⟩;have hA2:(r.length:Int) - (b.length:Int)=(A:Int):=by omega
       have hAb:A+b.length=r.length:=by omega
       rw [<- hA] at hrun2;have htop:=hR.out.isSl;obtain⟨-,-,-,-,-,hLr⟩:=yg.1 htop;have hct:=hcr (r.length - 1) (by omega);have hxl:=hLr.getD (r.length - 1);generalize r.getD (r.length - 1) 0=xt at *;obtain⟨f,hf⟩:∃ f,f=xt*inv % pr:=⟨_,rfl⟩;rw [<- hf] at hrun2;have hfl:f<2147483647:=by rw [hf];exact Km _
       have hxi:xt*inv<=2147483647*2147483647:=Nat.mul_le_mul (by omega) (by omega);have hfi:((xt:Int)*(inv:Int)) % 2147483647=(f:Int):=by rw [hf,lL];simp
       have hle':¬ (r.length:Int)<(b.length:Int):=by omega
       replace hrun2:=zH hrun2;have hst:Hid (CK Wb.heap.size wr (.slice (some ⟨g,0,none⟩) r.length cap) (gT b r f A 0)):=hR;clear hf hA hcr htop hR
       go_wp2_with (refine aj rfl (.tmp 35) (.tmp 38) _ rfl _ Tryz.underlying94 _ _ _ pO _ _ _ rfl _ _ rfl (r.length-1) (by omega) (by omega) g 0 rfl ?_;rw [Nat.mul_one,Nat.zero_add])
       go_loopw [51] (fun i wy=>∃ k:Nat,k<=b.length/\i=.int .i64 k/\Hid (CK Wb.heap.size wy (.slice (some ⟨g,0,none⟩) r.length cap) (gT b r f A k))/\Below Wb.heap.size Wb wy) (fun i _=>b.length-(intOf i).toNat)
       case atStart=>exact⟨0,by omega,rfl,hst,hbz⟩
       case round =>
        clear hst hbz;obtain⟨k,hk,rfl,hR,hbz⟩:=hrel;by_cases hkl:k<b.length
        ·have hkl':(k:Int)<(b.length:Int):=by omega
         have hlen:=yh b r f A k;obtain⟨g',cap',hvv,-,-,-,hcr,hfr,-,hset⟩:=hR.out.open (by omega);simp only [Value.slice.injEq,Option.some.injEq,Addr.mk.injEq,and_true] at hvv;obtain⟨rfl,-,rfl⟩:=hvv;have hsucc:gT b r f A (k+1)=(gT b r f A k).set (A+k) (((gT b r f A k).getD (A+k) 0+(pr - b.getD k 0)*f) % pr):=rfl;have hLr:=hR.out.isSl;obtain⟨-,-,-,-,-,hLr⟩:=yg.1 hLr;have h1:=hcr (A+k) (by omega);have h2:=hbc.out wr hbz k hkl;have h3:=hfr (A+k);have hx1:=hLr.getD (A+k);have hc1:=hLb.getD k;have hs9:=hset (A+k) (((gT b r f A k).getD (A+k) 0+(pr - b.getD k 0)*f) % pr) (by omega) (Km _);rw [<- hsucc] at hs9;obtain⟨nx,hnx⟩:∃ nx,nx=gT b r f A (k+1):=⟨_,rfl⟩;rw [<- hnx] at hs9;replace hnx:=zH hnx;clear hsucc;generalize (gT b r f A k).getD (A+k) 0=x at *;generalize b.getD k 0=c at *;obtain⟨d,hd⟩:∃ d,d=pr - c:=⟨_,rfl⟩;rw [<- hd] at hs9;rw [lL] at hd hs9;have hd2:(2147483647:Int) - (c:Int)=(d:Int):=by omega
         have hdf:d*f<=2147483647*2147483647:=Nat.mul_le_mul (by omega) (by omega);have hv9:(((x+d*f) % 2147483647:Nat):Int)=((x:Int)+(d:Int)*(f:Int)) % 2147483647:=by simp
         rw [hv9] at hs9;have hAk2:A+k<r.length:=by omega
         have hbz9:=hbz.trans (bI (W:=wr) (g:=g) (j:=A+k) hgb (.int .u64 (((x:Int)+(d:Int)*(f:Int)) % 2147483647)));replace hs9:=zH hs9;clear hcr hfr hset hv9 hd hR hLr hlen;replace hAb:=zH hAb
         go_wp2_with (first
          | (refine aj rfl (.tmp 49) (.tmp 51) _ rfl _ Tryz.underlying94 _ _ _ pO _ _ _ rfl _ _ rfl k rfl hkl bb ob rfl ?_;rw [Nat.mul_one])
          | (refine aj rfl (.tmp 60) (.tmp 63) _ rfl _ Tryz.underlying94 _ _ _ pO _ _ _ rfl _ _ rfl (A+k) (by omega) hAk2 g 0 rfl ?_;rw [Nat.mul_one,Nat.zero_add])
          | (refine aj rfl (.tmp 56) (.tmp 59) _ rfl _ Tryz.underlying94 _ _ _ pO _ _ _ rfl _ _ rfl (A+k) (by omega) hAk2 g 0 rfl ?_;rw [Nat.mul_one,Nat.zero_add]))
         go_roundw
         case rel=>exact⟨k+1,by omega,by go_num,by rw [<- hnx.out];exact hs9,hbz9⟩
         case measure=>simp [intOf];omega
        ·obtain rfl:k=b.length:=by omega
         have hlen:=yh b r f A b.length;generalize gT b r f A b.length=r2 at *;obtain⟨S,hS⟩:∃ S,S=strip r2:=⟨_,rfl⟩;have hst:Hid (strip r2=S):=zH hS.symm;have hrun3:Hid (qI b inv m S=some r1):=zH (by rw [hS];exact hrun2.out);clear hrun2 hS;go_wp2
         go_loopg [5] r.length (fun q v5 wy=>∃ r3,Hid (CK Wb.heap.size wy v5 r3)/\Hid (strip r3=S)/\r3.length<=q/\q<=1000000/\Below Wb.heap.size Wb wy)
         case atStart=>exact⟨r2,hR,hst,by omega,by omega,hbz⟩
         case round =>
          clear hR hst hbz hlen r2;obtain⟨r3,hR,hst,lr3,hq,hbz⟩:=hrel;by_cases hp3:0<r3.length
          ·obtain⟨g3,cap3,rfl,hcap3,hgb3,hgl3,hcr3,-,htk3,-⟩:=hR.out.open hp3;have hct3:=hcr3 (r3.length - 1) (by omega);have hxl3:=(yg.1 hR.out.isSl);obtain⟨-,-,-,-,-,hLr3⟩:=hxl3;have hx3:=hLr3.getD (r3.length - 1);have hz:=fun h=>Kn (r:=r3) hp3 h;have hnz:=fun h=>Ko (r:=r3) hp3 h;have htk:=htk3 (r3.length - 1) (by omega);have hp3':(0:Int)<(r3.length:Int):=by omega
           generalize r3.getD (r3.length-1) 0=x3 at *;clear hcr3 htk3 hLr3;by_cases hx0:x3=0
           ·subst hx0;have hstz:Hid (strip (r3.take (r3.length-1))=S):=zH (by rw [hz rfl];exact hst.out);have hlz:(r3.take (r3.length-1)).length=r3.length-1:=by rw [List.length_take];omega
            replace htk:=zH htk;clear hz hnz hst hR;obtain⟨q',hq'⟩:∃ q',gk=q'+1:=⟨gk - 1,by omega⟩;replace hq':=zH hq';generalize r3.take (r3.length - 1)=r4 at *;replace hlz:=zH hlz
            go_wp2_with (first
             | (refine aj rfl (.tmp 78) (.tmp 81) _ rfl _ Tryz.underlying94 _ _ _ pO _ _ _ rfl _ _ rfl (r3.length-1) (by omega) (by omega) g3 0 rfl ?_;rw [Nat.mul_one,Nat.zero_add])
             | (refine ni rfl _ _ 94 rfl Tryz.underlying94 (by kernel_rfl) _ _ _ rfl .i64 _ rfl (r3.length-1) (by omega) (by omega) ?_))
            go_roundg q'
            case measure=>have:=hq'.out;omega
            case rel=>exact⟨r4,by have h1:=htk.out;have h2:=hlz.out;rw [<- h2] at h1;rw [<- h2];exact zH h1,hstz,by have:=hq'.out;have:=hlz.out;omega,by have:=hq'.out;omega,hbz⟩
           ·have hfin:Hid (S=r3):=zH (by rw [<- hst.out];exact hnz hx0);have hne:((x3:Int) == 0)=false:=by simp;omega
            clear hz hnz hst htk hx0
            go_wp2_with (refine aj rfl (.tmp 78) (.tmp 81) _ rfl _ Tryz.underlying94 _ _ _ pO _ _ _ rfl _ _ rfl (r3.length-1) (by omega) (by omega) g3 0 rfl ?_;rw [Nat.mul_one,Nat.zero_add])
            go_roundg m
            case measure=>omega
            case rel=>exact⟨r3,hR,by rw [<- hfin.out];exact hrun3,by omega,hbz⟩
          ·obtain rfl:r3=[]:=List.eq_nil_of_length_eq_zero (by omega);have hfin:Hid (S=[]):=zH (by rw [<- hst.out];rfl);obtain⟨a3,c3,rfl,-⟩:=hR.out.isSl.shape;simp only [List.length_nil];clear hst;go_wp2;go_roundg m
           case measure=>omega
           case rel=>exact⟨[],hR,by rw [<- hfin.out];exact hrun3,by simp,hbz⟩
      ·rw [if_neg nz,Option.some.injEq] at hrun2;subst hrun2;obtain⟨ar,cr,rfl,-⟩:=hR.out.isSl.shape;have hle':(r.length:Int)<(b.length:Int):=by omega
       have hbW:=zH (hb.out.on hbz);have hbrz:=hbr.trans (hbz.mono hbr.size);have hRs:=zH hR.out.isSl;clear hR hb ha hbc;go_wp2;go_roundg n
       case measure=>omega
       case rel=>exact⟨b,r,hbW,hRs,hs2,lb,lr,hbrz⟩
end Go.Proofs.YtopclbeomcggiaaGreat
end
section
namespace Go.Proofs.YtopclbeomcggiaaGreat
open Go.RowKit Q Go.WideMaps Go.Maps
end Go.Proofs.YtopclbeomcggiaaGreat
end
section
namespace Q
open Go Go.Proofs.YtopclbeomcggiaaGreat
inductive Tg (sa sq:Sz) (b:List ai) (g:ai):Nat->List ai->List ai->Option (List ai)->Prop
 | done {out:List ai}:Tg sa sq b g 0 [] out (some out)
 | fail {m:ai} {a out:List ai}:(m.1.sub g.1).nat=false->Pk sa (m::a)->Tg sa sq b g 0 (m::a) out none
 | step {n:Nat} {m:ai} {a out:List ai} {r:Option (List ai)}:(m.1.sub g.1).nat=true->Pk sa (m::a)->Bd sq [ji m g]->out.length<=100000000 ->
   Tg sa sq b g n (dK (m::a) (aQ b [ji m g])) (out++[ji m g]) r->Tg sa sq b g (n+1) (m::a) out r
structure Yo (sa sb sq:Sz) (b:List ai) (g:ai):Prop where
 pb:Pk sb b
 hd:∃ r,b=g::r
 oq:sq.ok
 om:(sb.mul sq).ok
 os:((sb.mul sq).mul ⟨1,1,0,1⟩).ok
 gs:sa.D*g.2.num.natAbs<4294967296
end Q
namespace Go.Proofs.YtopclbeomcggiaaGreat
open Go.RowKit Q Go.WideMaps Go.Maps
def XP (m g:Ex):Nat->Ex
 | 0=>e0
 | k+1=>(XP m g k).put k (m.get k-g.get k)
end Go.Proofs.YtopclbeomcggiaaGreat
end
section
namespace Q
open Go Go.Proofs.YtopclbeomcggiaaGreat
end Q
namespace Go.Proofs.YtopclbeomcggiaaGreat
open Go Go.RowKit Q
def Xv (w:World) (s:List ai) (t:Bool) (e:Ending) (w':World):Prop:=∃ v,e=.returned (.tuple #[v,.bool t])/\ak w' v s/\Below w.heap.size w w'
end Go.Proofs.YtopclbeomcggiaaGreat
end
section
namespace Q
open Go Go.RowKit Go.Proofs.YtopclbeomcggiaaGreat
def VR (B E N k:Nat):Sz:=⟨2 ^ k,B*19 ^ k,E+k,N*3 ^ k⟩
def Yf:Sz:=⟨2,18,1,2⟩
def Yg (B E N M:Nat):Bool:=decide ((⟨1,B,E,N⟩:Sz).ok) && (List.range (M+1)).all (fun k=>decide ((VR B E N k).ok)) && (List.range M).all (fun k=>decide (((VR B E N k).mul Yf).ok) && decide ((((VR B E N k).mul Yf).add ⟨1,B,E,N⟩).le (VR B E N (k+1)))) && (List.range (M+1)).all (fun k=>decide ((VR B E N k).le (VR B E N M)))
def Yv (s:Sz) (d b e:Nat):Sz:=⟨s.D*d ^ e,s.B*b ^ e,s.E,s.N⟩
end Q
namespace Go.Proofs.YtopclbeomcggiaaGreat
open Go.RowKit Q
variable {w:World} {vp vq:Value} {p f:List ai}
end Go.Proofs.YtopclbeomcggiaaGreat
end
