/- law08: num, x, y; contracts at known values; quadratureref08.Factors. -/
import Derived.Test.YtopclbeomcggiaaGreatW32
set_option linter.unusedVariables false
set_option linter.unusedSimpArgs false
set_option maxHeartbeats 16000000
set_option maxRecDepth 100000
section
namespace Q
open Go Go.RowKit Go.Proofs.YtopclbeomcggiaaGreat
def WC (D:Nat):Sz:=⟨D,2^200,1000,900⟩
def Yd (l:List ai):Bool :=
 decide (l.length<=900)&&l.all (λt=>decide (-1000<=t.1.1)&&decide (t.1.1<=1000)&&decide (-1000<=t.1.2.1)&&decide (t.1.2.1<=1000)&&decide (-1000<=t.1.2.2.1)&&decide (t.1.2.2.1<=1000)&&decide (-1000<=t.1.2.2.2)&&decide (t.1.2.2.2<=1000))&&decide (zq l<=200)&&decide (bI l<=((2^200:Nat):Rat))
theorem LH{l:List ai}(h:Yd l=true):Bd (WC (zq l)) l/\zq l<=200:=by
 simp only[Yd,Bool.and_eq_true,decide_eq_true_eq,List.all_eq_true]at h;obtain⟨⟨⟨p,q⟩,r⟩,s⟩:=h;refine⟨⟨p,λt b=>?_,λt b=>?_,s⟩,r⟩
 ·obtain⟨⟨⟨⟨⟨⟨⟨d,e⟩,i⟩,j⟩,k⟩,m⟩,n⟩,o⟩:=q t b;exact⟨d,e,i,j,k,m,n,o⟩
 ·exact(GJ t.2).dvd (Jk b)
def Ry (l:List ai):Bool:=K7 l&&Yd l
theorem V5:2^200<2^1000:=dK
theorem Xv:2^200*2^200<2^1000:=dK
theorem Rz{D:Nat}(h:0<D)(b:D<=200):(WC D).ok:=⟨h,by show D<65536;omega,V5,by show 1000<1000000;omega,by show 900<1000000;omega⟩
theorem TT{D b:Nat}(h:0<D)(d:D<=200)(k:0<b)(k':b<=200):((WC D).mul (WC b)).ok:=by refine⟨Nat.mul_pos h k,?_,Xv,by show 1000+1000<1000000;omega,by show 900*900<1000000;omega⟩;have:=Nat.mul_le_mul d k';show D*b < 65536;omega
theorem uF{l:List ai}(h:Ry l=true):∃D,0<D/\D<=200/\Pk (WC D) l:=by rw[Ry,Bool.and_eq_true]at h;obtain⟨d,b⟩:=LH h.2;exact⟨zq l,qm l,b,CE.1 h.1,d,Rz (qm l) b⟩
theorem TU{D:Nat}(h:0<D)(b:D<=200):((WC D).mul ⟨1,1,0,1⟩).ok:=by
 refine⟨Nat.mul_pos h Nat.one_pos,?_,?_,by show 1000+0<1000000;omega,by show 900*1<1000000;omega⟩
 ·show D*1<65536;omega
 ·show 2^200*1<2^1000;rw[nU];exact V5
def V6 (c:Rat):Bool:=decide (c.den<65536)&&decide (c.num.natAbs<4294967296)
theorem TV{c:Rat}(h:V6 c=true):Rs c:=by simp only[V6,Bool.and_eq_true,decide_eq_true_eq]at h;refine⟨Nat.le_trans (jL (k:=16) h.1) oM,?_⟩;have:=jL (n:=c.num.natAbs) (k:=32) oM;omega
end Q
namespace Go.Proofs.YtopclbeomcggiaaGreat
open Go.RowKit Q
section
variable {w:World} {v u:Value} {p q r:List ai}
theorem Ai(e:pO p q=r)(h:Ry p=true)(d:Ry q=true)(hp:ak w v p)(hq:ak w u q):Calls Tryz.prog 39 #[v,u] w (aS w r):=by obtain⟨D,d1,d2,P⟩:=uF h;obtain⟨i,e1,j,b⟩:=uF d;exact e▸WW P b hp hq
theorem Aj(e:aX p q=r)(h:Ry p=true)(i:Ry q=true)(hp:ak w v p)(hq:ak w u q):Calls Tryz.prog 12 #[v,u] w (aS w r):=by obtain⟨D,d1,d2,P⟩:=uF h;obtain⟨j,e1,d,b⟩:=uF i;exact e▸Nf P b (TT d1 d2 e1 d) hp hq
theorem Nr(e:gH p q=r)(h:Ry p=true)(i:Ry q=true)(hp:ak w v p)(hq:ak w u q):Calls Tryz.prog 35 #[v,u] w (aS w r):=by obtain⟨D,d1,d2,P⟩:=uF h;obtain⟨j,e1,d,b⟩:=uF i;exact e▸WX P b (TU e1 d) hp hq
theorem A7{c:Rat}(e:bN p c=r)(h:Ry p=true)(b:V6 c=true)(hp:ak w v p)(hc:bM w u c):Calls Tryz.prog 42 #[v,u] w (aS w r):=by obtain⟨D,d1,d2,P⟩:=uF h;exact e▸VC P (TV b) hp hc
theorem qo(h:Ry p=true)(hp:ak w v p)(hq:ak w u p):Calls Tryz.prog 13 #[v,u] w (rE w (.bool true)):=by obtain⟨D,d1,d2,P⟩:=uF h;exact Jc P P rfl hp hq
theorem RA{g:List ai}(e:G8 p q=some g)(h:CY p=true)(b:CY q=true)(hp:ak w v p)(hq:ak w u q):Calls Tryz.prog 16 #[v,u] w (aS w g) :=
 (nV 6 p q g (kI h) (kI b) e).1 v u w hp hq
theorem Xw{g:List ai}(e:jT p=some g)(h:CY p=true)(hp:ak w v p):Calls Tryz.prog 14 #[v] w (aS w g):=nA v p g w hp (kI h) e
theorem Xx{g:List ai}(e:mG G8 p 0=some g)(h:CY p=true)(hp:ak w v p):Calls Tryz.prog 18 #[v,.int .i64 0] w (aS w g):=kK (nV 6) v p g 0 w dM hp (kI h) e
theorem Xy{g:List ai}(e:kW G8 p 0=some g)(h:CY p=true)(hp:ak w v p):Calls Tryz.prog 20 #[v,.int .i64 0] w (aS w g):=nH (nV 6) v p g 0 w dM hp (kI h) e
theorem Xz{R:List (List ai × Nat)}(e:WZ G8 p 0=some R)(h:CY p=true)(hp:ak w v p):Calls Tryz.prog 29 #[v,.int .i64 0] w (Rx w R):=Dj (nV 6) v p R 0 w hp (kI h) dM e
end
theorem jG(w:World):Calls Tryz.prog 40 #[] w (aS w [tm 1 1 0]):=by
 go_enter Tryz.func40,Tryz.ntmps40
 go_wp2_with (go_at_call 37;refine(Cz 0 _ oM).mono ?_;rintro e w3 ⟨v3,rfl,h3,hb3⟩)
 go_ret;exact⟨_,rfl,Yq▸h3,hb3⟩
theorem qN(w:World):Calls Tryz.prog 41 #[] w (aS w [tm 1 0 1]):=by
 go_enter Tryz.func41,Tryz.ntmps41
 go_wp2_with (go_at_call 37;refine(Cz 1 _ oM).mono ?_;rintro e w3 ⟨v3,rfl,h3,hb3⟩)
 go_ret;exact⟨_,rfl,Yr▸h3,hb3⟩
theorem fJ(n:Int)(p:List ai)(w:World)(h1:-1000<=n)(h2:n<=1000)(hp:bZ (n:Rat)=p)(hb:Yd [(e0,(n:Rat))]=true):Calls Tryz.prog 26 #[.int .i64 n] w (aS w p):=by
 have hc:=zH (λW v (hv:bM W v (n:Rat))=>wE v (n:Rat) _ W hv (LH hb).1 (Rz (qm _) (LH hb).2));rw[hp]at hc
 go_enter Tryz.func26,Tryz.ntmps26
 go_wp2_with (first
  | (go_at_call 24;refine(gG n _ oM oM).mono ?_;rintro e w3 ⟨v3,rfl,h3,hb3⟩)
  | (go_at_call 72;refine(hc.out _ _ h3).mono ?_;rintro e w4 ⟨v4,rfl,h4,hb4⟩))
 go_ret;exact⟨_,rfl,h4,hb3.trans (hb4.mono hb3.size)⟩
theorem LJ(p q:Value)(L:List (List ai × Nat))(w:World)(ha:Fv w p L)(hb:Fv w q L)(l:∀f∈L,Ry f.1=true)(x:L.length<=1000):Calls Tryz.prog 30 #[p,q] w (rE w (.bool true)):=by
 obtain⟨r,n,rfl,-⟩:=ha.shape;obtain⟨s,o,rfl,-⟩:=hb.shape;replace ha:=zH ha;replace hb:=zH hb;replace l:=zH l
 go_enter Tryz.func30,Tryz.ntmps30
 go_wp2
 go_loopw [5] (λi wr=>∃k:Nat,k<=L.length/\i=.int .i64 k/\Below w.heap.size w wr) (λi _=>L.length-(intOf i).toNat)
 case atStart=>exact⟨0,oM,nM,Below.refl _ _⟩
 case round =>
  obtain⟨k,u,rfl,d⟩:=hrel;by_cases b:k<L.length
  ·have j:L[k]?=some L[k]:=gE b;have m:=l.out _ (List.getElem_mem b);generalize L[k]=f at *;obtain⟨b1,o1,cs1,rfl,-,⟨v1,rfl,p1⟩,C1⟩:=(ha.out.on d).get j;obtain⟨b2,o2,Vx,rfl,-,⟨v2,rfl,p2⟩,C2⟩:=(hb.out.on d).get j;change bS _ wr b1 (o1+k*2) _ at C1;change bS _ wr b2 (o2+k*2) _ at C2;have y:(k:Int)<(L.length:Int):=oM;have c10:∀W,Below wr.heap.size wr W->W.cell? ⟨b1,o1+k*2,none⟩=some v1:=λW hb=>(C1.on hb).cell 0 sM;have c11:∀W,Below wr.heap.size wr W->W.cell? ⟨b1,o1+k*2+1,none⟩=some (.int .i64 (f.2:Int)):=λW hb=>(C1.on hb).cell 1 sM;have c20:∀W,Below wr.heap.size wr W->W.cell? ⟨b2,o2+k*2,none⟩=some v2:=λW hb=>(C2.on hb).cell 0 sM;have c21:∀W,Below wr.heap.size wr W->W.cell? ⟨b2,o2+k*2+1,none⟩=some (.int .i64 (f.2:Int)):=λW hb=>(C2.on hb).cell 1 sM;generalize f.2=e at *;clear C1 C2 j
   go_upto_region 6 with (fail)
   refine aC mixed (none) (0) (fK.none) [.eq (.slice (some ⟨b1,o1,none⟩) L.length n),.eq (.int .i64 k),.eq (.pointer (some ⟨b1,o1+k*2,none⟩)),.eq (.pointer (some ⟨b1,o1+k*2+1,none⟩)),.eq (.int .i64 e),.eq (.slice (some ⟨b2,o2,none⟩) L.length o),.eq (.int .i64 k),.eq (.pointer (some ⟨b2,o2+k*2,none⟩)),.eq (.pointer (some ⟨b2,o2+k*2+1,none⟩)),.eq (.int .i64 e),.eq (.bool false),.eq (.bool false),.eq (.slice (some ⟨b1,o1,none⟩) L.length n),.eq (.int .i64 k),.eq (.pointer (some ⟨b1,o1+k*2,none⟩)),.eq (.pointer (some ⟨b1,o1+k*2,none⟩)),.eq (v1),.eq (.slice (some ⟨b2,o2,none⟩) L.length o),.eq (.int .i64 k),.eq (.pointer (some ⟨b2,o2+k*2,none⟩)),.eq (.pointer (some ⟨b2,o2+k*2,none⟩)),.eq (v2),.ret (.bool true),.eq (.bool false),.eq (.bool false)] [17,18,19,20,21,22,23,24,25,26,27,28,29,30,31,32,33,34,35,36,37,38,39,40,41] rfl rfl rfl rfl ⟨λ_ _ a _ _ _=>xM rfl (a 0 rfl),λ_ _ a _ _ _=>xM rfl (a 5 rfl),λ_ _ _ _ _ e=>pI rfl Tryz.underlying50 b1 o1 k (b) (e.1 rfl) (e.2.1 rfl),λA _ _ _ _ he=>have h19:=eT 19 (he.1 rfl);pZ rfl,?_,λ_ _ a _ _ _=>xM rfl (a 1 rfl),λ_ _ a _ _ _=>xM rfl (a 5 rfl),λ_ _ _ _ _ e=>pI rfl Tryz.underlying50 b2 o2 k (b) (e.1 rfl) (e.2.1 rfl),λA _ _ _ _ he=>have h24:=eT 24 (he.1 rfl);pZ rfl,?_,λA _ _ _ _ he=>have h21:=eT 21 (he.1 rfl);have h26:=eT 26 (he.2.1 rfl);pZ rfl,λ_ _ _ _ _ e=>xM rfl (e.1 rfl),λ_ _ a _ _ e=>yM (e.1 rfl) rfl (a 0 rfl),λ_ _ a _ _ e=>yM (e.1 rfl) rfl (a 5 rfl),λ_ _ _ _ _ e=>aQ rfl rfl (e.2.2.1 rfl) (xI rfl Tryz.underlying50 b1 o1 k (b) (e.1 rfl) (e.2.1 rfl)),λA _ _ _ _ he=>have h28:=eT 28 (he.2.1 rfl);have h31:=eT 31 (he.1 rfl);yZ h28 rfl,?_,λ_ _ a _ _ e=>yM (e.1 rfl) rfl (a 1 rfl),λ_ _ a _ _ e=>yM (e.1 rfl) rfl (a 5 rfl),λ_ _ _ _ _ e=>aQ rfl rfl (e.2.2.1 rfl) (xI rfl Tryz.underlying50 b2 o2 k (b) (e.1 rfl) (e.2.1 rfl)),λA _ _ _ _ he=>have h28:=eT 28 (he.2.1 rfl);have h36:=eT 36 (he.1 rfl);yZ h28 rfl,?_,λA _ _ _ hS he=>have hb:=hS rfl;have h28:=eT 28 (he.2.2.1 rfl);have h33:=eT 33 (he.1 rfl);have h38:=eT 38 (he.2.1 rfl);have hf0:=eF A 13;cY (f:=13) (args:=#[v1,v2]) h28 (qo m (p1.on hb) (p2.on hb)),λA _ _ _ _ he=>have h28:=eT 28 (he.2.1 rfl);have h39:=eT 39 (he.1 rfl);yZ h28 rfl,λA _ _ _ _ he=>have h28:=eT 28 (he.1 rfl);have h40:=eT 40 (he.2.1 rfl);have hc0:=eC A (.bool true);pZ rfl,trivial⟩ ?_
   ·intro A w1 hA hL hS he;have h20:=eT 20 (he.1 rfl);refine ae rfl ?_;have c0:=c11 w1 hL.below;exact aB rfl rfl gZ
   ·intro A w1 hA hL hS he;have h25:=eT 25 (he.1 rfl);refine ae rfl ?_;have c0:=c21 w1 hL.below;exact aB rfl rfl gZ
   ·intro A w1 hA hL hS he;have h28:=eT 28 (he.2.1 rfl);have h32:=eT 32 (he.1 rfl);refine aQ rfl rfl h28 ?_;have c0:=c10 w1 hL.below;exact aB rfl rfl gZ
   ·intro A w1 hA hL hS he;have h28:=eT 28 (he.2.1 rfl);have h37:=eT 37 (he.1 rfl);refine aQ rfl rfl h28 ?_;have c0:=c20 w1 hL.below;exact aB rfl rfl gZ
   ·intro W5 hL5;have hb5:=hL5.below;simp only[aT,af.eq,af.ret,af.of,lZ];go_frame;clear hL5 c10 c11 c20 c21;go_wp2;go_roundw
    case rel=>exact⟨k+1,oM,nM,d.trans (hb5.mono d.size)⟩
    case measure=>simp[intOf];omega
  ·obtain rfl:L.length=k:=oM;go_wp2;go_ret;exact⟨rfl,d⟩
end Go.Proofs.YtopclbeomcggiaaGreat
end
section
namespace Q
open Go Go.Proofs.YtopclbeomcggiaaGreat
abbrev AA:=Int × Int × Int × Int
def RB (t:AA):Prop:=(-128<=t.1/\t.1<128)/\(-128<=t.2.1/\t.2.1<128)/\(-128<=t.2.2.1/\t.2.2.1<128)/\-128<=t.2.2.2/\t.2.2.2<128
def ou (t:AA):ai:=((t.1%256%3,t.2.1%256%3,t.2.2.1%256%2,0),((t.2.2.2.tmod 6:Int):Rat))
def zz (L:List AA):List ai:=(L.take 3).map ou
def wL (L:List AA):List ai:=canon (zz L)
def V7 (t:AA):AA:=(t.1,t.2.1,0,t.2.2.2)
def Ye (L:List AA):List ai:=wL ((L.take 3).map V7)
theorem LK(c:Int):bH ((c.tmod 6:Int):Rat)<=((5:Nat):Rat):=by
 rw[rabs_int];have:(c.tmod 6).natAbs<6:=by rw[Int.natAbs_tmod];exact Nat.mod_lt _ dM
 exact Rat.natCast_le_natCast.2 oM
theorem Dl:∀(L:List AA),bI (L.map ou)<=((5*L.length:Nat):Rat)
 | []=>by simp only[List.map_nil,bI,List.length_nil,Nat.mul_zero];exact Rat.natCast_nonneg
 | t::L=>by
  have d:=Dl L;have e:bH (ou t).2<=((5:Nat):Rat):=LK _
  have b:((5*(t::L).length:Nat):Rat)=((5:Nat):Rat)+((5*L.length:Nat):Rat):=by rw[<-Rat.natCast_add];congr 1;simp only[List.length_cons];omega
  rw[b];simp only[List.map_cons,bI];grind
def WE:Sz:=⟨1,15,2,3⟩
theorem Dn(L:List AA):Bd WE (zz L):=by
 have d:(L.take 3).length<=3:=by rw[List.length_take];exact Nat.min_le_left _ _
 refine⟨by simpa[zz,WE]using d,λt b=>?_,λt b=>?_,Rat.le_trans (Dl _) (Rat.natCast_le_natCast.2 (by show 5*(L.take 3).length<=15;omega))⟩
 ·obtain⟨s,e,rfl⟩:=List.mem_map.1 b;simp only[ou,WE];omega
 ·obtain⟨s,e,rfl⟩:=List.mem_map.1 b;refine⟨s.2.2.2.tmod 6,?_⟩;show((s.2.2.2.tmod 6:Int):Rat)*((1:Nat):Rat)=_;rw[show((1:Nat):Rat)=1 from rfl,Rat.mul_one]
theorem RD:WE.ok:=dK
theorem Dt(L:List AA):Pk WE (wL L):=⟨fA _,(Dn L).canon,RD⟩
end Q
namespace Go.Proofs.YtopclbeomcggiaaGreat
open Go.RowKit Q
def tJ (t:AA):List Value:=[.int .i8 t.1,.int .i8 t.2.1,.int .i8 t.2.2.1,.int .i8 t.2.2.2]
def V8 (T:TypeId):El AA where
 T:=T
 sz:=4
 pos:=by decide
 E _ cs t:=cs=tJ t/\RB t
 len:=by rintro w c t ⟨rfl,h⟩;rfl
 one:=by rintro w c t ⟨rfl,h⟩ v hv;simp only[tJ,List.mem_cons,List.not_mem_nil,or_false]at hv;rcases hv with rfl|rfl|rfl|rfl<;>rfl
 on:=λh _=>h
 ok _:=True
 lr:=λh _ _=>h
 self:=trivial
def wM (w:World) (v:Value) (l:List AA):Prop:=∃T,bU (V8 T) w v l
theorem wM.on{w w':World}{v:Value}{l:List AA}(h:wM w v l)(hb:Below w.heap.size w w'):wM w' v l:=let ⟨T,h⟩:=h;⟨T,h.on hb⟩
theorem wM.shape{w:World}{v:Value}{l:List AA}(h:wM w v l):∃b cap,v=.slice b l.length cap/\l.length<=cap:=let ⟨_,h⟩:=h;h.shape
theorem wM.get{w:World}{i:Option Addr}{n c j:Nat}{t:AA}{l:List AA}(h:wM w (.slice i n c) l)(m:l[j]?=some t):∃T b off,i=some ⟨b,off,none⟩/\RB t/\bS T w b (off+j*4) (tJ t):=by obtain⟨T,h⟩:=h;obtain⟨b,off,cs,e,-,⟨rfl,d⟩,k⟩:=h.get m;exact⟨T,b,off,e,d,k⟩
end Go.Proofs.YtopclbeomcggiaaGreat
end
section
namespace Q
open Go Go.RowKit Go.Proofs.YtopclbeomcggiaaGreat
theorem Fx{l:List Nat}(h:l.Nodup){i j x:Nat}(o:l[i]?=some x)(p:l[j]?=some x):i=j:=by
 have b:=(gS.1 o);have d:=(gS.1 p);obtain⟨e,k⟩:=b;obtain⟨m,n⟩:=d;have hp:=List.pairwise_iff_getElem.1 h;rcases Nat.lt_trichotomy i j with hlt|heq|hgt
 ·exact absurd (k.trans n.symm) (hp i j e m hlt)
 ·exact heq
 ·exact absurd (n.trans k.symm) (hp j i m e hgt)
theorem tq.hd{base:Nat}{w:World}{g N:Nat}{bs:List Nat}{M:Mx}(h:tq base w g N bs M){i b:Nat}(hb:bs[i]?=some b):w.cell? ⟨g,i,none⟩=some (nY N b):=by have d:i<bs.length:=(gS.1 hb).1;refine h.ob.at1 i _ ?_;rw[List.getElem?_append_left (by rw[List.length_map];exact d),List.getElem?_map,hb];rfl
theorem tq.lt{base:Nat}{w:World}{g N:Nat}{bs:List Nat}{M:Mx}(h:tq base w g N bs M):g<w.heap.size:=h.ob.lt
theorem tq.push{base:Nat}{w:World}{g N:Nat}{bs:List Nat}{M:Mx}(h:tq base w g N bs M)(C:bs.length<N){b:Nat}{r:List (List ai)}(q:mi base w N b r)(hb:b∉bs) :
  tq base (w.setCell ⟨g,bs.length,none⟩ (nY N b)) g N (bs++[b]) (M++[r]):=by
 have p:=aY (j:=bs.length) h.ob (nY N b);refine⟨?_,h.gb,by simp[h.len],by simp;omega,λi s B k l=>?_,?_⟩
 ·have n:=h.ob.set bs.length (nY N b)
  have e:(bs.map (nY N)++List.replicate (N-bs.length) (Value.slice none 0 0)).set bs.length (nY N b)=(bs++[b]).map (nY N)++List.replicate (N-(bs++[b]).length) (Value.slice none 0 0):=by
   obtain⟨d,hd⟩:∃d,N - bs.length=d+1:=⟨N - bs.length - 1,oM⟩;have m:N - (bs++[b]).length=d:=by simp;omega
   rw[hd,m,List.set_append_right _ _ sM,List.length_map,Nat.sub_self,List.replicate_succ,List.set_cons_zero,List.map_append,List.append_assoc];rfl
  rw[e]at n;exact n
 ·rcases Nat.lt_or_ge i bs.length with hi|hi
  ·rw[List.getElem?_append_left hi]at k;rw[List.getElem?_append_left (by rw[h.len];exact hi)]at l;have o:=h.row i s B k l;exact o.lr p dM dM (o.ne h.ob)
  ·rw[List.getElem?_append_right hi]at k;rw[List.getElem?_append_right (by rw[h.len];exact hi),h.len]at l;rcases Nat.eq_zero_or_pos (i - bs.length)with h0|h0
   ·rw[h0]at k l;simp only[List.getElem?_cons_zero,sJ]at k l;subst k;subst l;exact q.lr p dM dM (q.ne h.ob)
   ·rw[gN (by simp;omega)]at k;cases k
 ·rw[List.nodup_append];refine⟨h.nd,sM,λx u y z=>?_⟩;rw[List.mem_singleton.1 z];rintro rfl;exact hb u
theorem tq.set{base:Nat}{w:World}{g N:Nat}{bs:List Nat}{M:Mx}(h:tq base w g N bs M){i b j:Nat}(hb:bs[i]?=some b)(u:j<N){v:Value}{q:List ai}(hq:ak w v q) :
  tq base (w.setCell ⟨b,j,none⟩ v) g N bs (Es M i j q)/\Lr (some b) polyT w (w.setCell ⟨b,j,none⟩ v)/\base<=b:=by
 have n:i<bs.length:=(gS.1 hb).1;have s:M[i]?=some (M.getD i []):=by rw[jD,gE (by rw[h.len];exact n)];rfl
 have m:=h.row i b _ hb s;obtain⟨r,l⟩:=m.set u hq;refine⟨⟨h.ob.lr l (by simpa using(m.ne h.ob).symm),h.gb,by rw[Es,List.length_set];exact h.len,h.le,λo p x e k=>?_,h.nd⟩,l,m.1⟩;by_cases d:i=o
 ·subst d;rw[hb]at e;cases e;rw[Es,List.getElem?_set,if_pos rfl,if_pos (by rw[h.len];exact n)]at k;cases k;exact r
 ·rw[Es,List.getElem?_set,if_neg d]at k;refine(h.row o p x e k).lr l dM dM ?_;rintro rfl;exact d (Fx h.nd hb e)
theorem Pj(M:Mx)(r:List (List ai))(j:Nat)(x:List ai):Es (M++[r]) M.length j x=M++[r.set j x]:=by unfold Es;rw[jD,List.getElem?_append_right (nL _),Nat.sub_self,List.set_append_right _ _ (nL _),Nat.sub_self];rfl
end Q
namespace Go.Proofs.YtopclbeomcggiaaGreat
open Go.RowKit Q Go.WideMaps Go.Maps
def V9 (w:World) (N:Nat) (M:Mx) (e:Ending) (w':World):Prop:=∃g bs,e=.returned (.slice (some ⟨g,0,none⟩) N N)/\tq w.heap.size w' g N bs M/\Below w.heap.size w w'
theorem Et(va vb:Value)(a b:List (List ai))(w:World)(ha:je w va a)(hb:je w vb b)(la:1<=a.length)(la2:a.length<=100001)(lb:1<=b.length)(lb2:b.length<=100001) :
  Calls Tryz.prog 76 #[va,vb] w (V9 w (a.length-1+(b.length-1)) (VS a b)):=by
 obtain⟨aa,ca,rfl,ag⟩:=ha.shape;obtain⟨ab,cb,rfl,an⟩:=hb.shape;obtain⟨m,hm⟩:∃m,a.length=m+1:=⟨a.length - 1,oM⟩;obtain⟨n,hn⟩:∃n,b.length=n+1:=⟨b.length - 1,oM⟩;have o:∀i,ja a b (m+n) i=if n<=i then mP b (i - n) (m+n) b.length else mP a i (m+n) a.length:=λi=>by rw[ja,hn,Nat.add_sub_cancel]
 have C:VS a b=(List.range (m+n)).map (ja a b (m+n)):=by rw[VS,hm,hn,Nat.add_sub_cancel,Nat.add_sub_cancel]
 rw[C,(oM:a.length-1+(b.length-1)=m+n)];have hm2:(a.length:Int)-1=(m:Int):=oM;have hn2:(b.length:Int)-1=(n:Int):=oM;have ap:m<=100000:=oM;have aq:n<=100000:=oM;replace o:=zH o;replace ha:=zH ha;replace hb:=zH hb;replace hm:=zH hm;replace hn:=zH hn;clear C
 go_enter Tryz.func76,Tryz.ntmps76
 go_wp2_with (at_make;refine bL rfl _ _ _ rfl GR (.slice none 0 0) 1 24 Tryz.underlying84 kM rfl rfl .i64 .i64 _ _ (m+n) rfl rfl oM oM oM oM ?_;intro w2 own2 gr2)
 have J:Hid (tq w.heap.size w2 w.heap.size (m+n) [] ((List.range 0).map (ja a b (m+n)))):=zH ⟨by simpa using(show Blk w2 w.heap.size GR (List.replicate (m+n) (Value.slice none 0 0))from own2),nL _,rfl,sM,λi b r h=>by simp at h,List.nodup_nil⟩;generalize hg:w.heap.size=g at J ⊢;have a5:w.heap.size<=g:=oM;clear own2
 go_loopw [24] (λi wr=>∃(k:Nat)(bs:List Nat),k<=m+n/\i=.int .i64 k/\bs.length=k/\Hid (tq w.heap.size wr g (m+n) bs ((List.range k).map (ja a b (m+n))))/\Below w.heap.size w wr) (λi _=>m+n-(intOf i).toNat)
 case atStart=>exact⟨0,[],oM,nM,rfl,by rw[hg];exact J,gr2⟩
 case round =>
  clear J gr2;replace hg:=zH hg;obtain⟨k,bs,hk,rfl,u,hM,q⟩:=hrel;by_cases Z:k<m+n
  ·have ad:(k:Int)<(m:Int)+(n:Int):=oM;have hM0:=hM.out;have a4:=hM0.lt;have hz:=hM0.ob.at1 k (.slice none 0 0) (by rw[List.getElem?_append_right (by rw[List.length_map];omega),List.length_map,u,Nat.sub_self,List.getElem?_replicate,if_pos oM]);have hf:=hM0.ob.frozen k
   go_upto_region 7 with (first
    | (at_make;refine bL rfl _ _ _ rfl polyT (.slice none 0 0) 1 24 Tryz.underlying75 kM rfl rfl .i64 .i64 _ _ (m+n) rfl rfl oM oM oM oM ?_;intro w3 own3 gr3;have hz3:=(hM0.on gr3).ob.at1 k (.slice none 0 0) (by rw[List.getElem?_append_right (by rw[List.length_map];omega),List.length_map,u,Nat.sub_self,List.getElem?_replicate,if_pos oM]);have hf3:=(hM0.on gr3).ob.frozen k)
    | (refine aj rfl (.tmp 27) (.tmp 28) _ rfl _ Tryz.underlying84 _ 1 24 kM _ _ _ rfl _ _ rfl k rfl Z g 0 rfl ?_;rw[nU,Nat.zero_add]))
   have hM3:=hM0.on gr3
   have B:wr.heap.size∉bs:=λa6=>by
    obtain⟨i,hi,he⟩:=List.getElem_of_mem a6;have h1:bs[i]?=some wr.heap.size:=by rw[gE hi,he]
    have h2:((List.range k).map (ja a b (m+n)))[i]?=some (((List.range k).map (ja a b (m+n))).getD i []):=by rw[jD,gE (by simp;omega)];rfl
    have h3:=hM0.row i _ _ h1 h2;obtain⟨-,-,-,-,h4⟩:=h3.get (j:=0) oM;omega
   have a2:mi w.heap.size w3 (m+n) wr.heap.size (List.replicate (m+n) []):=by refine⟨q.size,sM,List.replicate (m+n) (.slice none 0 0),⟨own3,sM,λi v p h1 h2=>?_⟩,sM⟩;rw[xJ h1,xJ h2];exact bU.nil _ _
   have d:=hM3.push oM a2 B;rw[u]at d;have hb4:=(q.trans (gr3.mono q.size)).trans (bF (W:=w3) (g:=g) (j:=k) a5 (nY (m+n) wr.heap.size));have hst0:Hid (tq w.heap.size (w3.setCell ⟨g,k,none⟩ (nY (m+n) wr.heap.size)) g (m+n) (bs++[wr.heap.size]) ((List.range k).map (ja a b (m+n))++[List.replicate (m+n) []])):=zH d;obtain⟨gb,S⟩:∃gb,gb=wr.heap.size:=⟨_,rfl⟩;rw[<-S]at hst0 hb4 ⊢;obtain⟨W4,hW4⟩:∃W4,W4=w3.setCell ⟨g,k,none⟩ (nY (m+n) gb):=⟨_,rfl⟩;rw[<-hW4]at hst0 hb4;change Code.wp _ _ _ _ (w3.setCell ⟨g,k,none⟩ (nY (m+n) gb));rw[<-hW4];clear hM hM0 hM3 hz hf own3 gr3 hz3 hf3 B a2 d hW4 S a4 q
   go_upto_if 38 with (fail)
   go_cut [9,10,39,40,41,42] (λvl vt _ _ _ _ wc=>∃(l:List (List ai))(t:Nat),vt=.int .i64 t/\Hid (je w vl l)/\Hid (ja a b (m+n) k=mP l t (m+n) l.length)/\1<=l.length/\l.length<=100001/\t+l.length<=m+n/\Hid (tq w.heap.size wc g (m+n) (bs++[gb]) ((List.range k).map (ja a b (m+n))++[List.replicate (m+n) []]))/\Below w.heap.size w wc)
   case first =>
    by_cases a7:n<=k
    ·have a0:(n:Int)<=(k:Int):=oM;obtain⟨t,ht⟩:∃t,t=k - n:=⟨_,rfl⟩;have ht2:(k:Int) - (n:Int)=(t:Int):=oM;have hr9:=zH (o.out k);replace ht:=zH ht;go_wp2;go_meet
     case rel=>exact⟨b,t,rfl,hb,zH (by rw[hr9.out,if_pos a7,ht.out]),lb,lb2,by have:=ht.out;have:=hn.out;omega,hst0,hb4⟩
    ·have a0:¬(n:Int)<=(k:Int):=oM;have hr9:=zH (o.out k);go_wp2;go_meet
     case rel=>exact⟨a,k,rfl,ha,zH (by rw[hr9.out,if_neg oM]),la,la2,by have:=hm.out;omega,hst0,hb4⟩
   case rest =>
    clear hst0 hb4;obtain⟨l,t,rfl,hl,I,ll,ll2,au,hM,N⟩:=hcut;obtain⟨al,cl,rfl,-⟩:=hl.out.shape;go_wp2
    go_loopw [45] (λi wz=>∃j:Nat,j<=l.length/\i=.int .i64 j/\Hid (tq w.heap.size wz g (m+n) (bs++[gb]) ((List.range k).map (ja a b (m+n))++[mP l t (m+n) j]))/\Below w.heap.size w wz) (λi _=>l.length-(intOf i).toNat)
    case atStart=>exact⟨0,oM,nM,hM,N⟩
    case round =>
     clear hM N;obtain⟨j,hj,rfl,hM,x⟩:=hrel;by_cases Y:j<l.length
     ·have F:l[j]?=some l[j]:=gE Y;have X:l.getD j []=l[j]:=by rw[jD,F];rfl
      have hl0:=hl.out.on x;generalize l[j]=c at *;obtain⟨M,ol,vc,rfl,L,hC⟩:=ve hl0 F;have a9:=bU.shape L;obtain⟨p,hp⟩:∃p,p=t+l.length - 1 - j:=⟨_,rfl⟩;have a8:(t:Int)+(l.length:Int) - 1 - (j:Int)=(p:Int):=oM;have G:p<m+n:=oM;have hM0:=hM.out;have D:(bs++[gb])[k]?=some gb:=by rw[List.getElem?_append_right oM,u,Nat.sub_self];rfl
      have hlen9:((List.range k).map (ja a b (m+n))).length=k:=sM
      have s:Hid ((List.range k).map (ja a b (m+n))++[mP l t (m+n) (j+1)]=Es ((List.range k).map (ja a b (m+n))++[mP l t (m+n) j]) k p c):=zH (by
       have h1:=Pj ((List.range k).map (ja a b (m+n))) (mP l t (m+n) j) p c;rw[hlen9]at h1
       rw[h1,mP,<-hp,X])
      have z:∀W,Below wr.heap.size wr W->W.cell? ⟨g,k,none⟩=some (.slice (some ⟨gb,0,none⟩) (m+n) (m+n)):=λW hb=>(hM0.on hb).hd D
      have y:∀W,Below wr.heap.size wr W->W.cell? ⟨M,ol+j,none⟩=some vc:=λW hb=>by have h1:=(hC.on hb).cell 0 sM;simpa using h1
      have ao:(l.length:Int)<=100001:=oM;have ar:(t:Int)<=200000:=oM;replace z:=zH z;replace y:=zH y;replace hp:=zH hp;clear hC F X hlen9 I
      go_upto_region 13 with (fail)
      refine aC mixed (none) (0) (fK.none) [.eq (.slice (some ⟨g,0,none⟩) (m+n) (m+n)),.eq (.int .i64 k),.eq (.pointer (some ⟨g,0+k*1,none⟩)),.eq (.slice (some ⟨gb,0,none⟩) (m+n) (m+n)),.eq (.int .i64 t),.eq (.slice (some ⟨M,ol,none⟩) l.length cl),.eq (.int .i64 l.length),.eq (.int .i64 ((t:Int)+l.length)),.eq (.int .i64 ((t:Int)+l.length-1)),.eq (.int .i64 j),.eq (.int .i64 p),.eq (.slice (some ⟨M,ol,none⟩) l.length cl),.eq (.int .i64 j),.eq (.pointer (some ⟨M,ol+j*1,none⟩)),.eq (vc),.eq (.pointer (some ⟨gb,0+p*1,none⟩))] [48,49,50,51,52,53,54,55,56,57,58,59,60,61,62,63] rfl rfl rfl rfl ⟨λ_ _ a _ _ _=>xM rfl (a 7 rfl),λ_ _ a _ _ _=>xM rfl (a 8 rfl),λ_ _ _ _ _ e=>pI rfl Tryz.underlying84 g 0 k (Z) (e.1 rfl) (e.2.1 rfl),?_,λ_ _ a _ _ _=>xM rfl (a 10 rfl),λ_ _ a _ _ _=>xM rfl (a 9 rfl),λA _ _ _ _ he=>have h53:=eT 53 (he.1 rfl);pZ rfl,?_,?_,λ_ _ a _ _ _=>xM rfl (a 11 rfl),?_,λ_ _ a _ _ _=>xM rfl (a 9 rfl),λ_ _ a _ _ _=>xM rfl (a 11 rfl),λ_ _ _ _ _ e=>pI rfl Tryz.underlying75 M ol j (Y) (e.1 rfl) (e.2.1 rfl),?_,λ_ _ _ _ _ e=>pI rfl Tryz.underlying75 gb 0 p (G) (e.1 rfl) (e.2.1 rfl),trivial⟩ ?_
      ·intro A w1 hA hL hS he;have h50:=eT 50 (he.1 rfl);refine ae rfl ?_;have c0:=z.out w1 hL.below;exact aB rfl rfl gZ
      ·intro A w1 hA hL hS he;have h52:=eT 52 (he.1 rfl);have h54:=eT 54 (he.2.1 rfl);refine ae rfl (aB rfl rfl ?_);generalize A.eval=ev at *;go_simp;exact lW oM oM
      ·intro A w1 hA hL hS he;have h55:=eT 55 (he.1 rfl);have hc0:=eC A (.int .i64 1);refine ae rfl (aB rfl rfl ?_);generalize A.eval=ev at *;go_simp;exact lW oM oM
      ·intro A w1 hA hL hS he;have h56:=eT 56 (he.1 rfl);have h57:=eT 57 (he.2.1 rfl);refine ae rfl (aB rfl rfl ?_);generalize A.eval=ev at *;go_simp
       (first|exact lW oM oM|(rw[a8];exact lW oM oM))
      ·intro A w1 hA hL hS he;have h61:=eT 61 (he.1 rfl);refine ae rfl ?_;have c0:=y.out w1 hL.below;exact aB rfl rfl gZ
      ·intro W5 hL5;have hb5:=hL5.below;simp only[aT,af.eq,lZ];go_frame;have hM5:=hM0.on hb5;have a1:=hM5.row k gb _ D (show((List.range k).map (ja a b (m+n))++[mP l t (m+n) j])[k]?=some (mP l t (m+n) j) by rw[List.getElem?_append_right sM,List.length_map,List.length_range,Nat.sub_self];rfl);obtain⟨vo,-,z5,f5,-⟩:=a1.get G;obtain⟨hM6,hl6,hgb6⟩:=hM5.set D G (L.on hb5);have a3:Hid (tq w.heap.size (W5.setCell ⟨gb,p,none⟩ vc) g (m+n) (bs++[gb]) ((List.range k).map (ja a b (m+n))++[mP l t (m+n) (j+1)])):=zH (by rw[s.out];exact hM6);have hb6:=(x.trans (hb5.mono x.size)).trans (bF (W:=W5) (g:=gb) (j:=p) hgb6 vc);clear hM5 a1 hM6 hl6 hM0 hM hl0 z y hL5 s L;obtain⟨ac,cc,rfl,-⟩:=a9;go_wp2;go_roundw
       case rel=>exact⟨j+1,oM,nM,a3,hb6⟩
       case measure=>simp[intOf];omega
     ·obtain rfl:j=l.length:=oM
      have hM2:Hid (tq w.heap.size wr g (m+n) (bs++[gb]) ((List.range (k+1)).map (ja a b (m+n)))):=zH (by
       rw[List.range_succ,List.map_append,List.map_cons,List.map_nil,I.out];exact hM.out)
      clear hM hl I;go_wp2;go_roundw
      case rel=>exact⟨k+1,bs++[gb],oM,nM,by simp;omega,hM2,x⟩
      case measure=>simp[intOf];omega
  ·obtain rfl:k=m+n:=oM;go_wp2;go_ret;exact⟨g,bs,rfl,hM.out,q⟩
end Go.Proofs.YtopclbeomcggiaaGreat
end
section
namespace Q
def PO (p:Nat):Prop:=1<p/\∀m,m∣p->m=1\/m=p
theorem Wd:∀n:Nat,1<n->∃p,PO p/\p∣n:=λn=>by
 induction n using Nat.strongRecOn with
 | _ n ih =>
  intro h;by_cases hp:PO n
  ·exact⟨n,hp,Nat.dvd_refl n⟩
  ·have:∃m,m∣n/\m≠1/\m≠n:=by
    rcases Classical.em (∃m,m∣n/\m≠1/\m≠n)with h'|h'
    ·exact h'
    ·exfalso;apply hp;refine⟨h,λm hm=>?_⟩;rcases Classical.em (m=1)with b|b
     ·exact .inl b
     ·rcases Classical.em (m=n)with d|d
      ·exact .inr d
      ·exact absurd ⟨m,hm,b,d⟩ h'
   obtain⟨m,hm,b,d⟩:=this;have kQ:=Nat.le_of_dvd oM hm;have i:m≠0:=λe=>by rw[e]at hm;have:=Nat.eq_zero_of_zero_dvd hm;omega
   obtain⟨p,hp,hd⟩:=ih m oM oM;exact⟨p,hp,Nat.dvd_trans hd hm⟩
theorem A8{p:Nat}(hp:PO p){a b:Int}(h:(p:Int)∣a*b):(p:Int)∣a\/(p:Int)∣b:=by
 rcases hp.2 _ (Nat.gcd_dvd_left p a.natAbs)with h1|h1
 ·right;have d:p∣a.natAbs*b.natAbs:=by rw[<-Int.natAbs_mul];exact Int.ofNat_dvd_left.1 h
  exact Int.ofNat_dvd_left.2 (Nat.Coprime.dvd_of_dvd_mul_left h1 d)
 ·left;have:=Nat.gcd_dvd_right p a.natAbs;rw[h1]at this;exact Int.ofNat_dvd_left.2 this
namespace MP
theorem sO(r:Rat)(p:MP):c r*p=⟨bN p.l r,p.v.scale r⟩:=ext' λx=>by rw[ev_mul,ev_c];have:=Q.ev_scale x p.l r;show r*Q.ev x p.l=Q.ev x (bN p.l r);rw[this];grind
theorem sP(r:Rat)(p:MP):(c r*p).am=bH r*p.am:=by
 rw[sO];show bI (bN p.l r)=bH r*bI p.l;unfold bN;split
 ·rename_i h;rw[h];show(0:Rat)=_;have e:bH 0=0:=dM;rw[e];grind
 ·induction p.l with
  | nil=>simp only[List.map_nil,bI];grind
  | cons t l b=>simp only[List.map_cons,bI,jK]at *;grind
theorem Du{r:Rat}{p:MP}{t:ai}(h:t∈(c r*p).l):∃s∈p.l,t=(s.1,s.2*r):=by rw[sO]at h;exact zm h
theorem ry{D:Nat}{p:MP}(h:p.dv D):(c (D:Rat)*p).dv 1:=λt e=>by obtain⟨s,d,rfl⟩:=Du e;obtain⟨k,b⟩:=h s d;exact⟨k,by show s.2*D*((1:Nat):Rat)=k;rw[b,show((1:Nat):Rat)=1 from rfl,Rat.mul_one]⟩
theorem jH{D:Nat}(h:0<D):(D:Rat)≠0:=λb=>by have:(D:Rat)=((0:Nat):Rat):=b;have:=Rat.natCast_inj.1 this;omega
theorem LM{D:Nat}(d:0<D){p:MP}(h:(c (D:Rat)*p).dv 1):p.dv D:=λt b=>by
 have e:cf (c (D:Rat)*p).l t.1=D*t.2:=by rw[qF,Ld b]
 obtain⟨z,hz⟩:=iI (Fg h t.1);exact⟨z,by rw[<-hz,e];grind⟩
def Dw (p:Nat) (P:MP):Prop:=∃P':MP,P'.dv 1/\P=c (p:Rat)*P'
theorem GU{p:Nat}{a b:MP}(h:Dw p a)(d:Dw p b):Dw p (a+b):=by obtain⟨x,e,rfl⟩:=h;obtain⟨y,i,rfl⟩:=d;exact⟨x+y,CO e i,gR⟩
theorem TW{p:Nat}{a b:MP}(h:Dw p a)(d:Dw p b):Dw p (a-b):=by obtain⟨x,e,rfl⟩:=h;obtain⟨y,i,rfl⟩:=d;exact⟨x - y,CP e i,gR⟩
theorem Ns{p:Nat}{a b:MP}(h:Dw p a)(d:b.dv 1):Dw p (a*b):=by obtain⟨x,e,rfl⟩:=h;exact⟨x*b,jf e d,gR⟩
theorem RF{p:Nat}{a b:MP}(h:Dw p b)(d:a.dv 1):Dw p (a*b):=by obtain⟨x,e,rfl⟩:=h;exact⟨a*x,jf d e,gR⟩
theorem uG(p:Nat):Dw p 0:=⟨0,GD 1,gR⟩
theorem TY(f:Ex->Rat)(b:ai->Bool)(l:List ai):Lf f l=Lf f (l.filter b)+Lf f (l.filter λt=>!b t):=by
 induction l with
 | nil=>simp only[List.filter_nil,Lf];grind
 | cons t l d=>cases hb:b t<;>simp only[List.filter_cons,hb,Lf,d,Bool.not_true,Bool.not_false,if_true,if_false,Bool.false_eq_true]<;>grind
def SI (b:ai->Bool) (p:MP):MP:=⟨p.l.filter b,p.v.sublist List.filter_sublist⟩
theorem GV(b:ai->Bool)(p:MP):p=SI b p+SI (λt=>!b t) p:=Oo λf=>by rw[lf_add];exact TY f b p.l
theorem LP{D:Nat}{b:ai->Bool}{p:MP}(h:p.dv D):(SI b p).dv D:=λt d=>h t (List.mem_filter.1 d).1
def vI (p:Nat) (t:ai):Bool:=decide (t.2.num%(p:Int)=0)
theorem GX{p:Nat}(hp:0<p){P:MP}(h:P.dv 1):Dw p (SI (vI p) P):=by
 refine⟨c ((p:Rat)⁻¹)*SI (vI p) P,λt n=>?_,?_⟩
 ·obtain⟨s,m,rfl⟩:=Du n;have d:s∈P.l.filter (vI p):=m;obtain⟨i,j⟩:=List.mem_filter.1 d;obtain⟨z,hz⟩:=iI (h s i);have b:s.2.num%(p:Int)=0:=of_decide_eq_true j;rw[hz]at b;have b:z%(p:Int)=0:=b;obtain⟨k,rfl⟩:=Int.dvd_of_emod_eq_zero b;refine⟨k,?_⟩;show s.2*(p:Rat)⁻¹*((1:Nat):Rat)=k;rw[hz,Rat.intCast_mul,iN,show((1:Nat):Rat)=1 from rfl];have:=Rat.mul_inv_cancel _ (jH hp);grind
 ·have e:c (p:Rat)*c ((p:Rat)⁻¹)=1:=by rw[mg,Rat.mul_inv_cancel _ (jH hp)];rfl
  grind
theorem TZ{G H:MP}{s t:ai}{l r:List ai}(b:G.l=s::l)(d:H.l=t::r):cf (G*H).l (s.1.add t.1)=s.2*t.2:=by have e:cf (G*H).l (s.1.add t.1)=cf (prods G.l H.l) (s.1.add t.1):=(kN (G.v.nat.prods H.v.nat)).cf _;rw[e,b,d];exact qI (by rw[<-b];exact G.v.1) (by rw[<-d];exact H.v.1)
theorem Fy{p:Nat}(hp:PO p){G H:MP}(K:G.dv 1)(C:H.dv 1)(h:Dw p (G*H)):Dw p G\/Dw p H:=by
 have k:0<p:=by have:=hp.1;omega
 have E:=GV (vI p) G;have F:=GV (vI p) H;have L:=GX k K;have zH:=GX k C;obtain⟨i,b⟩:∃g,g=SI (λt=>!vI p t) G:=⟨_,rfl⟩;obtain⟨j,d⟩:∃g,g=SI (λt=>!vI p t) H:=⟨_,rfl⟩;have u:i.dv 1:=by rw[b];exact LP K
 have D:j.dv 1:=by rw[d];exact LP C
 rw[<-b]at E;rw[<-d]at F
 cases hGl:i.l with
 | nil=>left;rw[E,zero_iff.2 hGl];exact GU L (uG p)
 | cons s l =>
  cases hHl:j.l with
  | nil=>right;rw[F,zero_iff.2 hHl];exact GU zH (uG p)
  | cons t r =>
   exfalso
   have hz:Dw p (i*j):=by have e:i*j=G*H-(SI (vI p) G*H+i*SI (vI p) H):=gR;rw[e];exact TW h (GU (Ns L C) (RF zH u))
   obtain⟨W,S,M⟩:=hz;have B:=TZ hGl hHl;rw[M,qF]at B;obtain⟨z,hz⟩:=iI (Fg S (s.1.add t.1));obtain⟨x,I⟩:=iI (u s (by rw[hGl];simp));obtain⟨y,J⟩:=iI (D t (by rw[hHl];simp));rw[hz,I,J,<-iN,<-Rat.intCast_mul,<-Rat.intCast_mul]at B;have N:=Rat.intCast_inj.1 B;have n:s∈i.l:=by rw[hGl];simp
   have q:t∈j.l:=by rw[hHl];simp
   rw[b]at n;rw[d]at q;have O:s∈G.l.filter (λt=>!vI p t):=n;have R:t∈H.l.filter (λt=>!vI p t):=q;have m:=(List.mem_filter.1 O).2;have o:=(List.mem_filter.1 R).2;simp only[vI,Bool.not_eq_true',decide_eq_false_iff_not,I,J]at m o;rcases A8 hp ⟨z,N.symm⟩with h|h
   ·exact m (Int.emod_eq_zero_of_dvd h)
   ·exact o (Int.emod_eq_zero_of_dvd h)
def pz (G:MP):Prop:=G.dv 1/\∀p,PO p->¬Dw p G
theorem qp{n:Nat}(h:1<=n):(1:Rat)<=(n:Rat):=by have e:(1:Rat)=((1:Nat):Rat):=rfl;rw[e];exact Rat.natCast_le_natCast.2 h
theorem rabs_int{z:Int}(h:z≠0):(1:Rat)<=bH (z:Rat):=by
 unfold bH;have e:(1:Rat)=((1:Int):Rat):=rfl;split
 ·rename_i b;have e0:(0:Rat)=((0:Int):Rat):=rfl;rw[e0]at b;have:z<0:=Rat.intCast_lt_intCast.1 b;rw[e,<-Rat.intCast_neg];exact Rat.intCast_le_intCast.2 oM
 ·rename_i b;have e0:(0:Rat)=((0:Int):Rat):=rfl;rw[e0]at b;have:¬z<0:=λhz=>b (Rat.intCast_lt_intCast.2 hz);rw[e];exact Rat.intCast_le_intCast.2 oM
theorem jg{p:MP}(h:p≠0):∃t l,p.l=t::l:=by
 cases e:p.l with
 | nil=>exact absurd (zero_iff.2 e) h
 | cons t l=>exact⟨t,l,rfl⟩
theorem Fz{p:MP}(h:p.dv 1)(d:p≠0):1<=p.am:=by
 obtain⟨t,l,e⟩:=jg d;have b:t∈p.l:=by rw[e];simp
 obtain⟨z,hz⟩:=iI (h t b);have i:=tN b
 have j:(1:Rat)<=bH t.2:=by rw[hz];refine rabs_int λe0=>(p.v.2 t b).1 ?_;rw[hz,e0];rfl
 show 1<=bI p.l;grind
theorem wN{r:Rat}(h:r≠0):c r≠0:=Gl (yX h)
theorem UT:∀(k:Nat)(P:MP),P≠0->P.dv 1->P.am<=(2:Rat)^k->∃r:Rat,r≠0/\pz (c r*P)
 | k,P,h0,h1,h2=>by
  by_cases hz:∃p,PO p/\Dw p P
  ·obtain⟨p,hp,d,n,e⟩:=hz;have b:0<p:=by have:=hp.1;omega
   have i:d≠0:=λo=>h0 (by rw[e,o];grind)
   have ha:(p:Rat)*d.am=P.am:=by rw[e,sP,bO (by have:(0:Rat)<=(p:Rat):=Rat.natCast_nonneg;exact this)]
   have hg:=Fz n i
   have l:(2:Rat)<=(p:Rat):=by have j:(2:Rat)=((2:Nat):Rat):=rfl;rw[j];exact Rat.natCast_le_natCast.2 hp.1
   have hm:(2:Rat)*d.am<=(p:Rat)*d.am:=Rat.mul_le_mul_of_nonneg_right l gR
   cases k with
   | zero=>exfalso;rw[Rat.pow_zero]at h2;grind
   | succ k =>
    rw[Rat.pow_succ]at h2;obtain⟨r,q,m⟩:=UT k d i n gR;refine⟨r*(p:Rat)⁻¹,jw q (λh=>jH b (by have:=Rat.mul_inv_cancel _ (jH b);rw[h]at this;grind)),?_⟩
    have j:c (r*(p:Rat)⁻¹)*P=c r*d:=by
     rw[e,<-mg];have e:c ((p:Rat)⁻¹)*c (p:Rat)=1:=by rw[mg,Rat.inv_mul_cancel _ (jH b)];rfl
     grind
    rw[j];exact m
  ·refine⟨1,dM,?_⟩;have e:c 1*P=P:=by rw[zZ];grind
   rw[e];exact⟨h1,λp hp h=>hz ⟨p,hp,h⟩⟩
theorem RG:∀l:List ai,∃D,0<D/\∀t∈l,Dv D t.2
 | []=>⟨1,by omega,λ_ h=>by cases h⟩
 | t::l=>by
  obtain⟨D,d,b⟩:=RG l
  have j:Dv t.2.den t.2:=⟨t.2.num,by
   have d:(t.2.den:Rat)≠0:=jH t.2.den_pos;have b:=Rat.num_divInt_den t.2;rw[Rat.divInt_eq_div,iN]at b;have i:(t.2.num:Rat)/(t.2.den:Rat)*(t.2.den:Rat)=t.2.num:=Rat.div_mul_cancel d
   rwa[b]at i⟩
  refine⟨t.2.den*D,Nat.mul_pos t.2.den_pos d,λs e=>?_⟩;rcases List.mem_cons.1 e with rfl|e
  ·exact j.dvd (Nat.dvd_mul_right _ _)
  ·exact(b s e).dvd (Nat.dvd_mul_left _ _)
theorem LQ(r:Rat):∃k:Nat,r<=(2:Rat)^k:=by
 have j:∀n:Nat,(n:Rat)<=(2:Rat)^n:=λn=>by
  induction n with
  | zero=>rw[Rat.pow_zero];decide
  | succ n o =>
   have b:(1:Rat)<=(2:Rat)^n:=by have:=(yD (T:=2) dM (Nat.zero_le n)).2;rwa[Rat.pow_zero]at this
   rw[Rat.pow_succ,Rat.natCast_add];have e:((1:Nat):Rat)=1:=rfl;rw[e];grind
 refine⟨r.num.natAbs,Rat.le_trans ?_ (j _)⟩
 have b:r*(r.den:Rat)=r.num:=by have b:(r.den:Rat)≠0:=jH r.den_pos;have d:=Rat.num_divInt_den r;rw[Rat.divInt_eq_div,iN]at d;have h:(r.num:Rat)/(r.den:Rat)*(r.den:Rat)=r.num:=Rat.div_mul_cancel b;rwa[d]at h
 rcases yF r with hr|hr
 ·have:(0:Rat)<=(r.num.natAbs:Rat):=Rat.natCast_nonneg;grind
 ·have i:(1:Rat)<=(r.den:Rat):=by
   have e:(1:Rat)=((1:Nat):Rat):=rfl;rw[e];exact Rat.natCast_le_natCast.2 r.den_pos
  have l:r*1<=r*(r.den:Rat):=Rat.mul_le_mul_of_nonneg_left i hr;have m:(r.num:Rat)<=(r.num.natAbs:Rat):=by rw[<-iN];exact Rat.intCast_le_intCast.2 oM
  grind
theorem RH{P:MP}(h:P≠0):∃r:Rat,r≠0/\pz (c r*P):=by obtain⟨D,b,d⟩:=RG P.l;obtain⟨k,i⟩:=LQ (c (D:Rat)*P).am;obtain⟨r,j,hp⟩:=UT k (c (D:Rat)*P) (mul_ne (wN (jH b)) h) (ry d) i;refine⟨r*D,jw j (jH b),?_⟩;rw[<-mg];have e:c r*c (D:Rat)*P=c r*(c (D:Rat)*P):=gR;rw[e];exact hp
theorem LW{F G H:MP}(o:F.dv 1)(m:pz G)(e:F=G*H):H.dv 1:=by
 obtain⟨D,j,d⟩:=RG H.l
 have key:∀D:Nat,0<D->H.dv D->H.dv 1:=λD=>by
  induction D using Nat.strongRecOn with
  | _ D ih =>
   intro j d;rcases Nat.eq_or_lt_of_le (oM:1<=D)with e1|hlt
   ·rw[<-e1]at d;exact d
   ·obtain⟨p,hp,b,rfl⟩:=Wd D hlt;have k:=hp.1;have i:0<b:=Nat.pos_of_mul_pos_left j
    have hz:Dw p (G*(c ((p*b:Nat):Rat)*H)):=⟨c (b:Rat)*F,jf (Pd ⟨b,by rw[show((1:Nat):Rat)=1 from rfl,Rat.mul_one,iN]⟩) o,by
     rw[e,Rat.natCast_mul,<-mg];grind⟩
    rcases Fy hp m.1 (ry d) hz with h|h
    ·exact absurd h (m.2 p hp)
    ·obtain⟨K,q,n⟩:=h
     have:c (b:Rat)*H=K:=cancel (wN (jH (by omega:0<p))) (by
      rw[<-n,Rat.natCast_mul,<-mg];grind)
     refine ih b ?_ i (LM i (by rw[this];exact q));have:=Nat.mul_le_mul_right b k;omega
 exact key D j d
def at' (w:Nat) (r:Rat) (p:MP):MP:=⟨wZ p.l w r,bR.eval _ _ _⟩
theorem rz(x:Pt)(w:Nat)(r:Rat)(p:MP):(at' w r p).ev x=p.ev (x.put w r):=Q.ev_eval x p.v.nat w r
theorem We(w:Nat)(r:Rat)(p q:MP):at' w r (p+q)=at' w r p+at' w r q:=ext' λx=>by rw[rz,ev_add,ev_add,rz,rz]
theorem Dx(w:Nat)(r:Rat)(p q:MP):at' w r (p*q)=at' w r p*at' w r q:=ext' λx=>by rw[rz,ev_mul,ev_mul,rz,rz]
theorem Wh(w:Nat)(r:Rat)(p q:MP):at' w r (p-q)=at' w r p-at' w r q:=ext' λx=>by rw[rz,ev_sub,ev_sub,rz,rz]
theorem YE(w:Nat)(r s:Rat):at' w r (c s)=c s:=ext' λx=>by rw[rz,ev_c,ev_c]
theorem RI{w:Nat}(r:Rat){p:MP}(h:p.fr w):at' w r p=p:=ext' λx=>by
 rw[rz];have e:=split w p (N:=1) (by have i:p.deg w<=0:=h;omega);have j:∀y:Pt,p.ev y=(p.co w 0).ev y:=λy=>by rw[Gj h]
 show Lf (wX (x.put w r)) p.l=Lf (wX x) p.l;refine jJ λt b=>?_;rw[FZ,fr_get h b];have d:t.1.put w 0=t.1:=by rw[<-fr_get h b,Ex.put_get]
 rw[d];simp[Rat.pow_zero]
theorem Nt(w:Nat)(r:Rat)(p:MP):(at' w r p).fr w:=Om _ _ _
theorem GY{w:Nat}(r:Rat)(p:MP){u d:Nat}(j:w<4)(hu:u<4)(h:p.deg u<=d):(at' w r p).deg u<=d:=by
 have:∀t∈(at' w r p).l,t.1.get u<=d:=by
  refine lw (P:=λe=>e.get u<=d) λt b=>?_;obtain⟨s,i,rfl⟩:=List.mem_map.1 b;have m:=eU i u;have k:aD p.l u<=d:=h;by_cases hc:w=u
  ·subst hc;show(s.1.put w 0).get w<=d;rw[Ex.get_put];omega
  ·show(s.1.put w 0).get u<=d;rw[Ex.get_put_ne _ j hu hc];omega
 rcases(fQ (λt=>t.1.get u) (at' w r p).l (-1)).2.2 with e|⟨t,b,e⟩
 ·show aD _ u<=_;unfold aD;rw[e];omega
 ·show aD _ u<=_;unfold aD;rw[<-e];exact this t b
theorem XA{n:Nat}(j:n<4){p:MP}(h:p.lo (n+1))(r:Rat):(at' n r p).lo n:=λw d b=>by
 rcases Nat.eq_or_lt_of_le d with e|hlt
 ·subst e;exact Nt _ _ _
 ·have i:p.deg w<=(0:Nat):=h w hlt b;exact GY r p j b i
theorem RJ{D:Nat}{p:MP}(h:p.dv D)(w:Nat)(i:Int):(at' w (i:Rat) p).dv D:=xS λt e=>by
 obtain⟨s,d,rfl⟩:=List.mem_map.1 e
 have b:Dv 1 ((i:Rat)^(s.1.get w).toNat):=by
  induction (s.1.get w).toNat with
  | zero=>rw[Rat.pow_zero];exact Dv.int 1 1
  | succ n j=>rw[Rat.pow_succ];exact j.mul (Dv.int 1 i)
 have:=(h s d).mul b;rw[nU]at this;exact this
theorem XB{p:MP}{w d i T:Nat}(hd:p.deg w<=d)(q:i<=T)(m:1<=T):(at' w ((i:Nat):Rat) p).am<=p.am*(T:Rat)^d:=by
 have n:=ql (evalL p.l w (i:Rat));refine Rat.le_trans n ?_
 have o:∀t∈p.l,bH (t.2*(i:Rat)^(t.1.get w).toNat)<=bH t.2*(T:Rat)^d:=λt s=>by
  rw[jK]
  refine qC Rat.le_refl ?_ (fM _) (by
   exact(yD (T:=(T:Rat)) (qp m) (nL d)).1)
  have r:(t.1.get w).toNat<=d:=by have:=eU s w;have u:aD p.l w<=d:=hd;omega
  have j:∀k:Nat,0<=(i:Rat)^k/\(i:Rat)^k<=(T:Rat)^k:=λk=>by
   induction k with
   | zero=>rw[Rat.pow_zero,Rat.pow_zero];exact⟨dM,Rat.le_refl⟩
   | succ k h =>
    rw[Rat.pow_succ,Rat.pow_succ];have e:(i:Rat)<=(T:Rat):=Rat.natCast_le_natCast.2 q;have b:(0:Rat)<=(i:Rat):=Rat.natCast_nonneg;exact⟨Rat.mul_nonneg h.1 b,qC h.2 e h.1 (Rat.le_trans b e)⟩
  rw[bO (j _).1];exact Rat.le_trans (j _).2 (yD (T:=(T:Rat)) (qp m) r).2
 exact FY o
def JB (w:Nat) (r:Rat):MP:=xk w 1-c r
theorem ow(r:Rat)(w:Nat):(c r).fr w:=by
 by_cases h:r=0
 ·rw[h];exact oJ w
 ·exact rW one_ne (yX h) (rY w)
theorem GZ(w:Nat)(r:Rat):(JB w r).deg w=1:=by
 have b:(JB w r).co w 1=1:=by rw[JB,co_sub,fH,if_pos rfl,KM (ow r w) oM];grind
 have d:=mX w (xk w 1) (c r);rw[deg_xk]at d;have e:(c r).deg w<=0:=ow r w;rcases Int.lt_or_le ((JB w r).deg w) 1 with h|h
 ·exfalso;rw[co_above oM]at b;exact one_ne b.symm
 ·have:(JB w r).deg w<=max ((1:Nat):Int) ((c r).deg w):=d;omega
theorem RL(w:Nat)(r:Rat):JB w r≠0:=λh=>by have:=GZ w r;rw[h,deg_zero]at this;omega
theorem RN(x:Pt)(w:Nat)(r:Rat):(JB w r).ev x=x.get w-r:=by rw[JB,ev_sub,ev_xk,ev_c,Rat.pow_succ,Rat.pow_zero];grind
theorem RO(w:Nat)(r:Rat):∀k:Nat,JB w r∣xk w k-c (r^k)
 | 0=>⟨0,ext' λx=>by rw[ev_sub,ev_xk,ev_c,ev_mul,ev_zero,Rat.pow_zero,Rat.pow_zero];grind⟩
 | k+1=>by obtain⟨q,hq⟩:=RO w r k;refine⟨xk w 1*q+c (r^k),ext' λx=>?_⟩;have:=congrArg (MP.ev x) hq;simp only[ev_sub,ev_mul,ev_add,ev_xk,ev_c,RN,Rat.pow_succ,Rat.pow_zero]at *;grind
theorem RP(w:Nat)(r:Rat)(p:MP):JB w r∣p-at' w r p:=by
 obtain⟨N,s⟩:∃N,N=(p.deg w).toNat+1:=⟨_,rfl⟩;have e:=split w p (N:=N) (by have:=deg_ge w p;omega)
 have b:∀(f:Nat->MP) n,at' w r (cK f n)=cK (λi=>at' w r (f i)) n:=λf n=>by
  induction n with
  | zero=>rfl
  | succ n q=>rw[cK,We,q];rfl
 have o:∀k,at' w r (xk w k)=c (r^k):=λk=>ext' λx=>by
  rw[rz,ev_xk,ev_c];have:(x.put w r).get w=r:=by rcases w with _|_|_|w<;>rfl
  rw[this]
 have j:p-at' w r p=cK (λn=>p.co w n*(xk w n-c (r^n))) N:=by
  have l:at' w r p=cK (λn=>p.co w n*c (r^n)) N:=by have d:=congrArg (at' w r) e;rw[b]at d;rw[d];exact dF λi _=>by rw[Dx,RI r (co_fr _ _ _),o]
  rw[l];have h:=La (cK (λn=>p.co w n*xk w n) N) (cK (λn=>p.co w n*c (r^n)) N);rw[<-e]at h;rw[h,<-Iu];have m:p+cK (λi=>-(p.co w i*c (r^i))) N=cK (λn=>p.co w n*xk w n) N+cK (λi=>-(p.co w i*c (r^i))) N:=by rw[<-e]
  rw[m,<-Co];exact dF λi _=>gR
 rw[j];exact dvd_msum λi _=>dvd_mul_of' (RO w r i) _
theorem RQ(w:Nat)(r s:Rat):at' w s (JB w r)=c (s-r):=ext' λx=>by
 rw[rz,RN,ev_c];have:(x.put w s).get w=s:=by rcases w with _|_|_|w<;>rfl
 rw[this]
theorem Wi{w i T:Nat}(h:i<=T):(JB w ((i:Nat):Rat)).am<=((T+1:Nat):Rat):=by
 have b:=Lc (xk w 1) (c ((i:Nat):Rat));rw[Je,bO Rat.natCast_nonneg]at b;have d:(xk w 1).am=1:=by show bH 1+0=(1:Rat);rw[qZ];decide +kernel
 rw[d]at b;have j:((i:Nat):Rat)<=(T:Rat):=Rat.natCast_le_natCast.2 h;have e:((1:Nat):Rat)=1:=rfl;show(xk w 1-c ((i:Nat):Rat)).am<=_;rw[Rat.natCast_add,e];grind
theorem RS{w T:Nat}{M:Rat}:∀(k:Nat)(M:Rat)(G:MP),0<=M->G.deg w<=k->∀L:List Nat,L.length=k+1->L.Nodup->(∀i∈L,i<=T/\(at' w ((i:Nat):Rat) G).am<=M)->G.am<=((2*T+3:Nat):Rat)^k*M
 | 0,M,G,hM,hd,L,hL,_,h=>by obtain⟨i,rfl⟩:=List.length_eq_one_iff.1 hL;have:=(h i sM).2;rw[RI _ hd]at this;rw[Rat.pow_zero];grind
 | k+1,M,G,hM,hd,L,hL,hn,h=>by
  cases L with
  | nil=>simp at hL
  | cons i L =>
   obtain⟨b,e⟩:=RP w ((i:Nat):Rat) G;have s:=h i sM;have m:=List.nodup_cons.1 hn;have E:G=JB w ((i:Nat):Rat)*b+at' w ((i:Nat):Rat) G:=gR
   have r:b.deg w<=k:=by
    by_cases y:b=0
    ·rw[y,deg_zero];omega
    ·have d:=mX w G (at' w ((i:Nat):Rat) G);rw[e,deg_mul (RL _ _) y,GZ]at d;have o:(at' w ((i:Nat):Rat) G).deg w<=0:=Nt _ _ _;omega
   have hv:∀j∈L,j<=T/\(at' w ((j:Nat):Rat) b).am<=2*M:=λj B=>by
    have l:=h j (by simp[B]);refine⟨l.1,?_⟩;have d:=congrArg (at' w ((j:Nat):Rat)) e;rw[Wh,Dx,RQ,RI _ (Nt w _ G)]at d;have o:=Lc (at' w ((j:Nat):Rat) G) (at' w ((i:Nat):Rat) G);rw[d,sP]at o
    have x:(j:Int)-i≠0:=λN=>by have u:j=i:=oM;exact m.1 (by rw[<-u];exact B)
    have n:=rabs_int x
    have C:((((j:Int)-i:Int)):Rat)=((j:Nat):Rat)-((i:Nat):Rat):=by rw[Rat.intCast_sub,iN,iN]
    rw[C]at n;have z:=am_nonneg (at' w ((j:Nat):Rat) b);have F:1*(at' w ((j:Nat):Rat) b).am<=bH (((j:Nat):Rat)-((i:Nat):Rat))*(at' w ((j:Nat):Rat) b).am:=Rat.mul_le_mul_of_nonneg_right n z;have H:=s.2;have J:=l.2;grind
   have I:=RS (w:=w) (T:=T) (M:=M) k (2*M) b gR r L (by simpa using hL) m.2 hv;obtain⟨P,p⟩:∃P,P=((2*T+3:Nat):Rat)^k:=⟨_,rfl⟩
   have q:1<=P:=by have:=(yD (T:=((2*T+3:Nat):Rat)) (qp oM) (Nat.zero_le k)).2;rw[Rat.pow_zero]at this;rw[p];exact this
   have d:=Lb (JB w ((i:Nat):Rat)*b) (at' w ((i:Nat):Rat) G);rw[<-E]at d;have o:=CQ (JB w ((i:Nat):Rat)) b;have n:=Wi (w:=w) s.1;have z:=am_nonneg b;have F:(JB w ((i:Nat):Rat)).am*b.am<=((T+1:Nat):Rat)*(P*(2*M)):=qC n (by rw[p];exact I) (am_nonneg _) (Rat.mul_nonneg gR gR);have H:=s.2;rw[Rat.pow_succ,<-p]
   have D:((2*T+3:Nat):Rat)=2*((T+1:Nat):Rat)+1:=by have:2*T+3=2*(T+1)+1:=oM;rw[this,Rat.natCast_add,Rat.natCast_mul];rfl
   rw[D];have K:M<=P*M:=by have:=Rat.mul_le_mul_of_nonneg_right q hM;grind
   grind
theorem JC{w:Nat}:∀(L:List Nat)(F:MP),F≠0->L.Nodup->(∀i∈L,at' w ((i:Nat):Rat) F=0)->(L.length:Int)<=F.deg w
 | [],F,h0,_,_=>by have:=deg_pos h0 w;simpa using this
 | i::L,F,h0,hn,h=>by
  have b:=List.nodup_cons.1 hn;obtain⟨k,e⟩:=RP w ((i:Nat):Rat) F;rw[h i sM]at e;have e:F=JB w ((i:Nat):Rat)*k:=gR;have d:k≠0:=λd=>h0 (by rw[e,d];grind)
  have o:=JC L k d b.2 λj n=>by
   have m:=h j (by simp[n]);rw[e,Dx,RQ]at m;rcases mul_eq_zero.1 m with h3|h3
   ·exfalso;by_cases l:((j:Nat):Rat)-((i:Nat):Rat)=0
    ·have:((j:Nat):Rat)=((i:Nat):Rat):=gR;exact b.1 (by rw[<-Rat.natCast_inj.1 this];exact n)
    ·exact wN l h3
   ·exact h3
  rw[e,deg_mul (RL _ _) d,GZ];simp only[List.length_cons];omega
instance:DecidableEq MP:=λp q=>decidable_of_iff (p.l=q.l) ⟨MP.eq_of,λh=>by rw[h]⟩
theorem Pm{a b:Rat}(h:a=b):a<=b:=by rw[h];exact Rat.le_refl
def uH (d:Nat->Nat):Nat->Nat
 | 0=>1
 | n+1=>(4*d n+3)^d n*(2*d n+1)^d n*uH d n
theorem LX{α:Type}(p:α->Bool)(l:List α):(l.filter p).length+(l.filter λx=>!p x).length=l.length:=by
 induction l with
 | nil=>rfl
 | cons x l b=>cases h:p x<;>simp[List.filter_cons,h]<;>omega
theorem fac(d:Nat->Nat):∀(n:Nat),n<=4->∀F G H:MP,F=G*H->F≠0->G.dv 1->H.dv 1->F.lo n->(∀w,w<n->F.deg w<=d w)->G.am<=(uH d n:Rat)*F.am
 | 0,_,F,G,H,e,h0,iG,iH,lF,_=>by have C:=iA h0 (by rw[e];exact dvd_mul_right _ _) lF;have D:=iA h0 (by rw[e];exact dvd_mul_left _ _) lF;obtain⟨g,rfl⟩:=ku C;obtain⟨h,rfl⟩:=ku D;have B:c h≠0:=λu=>h0 (by rw[e,u];grind);have m:=Fz iH B;rw[e,sP,Je,show((uH d 0:Nat):Rat)=1 from rfl];have:=Rat.mul_le_mul_of_nonneg_left m (fM g);grind
 | n+1,hn,F,G,H,e,h0,iG,iH,lF,hd=>by
  obtain⟨L,hL⟩:∃L:List Nat,L=(List.range (2*d n+1)).filter (λi=>decide (at' n ((i:Nat):Rat) F≠0)):=⟨_,rfl⟩
  have hz:=JC (w:=n) ((List.range (2*d n+1)).filter (λi=>!decide (at' n ((i:Nat):Rat) F≠0))) F h0 (List.nodup_range.sublist List.filter_sublist) λi b=>by have:=(List.mem_filter.1 b).2;simpa using this
  have k:=LX (λi:Nat=>decide (at' n ((i:Nat):Rat) F≠0)) (List.range (2*d n+1));rw[List.length_range,<-hL]at k;have j:=hd n oM;have q:L.Nodup:=by rw[hL];exact List.nodup_range.sublist List.filter_sublist
  have r:(1:Nat)<=2*d n+1:=oM;have y:G≠0:=λh=>h0 (by rw[e,h];grind);have p:G.deg n<=d n:=Int.le_trans (dvd_deg h0 (by rw[e];exact dvd_mul_right _ _) n) j
  have l:∀i∈L,i<=2*d n/\(at' n ((i:Nat):Rat) G).am<=(uH d n:Rat)*(F.am*((2*d n+1:Nat):Rat)^d n):=λi b=>by rw[hL]at b;obtain⟨m,o⟩:=List.mem_filter.1 b;have m:=List.mem_range.1 m;have o:at' n ((i:Nat):Rat) F≠0:=of_decide_eq_true o;refine⟨oM,?_⟩;have x:=fac d n oM _ _ _ (by rw[<-Dx,<-e]:at' n ((i:Nat):Rat) F=at' n ((i:Nat):Rat) G*at' n ((i:Nat):Rat) H) o (by rw[<-iN];exact RJ iG n _) (by rw[<-iN];exact RJ iH n _) (XA oM lF _) λw E=>GY _ F oM oM (hd w oM);exact Rat.le_trans x (Rat.mul_le_mul_of_nonneg_left (XB j oM r) Rat.natCast_nonneg)
  have z:0<=(uH d n:Rat)*(F.am*((2*d n+1:Nat):Rat)^d n):=Rat.mul_nonneg Rat.natCast_nonneg (Rat.mul_nonneg (am_nonneg F) (yD (T:=((2*d n+1:Nat):Rat)) (qp r) (nL _)).1);have:=RS (w:=n) (T:=2*d n) (M:=0) (d n) _ G z p (L.take (d n+1)) (by rw[List.length_take];omega) (q.sublist (List.take_sublist _ _)) λi b=>l i (List.mem_of_mem_take b);refine Rat.le_trans this ?_;rw[uH,Rat.natCast_mul,Rat.natCast_mul,Rat.natCast_pow,Rat.natCast_pow];have s:2*(2*d n)+3=4*d n+3:=oM;rw[s];refine Pm ?_;grind
end MP
end Q
end
section
namespace Q
def kV (f:Nat->Nat):Nat->Nat
 | 0=>0
 | n+1=>kV f n+f n
theorem Dy{f g:Nat->Nat}:∀{n:Nat},(∀i,i<n->f i=g i)->kV f n=kV g n
 | 0,_=>rfl
 | n+1,h=>by rw[kV,kV,Dy λi b=>h i (by omega),h n (by omega)]
theorem JD(f g:Nat->Nat):∀n,kV (λi=>f i+g i) n=kV f n+kV g n
 | 0=>rfl
 | n+1=>by rw[kV,JD f g n,kV,kV];omega
theorem JE(c:Nat)(f:Nat->Nat):∀n,kV (λi=>c*f i) n=c*kV f n
 | 0=>rfl
 | n+1=>by rw[kV,JE c f n,kV,Nat.mul_add]
theorem vg(f:Nat->Nat):∀n,kV f (n+1)=f 0+kV (λi=>f (i+1)) n
 | 0=>by simp[kV]
 | n+1=>by rw[kV,vg f n,kV];omega
theorem JF{p:Nat}{f:Nat->Nat}:∀{n:Nat},(∀i,i<n->p∣f i)->p∣kV f n
 | 0,_=>Nat.dvd_zero p
 | n+1,h=>Nat.dvd_add (JF λi b=>h i (by omega)) (h n (by omega))
def ch:Nat->Nat->Nat
 | _,0=>1
 | 0,_+1=>0
 | n+1,k+1=>ch n k+ch n (k+1)
theorem yf(n:Nat):ch n 0=1:=by cases n<;>rfl
theorem Dz:∀{n k:Nat},n<k->ch n k=0
 | _,0,h=>by omega
 | 0,_+1,_=>rfl
 | n+1,k+1,h=>by rw[ch,Dz (show n<k by omega),Dz (show n<k+1 by omega)]
theorem Nu:∀n,ch n n=1
 | 0=>rfl
 | n+1=>by rw[ch,Nu n,Dz (Nat.lt_succ_self n)]
theorem G5:∀n k,(k+1)*ch (n+1) (k+1)=(n+1)*ch n k
 | 0,0=>rfl
 | 0,k+1=>by have e:ch 1 (k+2)=0:=Dz oM;rw[e];rfl
 | n+1,0=>by have h:=G5 n 0;have e:ch (n+2) 1=ch (n+1) 0+ch (n+1) 1:=rfl;rw[yf]at h;rw[show n+1+1=n+2 from rfl,e,yf];rw[show 0+1=1 from rfl]at h;omega
 | n+1,k+1=>by have d:=G5 n k;have i:=G5 n (k+1);have e:ch (n+2) (k+2)=ch (n+1) (k+1)+ch (n+1) (k+2):=rfl;have b:ch (n+1) (k+1)=ch n k+ch n (k+1):=rfl;rw[e];have j:(k+1+1)*(ch (n+1) (k+1)+ch (n+1) (k+2))=(k+1)*ch (n+1) (k+1)+ch (n+1) (k+1)+(k+1+1)*ch (n+1) (k+2):=gR;rw[j,d,i,b];grind
theorem UU(x:Nat):∀n,(x+1)^n=kV (λk=>ch n k*x^k) (n+1)
 | 0=>by simp[kV,ch]
 | n+1=>by
  rw[Nat.pow_succ,UU x n,vg (λk=>ch (n+1) k*x^k)]
  have d:kV (λi=>ch (n+1) (i+1)*x^(i+1)) (n+1)=x*kV (λk=>ch n k*x^k) (n+1)+kV (λi=>ch n (i+1)*x^(i+1)) (n+1):=by rw[<-JE,<-JD];refine Dy λi _=>?_;show(ch n i+ch n (i+1))*x^(i+1)=_;rw[Nat.pow_succ];grind
  rw[d]
  have e:kV (λi=>ch n (i+1)*x^(i+1)) (n+1)=kV (λi=>ch n (i+1)*x^(i+1)) n:=by rw[kV,Dz (Nat.lt_succ_self n)];omega
  have b:=vg (λk=>ch n k*x^k) n;rw[e,yf,Nat.pow_zero];rw[yf,Nat.pow_zero]at b;have h:kV (λk=>ch n k*x^k) (n+1)*(x+1)=x*kV (λk=>ch n k*x^k) (n+1)+kV (λk=>ch n k*x^k) (n+1):=gR;rw[h,b];omega
theorem DC{p:Nat}(hp:PO p){a b:Nat}(h:p∣a*b):p∣a\/p∣b:=by have:=A8 hp (a:=a) (b:=b) (by rw[<-Int.natCast_mul];exact Int.ofNat_dvd.2 h);exact this.imp Int.ofNat_dvd.1 Int.ofNat_dvd.1
theorem RU{p:Nat}(hp:PO p){k:Nat}(d:0<k)(e:k<p):p∣ch p k:=by
 obtain⟨j,rfl⟩:∃j,k=j+1:=⟨k - 1,oM⟩;obtain⟨n,rfl⟩:∃n,p=n+1:=⟨p - 1,oM⟩;rcases DC hp (a:=j+1) (b:=ch (n+1) (j+1)) ⟨ch n j,G5 n j⟩with h|h
 ·have:=Nat.le_of_dvd d h;omega
 ·exact h
theorem YF{p:Nat}(hp:PO p)(x:Nat):(x+1)^p%p=(x^p+1)%p:=by have d:=hp.1;obtain⟨n,rfl⟩:∃n,p=n+1:=⟨p - 1,oM⟩;rw[UU x (n+1),kV,vg,yf,Nu,Nat.pow_zero];obtain⟨k,b⟩:(n+1)∣kV (λi=>ch (n+1) (i+1)*x^(i+1)) n:=JF λi h=>Nat.dvd_mul_right_of_dvd (RU hp oM oM) _;rw[b];have e:1*1+(n+1)*k+1*x^(n+1)=(x^(n+1)+1)+(n+1)*k:=oM;rw[e,Nat.add_mul_mod_self_left]
theorem Nv{p:Nat}(hp:PO p):∀x:Nat,x^p%p=x%p
 | 0=>by rw[Nat.zero_pow (by have:=hp.1;omega)]
 | x+1=>by rw[YF hp,Nat.add_mod,Nv hp x,<-Nat.add_mod]
theorem Wj{p:Nat}(hp:PO p){x:Nat}(h:¬p∣x):x^(p-2)*x%p=1:=by
 have m:=hp.1;have i:=Nv hp x;obtain⟨n,rfl⟩:∃n,p=n+2:=⟨p - 2,oM⟩;rw[Nat.add_sub_cancel];have e:x^(n+2)=x*(x^n*x):=by rw[Nat.pow_succ,Nat.pow_succ];grind
 rw[e]at i
 have k:((n+2:Nat):Int)∣(x:Int)*((x^n*x:Nat)-1:Int):=by
  have b:=Int.emod_emod_of_dvd
  have:((x*(x^n*x):Nat):Int)%((n+2:Nat):Int)=(x:Int)%((n+2:Nat):Int):=by rw[<-Int.natCast_emod,<-Int.natCast_emod,i]
  have d:=Int.dvd_of_emod_eq_zero (Int.emod_eq_emod_iff_emod_sub_eq_zero.1 this)
  have j:(x:Int)*((x^n*x:Nat)-1:Int)=((x*(x^n*x):Nat):Int)-x:=by rw[Int.natCast_mul x];grind
  rw[j];exact d
 rcases A8 hp k with b|b
 ·exact absurd (Int.ofNat_dvd.1 b) h
 ·have d:=Int.emod_eq_zero_of_dvd b;have l:=Int.emod_eq_emod_iff_emod_sub_eq_zero.2 d
  have o:((x^n*x%(n+2):Nat):Int)=1:=by rw[Int.natCast_emod,l];exact Int.emod_eq_of_lt oM oM
  omega
def Yf (p n:Nat):Nat->Bool
 | 0=>true
 | f+1=>match p%(n-f)with
  | 0=>false
  | _+1=>Yf p n f
theorem RV{p n:Nat}:∀{f:Nat},Yf p n f=true->∀k,n-f<k->k<=n->¬k∣p
 | 0,_=>λk d b=>by omega
 | f+1,h=>λk d b hd=>by
  rw[Yf]at h;split at h
  ·cases h
  ·rename_i hm;rcases Nat.eq_or_lt_of_le (show n - f<=k by omega)with e|hlt
   ·rw[e]at hm;rw[Nat.mod_eq_zero_of_dvd hd]at hm;cases hm
   ·exact RV h k hlt b hd
theorem Wm:Yf 2147483647 46340 46339=true:=dK
theorem DD:PO pr:=by
 refine⟨dM,λm hm=>?_⟩;rw[jq]at *;obtain⟨k,b⟩:=hm;have i:∀j,1<j->j<=46340->¬j∣2147483647:=λj l d=>RV Wm j oM d;rcases Nat.lt_or_ge m 2 with h|h
 ·left;rcases Nat.eq_zero_or_pos m with e|h'
  ·rw[e,Nat.zero_mul]at b;cases b
  ·omega
 ·rcases Nat.lt_or_ge m 46341 with d|d
  ·exact absurd ⟨k,b⟩ (i m oM oM)
  ·rcases Nat.lt_or_ge k 46341 with h3|h3
   ·rcases Nat.lt_or_ge k 2 with h4|h4
    ·right;rcases Nat.eq_zero_or_pos k with e|h'
     ·rw[e,Nat.mul_zero]at b;cases b
     ·obtain rfl:k=1:=oM;omega
    ·exact absurd ⟨m,by rw[b];exact Nat.mul_comm _ _⟩ (i k oM oM)
   ·have:=Nat.mul_le_mul d h3;omega
theorem Nw:∀(f out a n:Nat),n<2^f->out<pr->yS f out a n=out*a^n%pr
 | 0,out,a,n,h,b=>by
  obtain rfl:n=0:=by simpa using h
  rw[yS,Nat.pow_zero,nU,Nat.mod_eq_of_lt b]
 | f+1,out,a,n,h,b=>by
  rw[yS];split
  ·rename_i j;rw[j,Nat.pow_zero,nU,Nat.mod_eq_of_lt b]
  ·have d:(if n%2=1 then out*a%pr else out)<pr:=by
    split
    ·exact Nat.mod_lt _ dM
    ·exact b
   rw[Nw f _ _ _ (by rw[Nat.pow_succ]at h;omega) d]
   have i:(a*a%pr)^(n/2)%pr=a^(2*(n/2))%pr:=by rw[<-Nat.pow_mod,Nat.pow_mul,Nat.pow_two]
   have k:=Nat.div_add_mod n 2;split
   ·rename_i b;rw[Nat.mul_mod,i,<-Nat.mul_mod,Nat.mod_mul_mod];have e:n=2*(n/2)+1:=oM
    conv=>rhs;rw[e,Nat.pow_succ]
    congr 1;grind
   ·rw[Nat.mul_mod,i,<-Nat.mul_mod];have e:n=2*(n/2):=oM
    conv=>rhs;rw[e]
theorem Ny(a:Nat){n:Nat}(h:n<18446744073709551616):jC a n=a^n%pr:=by rw[jC,Nw 64 1 a n (by simpa using h) dM,Nat.one_mul]
theorem LY{x:Nat}(b:0<x)(h:x<pr):jC x (pr-2)*x%pr=1:=by rw[Ny x dM,Nat.mod_mul_mod];exact Wj DD λhd=>by have:=Nat.le_of_dvd b hd;omega
end Q
end
