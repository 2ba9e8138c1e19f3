/- law08: num, x, y; contracts at known values; quadratureref08.Factors. -/
import Derived.Test.YtopclbeomcggiaaGreatW32
set_option linter.unusedVariables false
set_option linter.unusedSimpArgs false
set_option maxHeartbeats 16000000
set_option maxRecDepth 100000
section
namespace Q
open Go Go.RowKit Go.Proofs.YtopclbeomcggiaaGreat
def Wu (D:Nat):Sz:=⟨D,2^200,1000,900⟩
def X5 (l:List ai):Bool :=
 decide (l.length<=900)&&l.all (λt=>decide (-1000<=t.1.1)&&decide (t.1.1<=1000)&&decide (-1000<=t.1.2.1)&&decide (t.1.2.1<=1000)&&decide (-1000<=t.1.2.2.1)&&decide (t.1.2.2.1<=1000)&&decide (-1000<=t.1.2.2.2)&&decide (t.1.2.2.2<=1000))&&decide (zb l<=200)&&decide (bI l<=((2^200:Nat):Rat))
theorem Lj{l:List ai}(h:X5 l=true):Bd (Wu (zb l)) l/\zb l<=200:=by
 simp only[X5,Bool.and_eq_true,decide_eq_true_eq,List.all_eq_true]at h;obtain⟨⟨⟨o,e⟩,k⟩,n⟩:=h;refine⟨⟨o,λt b=>?_,λt b=>?_,n⟩,k⟩
 ·obtain⟨⟨⟨⟨⟨⟨⟨s,i⟩,d⟩,r⟩,p⟩,m⟩,q⟩,j⟩:=e t b;exact⟨s,i,d,r,p,m,q,j⟩
 ·exact(Gw t.2).dvd (Jc b)
def Ro (l:List ai):Bool:=KS l&&X5 l
theorem VU:2^200<2^1000:=dK
theorem Xm:2^200*2^200<2^1000:=dK
theorem Rp{D:Nat}(h:0<D)(b:D<=200):(Wu D).ok:=⟨h,by show D<65536;omega,VU,by show 1000<1000000;omega,by show 900<1000000;omega⟩
theorem TK{D b:Nat}(h:0<D)(d:D<=200)(k:0<b)(k':b<=200):((Wu D).mul (Wu b)).ok:=by refine⟨Nat.mul_pos h k,?_,Xm,by show 1000+1000<1000000;omega,by show 900*900<1000000;omega⟩;have:=Nat.mul_le_mul d k';show D*b < 65536;omega
theorem uw{l:List ai}(h:Ro l=true):∃D,0<D/\D<=200/\Pk (Wu D) l:=by rw[Ro,Bool.and_eq_true]at h;obtain⟨d,b⟩:=Lj h.2;exact⟨zb l,qf l,b,Ct.1 h.1,d,Rp (qf l) b⟩
theorem TL{D:Nat}(h:0<D)(b:D<=200):((Wu D).mul ⟨1,1,0,1⟩).ok:=by
 refine⟨Nat.mul_pos h Nat.one_pos,?_,?_,by show 1000+0<1000000;omega,by show 900*1<1000000;omega⟩
 ·show D*1<65536;omega
 ·show 2^200*1<2^1000;rw[Nat.mul_one];exact VU
def VV (c:Rat):Bool:=decide (c.den<65536)&&decide (c.num.natAbs<4294967296)
theorem TM{c:Rat}(h:VV c=true):Rs c:=by simp only[VV,Bool.and_eq_true,decide_eq_true_eq]at h;refine⟨Nat.le_trans (jI (k:=16) h.1) oM,?_⟩;have:=jI (n:=c.num.natAbs) (k:=32) oM;omega
end Q
namespace Go.Proofs.YtopclbeomcggiaaGreat
open Go.RowKit Q
section
variable {w:World} {v u:Value} {p q r:List ai}
theorem Aa(e:oZ p q=r)(h:Ro p=true)(d:Ro q=true)(hp:ak w v p)(hq:ak w u q):Calls Tryz.prog 39 #[v,u] w (aS w r):=by obtain⟨D,d1,d2,P⟩:=uw h;obtain⟨j,e1,i,b⟩:=uw d;exact e▸WO P b hp hq
theorem Ab(e:aX p q=r)(h:Ro p=true)(i:Ro q=true)(hp:ak w v p)(hq:ak w u q):Calls Tryz.prog 12 #[v,u] w (aS w r):=by obtain⟨D,d1,d2,P⟩:=uw h;obtain⟨j,e1,b,d⟩:=uw i;exact e▸M5 P d (TK d1 d2 e1 b) hp hq
theorem Nh(e:gH p q=r)(h:Ro p=true)(i:Ro q=true)(hp:ak w v p)(hq:ak w u q):Calls Tryz.prog 35 #[v,u] w (aS w r):=by obtain⟨D,d1,d2,P⟩:=uw h;obtain⟨j,e1,b,d⟩:=uw i;exact e▸WP P d (TL e1 b) hp hq
theorem AP{c:Rat}(e:bN p c=r)(h:Ro p=true)(b:VV c=true)(hp:ak w v p)(hc:bM w u c):Calls Tryz.prog 42 #[v,u] w (aS w r):=by obtain⟨D,d1,d2,P⟩:=uw h;exact e▸Vu P (TM b) hp hc
theorem qg(h:Ro p=true)(hp:ak w v p)(hq:ak w u p):Calls Tryz.prog 13 #[v,u] w (ru w (.bool true)):=by obtain⟨D,d1,d2,P⟩:=uw h;exact I4 P P rfl hp hq
theorem Rq{g:List ai}(e:G8 p q=some g)(h:CL p=true)(b:CL q=true)(hp:ak w v p)(hq:ak w u q):Calls Tryz.prog 16 #[v,u] w (aS w g) :=
 (nL 6 p q g (kF h) (kF b) e).1 v u w hp hq
theorem Xn{g:List ai}(e:jQ p=some g)(h:CL p=true)(hp:ak w v p):Calls Tryz.prog 14 #[v] w (aS w g):=ni v p g w hp (kF h) e
theorem Xo{g:List ai}(e:mD G8 p 0=some g)(h:CL p=true)(hp:ak w v p):Calls Tryz.prog 18 #[v,.int .i64 0] w (aS w g):=kH (nL 6) v p g 0 w dM hp (kF h) e
theorem Xp{g:List ai}(e:kT G8 p 0=some g)(h:CL p=true)(hp:ak w v p):Calls Tryz.prog 20 #[v,.int .i64 0] w (aS w g):=nC (nL 6) v p g 0 w dM hp (kF h) e
theorem Xq{R:List (List ai × Nat)}(e:WR G8 p 0=some R)(h:CL p=true)(hp:ak w v p):Calls Tryz.prog 29 #[v,.int .i64 0] w (Rn w R):=CZ (nL 6) v p R 0 w hp (kF h) dM e
end
theorem jD(w:World):Calls Tryz.prog 40 #[] w (aS w [tm 1 1 0]):=by
 go_enter Tryz.func40,Tryz.ntmps40
 go_wp2_with (go_at_call 37;refine(Cr 0 _ oM).mono ?_;rintro e w3 ⟨v3,rfl,h3,hb3⟩)
 go_ret;exact⟨_,rfl,Yi▸h3,hb3⟩
theorem qH(w:World):Calls Tryz.prog 41 #[] w (aS w [tm 1 0 1]):=by
 go_enter Tryz.func41,Tryz.ntmps41
 go_wp2_with (go_at_call 37;refine(Cr 1 _ oM).mono ?_;rintro e w3 ⟨v3,rfl,h3,hb3⟩)
 go_ret;exact⟨_,rfl,Yj▸h3,hb3⟩
theorem fJ(n:Int)(p:List ai)(w:World)(h1:-1000<=n)(h2:n<=1000)(hp:bZ (n:Rat)=p)(hb:X5 [(e0,(n:Rat))]=true):Calls Tryz.prog 26 #[.int .i64 n] w (aS w p):=by
 have hc:=zH (λW v (hv:bM W v (n:Rat))=>vW v (n:Rat) _ W hv (Lj hb).1 (Rp (qf _) (Lj hb).2));rw[hp]at hc
 go_enter Tryz.func26,Tryz.ntmps26
 go_wp2_with (first
  | (go_at_call 24;refine(gG n _ oM oM).mono ?_;rintro e w3 ⟨v3,rfl,h3,hb3⟩)
  | (go_at_call 72;refine(hc.out _ _ h3).mono ?_;rintro e w4 ⟨v4,rfl,h4,hb4⟩))
 go_ret;exact⟨_,rfl,h4,hb3.trans (hb4.mono hb3.size)⟩
theorem Ll(p q:Value)(L:List (List ai × Nat))(w:World)(ha:Ff w p L)(hb:Ff w q L)(l:∀f∈L,Ro f.1=true)(y:L.length<=1000):Calls Tryz.prog 30 #[p,q] w (ru w (.bool true)):=by
 obtain⟨u,o,rfl,-⟩:=ha.shape;obtain⟨r,n,rfl,-⟩:=hb.shape;replace ha:=zH ha;replace hb:=zH hb;replace l:=zH l
 go_enter Tryz.func30,Tryz.ntmps30
 go_wp2
 go_loopw [5] (λi wr=>∃k:Nat,k<=L.length/\i=.int .i64 k/\Below w.heap.size w wr) (λi _=>L.length-(intOf i).toNat)
 case atStart=>exact⟨0,oM,nM,Below.refl _ _⟩
 case round =>
  obtain⟨k,x,rfl,d⟩:=hrel;by_cases b:k<L.length
  ·have j:L[k]?=some L[k]:=List.getElem?_eq_getElem b;have m:=l.out _ (List.getElem_mem b);generalize L[k]=f at *;obtain⟨b1,o1,cs1,rfl,-,⟨v1,rfl,p1⟩,C1⟩:=(ha.out.on d).get j;obtain⟨b2,o2,Vp,rfl,-,⟨v2,rfl,p2⟩,C2⟩:=(hb.out.on d).get j;change bS _ wr b1 (o1+k*2) _ at C1;change bS _ wr b2 (o2+k*2) _ at C2;have s:(k:Int)<(L.length:Int):=oM;have c10:∀W,Below wr.heap.size wr W->W.cell? ⟨b1,o1+k*2,none⟩=some v1:=λW hb=>(C1.on hb).cell 0 sM;have c11:∀W,Below wr.heap.size wr W->W.cell? ⟨b1,o1+k*2+1,none⟩=some (.int .i64 (f.2:Int)):=λW hb=>(C1.on hb).cell 1 sM;have c20:∀W,Below wr.heap.size wr W->W.cell? ⟨b2,o2+k*2,none⟩=some v2:=λW hb=>(C2.on hb).cell 0 sM;have c21:∀W,Below wr.heap.size wr W->W.cell? ⟨b2,o2+k*2+1,none⟩=some (.int .i64 (f.2:Int)):=λW hb=>(C2.on hb).cell 1 sM;generalize f.2=e at *;clear C1 C2 j
   go_upto_region 6 with (fail)
   refine aC mixed (none) (0) (fK.none) [.eq (.slice (some ⟨b1,o1,none⟩) L.length o),.eq (.int .i64 k),.eq (.pointer (some ⟨b1,o1+k*2,none⟩)),.eq (.pointer (some ⟨b1,o1+k*2+1,none⟩)),.eq (.int .i64 e),.eq (.slice (some ⟨b2,o2,none⟩) L.length n),.eq (.int .i64 k),.eq (.pointer (some ⟨b2,o2+k*2,none⟩)),.eq (.pointer (some ⟨b2,o2+k*2+1,none⟩)),.eq (.int .i64 e),.eq (.bool false),.eq (.bool false),.eq (.slice (some ⟨b1,o1,none⟩) L.length o),.eq (.int .i64 k),.eq (.pointer (some ⟨b1,o1+k*2,none⟩)),.eq (.pointer (some ⟨b1,o1+k*2,none⟩)),.eq (v1),.eq (.slice (some ⟨b2,o2,none⟩) L.length n),.eq (.int .i64 k),.eq (.pointer (some ⟨b2,o2+k*2,none⟩)),.eq (.pointer (some ⟨b2,o2+k*2,none⟩)),.eq (v2),.ret (.bool true),.eq (.bool false),.eq (.bool false)] [17,18,19,20,21,22,23,24,25,26,27,28,29,30,31,32,33,34,35,36,37,38,39,40,41] rfl rfl rfl rfl ⟨λ_ _ a _ _ _=>xM rfl (a 0 rfl),λ_ _ a _ _ _=>xM rfl (a 5 rfl),λ_ _ _ _ _ e=>pI rfl Tryz.underlying50 b1 o1 k (b) (e.1 rfl) (e.2.1 rfl),λA _ _ _ _ he=>have h19:=eT 19 (he.1 rfl);pZ rfl,?_,λ_ _ a _ _ _=>xM rfl (a 1 rfl),λ_ _ a _ _ _=>xM rfl (a 5 rfl),λ_ _ _ _ _ e=>pI rfl Tryz.underlying50 b2 o2 k (b) (e.1 rfl) (e.2.1 rfl),λA _ _ _ _ he=>have h24:=eT 24 (he.1 rfl);pZ rfl,?_,λA _ _ _ _ he=>have h21:=eT 21 (he.1 rfl);have h26:=eT 26 (he.2.1 rfl);pZ rfl,λ_ _ _ _ _ e=>xM rfl (e.1 rfl),λ_ _ a _ _ e=>yM (e.1 rfl) rfl (a 0 rfl),λ_ _ a _ _ e=>yM (e.1 rfl) rfl (a 5 rfl),λ_ _ _ _ _ e=>aQ rfl rfl (e.2.2.1 rfl) (xI rfl Tryz.underlying50 b1 o1 k (b) (e.1 rfl) (e.2.1 rfl)),λA _ _ _ _ he=>have h28:=eT 28 (he.2.1 rfl);have h31:=eT 31 (he.1 rfl);yZ h28 rfl,?_,λ_ _ a _ _ e=>yM (e.1 rfl) rfl (a 1 rfl),λ_ _ a _ _ e=>yM (e.1 rfl) rfl (a 5 rfl),λ_ _ _ _ _ e=>aQ rfl rfl (e.2.2.1 rfl) (xI rfl Tryz.underlying50 b2 o2 k (b) (e.1 rfl) (e.2.1 rfl)),λA _ _ _ _ he=>have h28:=eT 28 (he.2.1 rfl);have h36:=eT 36 (he.1 rfl);yZ h28 rfl,?_,λA _ _ _ hS he=>have hb:=hS rfl;have h28:=eT 28 (he.2.2.1 rfl);have h33:=eT 33 (he.1 rfl);have h38:=eT 38 (he.2.1 rfl);have hf0:=eF A 13;cY (f:=13) (args:=#[v1,v2]) h28 (qg m (p1.on hb) (p2.on hb)),λA _ _ _ _ he=>have h28:=eT 28 (he.2.1 rfl);have h39:=eT 39 (he.1 rfl);yZ h28 rfl,λA _ _ _ _ he=>have h28:=eT 28 (he.1 rfl);have h40:=eT 40 (he.2.1 rfl);have hc0:=eC A (.bool true);pZ rfl,trivial⟩ ?_
   ·intro A w1 hA hL hS he;have h20:=eT 20 (he.1 rfl);refine ae rfl ?_;have c0:=c11 w1 hL.below;exact aB rfl rfl gZ
   ·intro A w1 hA hL hS he;have h25:=eT 25 (he.1 rfl);refine ae rfl ?_;have c0:=c21 w1 hL.below;exact aB rfl rfl gZ
   ·intro A w1 hA hL hS he;have h28:=eT 28 (he.2.1 rfl);have h32:=eT 32 (he.1 rfl);refine aQ rfl rfl h28 ?_;have c0:=c10 w1 hL.below;exact aB rfl rfl gZ
   ·intro A w1 hA hL hS he;have h28:=eT 28 (he.2.1 rfl);have h37:=eT 37 (he.1 rfl);refine aQ rfl rfl h28 ?_;have c0:=c20 w1 hL.below;exact aB rfl rfl gZ
   ·intro W5 hL5;have hb5:=hL5.below;simp only[aT,af.eq,af.ret,af.of,lZ];go_frame;clear hL5 c10 c11 c20 c21;go_wp2;go_roundw
    case rel=>exact⟨k+1,oM,nM,d.trans (hb5.mono d.size)⟩
    case measure=>simp[intOf];omega
  ·obtain rfl:L.length=k:=oM;go_wp2;go_ret;exact⟨rfl,d⟩
end Go.Proofs.YtopclbeomcggiaaGreat
end
section
namespace Q
open Go Go.Proofs.YtopclbeomcggiaaGreat
abbrev Ap:=Int × Int × Int × Int
def Rt (t:Ap):Prop:=(-128<=t.1/\t.1<128)/\(-128<=t.2.1/\t.2.1<128)/\(-128<=t.2.2.1/\t.2.2.1<128)/\-128<=t.2.2.2/\t.2.2.2<128
def nW (t:Ap):ai:=((t.1%256%3,t.2.1%256%3,t.2.2.1%256%2,0),((t.2.2.2.tmod 6:Int):Rat))
def zl (L:List Ap):List ai:=(L.take 3).map nW
def wD (L:List Ap):List ai:=canon (zl L)
def VW (t:Ap):Ap:=(t.1,t.2.1,0,t.2.2.2)
def X6 (L:List Ap):List ai:=wD ((L.take 3).map VW)
theorem Lm(c:Int):bH ((c.tmod 6:Int):Rat)<=((5:Nat):Rat):=by
 rw[rabs_int];have:(c.tmod 6).natAbs<6:=by rw[Int.natAbs_tmod];exact Nat.mod_lt _ dM
 exact Rat.natCast_le_natCast.2 oM
theorem C9:∀(L:List Ap),bI (L.map nW)<=((5*L.length:Nat):Rat)
 | []=>by simp only[List.map_nil,bI,List.length_nil,Nat.mul_zero];exact Rat.natCast_nonneg
 | t::L=>by
  have d:=C9 L;have e:bH (nW t).2<=((5:Nat):Rat):=Lm _
  have b:((5*(t::L).length:Nat):Rat)=((5:Nat):Rat)+((5*L.length:Nat):Rat):=by rw[<-Rat.natCast_add];congr 1;simp only[List.length_cons];omega
  rw[b];simp only[List.map_cons,bI];grind
def Wv:Sz:=⟨1,15,2,3⟩
theorem Dc(L:List Ap):Bd Wv (zl L):=by
 have d:(L.take 3).length<=3:=by rw[List.length_take];exact Nat.min_le_left _ _
 refine⟨by simpa[zl,Wv]using d,λt b=>?_,λt b=>?_,Rat.le_trans (C9 _) (Rat.natCast_le_natCast.2 (by show 5*(L.take 3).length<=15;omega))⟩
 ·obtain⟨s,e,rfl⟩:=List.mem_map.1 b;simp only[nW,Wv];omega
 ·obtain⟨s,e,rfl⟩:=List.mem_map.1 b;refine⟨s.2.2.2.tmod 6,?_⟩;show((s.2.2.2.tmod 6:Int):Rat)*((1:Nat):Rat)=_;rw[show((1:Nat):Rat)=1 from rfl,Rat.mul_one]
theorem Ru:Wv.ok:=dK
theorem De(L:List Ap):Pk Wv (wD L):=⟨fA _,(Dc L).canon,Ru⟩
end Q
namespace Go.Proofs.YtopclbeomcggiaaGreat
open Go.RowKit Q
def sW (t:Ap):List Value:=[.int .i8 t.1,.int .i8 t.2.1,.int .i8 t.2.2.1,.int .i8 t.2.2.2]
def VX (T:TypeId):El Ap where
 T:=T
 sz:=4
 pos:=by decide
 E _ cs t:=cs=sW t/\Rt t
 len:=by rintro w c t ⟨rfl,h⟩;rfl
 one:=by rintro w c t ⟨rfl,h⟩ v hv;simp only[sW,List.mem_cons,List.not_mem_nil,or_false]at hv;rcases hv with rfl|rfl|rfl|rfl<;>rfl
 on:=λh _=>h
 ok _:=True
 lr:=λh _ _=>h
 self:=trivial
def wE (w:World) (v:Value) (l:List Ap):Prop:=∃T,bU (VX T) w v l
theorem wE.on{w w':World}{v:Value}{l:List Ap}(h:wE w v l)(hb:Below w.heap.size w w'):wE w' v l:=let ⟨T,h⟩:=h;⟨T,h.on hb⟩
theorem wE.shape{w:World}{v:Value}{l:List Ap}(h:wE w v l):∃b cap,v=.slice b l.length cap/\l.length<=cap:=let ⟨_,h⟩:=h;h.shape
theorem wE.get{w:World}{i:Option Addr}{n c j:Nat}{t:Ap}{l:List Ap}(h:wE w (.slice i n c) l)(k:l[j]?=some t):∃T b off,i=some ⟨b,off,none⟩/\Rt t/\bS T w b (off+j*4) (sW t):=by obtain⟨T,h⟩:=h;obtain⟨b,off,cs,e,-,⟨rfl,d⟩,m⟩:=h.get k;exact⟨T,b,off,e,d,m⟩
end Go.Proofs.YtopclbeomcggiaaGreat
end
section
namespace Q
open Go Go.RowKit Go.Proofs.YtopclbeomcggiaaGreat
theorem Fh{l:List Nat}(h:l.Nodup){i j x:Nat}(o:l[i]?=some x)(p:l[j]?=some x):i=j:=by
 have b:=(List.getElem?_eq_some_iff.1 o);have d:=(List.getElem?_eq_some_iff.1 p);obtain⟨n,e⟩:=b;obtain⟨k,m⟩:=d;have hp:=List.pairwise_iff_getElem.1 h;rcases Nat.lt_trichotomy i j with hlt|heq|hgt
 ·exact absurd (e.trans m.symm) (hp i j n k hlt)
 ·exact heq
 ·exact absurd (m.trans e.symm) (hp j i k n hgt)
theorem sP.hd{base:Nat}{w:World}{g N:Nat}{bs:List Nat}{M:Mx}(h:sP base w g N bs M){i b:Nat}(hb:bs[i]?=some b):w.cell? ⟨g,i,none⟩=some (nQ N b):=by have d:i<bs.length:=(List.getElem?_eq_some_iff.1 hb).1;refine h.ob.at1 i _ ?_;rw[List.getElem?_append_left (by rw[List.length_map];exact d),List.getElem?_map,hb];rfl
theorem sP.lt{base:Nat}{w:World}{g N:Nat}{bs:List Nat}{M:Mx}(h:sP base w g N bs M):g<w.heap.size:=h.ob.lt
theorem sP.push{base:Nat}{w:World}{g N:Nat}{bs:List Nat}{M:Mx}(h:sP base w g N bs M)(C:bs.length<N){b:Nat}{r:List (List ai)}(q:mf base w N b r)(hb:b∉bs) :
  sP base (w.setCell ⟨g,bs.length,none⟩ (nQ N b)) g N (bs++[b]) (M++[r]):=by
 have o:=aY (j:=bs.length) h.ob (nQ N b);refine⟨?_,h.gb,by simp[h.len],by simp;omega,λi B s k l=>?_,?_⟩
 ·have n:=h.ob.set bs.length (nQ N b)
  have e:(bs.map (nQ N)++List.replicate (N-bs.length) (Value.slice none 0 0)).set bs.length (nQ N b)=(bs++[b]).map (nQ N)++List.replicate (N-(bs++[b]).length) (Value.slice none 0 0):=by
   obtain⟨d,hd⟩:∃d,N - bs.length=d+1:=⟨N - bs.length - 1,oM⟩;have m:N - (bs++[b]).length=d:=by simp;omega
   rw[hd,m,List.set_append_right _ _ sM,List.length_map,Nat.sub_self,List.replicate_succ,List.set_cons_zero,List.map_append,List.append_assoc];rfl
  rw[e]at n;exact n
 ·rcases Nat.lt_or_ge i bs.length with hi|hi
  ·rw[List.getElem?_append_left hi]at k;rw[List.getElem?_append_left (by rw[h.len];exact hi)]at l;have p:=h.row i B s k l;exact p.lr o dM dM (p.ne h.ob)
  ·rw[List.getElem?_append_right hi]at k;rw[List.getElem?_append_right (by rw[h.len];exact hi),h.len]at l;rcases Nat.eq_zero_or_pos (i - bs.length)with h0|h0
   ·rw[h0]at k l;simp only[List.getElem?_cons_zero,Option.some.injEq]at k l;subst k;subst l;exact q.lr o dM dM (q.ne h.ob)
   ·rw[List.getElem?_eq_none (by simp;omega)]at k;cases k
 ·rw[List.nodup_append];refine⟨h.nd,sM,λx z y u=>?_⟩;rw[List.mem_singleton.1 u];rintro rfl;exact hb z
theorem sP.set{base:Nat}{w:World}{g N:Nat}{bs:List Nat}{M:Mx}(h:sP base w g N bs M){i b j:Nat}(hb:bs[i]?=some b)(x:j<N){v:Value}{q:List ai}(hq:ak w v q) :
  sP base (w.setCell ⟨b,j,none⟩ v) g N bs (Eh M i j q)/\Lr (some b) polyT w (w.setCell ⟨b,j,none⟩ v)/\base<=b:=by
 have n:i<bs.length:=(List.getElem?_eq_some_iff.1 hb).1;have u:M[i]?=some (M.getD i []):=by rw[List.getD_eq_getElem?_getD,List.getElem?_eq_getElem (by rw[h.len];exact n)];rfl
 have m:=h.row i b _ hb u;obtain⟨s,l⟩:=m.set x hq;refine⟨⟨h.ob.lr l (by simpa using(m.ne h.ob).symm),h.gb,by rw[Eh,List.length_set];exact h.len,h.le,λo r p e k=>?_,h.nd⟩,l,m.1⟩;by_cases d:i=o
 ·subst d;rw[hb]at e;cases e;rw[Eh,List.getElem?_set,if_pos rfl,if_pos (by rw[h.len];exact n)]at k;cases k;exact s
 ·rw[Eh,List.getElem?_set,if_neg d]at k;refine(h.row o r p e k).lr l dM dM ?_;rintro rfl;exact d (Fh h.nd hb e)
theorem O9(M:Mx)(r:List (List ai))(j:Nat)(x:List ai):Eh (M++[r]) M.length j x=M++[r.set j x]:=by unfold Eh;rw[List.getD_eq_getElem?_getD,List.getElem?_append_right (Nat.le_refl _),Nat.sub_self,List.set_append_right _ _ (Nat.le_refl _),Nat.sub_self];rfl
end Q
namespace Go.Proofs.YtopclbeomcggiaaGreat
open Go.RowKit Q Go.WideMaps Go.Maps
def VY (w:World) (N:Nat) (M:Mx) (e:Ending) (w':World):Prop:=∃g bs,e=.returned (.slice (some ⟨g,0,none⟩) N N)/\sP w.heap.size w' g N bs M/\Below w.heap.size w w'
theorem Ei(va vb:Value)(a b:List (List ai))(w:World)(ha:jc w va a)(hb:jc w vb b)(la:1<=a.length)(la2:a.length<=100001)(lb:1<=b.length)(lb2:b.length<=100001) :
  Calls Tryz.prog 76 #[va,vb] w (VY w (a.length-1+(b.length-1)) (VK a b)):=by
 obtain⟨aa,ca,rfl,ar⟩:=ha.shape;obtain⟨ab,cb,rfl,an⟩:=hb.shape;obtain⟨m,hm⟩:∃m,a.length=m+1:=⟨a.length - 1,oM⟩;obtain⟨n,Z⟩:∃n,b.length=n+1:=⟨b.length - 1,oM⟩;have o:∀i,iW a b (m+n) i=if n<=i then mK b (i - n) (m+n) b.length else mK a i (m+n) a.length:=λi=>by rw[iW,Z,Nat.add_sub_cancel]
 have B:VK a b=(List.range (m+n)).map (iW a b (m+n)):=by rw[VK,hm,Z,Nat.add_sub_cancel,Nat.add_sub_cancel]
 rw[B,(oM:a.length-1+(b.length-1)=m+n)];have hm2:(a.length:Int)-1=(m:Int):=oM;have hn2:(b.length:Int)-1=(n:Int):=oM;have ap:m<=100000:=oM;have aq:n<=100000:=oM;replace o:=zH o;replace ha:=zH ha;replace hb:=zH hb;replace hm:=zH hm;replace Z:=zH Z;clear B
 go_enter Tryz.func76,Tryz.ntmps76
 go_wp2_with (at_make;refine bL rfl _ _ _ rfl GH (.slice none 0 0) 1 24 Tryz.underlying84 kM rfl rfl .i64 .i64 _ _ (m+n) rfl rfl oM oM oM oM ?_;intro w2 own2 gr2)
 have L:Hid (sP w.heap.size w2 w.heap.size (m+n) [] ((List.range 0).map (iW a b (m+n)))):=zH ⟨by simpa using(show Blk w2 w.heap.size GH (List.replicate (m+n) (Value.slice none 0 0))from own2),Nat.le_refl _,rfl,sM,λi b r h=>by simp at h,List.nodup_nil⟩;generalize hg:w.heap.size=g at L ⊢;have a5:w.heap.size<=g:=oM;clear own2
 go_loopw [24] (λi wr=>∃(k:Nat)(bs:List Nat),k<=m+n/\i=.int .i64 k/\bs.length=k/\Hid (sP w.heap.size wr g (m+n) bs ((List.range k).map (iW a b (m+n))))/\Below w.heap.size w wr) (λi _=>m+n-(intOf i).toNat)
 case atStart=>exact⟨0,[],oM,nM,rfl,by rw[hg];exact L,gr2⟩
 case round =>
  clear L gr2;replace hg:=zH hg;obtain⟨k,bs,hk,rfl,z,hM,q⟩:=hrel;by_cases X:k<m+n
  ·have ad:(k:Int)<(m:Int)+(n:Int):=oM;have hM0:=hM.out;have a8:=hM0.lt;have hz:=hM0.ob.at1 k (.slice none 0 0) (by rw[List.getElem?_append_right (by rw[List.length_map];omega),List.length_map,z,Nat.sub_self,List.getElem?_replicate,if_pos oM]);have hf:=hM0.ob.frozen k
   go_upto_region 7 with (first
    | (at_make;refine bL rfl _ _ _ rfl polyT (.slice none 0 0) 1 24 Tryz.underlying75 kM rfl rfl .i64 .i64 _ _ (m+n) rfl rfl oM oM oM oM ?_;intro w3 own3 gr3;have hz3:=(hM0.on gr3).ob.at1 k (.slice none 0 0) (by rw[List.getElem?_append_right (by rw[List.length_map];omega),List.length_map,z,Nat.sub_self,List.getElem?_replicate,if_pos oM]);have hf3:=(hM0.on gr3).ob.frozen k)
    | (refine aj rfl (.tmp 27) (.tmp 28) _ rfl _ Tryz.underlying84 _ 1 24 kM _ _ _ rfl _ _ rfl k rfl X g 0 rfl ?_;rw[Nat.mul_one,Nat.zero_add]))
   have hM3:=hM0.on gr3
   have C:wr.heap.size∉bs:=λa6=>by
    obtain⟨i,hi,he⟩:=List.getElem_of_mem a6;have h1:bs[i]?=some wr.heap.size:=by rw[List.getElem?_eq_getElem hi,he]
    have h2:((List.range k).map (iW a b (m+n)))[i]?=some (((List.range k).map (iW a b (m+n))).getD i []):=by rw[List.getD_eq_getElem?_getD,List.getElem?_eq_getElem (by simp;omega)];rfl
    have h3:=hM0.row i _ _ h1 h2;obtain⟨-,-,-,-,h4⟩:=h3.get (j:=0) oM;omega
   have a0:mf w.heap.size w3 (m+n) wr.heap.size (List.replicate (m+n) []):=by refine⟨q.size,sM,List.replicate (m+n) (.slice none 0 0),⟨own3,sM,λi v p h1 h2=>?_⟩,sM⟩;rw[xz h1,xz h2];exact bU.nil _ _
   have d:=hM3.push oM a0 C;rw[z]at d;have hb4:=(q.trans (gr3.mono q.size)).trans (bF (W:=w3) (g:=g) (j:=k) a5 (nQ (m+n) wr.heap.size));have hst0:Hid (sP w.heap.size (w3.setCell ⟨g,k,none⟩ (nQ (m+n) wr.heap.size)) g (m+n) (bs++[wr.heap.size]) ((List.range k).map (iW a b (m+n))++[List.replicate (m+n) []])):=zH d;obtain⟨gb,M⟩:∃gb,gb=wr.heap.size:=⟨_,rfl⟩;rw[<-M]at hst0 hb4 ⊢;obtain⟨W4,hW4⟩:∃W4,W4=w3.setCell ⟨g,k,none⟩ (nQ (m+n) gb):=⟨_,rfl⟩;rw[<-hW4]at hst0 hb4;change Code.wp _ _ _ _ (w3.setCell ⟨g,k,none⟩ (nQ (m+n) gb));rw[<-hW4];clear hM hM0 hM3 hz hf own3 gr3 hz3 hf3 C a0 d hW4 M a8 q
   go_upto_if 38 with (fail)
   go_cut [9,10,39,40,41,42] (λvl vt _ _ _ _ wc=>∃(l:List (List ai))(t:Nat),vt=.int .i64 t/\Hid (jc w vl l)/\Hid (iW a b (m+n) k=mK l t (m+n) l.length)/\1<=l.length/\l.length<=100001/\t+l.length<=m+n/\Hid (sP w.heap.size wc g (m+n) (bs++[gb]) ((List.range k).map (iW a b (m+n))++[List.replicate (m+n) []]))/\Below w.heap.size w wc)
   case first =>
    by_cases a9:n<=k
    ·have a2:(n:Int)<=(k:Int):=oM;obtain⟨t,ht⟩:∃t,t=k - n:=⟨_,rfl⟩;have ht2:(k:Int) - (n:Int)=(t:Int):=oM;have hr9:=zH (o.out k);replace ht:=zH ht;go_wp2;go_meet
     case rel=>exact⟨b,t,rfl,hb,zH (by rw[hr9.out,if_pos a9,ht.out]),lb,lb2,by have:=ht.out;have:=Z.out;omega,hst0,hb4⟩
    ·have a2:¬(n:Int)<=(k:Int):=oM;have hr9:=zH (o.out k);go_wp2;go_meet
     case rel=>exact⟨a,k,rfl,ha,zH (by rw[hr9.out,if_neg oM]),la,la2,by have:=hm.out;omega,hst0,hb4⟩
   case rest =>
    clear hst0 hb4;obtain⟨l,t,rfl,hl,F,ll,ll2,au,hM,a1⟩:=hcut;obtain⟨al,cl,rfl,-⟩:=hl.out.shape;go_wp2
    go_loopw [45] (λi wz=>∃j:Nat,j<=l.length/\i=.int .i64 j/\Hid (sP w.heap.size wz g (m+n) (bs++[gb]) ((List.range k).map (iW a b (m+n))++[mK l t (m+n) j]))/\Below w.heap.size w wz) (λi _=>l.length-(intOf i).toNat)
    case atStart=>exact⟨0,oM,nM,hM,a1⟩
    case round =>
     clear hM a1;obtain⟨j,hj,rfl,hM,u⟩:=hrel;by_cases N:j<l.length
     ·have J:l[j]?=some l[j]:=List.getElem?_eq_getElem N;have S:l.getD j []=l[j]:=by rw[List.getD_eq_getElem?_getD,J];rfl
      have hl0:=hl.out.on u;generalize l[j]=c at *;obtain⟨bl,ol,vc,rfl,G,hC⟩:=uR hl0 J;have a4:=bU.shape G;obtain⟨p,hp⟩:∃p,p=t+l.length - 1 - j:=⟨_,rfl⟩;have a3:(t:Int)+(l.length:Int) - 1 - (j:Int)=(p:Int):=oM;have D:p<m+n:=oM;have hM0:=hM.out;have I:(bs++[gb])[k]?=some gb:=by rw[List.getElem?_append_right oM,z,Nat.sub_self];rfl
      have hlen9:((List.range k).map (iW a b (m+n))).length=k:=sM
      have s:Hid ((List.range k).map (iW a b (m+n))++[mK l t (m+n) (j+1)]=Eh ((List.range k).map (iW a b (m+n))++[mK l t (m+n) j]) k p c):=zH (by
       have h1:=O9 ((List.range k).map (iW a b (m+n))) (mK l t (m+n) j) p c;rw[hlen9]at h1
       rw[h1,mK,<-hp,S])
      have y:∀W,Below wr.heap.size wr W->W.cell? ⟨g,k,none⟩=some (.slice (some ⟨gb,0,none⟩) (m+n) (m+n)):=λW hb=>(hM0.on hb).hd I
      have x:∀W,Below wr.heap.size wr W->W.cell? ⟨bl,ol+j,none⟩=some vc:=λW hb=>by have h1:=(hC.on hb).cell 0 sM;simpa using h1
      have ag:(l.length:Int)<=100001:=oM;have ao:(t:Int)<=200000:=oM;replace y:=zH y;replace x:=zH x;replace hp:=zH hp;clear hC J S hlen9 F
      go_upto_region 13 with (fail)
      refine aC mixed (none) (0) (fK.none) [.eq (.slice (some ⟨g,0,none⟩) (m+n) (m+n)),.eq (.int .i64 k),.eq (.pointer (some ⟨g,0+k*1,none⟩)),.eq (.slice (some ⟨gb,0,none⟩) (m+n) (m+n)),.eq (.int .i64 t),.eq (.slice (some ⟨bl,ol,none⟩) l.length cl),.eq (.int .i64 l.length),.eq (.int .i64 ((t:Int)+l.length)),.eq (.int .i64 ((t:Int)+l.length-1)),.eq (.int .i64 j),.eq (.int .i64 p),.eq (.slice (some ⟨bl,ol,none⟩) l.length cl),.eq (.int .i64 j),.eq (.pointer (some ⟨bl,ol+j*1,none⟩)),.eq (vc),.eq (.pointer (some ⟨gb,0+p*1,none⟩))] [48,49,50,51,52,53,54,55,56,57,58,59,60,61,62,63] rfl rfl rfl rfl ⟨λ_ _ a _ _ _=>xM rfl (a 7 rfl),λ_ _ a _ _ _=>xM rfl (a 8 rfl),λ_ _ _ _ _ e=>pI rfl Tryz.underlying84 g 0 k (X) (e.1 rfl) (e.2.1 rfl),?_,λ_ _ a _ _ _=>xM rfl (a 10 rfl),λ_ _ a _ _ _=>xM rfl (a 9 rfl),λA _ _ _ _ he=>have h53:=eT 53 (he.1 rfl);pZ rfl,?_,?_,λ_ _ a _ _ _=>xM rfl (a 11 rfl),?_,λ_ _ a _ _ _=>xM rfl (a 9 rfl),λ_ _ a _ _ _=>xM rfl (a 11 rfl),λ_ _ _ _ _ e=>pI rfl Tryz.underlying75 bl ol j (N) (e.1 rfl) (e.2.1 rfl),?_,λ_ _ _ _ _ e=>pI rfl Tryz.underlying75 gb 0 p (D) (e.1 rfl) (e.2.1 rfl),trivial⟩ ?_
      ·intro A w1 hA hL hS he;have h50:=eT 50 (he.1 rfl);refine ae rfl ?_;have c0:=y.out w1 hL.below;exact aB rfl rfl gZ
      ·intro A w1 hA hL hS he;have h52:=eT 52 (he.1 rfl);have h54:=eT 54 (he.2.1 rfl);refine ae rfl (aB rfl rfl ?_);generalize A.eval=ev at *;go_simp;exact lS oM oM
      ·intro A w1 hA hL hS he;have h55:=eT 55 (he.1 rfl);have hc0:=eC A (.int .i64 1);refine ae rfl (aB rfl rfl ?_);generalize A.eval=ev at *;go_simp;exact lS oM oM
      ·intro A w1 hA hL hS he;have h56:=eT 56 (he.1 rfl);have h57:=eT 57 (he.2.1 rfl);refine ae rfl (aB rfl rfl ?_);generalize A.eval=ev at *;go_simp
       (first|exact lS oM oM|(rw[a3];exact lS oM oM))
      ·intro A w1 hA hL hS he;have h61:=eT 61 (he.1 rfl);refine ae rfl ?_;have c0:=x.out w1 hL.below;exact aB rfl rfl gZ
      ·intro W5 hL5;have hb5:=hL5.below;simp only[aT,af.eq,lZ];go_frame;have hM5:=hM0.on hb5;have Y:=hM5.row k gb _ I (show((List.range k).map (iW a b (m+n))++[mK l t (m+n) j])[k]?=some (mK l t (m+n) j) by rw[List.getElem?_append_right sM,List.length_map,List.length_range,Nat.sub_self];rfl);obtain⟨vo,-,z5,f5,-⟩:=Y.get D;obtain⟨hM6,hl6,hgb6⟩:=hM5.set I D (G.on hb5);have a7:Hid (sP w.heap.size (W5.setCell ⟨gb,p,none⟩ vc) g (m+n) (bs++[gb]) ((List.range k).map (iW a b (m+n))++[mK l t (m+n) (j+1)])):=zH (by rw[s.out];exact hM6);have hb6:=(u.trans (hb5.mono u.size)).trans (bF (W:=W5) (g:=gb) (j:=p) hgb6 vc);clear hM5 Y hM6 hl6 hM0 hM hl0 y x hL5 s G;obtain⟨ac,cc,rfl,-⟩:=a4;go_wp2;go_roundw
       case rel=>exact⟨j+1,oM,nM,a7,hb6⟩
       case measure=>simp[intOf];omega
     ·obtain rfl:j=l.length:=oM
      have hM2:Hid (sP w.heap.size wr g (m+n) (bs++[gb]) ((List.range (k+1)).map (iW a b (m+n)))):=zH (by
       rw[List.range_succ,List.map_append,List.map_cons,List.map_nil,F.out];exact hM.out)
      clear hM hl F;go_wp2;go_roundw
      case rel=>exact⟨k+1,bs++[gb],oM,nM,by simp;omega,hM2,u⟩
      case measure=>simp[intOf];omega
  ·obtain rfl:k=m+n:=oM;go_wp2;go_ret;exact⟨g,bs,rfl,hM.out,q⟩
end Go.Proofs.YtopclbeomcggiaaGreat
end
section
namespace Q
def PE (p:Nat):Prop:=1<p/\∀m,m∣p->m=1\/m=p
theorem VZ:∀n:Nat,1<n->∃p,PE p/\p∣n:=λn=>by
 induction n using Nat.strongRecOn with
 | _ n ih =>
  intro h;by_cases hp:PE n
  ·exact⟨n,hp,Nat.dvd_refl n⟩
  ·have:∃m,m∣n/\m≠1/\m≠n:=by
    rcases Classical.em (∃m,m∣n/\m≠1/\m≠n)with h'|h'
    ·exact h'
    ·exfalso;apply hp;refine⟨h,λm hm=>?_⟩;rcases Classical.em (m=1)with d|d
     ·exact .inl d
     ·rcases Classical.em (m=n)with b|b
      ·exact .inr b
      ·exact absurd ⟨m,hm,d,b⟩ h'
   obtain⟨m,hm,d,b⟩:=this;have kL:=Nat.le_of_dvd oM hm;have i:m≠0:=λe=>by rw[e]at hm;have:=Nat.eq_zero_of_zero_dvd hm;omega
   obtain⟨p,hp,hd⟩:=ih m oM oM;exact⟨p,hp,Nat.dvd_trans hd hm⟩
theorem AQ{p:Nat}(hp:PE p){a b:Int}(h:(p:Int)∣a*b):(p:Int)∣a\/(p:Int)∣b:=by
 rcases hp.2 _ (Nat.gcd_dvd_left p a.natAbs)with h1|h1
 ·right;have d:p∣a.natAbs*b.natAbs:=by rw[<-Int.natAbs_mul];exact Int.ofNat_dvd_left.1 h
  exact Int.ofNat_dvd_left.2 (Nat.Coprime.dvd_of_dvd_mul_left h1 d)
 ·left;have:=Nat.gcd_dvd_right p a.natAbs;rw[h1]at this;exact Int.ofNat_dvd_left.2 this
namespace MP
theorem sF(r:Rat)(p:MP):c r*p=⟨bN p.l r,p.v.scale r⟩:=ext' λx=>by rw[ev_mul,ev_c];have:=Q.ev_scale x p.l r;show r*Q.ev x p.l=Q.ev x (bN p.l r);rw[this];grind
theorem sG(r:Rat)(p:MP):(c r*p).am=bH r*p.am:=by
 rw[sF];show bI (bN p.l r)=bH r*bI p.l;unfold bN;split
 ·rename_i h;rw[h];show(0:Rat)=_;have e:bH 0=0:=dM;rw[e];grind
 ·induction p.l with
  | nil=>simp only[List.map_nil,bI];grind
  | cons t l b=>simp only[List.map_cons,bI,jH]at *;grind
theorem Df{r:Rat}{p:MP}{t:ai}(h:t∈(c r*p).l):∃s∈p.l,t=(s.1,s.2*r):=by rw[sF]at h;exact yY h
theorem qW{D:Nat}{p:MP}(h:p.dv D):(c (D:Rat)*p).dv 1:=λt b=>by obtain⟨s,d,rfl⟩:=Df b;obtain⟨k,e⟩:=h s d;exact⟨k,by show s.2*D*((1:Nat):Rat)=k;rw[e,show((1:Nat):Rat)=1 from rfl,Rat.mul_one]⟩
theorem jE{D:Nat}(h:0<D):(D:Rat)≠0:=λb=>by have:(D:Rat)=((0:Nat):Rat):=b;have:=Rat.natCast_inj.1 this;omega
theorem Lp{D:Nat}(d:0<D){p:MP}(h:(c (D:Rat)*p).dv 1):p.dv D:=λt b=>by
 have e:cf (c (D:Rat)*p).l t.1=D*t.2:=by rw[qy,KY b]
 obtain⟨z,hz⟩:=iD (EY h t.1);exact⟨z,by rw[<-hz,e];grind⟩
def Dh (p:Nat) (P:MP):Prop:=∃P':MP,P'.dv 1/\P=c (p:Rat)*P'
theorem GI{p:Nat}{a b:MP}(h:Dh p a)(i:Dh p b):Dh p (a+b):=by obtain⟨x,e,rfl⟩:=h;obtain⟨y,d,rfl⟩:=i;exact⟨x+y,Cz e d,gR⟩
theorem TN{p:Nat}{a b:MP}(h:Dh p a)(i:Dh p b):Dh p (a-b):=by obtain⟨x,e,rfl⟩:=h;obtain⟨y,d,rfl⟩:=i;exact⟨x - y,CB e d,gR⟩
theorem Ni{p:Nat}{a b:MP}(h:Dh p a)(e:b.dv 1):Dh p (a*b):=by obtain⟨x,d,rfl⟩:=h;exact⟨x*b,jd d e,gR⟩
theorem Rv{p:Nat}{a b:MP}(h:Dh p b)(e:a.dv 1):Dh p (a*b):=by obtain⟨x,d,rfl⟩:=h;exact⟨a*x,jd e d,gR⟩
theorem uy(p:Nat):Dh p 0:=⟨0,Gs 1,gR⟩
theorem TP(f:Ex->Rat)(b:ai->Bool)(l:List ai):Lf f l=Lf f (l.filter b)+Lf f (l.filter λt=>!b t):=by
 induction l with
 | nil=>simp only[List.filter_nil,Lf];grind
 | cons t l d=>cases hb:b t<;>simp only[List.filter_cons,hb,Lf,d,Bool.not_true,Bool.not_false,if_true,if_false,Bool.false_eq_true]<;>grind
def Sy (b:ai->Bool) (p:MP):MP:=⟨p.l.filter b,p.v.sublist List.filter_sublist⟩
theorem GJ(b:ai->Bool)(p:MP):p=Sy b p+Sy (λt=>!b t) p:=Od λf=>by rw[lf_add];exact TP f b p.l
theorem Lt{D:Nat}{b:ai->Bool}{p:MP}(h:p.dv D):(Sy b p).dv D:=λt d=>h t (List.mem_filter.1 d).1
def vg (p:Nat) (t:ai):Bool:=decide (t.2.num%(p:Int)=0)
theorem GK{p:Nat}(hp:0<p){P:MP}(h:P.dv 1):Dh p (Sy (vg p) P):=by
 refine⟨c ((p:Rat)⁻¹)*Sy (vg p) P,λt j=>?_,?_⟩
 ·obtain⟨s,n,rfl⟩:=Df j;have d:s∈P.l.filter (vg p):=n;obtain⟨m,i⟩:=List.mem_filter.1 d;obtain⟨z,hz⟩:=iD (h s m);have b:s.2.num%(p:Int)=0:=of_decide_eq_true i;rw[hz]at b;have b:z%(p:Int)=0:=b;obtain⟨k,rfl⟩:=Int.dvd_of_emod_eq_zero b;refine⟨k,?_⟩;show s.2*(p:Rat)⁻¹*((1:Nat):Rat)=k;rw[hz,Rat.intCast_mul,Rat.intCast_natCast,show((1:Nat):Rat)=1 from rfl];have:=Rat.mul_inv_cancel _ (jE hp);grind
 ·have e:c (p:Rat)*c ((p:Rat)⁻¹)=1:=by rw[lX,Rat.mul_inv_cancel _ (jE hp)];rfl
  grind
theorem TQ{G H:MP}{s t:ai}{l r:List ai}(b:G.l=s::l)(d:H.l=t::r):cf (G*H).l (s.1.add t.1)=s.2*t.2:=by have e:cf (G*H).l (s.1.add t.1)=cf (prods G.l H.l) (s.1.add t.1):=(kJ (G.v.nat.prods H.v.nat)).cf _;rw[e,b,d];exact qC (by rw[<-b];exact G.v.1) (by rw[<-d];exact H.v.1)
theorem Fj{p:Nat}(hp:PE p){G H:MP}(E:G.dv 1)(D:H.dv 1)(h:Dh p (G*H)):Dh p G\/Dh p H:=by
 have q:0<p:=by have:=hp.1;omega
 have I:=GJ (vg p) G;have F:=GJ (vg p) H;have J:=GK q E;have zH:=GK q D;obtain⟨i,d⟩:∃g,g=Sy (λt=>!vg p t) G:=⟨_,rfl⟩;obtain⟨n,b⟩:∃g,g=Sy (λt=>!vg p t) H:=⟨_,rfl⟩;have u:i.dv 1:=by rw[d];exact Lt E
 have C:n.dv 1:=by rw[b];exact Lt D
 rw[<-d]at I;rw[<-b]at F
 cases hGl:i.l with
 | nil=>left;rw[I,zero_iff.2 hGl];exact GI J (uy p)
 | cons s l =>
  cases hHl:n.l with
  | nil=>right;rw[F,zero_iff.2 hHl];exact GI zH (uy p)
  | cons t r =>
   exfalso
   have hz:Dh p (i*n):=by have e:i*n=G*H-(Sy (vg p) G*H+i*Sy (vg p) H):=gR;rw[e];exact TN h (GI (Ni J D) (Rv zH u))
   obtain⟨W,R,S⟩:=hz;have B:=TQ hGl hHl;rw[S,qy]at B;obtain⟨z,hz⟩:=iD (EY R (s.1.add t.1));obtain⟨x,L⟩:=iD (u s (by rw[hGl];simp));obtain⟨y,K⟩:=iD (C t (by rw[hHl];simp));rw[hz,L,K,<-Rat.intCast_natCast,<-Rat.intCast_mul,<-Rat.intCast_mul]at B;have M:=Rat.intCast_inj.1 B;have m:s∈i.l:=by rw[hGl];simp
   have j:t∈n.l:=by rw[hHl];simp
   rw[d]at m;rw[b]at j;have O:s∈G.l.filter (λt=>!vg p t):=m;have N:t∈H.l.filter (λt=>!vg p t):=j;have k:=(List.mem_filter.1 O).2;have o:=(List.mem_filter.1 N).2;simp only[vg,Bool.not_eq_true',decide_eq_false_iff_not,L,K]at k o;rcases AQ hp ⟨z,M.symm⟩with h|h
   ·exact k (Int.emod_eq_zero_of_dvd h)
   ·exact o (Int.emod_eq_zero_of_dvd h)
def pz (G:MP):Prop:=G.dv 1/\∀p,PE p->¬Dh p G
theorem qh{n:Nat}(h:1<=n):(1:Rat)<=(n:Rat):=by have e:(1:Rat)=((1:Nat):Rat):=rfl;rw[e];exact Rat.natCast_le_natCast.2 h
theorem rabs_int{z:Int}(h:z≠0):(1:Rat)<=bH (z:Rat):=by
 unfold bH;have e:(1:Rat)=((1:Int):Rat):=rfl;split
 ·rename_i b;have e0:(0:Rat)=((0:Int):Rat):=rfl;rw[e0]at b;have:z<0:=Rat.intCast_lt_intCast.1 b;rw[e,<-Rat.intCast_neg];exact Rat.intCast_le_intCast.2 oM
 ·rename_i b;have e0:(0:Rat)=((0:Int):Rat):=rfl;rw[e0]at b;have:¬z<0:=λhz=>b (Rat.intCast_lt_intCast.2 hz);rw[e];exact Rat.intCast_le_intCast.2 oM
theorem je{p:MP}(h:p≠0):∃t l,p.l=t::l:=by
 cases e:p.l with
 | nil=>exact absurd (zero_iff.2 e) h
 | cons t l=>exact⟨t,l,rfl⟩
theorem Fp{p:MP}(h:p.dv 1)(d:p≠0):1<=p.am:=by
 obtain⟨t,l,e⟩:=je d;have b:t∈p.l:=by rw[e];simp
 obtain⟨z,hz⟩:=iD (h t b);have i:=tq b
 have j:(1:Rat)<=bH t.2:=by rw[hz];refine rabs_int λe0=>(p.v.2 t b).1 ?_;rw[hz,e0];rfl
 show 1<=bI p.l;grind
theorem wF{r:Rat}(h:r≠0):c r≠0:=Ga (yO h)
theorem UJ:∀(k:Nat)(P:MP),P≠0->P.dv 1->P.am<=(2:Rat)^k->∃r:Rat,r≠0/\pz (c r*P)
 | k,P,h0,h1,h2=>by
  by_cases hz:∃p,PE p/\Dh p P
  ·obtain⟨p,hp,d,n,e⟩:=hz;have b:0<p:=by have:=hp.1;omega
   have i:d≠0:=λo=>h0 (by rw[e,o];grind)
   have ha:(p:Rat)*d.am=P.am:=by rw[e,sG,bO (by have:(0:Rat)<=(p:Rat):=Rat.natCast_nonneg;exact this)]
   have hg:=Fp n i
   have j:(2:Rat)<=(p:Rat):=by have m:(2:Rat)=((2:Nat):Rat):=rfl;rw[m];exact Rat.natCast_le_natCast.2 hp.1
   have hm:(2:Rat)*d.am<=(p:Rat)*d.am:=Rat.mul_le_mul_of_nonneg_right j gR
   cases k with
   | zero=>exfalso;rw[Rat.pow_zero]at h2;grind
   | succ k =>
    rw[Rat.pow_succ]at h2;obtain⟨r,q,l⟩:=UJ k d i n gR;refine⟨r*(p:Rat)⁻¹,jr q (λh=>jE b (by have:=Rat.mul_inv_cancel _ (jE b);rw[h]at this;grind)),?_⟩
    have m:c (r*(p:Rat)⁻¹)*P=c r*d:=by
     rw[e,<-lX];have e:c ((p:Rat)⁻¹)*c (p:Rat)=1:=by rw[lX,Rat.inv_mul_cancel _ (jE b)];rfl
     grind
    rw[m];exact l
  ·refine⟨1,dM,?_⟩;have e:c 1*P=P:=by rw[zR];grind
   rw[e];exact⟨h1,λp hp h=>hz ⟨p,hp,h⟩⟩
theorem Rw:∀l:List ai,∃D,0<D/\∀t∈l,Dv D t.2
 | []=>⟨1,by omega,λ_ h=>by cases h⟩
 | t::l=>by
  obtain⟨D,d,b⟩:=Rw l
  have i:Dv t.2.den t.2:=⟨t.2.num,by
   have d:(t.2.den:Rat)≠0:=jE t.2.den_pos;have b:=Rat.num_divInt_den t.2;rw[Rat.divInt_eq_div,Rat.intCast_natCast]at b;have j:(t.2.num:Rat)/(t.2.den:Rat)*(t.2.den:Rat)=t.2.num:=Rat.div_mul_cancel d
   rwa[b]at j⟩
  refine⟨t.2.den*D,Nat.mul_pos t.2.den_pos d,λs e=>?_⟩;rcases List.mem_cons.1 e with rfl|e
  ·exact i.dvd (Nat.dvd_mul_right _ _)
  ·exact(b s e).dvd (Nat.dvd_mul_left _ _)
theorem Lx(r:Rat):∃k:Nat,r<=(2:Rat)^k:=by
 have j:∀n:Nat,(n:Rat)<=(2:Rat)^n:=λn=>by
  induction n with
  | zero=>rw[Rat.pow_zero];decide
  | succ n l =>
   have b:(1:Rat)<=(2:Rat)^n:=by have:=(yo (T:=2) dM (Nat.zero_le n)).2;rwa[Rat.pow_zero]at this
   rw[Rat.pow_succ,Rat.natCast_add];have e:((1:Nat):Rat)=1:=rfl;rw[e];grind
 refine⟨r.num.natAbs,Rat.le_trans ?_ (j _)⟩
 have b:r*(r.den:Rat)=r.num:=by have b:(r.den:Rat)≠0:=jE r.den_pos;have d:=Rat.num_divInt_den r;rw[Rat.divInt_eq_div,Rat.intCast_natCast]at d;have h:(r.num:Rat)/(r.den:Rat)*(r.den:Rat)=r.num:=Rat.div_mul_cancel b;rwa[d]at h
 rcases yw r with hr|hr
 ·have:(0:Rat)<=(r.num.natAbs:Rat):=Rat.natCast_nonneg;grind
 ·have i:(1:Rat)<=(r.den:Rat):=by
   have e:(1:Rat)=((1:Nat):Rat):=rfl;rw[e];exact Rat.natCast_le_natCast.2 r.den_pos
  have m:r*1<=r*(r.den:Rat):=Rat.mul_le_mul_of_nonneg_left i hr;have o:(r.num:Rat)<=(r.num.natAbs:Rat):=by rw[<-Rat.intCast_natCast];exact Rat.intCast_le_intCast.2 oM
  grind
theorem Rx{P:MP}(h:P≠0):∃r:Rat,r≠0/\pz (c r*P):=by obtain⟨D,b,d⟩:=Rw P.l;obtain⟨k,j⟩:=Lx (c (D:Rat)*P).am;obtain⟨r,i,hp⟩:=UJ k (c (D:Rat)*P) (mul_ne (wF (jE b)) h) (qW d) j;refine⟨r*D,jr i (jE b),?_⟩;rw[<-lX];have e:c r*c (D:Rat)*P=c r*(c (D:Rat)*P):=gR;rw[e];exact hp
theorem LF{F G H:MP}(o:F.dv 1)(m:pz G)(e:F=G*H):H.dv 1:=by
 obtain⟨D,k,i⟩:=Rw H.l
 have key:∀D:Nat,0<D->H.dv D->H.dv 1:=λD=>by
  induction D using Nat.strongRecOn with
  | _ D ih =>
   intro k i;rcases Nat.eq_or_lt_of_le (oM:1<=D)with e1|hlt
   ·rw[<-e1]at i;exact i
   ·obtain⟨p,hp,b,rfl⟩:=VZ D hlt;have j:=hp.1;have d:0<b:=Nat.pos_of_mul_pos_left k
    have hz:Dh p (G*(c ((p*b:Nat):Rat)*H)):=⟨c (b:Rat)*F,jd (O3 ⟨b,by rw[show((1:Nat):Rat)=1 from rfl,Rat.mul_one,Rat.intCast_natCast]⟩) o,by
     rw[e,Rat.natCast_mul,<-lX];grind⟩
    rcases Fj hp m.1 (qW i) hz with h|h
    ·exact absurd h (m.2 p hp)
    ·obtain⟨K,q,n⟩:=h
     have:c (b:Rat)*H=K:=cancel (wF (jE (by omega:0<p))) (by
      rw[<-n,Rat.natCast_mul,<-lX];grind)
     refine ih b ?_ d (Lp d (by rw[this];exact q));have:=Nat.mul_le_mul_right b j;omega
 exact key D k i
def at' (w:Nat) (r:Rat) (p:MP):MP:=⟨wR p.l w r,bR.eval _ _ _⟩
theorem qX(x:Pt)(w:Nat)(r:Rat)(p:MP):(at' w r p).ev x=p.ev (x.put w r):=Q.ev_eval x p.v.nat w r
theorem V3(w:Nat)(r:Rat)(p q:MP):at' w r (p+q)=at' w r p+at' w r q:=ext' λx=>by rw[qX,ev_add,ev_add,qX,qX]
theorem Di(w:Nat)(r:Rat)(p q:MP):at' w r (p*q)=at' w r p*at' w r q:=ext' λx=>by rw[qX,ev_mul,ev_mul,qX,qX]
theorem V4(w:Nat)(r:Rat)(p q:MP):at' w r (p-q)=at' w r p-at' w r q:=ext' λx=>by rw[qX,ev_sub,ev_sub,qX,qX]
theorem Yw(w:Nat)(r s:Rat):at' w r (c s)=c s:=ext' λx=>by rw[qX,ev_c,ev_c]
theorem Ry{w:Nat}(r:Rat){p:MP}(h:p.fr w):at' w r p=p:=ext' λx=>by
 rw[qX];have e:=split w p (N:=1) (by have j:p.deg w<=0:=h;omega);have i:∀y:Pt,p.ev y=(p.co w 0).ev y:=λy=>by rw[F9 h]
 show Lf (wP (x.put w r)) p.l=Lf (wP x) p.l;refine jG λt b=>?_;rw[FQ,fr_get h b];have d:t.1.put w 0=t.1:=by rw[<-fr_get h b,Ex.put_get]
 rw[d];simp[Rat.pow_zero]
theorem Nj(w:Nat)(r:Rat)(p:MP):(at' w r p).fr w:=Oc _ _ _
theorem GL{w:Nat}(r:Rat)(p:MP){u d:Nat}(j:w<4)(hu:u<4)(h:p.deg u<=d):(at' w r p).deg u<=d:=by
 have:∀t∈(at' w r p).l,t.1.get u<=d:=by
  refine lm (P:=λe=>e.get u<=d) λt b=>?_;obtain⟨s,i,rfl⟩:=List.mem_map.1 b;have k:=eU i u;have m:aD p.l u<=d:=h;by_cases hc:w=u
  ·subst hc;show(s.1.put w 0).get w<=d;rw[Ex.get_put];omega
  ·show(s.1.put w 0).get u<=d;rw[Ex.get_put_ne _ j hu hc];omega
 rcases(fQ (λt=>t.1.get u) (at' w r p).l (-1)).2.2 with e|⟨t,b,e⟩
 ·show aD _ u<=_;unfold aD;rw[e];omega
 ·show aD _ u<=_;unfold aD;rw[<-e];exact this t b
theorem Xr{n:Nat}(j:n<4){p:MP}(h:p.lo (n+1))(r:Rat):(at' n r p).lo n:=λw i b=>by
 rcases Nat.eq_or_lt_of_le i with e|hlt
 ·subst e;exact Nj _ _ _
 ·have d:p.deg w<=(0:Nat):=h w hlt b;exact GL r p j b d
theorem Rz{D:Nat}{p:MP}(h:p.dv D)(w:Nat)(i:Int):(at' w (i:Rat) p).dv D:=xH λt e=>by
 obtain⟨s,j,rfl⟩:=List.mem_map.1 e
 have b:Dv 1 ((i:Rat)^(s.1.get w).toNat):=by
  induction (s.1.get w).toNat with
  | zero=>rw[Rat.pow_zero];exact Dv.int 1 1
  | succ n d=>rw[Rat.pow_succ];exact d.mul (Dv.int 1 i)
 have:=(h s j).mul b;rw[Nat.mul_one]at this;exact this
theorem Xt{p:MP}{w d i T:Nat}(hd:p.deg w<=d)(q:i<=T)(m:1<=T):(at' w ((i:Nat):Rat) p).am<=p.am*(T:Rat)^d:=by
 have r:=qd (evalL p.l w (i:Rat));refine Rat.le_trans r ?_
 have n:∀t∈p.l,bH (t.2*(i:Rat)^(t.1.get w).toNat)<=bH t.2*(T:Rat)^d:=λt o=>by
  rw[jH]
  refine qp Rat.le_refl ?_ (fM _) (by
   exact(yo (T:=(T:Rat)) (qh m) (Nat.le_refl d)).1)
  have s:(t.1.get w).toNat<=d:=by have:=eU o w;have u:aD p.l w<=d:=hd;omega
  have j:∀k:Nat,0<=(i:Rat)^k/\(i:Rat)^k<=(T:Rat)^k:=λk=>by
   induction k with
   | zero=>rw[Rat.pow_zero,Rat.pow_zero];exact⟨dM,Rat.le_refl⟩
   | succ k h =>
    rw[Rat.pow_succ,Rat.pow_succ];have e:(i:Rat)<=(T:Rat):=Rat.natCast_le_natCast.2 q;have b:(0:Rat)<=(i:Rat):=Rat.natCast_nonneg;exact⟨Rat.mul_nonneg h.1 b,qp h.2 e h.1 (Rat.le_trans b e)⟩
  rw[bO (j _).1];exact Rat.le_trans (j _).2 (yo (T:=(T:Rat)) (qh m) s).2
 exact FP n
def Js (w:Nat) (r:Rat):MP:=xk w 1-c r
theorem nX(r:Rat)(w:Nat):(c r).fr w:=by
 by_cases h:r=0
 ·rw[h];exact oC w
 ·exact rP one_ne (yO h) (rR w)
theorem GM(w:Nat)(r:Rat):(Js w r).deg w=1:=by
 have d:(Js w r).co w 1=1:=by rw[Js,co_sub,fH,if_pos rfl,KD (nX r w) oM];grind
 have b:=mU w (xk w 1) (c r);rw[deg_xk]at b;have e:(c r).deg w<=0:=nX r w;rcases Int.lt_or_le ((Js w r).deg w) 1 with h|h
 ·exfalso;rw[co_above oM]at d;exact one_ne d.symm
 ·have:(Js w r).deg w<=max ((1:Nat):Int) ((c r).deg w):=b;omega
theorem RA(w:Nat)(r:Rat):Js w r≠0:=λh=>by have:=GM w r;rw[h,deg_zero]at this;omega
theorem RB(x:Pt)(w:Nat)(r:Rat):(Js w r).ev x=x.get w-r:=by rw[Js,ev_sub,ev_xk,ev_c,Rat.pow_succ,Rat.pow_zero];grind
theorem RD(w:Nat)(r:Rat):∀k:Nat,Js w r∣xk w k-c (r^k)
 | 0=>⟨0,ext' λx=>by rw[ev_sub,ev_xk,ev_c,ev_mul,ev_zero,Rat.pow_zero,Rat.pow_zero];grind⟩
 | k+1=>by obtain⟨q,hq⟩:=RD w r k;refine⟨xk w 1*q+c (r^k),ext' λx=>?_⟩;have:=congrArg (MP.ev x) hq;simp only[ev_sub,ev_mul,ev_add,ev_xk,ev_c,RB,Rat.pow_succ,Rat.pow_zero]at *;grind
theorem RF(w:Nat)(r:Rat)(p:MP):Js w r∣p-at' w r p:=by
 obtain⟨N,s⟩:∃N,N=(p.deg w).toNat+1:=⟨_,rfl⟩;have e:=split w p (N:=N) (by have:=deg_ge w p;omega)
 have b:∀(f:Nat->MP) n,at' w r (cK f n)=cK (λi=>at' w r (f i)) n:=λf n=>by
  induction n with
  | zero=>rfl
  | succ n j=>rw[cK,V3,j];rfl
 have l:∀k,at' w r (xk w k)=c (r^k):=λk=>ext' λx=>by
  rw[qX,ev_xk,ev_c];have:(x.put w r).get w=r:=by rcases w with _|_|_|w<;>rfl
  rw[this]
 have q:p-at' w r p=cK (λn=>p.co w n*(xk w n-c (r^n))) N:=by
  have o:at' w r p=cK (λn=>p.co w n*c (r^n)) N:=by have d:=congrArg (at' w r) e;rw[b]at d;rw[d];exact dF λi _=>by rw[Di,Ry r (co_fr _ _ _),l]
  rw[o];have h:=KV (cK (λn=>p.co w n*xk w n) N) (cK (λn=>p.co w n*c (r^n)) N);rw[<-e]at h;rw[h,<-Ii];have m:p+cK (λi=>-(p.co w i*c (r^i))) N=cK (λn=>p.co w n*xk w n) N+cK (λi=>-(p.co w i*c (r^i))) N:=by rw[<-e]
  rw[m,<-Ce];exact dF λi _=>gR
 rw[q];exact dvd_msum λi _=>dvd_mul_of' (RD w r i) _
theorem RG(w:Nat)(r s:Rat):at' w s (Js w r)=c (s-r):=ext' λx=>by
 rw[qX,RB,ev_c];have:(x.put w s).get w=s:=by rcases w with _|_|_|w<;>rfl
 rw[this]
theorem V5{w i T:Nat}(h:i<=T):(Js w ((i:Nat):Rat)).am<=((T+1:Nat):Rat):=by
 have b:=KX (xk w 1) (c ((i:Nat):Rat));rw[I6,bO Rat.natCast_nonneg]at b;have d:(xk w 1).am=1:=by show bH 1+0=(1:Rat);rw[qR];decide +kernel
 rw[d]at b;have j:((i:Nat):Rat)<=(T:Rat):=Rat.natCast_le_natCast.2 h;have e:((1:Nat):Rat)=1:=rfl;show(xk w 1-c ((i:Nat):Rat)).am<=_;rw[Rat.natCast_add,e];grind
theorem RH{w T:Nat}{M:Rat}:∀(k:Nat)(M:Rat)(G:MP),0<=M->G.deg w<=k->∀L:List Nat,L.length=k+1->L.Nodup->(∀i∈L,i<=T/\(at' w ((i:Nat):Rat) G).am<=M)->G.am<=((2*T+3:Nat):Rat)^k*M
 | 0,M,G,hM,hd,L,hL,_,h=>by obtain⟨i,rfl⟩:=List.length_eq_one_iff.1 hL;have:=(h i sM).2;rw[Ry _ hd]at this;rw[Rat.pow_zero];grind
 | k+1,M,G,hM,hd,L,hL,hn,h=>by
  cases L with
  | nil=>simp at hL
  | cons i L =>
   obtain⟨b,e⟩:=RF w ((i:Nat):Rat) G;have s:=h i sM;have m:=List.nodup_cons.1 hn;have F:G=Js w ((i:Nat):Rat)*b+at' w ((i:Nat):Rat) G:=gR
   have r:b.deg w<=k:=by
    by_cases z:b=0
    ·rw[z,deg_zero];omega
    ·have d:=mU w G (at' w ((i:Nat):Rat) G);rw[e,deg_mul (RA _ _) z,GM]at d;have o:(at' w ((i:Nat):Rat) G).deg w<=0:=Nj _ _ _;omega
   have hv:∀j∈L,j<=T/\(at' w ((j:Nat):Rat) b).am<=2*M:=λj y=>by
    have l:=h j (by simp[y]);refine⟨l.1,?_⟩;have d:=congrArg (at' w ((j:Nat):Rat)) e;rw[V4,Di,RG,Ry _ (Nj w _ G)]at d;have o:=KX (at' w ((j:Nat):Rat) G) (at' w ((i:Nat):Rat) G);rw[d,sG]at o
    have u:(j:Int)-i≠0:=λK=>by have x:j=i:=oM;exact m.1 (by rw[<-x];exact y)
    have n:=rabs_int u
    have H:((((j:Int)-i:Int)):Rat)=((j:Nat):Rat)-((i:Nat):Rat):=by rw[Rat.intCast_sub,Rat.intCast_natCast,Rat.intCast_natCast]
    rw[H]at n;have B:=am_nonneg (at' w ((j:Nat):Rat) b);have D:1*(at' w ((j:Nat):Rat) b).am<=bH (((j:Nat):Rat)-((i:Nat):Rat))*(at' w ((j:Nat):Rat) b).am:=Rat.mul_le_mul_of_nonneg_right n B;have E:=s.2;have J:=l.2;grind
   have C:=RH (w:=w) (T:=T) (M:=M) k (2*M) b gR r L (by simpa using hL) m.2 hv;obtain⟨P,p⟩:∃P,P=((2*T+3:Nat):Rat)^k:=⟨_,rfl⟩
   have q:1<=P:=by have:=(yo (T:=((2*T+3:Nat):Rat)) (qh oM) (Nat.zero_le k)).2;rw[Rat.pow_zero]at this;rw[p];exact this
   have d:=KW (Js w ((i:Nat):Rat)*b) (at' w ((i:Nat):Rat) G);rw[<-F]at d;have o:=CE (Js w ((i:Nat):Rat)) b;have n:=V5 (w:=w) s.1;have B:=am_nonneg b;have D:(Js w ((i:Nat):Rat)).am*b.am<=((T+1:Nat):Rat)*(P*(2*M)):=qp n (by rw[p];exact C) (am_nonneg _) (Rat.mul_nonneg gR gR);have E:=s.2;rw[Rat.pow_succ,<-p]
   have I:((2*T+3:Nat):Rat)=2*((T+1:Nat):Rat)+1:=by have:2*T+3=2*(T+1)+1:=oM;rw[this,Rat.natCast_add,Rat.natCast_mul];rfl
   rw[I];have N:M<=P*M:=by have:=Rat.mul_le_mul_of_nonneg_right q hM;grind
   grind
theorem Jt{w:Nat}:∀(L:List Nat)(F:MP),F≠0->L.Nodup->(∀i∈L,at' w ((i:Nat):Rat) F=0)->(L.length:Int)<=F.deg w
 | [],F,h0,_,_=>by have:=deg_pos h0 w;simpa using this
 | i::L,F,h0,hn,h=>by
  have b:=List.nodup_cons.1 hn;obtain⟨k,e⟩:=RF w ((i:Nat):Rat) F;rw[h i sM]at e;have e:F=Js w ((i:Nat):Rat)*k:=gR;have d:k≠0:=λd=>h0 (by rw[e,d];grind)
  have o:=Jt L k d b.2 λj n=>by
   have m:=h j (by simp[n]);rw[e,Di,RG]at m;rcases mul_eq_zero.1 m with h3|h3
   ·exfalso;by_cases l:((j:Nat):Rat)-((i:Nat):Rat)=0
    ·have:((j:Nat):Rat)=((i:Nat):Rat):=gR;exact b.1 (by rw[<-Rat.natCast_inj.1 this];exact n)
    ·exact wF l h3
   ·exact h3
  rw[e,deg_mul (RA _ _) d,GM];simp only[List.length_cons];omega
instance:DecidableEq MP:=λp q=>decidable_of_iff (p.l=q.l) ⟨MP.eq_of,λh=>by rw[h]⟩
theorem Pb{a b:Rat}(h:a=b):a<=b:=by rw[h];exact Rat.le_refl
def uz (d:Nat->Nat):Nat->Nat
 | 0=>1
 | n+1=>(4*d n+3)^d n*(2*d n+1)^d n*uz d n
theorem LG{α:Type}(p:α->Bool)(l:List α):(l.filter p).length+(l.filter λx=>!p x).length=l.length:=by
 induction l with
 | nil=>rfl
 | cons x l b=>cases h:p x<;>simp[List.filter_cons,h]<;>omega
theorem fac(d:Nat->Nat):∀(n:Nat),n<=4->∀F G H:MP,F=G*H->F≠0->G.dv 1->H.dv 1->F.lo n->(∀w,w<n->F.deg w<=d w)->G.am<=(uz d n:Rat)*F.am
 | 0,_,F,G,H,e,h0,iG,iH,lF,_=>by have s:=iw h0 (by rw[e];exact dvd_mul_right _ _) lF;have u:=iw h0 (by rw[e];exact dvd_mul_left _ _) lF;obtain⟨g,rfl⟩:=jX s;obtain⟨h,rfl⟩:=jX u;have x:c h≠0:=λB=>h0 (by rw[e,B];grind);have m:=Fp iH x;rw[e,sG,I6,show((uz d 0:Nat):Rat)=1 from rfl];have:=Rat.mul_le_mul_of_nonneg_left m (fM g);grind
 | n+1,hn,F,G,H,e,h0,iG,iH,lF,hd=>by
  obtain⟨L,hL⟩:∃L:List Nat,L=(List.range (2*d n+1)).filter (λi=>decide (at' n ((i:Nat):Rat) F≠0)):=⟨_,rfl⟩
  have hz:=Jt (w:=n) ((List.range (2*d n+1)).filter (λi=>!decide (at' n ((i:Nat):Rat) F≠0))) F h0 (List.nodup_range.sublist List.filter_sublist) λi b=>by have:=(List.mem_filter.1 b).2;simpa using this
  have k:=LG (λi:Nat=>decide (at' n ((i:Nat):Rat) F≠0)) (List.range (2*d n+1));rw[List.length_range,<-hL]at k;have j:=hd n oM;have q:L.Nodup:=by rw[hL];exact List.nodup_range.sublist List.filter_sublist
  have r:(1:Nat)<=2*d n+1:=oM;have D:G≠0:=λh=>h0 (by rw[e,h];grind);have p:G.deg n<=d n:=Int.le_trans (dvd_deg h0 (by rw[e];exact dvd_mul_right _ _) n) j
  have l:∀i∈L,i<=2*d n/\(at' n ((i:Nat):Rat) G).am<=(uz d n:Rat)*(F.am*((2*d n+1:Nat):Rat)^d n):=λi b=>by rw[hL]at b;obtain⟨m,o⟩:=List.mem_filter.1 b;have m:=List.mem_range.1 m;have o:at' n ((i:Nat):Rat) F≠0:=of_decide_eq_true o;refine⟨oM,?_⟩;have C:=fac d n oM _ _ _ (by rw[<-Di,<-e]:at' n ((i:Nat):Rat) F=at' n ((i:Nat):Rat) G*at' n ((i:Nat):Rat) H) o (by rw[<-Rat.intCast_natCast];exact Rz iG n _) (by rw[<-Rat.intCast_natCast];exact Rz iH n _) (Xr oM lF _) λw E=>GL _ F oM oM (hd w oM);exact Rat.le_trans C (Rat.mul_le_mul_of_nonneg_left (Xt j oM r) Rat.natCast_nonneg)
  have y:0<=(uz d n:Rat)*(F.am*((2*d n+1:Nat):Rat)^d n):=Rat.mul_nonneg Rat.natCast_nonneg (Rat.mul_nonneg (am_nonneg F) (yo (T:=((2*d n+1:Nat):Rat)) (qh r) (Nat.le_refl _)).1);have:=RH (w:=n) (T:=2*d n) (M:=0) (d n) _ G y p (L.take (d n+1)) (by rw[List.length_take];omega) (q.sublist (List.take_sublist _ _)) λi b=>l i (List.mem_of_mem_take b);refine Rat.le_trans this ?_;rw[uz,Rat.natCast_mul,Rat.natCast_mul,Rat.natCast_pow,Rat.natCast_pow];have z:2*(2*d n)+3=4*d n+3:=oM;rw[z];refine Pb ?_;grind
end MP
end Q
end
section
namespace Q
def kS (f:Nat->Nat):Nat->Nat
 | 0=>0
 | n+1=>kS f n+f n
theorem Dj{f g:Nat->Nat}:∀{n:Nat},(∀i,i<n->f i=g i)->kS f n=kS g n
 | 0,_=>rfl
 | n+1,h=>by rw[kS,kS,Dj λi b=>h i (by omega),h n (by omega)]
theorem Ju(f g:Nat->Nat):∀n,kS (λi=>f i+g i) n=kS f n+kS g n
 | 0=>rfl
 | n+1=>by rw[kS,Ju f g n,kS,kS];omega
theorem Jv(c:Nat)(f:Nat->Nat):∀n,kS (λi=>c*f i) n=c*kS f n
 | 0=>rfl
 | n+1=>by rw[kS,Jv c f n,kS,Nat.mul_add]
theorem uS(f:Nat->Nat):∀n,kS f (n+1)=f 0+kS (λi=>f (i+1)) n
 | 0=>by simp[kS]
 | n+1=>by rw[kS,uS f n,kS];omega
theorem Jw{p:Nat}{f:Nat->Nat}:∀{n:Nat},(∀i,i<n->p∣f i)->p∣kS f n
 | 0,_=>Nat.dvd_zero p
 | n+1,h=>Nat.dvd_add (Jw λi b=>h i (by omega)) (h n (by omega))
def ch:Nat->Nat->Nat
 | _,0=>1
 | 0,_+1=>0
 | n+1,k+1=>ch n k+ch n (k+1)
theorem xR(n:Nat):ch n 0=1:=by cases n<;>rfl
theorem Dk:∀{n k:Nat},n<k->ch n k=0
 | _,0,h=>by omega
 | 0,_+1,_=>rfl
 | n+1,k+1,h=>by rw[ch,Dk (show n<k by omega),Dk (show n<k+1 by omega)]
theorem Nk:∀n,ch n n=1
 | 0=>rfl
 | n+1=>by rw[ch,Nk n,Dk (Nat.lt_succ_self n)]
theorem GN:∀n k,(k+1)*ch (n+1) (k+1)=(n+1)*ch n k
 | 0,0=>rfl
 | 0,k+1=>by have e:ch 1 (k+2)=0:=Dk oM;rw[e];rfl
 | n+1,0=>by have h:=GN n 0;have e:ch (n+2) 1=ch (n+1) 0+ch (n+1) 1:=rfl;rw[xR]at h;rw[show n+1+1=n+2 from rfl,e,xR];rw[show 0+1=1 from rfl]at h;omega
 | n+1,k+1=>by have j:=GN n k;have b:=GN n (k+1);have e:ch (n+2) (k+2)=ch (n+1) (k+1)+ch (n+1) (k+2):=rfl;have i:ch (n+1) (k+1)=ch n k+ch n (k+1):=rfl;rw[e];have d:(k+1+1)*(ch (n+1) (k+1)+ch (n+1) (k+2))=(k+1)*ch (n+1) (k+1)+ch (n+1) (k+1)+(k+1+1)*ch (n+1) (k+2):=gR;rw[d,j,b,i];grind
theorem UK(x:Nat):∀n,(x+1)^n=kS (λk=>ch n k*x^k) (n+1)
 | 0=>by simp[kS,ch]
 | n+1=>by
  rw[Nat.pow_succ,UK x n,uS (λk=>ch (n+1) k*x^k)]
  have h:kS (λi=>ch (n+1) (i+1)*x^(i+1)) (n+1)=x*kS (λk=>ch n k*x^k) (n+1)+kS (λi=>ch n (i+1)*x^(i+1)) (n+1):=by rw[<-Jv,<-Ju];refine Dj λi _=>?_;show(ch n i+ch n (i+1))*x^(i+1)=_;rw[Nat.pow_succ];grind
  rw[h]
  have e:kS (λi=>ch n (i+1)*x^(i+1)) (n+1)=kS (λi=>ch n (i+1)*x^(i+1)) n:=by rw[kS,Dk (Nat.lt_succ_self n)];omega
  have b:=uS (λk=>ch n k*x^k) n;rw[e,xR,Nat.pow_zero];rw[xR,Nat.pow_zero]at b;have d:kS (λk=>ch n k*x^k) (n+1)*(x+1)=x*kS (λk=>ch n k*x^k) (n+1)+kS (λk=>ch n k*x^k) (n+1):=gR;rw[d,b];omega
theorem Dl{p:Nat}(hp:PE p){a b:Nat}(h:p∣a*b):p∣a\/p∣b:=by have:=AQ hp (a:=a) (b:=b) (by rw[<-Int.natCast_mul];exact Int.ofNat_dvd.2 h);exact this.imp Int.ofNat_dvd.1 Int.ofNat_dvd.1
theorem RI{p:Nat}(hp:PE p){k:Nat}(d:0<k)(e:k<p):p∣ch p k:=by
 obtain⟨j,rfl⟩:∃j,k=j+1:=⟨k - 1,oM⟩;obtain⟨n,rfl⟩:∃n,p=n+1:=⟨p - 1,oM⟩;rcases Dl hp (a:=j+1) (b:=ch (n+1) (j+1)) ⟨ch n j,GN n j⟩with h|h
 ·have:=Nat.le_of_dvd d h;omega
 ·exact h
theorem Yx{p:Nat}(hp:PE p)(x:Nat):(x+1)^p%p=(x^p+1)%p:=by have h:=hp.1;obtain⟨n,rfl⟩:∃n,p=n+1:=⟨p - 1,oM⟩;rw[UK x (n+1),kS,uS,xR,Nk,Nat.pow_zero];obtain⟨k,b⟩:(n+1)∣kS (λi=>ch (n+1) (i+1)*x^(i+1)) n:=Jw λi d=>Nat.dvd_mul_right_of_dvd (RI hp oM oM) _;rw[b];have e:1*1+(n+1)*k+1*x^(n+1)=(x^(n+1)+1)+(n+1)*k:=oM;rw[e,Nat.add_mul_mod_self_left]
theorem Nl{p:Nat}(hp:PE p):∀x:Nat,x^p%p=x%p
 | 0=>by rw[Nat.zero_pow (by have:=hp.1;omega)]
 | x+1=>by rw[Yx hp,Nat.add_mod,Nl hp x,<-Nat.add_mod]
theorem V6{p:Nat}(hp:PE p){x:Nat}(h:¬p∣x):x^(p-2)*x%p=1:=by
 have o:=hp.1;have i:=Nl hp x;obtain⟨n,rfl⟩:∃n,p=n+2:=⟨p - 2,oM⟩;rw[Nat.add_sub_cancel];have e:x^(n+2)=x*(x^n*x):=by rw[Nat.pow_succ,Nat.pow_succ];grind
 rw[e]at i
 have j:((n+2:Nat):Int)∣(x:Int)*((x^n*x:Nat)-1:Int):=by
  have b:=Int.emod_emod_of_dvd
  have:((x*(x^n*x):Nat):Int)%((n+2:Nat):Int)=(x:Int)%((n+2:Nat):Int):=by rw[<-Int.natCast_emod,<-Int.natCast_emod,i]
  have d:=Int.dvd_of_emod_eq_zero (Int.emod_eq_emod_iff_emod_sub_eq_zero.1 this)
  have l:(x:Int)*((x^n*x:Nat)-1:Int)=((x*(x^n*x):Nat):Int)-x:=by rw[Int.natCast_mul x];grind
  rw[l];exact d
 rcases AQ hp j with b|b
 ·exact absurd (Int.ofNat_dvd.1 b) h
 ·have d:=Int.emod_eq_zero_of_dvd b;have k:=Int.emod_eq_emod_iff_emod_sub_eq_zero.2 d
  have m:((x^n*x%(n+2):Nat):Int)=1:=by rw[Int.natCast_emod,k];exact Int.emod_eq_of_lt oM oM
  omega
def X7 (p n:Nat):Nat->Bool
 | 0=>true
 | f+1=>match p%(n-f)with
  | 0=>false
  | _+1=>X7 p n f
theorem RJ{p n:Nat}:∀{f:Nat},X7 p n f=true->∀k,n-f<k->k<=n->¬k∣p
 | 0,_=>λk d b=>by omega
 | f+1,h=>λk d b hd=>by
  rw[X7]at h;split at h
  ·cases h
  ·rename_i hm;rcases Nat.eq_or_lt_of_le (show n - f<=k by omega)with e|hlt
   ·rw[e]at hm;rw[Nat.mod_eq_zero_of_dvd hd]at hm;cases hm
   ·exact RJ h k hlt b hd
theorem V7:X7 2147483647 46340 46339=true:=dK
theorem Dn:PE pr:=by
 refine⟨dM,λm hm=>?_⟩;rw[jm]at *;obtain⟨k,b⟩:=hm;have i:∀j,1<j->j<=46340->¬j∣2147483647:=λj l d=>RJ V7 j oM d;rcases Nat.lt_or_ge m 2 with h|h
 ·left;rcases Nat.eq_zero_or_pos m with e|h'
  ·rw[e,Nat.zero_mul]at b;cases b
  ·omega
 ·rcases Nat.lt_or_ge m 46341 with d|d
  ·exact absurd ⟨k,b⟩ (i m oM oM)
  ·rcases Nat.lt_or_ge k 46341 with h3|h3
   ·rcases Nat.lt_or_ge k 2 with h4|h4
    ·right;rcases Nat.eq_zero_or_pos k with e|h'
     ·rw[e,Nat.mul_zero]at b;cases b
     ·obtain rfl:k=1:=oM;omega
    ·exact absurd ⟨m,by rw[b];exact Nat.mul_comm _ _⟩ (i k oM oM)
   ·have:=Nat.mul_le_mul d h3;omega
theorem Nn:∀(f out a n:Nat),n<2^f->out<pr->yJ f out a n=out*a^n%pr
 | 0,out,a,n,h,b=>by
  obtain rfl:n=0:=by simpa using h
  rw[yJ,Nat.pow_zero,Nat.mul_one,Nat.mod_eq_of_lt b]
 | f+1,out,a,n,h,b=>by
  rw[yJ];split
  ·rename_i j;rw[j,Nat.pow_zero,Nat.mul_one,Nat.mod_eq_of_lt b]
  ·have d:(if n%2=1 then out*a%pr else out)<pr:=by
    split
    ·exact Nat.mod_lt _ dM
    ·exact b
   rw[Nn f _ _ _ (by rw[Nat.pow_succ]at h;omega) d]
   have i:(a*a%pr)^(n/2)%pr=a^(2*(n/2))%pr:=by rw[<-Nat.pow_mod,Nat.pow_mul,Nat.pow_two]
   have k:=Nat.div_add_mod n 2;split
   ·rename_i b;rw[Nat.mul_mod,i,<-Nat.mul_mod,Nat.mod_mul_mod];have e:n=2*(n/2)+1:=oM
    conv=>rhs;rw[e,Nat.pow_succ]
    congr 1;grind
   ·rw[Nat.mul_mod,i,<-Nat.mul_mod];have e:n=2*(n/2):=oM
    conv=>rhs;rw[e]
theorem Np(a:Nat){n:Nat}(h:n<18446744073709551616):jA a n=a^n%pr:=by rw[jA,Nn 64 1 a n (by simpa using h) dM,Nat.one_mul]
theorem LH{x:Nat}(b:0<x)(h:x<pr):jA x (pr-2)*x%pr=1:=by rw[Np x dM,Nat.mod_mul_mod];exact V6 Dn λhd=>by have:=Nat.le_of_dvd b hd;omega
end Q
end
