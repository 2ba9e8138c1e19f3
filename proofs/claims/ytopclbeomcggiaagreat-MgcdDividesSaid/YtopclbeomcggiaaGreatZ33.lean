/- law08: num, x, y; contracts at known values; quadratureref08.Factors. -/
import Derived.Test.YtopclbeomcggiaaGreatZ18
import Derived.Test.YtopclbeomcggiaaGreatZ32
set_option linter.unusedVariables false
set_option linter.unusedSimpArgs false
set_option maxHeartbeats 16000000
set_option maxRecDepth 100000
section
namespace Q
open Go Go.RowKit Go.Proofs.YtopclbeomcggiaaGreat
def Zd (D:Nat):Sz:=⟨D,2^200,1000,900⟩
def bdR (l:List ai):Bool :=
 decide (l.length<=900)&&l.all (λt=>decide (-1000<=t.1.1)&&decide (t.1.1<=1000)&&decide (-1000<=t.1.2.1)&&decide (t.1.2.1<=1000)&&decide (-1000<=t.1.2.2.1)&&decide (t.1.2.2.1<=1000)&&decide (-1000<=t.1.2.2.2)&&decide (t.1.2.2.2<=1000))&&decide (xG l<=200)&&decide (bL l<=((2^200:Nat):Rat))
theorem NA{l:List ai}(h:bdR l=true):Bd (Zd (xG l)) l/\xG l<=200:=by
 simp only[bdR,Bool.and_eq_true,decide_eq_true_eq,List.all_eq_true]at h;obtain⟨⟨⟨n,o⟩,p⟩,q⟩:=h;refine⟨⟨n,λt b=>?_,λt b=>?_,q⟩,p⟩
 ·obtain⟨⟨⟨⟨⟨⟨⟨a1,a2⟩,d⟩,e⟩,i⟩,j⟩,k⟩,m⟩:=o t b;exact⟨a1,a2,d,e,i,j,k,m⟩
 ·exact(IG t.2).dvd (KS b)
def Ud (l:List ai):Bool:=IC l&&bdR l
theorem Yz:2^200<2^1000:=dK
theorem Ue:2^200*2^200<2^1000:=dK
theorem Uf{D:Nat}(h:0<D)(b:D<=200):(Zd D).ok:=⟨h,by show D<65536;omega,Yz,by show 1000<1000000;omega,by show 900<1000000;omega⟩
theorem Wu{D b:Nat}(h:0<D)(d:D<=200)(k:0<b)(k':b<=200):((Zd D).mul (Zd b)).ok:=by refine⟨Nat.mul_pos h k,?_,Ue,by show 1000+1000<1000000;omega,by show 900*900<1000000;omega⟩;have:=Nat.mul_le_mul d k';show D*b < 65536;omega
theorem vG{l:List ai}(h:Ud l=true):∃D,0<D/\D<=200/\Pk (Zd D) l:=by rw[Ud,Bool.and_eq_true]at h;obtain⟨d,b⟩:=NA h.2;exact⟨xG l,qK l,b,sI.1 h.1,d,Uf (qK l) b⟩
theorem Wv{D:Nat}(h:0<D)(b:D<=200):((Zd D).mul ⟨1,1,0,1⟩).ok:=by
 refine⟨Nat.mul_pos h Nat.one_pos,?_,?_,by show 1000+0<1000000;omega,by show 900*1<1000000;omega⟩
 ·show D*1<65536;omega
 ·show 2^200*1<2^1000;rw[nU];exact Yz
def YA (c:Rat):Bool:=decide (c.den<65536)&&decide (c.num.natAbs<4294967296)
theorem Ww{c:Rat}(h:YA c=true):Rs c:=by simp only[YA,Bool.and_eq_true,decide_eq_true_eq]at h;refine⟨Nat.le_trans (jS (k:=16) h.1) oM,?_⟩;have:=jS (n:=c.num.natAbs) (k:=32) oM;omega
end Q
namespace Go.Proofs.YtopclbeomcggiaaGreat
open Go.RowKit Q
section
variable {w:World} {v u:Value} {p q r:List ai}
theorem Bl(e:mP p q=r)(h:Ud p=true)(d:Ud q=true)(hp:aj w v p)(hq:aj w u q):Calls Tryz.prog 39 #[v,u] w (aN w r):=by obtain⟨D,d1,d2,P⟩:=vG h;obtain⟨i,e1,e2,b⟩:=vG d;exact e▸TN P b hp hq
theorem Bt(e:aO p q=r)(h:Ud p=true)(d:Ud q=true)(hp:aj w v p)(hq:aj w u q):Calls Tryz.prog 12 #[v,u] w (aN w r):=by obtain⟨D,d1,d2,P⟩:=vG h;obtain⟨i,e1,e2,b⟩:=vG d;exact e▸uz P b (Wu d1 d2 e1 e2) hp hq
theorem Pf(e:dL p q=r)(h:Ud p=true)(d:Ud q=true)(hp:aj w v p)(hq:aj w u q):Calls Tryz.prog 35 #[v,u] w (aN w r):=by obtain⟨D,d1,d2,P⟩:=vG h;obtain⟨i,e1,e2,b⟩:=vG d;exact e▸TP P b (Wv e1 e2) hp hq
theorem Ck{c:Rat}(e:bY p c=r)(h:Ud p=true)(b:YA c=true)(hp:aj w v p)(hc:bX w u c):Calls Tryz.prog 42 #[v,u] w (aN w r):=by obtain⟨D,d1,d2,P⟩:=vG h;exact e▸Yi P (Ww b) hp hc
theorem qL(h:Ud p=true)(hp:aj w v p)(hq:aj w u p):Calls Tryz.prog 13 #[v,u] w (oP w (.bool true)):=by obtain⟨D,d1,d2,P⟩:=vG h;exact sK P P rfl hp hq
theorem Ug{g:List ai}(e:G8 p q=some g)(h:BP p=true)(b:BP q=true)(hp:aj w v p)(hq:aj w u q):Calls Tryz.prog 16 #[v,u] w (aN w g) :=
 (jF 6 p q g (kS h) (kS b) e).1 v u w hp hq
theorem ZU{g:List ai}(e:kG p=some g)(h:BP p=true)(hp:aj w v p):Calls Tryz.prog 14 #[v] w (aN w g):=mI v p g w hp (kS h) e
theorem ZV{g:List ai}(e:lI G8 p 0=some g)(h:BP p=true)(hp:aj w v p):Calls Tryz.prog 18 #[v,.int .i64 0] w (aN w g):=iM (jF 6) v p g 0 w dM hp (kS h) e
theorem ZW{g:List ai}(e:lJ G8 p 0=some g)(h:BP p=true)(hp:aj w v p):Calls Tryz.prog 20 #[v,.int .i64 0] w (aN w g):=nZ (jF 6) v p g 0 w dM hp (kS h) e
theorem ZX{R:List (List ai × Nat)}(e:Zy G8 p 0=some R)(h:BP p=true)(hp:aj w v p):Calls Tryz.prog 29 #[v,.int .i64 0] w (Uc w R):=Eg (jF 6) v p R 0 w hp (kS h) dM e
end
theorem jQ(w:World):Calls Tryz.prog 40 #[] w (aN w [tm 1 1 0]):=by
 go_enter Tryz.func40,Tryz.ntmps40
 go_wp2_with (go_at_call 37;refine(KH 0 _ oM).mono ?_;rintro e w3 ⟨v3,rfl,h3,hb3⟩)
 go_ret;exact⟨_,rfl,zau▸h3,hb3⟩
theorem rW(w:World):Calls Tryz.prog 41 #[] w (aN w [tm 1 0 1]):=by
 go_enter Tryz.func41,Tryz.ntmps41
 go_wp2_with (go_at_call 37;refine(KH 1 _ oM).mono ?_;rintro e w3 ⟨v3,rfl,h3,hb3⟩)
 go_ret;exact⟨_,rfl,zav▸h3,hb3⟩
theorem fE(n:Int)(p:List ai)(w:World)(h1:-1000<=n)(h2:n<=1000)(hp:cK (n:Rat)=p)(hb:bdR [(e0,(n:Rat))]=true):Calls Tryz.prog 26 #[.int .i64 n] w (aN w p):=by
 have hc:=zH (λW v (hv:bX W v (n:Rat))=>D9 v (n:Rat) _ W hv (NA hb).1 (Uf (qK _) (NA hb).2));rw[hp]at hc
 go_enter Tryz.func26,Tryz.ntmps26
 go_wp2_with (first
  | (go_at_call 24;refine(iW n _ oM oM).mono ?_;rintro e w3 ⟨v3,rfl,h3,hb3⟩)
  | (go_at_call 72;refine(hc.out _ _ h3).mono ?_;rintro e w4 ⟨v4,rfl,h4,hb4⟩))
 go_ret;exact⟨_,rfl,h4,hb3.trans (hb4.mono hb3.size)⟩
theorem ND(p q:Value)(L:List (List ai × Nat))(w:World)(ha:GD w p L)(hb:GD w q L)(l:∀f∈L,Ud f.1=true)(x:L.length<=1000):Calls Tryz.prog 30 #[p,q] w (oP w (.bool true)):=by
 obtain⟨r,n,rfl,-⟩:=ha.shape;obtain⟨s,o,rfl,-⟩:=hb.shape;replace ha:=zH ha;replace hb:=zH hb;replace l:=zH l
 go_enter Tryz.func30,Tryz.ntmps30
 go_wp2
 go_loopw [5] (λi wr=>∃k:Nat,k<=L.length/\i=.int .i64 k/\Below w.heap.size w wr) (λi _=>L.length-(intOf i).toNat)
 case atStart=>exact⟨0,oM,nM,Below.refl _ _⟩
 case round =>
  obtain⟨k,u,rfl,d⟩:=hrel;by_cases b:k<L.length
  ·have j:L[k]?=some L[k]:=gE b;have m:=l.out _ (List.getElem_mem b);generalize L[k]=f at *;obtain⟨b1,o1,cs1,rfl,-,⟨v1,rfl,p1⟩,C1⟩:=(ha.out.on d).get j;obtain⟨b2,o2,Vv,rfl,-,⟨v2,rfl,p2⟩,C2⟩:=(hb.out.on d).get j;change bW _ wr b1 (o1+k*2) _ at C1;change bW _ wr b2 (o2+k*2) _ at C2;have y:(k:Int)<(L.length:Int):=oM;have c10:∀W,Below wr.heap.size wr W->W.cell? ⟨b1,o1+k*2,none⟩=some v1:=λW hb=>(C1.on hb).cell 0 sM;have c11:∀W,Below wr.heap.size wr W->W.cell? ⟨b1,o1+k*2+1,none⟩=some (.int .i64 (f.2:Int)):=λW hb=>(C1.on hb).cell 1 sM;have c20:∀W,Below wr.heap.size wr W->W.cell? ⟨b2,o2+k*2,none⟩=some v2:=λW hb=>(C2.on hb).cell 0 sM;have c21:∀W,Below wr.heap.size wr W->W.cell? ⟨b2,o2+k*2+1,none⟩=some (.int .i64 (f.2:Int)):=λW hb=>(C2.on hb).cell 1 sM;generalize f.2=e at *;clear C1 C2 j
   go_upto_region 6 with (fail)
   refine aD mixed (none) (0) (eQ.none) [.eq (.slice (some ⟨b1,o1,none⟩) L.length n),.eq (.int .i64 k),.eq (.pointer (some ⟨b1,o1+k*2,none⟩)),.eq (.pointer (some ⟨b1,o1+k*2+1,none⟩)),.eq (.int .i64 e),.eq (.slice (some ⟨b2,o2,none⟩) L.length o),.eq (.int .i64 k),.eq (.pointer (some ⟨b2,o2+k*2,none⟩)),.eq (.pointer (some ⟨b2,o2+k*2+1,none⟩)),.eq (.int .i64 e),.eq (.bool false),.eq (.bool false),.eq (.slice (some ⟨b1,o1,none⟩) L.length n),.eq (.int .i64 k),.eq (.pointer (some ⟨b1,o1+k*2,none⟩)),.eq (.pointer (some ⟨b1,o1+k*2,none⟩)),.eq (v1),.eq (.slice (some ⟨b2,o2,none⟩) L.length o),.eq (.int .i64 k),.eq (.pointer (some ⟨b2,o2+k*2,none⟩)),.eq (.pointer (some ⟨b2,o2+k*2,none⟩)),.eq (v2),.ret (.bool true),.eq (.bool false),.eq (.bool false)] [17,18,19,20,21,22,23,24,25,26,27,28,29,30,31,32,33,34,35,36,37,38,39,40,41] rfl rfl rfl rfl ⟨λ_ _ a _ _ _=>xM rfl (a 0 rfl),λ_ _ a _ _ _=>xM rfl (a 5 rfl),λ_ _ _ _ _ e=>pI rfl Tryz.underlying50 b1 o1 k (b) (e.1 rfl) (e.2.1 rfl),λA _ _ _ _ he=>have h19:=eT 19 (he.1 rfl);pZ rfl,?_,λ_ _ a _ _ _=>xM rfl (a 1 rfl),λ_ _ a _ _ _=>xM rfl (a 5 rfl),λ_ _ _ _ _ e=>pI rfl Tryz.underlying50 b2 o2 k (b) (e.1 rfl) (e.2.1 rfl),λA _ _ _ _ he=>have h24:=eT 24 (he.1 rfl);pZ rfl,?_,λA _ _ _ _ he=>have h21:=eT 21 (he.1 rfl);have h26:=eT 26 (he.2.1 rfl);pZ rfl,λ_ _ _ _ _ e=>xM rfl (e.1 rfl),λ_ _ a _ _ e=>yM (e.1 rfl) rfl (a 0 rfl),λ_ _ a _ _ e=>yM (e.1 rfl) rfl (a 5 rfl),λ_ _ _ _ _ e=>aF rfl rfl (e.2.2.1 rfl) (xI rfl Tryz.underlying50 b1 o1 k (b) (e.1 rfl) (e.2.1 rfl)),λA _ _ _ _ he=>have h28:=eT 28 (he.2.1 rfl);have h31:=eT 31 (he.1 rfl);yZ h28 rfl,?_,λ_ _ a _ _ e=>yM (e.1 rfl) rfl (a 1 rfl),λ_ _ a _ _ e=>yM (e.1 rfl) rfl (a 5 rfl),λ_ _ _ _ _ e=>aF rfl rfl (e.2.2.1 rfl) (xI rfl Tryz.underlying50 b2 o2 k (b) (e.1 rfl) (e.2.1 rfl)),λA _ _ _ _ he=>have h28:=eT 28 (he.2.1 rfl);have h36:=eT 36 (he.1 rfl);yZ h28 rfl,?_,λA _ _ _ hS he=>have hb:=hS rfl;have h28:=eT 28 (he.2.2.1 rfl);have h33:=eT 33 (he.1 rfl);have h38:=eT 38 (he.2.1 rfl);have hf0:=eF A 13;cY (f:=13) (args:=#[v1,v2]) h28 (qL m (p1.on hb) (p2.on hb)),λA _ _ _ _ he=>have h28:=eT 28 (he.2.1 rfl);have h39:=eT 39 (he.1 rfl);yZ h28 rfl,λA _ _ _ _ he=>have h28:=eT 28 (he.1 rfl);have h40:=eT 40 (he.2.1 rfl);have hc0:=eC A (.bool true);pZ rfl,trivial⟩ ?_
   ·intro A w1 hA hL hS he;have h20:=eT 20 (he.1 rfl);refine af rfl ?_;have c0:=c11 w1 hL.below;exact aC rfl rfl gZ
   ·intro A w1 hA hL hS he;have h25:=eT 25 (he.1 rfl);refine af rfl ?_;have c0:=c21 w1 hL.below;exact aC rfl rfl gZ
   ·intro A w1 hA hL hS he;have h28:=eT 28 (he.2.1 rfl);have h32:=eT 32 (he.1 rfl);refine aF rfl rfl h28 ?_;have c0:=c10 w1 hL.below;exact aC rfl rfl gZ
   ·intro A w1 hA hL hS he;have h28:=eT 28 (he.2.1 rfl);have h37:=eT 37 (he.1 rfl);refine aF rfl rfl h28 ?_;have c0:=c20 w1 hL.below;exact aC rfl rfl gZ
   ·intro W5 hL5;have hb5:=hL5.below;simp only[aQ,ae.eq,ae.ret,ae.of,lZ];go_frame;clear hL5 c10 c11 c20 c21;go_wp2;go_roundw
    case rel=>exact⟨k+1,oM,nM,d.trans (hb5.mono d.size)⟩
    case measure=>simp[intOf];omega
  ·obtain rfl:L.length=k:=oM;go_wp2;go_ret;exact⟨rfl,d⟩
end Go.Proofs.YtopclbeomcggiaaGreat
end
section
namespace Q
open Go Go.Proofs.YtopclbeomcggiaaGreat
abbrev vH:=Int × Int × Int × Int
def NE (t:vH):Prop:=(-128<=t.1/\t.1<128)/\(-128<=t.2.1/\t.2.1<128)/\(-128<=t.2.2.1/\t.2.2.1<128)/\-128<=t.2.2.2/\t.2.2.2<128
def pE (t:vH):ai:=((t.1%256%3,t.2.1%256%3,t.2.2.1%256%2,0),((t.2.2.2.tmod 6:Int):Rat))
def Al (L:List vH):List ai:=(L.take 3).map pE
def mJ (L:List vH):List ai:=canon (Al L)
def rX (t:vH):vH:=(t.1,t.2.1,0,t.2.2.2)
def fV (L:List vH):List ai:=mJ ((L.take 3).map rX)
theorem NF(c:Int):bO ((c.tmod 6:Int):Rat)<=((5:Nat):Rat):=by
 rw[rabs_int];have:(c.tmod 6).natAbs<6:=by rw[Int.natAbs_tmod];exact Nat.mod_lt _ dM
 exact Rat.natCast_le_natCast.2 oM
theorem Ei:∀(L:List vH),bL (L.map pE)<=((5*L.length:Nat):Rat)
 | []=>by simp only[List.map_nil,bL,List.length_nil,Nat.mul_zero];exact Rat.natCast_nonneg
 | t::L=>by
  have d:=Ei L;have e:bO (pE t).2<=((5:Nat):Rat):=NF _
  have b:((5*(t::L).length:Nat):Rat)=((5:Nat):Rat)+((5*L.length:Nat):Rat):=by rw[<-Rat.natCast_add];congr 1;simp only[List.length_cons];omega
  rw[b];simp only[List.map_cons,bL];grind
def Ju:Sz:=⟨1,15,2,3⟩
theorem Ej(L:List vH):Bd Ju (Al L):=by
 have d:(L.take 3).length<=3:=by rw[List.length_take];exact Nat.min_le_left _ _
 refine⟨by simpa[Al,Ju]using d,λt b=>?_,λt b=>?_,Rat.le_trans (Ei _) (Rat.natCast_le_natCast.2 (by show 5*(L.take 3).length<=15;omega))⟩
 ·obtain⟨s,e,rfl⟩:=List.mem_map.1 b;simp only[pE,Ju];omega
 ·obtain⟨s,e,rfl⟩:=List.mem_map.1 b;refine⟨s.2.2.2.tmod 6,?_⟩;show((s.2.2.2.tmod 6:Int):Rat)*((1:Nat):Rat)=_;rw[show((1:Nat):Rat)=1 from rfl,Rat.mul_one]
theorem Uh:Ju.ok:=dK
theorem nk(L:List vH):Pk Ju (mJ L):=⟨fK _,(Ej L).canon,Uh⟩
theorem wG(L:List vH):Pk Ju (fV L):=nk _
theorem Q9(L:List vH):∀t∈fV L,(0<=t.1.1/\t.1.1<=2)/\(0<=t.1.2.1/\t.1.2.1<=2)/\t.1.2.2.1=0/\t.1.2.2.2=0 :=
 gY (P:=λe=>(0<=e.1/\e.1<=2)/\(0<=e.2.1/\e.2.1<=2)/\e.2.2.1=0/\e.2.2.2=0) λt d=>by obtain⟨s,b,rfl⟩:=List.mem_map.1 d;obtain⟨r,h,rfl⟩:=List.mem_map.1 (List.mem_of_mem_take b);show(0<=r.1%256%3/\r.1%256%3<=2)/\(0<=r.2.1%256%3/\r.2.1%256%3<=2)/\(0:Int)%256%2=0/\(0:Int)=0;omega
end Q
namespace Go.Proofs.YtopclbeomcggiaaGreat
open Go.RowKit Q
def qM (t:vH):List Value:=[.int .i8 t.1,.int .i8 t.2.1,.int .i8 t.2.2.1,.int .i8 t.2.2.2]
def FM (T:TypeId):El vH where
 T:=T
 sz:=4
 pos:=by decide
 E _ cs t:=cs=qM t/\NE t
 len:=by rintro w c t ⟨rfl,h⟩;rfl
 one:=by rintro w c t ⟨rfl,h⟩ v hv;simp only[qM,List.mem_cons,List.not_mem_nil,or_false]at hv;rcases hv with rfl|rfl|rfl|rfl<;>rfl
 on:=λh _=>h
 ok _:=True
 lr:=λh _ _=>h
 self:=trivial
def oL (w:World) (v:Value) (l:List vH):Prop:=∃T,bZ (FM T) w v l
theorem oL.on{w w':World}{v:Value}{l:List vH}(h:oL w v l)(hb:Below w.heap.size w w'):oL w' v l:=let ⟨T,h⟩:=h;⟨T,h.on hb⟩
theorem oL.shape{w:World}{v:Value}{l:List vH}(h:oL w v l):∃b cap,v=.slice b l.length cap/\l.length<=cap:=let ⟨_,h⟩:=h;h.shape
theorem oL.get{w:World}{i:Option Addr}{n c j:Nat}{t:vH}{l:List vH}(h:oL w (.slice i n c) l)(m:l[j]?=some t):∃T b off,i=some ⟨b,off,none⟩/\NE t/\bW T w b (off+j*4) (qM t):=by obtain⟨T,h⟩:=h;obtain⟨b,off,cs,e,-,⟨rfl,d⟩,k⟩:=h.get m;exact⟨T,b,off,e,d,k⟩
end Go.Proofs.YtopclbeomcggiaaGreat
end
section
namespace Q
open Go Go.RowKit Go.Proofs.YtopclbeomcggiaaGreat
theorem GH{l:List Nat}(h:l.Nodup){i j x:Nat}(o:l[i]?=some x)(p:l[j]?=some x):i=j:=by
 have b:=(gS.1 o);have d:=(gS.1 p);obtain⟨e,k⟩:=b;obtain⟨m,n⟩:=d;have hp:=List.pairwise_iff_getElem.1 h;rcases Nat.lt_trichotomy i j with hlt|heq|hgt
 ·exact absurd (k.trans n.symm) (hp i j e m hlt)
 ·exact heq
 ·exact absurd (n.trans k.symm) (hp j i m e hgt)
theorem uC.hd{base:Nat}{w:World}{g N:Nat}{bs:List Nat}{M:Mx}(h:uC base w g N bs M){i b:Nat}(hb:bs[i]?=some b):w.cell? ⟨g,i,none⟩=some (oV N b):=by have d:i<bs.length:=(gS.1 hb).1;refine h.ob.at1 i _ ?_;rw[List.getElem?_append_left (by rw[List.length_map];exact d),List.getElem?_map,hb];rfl
theorem uC.lt{base:Nat}{w:World}{g N:Nat}{bs:List Nat}{M:Mx}(h:uC base w g N bs M):g<w.heap.size:=h.ob.lt
theorem uC.push{base:Nat}{w:World}{g N:Nat}{bs:List Nat}{M:Mx}(h:uC base w g N bs M)(C:bs.length<N){b:Nat}{r:List (List ai)}(q:jU base w N b r)(hb:b∉bs) :
  uC base (w.setCell ⟨g,bs.length,none⟩ (oV N b)) g N (bs++[b]) (M++[r]):=by
 have p:=bf (j:=bs.length) h.ob (oV N b);refine⟨?_,h.gb,by simp[h.len],by simp;omega,λi s B k l=>?_,?_⟩
 ·have n:=h.ob.set bs.length (oV N b)
  have e:(bs.map (oV N)++List.replicate (N-bs.length) (Value.slice none 0 0)).set bs.length (oV N b)=(bs++[b]).map (oV N)++List.replicate (N-(bs++[b]).length) (Value.slice none 0 0):=by
   obtain⟨d,hd⟩:∃d,N - bs.length=d+1:=⟨N - bs.length - 1,oM⟩;have m:N - (bs++[b]).length=d:=by simp;omega
   rw[hd,m,List.set_append_right _ _ sM,List.length_map,Nat.sub_self,List.replicate_succ,List.set_cons_zero,List.map_append,List.append_assoc];rfl
  rw[e]at n;exact n
 ·rcases Nat.lt_or_ge i bs.length with hi|hi
  ·rw[List.getElem?_append_left hi]at k;rw[List.getElem?_append_left (by rw[h.len];exact hi)]at l;have o:=h.row i s B k l;exact o.lr p dM dM (o.ne h.ob)
  ·rw[List.getElem?_append_right hi]at k;rw[List.getElem?_append_right (by rw[h.len];exact hi),h.len]at l;rcases Nat.eq_zero_or_pos (i - bs.length)with h0|h0
   ·rw[h0]at k l;simp only[List.getElem?_cons_zero,sJ]at k l;subst k;subst l;exact q.lr p dM dM (q.ne h.ob)
   ·rw[gN (by simp;omega)]at k;cases k
 ·rw[List.nodup_append];refine⟨h.nd,sM,λx u y z=>?_⟩;rw[List.mem_singleton.1 z];rintro rfl;exact hb u
theorem uC.set{base:Nat}{w:World}{g N:Nat}{bs:List Nat}{M:Mx}(h:uC base w g N bs M){i b j:Nat}(hb:bs[i]?=some b)(u:j<N){v:Value}{q:List ai}(hq:aj w v q) :
  uC base (w.setCell ⟨b,j,none⟩ v) g N bs (yS M i j q)/\Lr (some b) polyT w (w.setCell ⟨b,j,none⟩ v)/\base<=b:=by
 have n:i<bs.length:=(gS.1 hb).1;have s:M[i]?=some (M.getD i []):=by rw[jD,gE (by rw[h.len];exact n)];rfl
 have m:=h.row i b _ hb s;obtain⟨r,l⟩:=m.set u hq;refine⟨⟨h.ob.lr l (by simpa using(m.ne h.ob).symm),h.gb,by rw[yS,List.length_set];exact h.len,h.le,λo p x e k=>?_,h.nd⟩,l,m.1⟩;by_cases d:i=o
 ·subst d;rw[hb]at e;cases e;rw[yS,List.getElem?_set,if_pos rfl,if_pos (by rw[h.len];exact n)]at k;cases k;exact r
 ·rw[yS,List.getElem?_set,if_neg d]at k;refine(h.row o p x e k).lr l dM dM ?_;rintro rfl;exact d (GH h.nd hb e)
theorem Ra(M:Mx)(r:List (List ai))(j:Nat)(x:List ai):yS (M++[r]) M.length j x=M++[r.set j x]:=by unfold yS;rw[jD,List.getElem?_append_right (nL _),Nat.sub_self,List.set_append_right _ _ (nL _),Nat.sub_self];rfl
end Q
namespace Go.Proofs.YtopclbeomcggiaaGreat
open Go.RowKit Q Go.WideMaps Go.Maps
def YB (w:World) (N:Nat) (M:Mx) (e:Ending) (w':World):Prop:=∃g bs,e=.returned (.slice (some ⟨g,0,none⟩) N N)/\uC w.heap.size w' g N bs M/\Below w.heap.size w w'
theorem FN(va vb:Value)(a b:List (List ai))(w:World)(ha:gB w va a)(hb:gB w vb b)(la:1<=a.length)(la2:a.length<=100001)(lb:1<=b.length)(lb2:b.length<=100001) :
  Calls Tryz.prog 76 #[va,vb] w (YB w (a.length-1+(b.length-1)) (xY a b)):=by
 obtain⟨aa,ca,rfl,ag⟩:=ha.shape;obtain⟨ab,cb,rfl,an⟩:=hb.shape;obtain⟨m,hm⟩:∃m,a.length=m+1:=⟨a.length - 1,oM⟩;obtain⟨n,hn⟩:∃n,b.length=n+1:=⟨b.length - 1,oM⟩;have o:∀i,dX a b (m+n) i=if n<=i then jT b (i - n) (m+n) b.length else jT a i (m+n) a.length:=λi=>by rw[dX,hn,Nat.add_sub_cancel]
 have C:xY a b=(List.range (m+n)).map (dX a b (m+n)):=by rw[xY,hm,hn,Nat.add_sub_cancel,Nat.add_sub_cancel]
 rw[C,(oM:a.length-1+(b.length-1)=m+n)];have hm2:(a.length:Int)-1=(m:Int):=oM;have hn2:(b.length:Int)-1=(n:Int):=oM;have ap:m<=100000:=oM;have aq:n<=100000:=oM;replace o:=zH o;replace ha:=zH ha;replace hb:=zH hb;replace hm:=zH hm;replace hn:=zH hn;clear C
 go_enter Tryz.func76,Tryz.ntmps76
 go_wp2_with (at_make;refine bV rfl _ _ _ rfl sS (.slice none 0 0) 1 24 Tryz.underlying84 kM rfl rfl .i64 .i64 _ _ (m+n) rfl rfl oM oM oM oM ?_;intro w2 own2 gr2)
 have J:Hid (uC w.heap.size w2 w.heap.size (m+n) [] ((List.range 0).map (dX a b (m+n)))):=zH ⟨by simpa using(show Blk w2 w.heap.size sS (List.replicate (m+n) (Value.slice none 0 0))from own2),nL _,rfl,sM,λi b r h=>by simp at h,List.nodup_nil⟩;generalize hg:w.heap.size=g at J ⊢;have a5:w.heap.size<=g:=oM;clear own2
 go_loopw [24] (λi wr=>∃(k:Nat)(bs:List Nat),k<=m+n/\i=.int .i64 k/\bs.length=k/\Hid (uC w.heap.size wr g (m+n) bs ((List.range k).map (dX a b (m+n))))/\Below w.heap.size w wr) (λi _=>m+n-(intOf i).toNat)
 case atStart=>exact⟨0,[],oM,nM,rfl,by rw[hg];exact J,gr2⟩
 case round =>
  clear J gr2;replace hg:=zH hg;obtain⟨k,bs,hk,rfl,u,hM,q⟩:=hrel;by_cases Z:k<m+n
  ·have ad:(k:Int)<(m:Int)+(n:Int):=oM;have hM0:=hM.out;have a4:=hM0.lt;have hz:=hM0.ob.at1 k (.slice none 0 0) (by rw[List.getElem?_append_right (by rw[List.length_map];omega),List.length_map,u,Nat.sub_self,List.getElem?_replicate,if_pos oM]);have hf:=hM0.ob.frozen k
   go_upto_region 7 with (first
    | (at_make;refine bV rfl _ _ _ rfl polyT (.slice none 0 0) 1 24 Tryz.underlying75 kM rfl rfl .i64 .i64 _ _ (m+n) rfl rfl oM oM oM oM ?_;intro w3 own3 gr3;have hz3:=(hM0.on gr3).ob.at1 k (.slice none 0 0) (by rw[List.getElem?_append_right (by rw[List.length_map];omega),List.length_map,u,Nat.sub_self,List.getElem?_replicate,if_pos oM]);have hf3:=(hM0.on gr3).ob.frozen k)
    | (refine ak rfl (.tmp 27) (.tmp 28) _ rfl _ Tryz.underlying84 _ 1 24 kM _ _ _ rfl _ _ rfl k rfl Z g 0 rfl ?_;rw[nU,Nat.zero_add]))
   have hM3:=hM0.on gr3
   have B:wr.heap.size∉bs:=λa6=>by
    obtain⟨i,hi,he⟩:=List.getElem_of_mem a6;have h1:bs[i]?=some wr.heap.size:=by rw[gE hi,he]
    have h2:((List.range k).map (dX a b (m+n)))[i]?=some (((List.range k).map (dX a b (m+n))).getD i []):=by rw[jD,gE (by simp;omega)];rfl
    have h3:=hM0.row i _ _ h1 h2;obtain⟨-,-,-,-,h4⟩:=h3.get (j:=0) oM;omega
   have a2:jU w.heap.size w3 (m+n) wr.heap.size (List.replicate (m+n) []):=by refine⟨q.size,sM,List.replicate (m+n) (.slice none 0 0),⟨own3,sM,λi v p h1 h2=>?_⟩,sM⟩;rw[uj h1,uj h2];exact bZ.nil _ _
   have d:=hM3.push oM a2 B;rw[u]at d;have hb4:=(q.trans (gr3.mono q.size)).trans (bU (W:=w3) (g:=g) (j:=k) a5 (oV (m+n) wr.heap.size));have hst0:Hid (uC w.heap.size (w3.setCell ⟨g,k,none⟩ (oV (m+n) wr.heap.size)) g (m+n) (bs++[wr.heap.size]) ((List.range k).map (dX a b (m+n))++[List.replicate (m+n) []])):=zH d;obtain⟨gb,S⟩:∃gb,gb=wr.heap.size:=⟨_,rfl⟩;rw[<-S]at hst0 hb4 ⊢;obtain⟨W4,hW4⟩:∃W4,W4=w3.setCell ⟨g,k,none⟩ (oV (m+n) gb):=⟨_,rfl⟩;rw[<-hW4]at hst0 hb4;change Code.wp _ _ _ _ (w3.setCell ⟨g,k,none⟩ (oV (m+n) gb));rw[<-hW4];clear hM hM0 hM3 hz hf own3 gr3 hz3 hf3 B a2 d hW4 S a4 q
   go_upto_if 38 with (fail)
   go_cut [9,10,39,40,41,42] (λvl vt _ _ _ _ wc=>∃(l:List (List ai))(t:Nat),vt=.int .i64 t/\Hid (gB w vl l)/\Hid (dX a b (m+n) k=jT l t (m+n) l.length)/\1<=l.length/\l.length<=100001/\t+l.length<=m+n/\Hid (uC w.heap.size wc g (m+n) (bs++[gb]) ((List.range k).map (dX a b (m+n))++[List.replicate (m+n) []]))/\Below w.heap.size w wc)
   case first =>
    by_cases a7:n<=k
    ·have a0:(n:Int)<=(k:Int):=oM;obtain⟨t,ht⟩:∃t,t=k - n:=⟨_,rfl⟩;have ht2:(k:Int) - (n:Int)=(t:Int):=oM;have hr9:=zH (o.out k);replace ht:=zH ht;go_wp2;go_meet
     case rel=>exact⟨b,t,rfl,hb,zH (by rw[hr9.out,if_pos a7,ht.out]),lb,lb2,by have:=ht.out;have:=hn.out;omega,hst0,hb4⟩
    ·have a0:¬(n:Int)<=(k:Int):=oM;have hr9:=zH (o.out k);go_wp2;go_meet
     case rel=>exact⟨a,k,rfl,ha,zH (by rw[hr9.out,if_neg oM]),la,la2,by have:=hm.out;omega,hst0,hb4⟩
   case rest =>
    clear hst0 hb4;obtain⟨l,t,rfl,hl,I,ll,ll2,au,hM,N⟩:=hcut;obtain⟨al,cl,rfl,-⟩:=hl.out.shape;go_wp2
    go_loopw [45] (λi wz=>∃j:Nat,j<=l.length/\i=.int .i64 j/\Hid (uC w.heap.size wz g (m+n) (bs++[gb]) ((List.range k).map (dX a b (m+n))++[jT l t (m+n) j]))/\Below w.heap.size w wz) (λi _=>l.length-(intOf i).toNat)
    case atStart=>exact⟨0,oM,nM,hM,N⟩
    case round =>
     clear hM N;obtain⟨j,hj,rfl,hM,x⟩:=hrel;by_cases Y:j<l.length
     ·have F:l[j]?=some l[j]:=gE Y;have X:l.getD j []=l[j]:=by rw[jD,F];rfl
      have hl0:=hl.out.on x;generalize l[j]=c at *;obtain⟨M,ol,vc,rfl,L,hC⟩:=sN hl0 F;have a9:=bZ.shape L;obtain⟨p,hp⟩:∃p,p=t+l.length - 1 - j:=⟨_,rfl⟩;have a8:(t:Int)+(l.length:Int) - 1 - (j:Int)=(p:Int):=oM;have G:p<m+n:=oM;have hM0:=hM.out;have D:(bs++[gb])[k]?=some gb:=by rw[List.getElem?_append_right oM,u,Nat.sub_self];rfl
      have hlen9:((List.range k).map (dX a b (m+n))).length=k:=sM
      have s:Hid ((List.range k).map (dX a b (m+n))++[jT l t (m+n) (j+1)]=yS ((List.range k).map (dX a b (m+n))++[jT l t (m+n) j]) k p c):=zH (by
       have h1:=Ra ((List.range k).map (dX a b (m+n))) (jT l t (m+n) j) p c;rw[hlen9]at h1
       rw[h1,jT,<-hp,X])
      have z:∀W,Below wr.heap.size wr W->W.cell? ⟨g,k,none⟩=some (.slice (some ⟨gb,0,none⟩) (m+n) (m+n)):=λW hb=>(hM0.on hb).hd D
      have y:∀W,Below wr.heap.size wr W->W.cell? ⟨M,ol+j,none⟩=some vc:=λW hb=>by have h1:=(hC.on hb).cell 0 sM;simpa using h1
      have ao:(l.length:Int)<=100001:=oM;have ar:(t:Int)<=200000:=oM;replace z:=zH z;replace y:=zH y;replace hp:=zH hp;clear hC F X hlen9 I
      go_upto_region 13 with (fail)
      refine aD mixed (none) (0) (eQ.none) [.eq (.slice (some ⟨g,0,none⟩) (m+n) (m+n)),.eq (.int .i64 k),.eq (.pointer (some ⟨g,0+k*1,none⟩)),.eq (.slice (some ⟨gb,0,none⟩) (m+n) (m+n)),.eq (.int .i64 t),.eq (.slice (some ⟨M,ol,none⟩) l.length cl),.eq (.int .i64 l.length),.eq (.int .i64 ((t:Int)+l.length)),.eq (.int .i64 ((t:Int)+l.length-1)),.eq (.int .i64 j),.eq (.int .i64 p),.eq (.slice (some ⟨M,ol,none⟩) l.length cl),.eq (.int .i64 j),.eq (.pointer (some ⟨M,ol+j*1,none⟩)),.eq (vc),.eq (.pointer (some ⟨gb,0+p*1,none⟩))] [48,49,50,51,52,53,54,55,56,57,58,59,60,61,62,63] rfl rfl rfl rfl ⟨λ_ _ a _ _ _=>xM rfl (a 7 rfl),λ_ _ a _ _ _=>xM rfl (a 8 rfl),λ_ _ _ _ _ e=>pI rfl Tryz.underlying84 g 0 k (Z) (e.1 rfl) (e.2.1 rfl),?_,λ_ _ a _ _ _=>xM rfl (a 10 rfl),λ_ _ a _ _ _=>xM rfl (a 9 rfl),λA _ _ _ _ he=>have h53:=eT 53 (he.1 rfl);pZ rfl,?_,?_,λ_ _ a _ _ _=>xM rfl (a 11 rfl),?_,λ_ _ a _ _ _=>xM rfl (a 9 rfl),λ_ _ a _ _ _=>xM rfl (a 11 rfl),λ_ _ _ _ _ e=>pI rfl Tryz.underlying75 M ol j (Y) (e.1 rfl) (e.2.1 rfl),?_,λ_ _ _ _ _ e=>pI rfl Tryz.underlying75 gb 0 p (G) (e.1 rfl) (e.2.1 rfl),trivial⟩ ?_
      ·intro A w1 hA hL hS he;have h50:=eT 50 (he.1 rfl);refine af rfl ?_;have c0:=z.out w1 hL.below;exact aC rfl rfl gZ
      ·intro A w1 hA hL hS he;have h52:=eT 52 (he.1 rfl);have h54:=eT 54 (he.2.1 rfl);refine af rfl (aC rfl rfl ?_);generalize A.eval=ev at *;go_simp;exact lL oM oM
      ·intro A w1 hA hL hS he;have h55:=eT 55 (he.1 rfl);have hc0:=eC A (.int .i64 1);refine af rfl (aC rfl rfl ?_);generalize A.eval=ev at *;go_simp;exact lL oM oM
      ·intro A w1 hA hL hS he;have h56:=eT 56 (he.1 rfl);have h57:=eT 57 (he.2.1 rfl);refine af rfl (aC rfl rfl ?_);generalize A.eval=ev at *;go_simp
       (first|exact lL oM oM|(rw[a8];exact lL oM oM))
      ·intro A w1 hA hL hS he;have h61:=eT 61 (he.1 rfl);refine af rfl ?_;have c0:=y.out w1 hL.below;exact aC rfl rfl gZ
      ·intro W5 hL5;have hb5:=hL5.below;simp only[aQ,ae.eq,lZ];go_frame;have hM5:=hM0.on hb5;have a1:=hM5.row k gb _ D (show((List.range k).map (dX a b (m+n))++[jT l t (m+n) j])[k]?=some (jT l t (m+n) j) by rw[List.getElem?_append_right sM,List.length_map,List.length_range,Nat.sub_self];rfl);obtain⟨vo,-,z5,f5,-⟩:=a1.get G;obtain⟨hM6,hl6,hgb6⟩:=hM5.set D G (L.on hb5);have a3:Hid (uC w.heap.size (W5.setCell ⟨gb,p,none⟩ vc) g (m+n) (bs++[gb]) ((List.range k).map (dX a b (m+n))++[jT l t (m+n) (j+1)])):=zH (by rw[s.out];exact hM6);have hb6:=(x.trans (hb5.mono x.size)).trans (bU (W:=W5) (g:=gb) (j:=p) hgb6 vc);clear hM5 a1 hM6 hl6 hM0 hM hl0 z y hL5 s L;obtain⟨ac,cc,rfl,-⟩:=a9;go_wp2;go_roundw
       case rel=>exact⟨j+1,oM,nM,a3,hb6⟩
       case measure=>simp[intOf];omega
     ·obtain rfl:j=l.length:=oM
      have hM2:Hid (uC w.heap.size wr g (m+n) (bs++[gb]) ((List.range (k+1)).map (dX a b (m+n)))):=zH (by
       rw[List.range_succ,List.map_append,List.map_cons,List.map_nil,I.out];exact hM.out)
      clear hM hl I;go_wp2;go_roundw
      case rel=>exact⟨k+1,bs++[gb],oM,nM,by simp;omega,hM2,x⟩
      case measure=>simp[intOf];omega
  ·obtain rfl:k=m+n:=oM;go_wp2;go_ret;exact⟨g,bs,rfl,hM.out,q⟩
end Go.Proofs.YtopclbeomcggiaaGreat
end
section
namespace Q
open Go Go.Proofs.YtopclbeomcggiaaGreat
theorem La{m g:ai}{a:List ai}(ha:aY (m::a))(hz:g.2≠0)(d:(m.1.sub g.1).nat=true):aY [ik m g] :=
 Cc d (by
  show m.2/g.2≠0;have:=(ha.2 m sM).1;intro h;rw[Rat.div_def]at h
  exact jr this (λb=>hz (by rw[<-Rat.inv_inv g.2,b,Rat.inv_zero])) h)
theorem Cm{a:List ai}(hv:aY a){E:Ex}{c:Rat}(hc:c≠0)(k:∀t∈a,E=t.1\/E.gt t.1=true)(i:cf a E=c):∃a',a=(E,c)::a':=by
 obtain⟨t,d,he⟩:=Sd (l:=a) (e:=E) (by rw[i];exact hc)
 cases a with
 | nil=>cases d
 | cons m a =>
  have j:m.1=E:=by
   rcases k m sM with h|h
   ·exact h.symm
   ·rcases List.mem_cons.1 d with rfl|d
    ·exact he
    ·have b:=hv.1.head t d;rw[he]at b;rw[Ex.gt_asymm h]at b;cases b
  have b:=hv.cf_head;rw[j,i]at b;exact⟨a,by rw[<-j,b]⟩
theorem Co{x g:ai}{s ts:List ai}(i:aY (x::s))(hb:aY (g::ts)):(∀t∈aO (x::s) (g::ts),x.1.add g.1=t.1\/(x.1.add g.1).gt t.1=true)/\cf (aO (x::s) (g::ts)) (x.1.add g.1)=x.2*g.2:=by
 refine⟨gY (P:=λe=>x.1.add g.1=e\/(x.1.add g.1).gt e=true) λt j=>?_,?_⟩
 ·obtain⟨a,ha,b,d,rfl⟩:=kV j;by_cases h:x.1=a.1/\g.1=b.1
  ·exact .inl (by simp only[mulT,h.1,h.2])
  ·exact .inr (uJ (i.1.head_or a ha) (hb.1.head_or b d) h)
 ·rw[aO,ou,if_pos (Ex.nat_add i.nat.head hb.nat.head),rJ i.1 hb.1]
theorem Em{x g:ai}(hz:g.2≠0):ik (x.1.add g.1,x.2*g.2) g=x:=by
 obtain⟨e,c⟩:=x;unfold ik;refine Prod.ext ?_ ?_
 ·show(e.add g.1).sub g.1=e;simp only[Ex.add,Ex.sub];refine Ex.ext' ?_ ?_ ?_ ?_<;>simp only<;>omega
 ·show c*g.2/g.2=c;exact Rat.mul_div_cancel hz
theorem Eo{x:ai}{s b d:List ai}(e:aY (x::s))(hb:aY b)(hd:aY d):dL (mP (aO (x::s) b) d) (aO b [x])=mP (aO s b) d :=
 lK (aY.sub _ _) (aY.add _ _) λy=>by have i:aY [x]:=⟨List.pairwise_singleton _ _,λt h=>e.2 t (by simp at h;simp[h])⟩;rw[ev_sub y (aY.add _ _).nat (aY.mul _ _),ev_add y (aY.mul _ _).nat hd.nat,ev_mul y e.nat hb.nat,ev_mul y hb.nat i.nat,ev_add y (aY.mul _ _).nat hd.nat,ev_mul y e.tail.nat hb.nat,kU,kU,dJ];grind
theorem yT{p:List ai}(hp:aY p):mP p []=p:=by rw[mP,List.append_nil,Jv hp]
theorem gJ{c:Rat}(h:Dv 1 c):∃z:Int,c=(z:Rat):=by obtain⟨k,b⟩:=h;exact⟨k,by rw[<-b,show((1:Nat):Rat)=1 from rfl,Rat.mul_one]⟩
theorem Ui{z:Int}{n:Nat}(h:bO (z:Rat)<=(n:Rat)):z.natAbs<=n:=by rw[rabs_int]at h;exact Rat.natCast_le_natCast.1 h
end Q
end
section
namespace Q
namespace MP
def dv (D:Nat) (p:MP):Prop:=∀t∈p.l,Dv D t.2
def am (p:MP):Rat:=bL p.l
theorem am_nonneg(p:MP):0<=p.am:=kH _
theorem yU{D:Nat}{l:List ai}(h:∀t∈l,Dv D t.2):∀t∈canon l,Dv D t.2:=(CL (l:=l) (r:=[]) (p:=λ_=>True) (λ_ _=>trivial) (λ_ _=>trivial) h (λ_ h=>by cases h)).2.2.2
theorem Rb(l:List ai):∀r,bL (l.foldl ins r)<=bL r+bL l:=by
 induction l with
 | nil=>intro r;simp only[List.foldl_nil,bL];grind
 | cons m l b=>intro r;have:=b (ins r m);have:=CK r m;simp only[List.foldl_cons,bL];grind
theorem qN(l:List ai):bL (canon l)<=bL l:=by have:=Rb l [];simp only[bL]at this;unfold canon;grind
theorem Ep{D:Nat}{p q:MP}(h:p.dv D)(b:q.dv D):(p+q).dv D:=yU λt d=>(List.mem_append.1 d).elim (h t) (b t)
theorem Uj{D d:Nat}{p q:MP}(h:p.dv D)(e:q.dv d):(p*q).dv (D*d):=yU λt i=>by obtain⟨a,ha,b,hb,rfl⟩:=kV i;exact(h a ha).mul (e b hb)
theorem jw{p q:MP}(h:p.dv 1)(b:q.dv 1):(p*q).dv 1:=Uj h b
theorem Rc{D:Nat}{r:Rat}(h:Dv D r):(c r).dv D:=λt b=>by
 have b:t∈cK r:=b;unfold cK at b;split at b
 ·cases b
 ·rw[List.mem_singleton.1 b];exact h
theorem Wx{D b:Nat}(hd:D∣b){p:MP}(h:p.dv D):p.dv b:=λt d=>(h t d).dvd hd
theorem Am{p:List ai}{c:Rat}{t:ai}(h:t∈bY p c):∃s∈p,t=(s.1,s.2*c):=by
 unfold bY at h;split at h
 ·cases h
 ·obtain⟨s,b,rfl⟩:=List.mem_map.1 h;exact⟨s,b,rfl⟩
theorem NH{D:Nat}{p:MP}(h:p.dv D):(-p).dv D:=λt d=>by obtain⟨s,b,rfl⟩:=Am (p:=p.l) (c:=-1) d;have:=(h s b).neg;have e:s.2*-1=-s.2:=gR;show Dv D (s.2*-1);rw[e];exact this
theorem NI(p q:MP):p-q=p+-q:=gR
theorem Er{D:Nat}{p q:MP}(h:p.dv D)(b:q.dv D):(p-q).dv D:=by rw[NI];exact Ep h (NH b)
theorem IM(D:Nat):(0:MP).dv D:=λ_ h=>by cases h
theorem YC(D:Nat):(1:MP).dv D:=Rc (r:=1) (Dv.int D 1)
theorem xJ(D:Nat)(k:Int):(c (k:Rat)).dv D:=Rc (Dv.int D k)
theorem NJ(p q:MP):(p+q).am<=p.am+q.am:=by have:=qN (p.l++q.l);rw[qY]at this;exact this
theorem Es(p q:MP):(p*q).am<=p.am*q.am:=by have:=qN (prods p.l q.l);rw[CO]at this;exact this
theorem Pg:(0:MP).am=0:=rfl
theorem Lb(r:Rat):(c r).am=bO r:=by
 show bL (cK r)=_;unfold cK;split
 ·rename_i h;rw[h];rfl
 ·simp only[bL];grind
theorem sU:bO 1=1:=dM
theorem YD:(1:MP).am=1:=by rw[<-DJ,Lb,sU]
theorem YE(p:MP):(-p).am<=p.am:=by
 have e:-p=c (-1)*p:=by refine ext' λx=>?_;rw[ev_neg,ev_mul,ev_c];grind
 have:=Es (c (-1)) p;rw[Lb]at this;rw[e];have e2:bO (-1)=1:=dM;rw[e2]at this;grind
theorem NK(p q:MP):(p-q).am<=p.am+q.am:=by have:=NJ p (-q);have:=YE q;rw[NI];grind
theorem YF(l:List ai)(e:Ex):bO (cf l e)<=bL l:=by
 induction l with
 | nil=>simp only[jL,bL];decide
 | cons t l j =>
  rw[bR];simp only[bL];have h:=CG (if t.1=e then t.2 else 0) (cf l e)
  have i:bO (if t.1=e then t.2 else 0)<=bO t.2:=by
   split
   ·exact Rat.le_refl
   ·have b:=fo t.2;have d:bO 0=0:=dM;rw[d];exact b
  grind
theorem GI{D:Nat}{l:List ai}(h:∀t∈l,Dv D t.2)(e:Ex):Dv D (cf l e):=by
 induction l with
 | nil=>rw[jL];exact Dv.zero D
 | cons t l d =>
  rw[bR];refine Dv.add ?_ (d λs b=>h s (by simp[b]));split
  ·exact h t sM
  ·exact Dv.zero D
theorem NL{p:MP}{t:ai}(h:t∈p.l):cf p.l t.1=t.2:=MC (List.Pairwise.imp (λh=>Ex.gt_ne h) p.v.1) h
theorem yV{D:Nat}{f:Nat->MP}:∀{n:Nat},(∀j,j<n->(f j).dv D)->(dA f n).dv D
 | 0,_=>IM D
 | n+1,h=>Ep (yV λj b=>h j (by omega)) (h n (by omega))
theorem Ph{K:Rat}{f:Nat->MP}:∀{n:Nat},(∀j,j<n->(f j).am<=K)->(dA f n).am<=(n:Rat)*K
 | 0,_=>by rw[dA,Pg];have e:((0:Nat):Rat)=0:=rfl;rw[e];grind
 | n+1,h=>by have b:=Ph (n:=n) λj k=>h j oM;have d:=h n oM;have i:=NJ (dA f n) (f n);rw[dA,Rat.natCast_add];have e:((1:Nat):Rat)=1:=rfl;rw[e];grind
theorem YG(p q:MP)(e:Ex):cf (p+q).l e=cf p.l e+cf q.l e:=lf_add _ p q
theorem IP(f:Nat->MP)(e:Ex):∀n,cf (dA f n).l e=bF (λj=>cf (f j).l e) n
 | 0=>rfl
 | n+1=>by rw[dA,YG,IP f e n];rfl
theorem rF(r:Rat)(p:MP)(e:Ex):cf (c r*p).l e=r*cf p.l e:=by
 show Lf _ _=_;rw[lf_mul];by_cases h:r=0
 ·rw[h];show(0:Rat)=_;grind
 ·have:(c r).l=[(e0,r)]:=by show cK r=_;rw[cK,if_neg h]
  rw[this,pJ,Mv];simp only[Ex.zero_add];show r*cf p.l e+0=_;grind
theorem Lc{f:Nat->Rat}{g:Nat->Int}:∀{n:Nat},(∀i,i<n->f i=(g i:Rat))->bF f n=(xn g n:Rat)
 | 0,_=>rfl
 | n+1,h=>by rw[bF,xn,Lc λi b=>h i (by omega),h n (by omega),Rat.intCast_add]
def Mt (v R j w:Nat):Nat:=if w<v then DR R (j%R^v) w else if w=v then j/R^v else 0
def Re (v R j:Nat):Ex:=((Mt v R j 0:Int),(Mt v R j 1:Int),(Mt v R j 2:Int),(Mt v R j 3:Int))
theorem IQ(v R j:Nat){w:Nat}(b:w<4):(Re v R j).get w=Mt v R j w:=by
 rcases w with _|_|_|_|w
 ·rfl
 ·rfl
 ·rfl
 ·rfl
 ·omega
theorem Wy(v R j:Nat):(Re v R j).nat=true:=by rw[Ex.nat_iff];simp only[Re];omega
theorem Ex.ext4{e f:Ex}(h:∀w,w<4->e.get w=f.get w):e=f:=Ex.ext' (h 0 oM) (h 1 oM) (h 2 oM) (h 3 oM)
def mo (v R j:Nat):MP:=⟨[(Re v R j,1)],Cc (Wy v R j) (by decide)⟩
theorem Xv(v R j:Nat):(mo v R j).dv 1:=λt b=>by rw[List.mem_singleton.1 b];exact Dv.int 1 1
theorem ZY(v R j:Nat):(mo v R j).am=1:=by show bO 1+0=(1:Rat);rw[sU];decide +kernel
theorem NM(v R j:Nat){w:Nat}(b:w<4):(mo v R j).deg w=Mt v R j w:=by show max (-1) ((Re v R j).get w)=_;rw[IQ _ _ _ b];omega
theorem YH{v R:Nat}(b:0<R)(j:Nat){w:Nat}(h:w<v):Mt v R j w<R:=by rw[Mt,if_pos h];exact DT b _ _
theorem IR(v R j:Nat):Mt v R j v=j/R^v:=by rw[Mt,if_neg oM,if_pos rfl]
theorem Wz{v R:Nat}(hv:v<4)(d:0<R){i j:Nat}(h:Re v R i=Re v R j):i=j:=by
 have b:∀w,w<4->Mt v R i w=Mt v R j w:=λw b=>by have:=congrArg (Ex.get · w) h;simp only[IQ _ _ _ b]at this;omega
 have e:=b v hv;rw[IR,IR]at e
 have k:i%R^v=j%R^v:=Io d v _ _ (Nat.mod_lt _ (Nat.pow_pos d)) (Nat.mod_lt _ (Nat.pow_pos d)) λw h=>by have:=b w oM;rw[Mt,Mt,if_pos h,if_pos h]at this;exact this
 have:=Nat.div_add_mod i (R^v);have:=Nat.div_add_mod j (R^v);rw[e,k]at *;omega
theorem Ld{W:Nat}:∀(n:Nat)(y:Nat->Nat),(∀i,i<n->y i<W)->∀i,i<n->DR W (pG W y n) i=y i
 | 0,_,_=>λi d=>by omega
 | n+1,y,h=>λi d=>by
  have b:=h 0 oM
  cases i with
  | zero=>rw[DR,pG,Nat.add_mul_mod_self_left,Nat.mod_eq_of_lt b]
  | succ i =>
   rw[DR,pG,Nat.add_mul_div_left _ _ oM,Nat.div_eq_of_lt b,Nat.zero_add];exact Ld n _ (λi d=>h (i+1) oM) i oM
theorem YI{v R:Nat}(hv:v<4)(o:0<R){e:Ex}(l:e.nat=true)(j:∀w,w<v->e.get w<R)(h:∀w,v<w->w<4->e.get w=0):∃r,r<R^v/\e=Re v R (r+R^v*(e.get v).toNat):=by
 have k:∀i,i<v->(e.get i).toNat<R:=λi p=>by have:=j i p;have:=Ex.nat_get l i;omega
 refine⟨pG R (λw=>(e.get w).toNat) v,yx v _ k,Ex.ext4 λw n=>?_⟩;have b:=yx v _ k;rw[IQ _ _ _ n,Mt];have:=Ex.nat_get l w;by_cases d:w<v
 ·rw[if_pos d,Nat.add_mul_mod_self_left,Nat.mod_eq_of_lt b,Ld v _ k w d];omega
 ·rw[if_neg d];by_cases m:w=v
  ·subst m;rw[if_pos rfl,Nat.add_mul_div_left _ _ (Nat.pow_pos o),Nat.div_eq_of_lt b,Nat.zero_add];omega
  ·rw[if_neg m,h w oM n];rfl
def uH (v R A:Nat) (p q:MP) (j:Nat):MP:=if j<A then mo v R j*p else mo v R (j-A)*q
theorem GJ{v R j H:Nat}{p:MP}(h:p.am<=(H:Rat)):(mo v R j*p).am<=(H:Rat):=by have:=Es (mo v R j) p;rw[ZY]at this;grind
theorem Le{v:Nat}(hv:v<4){p q:MP}(lp:p.lo (v+1))(lq:q.lo (v+1))(ip:p.dv 1)(iq:q.dv 1){m n k d H R X:Nat}(hm:p.deg v<=m)(hn:q.deg v<=n)(ar:k<m)(au:k<n)
  (hp:∀w,w<v->p.deg w<=d) (hq:∀w,w<v->q.deg w<=d) (ap:p.am<=(H:Rat)) (aq:q.am<=(H:Rat)) (hR:0<R)
  (Y:(2*((m+n-2*k)*R^v*(X*H))+1)^((m+n-2*k-1)*(R+d)^v)<(X+1)^((m+n-2*k)*R^v)) :
  ∃S T:MP,(S≠0\/T≠0)/\S.deg v<n-k/\(S*p+T*q).deg v<=k/\(∀w,w<v->(S*p+T*q).deg w<=((R-1+d:Nat):Int))/\(S*p+T*q).dv 1/\(S*p+T*q).am<=(((m+n-2*k)*R^v*(X*H):Nat):Rat)/\(S*p+T*q).lo (v+1):=by
 obtain⟨u,hu⟩:∃u,u=m+n - 2*k:=⟨_,rfl⟩;rw[<-hu]at Y ⊢;obtain⟨b,hS⟩:∃b,b=n - k:=⟨_,rfl⟩;obtain⟨L,hT⟩:∃L,L=m - k:=⟨_,rfl⟩;have C:u=b+L:=oM;obtain⟨Q,hQ⟩:∃Q,Q=R^v:=⟨_,rfl⟩;have J:0<Q:=by rw[hQ];exact Nat.pow_pos hR
 rw[<-hQ]at Y ⊢;obtain⟨O,a6⟩:∃O,O=R+d:=⟨_,rfl⟩;rw[<-a6]at Y;obtain⟨B,I⟩:∃B,B=O^v:=⟨_,rfl⟩;have al:0<B:=by rw[I];exact Nat.pow_pos oM
 rw[<-I]at Y
 have hdvB:∀j,(uH v R (b*Q) p q j).dv 1:=λj=>by
  unfold uH;split
  ·exact jw (Xv _ _ _) ip
  ·exact jw (Xv _ _ _) iq
 have hamB:∀j,(uH v R (b*Q) p q j).am<=(H:Rat):=λj=>by
  unfold uH;split
  ·exact GJ ap
  ·exact GJ aq
 have ab:∀j e,∃z:Int,cf (uH v R (b*Q) p q j).l e=(z:Rat)/\z.natAbs<=H:=λj e=>by obtain⟨z,hz⟩:=gJ (GI (hdvB j) e);refine⟨z,hz,Ui ?_⟩;rw[<-hz];exact Rat.le_trans (YF _ _) (hamB j)
 have ac:∃M:Nat->Ex->Int,∀j e,cf (uH v R (b*Q) p q j).l e=(M j e:Rat)/\(M j e).natAbs<=H :=
  ⟨λj e=>(cf (uH v R (b*Q) p q j).l e).num,λj e=>by
   obtain⟨z,hz,ag⟩:=ab j e
   simp only[hz];exact⟨rfl,ag⟩⟩
 obtain⟨M,hM⟩:=ac;obtain⟨s,s1,⟨j0,j1,j2⟩,s3⟩:=Yb (e:=(u - 1)*B) (n:=u*Q) (H:=H) (X:=X) (λi j=>M j (Re v O (i+B*(k+1)))) (λi j _ _=>(hM j _).2) Y
 let S:MP:=dA (λj=>c (s j:Rat)*mo v R j) (b*Q)
 let T:MP:=dA (λj=>c (s (b*Q+j):Rat)*mo v R j) (L*Q)
 have G:S*p+T*q=dA (λj=>c (s j:Rat)*uH v R (b*Q) p q j) (u*Q):=by
  rw[C,Nat.add_mul,xq,<-wh,<-wh]
  congr 1
  ·refine dS λj E=>?_;simp only[uH,if_pos E];grind
  ·refine dS λj E=>?_;simp only[uH,if_neg (oM:¬b*Q+j<b*Q),(oM:b*Q+j-b*Q=j)];grind
 have a2:∀(r:Rat)(w:Nat),(c r).fr w:=λr w=>by
  by_cases h:r=0
  ·rw[h];exact rz w
  ·exact tV one_ne (DK h) (rR w)
 have a5:∀j w,w<v->(mo v R j).deg w<=(R-1:Nat):=λj w F=>by rw[NM _ _ _ oM];have:=YH hR j F;omega
 have K:∀j,(mo v R j).deg v=((j/Q:Nat):Int):=λj=>by rw[NM _ _ _ hv,IR,hQ]
 have hi:∀j w,v<w->w<4->(mo v R j).deg w=0:=λj w o y=>by rw[NM _ _ _ y,Mt,if_neg oM,if_neg oM];rfl
 have aa:∀j w,w<v->(uH v R (b*Q) p q j).deg w<=(R-1+d:Nat):=λj w F=>by
  unfold uH;split
  ·exact Int.le_trans (di w _ _ (a5 j w F) (hp w F) oM) oM
  ·exact Int.le_trans (di w _ _ (a5 _ w F) (hq w F) oM) oM
 have a8:∀j w,v<w->w<4->(uH v R (b*Q) p q j).deg w<=0:=λj w o y=>by
  unfold uH;split
  ·exact Int.le_trans (di w _ _ (Int.le_of_eq (hi _ w o y)) (lp w o y) oM) oM
  ·exact Int.le_trans (di w _ _ (Int.le_of_eq (hi _ w o y)) (lq w o y) oM) oM
 have a9:∀j,j<u*Q->(uH v R (b*Q) p q j).deg v<=(m+n-k-1:Nat):=λj E=>by
  unfold uH;split
  ·rename_i h;have o:j/Q<b:=(Nat.div_lt_iff_lt_mul J).2 h;have y:=K j;obtain⟨c,hc⟩:∃c:Nat,c=j/Q:=⟨_,rfl⟩;rw[<-hc]at o y;exact Int.le_trans (di v _ _ (Int.le_of_eq y) hm oM) oM
  ·rename_i h;have o:(j - b*Q)/Q<L:=(Nat.div_lt_iff_lt_mul J).2 (by rw[C,Nat.add_mul]at E;omega);have y:=K (j - b*Q);obtain⟨c,hc⟩:∃c:Nat,c=(j - b*Q)/Q:=⟨_,rfl⟩;rw[<-hc]at o y;exact Int.le_trans (di v _ _ (Int.le_of_eq y) hn oM) oM
 have hd:∀(w:Nat)(D:Nat),(∀j,j<u*Q->(uH v R (b*Q) p q j).deg w<=D)->(S*p+T*q).deg w<=D:=λw D h=>by rw[G];refine qE oM λj E=>?_;have:=di w (c (s j:Rat)) _ (a2 _ w) (h j E) oM;omega
 have a3:∀w,w<v->(S*p+T*q).deg w<=(R-1+d:Nat):=λw F=>hd w _ λj _=>aa j w F;have a1:∀w,v<w->w<4->(S*p+T*q).deg w<=0:=λw o y=>hd w 0 λj _=>a8 j w o y;have ao:(S*p+T*q).deg v<=(m+n-k-1:Nat):=hd v _ a9
 have a4:∀(f:Nat->Int)(N:Nat),dA (λj=>c (f j:Rat)*mo v R j) N=0->∀j,j<N->f j=0:=by
  intro f N h0 j E;have o:=congrArg (λg=>cf g.l (Re v R j)) h0;simp only[IP]at o;rw[yg E λi hi ad=>?_,rF]at o
  ·have e1:cf (mo v R j).l (Re v R j)=1:=by show cf [_] _=_;rw[bR,jL,if_pos rfl];exact Rat.add_zero _
   have e2:cf (0:MP).l (Re v R j)=0:=rfl;rw[e1,e2]at o;exact Rat.intCast_inj.1 (by rw[Rat.mul_one]at o;exact o)
  ·rw[rF]
   have:cf (mo v R i).l (Re v R j)=0:=by show cf [_] _=_;rw[bR,jL,if_neg λh=>ad (Wz hv hR h)];exact Rat.add_zero _
   rw[this];grind
 have Z:(S*p+T*q).dv 1:=by rw[G];exact yV λj _=>jw (xJ 1 _) (hdvB j)
 refine⟨S,T,?_,?_,?_,a3,Z,?_,λw o y=>a1 w o y⟩
 ·by_cases W:S=0
  ·refine .inr λa7=>j2 ?_;rcases Nat.lt_or_ge j0 (b*Q)with h|h
   ·exact a4 s _ W j0 h
   ·have an:u*Q=b*Q+L*Q:=by rw[C,Nat.add_mul]
    have:=a4 (λj=>s (b*Q+j)) (L*Q) a7 (j0-b*Q) oM;simp only[(oM:b*Q+(j0-b*Q)=j0)]at this;exact this
  ·exact .inl W
 ·have:S.deg v<=(b-1:Nat):=qE oM λj E=>by
   have o:j/Q<b:=(Nat.div_lt_iff_lt_mul J).2 E;have y:=K j;obtain⟨x,hc⟩:∃x:Nat,x=j/Q:=⟨_,rfl⟩;rw[<-hc]at o y;have:=di v (c (s j:Rat)) (mo v R j) (a2 _ v) (Int.le_of_eq y) oM;omega
  omega
 ·by_cases a0:S*p+T*q=0
  ·rw[a0,deg_zero];omega
  ·rcases Int.lt_or_le k ((S*p+T*q).deg v)with hlt|mR
   ·exfalso;obtain⟨t,ht,e⟩:=lU (λh=>a0 (zero_iff.2 h)) (S*p+T*q).v.nat v;have e':t.1.get v=(S*p+T*q).deg v:=e;have tn:=(S*p+T*q).v.nat t ht
    obtain⟨r,r1,r2⟩:=YI hv (oM:0<O) tn (λw F=>by
     have:=fw ht w;have h':aH (S*p+T*q).l w<=(R-1+d:Nat):=a3 w F;omega) (λw o y=>by
     have:=fw ht w;have h':aH (S*p+T*q).l w<=0:=a1 w o y;have:=Ex.nat_get tn w;omega)
    rw[<-I]at r1 r2;obtain⟨l,hl⟩:∃l,l=(t.1.get v).toNat:=⟨_,rfl⟩;rw[<-hl]at r2;have av:k+1<=l/\l<k+1+(u - 1):=oM
    have hi:r+B*(l-(k+1))<(u-1)*B:=by have:=Nat.mul_le_mul_left B (oM:l-(k+1)+1<=u-1);rw[Nat.mul_succ,Nat.mul_comm B (u-1)]at this;omega
    have h3:=s3 _ hi
    have e3:r+B*(l-(k+1))+B*(k+1)=r+B*l:=by rw[Nat.add_assoc,<-Nat.mul_add];congr 2;omega
    simp only[e3,<-r2]at h3
    have h4:cf (S*p+T*q).l t.1=0:=by rw[G,IP,Lc (g:=λj=>s j*M j t.1) λi _=>by rw[rF,(hM i _).1,Rat.intCast_mul],h3];rfl
    rw[NL ht]at h4;exact((S*p+T*q).v.2 t ht).1 h4
   ·exact mR
 ·rw[G];have:(((u*Q*(X*H):Nat)):Rat)=((u*Q:Nat):Rat)*((X*H:Nat):Rat):=by rw[Rat.natCast_mul]
  rw[this];refine Ph λj _=>?_;have o:=Es (c (s j:Rat)) (uH v R (b*Q) p q j);rw[Lb]at o;refine Rat.le_trans o ?_;rw[Rat.natCast_mul];refine pM ?_ (hamB j) (fo _) Rat.natCast_nonneg;have y:=s1 j;unfold bO;split
  ·rw[<-Rat.intCast_neg,<-iN];exact Rat.intCast_le_intCast.2 oM
  ·rw[<-iN];exact Rat.intCast_le_intCast.2 oM
end MP
end Q
end
section
namespace Q
def RQ (p:Nat):Prop:=1<p/\∀m,m∣p->m=1\/m=p
theorem YJ:∀n:Nat,1<n->∃p,RQ p/\p∣n:=λn=>by
 induction n using Nat.strongRecOn with
 | _ n ih =>
  intro h;by_cases hp:RQ n
  ·exact⟨n,hp,Nat.dvd_refl n⟩
  ·have:∃m,m∣n/\m≠1/\m≠n:=by
    rcases Classical.em (∃m,m∣n/\m≠1/\m≠n)with h'|h'
    ·exact h'
    ·exfalso;apply hp;refine⟨h,λm hm=>?_⟩;rcases Classical.em (m=1)with b|b
     ·exact .inl b
     ·rcases Classical.em (m=n)with d|d
      ·exact .inr d
      ·exact absurd ⟨m,hm,b,d⟩ h'
   obtain⟨m,hm,b,d⟩:=this;have mR:=Nat.le_of_dvd oM hm;have i:m≠0:=λe=>by rw[e]at hm;have:=Nat.eq_zero_of_zero_dvd hm;omega
   obtain⟨p,hp,hd⟩:=ih m oM oM;exact⟨p,hp,Nat.dvd_trans hd hm⟩
theorem Cq{p:Nat}(hp:RQ p){a b:Int}(h:(p:Int)∣a*b):(p:Int)∣a\/(p:Int)∣b:=by
 rcases hp.2 _ (Nat.gcd_dvd_left p a.natAbs)with h1|h1
 ·right;have d:p∣a.natAbs*b.natAbs:=by rw[<-Int.natAbs_mul];exact Int.ofNat_dvd_left.1 h
  exact Int.ofNat_dvd_left.2 (Nat.Coprime.dvd_of_dvd_mul_left h1 d)
 ·left;have:=Nat.gcd_dvd_right p a.natAbs;rw[h1]at this;exact Int.ofNat_dvd_left.2 this
namespace MP
theorem wH(r:Rat)(p:MP):c r*p=⟨bY p.l r,p.v.scale r⟩:=ext' λx=>by rw[ev_mul,ev_c];have:=Q.ev_scale x p.l r;show r*Q.ev x p.l=Q.ev x (bY p.l r);rw[this];grind
theorem oh(r:Rat)(p:MP):(c r*p).am=bO r*p.am:=by
 rw[wH];show bL (bY p.l r)=bO r*bL p.l;unfold bY;split
 ·rename_i h;rw[h];show(0:Rat)=_;have e:bO 0=0:=dM;rw[e];grind
 ·induction p.l with
  | nil=>simp only[List.map_nil,bL];grind
  | cons t l b=>simp only[List.map_cons,bL,jB]at *;grind
theorem Et{r:Rat}{p:MP}{t:ai}(h:t∈(c r*p).l):∃s∈p.l,t=(s.1,s.2*r):=by rw[wH]at h;exact Am h
theorem qO{D:Nat}{p:MP}(h:p.dv D):(c (D:Rat)*p).dv 1:=λt e=>by obtain⟨s,d,rfl⟩:=Et e;obtain⟨k,b⟩:=h s d;exact⟨k,by show s.2*D*((1:Nat):Rat)=k;rw[b,show((1:Nat):Rat)=1 from rfl,Rat.mul_one]⟩
theorem jG{D:Nat}(h:0<D):(D:Rat)≠0:=λb=>by have:(D:Rat)=((0:Nat):Rat):=b;have:=Rat.natCast_inj.1 this;omega
theorem Ev{D:Nat}(d:0<D){p:MP}(h:(c (D:Rat)*p).dv 1):p.dv D:=λt b=>by
 have e:cf (c (D:Rat)*p).l t.1=D*t.2:=by rw[rF,NL b]
 obtain⟨z,hz⟩:=gJ (GI h t.1);exact⟨z,by rw[<-hz,e];grind⟩
def Ew (p:Nat) (P:MP):Prop:=∃P':MP,P'.dv 1/\P=c (p:Rat)*P'
theorem IU{p:Nat}{a b:MP}(h:Ew p a)(d:Ew p b):Ew p (a+b):=by obtain⟨x,e,rfl⟩:=h;obtain⟨y,i,rfl⟩:=d;exact⟨x+y,Ep e i,gR⟩
theorem WA{p:Nat}{a b:MP}(h:Ew p a)(d:Ew p b):Ew p (a-b):=by obtain⟨x,e,rfl⟩:=h;obtain⟨y,i,rfl⟩:=d;exact⟨x - y,Er e i,gR⟩
theorem Pi{p:Nat}{a b:MP}(h:Ew p a)(d:b.dv 1):Ew p (a*b):=by obtain⟨x,e,rfl⟩:=h;exact⟨x*b,jw e d,gR⟩
theorem Uk{p:Nat}{a b:MP}(h:Ew p b)(d:a.dv 1):Ew p (a*b):=by obtain⟨x,e,rfl⟩:=h;exact⟨a*x,jw d e,gR⟩
theorem vI(p:Nat):Ew p 0:=⟨0,IM 1,gR⟩
theorem WB(f:Ex->Rat)(b:ai->Bool)(l:List ai):Lf f l=Lf f (l.filter b)+Lf f (l.filter λt=>!b t):=by
 induction l with
 | nil=>simp only[List.filter_nil,Lf];grind
 | cons t l d=>cases hb:b t<;>simp only[List.filter_cons,hb,Lf,d,Bool.not_true,Bool.not_false,if_true,if_false,Bool.false_eq_true]<;>grind
def Vy (b:ai->Bool) (p:MP):MP:=⟨p.l.filter b,p.v.sublist List.filter_sublist⟩
theorem IV(b:ai->Bool)(p:MP):p=Vy b p+Vy (λt=>!b t) p:=Qk λf=>by rw[lf_add];exact WB f b p.l
theorem NN{D:Nat}{b:ai->Bool}{p:MP}(h:p.dv D):(Vy b p).dv D:=λt d=>h t (List.mem_filter.1 d).1
def wS (p:Nat) (t:ai):Bool:=decide (t.2.num%(p:Int)=0)
theorem IW{p:Nat}(hp:0<p){P:MP}(h:P.dv 1):Ew p (Vy (wS p) P):=by
 refine⟨c ((p:Rat)⁻¹)*Vy (wS p) P,λt n=>?_,?_⟩
 ·obtain⟨s,m,rfl⟩:=Et n;have d:s∈P.l.filter (wS p):=m;obtain⟨i,j⟩:=List.mem_filter.1 d;obtain⟨z,hz⟩:=gJ (h s i);have b:s.2.num%(p:Int)=0:=of_decide_eq_true j;rw[hz]at b;have b:z%(p:Int)=0:=b;obtain⟨k,rfl⟩:=Int.dvd_of_emod_eq_zero b;refine⟨k,?_⟩;show s.2*(p:Rat)⁻¹*((1:Nat):Rat)=k;rw[hz,Rat.intCast_mul,iN,show((1:Nat):Rat)=1 from rfl];have:=Rat.mul_inv_cancel _ (jG hp);grind
 ·have e:c (p:Rat)*c ((p:Rat)⁻¹)=1:=by rw[lC,Rat.mul_inv_cancel _ (jG hp)];rfl
  grind
theorem WC{G H:MP}{s t:ai}{l r:List ai}(b:G.l=s::l)(d:H.l=t::r):cf (G*H).l (s.1.add t.1)=s.2*t.2:=by have e:cf (G*H).l (s.1.add t.1)=cf (prods G.l H.l) (s.1.add t.1):=(jA (G.v.nat.prods H.v.nat)).cf _;rw[e,b,d];exact rJ (by rw[<-b];exact G.v.1) (by rw[<-d];exact H.v.1)
theorem GK{p:Nat}(hp:RQ p){G H:MP}(K:G.dv 1)(C:H.dv 1)(h:Ew p (G*H)):Ew p G\/Ew p H:=by
 have k:0<p:=by have:=hp.1;omega
 have E:=IV (wS p) G;have F:=IV (wS p) H;have L:=IW k K;have zH:=IW k C;obtain⟨i,b⟩:∃g,g=Vy (λt=>!wS p t) G:=⟨_,rfl⟩;obtain⟨j,d⟩:∃g,g=Vy (λt=>!wS p t) H:=⟨_,rfl⟩;have u:i.dv 1:=by rw[b];exact NN K
 have D:j.dv 1:=by rw[d];exact NN C
 rw[<-b]at E;rw[<-d]at F
 cases hGl:i.l with
 | nil=>left;rw[E,zero_iff.2 hGl];exact IU L (vI p)
 | cons s l =>
  cases hHl:j.l with
  | nil=>right;rw[F,zero_iff.2 hHl];exact IU zH (vI p)
  | cons t r =>
   exfalso
   have hz:Ew p (i*j):=by have e:i*j=G*H-(Vy (wS p) G*H+i*Vy (wS p) H):=gR;rw[e];exact WA h (IU (Pi L C) (Uk zH u))
   obtain⟨W,S,M⟩:=hz;have B:=WC hGl hHl;rw[M,rF]at B;obtain⟨z,hz⟩:=gJ (GI S (s.1.add t.1));obtain⟨x,I⟩:=gJ (u s (by rw[hGl];simp));obtain⟨y,J⟩:=gJ (D t (by rw[hHl];simp));rw[hz,I,J,<-iN,<-Rat.intCast_mul,<-Rat.intCast_mul]at B;have N:=Rat.intCast_inj.1 B;have n:s∈i.l:=by rw[hGl];simp
   have q:t∈j.l:=by rw[hHl];simp
   rw[b]at n;rw[d]at q;have O:s∈G.l.filter (λt=>!wS p t):=n;have R:t∈H.l.filter (λt=>!wS p t):=q;have m:=(List.mem_filter.1 O).2;have o:=(List.mem_filter.1 R).2;simp only[wS,Bool.not_eq_true',decide_eq_false_iff_not,I,J]at m o;rcases Cq hp ⟨z,N.symm⟩with h|h
   ·exact m (Int.emod_eq_zero_of_dvd h)
   ·exact o (Int.emod_eq_zero_of_dvd h)
def pz (G:MP):Prop:=G.dv 1/\∀p,RQ p->¬Ew p G
theorem qP{n:Nat}(h:1<=n):(1:Rat)<=(n:Rat):=by have e:(1:Rat)=((1:Nat):Rat):=rfl;rw[e];exact Rat.natCast_le_natCast.2 h
theorem rabs_int{z:Int}(h:z≠0):(1:Rat)<=bO (z:Rat):=by
 unfold bO;have e:(1:Rat)=((1:Int):Rat):=rfl;split
 ·rename_i b;have e0:(0:Rat)=((0:Int):Rat):=rfl;rw[e0]at b;have:z<0:=Rat.intCast_lt_intCast.1 b;rw[e,<-Rat.intCast_neg];exact Rat.intCast_le_intCast.2 oM
 ·rename_i b;have e0:(0:Rat)=((0:Int):Rat):=rfl;rw[e0]at b;have:¬z<0:=λhz=>b (Rat.intCast_lt_intCast.2 hz);rw[e];exact Rat.intCast_le_intCast.2 oM
theorem jR{p:MP}(h:p≠0):∃t l,p.l=t::l:=by
 cases e:p.l with
 | nil=>exact absurd (zero_iff.2 e) h
 | cons t l=>exact⟨t,l,rfl⟩
theorem Ao{p:MP}(h:p.dv 1)(d:p≠0):1<=p.am:=by
 obtain⟨t,l,e⟩:=jR d;have b:t∈p.l:=by rw[e];simp
 obtain⟨z,hz⟩:=gJ (h t b);have i:=rZ b
 have j:(1:Rat)<=bO t.2:=by rw[hz];refine rabs_int λe0=>(p.v.2 t b).1 ?_;rw[hz,e0];rfl
 show 1<=bL p.l;grind
theorem vJ{r:Rat}(h:r≠0):c r≠0:=tY (DK h)
theorem Xw:∀(k:Nat)(P:MP),P≠0->P.dv 1->P.am<=(2:Rat)^k->∃r:Rat,r≠0/\pz (c r*P)
 | k,P,h0,h1,h2=>by
  by_cases hz:∃p,RQ p/\Ew p P
  ·obtain⟨p,hp,d,m,e⟩:=hz;have b:0<p:=by have:=hp.1;omega
   have i:d≠0:=λn=>h0 (by rw[e,n];grind)
   have ha:(p:Rat)*d.am=P.am:=by rw[e,oh,bK (by have:(0:Rat)<=(p:Rat):=Rat.natCast_nonneg;exact this)]
   have hg:=Ao m i
   have j:(2:Rat)<=(p:Rat):=by have e2:(2:Rat)=((2:Nat):Rat):=rfl;rw[e2];exact Rat.natCast_le_natCast.2 hp.1
   have hm:(2:Rat)*d.am<=(p:Rat)*d.am:=Rat.mul_le_mul_of_nonneg_right j gR
   cases k with
   | zero=>exfalso;rw[Rat.pow_zero]at h2;grind
   | succ k =>
    rw[Rat.pow_succ]at h2;obtain⟨r,o,l⟩:=Xw k d i m gR;refine⟨r*(p:Rat)⁻¹,jr o (λh=>jG b (by have:=Rat.mul_inv_cancel _ (jG b);rw[h]at this;grind)),?_⟩
    have e2:c (r*(p:Rat)⁻¹)*P=c r*d:=by
     rw[e,<-lC];have e:c ((p:Rat)⁻¹)*c (p:Rat)=1:=by rw[lC,Rat.inv_mul_cancel _ (jG b)];rfl
     grind
    rw[e2];exact l
  ·refine⟨1,dM,?_⟩;have e:c 1*P=P:=by rw[DJ];grind
   rw[e];exact⟨h1,λp hp h=>hz ⟨p,hp,h⟩⟩
theorem Ul:∀l:List ai,∃D,0<D/\∀t∈l,Dv D t.2
 | []=>⟨1,by omega,λ_ h=>by cases h⟩
 | t::l=>by
  obtain⟨D,d,b⟩:=Ul l
  have j:Dv t.2.den t.2:=⟨t.2.num,by
   have d:(t.2.den:Rat)≠0:=jG t.2.den_pos;have b:=Rat.num_divInt_den t.2;rw[Rat.divInt_eq_div,iN]at b;have i:(t.2.num:Rat)/(t.2.den:Rat)*(t.2.den:Rat)=t.2.num:=Rat.div_mul_cancel d
   rwa[b]at i⟩
  refine⟨t.2.den*D,Nat.mul_pos t.2.den_pos d,λs e=>?_⟩;rcases List.mem_cons.1 e with rfl|e
  ·exact j.dvd (Nat.dvd_mul_right _ _)
  ·exact(b s e).dvd (Nat.dvd_mul_left _ _)
theorem NP(r:Rat):∃k:Nat,r<=(2:Rat)^k:=by
 have j:∀n:Nat,(n:Rat)<=(2:Rat)^n:=λn=>by
  induction n with
  | zero=>rw[Rat.pow_zero];decide
  | succ n o =>
   have b:(1:Rat)<=(2:Rat)^n:=by have:=(zJ (T:=2) dM (Nat.zero_le n)).2;rwa[Rat.pow_zero]at this
   rw[Rat.pow_succ,Rat.natCast_add];have e:((1:Nat):Rat)=1:=rfl;rw[e];grind
 refine⟨r.num.natAbs,Rat.le_trans ?_ (j _)⟩
 have b:r*(r.den:Rat)=r.num:=by have b:(r.den:Rat)≠0:=jG r.den_pos;have d:=Rat.num_divInt_den r;rw[Rat.divInt_eq_div,iN]at d;have h:(r.num:Rat)/(r.den:Rat)*(r.den:Rat)=r.num:=Rat.div_mul_cancel b;rwa[d]at h
 rcases vQ r with hr|hr
 ·have:(0:Rat)<=(r.num.natAbs:Rat):=Rat.natCast_nonneg;grind
 ·have i:(1:Rat)<=(r.den:Rat):=by
   have e:(1:Rat)=((1:Nat):Rat):=rfl;rw[e];exact Rat.natCast_le_natCast.2 r.den_pos
  have l:r*1<=r*(r.den:Rat):=Rat.mul_le_mul_of_nonneg_left i hr;have m:(r.num:Rat)<=(r.num.natAbs:Rat):=by rw[<-iN];exact Rat.intCast_le_intCast.2 oM
  grind
theorem Pj{P:MP}(h:P≠0):∃r:Rat,r≠0/\pz (c r*P):=by obtain⟨D,b,d⟩:=Ul P.l;obtain⟨k,i⟩:=NP (c (D:Rat)*P).am;obtain⟨r,j,hp⟩:=Xw k (c (D:Rat)*P) (mul_ne (vJ (jG b)) h) (qO d) i;refine⟨r*D,jr j (jG b),?_⟩;rw[<-lC];have e:c r*c (D:Rat)*P=c r*(c (D:Rat)*P):=gR;rw[e];exact hp
theorem Ey{F G H:MP}(o:F.dv 1)(m:pz G)(e:F=G*H):H.dv 1:=by
 obtain⟨D,j,d⟩:=Ul H.l
 have key:∀D:Nat,0<D->H.dv D->H.dv 1:=λD=>by
  induction D using Nat.strongRecOn with
  | _ D ih =>
   intro j d;rcases Nat.eq_or_lt_of_le (oM:1<=D)with e1|hlt
   ·rw[<-e1]at d;exact d
   ·obtain⟨p,hp,b,rfl⟩:=YJ D hlt;have k:=hp.1;have i:0<b:=Nat.pos_of_mul_pos_left j
    have hz:Ew p (G*(c ((p*b:Nat):Rat)*H)):=⟨c (b:Rat)*F,jw (Rc ⟨b,by rw[show((1:Nat):Rat)=1 from rfl,Rat.mul_one,iN]⟩) o,by
     rw[e,Rat.natCast_mul,<-lC];grind⟩
    rcases GK hp m.1 (qO d) hz with h|h
    ·exact absurd h (m.2 p hp)
    ·obtain⟨K,q,n⟩:=h
     have:c (b:Rat)*H=K:=cancel (vJ (jG (by omega:0<p))) (by
      rw[<-n,Rat.natCast_mul,<-lC];grind)
     refine ih b ?_ i (Ev i (by rw[this];exact q));have:=Nat.mul_le_mul_right b k;omega
 exact key D j d
def at' (w:Nat) (r:Rat) (p:MP):MP:=⟨yc p.l w r,aY.eval _ _ _⟩
theorem sV(x:Pt)(w:Nat)(r:Rat)(p:MP):(at' w r p).ev x=p.ev (x.put w r):=Q.ev_eval x p.v.nat w r
theorem YK(w:Nat)(r:Rat)(p q:MP):at' w r (p+q)=at' w r p+at' w r q:=ext' λx=>by rw[sV,ev_add,ev_add,sV,sV]
theorem Ez(w:Nat)(r:Rat)(p q:MP):at' w r (p*q)=at' w r p*at' w r q:=ext' λx=>by rw[sV,ev_mul,ev_mul,sV,sV]
theorem YL(w:Nat)(r:Rat)(p q:MP):at' w r (p-q)=at' w r p-at' w r q:=ext' λx=>by rw[sV,ev_sub,ev_sub,sV,sV]
theorem zaH(w:Nat)(r s:Rat):at' w r (c s)=c s:=ext' λx=>by rw[sV,ev_c,ev_c]
theorem Um{w:Nat}(r:Rat){p:MP}(h:p.fr w):at' w r p=p:=ext' λx=>by
 rw[sV];have e:=split w p (N:=1) (by have d:p.deg w<=0:=h;omega);have i:∀y:Pt,p.ev y=(p.co w 0).ev y:=λy=>by rw[DI h]
 show Lf (lw (x.put w r)) p.l=Lf (lw x) p.l;refine iU λt b=>?_;rw[Cb,fr_get h b];have e2:t.1.put w 0=t.1:=by rw[<-fr_get h b,Ex.put_get]
 rw[e2];simp[Rat.pow_zero]
theorem Pm(w:Nat)(r:Rat)(p:MP):(at' w r p).fr w:=Qj _ _ _
theorem IX{w:Nat}(r:Rat)(p:MP){u d:Nat}(j:w<4)(hu:u<4)(h:p.deg u<=d):(at' w r p).deg u<=d:=by
 have:∀t∈(at' w r p).l,t.1.get u<=d:=by
  refine gY (P:=λe=>e.get u<=d) λt b=>?_;obtain⟨s,i,rfl⟩:=List.mem_map.1 b;have m:=fw i u;have k:aH p.l u<=d:=h;by_cases hc:w=u
  ·subst hc;show(s.1.put w 0).get w<=d;rw[Ex.get_put];omega
  ·show(s.1.put w 0).get u<=d;rw[Ex.get_put_ne _ j hu hc];omega
 rcases(iO (λt=>t.1.get u) (at' w r p).l (-1)).2.2 with e|⟨t,b,e⟩
 ·show aH _ u<=_;unfold aH;rw[e];omega
 ·show aH _ u<=_;unfold aH;rw[<-e];exact this t b
theorem ZZ{n:Nat}(j:n<4){p:MP}(h:p.lo (n+1))(r:Rat):(at' n r p).lo n:=λw d b=>by
 rcases Nat.eq_or_lt_of_le d with e|hlt
 ·subst e;exact Pm _ _ _
 ·have i:p.deg w<=(0:Nat):=h w hlt b;exact IX r p j b i
theorem Un{D:Nat}{p:MP}(h:p.dv D)(w:Nat)(i:Int):(at' w (i:Rat) p).dv D:=yU λt e=>by
 obtain⟨s,d,rfl⟩:=List.mem_map.1 e
 have b:Dv 1 ((i:Rat)^(s.1.get w).toNat):=by
  induction (s.1.get w).toNat with
  | zero=>rw[Rat.pow_zero];exact Dv.int 1 1
  | succ n j=>rw[Rat.pow_succ];exact j.mul (Dv.int 1 i)
 have:=(h s d).mul b;rw[nU]at this;exact this
theorem Z0{p:MP}{w d i T:Nat}(hd:p.deg w<=d)(q:i<=T)(m:1<=T):(at' w ((i:Nat):Rat) p).am<=p.am*(T:Rat)^d:=by
 have n:=qN (evalL p.l w (i:Rat));refine Rat.le_trans n ?_
 have o:∀t∈p.l,bO (t.2*(i:Rat)^(t.1.get w).toNat)<=bO t.2*(T:Rat)^d:=λt s=>by
  rw[jB]
  refine pM Rat.le_refl ?_ (fo _) (by
   exact(zJ (T:=(T:Rat)) (qP m) (nL d)).1)
  have r:(t.1.get w).toNat<=d:=by have:=fw s w;have u:aH p.l w<=d:=hd;omega
  have j:∀k:Nat,0<=(i:Rat)^k/\(i:Rat)^k<=(T:Rat)^k:=λk=>by
   induction k with
   | zero=>rw[Rat.pow_zero,Rat.pow_zero];exact⟨dM,Rat.le_refl⟩
   | succ k h =>
    rw[Rat.pow_succ,Rat.pow_succ];have e:(i:Rat)<=(T:Rat):=Rat.natCast_le_natCast.2 q;have b:(0:Rat)<=(i:Rat):=Rat.natCast_nonneg;exact⟨Rat.mul_nonneg h.1 b,pM h.2 e h.1 (Rat.le_trans b e)⟩
  rw[bK (j _).1];exact Rat.le_trans (j _).2 (zJ (T:=(T:Rat)) (qP m) r).2
 exact Hz o
def Lg (w:Nat) (r:Rat):MP:=xk w 1-c r
theorem qf(r:Rat)(w:Nat):(c r).fr w:=by
 by_cases h:r=0
 ·rw[h];exact rz w
 ·exact tV one_ne (DK h) (rR w)
theorem IY(w:Nat)(r:Rat):(Lg w r).deg w=1:=by
 have b:(Lg w r).co w 1=1:=by rw[Lg,co_sub,fU,if_pos rfl,MX (qf r w) oM];grind
 have d:=qC w (xk w 1) (c r);rw[deg_xk]at d;have e:(c r).deg w<=0:=qf r w;rcases Int.lt_or_le ((Lg w r).deg w) 1 with h|h
 ·exfalso;rw[co_above oM]at b;exact one_ne b.symm
 ·have:(Lg w r).deg w<=max ((1:Nat):Int) ((c r).deg w):=d;omega
theorem Uo(w:Nat)(r:Rat):Lg w r≠0:=λh=>by have:=IY w r;rw[h,deg_zero]at this;omega
theorem Uq(x:Pt)(w:Nat)(r:Rat):(Lg w r).ev x=x.get w-r:=by rw[Lg,ev_sub,ev_xk,ev_c,Rat.pow_succ,Rat.pow_zero];grind
theorem Ur(w:Nat)(r:Rat):∀k:Nat,Lg w r∣xk w k-c (r^k)
 | 0=>⟨0,ext' λx=>by rw[ev_sub,ev_xk,ev_c,ev_mul,ev_zero,Rat.pow_zero,Rat.pow_zero];grind⟩
 | k+1=>by obtain⟨q,hq⟩:=Ur w r k;refine⟨xk w 1*q+c (r^k),ext' λx=>?_⟩;have:=congrArg (MP.ev x) hq;simp only[ev_sub,ev_mul,ev_add,ev_xk,ev_c,Uq,Rat.pow_succ,Rat.pow_zero]at *;grind
theorem Us(w:Nat)(r:Rat)(p:MP):Lg w r∣p-at' w r p:=by
 obtain⟨N,q⟩:∃N,N=(p.deg w).toNat+1:=⟨_,rfl⟩;have e:=split w p (N:=N) (by have:=deg_ge w p;omega)
 have b:∀(f:Nat->MP) n,at' w r (dA f n)=dA (λi=>at' w r (f i)) n:=λf n=>by
  induction n with
  | zero=>rfl
  | succ n o=>rw[dA,YK,o];rfl
 have m:∀k,at' w r (xk w k)=c (r^k):=λk=>ext' λx=>by
  rw[sV,ev_xk,ev_c];have:(x.put w r).get w=r:=by rcases w with _|_|_|w<;>rfl
  rw[this]
 have e2:p-at' w r p=dA (λn=>p.co w n*(xk w n-c (r^n))) N:=by
  have j:at' w r p=dA (λn=>p.co w n*c (r^n)) N:=by have d:=congrArg (at' w r) e;rw[b]at d;rw[d];exact dS λi _=>by rw[Ez,Um r (co_fr _ _ _),m]
  rw[j];have h:=NI (dA (λn=>p.co w n*xk w n) N) (dA (λn=>p.co w n*c (r^n)) N);rw[<-e]at h;rw[h,<-JV];have l:p+dA (λi=>-(p.co w i*c (r^i))) N=dA (λn=>p.co w n*xk w n) N+dA (λi=>-(p.co w i*c (r^i))) N:=by rw[<-e]
  rw[l,<-DL];exact dS λi _=>gR
 rw[e2];exact dvd_msum λi _=>dvd_mul_of' (Ur w r i) _
theorem Ut(w:Nat)(r s:Rat):at' w s (Lg w r)=c (s-r):=ext' λx=>by
 rw[sV,Uq,ev_c];have:(x.put w s).get w=s:=by rcases w with _|_|_|w<;>rfl
 rw[this]
theorem YM{w i T:Nat}(h:i<=T):(Lg w ((i:Nat):Rat)).am<=((T+1:Nat):Rat):=by
 have b:=NK (xk w 1) (c ((i:Nat):Rat));rw[Lb,bK Rat.natCast_nonneg]at b;have d:(xk w 1).am=1:=by show bO 1+0=(1:Rat);rw[sU];decide +kernel
 rw[d]at b;have j:((i:Nat):Rat)<=(T:Rat):=Rat.natCast_le_natCast.2 h;have e:((1:Nat):Rat)=1:=rfl;show(xk w 1-c ((i:Nat):Rat)).am<=_;rw[Rat.natCast_add,e];grind
theorem Uu{w T:Nat}{M:Rat}:∀(k:Nat)(M:Rat)(G:MP),0<=M->G.deg w<=k->∀L:List Nat,L.length=k+1->L.Nodup->(∀i∈L,i<=T/\(at' w ((i:Nat):Rat) G).am<=M)->G.am<=((2*T+3:Nat):Rat)^k*M
 | 0,M,G,hM,hd,L,hL,_,h=>by obtain⟨i,rfl⟩:=List.length_eq_one_iff.1 hL;have:=(h i sM).2;rw[Um _ hd]at this;rw[Rat.pow_zero];grind
 | k+1,M,G,hM,hd,L,hL,hn,h=>by
  cases L with
  | nil=>simp at hL
  | cons i L =>
   obtain⟨b,e⟩:=Us w ((i:Nat):Rat) G;have s:=h i sM;have m:=List.nodup_cons.1 hn;have E:G=Lg w ((i:Nat):Rat)*b+at' w ((i:Nat):Rat) G:=gR
   have r:b.deg w<=k:=by
    by_cases y:b=0
    ·rw[y,deg_zero];omega
    ·have d:=qC w G (at' w ((i:Nat):Rat) G);rw[e,deg_mul (Uo _ _) y,IY]at d;have o:(at' w ((i:Nat):Rat) G).deg w<=0:=Pm _ _ _;omega
   have hv:∀j∈L,j<=T/\(at' w ((j:Nat):Rat) b).am<=2*M:=λj B=>by
    have l:=h j (by simp[B]);refine⟨l.1,?_⟩;have d:=congrArg (at' w ((j:Nat):Rat)) e;rw[YL,Ez,Ut,Um _ (Pm w _ G)]at d;have o:=NK (at' w ((j:Nat):Rat) G) (at' w ((i:Nat):Rat) G);rw[d,oh]at o
    have x:(j:Int)-i≠0:=λN=>by have u:j=i:=oM;exact m.1 (by rw[<-u];exact B)
    have n:=rabs_int x
    have C:((((j:Int)-i:Int)):Rat)=((j:Nat):Rat)-((i:Nat):Rat):=by rw[Rat.intCast_sub,iN,iN]
    rw[C]at n;have z:=am_nonneg (at' w ((j:Nat):Rat) b);have F:1*(at' w ((j:Nat):Rat) b).am<=bO (((j:Nat):Rat)-((i:Nat):Rat))*(at' w ((j:Nat):Rat) b).am:=Rat.mul_le_mul_of_nonneg_right n z;have H:=s.2;have J:=l.2;grind
   have I:=Uu (w:=w) (T:=T) (M:=M) k (2*M) b gR r L (by simpa using hL) m.2 hv;obtain⟨P,p⟩:∃P,P=((2*T+3:Nat):Rat)^k:=⟨_,rfl⟩
   have q:1<=P:=by have:=(zJ (T:=((2*T+3:Nat):Rat)) (qP oM) (Nat.zero_le k)).2;rw[Rat.pow_zero]at this;rw[p];exact this
   have d:=NJ (Lg w ((i:Nat):Rat)*b) (at' w ((i:Nat):Rat) G);rw[<-E]at d;have o:=Es (Lg w ((i:Nat):Rat)) b;have n:=YM (w:=w) s.1;have z:=am_nonneg b;have F:(Lg w ((i:Nat):Rat)).am*b.am<=((T+1:Nat):Rat)*(P*(2*M)):=pM n (by rw[p];exact I) (am_nonneg _) (Rat.mul_nonneg gR gR);have H:=s.2;rw[Rat.pow_succ,<-p]
   have D:((2*T+3:Nat):Rat)=2*((T+1:Nat):Rat)+1:=by have:2*T+3=2*(T+1)+1:=oM;rw[this,Rat.natCast_add,Rat.natCast_mul];rfl
   rw[D];have K:M<=P*M:=by have:=Rat.mul_le_mul_of_nonneg_right q hM;grind
   grind
theorem Lh{w:Nat}:∀(L:List Nat)(F:MP),F≠0->L.Nodup->(∀i∈L,at' w ((i:Nat):Rat) F=0)->(L.length:Int)<=F.deg w
 | [],F,h0,_,_=>by have:=deg_pos h0 w;simpa using this
 | i::L,F,h0,hn,h=>by
  have b:=List.nodup_cons.1 hn;obtain⟨k,e⟩:=Us w ((i:Nat):Rat) F;rw[h i sM]at e;have e:F=Lg w ((i:Nat):Rat)*k:=gR;have d:k≠0:=λd=>h0 (by rw[e,d];grind)
  have o:=Lh L k d b.2 λj n=>by
   have m:=h j (by simp[n]);rw[e,Ez,Ut]at m;rcases mul_eq_zero.1 m with h3|h3
   ·exfalso;by_cases l:((j:Nat):Rat)-((i:Nat):Rat)=0
    ·have:((j:Nat):Rat)=((i:Nat):Rat):=gR;exact b.1 (by rw[<-Rat.natCast_inj.1 this];exact n)
    ·exact vJ l h3
   ·exact h3
  rw[e,deg_mul (Uo _ _) d,IY];simp only[List.length_cons];omega
instance:DecidableEq MP:=λp q=>decidable_of_iff (p.l=q.l) ⟨MP.eq_of,λh=>by rw[h]⟩
theorem Rf{a b:Rat}(h:a=b):a<=b:=by rw[h];exact Rat.le_refl
def vK (d:Nat->Nat):Nat->Nat
 | 0=>1
 | n+1=>(4*d n+3)^d n*(2*d n+1)^d n*vK d n
theorem NQ{α:Type}(p:α->Bool)(l:List α):(l.filter p).length+(l.filter λx=>!p x).length=l.length:=by
 induction l with
 | nil=>rfl
 | cons x l b=>cases h:p x<;>simp[List.filter_cons,h]<;>omega
theorem fac(d:Nat->Nat):∀(n:Nat),n<=4->∀F G H:MP,F=G*H->F≠0->G.dv 1->H.dv 1->F.lo n->(∀w,w<n->F.deg w<=d w)->G.am<=(vK d n:Rat)*F.am
 | 0,_,F,G,H,e,h0,iG,iH,lF,_=>by have C:=jW h0 (by rw[e];exact dvd_mul_right _ _) lF;have D:=jW h0 (by rw[e];exact dvd_mul_left _ _) lF;obtain⟨g,rfl⟩:=oH C;obtain⟨h,rfl⟩:=oH D;have B:c h≠0:=λu=>h0 (by rw[e,u];grind);have m:=Ao iH B;rw[e,oh,Lb,show((vK d 0:Nat):Rat)=1 from rfl];have:=Rat.mul_le_mul_of_nonneg_left m (fo g);grind
 | n+1,hn,F,G,H,e,h0,iG,iH,lF,hd=>by
  obtain⟨L,hL⟩:∃L:List Nat,L=(List.range (2*d n+1)).filter (λi=>decide (at' n ((i:Nat):Rat) F≠0)):=⟨_,rfl⟩
  have hz:=Lh (w:=n) ((List.range (2*d n+1)).filter (λi=>!decide (at' n ((i:Nat):Rat) F≠0))) F h0 (List.nodup_range.sublist List.filter_sublist) λi b=>by have:=(List.mem_filter.1 b).2;simpa using this
  have k:=NQ (λi:Nat=>decide (at' n ((i:Nat):Rat) F≠0)) (List.range (2*d n+1));rw[List.length_range,<-hL]at k;have j:=hd n oM;have q:L.Nodup:=by rw[hL];exact List.nodup_range.sublist List.filter_sublist
  have r:(1:Nat)<=2*d n+1:=oM;have y:G≠0:=λh=>h0 (by rw[e,h];grind);have p:G.deg n<=d n:=Int.le_trans (dvd_deg h0 (by rw[e];exact dvd_mul_right _ _) n) j
  have l:∀i∈L,i<=2*d n/\(at' n ((i:Nat):Rat) G).am<=(vK d n:Rat)*(F.am*((2*d n+1:Nat):Rat)^d n):=λi b=>by rw[hL]at b;obtain⟨m,o⟩:=List.mem_filter.1 b;have m:=List.mem_range.1 m;have o:at' n ((i:Nat):Rat) F≠0:=of_decide_eq_true o;refine⟨oM,?_⟩;have x:=fac d n oM _ _ _ (by rw[<-Ez,<-e]:at' n ((i:Nat):Rat) F=at' n ((i:Nat):Rat) G*at' n ((i:Nat):Rat) H) o (by rw[<-iN];exact Un iG n _) (by rw[<-iN];exact Un iH n _) (ZZ oM lF _) λw E=>IX _ F oM oM (hd w oM);exact Rat.le_trans x (Rat.mul_le_mul_of_nonneg_left (Z0 j oM r) Rat.natCast_nonneg)
  have z:0<=(vK d n:Rat)*(F.am*((2*d n+1:Nat):Rat)^d n):=Rat.mul_nonneg Rat.natCast_nonneg (Rat.mul_nonneg (am_nonneg F) (zJ (T:=((2*d n+1:Nat):Rat)) (qP r) (nL _)).1);have:=Uu (w:=n) (T:=2*d n) (M:=0) (d n) _ G z p (L.take (d n+1)) (by rw[List.length_take];omega) (q.sublist (List.take_sublist _ _)) λi b=>l i (List.mem_of_mem_take b);refine Rat.le_trans this ?_;rw[vK,Rat.natCast_mul,Rat.natCast_mul,Rat.natCast_pow,Rat.natCast_pow];have s:2*(2*d n)+3=4*d n+3:=oM;rw[s];refine Rf ?_;grind
end MP
end Q
end
section
namespace Q
open Go Go.Proofs.YtopclbeomcggiaaGreat
def Yd (f:Ex->Nat):List ai->Nat
 | []=>0
 | t::l=>f t.1+Yd f l
theorem qN(l:List ai):bL (canon l)<=bL l:=by
 have h:∀(l r:List ai),bL (l.foldl ins r)<=bL r+bL l:=λl=>by
  induction l with
  | nil=>intro r;simp only[List.foldl_nil,bL];grind
  | cons m l b=>intro r;have:=b (ins r m);have:=CK r m;simp only[List.foldl_cons,bL];grind
 have:=h l [];simp only[bL]at this;unfold canon;grind
theorem Rh(l:List ai)(q:ai):prods l [q]=l.map λs=>mulT s q:=by
 induction l with
 | nil=>rfl
 | cons s l b=>rw[kI,b];rfl
theorem Uv(p:List ai)(c:Rat)(e:Ex):cf (bY p c) e=cf p e*c:=by
 unfold bY;split
 ·rename_i h;rw[jL,h];grind
 ·unfold cf;rw[wZ _ _ (λb=>c*(if b=e then 1 else 0)) p (λt _=>gR),jK];grind
def YN (a ts:List ai) (q:ai):List ai:=a++ts.map λt=>(t.1.add q.1,-(t.2*q.2))
theorem YO{m g:ai}{a ts:List ai}(hm:m.1.nat=true)(hz:g.2≠0):dL (m::a) (aO (g::ts) [ik m g])=canon (YN a ts (ik m g)):=by
 unfold dL mP;refine AV λe he=>?_;rw[qi,Uv,aO,ou,if_pos he,Rh,List.map_cons,bR,bR,YN,qi]
 have b:(mulT g (ik m g)).1=m.1:=by simp only[mulT,ik,Ex.add,Ex.sub];refine Ex.ext' ?_ ?_ ?_ ?_<;>simp only<;>omega
 have d:(mulT g (ik m g)).2=m.2:=by simp only[mulT,ik];rw[Rat.mul_comm];exact Rat.div_mul_cancel hz
 have h:cf (ts.map λt=>(t.1.add (ik m g).1,-(t.2*(ik m g).2))) e=- cf (ts.map λs=>mulT s (ik m g)) e:=by
  induction ts with
  | nil=>simp only[List.map_nil,jL];grind
  | cons t ts i=>rw[List.map_cons,List.map_cons,bR,bR,i];simp only[mulT];grind
 rw[b,d,h];grind
structure Hgt (h:Ex->Nat) (g:Ex) (ts:List ai):Prop where
 one:∀m:Ex,m.nat=true->(m.sub g).nat=true->1<=h m
 dec:∀m:Ex,m.nat=true->(m.sub g).nat=true->∀t∈ts,h (t.1.add (m.sub g))+1<=h m
def hf (h:Ex->Nat) (e:Ex):Nat:=2^(h e+1)-1
structure Jn (h:Ex->Nat) (H G:Nat) (e:Ex) (c:Rat):Prop where
 b:h e<=H
 x:e.1<=2+2*((H-h e:Nat):Int)/\e.2.1<=2+2*((H-h e:Nat):Int)/\e.2.2.1<=2+2*((H-h e:Nat):Int)/\e.2.2.2<=2+2*((H-h e:Nat):Int)
 d:Dv (G^(H-h e)) c
end Q
end
