/- The integer package of the program: Mul. -/
import Derived.Test.YtopclbeomcggiaaGreatW09
import Derived.Deep.Cut
set_option linter.unusedVariables false
set_option linter.unusedSimpArgs false
set_option maxHeartbeats 16000000
set_option maxRecDepth 100000
section
namespace Go.Proofs.YtopclbeomcggiaaGreat
open Go.RowKit Q
theorem lw(b:List Int)(j:Nat)(v:Int)(h:j<b.length):ah (b.set j v)=ah b+bv^j*(v-b.getD j 0):=by
 induction b generalizing j with
 | nil=>simp at h
 | cons x b d =>
  cases j with
  | zero=>simp[ah];omega
  | succ j =>
   have:=d j (by simpa using h);simp only[List.set_cons_succ,ah,this,Int.pow_succ,List.getD_cons_succ];grind
theorem dX(l:List Int)(i j:Nat)(x:Int)(h:i≠j):(l.set i x).getD j 0=l.getD j 0:=by simp[List.getD_eq_getElem?_getD,List.getElem?_set_ne h]
def rH (A B:List Int) (i:Nat) (xs:List Int):Prop :=
 xs.length=A.length+B.length/\aG xs/\ah xs=ah (A.take i)*ah B/\∀j,i+B.length<=j->xs.getD j 0=0
def BJ (A B:List Int) (i k:Nat) (xs:List Int) (c:Int):Prop :=
 xs.length=A.length+B.length/\aG xs/\0<=c/\c<4294967296/\ah xs+bv^(i+k)*c=ah (A.take i)*ah B+bv^i*(A.getD i 0*ah (B.take k))/\∀j,i+B.length<=j->xs.getD j 0=0
theorem rH.start(A B:List Int):rH A B 0 (List.replicate (A.length+B.length) 0) :=
 ⟨sM,jl _,by simp[ah,mO],λj _=>by
  rw[List.getD_eq_getElem?_getD,List.getElem?_replicate];split<;>rfl⟩
theorem rH.inner{A B:List Int}{i:Nat}{b:List Int}(h:rH A B i b):BJ A B i 0 b 0 :=
 ⟨h.1,h.2.1,oM,oM,by rw[h.2.2.1];simp[ah],h.2.2.2⟩
theorem BJ.step{A B:List Int}{i k:Nat}{b:List Int}{c:Int}(h:BJ A B i k b c)(u:aG A)(LB:aG B)(D:i<A.length)(G:k<B.length) :
  BJ A B i (k+1) (b.set (i+k) ((c+(A.getD i 0*B.getD k 0+b.getD (i+k) 0))%4294967296)) ((c+(A.getD i 0*B.getD k 0+b.getD (i+k) 0))/4294967296):=by
 obtain⟨p,l,E,F,C,s⟩:=h;have n:=u.getD i;have m:=LB.getD k;have o:=l.getD (i+k);rw[aP]at n m o;have hp:=prod_bound (A.getD i 0) (B.getD k 0) n.1 oM m.1 oM;refine⟨by simpa using p,fU l _ (by rw[aP];omega),oM,oM,?_,λj y=>by rw[dX _ _ _ _ oM];exact s j y⟩;rw[lw _ _ _ oM,aI];have e:=Int.mul_ediv_add_emod (c+(A.getD i 0*B.getD k 0+b.getD (i+k) 0)) 4294967296;generalize(c+(A.getD i 0*B.getD k 0+b.getD (i+k) 0))%4294967296=r at *;generalize(c+(A.getD i 0*B.getD k 0+b.getD (i+k) 0))/4294967296=q at *;rw[<-aP]at e;have x:bv^(i+(k+1))=bv^(i+k)*bv:=by rw[<-Nat.add_assoc,Int.pow_succ]
 have z:bv^(i+k)=bv^i*bv^k:=Int.pow_add ..;rw[x];have:bv^(i+k)*(c+(A.getD i 0*B.getD k 0+b.getD (i+k) 0))=bv^(i+k)*(bv*q+r):=by rw[e]
 have d:ah b=ah (A.take i)*ah B+bv^i*(A.getD i 0*ah (B.take k))-bv^(i+k)*c:=oM;rw[d];rw[z]at *;generalize bv^i=P at *;generalize bv^k=R at *;grind
theorem BJ.done{A B:List Int}{i:Nat}{b:List Int}{c:Int}(h:BJ A B i B.length b c)(m:i<A.length):rH A B (i+1) (b.set (i+B.length) c):=by obtain⟨k,e,n,o,l,d⟩:=h;refine⟨by simpa using k,fU e _ (by rw[aP];omega),?_,λj p=>by rw[dX _ _ _ _ oM];exact d j oM⟩;rw[lw _ _ _ oM,d _ (Nat.le_refl _),aI];rw[List.take_of_length_le (Nat.le_refl _)]at l;grind
theorem rH.done{A B:List Int}{b:List Int}(h:rH A B A.length b):ah b=ah A*ah B:=by rw[h.2.2.1,List.take_of_length_le (Nat.le_refl _)]
theorem Qc(n1 n2:Bool)(ao1 ao2:Option Addr)(cap1 cap2:Nat)(A B:List Int)(w:World)(bA:A.length<=34359738368)(bB:B.length<=34359738368)(I:aG A)(LB:aG B)(mA:At uT w ao1 (uc A))(mB:At uT w ao2 (uc B)) :
  Calls Tryz.prog 111 #[.agg #[.bool n1,.slice ao1 A.length cap1],.agg #[.bool n2,.slice ao2 B.length cap2]] w (kV w (fZ (n1 != n2) (ah A*ah B))):=by
 go_enter Tryz.func111,Tryz.ntmps111
 go_upto_region 1 with (fail)
 refine rG λW hb0 B1 B2 B3 a5=>?_;have c1:=B1.at1 1 _ rfl;have c2:=B2.at1 1 _ rfl
 go_wp2_with (at_make;refine bL rfl _ _ _ rfl _ (.int .u32 0) 1 4 Tryz.underlying37 bD rfl rfl .i64 .i64 _ _ (A.length+B.length) rfl rfl oM oM oM oM ?_;intro w1 own1 gr1;have c3:=(B1.keep gr1 B1.lt).at1 1 _ rfl)
 rw[iM]at own1;clear c1 c2 c3
 go_loopw [22] (λi wr=>∃(k:Nat)(j:List Int),k<=A.length/\i=.int .i64 k/\Hid (rH A B k j)/\Hid (Blk wr W.heap.size uT (uc j))/\Below W.heap.size W wr) (λi _=>A.length-(intOf i).toNat)
 case atStart=>exact⟨0,_,Nat.zero_le _,rfl,zH (rH.start A B),zH own1,gr1⟩
 case round =>
  obtain⟨i,j,F,rfl,hinv,b,hb⟩:=hrel;have d2:=(B2.keep hb B2.lt).at1 1 _ rfl;by_cases l:i<A.length
  ·obtain⟨p1,o1,e1,r⟩:=mA (by rw[dG];omega);have n:=((r.on hb0).keep hb (r.on hb0).lt).ucell i l;have E1:=zH e1;have a1:=(I.getD i).1;have L:A.getD i 0<4294967296:=(I.getD i).2;have X:Hid (∃x,x=A.getD i 0):=⟨_,rfl⟩;obtain⟨x,D⟩:=X.out;rw[<-D]at n a1 L;replace D:=zH D;clear e1 r X
   go_wp2_with (refine aj rfl (.tmp 20) (.tmp 22) _ rfl _ Tryz.underlying37 _ _ _ bD _ _ _ rfl _ _ rfl i rfl l p1 o1 E1.out ?_;rw[Nat.mul_one])
   obtain⟨wo,rfl⟩:∃wo:World,wo=wr:=⟨_,rfl⟩
   go_loopw [8,30] (λc q wr=>∃(k:Nat)(j:List Int)(G:Int),k<=B.length/\q=.int .i64 k/\c=.int .u64 G/\Hid (BJ A B i k j G)/\Hid (Blk wr W.heap.size uT (uc j))/\Below W.heap.size W wr) (λ_ q _=>B.length-(intOf q).toNat)
   case atStart=>exact⟨0,j,0,Nat.zero_le _,rfl,rfl,zH hinv.out.inner,b,hb⟩
   case round =>
    clear hinv b d2 n hb;obtain⟨k,N,G,hk,rfl,rfl,d,b,hb⟩:=hrel;have q1:=d.out.2.2.1;have q2:=d.out.2.2.2.1;have Z:=zH d.out.1;by_cases p:k<B.length
    ·obtain⟨p2,o2,e2,o⟩:=mB (by rw[dG];omega);have Y:=((o.on hb0).keep hb (o.on hb0).lt).ucell k p;have E2:=zH e2;have J:=b.out.ucell (i+k) (by have:=Z.out;omega);have M:=b.out.frozen (i+k);have a2:=(LB.getD k).1;have a4:B.getD k 0<4294967296:=(LB.getD k).2;have a3:=(d.out.2.1.getD (i+k)).1;have a0:N.getD (i+k) 0<4294967296:=(d.out.2.1.getD (i+k)).2;have C:=zH (d.out.step I LB l p);rw[<-D.out]at C;generalize B.getD k 0=y at *;generalize N.getD (i+k) 0=z at *;obtain⟨hp0,hp1⟩:=prod_bound x y a1 oM a2 oM;clear e2 o
     go_wp2_with (refine aj rfl (.tmp 28) (.tmp 30) _ rfl _ Tryz.underlying37 _ _ _ bD _ _ _ rfl _ _ rfl k rfl p p2 o2 E2.out ?_;rw[Nat.mul_one])
     go_roundw
     case rel=>exact⟨k+1,_,_,oM,nM,rfl,C,zH (b.out.uset (i+k) _),hb.setCell (Nat.le_refl _) _⟩
     case measure=>simp[intOf];omega
    ·obtain rfl:k=B.length:=oM;have d2:=(B2.keep hb B2.lt).at1 1 _ rfl;have J:=b.out.ucell (i+B.length) (by have:=Z.out;omega);have M:=b.out.frozen (i+B.length);have HD:=zH (d.out.done l);generalize N.getD (i+B.length) 0=z at *;go_wp2;go_roundw
     case rel=>exact⟨i+1,_,oM,nM,HD,zH (by have:=b.out.uset (i+B.length) G;exact this),hb.setCell (Nat.le_refl _) _⟩
     case measure=>simp[intOf];omega
  ·obtain rfl:i=A.length:=oM;have d1:=(B1.keep hb B1.lt).at1 0 _ rfl;have a6:=(B2.keep hb B2.lt).at1 0 _ rfl
   have hu:cO wr (.slice (some ⟨W.heap.size,0,none⟩) (A.length+B.length) (A.length+B.length)) j:=by have:=b.out.u32s hinv.out.2.1;rw[hinv.out.1]at this;exact this
   have HV:=zH hinv.out.done;have S:j.length<=137438953472:=by rw[hinv.out.1];omega
   have u:=hb0.trans (hb.mono hb0.size);have s:=B3.keep hb B3.lt;clear hinv b
   go_wp2_with fail
   refine(lv (n1 != n2) _ j _ hu S).mono ?_;rintro e w2 ⟨neg,m,rfl,F,hb2⟩;rw[HV.out]at F
   go_wp2_with (refine az rfl _ (.tmp 4) (.tmp 76) rfl _ _ _ _ rfl rfl (s.on hb2) rfl aK F.ones ?_;intro w3 R gr)
   exact dH rfl rfl rfl R Tryz.underlying39 rfl aK (jb u hb2 oM (s.on hb2) F gr)
theorem Mw(n1 n2:Bool)(x y:Int):fZ (n1 != n2) (x*y)=fZ n1 x*fZ n2 y:=by cases n1<;>cases n2<;>simp[fZ]<;>grind
theorem MB(n1 n2:Bool)(m1 h:Value)(j k:Int)(w:World)(r:aZ w n1 m1 j)(o:aZ w n2 h k)(c1:aF j.natAbs<=ji)(c2:aF k.natAbs<=ji) :
  Calls Tryz.prog 111 #[.agg #[.bool n1,m1],.agg #[.bool n2,h]] w (kV w (j*k)):=by
 obtain⟨m,i,b,rfl,⟨_,_,e,_,u,m1⟩,b1,_,e1⟩:=gz r c1;obtain⟨l2,l,d,rfl,⟨_,_,p,_,n,h⟩,q,_,s⟩:=gz o c2;cases e;cases p;rw[e1,s,<-Mw];exact Qc n1 n2 i l b d m l2 w b1 q u n m1 h
end Go.Proofs.YtopclbeomcggiaaGreat
end
section
namespace Q
open Go.Proofs.YtopclbeomcggiaaGreat
def wV (A:List Int) (P:Int) (i:Nat) (xs:List Int):Prop :=
 xs.length=A.length+1/\aG xs/\ah xs=ah (A.take i)*P/\(∀j,i<j->xs.getD j 0=0)/\xs.getD i 0<P
theorem wV.start(A:List Int){P:Int}(b:0<P):wV A P 0 (List.replicate (A.length+1) 0):=by
 have hz:∀j,(List.replicate (A.length+1) (0:Int)).getD j 0=0:=λj=>by rw[List.getD_eq_getElem?_getD,List.getElem?_replicate];split<;>rfl
 exact⟨sM,jl _,by simp[ah,mO],λj _=>hz j,by rw[hz];exact b⟩
theorem wV.step{A:List Int}{P R:Int}{i:Nat}{l:List Int}(h:wV A P i l)(G:aG A)(C:i<A.length)(M:0<P)(W:0<R)(d:P*R=4294967296) :
  let x:=A.getD i 0
  0<=x*P/\x*P<18446744073709551616/\l.getD i 0+x*P%4294967296<4294967296/\0<=l.getD i 0/\P∣x*P%4294967296/\l.getD (i+1) 0=0/\x*P/4294967296<P/\0<=x*P/4294967296 /\
  wV A P (i+1) ((l.set i (l.getD i 0+x*P%4294967296)).set (i+1) (x*P/4294967296)):=by
 intro x;obtain⟨E,s,K,D,F⟩:=h;have r:=G.getD i;have q:=s.getD i;rw[aP]at r q;obtain⟨y,z⟩:∃y,y=l.getD i 0:=⟨_,rfl⟩;rw[<-z]at F q ⊢;have B:x=A.getD i 0:=rfl;rw[<-B]at r;have m:0<=x*P:=Int.mul_nonneg r.1 oM
 have u:P<=4294967296:=by have:P*1<=P*R:=Int.mul_le_mul_of_nonneg_left oM oM;omega
 have S:x*P<=4294967295*P:=Int.mul_le_mul_of_nonneg_right oM oM
 have o:P∣x*P%4294967296:=by rw[<-d];refine⟨x%R,?_⟩;rw[Int.mul_comm x P,Int.mul_emod_mul_of_pos _ _ M]
 have J:x*P%4294967296<=4294967296-P:=by
  obtain⟨k,N⟩:=o;have b:x*P%4294967296<4294967296:=Int.emod_lt_of_pos _ oM;rw[N]at b ⊢
  have I:k<R:=by rw[<-d]at b;exact Int.lt_of_mul_lt_mul_left b oM
  have:P*(k+1)<=P*R:=Int.mul_le_mul_of_nonneg_left oM oM;rw[d,Int.mul_add]at this;omega
 have p:x*P/4294967296<P:=by apply Int.ediv_lt_of_lt_mul oM;have:4294967295*P<P*4294967296:=oM;omega
 have n:0<=x*P/4294967296:=Int.ediv_nonneg m oM;have hz:=D (i+1) oM;have O:0<=x*P%4294967296:=Int.emod_nonneg _ oM;refine⟨m,oM,oM,q.1,o,hz,p,n,by simpa using E,fU (fU s _ (by rw[aP];omega)) _ (by rw[aP];omega),?_,λj X=>?_,?_⟩
 ·rw[lw _ _ _ (by simp;omega),lw _ _ _ oM,aI,K,dX _ _ _ _ oM,hz,<-B,<-z];have e:=Int.mul_ediv_add_emod (x*P) 4294967296;generalize x*P%4294967296=lo at *;generalize x*P/4294967296=C at *;have H:bv^(i+1)=bv^i*4294967296:=by rw[Int.pow_succ,aP]
  rw[H];generalize bv^i=Q at *;generalize ah (A.take i)=L at *;have:Q*(x*P)=Q*(4294967296*C+lo):=by rw[e]
  grind
 ·rw[dX _ _ _ _ oM,dX _ _ _ _ oM];exact D j oM
 ·rw[qx _ _ _ (by simp;omega)];exact p
theorem wV.done{A:List Int}{P:Int}{b:List Int}(h:wV A P A.length b):ah b=ah A*P:=by rw[h.2.2.1,List.take_of_length_le (Nat.le_refl _)]
theorem U8{P Wl W Vl V u0 u1 u2 v1 v2:Int}(e:0<P)(x:W=Wl+P*(u2+4294967296*(u0*4294967296+u1)))(s:Wl<P)(o:V=Vl+P*(v2+4294967296*v1))(d:0<=Vl)(r:1<=v1)(m:0<=v2)(q:u2<4294967296)(u:0<=W):W/V<=(u0*4294967296+u1)/v1:=by
 have b:0<V:=by have n:=Int.mul_le_mul_of_nonneg_left (oM:(1:Int)<=v2+4294967296*v1) (Int.le_of_lt e);rw[o];omega
 obtain⟨Q,j⟩:∃Q,Q=W/V:=⟨_,rfl⟩;have i:0<=Q:=by rw[j];exact Int.ediv_nonneg u (Int.le_of_lt b)
 have l:Q*V<=W:=by rw[j];exact Int.ediv_mul_le W oM
 rw[<-j];apply Int.le_ediv_of_mul_le oM;generalize u0*4294967296+u1=t at *
 -- Q v1 β P<=Q V<=W<P β (t+1)
 have n:P*(Q*(4294967296*v1))<=Q*V:=by
  have h:V-P*(4294967296*v1)=Vl+P*v2:=by rw[o];grind
  have p:0<=Q*(Vl+P*v2):=Int.mul_nonneg i (Int.add_nonneg d (Int.mul_nonneg (Int.le_of_lt e) m));have k:Q*V-P*(Q*(4294967296*v1))=Q*(V-P*(4294967296*v1)):=gR;rw[h]at k;omega
 have h:W<P*(4294967296*(t+1)):=by have p:P*(u2+4294967296*t+1)<=P*(4294967296*(t+1)):=Int.mul_le_mul_of_nonneg_left oM (Int.le_of_lt e);have k:P*(u2+4294967296*t+1)=P*(u2+4294967296*t)+P:=gR;omega
 have p:=Int.lt_of_mul_lt_mul_left (Int.lt_of_le_of_lt (Int.le_trans n l) h) (Int.le_of_lt e);have k:Q*(4294967296*v1)=4294967296*(Q*v1):=gR;omega
theorem U9{P Wl W Vl V t u2 v1 v2 g r:Int}(s:0<P)(z:W=Wl+P*(u2+4294967296*t))(q:Wl<P)(o:V=Vl+P*(v2+4294967296*v1))(d:0<=Vl)(b:0<V)(k:W<4294967296*V)(x:0<=W)(j:0<=g)
  (n:t=g*v1+r) (u:W/V<=g) (hc:4294967295<g\/r*4294967296+u2<g*v2):W/V<=g-1:=by
 have i:W/V*V<=W:=Int.ediv_mul_le W oM;rcases hc with hc|hc
 ·have m:W/V<4294967296:=Int.ediv_lt_of_lt_mul b k;omega
 ·rcases Int.lt_or_le (W/V) g with h|h
  ·omega
  ·exfalso;have e:W/V=g:=oM;rw[e]at i
   have m:P*(g*(v2+4294967296*v1))<=g*V:=by
    have l:g*V-P*(g*(v2+4294967296*v1))=g*Vl:=by rw[o];grind
    have:=Int.mul_nonneg j d;omega
   have l:W<P*(u2+4294967296*t+1):=by have:P*(u2+4294967296*t+1)=P*(u2+4294967296*t)+P:=gR;omega
   have p:=Int.lt_of_mul_lt_mul_left (Int.lt_of_le_of_lt (Int.le_trans m i) l) (Int.le_of_lt s);have y:g*(v2+4294967296*v1)=g*v2+4294967296*(g*v1):=gR;rw[n]at p;omega
theorem WA{P Wl W Vl V t u2 v1 v2:Int}(d:0<P)(u:W=Wl+P*(u2+4294967296*t))(e:0<=Wl)(b:0<=u2)(q:V=Vl+P*(v2+4294967296*v1))(h:Vl<P)(k:v2<4294967296)(j:W<4294967296*V):t<4294967296*(v1+1):=by
 have m:P*(4294967296*t)<=W:=by have l:=Int.mul_nonneg (Int.le_of_lt d) b;have r:P*(u2+4294967296*t)=P*u2+P*(4294967296*t):=gR;omega
 have s:V<P*(4294967296*(v1+1)):=by have n:=Int.mul_le_mul_of_nonneg_left (oM:v2+4294967296*v1+1<=4294967296*(v1+1)) (Int.le_of_lt d);have p:P*(v2+4294967296*v1+1)=P*(v2+4294967296*v1)+P:=gR;omega
 have i:P*(4294967296*t)<P*(4294967296*(4294967296*(v1+1))):=by have o:P*(4294967296*(4294967296*(v1+1)))=4294967296*(P*(4294967296*(v1+1))):=gR;omega
 have:=Int.lt_of_mul_lt_mul_left i (Int.le_of_lt d);omega
theorem Va{P Wl W Vl V t u2 v1 v2 g r:Int}(h:0<P)(x:W=Wl+P*(u2+4294967296*t))(e:0<=Wl)(l:V=Vl+P*(v2+4294967296*v1))(b:0<=Vl)(k:Vl<P)(m:1<=v1)(p:0<=v2)(i:0<=g)(hg:g<=4294967295)
  (j:t=g*v1+r) (hc:g*v2<=r*4294967296+u2):g-1<=W/V:=by
 have o:P*4294967296<=V:=by have:=Int.mul_le_mul_of_nonneg_left (oM:(4294967296:Int)<=v2+4294967296*v1) (Int.le_of_lt h);omega
 apply Int.le_ediv_of_mul_le oM
 have q:P*(g*(v2+4294967296*v1))<=W:=by
  have d:g*(v2+4294967296*v1)<=u2+4294967296*t:=by have n:g*(v2+4294967296*v1)=g*v2+4294967296*(g*v1):=gR;rw[j];omega
  have:=Int.mul_le_mul_of_nonneg_left d (Int.le_of_lt h);omega
 have d:g*V=g*Vl+P*(g*(v2+4294967296*v1)):=by rw[l];grind
 have u:g*Vl<=4294967296*P:=by have s:g*Vl<=4294967295*Vl:=Int.mul_le_mul_of_nonneg_right hg b;omega
 have n:(g-1)*V=g*V-V:=gR;omega
def tQ (U V:List Int) (i:Nat) (g:Int) (j:Nat) (us:List Int) (c b:Int):Prop :=
 us.length=U.length/\aG us/\0<=c/\c<4294967296/\0<=b/\b<=1/\us.take i=U.take i/\(∀t,i+j<=t->us.getD t 0=U.getD t 0) /\
 ah us+bv^i*(g*ah (V.take j))=ah U+bv^(i+j)*(c+b)
theorem tQ.start{U V:List Int}{i:Nat}{g:Int}(h:aG U):tQ U V i g 0 U 0 0 :=
 ⟨rfl,h,oM,oM,oM,oM,rfl,λ_ _=>rfl,by simp[ah]⟩
theorem lK(l:List Int){i j:Nat}(h:i<=j)(x:Int):(l.set j x).take i=l.take i:=List.take_set_of_le h
theorem tQ.step{U V:List Int}{i:Nat}{g:Int}{j:Nat}{e:List Int}{c b:Int}(h:tQ U V i g j e c b)(N:aG V)(m:0<=g)(hg:g<=4294967295)(X:i+j<U.length) :
  let c1:=c+g*V.getD j 0
  let d:=e.getD (i+j) 0-c1%4294967296-b
  0<=c1/\c1<18446744073709551616/\-4294967296<=d/\d<4294967296/\tQ U V i g (j+1) (e.set (i+j) (d%4294967296)) (c1/4294967296) (if d<0 then 1 else 0):=by
 intro c1 d;obtain⟨E,r,h3,h4,S,W,G,H,h9⟩:=h;have k:=N.getD j;have z:=r.getD (i+j);rw[aP]at k z;obtain⟨y,C⟩:∃y,y=V.getD j 0:=⟨_,rfl⟩;obtain⟨u,hu⟩:∃u,u=e.getD (i+j) 0:=⟨_,rfl⟩;have p:c1=c+g*V.getD j 0:=rfl;have hd:d=e.getD (i+j) 0 - c1%4294967296 - b:=rfl;rw[<-C]at k p;rw[<-hu]at z hd;have Z:0<=g*y:=Int.mul_nonneg m k.1
 have p1:g*y<=4294967295*4294967295:=by have a:=Int.mul_le_mul_of_nonneg_right hg k.1;have b:=Int.mul_le_mul_of_nonneg_left (oM:y<=4294967295) (oM:(0:Int)<=4294967295);omega
 have o:0<=c1/4294967296:=Int.ediv_nonneg oM oM;have n:c1/4294967296<4294967296:=Int.ediv_lt_of_lt_mul oM oM;have e1:=Int.mul_ediv_add_emod c1 4294967296;have F:=Int.emod_nonneg c1 (oM:(4294967296:Int)≠0);have K:=Int.emod_lt_of_pos c1 (oM:(0:Int)<4294967296);generalize c1/4294967296=q at *;generalize c1%4294967296=lo at *;have D:=Int.emod_nonneg d (oM:(4294967296:Int)≠0);have x:=Int.emod_lt_of_pos d (oM:(0:Int)<4294967296)
 have M:d%4294967296=d+(if d<0 then 4294967296 else 0):=by split<;>omega
 refine⟨oM,oM,oM,oM,by simpa using E,fU r _ (by rw[aP];omega),o,n,by split<;>omega,by split<;>omega,by rw[lK _ oM];exact G,λt O=>by rw[dX _ _ _ _ oM];exact H t oM,?_⟩;rw[lw _ _ _ oM,aI,<-C,<-hu,M];have I:bv^(i+(j+1))=bv^(i+j)*4294967296:=by rw[<-Nat.add_assoc,Int.pow_succ,aP]
 have J:bv^(i+j)=bv^i*bv^j:=Int.pow_add ..;rw[I];have l:ah e=ah U+bv^(i+j)*(c+b)-bv^i*(g*ah (V.take j)):=oM;rw[l,J];generalize bv^i=P at *;generalize bv^j=R at *;generalize ah (V.take j)=L at *;have s:d=u-lo-b:=hd;have Y:4294967296*q+lo=c+g*y:=oM;have B:lo=c+g*y-4294967296*q:=oM;split
 ·rw[s,B];grind
 ·rw[s,B];grind
def tT (U V:List Int) (i j:Nat) (us:List Int) (c:Int):Prop :=
 us.length=U.length/\aG us/\0<=c/\c<=1/\us.take i=U.take i/\(∀t,i+j<=t->us.getD t 0=U.getD t 0) /\
 ah us+bv^(i+j)*c=ah U+bv^i*ah (V.take j)
theorem tT.start{U V:List Int}{i:Nat}(h:aG U):tT U V i 0 U 0 :=
 ⟨rfl,h,oM,oM,rfl,λ_ _=>rfl,by simp[ah]⟩
theorem tT.step{U V:List Int}{i j:Nat}{b:List Int}{c:Int}(h:tT U V i j b c)(B:aG V)(E:i+j<U.length) :
  tT U V i (j+1) (b.set (i+j) ((b.getD (i+j) 0+V.getD j 0+c)%4294967296)) ((b.getD (i+j) 0+V.getD j 0+c)/4294967296):=by
 obtain⟨n,k,F,G,o,p,D⟩:=h;have z:=B.getD j;have l:=k.getD (i+j);rw[aP]at z l;refine⟨by simpa using n,fU k _ (by rw[aP];omega),oM,oM,by rw[lK _ oM];exact o,λt C=>by rw[dX _ _ _ _ oM];exact p t oM,?_⟩;rw[lw _ _ _ oM,aI];generalize V.getD j 0=y at *;generalize b.getD (i+j) 0=u at *;have e:=Int.mul_ediv_add_emod (u+y+c) 4294967296;generalize(u+y+c)%4294967296=r at *;generalize(u+y+c)/4294967296=q at *;have s:bv^(i+(j+1))=bv^(i+j)*4294967296:=by rw[<-Nat.add_assoc,Int.pow_succ,aP]
 have x:bv^(i+j)=bv^i*bv^j:=Int.pow_add ..;rw[s];have d:ah b=ah U+bv^i*ah (V.take j)-bv^(i+j)*c:=oM;rw[d,x];generalize bv^i=P at *;generalize bv^j=R at *;have m:r=u+y+c-4294967296*q:=oM;rw[m];grind
def vD (A:Int) (V:List Int) (k:Nat) (us qs:List Int):Prop :=
 aG us/\aG qs/\us.length=qs.length+V.length/\ah (us.drop k)<ah V/\A=ah us+ah qs*ah V/\∀j,j<k->qs.getD j 0=0
theorem dZ(l:List Int)(k:Nat)(h:k<=l.length):ah l=ah (l.take k)+bv^k*ah (l.drop k):=by
 conv=>lhs;rw[<-List.take_append_drop k l]
 rw[gN,List.length_take,Nat.min_eq_left h]
theorem ou{l:List Int}(h:aG l){k:Nat}(q:ah l<bv^k):∀j,k<=j->l.getD j 0=0:=λj n=>by
 rcases Nat.lt_or_ge j l.length with hjl|hjl
 ·have r:=dZ l j oM;have o:=aU (h.take j)
  have p:ah (l.drop j)=l.getD j 0+bv*ah (l.drop (j+1)):=by rw[List.drop_eq_getElem_cons hjl,List.getD_eq_getElem?_getD,List.getElem?_eq_getElem hjl];rfl
  have i:=aU (h.drop (j+1));have s:=(h.getD j).1
  have u:bv^k<=bv^j:=by obtain⟨d,rfl⟩:=Nat.exists_eq_add_of_le n;rw[Int.pow_add];have a:0<bv^k:=Int.pow_pos dR;have b:0<bv^d:=Int.pow_pos dR;have:=Int.mul_le_mul_of_nonneg_left (oM:(1:Int)<=bv^d) (Int.le_of_lt a);omega
  have e:0<bv^j:=Int.pow_pos dR;rcases Int.lt_or_le 0 (l.getD j 0)with hp|hp
  ·exfalso
   have m:1<=ah (l.drop j):=by have:=Int.mul_nonneg (Int.le_of_lt dR) i;omega
   have:=Int.mul_le_mul_of_nonneg_left m (Int.le_of_lt e);omega
  ·omega
 ·rw[List.getD_eq_getElem?_getD,List.getElem?_eq_none hjl];rfl
theorem iA(l:List Int)(k j:Nat):(l.drop k).getD j 0=l.getD (k+j) 0:=by rw[List.getD_eq_getElem?_getD,List.getElem?_drop,List.getD_eq_getElem?_getD]
theorem SG{b:List Int}(h:aG b){i n:Nat}(B:2<=n)(s:ah (b.drop (i+1))<bv^n)(m:i+n<b.length) :
  ∃k,0<=k/\k<bv^(n-2)/\ah (b.drop i)=k+bv^(n-2)*(b.getD (i+n-2) 0+4294967296*(b.getD (i+n) 0*4294967296+b.getD (i+n-1) 0)):=by
 have L:=h.drop i;have hz:=ou (h.drop (i+1)) s;have e:=(h.drop i).take (n-2);refine⟨ah ((b.drop i).take (n-2)),aU e,?_,?_⟩
 ·have:=gK e;rw[List.length_take,List.length_drop,Nat.min_eq_left oM]at this;exact this
 ·have e1:=dZ (b.drop i) (n-2+1+1+1) (by rw[List.length_drop];omega);rw[aI,aI,aI,iA,iA,iA]at e1
  have u:ah ((b.drop i).drop (n-2+1+1+1))=0:=by
   have d:∀x∈(b.drop i).drop (n-2+1+1+1),x=0:=λx r=>by
    obtain⟨j,z,rfl⟩:=List.getElem_of_mem r;have o:((b.drop i).drop (n - 2+1+1+1)).getD j 0=b.getD (i+(n - 2+1+1+1)+j) 0:=by rw[iA,iA];congr 1;omega
    rw[List.getD_eq_getElem?_getD,List.getElem?_eq_getElem z,Option.getD_some]at o;rw[o];have:=hz (n+j) oM;rw[iA]at this;rw[<-this];congr 1;omega
   have:∀l:List Int,(∀x∈l,x=0)->ah l=0:=λl=>by
    induction l with
    | nil=>intro _;rfl
    | cons x l p=>intro h;rw[ah,p λy q=>h y (by simp[q]),h x sM];rfl
   exact this _ d
  rw[u]at e1;rw[e1,(oM:i+(n-2)=i+n-2),(oM:i+(n-2+1)=i+n-1),(oM:i+(n-2+1+1)=i+n),Int.pow_succ,Int.pow_succ,aP];grind
theorem SH{V:List Int}(h:aG V)(i:2<=V.length):∃d,0<=d/\d<bv^(V.length-2)/\ah V=d+bv^(V.length-2)*(V.getD (V.length-2) 0+4294967296*V.getD (V.length-1) 0):=by
 have b:=h.take (V.length-2);refine⟨ah (V.take (V.length-2)),aU b,?_,?_⟩
 ·have:=gK b;rw[List.length_take,Nat.min_eq_left oM]at this;exact this
 ·have e1:=dZ V (V.length-2+1+1) oM;rw[List.drop_of_length_le oM,aI,aI]at e1;rw[e1,(oM:V.length-2+1=V.length-1)]
  have e:bv^(V.length-1)=bv^(V.length-2)*4294967296:=by rw[(oM:V.length-1=V.length-2+1),Int.pow_succ,aP]
  rw[e];simp only[ah];grind
theorem SI{U V us:List Int}{i:Nat}{g c b:Int}(h:tQ U V i g V.length us c b)(Y:i+V.length<U.length)(p:aG U)(s:ah (U.drop (i+1))<ah V)(H:aG V)(hQ:ah (U.drop i)/ah V<=g)(a1:g-1<=ah (U.drop i)/ah V) :
  let t:=us.getD (i+V.length) 0-c-b
  let d:=us.set (i+V.length) (t%4294967296)
  t<4294967296/\-4294967296<=t/\aG d/\d.length=U.length/\d.take i=U.take i /\
  (¬t<0->g=ah (U.drop i)/ah V/\ah d=ah U-bv^i*(g*ah V)/\ah (d.drop i)<ah V) /\
  (t<0->g-1=ah (U.drop i)/ah V/\ah d=ah U-bv^i*(g*ah V)+bv^(i+V.length+1)/\d.getD (i+V.length) 0=t%4294967296):=by
 intro t d;obtain⟨h1,O,L,h4,h5,h6,h7,h8,h9⟩:=h;have au:=O.getD (i+V.length);rw[aP]at au;have Z:t=us.getD (i+V.length) 0 - c - b:=rfl;have n:d=us.set (i+V.length) (t%4294967296):=rfl;have et:t%4294967296=t+(if t<0 then 4294967296 else 0):=by split<;>omega
 have o:aG d:=fU O _ (by rw[aP];exact⟨Int.emod_nonneg _ oM,Int.emod_lt_of_pos _ oM⟩);have K:d.length=U.length:=by rw[n,List.length_set,h1]
 have q:d.take i=U.take i:=by rw[n,lK _ oM,h7]
 have k:ah d=ah U-bv^i*(g*ah V)+bv^(i+V.length)*(if t<0 then 4294967296 else 0):=by rw[n,lw _ _ _ oM,et];rw[List.take_of_length_le (Nat.le_refl _)]at h9;have:ah us=ah U+bv^(i+V.length)*(c+b)-bv^i*(g*ah V):=oM;rw[this,Z];generalize us.getD (i+V.length) 0=u at *;split<;>grind
 have e1:=dZ d i oM;have e2:=dZ U i oM;rw[q]at e1;have a0:0<bv^i:=Int.pow_pos dR;have m:0<ah V:=by have:=aU (p.drop (i+1));omega
 have W:ah (d.drop i)=ah (U.drop i)-g*ah V+bv^V.length*(if t<0 then 4294967296 else 0):=by
  have I:bv^i*ah (d.drop i)=bv^i*(ah (U.drop i)-g*ah V+bv^V.length*(if t<0 then 4294967296 else 0)):=by have C:bv^(i+V.length)=bv^i*bv^V.length:=Int.pow_add ..;rw[C]at k;have E:bv^i*ah (d.drop i)=ah d - ah (U.take i):=oM;rw[E,k,e2];grind
  exact Int.eq_of_mul_eq_mul_left oM I
 have a2:=aU (o.drop i);have X:=Int.emod_lt_of_pos (ah (U.drop i)) m;have M:=Int.emod_nonneg (ah (U.drop i)) (oM:ah V≠0);have a3:=Int.mul_ediv_add_emod (ah (U.drop i)) (ah V);have N:=gK H;refine⟨oM,oM,o,K,q,λJ=>?_,λJ=>?_⟩
 ·rw[if_neg J]at W k;have D:g*ah V<=ah (U.drop i):=oM;have hg:g<=ah (U.drop i)/ah V:=Int.le_ediv_of_mul_le m D;have e:g=ah (U.drop i)/ah V:=oM;refine⟨e,oM,?_⟩;have B:g*ah V=ah V*(ah (U.drop i)/ah V):=by rw[<-e];grind
  omega
 ·rw[if_pos J]at W k
  have hz:∀j,V.length+1<=j->(d.drop i).getD j 0=0:=λj S=>by rw[iA,n,dX _ _ _ _ oM,h8 _ oM];have:=ou (p.drop (i+1)) (Int.lt_trans s N) (j-1) oM;rw[iA]at this;rw[<-this];congr 1;omega
  have z:ah (d.drop i)<bv^(V.length+1):=by
   have e3:=dZ (d.drop i) (V.length+1) (by rw[List.length_drop];omega)
   have r:∀x∈(d.drop i).drop (V.length+1),x=0:=λx hx=>by obtain⟨j,S,rfl⟩:=List.getElem_of_mem hx;have L:((d.drop i).drop (V.length+1)).getD j 0=(d.drop i).getD (V.length+1+j) 0:=iA _ _ _;rw[List.getD_eq_getElem?_getD,List.getElem?_eq_getElem S,Option.getD_some]at L;rw[L];exact hz _ oM
   have:∀l:List Int,(∀x∈l,x=0)->ah l=0:=λl=>by
    induction l with
    | nil=>intro _;rfl
    | cons x l ih=>intro h;rw[ah,ih λy hy=>h y (by simp[hy]),h x sM];rfl
   rw[this _ r]at e3;have G:=gK ((o.drop i).take (V.length+1));rw[List.length_take,List.length_drop,Nat.min_eq_left oM]at G;omega
  have F:bv^(V.length+1)=bv^V.length*4294967296:=by rw[Int.pow_succ,aP]
  have R:ah (U.drop i)<g*ah V:=by rw[F]at z;omega
  have a4:g≠ah (U.drop i)/ah V:=λe=>by
   have B:g*ah V=ah V*(ah (U.drop i)/ah V):=by rw[<-e];grind
   omega
  refine⟨oM,?_,by rw[n,qx _ _ _ oM]⟩;rw[k,Int.pow_succ,aP]
theorem SK{U U0 V us:List Int}{i:Nat}{g c:Int}(h:tT U V i V.length us c)(R:i+V.length<U.length)(I:U0.length=U.length)(F:aG U0)(S:ah (U0.drop (i+1))<ah V)(a1:aG V)(D:U.take i=U0.take i)
  (hz:∀t,i+V.length<t->U.getD t 0=0) (hg:g-1=ah (U0.drop i)/ah V) (hv:ah U=ah U0-bv^i*(g*ah V)+bv^(i+V.length+1)) :
  let b:=us.set (i+V.length) ((us.getD (i+V.length) 0+c)%4294967296)
  aG b/\b.length=U0.length/\b.take i=U0.take i/\ah b=ah U0-bv^i*((g-1)*ah V)/\ah (b.drop i)<ah V:=by
 intro b;obtain⟨X,L,J,h4,Y,Z,h7⟩:=h;have N:=L.getD (i+V.length);rw[aP]at N;have e:b=us.set (i+V.length) ((us.getD (i+V.length) 0+c)%4294967296):=rfl;obtain⟨u,hu⟩:∃u,u=us.getD (i+V.length) 0:=⟨_,rfl⟩;rw[<-hu]at e N;have o:aG b:=by rw[e];exact fU L _ (by rw[aP];exact⟨Int.emod_nonneg _ oM,Int.emod_lt_of_pos _ oM⟩)
 have H:b.length=U0.length:=by rw[e,List.length_set,X,I]
 have k:b.take i=U0.take i:=by rw[e,lK _ oM,Y,D]
 obtain⟨co,r⟩:∃co,co=(u+c)/4294967296:=⟨_,rfl⟩;have M:0<=co/\co<=1:=oM;have e0:=Int.mul_ediv_add_emod (u+c) 4294967296;rw[<-r]at e0;have a0:0<bv^i:=Int.pow_pos dR;have m:0<ah V:=by have:=aU (F.drop (i+1));omega
 rw[List.take_of_length_le (Nat.le_refl _)]at h7
 have d:ah b=ah U0-bv^i*((g-1)*ah V)+bv^(i+V.length+1)*(1-co):=by rw[e,lw _ _ _ oM,<-hu];have e1:ah us=ah U+bv^i*ah V-bv^(i+V.length)*c:=oM;rw[e1,hv,Int.pow_succ,aP];have G:(u+c)%4294967296=u+c-4294967296*co:=oM;rw[G];grind
 have e1:=dZ b i oM;have G:=dZ U0 i oM;rw[k]at e1
 have B:ah (b.drop i)=ah (U0.drop i)-(g-1)*ah V+bv^(V.length+1)*(1-co):=by
  have C:bv^i*ah (b.drop i)=bv^i*(ah (U0.drop i)-(g-1)*ah V+bv^(V.length+1)*(1-co)):=by
   have q:bv^(i+V.length+1)=bv^i*bv^(V.length+1):=by rw[Nat.add_assoc];exact Int.pow_add ..
   rw[q]at d;have s:bv^i*ah (b.drop i)=ah b - ah (U0.take i):=oM;rw[s,d,G];grind
  exact Int.eq_of_mul_eq_mul_left oM C
 have a4:=Int.mul_ediv_add_emod (ah (U0.drop i)) (ah V);have O:=Int.emod_lt_of_pos (ah (U0.drop i)) m;have K:=Int.emod_nonneg (ah (U0.drop i)) (oM:ah V≠0);have a2:(g-1)*ah V=ah V*(ah (U0.drop i)/ah V):=by rw[<-hg];grind
 have W:ah (b.drop i)<bv^(V.length+1):=by
  have e3:=dZ (b.drop i) (V.length+1) (by rw[List.length_drop];omega)
  have p:∀x∈(b.drop i).drop (V.length+1),x=0:=λx hx=>by
   obtain⟨j,hj,rfl⟩:=List.getElem_of_mem hx;have J:((b.drop i).drop (V.length+1)).getD j 0=b.getD (i+(V.length+1)+j) 0:=by rw[iA,iA];congr 1;omega
   rw[List.getD_eq_getElem?_getD,List.getElem?_eq_getElem hj,Option.getD_some]at J;rw[J,e,dX _ _ _ _ oM,Z _ oM];exact hz _ oM
  have:∀l:List Int,(∀x∈l,x=0)->ah l=0:=λl=>by
   induction l with
   | nil=>intro _;rfl
   | cons x l ih=>intro h;rw[ah,ih λy hy=>h y (by simp[hy]),h x sM];rfl
  rw[this _ p]at e3;have z:=gK ((o.drop i).take (V.length+1));rw[List.length_take,List.length_drop,Nat.min_eq_left oM]at z;omega
 have n:co=1:=by
  rcases Int.lt_or_le co 1 with h|h
  ·exfalso;have:co=0:=oM;rw[this]at B;have a3:bv^(V.length+1)*(1-0)=bv^(V.length+1):=by rw[Int.sub_zero,Int.mul_one]
   omega
  ·omega
 rw[n]at B d;have E:∀x:Int,x*(1-1)=0:=λx=>by rw[Int.sub_self,Int.mul_zero]
 rw[E]at B d;exact⟨o,H,k,oM,oM⟩
theorem vD.step{A:Int}{V us qs us':List Int}{k:Nat}{Q:Int}(h:vD A V (k+1) us qs)(o:k<qs.length)(n:0<=Q)(p:Q<4294967296)(hL:aG us')(l:us'.length=us.length)(hv:ah us'=ah us-bv^k*(Q*ah V))(b:ah (us'.drop k)<ah V):vD A V k us' (qs.set k Q):=by obtain⟨r,e,i,q,m,d⟩:=h;refine⟨hL,fU e _ (by rw[aP];omega),by rw[l,i,List.length_set],b,?_,λj s=>by rw[dX _ _ _ _ oM];exact d j oM⟩;rw[m,hv,lw _ _ _ o,d k oM];grind
def zN (us:List Int) (P R:Int) (i:Nat) (xs:List Int):Prop :=
 aG xs/\ah (xs.take i)*P=ah (us.take i)-us.getD 0 0%P+bv^i*(us.getD i 0%P)/\xs.length+1<=us.length
theorem zN.start{b:List Int}{P R:Int}{n:Nat}(h:n+1<=b.length):zN b P R 0 (List.replicate n 0) :=
 ⟨jl _,by simp only[List.take_zero,ah];rw[Int.pow_zero];omega,by simpa using h⟩
theorem zN.step{b:List Int}{P R:Int}{i:Nat}{j:List Int}(h:zN b P R i j)(n:aG b)(G:i<j.length)(o:0<P)(I:0<R)(d:P*R=4294967296) :
  let x:=b.getD i 0/P
  let y:=b.getD (i+1) 0%P*R
  0<=x/\x<R/\0<=y/\y+x<4294967296/\zN b P R (i+1) (j.set i (x+y)):=by
 intro x y;obtain⟨q,p,H⟩:=h;have m:=n.getD i;have B:=n.getD (i+1);rw[aP]at m B;have l:x=b.getD i 0/P:=rfl;have k:y=b.getD (i+1) 0%P*R:=rfl;generalize hu:b.getD i 0=u at *;generalize hw:b.getD (i+1) 0=w at *;have z:0<=x:=by rw[l];exact Int.ediv_nonneg m.1 oM
 have x1:x<R:=by rw[l];exact Int.ediv_lt_of_lt_mul o (by rw[Int.mul_comm,d];exact m.2)
 have E:=Int.emod_nonneg w (oM:P≠0);have m1:=Int.emod_lt_of_pos w o;have D:0<=y:=by rw[k];exact Int.mul_nonneg E oM
 have K:y<=(P-1)*R:=by rw[k];exact Int.mul_le_mul_of_nonneg_right oM oM
 have J:(P-1)*R=4294967296-R:=by rw[Int.sub_mul,d];omega
 refine⟨z,x1,D,oM,fU q _ (by rw[aP];omega),?_,by rw[List.length_set];exact H⟩;rw[nz _ _ _ G,aI,hu,hw];have e:=Int.mul_ediv_add_emod u P;rw[<-l]at e;have C:y*P=w%P*4294967296:=by rw[k,<-d];grind
 have s:bv^(i+1)=bv^i*4294967296:=by rw[Int.pow_succ,aP]
 rw[s];generalize bv^i=Q at *;generalize hM:w%P=M at *;generalize hN:u%P=N at *;have F:(ah (j.take i)+Q*(x+y))*P=ah (j.take i)*P+Q*(P*x+y*P):=gR;rw[F,p,C];have r:P*x=u-N:=oM;rw[r];grind
theorem SL{b rs:List Int}{P R z:Int}{n:Nat}(h:zN b P R n rs)(B:rs.length=n)(j:aG b)(r:n<b.length)(E:0<P)(k:P*R=4294967296)(i:ah b<bv^n)(hz:ah b=P*z):ah rs=z:=by
 obtain⟨C,d,D⟩:=h;have s:=ou j i n (Nat.le_refl _)
 have u:ah (b.take n)=ah b:=by
  have e1:=dZ b n oM
  have m:ah (b.drop n)=0:=by
   have q:=aU (j.drop n);have hp:0<bv^n:=Int.pow_pos dR;have y:=aU (j.take n);rcases Int.lt_or_le 0 (ah (b.drop n))with h|h
   ·have:=Int.mul_le_mul_of_nonneg_left (oM:(1:Int)<=ah (b.drop n)) (Int.le_of_lt hp);omega
   ·omega
  rw[m,Int.mul_zero,Int.add_zero]at e1;exact e1.symm
 have p:b.getD 0 0%P=0:=by
  cases b with
  | nil=>simp at r
  | cons x l =>
   have e:ah (x::l)=x+4294967296*ah l:=rfl;rw[e,<-k]at hz;have m:P*(R*ah l)=P*R*ah l:=gR;have:x=P*(z-R*ah l):=by rw[Int.mul_sub];omega
   show x%P=0;rw[this];exact Int.mul_emod_right _ _
 rw[List.take_of_length_le oM,u,p,s,hz]at d;have o:(0:Int)%P=0:=Int.zero_emod P;rw[o,Int.mul_zero,Int.sub_zero,Int.add_zero,Int.mul_comm P z]at d;exact Int.eq_of_mul_eq_mul_right oM d
theorem SN{w P R:Int}(d:0<=w)(h:0<P)(e:0<R)(b:P*R=4294967296):w*4294967296/P%4294967296=w%P*R:=by
 have e1:w*4294967296/P=w*R:=by rw[<-b,(gR:w*(P*R)=w*R*P)];exact Int.mul_ediv_cancel _ oM
 rw[e1,<-b,Int.mul_comm w R,Int.mul_comm P R,Int.mul_emod_mul_of_pos _ _ e,Int.mul_comm]
theorem Kr{l:List Int}(h:aG l){n:Nat}(e:n<=l.length)(j:ah l<bv^n):ah (l.take n)=ah l:=by
 have e1:=dZ l n e;have b:=aU (h.drop n);have hp:0<bv^n:=Int.pow_pos dR;have i:=aU (h.take n);rcases Int.lt_or_le 0 (ah (l.drop n))with h|h
 ·have:=Int.mul_le_mul_of_nonneg_left (oM:(1:Int)<=ah (l.drop n)) (Int.le_of_lt hp);omega
 ·have d:ah (l.drop n)=0:=oM;rw[d,Int.mul_zero,Int.add_zero]at e1;exact e1.symm
theorem Yd{B vs:List Int}{n k b:Nat}(LB:aG B)(s:B.length=n+2)(h:B.getD (n+1) 0<((2^b:Nat):Int))(e:b+k=32)(j:aG vs)(hv:ah vs=ah B*((2^k:Nat):Int))(r:vs.length=n+2+1):ah (vs.take (n+2))=ah vs:=by
 refine Kr j oM ?_;have e1:=dZ B (n+1+1) oM;rw[List.drop_of_length_le oM,aI]at e1;have e0:ah ([]:List Int)=0:=rfl;rw[e0,Int.mul_zero,Int.add_zero]at e1;have o:=gK (LB.take (n+1));rw[List.length_take,Nat.min_eq_left oM]at o;have hp:0<bv^(n+1):=Int.pow_pos dR;have q:(0:Int)<((2^k:Nat):Int):=Int.ofNat_lt.2 (Nat.pow_pos dM)
 have i:ah B<bv^(n+1)*((2^b:Nat):Int):=by have l:=Int.mul_le_mul_of_nonneg_left (oM:B.getD (n+1) 0+1<=((2^b:Nat):Int)) (Int.le_of_lt hp);rw[Int.mul_add,Int.mul_one]at l;omega
 have m:((2^b:Nat):Int)*((2^k:Nat):Int)=4294967296:=by rw[<-Int.natCast_mul,<-Nat.pow_add,e];rfl
 have d:=Int.mul_lt_mul_of_pos_right i q;rw[hv,Int.pow_succ,aP];rw[aP]at d;have p:(4294967296:Int)^(n+1)*((2^b:Nat):Int)*((2^k:Nat):Int)=4294967296^(n+1)*4294967296:=by rw[Int.mul_assoc,m]
 rw[p]at d;exact d
theorem Vb{V:List Int}{n:Nat}{P:Int}(h:aG V)(l:V.length=n+2)(k:0<P)(b:bv^(n+1)*P<=ah V):1<=V.getD (n+1) 0:=by
 have e1:=dZ V (n+1+1) oM;rw[List.drop_of_length_le oM,aI]at e1;have e0:ah ([]:List Int)=0:=rfl;rw[e0,Int.mul_zero,Int.add_zero]at e1;have e:=gK (h.take (n+1));rw[List.length_take,Nat.min_eq_left oM]at e;have hp:0<bv^(n+1):=Int.pow_pos dR;have i:=(h.getD (n+1)).1;rcases Int.lt_or_le (V.getD (n+1) 0) 1 with h3|h3
 ·exfalso;have d:V.getD (n+1) 0=0:=oM;rw[d,Int.mul_zero]at e1;have j:=Int.mul_le_mul_of_nonneg_left (oM:1<=P) (Int.le_of_lt hp);omega
 ·exact h3
theorem Qd{A us V:List Int}{n D:Nat}{P:Int}(i:aG A)(o:A.length+1=D+(n+2))(e:aG us)(hu:us.length=A.length+1)(q:ah us=ah A*P)(k:0<P)(b:bv^(n+1)*P<=ah V)(m:V.length=n+2):vD (ah us) V D us (List.replicate D 0):=by refine⟨e,jl D,by rw[List.length_replicate];omega,?_,by rw[mO,Int.zero_mul,Int.add_zero],λj l=>by rw[List.getD_eq_getElem?_getD,List.getElem?_replicate,if_pos l];rfl⟩;have e1:=dZ us D oM;have r:=aU (e.take D);have hp:0<bv^D:=Int.pow_pos dR;have d:=gK i;rw[(oM:A.length=D+(n+1)),Int.pow_add]at d;have p:=Int.mul_lt_mul_of_pos_right d k;have h:=Int.mul_le_mul_of_nonneg_left b (Int.le_of_lt hp);rw[<-Int.mul_assoc]at h;exact Int.lt_of_mul_lt_mul_left (a:=bv^D) oM (Int.le_of_lt hp)
theorem Oq(l:List Int){n j:Nat}(h:j<n):(l.take n).getD j 0=l.getD j 0:=by rw[List.getD_eq_getElem?_getD,List.getElem?_take,if_pos h,List.getD_eq_getElem?_getD]
def Ku (r d:List Int):Int :=
 if r.length=d.length then max 1 (r.getD (r.length-1) 0/(d.getD (d.length-1) 0+1))
 else(r.getD (r.length-1) 0*4294967296+r.getD (r.length-2) 0)/(d.getD (d.length-1) 0+1)*bv^(r.length-d.length-1)
theorem Qe{l:List Int}(h:aG l){n:Nat}(d:l.length=n+1):bv^n*l.getD n 0<=ah l/\ah l<bv^n*(l.getD n 0+1):=by have e1:=dZ l (n+1) oM;rw[List.drop_of_length_le oM,aI]at e1;have e0:ah ([]:List Int)=0:=rfl;rw[e0,Int.mul_zero,Int.add_zero]at e1;have b:=gK (h.take n);rw[List.length_take,Nat.min_eq_left oM]at b;have e:=aU (h.take n);rw[Int.mul_add,Int.mul_one];exact⟨oM,oM⟩
theorem SQ{l:List Int}(h:aG l){n:Nat}(i:l.length=n+2):bv^n*(l.getD (n+1) 0*4294967296+l.getD n 0)<=ah l:=by
 have e1:=dZ l (n+1+1) oM;rw[List.drop_of_length_le oM,aI,aI]at e1;have e0:ah ([]:List Int)=0:=rfl;rw[e0,Int.mul_zero,Int.add_zero]at e1;have e:=aU (h.take n);have b:bv^(n+1)=bv^n*4294967296:=by rw[Int.pow_succ,aP]
 rw[b]at e1;have d:bv^n*(l.getD (n+1) 0*4294967296+l.getD n 0)=bv^n*l.getD n 0+bv^n*4294967296*l.getD (n+1) 0:=gR;omega
theorem EE{r d:List Int}(i:aG r)(j:aG d)(nd:gL d)(hd:1<=d.length)(h:ah d<=ah r):d.length<=r.length:=by
 rcases Nat.lt_or_ge r.length d.length with hl|hl
 ·exfalso;have k:=gK i;have m:=nd.low j hd
  have l:bv^r.length<=bv^(d.length-1):=by obtain⟨e,he⟩:=Nat.exists_eq_add_of_le (oM:r.length<=d.length - 1);rw[he,Int.pow_add];have a:0<bv^r.length:=Int.pow_pos dR;have b:0<bv^e:=Int.pow_pos dR;have:=Int.mul_le_mul_of_nonneg_left (oM:(1:Int)<=bv^e) (Int.le_of_lt a);omega
  omega
 ·exact hl
theorem wW{l:List Int}(h:aG l)(j:gL l){n:Nat}(d:l.length=n+1):1<=l.getD n 0:=by
 have b:l≠[]:=λe=>by rw[e]at d;simp at d
 have i:=j b;have k:=(h.getD n).1;rw[List.getLast_eq_getElem]at i
 have:l.getD n 0=l[l.length-1]'(oM):=by
  rw[List.getD_eq_getElem?_getD,List.getElem?_eq_getElem oM];show l[n]'(oM)=_
  congr 1;omega
 omega
theorem Vd{r d:List Int}(b:aG r)(j:aG d)(B:gL r)(nd:gL d)(hd:1<=d.length)(h:ah d<=ah r):1<=Ku r d/\Ku r d*ah d<=ah r:=by
 have I:=EE b j nd hd h;obtain⟨m,hm⟩:∃m,d.length=m+1:=⟨d.length - 1,oM⟩;have C:=(Qe j hm).2;have x:=wW j nd hm;have i:=(j.getD m).2;rw[aP]at i;have G:0<bv^m:=Int.pow_pos dR;have y:=aU j;unfold Ku;rw[hm,Nat.add_sub_cancel];obtain⟨low,e⟩:∃low,low=d.getD m 0+1:=⟨_,rfl⟩;rw[<-e]at C ⊢;split
 ·rename_i he;refine⟨oM,?_⟩;rw[he,Nat.add_sub_cancel];have o:=(Qe b he).1;have q:=(b.getD m).1;rcases Int.le_total (r.getD m 0/low) 1 with h1|h1
  ·rw[Int.max_eq_left h1];omega
  ·rw[Int.max_eq_right h1];generalize r.getD m 0=t at *;have k:t/low*low<=t:=Int.ediv_mul_le t oM;have E:t/low*ah d<=t/low*(bv^m*low):=Int.mul_le_mul_of_nonneg_left oM oM;have F:t/low*(bv^m*low)=bv^m*(t/low*low):=gR;have u:=Int.mul_le_mul_of_nonneg_left k (Int.le_of_lt G);omega
 ·rename_i he;obtain⟨n,p⟩:∃n,r.length=n+2:=⟨r.length - 2,oM⟩;rw[p,Nat.add_sub_cancel,(oM:n+2 - 1=n+1)];have o:=SQ b p;have q:=wW b B (n:=n+1) oM;have J:=(b.getD n).1;obtain⟨T,z⟩:∃T,T=r.getD (n+1) 0*4294967296+r.getD n 0:=⟨_,rfl⟩;rw[<-z]at o ⊢;have s:4294967296<=T:=oM;have l:1<=T/low:=Int.le_ediv_of_mul_le oM oM;have H:n+2 - (m+1) - 1=n - m:=oM;rw[H];have D:0<bv^(n - m):=Int.pow_pos dR;refine⟨?_,?_⟩
  ·have:=Int.mul_le_mul l (oM:(1:Int)<=bv^(n-m)) oM oM;omega
  ·have k:T/low*low<=T:=Int.ediv_mul_le T oM;have e1:bv^n=bv^(n-m)*bv^m:=by rw[<-Int.pow_add];congr 1;omega
   have E:T/low*bv^(n-m)*ah d<=T/low*bv^(n-m)*(bv^m*low):=Int.mul_le_mul_of_nonneg_left oM (Int.mul_nonneg oM oM);have F:T/low*bv^(n-m)*(bv^m*low)=bv^n*(T/low*low):=by rw[e1];grind
   have u:=Int.mul_le_mul_of_nonneg_left k (Int.le_of_lt (show 0<bv^n from Int.pow_pos dR));omega
theorem Ot{T low:Int}(b:0<=T)(d:2<=low)(l:T<18446744073709551616)(k:Nat):ah (List.replicate k 0++[T/low%4294967296,T/low/4294967296%4294967296])=T/low*bv^k:=by have h:=Int.ediv_nonneg b (oM:0<=low);have i:T/low<=T:=Int.ediv_le_self low b;generalize T/low=q at *;rw[gN,mO,List.length_replicate];simp only[ah];rw[aP];have e:q/4294967296%4294967296=q/4294967296:=oM;rw[e];have j:q%4294967296+4294967296*(q/4294967296+4294967296*0)=q:=oM;rw[j,Int.zero_add,Int.mul_comm]
end Q
end
