/- The integer package of the program: Mul. -/
import Derived.Test.YtopclbeomcggiaaGreatW09
import Derived.Deep.Cut
set_option linter.unusedVariables false
set_option linter.unusedSimpArgs false
set_option maxHeartbeats 16000000
set_option maxRecDepth 100000
section
namespace Go.Proofs.YtopclbeomcggiaaGreat
open Go.RowKit Q
theorem lJ(b:List Int)(j:Nat)(v:Int)(h:j<b.length):ah (b.set j v)=ah b+bv^j*(v-b.getD j 0):=by
 induction b generalizing j with
 | nil=>simp at h
 | cons x b d =>
  cases j with
  | zero=>simp[ah];omega
  | succ j =>
   have:=d j (by simpa using h);simp only[List.set_cons_succ,ah,this,Int.pow_succ,List.getD_cons_succ];grind
theorem dX(l:List Int)(i j:Nat)(x:Int)(h:i≠j):(l.set i x).getD j 0=l.getD j 0:=by simp[jD,List.getElem?_set_ne h]
def rR (A B:List Int) (i:Nat) (xs:List Int):Prop :=
 xs.length=A.length+B.length/\aG xs/\ah xs=ah (A.take i)*ah B/\∀j,i+B.length<=j->xs.getD j 0=0
def BR (A B:List Int) (i k:Nat) (xs:List Int) (c:Int):Prop :=
 xs.length=A.length+B.length/\aG xs/\0<=c/\c<4294967296/\ah xs+bv^(i+k)*c=ah (A.take i)*ah B+bv^i*(A.getD i 0*ah (B.take k))/\∀j,i+B.length<=j->xs.getD j 0=0
theorem rR.start(A B:List Int):rR A B 0 (List.replicate (A.length+B.length) 0) :=
 ⟨sM,jo _,by simp[ah,mR],λj _=>by
  rw[jD,List.getElem?_replicate];split<;>rfl⟩
theorem rR.inner{A B:List Int}{i:Nat}{b:List Int}(h:rR A B i b):BR A B i 0 b 0 :=
 ⟨h.1,h.2.1,oM,oM,by rw[h.2.2.1];simp[ah],h.2.2.2⟩
theorem BR.step{A B:List Int}{i k:Nat}{b:List Int}{c:Int}(h:BR A B i k b c)(o:aG A)(LB:aG B)(F:i<A.length)(G:k<B.length) :
  BR A B i (k+1) (b.set (i+k) ((c+(A.getD i 0*B.getD k 0+b.getD (i+k) 0))%4294967296)) ((c+(A.getD i 0*B.getD k 0+b.getD (i+k) 0))/4294967296):=by
 obtain⟨x,n,C,D,E,y⟩:=h;have l:=o.getD i;have m:=LB.getD k;have p:=n.getD (i+k);rw[aP]at l m p;have hp:=prod_bound (A.getD i 0) (B.getD k 0) l.1 oM m.1 oM;refine⟨by simpa using x,fU n _ (by rw[aP];omega),oM,oM,?_,λj z=>by rw[dX _ _ _ _ oM];exact y j z⟩;rw[lJ _ _ _ oM,aI];have e:=Int.mul_ediv_add_emod (c+(A.getD i 0*B.getD k 0+b.getD (i+k) 0)) 4294967296;generalize(c+(A.getD i 0*B.getD k 0+b.getD (i+k) 0))%4294967296=r at *;generalize(c+(A.getD i 0*B.getD k 0+b.getD (i+k) 0))/4294967296=q at *;rw[<-aP]at e;have s:bv^(i+(k+1))=bv^(i+k)*bv:=by rw[<-Nat.add_assoc,Int.pow_succ]
 have u:bv^(i+k)=bv^i*bv^k:=Int.pow_add ..;rw[s];have:bv^(i+k)*(c+(A.getD i 0*B.getD k 0+b.getD (i+k) 0))=bv^(i+k)*(bv*q+r):=by rw[e]
 have d:ah b=ah (A.take i)*ah B+bv^i*(A.getD i 0*ah (B.take k))-bv^(i+k)*c:=oM;rw[d];rw[u]at *;generalize bv^i=P at *;generalize bv^k=R at *;grind
theorem BR.done{A B:List Int}{i:Nat}{d:List Int}{c:Int}(h:BR A B i B.length d c)(o:i<A.length):rR A B (i+1) (d.set (i+B.length) c):=by obtain⟨e,k,m,n,l,b⟩:=h;refine⟨by simpa using e,fU k _ (by rw[aP];omega),?_,λj p=>by rw[dX _ _ _ _ oM];exact b j oM⟩;rw[lJ _ _ _ oM,b _ (nL _),aI];rw[tL (nL _)]at l;grind
theorem rR.done{A B:List Int}{b:List Int}(h:rR A B A.length b):ah b=ah A*ah B:=by rw[h.2.2.1,tL (nL _)]
theorem Qk(n1 n2:Bool)(ao1 ao2:Option Addr)(cap1 cap2:Nat)(A B:List Int)(w:World)(bA:A.length<=34359738368)(bB:B.length<=34359738368)(I:aG A)(LB:aG B)(mA:At uT w ao1 (uc A))(mB:At uT w ao2 (uc B)) :
  Calls Tryz.prog 111 #[.agg #[.bool n1,.slice ao1 A.length cap1],.agg #[.bool n2,.slice ao2 B.length cap2]] w (kY w (fZ (n1 != n2) (ah A*ah B))):=by
 go_enter Tryz.func111,Tryz.ntmps111
 go_upto_region 1 with (fail)
 refine rQ λW hb0 B1 B2 B3 a6=>?_;have c1:=B1.at1 1 _ rfl;have c2:=B2.at1 1 _ rfl
 go_wp2_with (at_make;refine bL rfl _ _ _ rfl _ (.int .u32 0) 1 4 Tryz.underlying37 bD rfl rfl .i64 .i64 _ _ (A.length+B.length) rfl rfl oM oM oM oM ?_;intro w1 own1 gr1;have c3:=(B1.keep gr1 B1.lt).at1 1 _ rfl)
 rw[iO]at own1;clear c1 c2 c3
 go_loopw [22] (λi wr=>∃(k:Nat)(j:List Int),k<=A.length/\i=.int .i64 k/\Hid (rR A B k j)/\Hid (Blk wr W.heap.size uT (uc j))/\Below W.heap.size W wr) (λi _=>A.length-(intOf i).toNat)
 case atStart=>exact⟨0,_,Nat.zero_le _,rfl,zH (rR.start A B),zH own1,gr1⟩
 case round =>
  obtain⟨i,j,F,rfl,hinv,b,hb⟩:=hrel;have d2:=(B2.keep hb B2.lt).at1 1 _ rfl;by_cases l:i<A.length
  ·obtain⟨p1,o1,e1,o⟩:=mA (by rw[dG];omega);have n:=((o.on hb0).keep hb (o.on hb0).lt).ucell i l;have E1:=zH e1;have a1:=(I.getD i).1;have J:A.getD i 0<4294967296:=(I.getD i).2;have Y:Hid (∃x,x=A.getD i 0):=⟨_,rfl⟩;obtain⟨x,G⟩:=Y.out;rw[<-G]at n a1 J;replace G:=zH G;clear e1 o Y
   go_wp2_with (refine aj rfl (.tmp 20) (.tmp 22) _ rfl _ Tryz.underlying37 _ _ _ bD _ _ _ rfl _ _ rfl i rfl l p1 o1 E1.out ?_;rw[nU])
   obtain⟨wo,rfl⟩:∃wo:World,wo=wr:=⟨_,rfl⟩
   go_loopw [8,30] (λc q wr=>∃(k:Nat)(j:List Int)(D:Int),k<=B.length/\q=.int .i64 k/\c=.int .u64 D/\Hid (BR A B i k j D)/\Hid (Blk wr W.heap.size uT (uc j))/\Below W.heap.size W wr) (λ_ q _=>B.length-(intOf q).toNat)
   case atStart=>exact⟨0,j,0,Nat.zero_le _,rfl,rfl,zH hinv.out.inner,b,hb⟩
   case round =>
    clear hinv b d2 n hb;obtain⟨k,S,D,hk,rfl,rfl,d,b,hb⟩:=hrel;have q1:=d.out.2.2.1;have q2:=d.out.2.2.2.1;have X:=zH d.out.1;by_cases r:k<B.length
    ·obtain⟨p2,o2,e2,p⟩:=mB (by rw[dG];omega);have Z:=((p.on hb0).keep hb (p.on hb0).lt).ucell k r;have E2:=zH e2;have L:=b.out.ucell (i+k) (by have:=X.out;omega);have M:=b.out.frozen (i+k);have a2:=(LB.getD k).1;have a0:B.getD k 0<4294967296:=(LB.getD k).2;have a3:=(d.out.2.1.getD (i+k)).1;have a4:S.getD (i+k) 0<4294967296:=(d.out.2.1.getD (i+k)).2;have u:=zH (d.out.step I LB l r);rw[<-G.out]at u;generalize B.getD k 0=y at *;generalize S.getD (i+k) 0=z at *;obtain⟨hp0,hp1⟩:=prod_bound x y a1 oM a2 oM;clear e2 p
     go_wp2_with (refine aj rfl (.tmp 28) (.tmp 30) _ rfl _ Tryz.underlying37 _ _ _ bD _ _ _ rfl _ _ rfl k rfl r p2 o2 E2.out ?_;rw[nU])
     go_roundw
     case rel=>exact⟨k+1,_,_,oM,nM,rfl,u,zH (b.out.uset (i+k) _),hb.setCell (nL _) _⟩
     case measure=>simp[intOf];omega
    ·obtain rfl:k=B.length:=oM;have d2:=(B2.keep hb B2.lt).at1 1 _ rfl;have L:=b.out.ucell (i+B.length) (by have:=X.out;omega);have M:=b.out.frozen (i+B.length);have HD:=zH (d.out.done l);generalize S.getD (i+B.length) 0=z at *;go_wp2;go_roundw
     case rel=>exact⟨i+1,_,oM,nM,HD,zH (by have:=b.out.uset (i+B.length) D;exact this),hb.setCell (nL _) _⟩
     case measure=>simp[intOf];omega
  ·obtain rfl:i=A.length:=oM;have d1:=(B1.keep hb B1.lt).at1 0 _ rfl;have a5:=(B2.keep hb B2.lt).at1 0 _ rfl
   have hu:cO wr (.slice (some ⟨W.heap.size,0,none⟩) (A.length+B.length) (A.length+B.length)) j:=by have:=b.out.u32s hinv.out.2.1;rw[hinv.out.1]at this;exact this
   have HV:=zH hinv.out.done;have N:j.length<=137438953472:=by rw[hinv.out.1];omega
   have C:=hb0.trans (hb.mono hb0.size);have s:=B3.keep hb B3.lt;clear hinv b
   go_wp2_with fail
   refine(lI (n1 != n2) _ j _ hu N).mono ?_;rintro e w2 ⟨neg,m,rfl,F,hb2⟩;rw[HV.out]at F
   go_wp2_with (refine az rfl _ (.tmp 4) (.tmp 76) rfl _ _ _ _ rfl rfl (s.on hb2) rfl aK F.ones ?_;intro w3 R gr)
   exact dH rfl rfl rfl R Tryz.underlying39 rfl aK (jd C hb2 oM (s.on hb2) F gr)
theorem MJ(n1 n2:Bool)(x y:Int):fZ (n1 != n2) (x*y)=fZ n1 x*fZ n2 y:=by cases n1<;>cases n2<;>simp[fZ]<;>grind
theorem MK(n1 n2:Bool)(m1 h:Value)(k l:Int)(w:World)(r:aZ w n1 m1 k)(s:aZ w n2 h l)(c1:aF k.natAbs<=jl)(c2:aF l.natAbs<=jl) :
  Calls Tryz.prog 111 #[.agg #[.bool n1,m1],.agg #[.bool n2,h]] w (kY w (k*l)):=by
 obtain⟨u,i,b,rfl,⟨_,_,e,_,m,m1⟩,b1,_,e1⟩:=gz r c1;obtain⟨l2,j,d,rfl,⟨_,_,p,_,n,h⟩,o,_,q⟩:=gz s c2;cases e;cases p;rw[e1,q,<-MJ];exact Qk n1 n2 i j b d u l2 w b1 o m n m1 h
end Go.Proofs.YtopclbeomcggiaaGreat
end
section
namespace Q
open Go.Proofs.YtopclbeomcggiaaGreat
def xh (A:List Int) (P:Int) (i:Nat) (xs:List Int):Prop :=
 xs.length=A.length+1/\aG xs/\ah xs=ah (A.take i)*P/\(∀j,i<j->xs.getD j 0=0)/\xs.getD i 0<P
theorem xh.start(A:List Int){P:Int}(b:0<P):xh A P 0 (List.replicate (A.length+1) 0):=by
 have hz:∀j,(List.replicate (A.length+1) (0:Int)).getD j 0=0:=λj=>by rw[jD,List.getElem?_replicate];split<;>rfl
 exact⟨sM,jo _,by simp[ah,mR],λj _=>hz j,by rw[hz];exact b⟩
theorem xh.step{A:List Int}{P R:Int}{i:Nat}{l:List Int}(h:xh A P i l)(E:aG A)(B:i<A.length)(J:0<P)(W:0<R)(b:P*R=4294967296) :
  let x:=A.getD i 0
  0<=x*P/\x*P<18446744073709551616/\l.getD i 0+x*P%4294967296<4294967296/\0<=l.getD i 0/\P∣x*P%4294967296/\l.getD (i+1) 0=0/\x*P/4294967296<P/\0<=x*P/4294967296 /\
  xh A P (i+1) ((l.set i (l.getD i 0+x*P%4294967296)).set (i+1) (x*P/4294967296)):=by
 intro x;obtain⟨G,s,H,u,I⟩:=h;have q:=E.getD i;have r:=s.getD i;rw[aP]at q r;obtain⟨y,D⟩:∃y,y=l.getD i 0:=⟨_,rfl⟩;rw[<-D]at I r ⊢;have C:x=A.getD i 0:=rfl;rw[<-C]at q;have p:0<=x*P:=Int.mul_nonneg q.1 oM
 have z:P<=4294967296:=by have:P*1<=P*R:=mZ oM oM;omega
 have S:x*P<=4294967295*P:=Int.mul_le_mul_of_nonneg_right oM oM
 have m:P∣x*P%4294967296:=by rw[<-b];refine⟨x%R,?_⟩;rw[Int.mul_comm x P,Int.mul_emod_mul_of_pos _ _ J]
 have N:x*P%4294967296<=4294967296-P:=by
  obtain⟨k,K⟩:=m;have d:x*P%4294967296<4294967296:=Int.emod_lt_of_pos _ oM;rw[K]at d ⊢
  have M:k<R:=by rw[<-b]at d;exact Int.lt_of_mul_lt_mul_left d oM
  have:P*(k+1)<=P*R:=mZ oM oM;rw[b,Int.mul_add]at this;omega
 have n:x*P/4294967296<P:=by apply Int.ediv_lt_of_lt_mul oM;have:4294967295*P<P*4294967296:=oM;omega
 have o:0<=x*P/4294967296:=Int.ediv_nonneg p oM;have hz:=u (i+1) oM;have O:0<=x*P%4294967296:=Int.emod_nonneg _ oM;refine⟨p,oM,oM,r.1,m,hz,n,o,by simpa using G,fU (fU s _ (by rw[aP];omega)) _ (by rw[aP];omega),?_,λj X=>?_,?_⟩
 ·rw[lJ _ _ _ (by simp;omega),lJ _ _ _ oM,aI,H,dX _ _ _ _ oM,hz,<-C,<-D];have e:=Int.mul_ediv_add_emod (x*P) 4294967296;generalize x*P%4294967296=lo at *;generalize x*P/4294967296=B at *;have F:bv^(i+1)=bv^i*4294967296:=by rw[Int.pow_succ,aP]
  rw[F];generalize bv^i=Q at *;generalize ah (A.take i)=L at *;have:Q*(x*P)=Q*(4294967296*B+lo):=by rw[e]
  grind
 ·rw[dX _ _ _ _ oM,dX _ _ _ _ oM];exact u j oM
 ·rw[qE _ _ _ (by simp;omega)];exact n
theorem xh.done{A:List Int}{P:Int}{b:List Int}(h:xh A P A.length b):ah b=ah A*P:=by rw[h.2.2.1,tL (nL _)]
theorem Vh{P Wl W Vl V u0 u1 u2 v1 v2:Int}(e:0<P)(x:W=Wl+P*(u2+4294967296*(u0*4294967296+u1)))(q:Wl<P)(p:V=Vl+P*(v2+4294967296*v1))(d:0<=Vl)(u:1<=v1)(m:0<=v2)(r:u2<4294967296)(s:0<=W):W/V<=(u0*4294967296+u1)/v1:=by
 have b:0<V:=by have n:=mZ (oM:(1:Int)<=v2+4294967296*v1) (Int.le_of_lt e);rw[p];omega
 obtain⟨Q,j⟩:∃Q,Q=W/V:=⟨_,rfl⟩;have k:0<=Q:=by rw[j];exact Int.ediv_nonneg s (Int.le_of_lt b)
 have l:Q*V<=W:=by rw[j];exact Int.ediv_mul_le W oM
 rw[<-j];apply Int.le_ediv_of_mul_le oM;generalize u0*4294967296+u1=t at *
 -- Q v1 β P<=Q V<=W<P β (t+1)
 have n:P*(Q*(4294967296*v1))<=Q*V:=by
  have h:V-P*(4294967296*v1)=Vl+P*v2:=by rw[p];grind
  have o:0<=Q*(Vl+P*v2):=Int.mul_nonneg k (Int.add_nonneg d (Int.mul_nonneg (Int.le_of_lt e) m));have i:Q*V-P*(Q*(4294967296*v1))=Q*(V-P*(4294967296*v1)):=gR;rw[h]at i;omega
 have h:W<P*(4294967296*(t+1)):=by have o:P*(u2+4294967296*t+1)<=P*(4294967296*(t+1)):=mZ oM (Int.le_of_lt e);have i:P*(u2+4294967296*t+1)=P*(u2+4294967296*t)+P:=gR;omega
 have o:=Int.lt_of_mul_lt_mul_left (Int.lt_of_le_of_lt (Int.le_trans n l) h) (Int.le_of_lt e);have i:Q*(4294967296*v1)=4294967296*(Q*v1):=gR;omega
theorem Vi{P Wl W Vl V t u2 v1 v2 g r:Int}(o:0<P)(y:W=Wl+P*(u2+4294967296*t))(q:Wl<P)(p:V=Vl+P*(v2+4294967296*v1))(i:0<=Vl)(b:0<V)(j:W<4294967296*V)(z:0<=W)(k:0<=g)
  (s:t=g*v1+r) (x:W/V<=g) (hc:4294967295<g\/r*4294967296+u2<g*v2):W/V<=g-1:=by
 have d:W/V*V<=W:=Int.ediv_mul_le W oM;rcases hc with hc|hc
 ·have l:W/V<4294967296:=Int.ediv_lt_of_lt_mul b j;omega
 ·rcases Int.lt_or_le (W/V) g with h|h
  ·omega
  ·exfalso;have e:W/V=g:=oM;rw[e]at d
   have l:P*(g*(v2+4294967296*v1))<=g*V:=by
    have m:g*V-P*(g*(v2+4294967296*v1))=g*Vl:=by rw[p];grind
    have:=Int.mul_nonneg k i;omega
   have m:W<P*(u2+4294967296*t+1):=by have:P*(u2+4294967296*t+1)=P*(u2+4294967296*t)+P:=gR;omega
   have n:=Int.lt_of_mul_lt_mul_left (Int.lt_of_le_of_lt (Int.le_trans l d) m) (Int.le_of_lt o);have u:g*(v2+4294967296*v1)=g*v2+4294967296*(g*v1):=gR;rw[s]at n;omega
theorem WJ{P Wl W Vl V t u2 v1 v2:Int}(b:0<P)(u:W=Wl+P*(u2+4294967296*t))(e:0<=Wl)(d:0<=u2)(s:V=Vl+P*(v2+4294967296*v1))(i:Vl<P)(k:v2<4294967296)(j:W<4294967296*V):t<4294967296*(v1+1):=by
 have l:P*(4294967296*t)<=W:=by have m:=Int.mul_nonneg (Int.le_of_lt b) d;have n:P*(u2+4294967296*t)=P*u2+P*(4294967296*t):=gR;omega
 have o:V<P*(4294967296*(v1+1)):=by have p:=mZ (oM:v2+4294967296*v1+1<=4294967296*(v1+1)) (Int.le_of_lt b);have q:P*(v2+4294967296*v1+1)=P*(v2+4294967296*v1)+P:=gR;omega
 have h:P*(4294967296*t)<P*(4294967296*(4294967296*(v1+1))):=by have r:P*(4294967296*(4294967296*(v1+1)))=4294967296*(P*(4294967296*(v1+1))):=gR;omega
 have:=Int.lt_of_mul_lt_mul_left h (Int.le_of_lt b);omega
theorem Vj{P Wl W Vl V t u2 v1 v2 g r:Int}(e:0<P)(x:W=Wl+P*(u2+4294967296*t))(h:0<=Wl)(k:V=Vl+P*(v2+4294967296*v1))(b:0<=Vl)(l:Vl<P)(o:1<=v1)(p:0<=v2)(m:0<=g)(hg:g<=4294967295)
  (n:t=g*v1+r) (hc:g*v2<=r*4294967296+u2):g-1<=W/V:=by
 have j:P*4294967296<=V:=by have:=mZ (oM:(4294967296:Int)<=v2+4294967296*v1) (Int.le_of_lt e);omega
 apply Int.le_ediv_of_mul_le oM
 have q:P*(g*(v2+4294967296*v1))<=W:=by
  have d:g*(v2+4294967296*v1)<=u2+4294967296*t:=by have i:g*(v2+4294967296*v1)=g*v2+4294967296*(g*v1):=gR;rw[n];omega
  have:=mZ d (Int.le_of_lt e);omega
 have d:g*V=g*Vl+P*(g*(v2+4294967296*v1)):=by rw[k];grind
 have s:g*Vl<=4294967296*P:=by have u:g*Vl<=4294967295*Vl:=Int.mul_le_mul_of_nonneg_right hg b;omega
 have i:(g-1)*V=g*V-V:=gR;omega
def uh (U V:List Int) (i:Nat) (g:Int) (j:Nat) (us:List Int) (c b:Int):Prop :=
 us.length=U.length/\aG us/\0<=c/\c<4294967296/\0<=b/\b<=1/\us.take i=U.take i/\(∀t,i+j<=t->us.getD t 0=U.getD t 0) /\
 ah us+bv^i*(g*ah (V.take j))=ah U+bv^(i+j)*(c+b)
theorem uh.start{U V:List Int}{i:Nat}{g:Int}(h:aG U):uh U V i g 0 U 0 0 :=
 ⟨rfl,h,oM,oM,oM,oM,rfl,λ_ _=>rfl,by simp[ah]⟩
theorem lS(l:List Int){i j:Nat}(h:i<=j)(x:Int):(l.set j x).take i=l.take i:=List.take_set_of_le h
theorem uh.step{U V:List Int}{i:Nat}{g:Int}{j:Nat}{e:List Int}{c b:Int}(h:uh U V i g j e c b)(E:aG V)(m:0<=g)(hg:g<=4294967295)(hj:i+j<U.length) :
  let c1:=c+g*V.getD j 0
  let d:=e.getD (i+j) 0-c1%4294967296-b
  0<=c1/\c1<18446744073709551616/\-4294967296<=d/\d<4294967296/\uh U V i g (j+1) (e.set (i+j) (d%4294967296)) (c1/4294967296) (if d<0 then 1 else 0):=by
 intro c1 d;obtain⟨I,z,S,W,X,Y,J,K,Z⟩:=h;have k:=E.getD j;have r:=z.getD (i+j);rw[aP]at k r;obtain⟨y,D⟩:∃y,y=V.getD j 0:=⟨_,rfl⟩;obtain⟨u,hu⟩:∃u,u=e.getD (i+j) 0:=⟨_,rfl⟩;have l:c1=c+g*V.getD j 0:=rfl;have hd:d=e.getD (i+j) 0 - c1%4294967296 - b:=rfl;rw[<-D]at k l;rw[<-hu]at r hd;have p0:0<=g*y:=Int.mul_nonneg m k.1
 have p1:g*y<=4294967295*4294967295:=by have a:=Int.mul_le_mul_of_nonneg_right hg k.1;have b:=mZ (oM:y<=4294967295) (oM:(0:Int)<=4294967295);omega
 have o:0<=c1/4294967296:=Int.ediv_nonneg oM oM;have p:c1/4294967296<4294967296:=Int.ediv_lt_of_lt_mul oM oM;have e1:=Int.mul_ediv_add_emod c1 4294967296;have M:=Int.emod_nonneg c1 (oM:(4294967296:Int)≠0);have N:=Int.emod_lt_of_pos c1 (oM:(0:Int)<4294967296);generalize c1/4294967296=q at *;generalize c1%4294967296=lo at *;have B:=Int.emod_nonneg d (oM:(4294967296:Int)≠0);have C:=Int.emod_lt_of_pos d (oM:(0:Int)<4294967296)
 have H:d%4294967296=d+(if d<0 then 4294967296 else 0):=by split<;>omega
 refine⟨oM,oM,oM,oM,by simpa using I,fU z _ (by rw[aP];omega),o,p,by split<;>omega,by split<;>omega,by rw[lS _ oM];exact J,λt ht=>by rw[dX _ _ _ _ oM];exact K t oM,?_⟩;rw[lJ _ _ _ oM,aI,<-D,<-hu,H];have F:bv^(i+(j+1))=bv^(i+j)*4294967296:=by rw[<-Nat.add_assoc,Int.pow_succ,aP]
 have G:bv^(i+j)=bv^i*bv^j:=Int.pow_add ..;rw[F];have n:ah e=ah U+bv^(i+j)*(c+b)-bv^i*(g*ah (V.take j)):=oM;rw[n,G];generalize bv^i=P at *;generalize bv^j=R at *;generalize ah (V.take j)=L at *;have s:d=u-lo-b:=hd;have O:4294967296*q+lo=c+g*y:=oM;have x:lo=c+g*y-4294967296*q:=oM;split
 ·rw[s,x];grind
 ·rw[s,x];grind
def ui (U V:List Int) (i j:Nat) (us:List Int) (c:Int):Prop :=
 us.length=U.length/\aG us/\0<=c/\c<=1/\us.take i=U.take i/\(∀t,i+j<=t->us.getD t 0=U.getD t 0) /\
 ah us+bv^(i+j)*c=ah U+bv^i*ah (V.take j)
theorem ui.start{U V:List Int}{i:Nat}(h:aG U):ui U V i 0 U 0 :=
 ⟨rfl,h,oM,oM,rfl,λ_ _=>rfl,by simp[ah]⟩
theorem ui.step{U V:List Int}{i j:Nat}{b:List Int}{c:Int}(h:ui U V i j b c)(l:aG V)(F:i+j<U.length) :
  ui U V i (j+1) (b.set (i+j) ((b.getD (i+j) 0+V.getD j 0+c)%4294967296)) ((b.getD (i+j) 0+V.getD j 0+c)/4294967296):=by
 obtain⟨x,k,C,D,z,B,E⟩:=h;have n:=l.getD j;have m:=k.getD (i+j);rw[aP]at n m;refine⟨by simpa using x,fU k _ (by rw[aP];omega),oM,oM,by rw[lS _ oM];exact z,λt G=>by rw[dX _ _ _ _ oM];exact B t oM,?_⟩;rw[lJ _ _ _ oM,aI];generalize V.getD j 0=y at *;generalize b.getD (i+j) 0=u at *;have e:=Int.mul_ediv_add_emod (u+y+c) 4294967296;generalize(u+y+c)%4294967296=r at *;generalize(u+y+c)/4294967296=q at *;have o:bv^(i+(j+1))=bv^(i+j)*4294967296:=by rw[<-Nat.add_assoc,Int.pow_succ,aP]
 have p:bv^(i+j)=bv^i*bv^j:=Int.pow_add ..;rw[o];have d:ah b=ah U+bv^i*ah (V.take j)-bv^(i+j)*c:=oM;rw[d,p];generalize bv^i=P at *;generalize bv^j=R at *;have s:r=u+y+c-4294967296*q:=oM;rw[s];grind
def vL (A:Int) (V:List Int) (k:Nat) (us qs:List Int):Prop :=
 aG us/\aG qs/\us.length=qs.length+V.length/\ah (us.drop k)<ah V/\A=ah us+ah qs*ah V/\∀j,j<k->qs.getD j 0=0
theorem dZ(l:List Int)(k:Nat)(h:k<=l.length):ah l=ah (l.take k)+bv^k*ah (l.drop k):=by
 conv=>lhs;rw[<-List.take_append_drop k l]
 rw[gP,List.length_take,Nat.min_eq_left h]
theorem oH{l:List Int}(h:aG l){k:Nat}(u:ah l<bv^k):∀j,k<=j->l.getD j 0=0:=λj n=>by
 rcases Nat.lt_or_ge j l.length with hjl|hjl
 ·have o:=dZ l j oM;have p:=aU (h.take j)
  have q:ah (l.drop j)=l.getD j 0+bv*ah (l.drop (j+1)):=by rw[List.drop_eq_getElem_cons hjl,jD,gE hjl];rfl
  have e:=aU (h.drop (j+1));have r:=(h.getD j).1
  have s:bv^k<=bv^j:=by obtain⟨d,rfl⟩:=Nat.exists_eq_add_of_le n;rw[Int.pow_add];have a:0<bv^k:=Int.pow_pos dR;have b:0<bv^d:=Int.pow_pos dR;have:=mZ (oM:(1:Int)<=bv^d) (Int.le_of_lt a);omega
  have i:0<bv^j:=Int.pow_pos dR;rcases Int.lt_or_le 0 (l.getD j 0)with hp|hp
  ·exfalso
   have m:1<=ah (l.drop j):=by have:=Int.mul_nonneg (Int.le_of_lt dR) e;omega
   have:=mZ m (Int.le_of_lt i);omega
  ·omega
 ·rw[jD,gN hjl];rfl
theorem iB(l:List Int)(k j:Nat):(l.drop k).getD j 0=l.getD (k+j) 0:=by rw[jD,List.getElem?_drop,jD]
theorem SV{b:List Int}(h:aG b){i n:Nat}(B:2<=n)(r:ah (b.drop (i+1))<bv^n)(o:i+n<b.length) :
  ∃k,0<=k/\k<bv^(n-2)/\ah (b.drop i)=k+bv^(n-2)*(b.getD (i+n-2) 0+4294967296*(b.getD (i+n) 0*4294967296+b.getD (i+n-1) 0)):=by
 have L:=h.drop i;have hz:=oH (h.drop (i+1)) r;have e:=(h.drop i).take (n-2);refine⟨ah ((b.drop i).take (n-2)),aU e,?_,?_⟩
 ·have:=gK e;rw[List.length_take,List.length_drop,Nat.min_eq_left oM]at this;exact this
 ·have e1:=dZ (b.drop i) (n-2+1+1+1) (by rw[List.length_drop];omega);rw[aI,aI,aI,iB,iB,iB]at e1
  have p:ah ((b.drop i).drop (n-2+1+1+1))=0:=by
   have d:∀x∈(b.drop i).drop (n-2+1+1+1),x=0:=λx s=>by
    obtain⟨j,q,rfl⟩:=List.getElem_of_mem s;have m:((b.drop i).drop (n - 2+1+1+1)).getD j 0=b.getD (i+(n - 2+1+1+1)+j) 0:=by rw[iB,iB];congr 1;omega
    rw[jD,gE q,Option.getD_some]at m;rw[m];have:=hz (n+j) oM;rw[iB]at this;rw[<-this];congr 1;omega
   have:∀l:List Int,(∀x∈l,x=0)->ah l=0:=λl=>by
    induction l with
    | nil=>intro _;rfl
    | cons x l z=>intro h;rw[ah,z λy u=>h y (by simp[u]),h x sM];rfl
   exact this _ d
  rw[p]at e1;rw[e1,(oM:i+(n-2)=i+n-2),(oM:i+(n-2+1)=i+n-1),(oM:i+(n-2+1+1)=i+n),Int.pow_succ,Int.pow_succ,aP];grind
theorem SX{V:List Int}(h:aG V)(i:2<=V.length):∃d,0<=d/\d<bv^(V.length-2)/\ah V=d+bv^(V.length-2)*(V.getD (V.length-2) 0+4294967296*V.getD (V.length-1) 0):=by
 have b:=h.take (V.length-2);refine⟨ah (V.take (V.length-2)),aU b,?_,?_⟩
 ·have:=gK b;rw[List.length_take,Nat.min_eq_left oM]at this;exact this
 ·have e1:=dZ V (V.length-2+1+1) oM;rw[List.drop_of_length_le oM,aI,aI]at e1;rw[e1,(oM:V.length-2+1=V.length-1)]
  have e:bv^(V.length-1)=bv^(V.length-2)*4294967296:=by rw[(oM:V.length-1=V.length-2+1),Int.pow_succ,aP]
  rw[e];simp only[ah];grind
theorem SY{U V us:List Int}{i:Nat}{g c b:Int}(h:uh U V i g V.length us c b)(W:i+V.length<U.length)(p:aG U)(K:ah (U.drop (i+1))<ah V)(G:aG V)(hQ:ah (U.drop i)/ah V<=g)(a1:g-1<=ah (U.drop i)/ah V) :
  let t:=us.getD (i+V.length) 0-c-b
  let d:=us.set (i+V.length) (t%4294967296)
  t<4294967296/\-4294967296<=t/\aG d/\d.length=U.length/\d.take i=U.take i /\
  (¬t<0->g=ah (U.drop i)/ah V/\ah d=ah U-bv^i*(g*ah V)/\ah (d.drop i)<ah V) /\
  (t<0->g-1=ah (U.drop i)/ah V/\ah d=ah U-bv^i*(g*ah V)+bv^(i+V.length+1)/\d.getD (i+V.length) 0=t%4294967296):=by
 intro t d;obtain⟨h1,O,F,h4,h5,h6,h7,h8,h9⟩:=h;have Z:=O.getD (i+V.length);rw[aP]at Z;have ht:t=us.getD (i+V.length) 0 - c - b:=rfl;have n:d=us.set (i+V.length) (t%4294967296):=rfl;have et:t%4294967296=t+(if t<0 then 4294967296 else 0):=by split<;>omega
 have o:aG d:=fU O _ (by rw[aP];exact⟨Int.emod_nonneg _ oM,Int.emod_lt_of_pos _ oM⟩);have J:d.length=U.length:=by rw[n,List.length_set,h1]
 have r:d.take i=U.take i:=by rw[n,lS _ oM,h7]
 have k:ah d=ah U-bv^i*(g*ah V)+bv^(i+V.length)*(if t<0 then 4294967296 else 0):=by rw[n,lJ _ _ _ oM,et];rw[tL (nL _)]at h9;have:ah us=ah U+bv^(i+V.length)*(c+b)-bv^i*(g*ah V):=oM;rw[this,ht];generalize us.getD (i+V.length) 0=u at *;split<;>grind
 have e1:=dZ d i oM;have e2:=dZ U i oM;rw[r]at e1;have a0:0<bv^i:=Int.pow_pos dR;have m:0<ah V:=by have:=aU (p.drop (i+1));omega
 have R:ah (d.drop i)=ah (U.drop i)-g*ah V+bv^V.length*(if t<0 then 4294967296 else 0):=by
  have s:bv^i*ah (d.drop i)=bv^i*(ah (U.drop i)-g*ah V+bv^V.length*(if t<0 then 4294967296 else 0)):=by have z:bv^(i+V.length)=bv^i*bv^V.length:=Int.pow_add ..;rw[z]at k;have B:bv^i*ah (d.drop i)=ah d - ah (U.take i):=oM;rw[B,k,e2];grind
  exact Int.eq_of_mul_eq_mul_left oM s
 have a2:=aU (o.drop i);have X:=Int.emod_lt_of_pos (ah (U.drop i)) m;have L:=Int.emod_nonneg (ah (U.drop i)) (oM:ah V≠0);have a3:=Int.mul_ediv_add_emod (ah (U.drop i)) (ah V);have H:=gK G;refine⟨oM,oM,o,J,r,λM=>?_,λM=>?_⟩
 ·rw[if_neg M]at R k;have I:g*ah V<=ah (U.drop i):=oM;have hg:g<=ah (U.drop i)/ah V:=Int.le_ediv_of_mul_le m I;have e:g=ah (U.drop i)/ah V:=oM;refine⟨e,oM,?_⟩;have C:g*ah V=ah V*(ah (U.drop i)/ah V):=by rw[<-e];grind
  omega
 ·rw[if_pos M]at R k
  have hz:∀j,V.length+1<=j->(d.drop i).getD j 0=0:=λj S=>by rw[iB,n,dX _ _ _ _ oM,h8 _ oM];have:=oH (p.drop (i+1)) (Int.lt_trans K H) (j-1) oM;rw[iB]at this;rw[<-this];congr 1;omega
  have N:ah (d.drop i)<bv^(V.length+1):=by
   have e3:=dZ (d.drop i) (V.length+1) (by rw[List.length_drop];omega)
   have q:∀x∈(d.drop i).drop (V.length+1),x=0:=λx hx=>by obtain⟨j,S,rfl⟩:=List.getElem_of_mem hx;have F:((d.drop i).drop (V.length+1)).getD j 0=(d.drop i).getD (V.length+1+j) 0:=iB _ _ _;rw[jD,gE S,Option.getD_some]at F;rw[F];exact hz _ oM
   have:∀l:List Int,(∀x∈l,x=0)->ah l=0:=λl=>by
    induction l with
    | nil=>intro _;rfl
    | cons x l ih=>intro h;rw[ah,ih λy hy=>h y (by simp[hy]),h x sM];rfl
   rw[this _ q]at e3;have D:=gK ((o.drop i).take (V.length+1));rw[List.length_take,List.length_drop,Nat.min_eq_left oM]at D;omega
  have E:bv^(V.length+1)=bv^V.length*4294967296:=by rw[Int.pow_succ,aP]
  have Y:ah (U.drop i)<g*ah V:=by rw[E]at N;omega
  have a4:g≠ah (U.drop i)/ah V:=λe=>by
   have C:g*ah V=ah V*(ah (U.drop i)/ah V):=by rw[<-e];grind
   omega
  refine⟨oM,?_,by rw[n,qE _ _ _ oM]⟩;rw[k,Int.pow_succ,aP]
theorem S9{U U0 V us:List Int}{i:Nat}{g c:Int}(h:ui U V i V.length us c)(O:i+V.length<U.length)(F:U0.length=U.length)(E:aG U0)(a4:ah (U0.drop (i+1))<ah V)(a0:aG V)(K:U.take i=U0.take i)
  (hz:∀t,i+V.length<t->U.getD t 0=0) (hg:g-1=ah (U0.drop i)/ah V) (hv:ah U=ah U0-bv^i*(g*ah V)+bv^(i+V.length+1)) :
  let b:=us.set (i+V.length) ((us.getD (i+V.length) 0+c)%4294967296)
  aG b/\b.length=U0.length/\b.take i=U0.take i/\ah b=ah U0-bv^i*((g-1)*ah V)/\ah (b.drop i)<ah V:=by
 intro b;obtain⟨W,M,D,h4,Y,Z,h7⟩:=h;have L:=M.getD (i+V.length);rw[aP]at L;have e:b=us.set (i+V.length) ((us.getD (i+V.length) 0+c)%4294967296):=rfl;obtain⟨u,hu⟩:∃u,u=us.getD (i+V.length) 0:=⟨_,rfl⟩;rw[<-hu]at e L;have n:aG b:=by rw[e];exact fU M _ (by rw[aP];exact⟨Int.emod_nonneg _ oM,Int.emod_lt_of_pos _ oM⟩)
 have I:b.length=U0.length:=by rw[e,List.length_set,W,F]
 have k:b.take i=U0.take i:=by rw[e,lS _ oM,Y,K]
 obtain⟨co,H⟩:∃co,co=(u+c)/4294967296:=⟨_,rfl⟩;have N:0<=co/\co<=1:=oM;have e0:=Int.mul_ediv_add_emod (u+c) 4294967296;rw[<-H]at e0;have a1:0<bv^i:=Int.pow_pos dR;have m:0<ah V:=by have:=aU (E.drop (i+1));omega
 rw[tL (nL _)]at h7
 have d:ah b=ah U0-bv^i*((g-1)*ah V)+bv^(i+V.length+1)*(1-co):=by rw[e,lJ _ _ _ oM,<-hu];have e1:ah us=ah U+bv^i*ah V-bv^(i+V.length)*c:=oM;rw[e1,hv,Int.pow_succ,aP];have q:(u+c)%4294967296=u+c-4294967296*co:=oM;rw[q];grind
 have e1:=dZ b i oM;have q:=dZ U0 i oM;rw[k]at e1
 have G:ah (b.drop i)=ah (U0.drop i)-(g-1)*ah V+bv^(V.length+1)*(1-co):=by
  have r:bv^i*ah (b.drop i)=bv^i*(ah (U0.drop i)-(g-1)*ah V+bv^(V.length+1)*(1-co)):=by
   have s:bv^(i+V.length+1)=bv^i*bv^(V.length+1):=by rw[Nat.add_assoc];exact Int.pow_add ..
   rw[s]at d;have z:bv^i*ah (b.drop i)=ah b - ah (U0.take i):=oM;rw[z,d,q];grind
  exact Int.eq_of_mul_eq_mul_left oM r
 have a2:=Int.mul_ediv_add_emod (ah (U0.drop i)) (ah V);have R:=Int.emod_lt_of_pos (ah (U0.drop i)) m;have J:=Int.emod_nonneg (ah (U0.drop i)) (oM:ah V≠0);have a3:(g-1)*ah V=ah V*(ah (U0.drop i)/ah V):=by rw[<-hg];grind
 have a5:ah (b.drop i)<bv^(V.length+1):=by
  have S:=dZ (b.drop i) (V.length+1) (by rw[List.length_drop];omega)
  have o:∀x∈(b.drop i).drop (V.length+1),x=0:=λx hx=>by
   obtain⟨j,hj,rfl⟩:=List.getElem_of_mem hx;have D:((b.drop i).drop (V.length+1)).getD j 0=b.getD (i+(V.length+1)+j) 0:=by rw[iB,iB];congr 1;omega
   rw[jD,gE hj,Option.getD_some]at D;rw[D,e,dX _ _ _ _ oM,Z _ oM];exact hz _ oM
  have:∀l:List Int,(∀x∈l,x=0)->ah l=0:=λl=>by
   induction l with
   | nil=>intro _;rfl
   | cons x l ih=>intro h;rw[ah,ih λy hy=>h y (by simp[hy]),h x sM];rfl
  rw[this _ o]at S;have B:=gK ((n.drop i).take (V.length+1));rw[List.length_take,List.length_drop,Nat.min_eq_left oM]at B;omega
 have p:co=1:=by
  rcases Int.lt_or_le co 1 with h|h
  ·exfalso;have:co=0:=oM;rw[this]at G;have X:bv^(V.length+1)*(1-0)=bv^(V.length+1):=by rw[Int.sub_zero,Int.mul_one]
   omega
  ·omega
 rw[p]at G d;have C:∀x:Int,x*(1-1)=0:=λx=>by rw[Int.sub_self,Int.mul_zero]
 rw[C]at G d;exact⟨n,I,k,oM,oM⟩
theorem vL.step{A:Int}{V us qs us':List Int}{k:Nat}{Q:Int}(h:vL A V (k+1) us qs)(n:k<qs.length)(m:0<=Q)(r:Q<4294967296)(hL:aG us')(o:us'.length=us.length)(hv:ah us'=ah us-bv^k*(Q*ah V))(b:ah (us'.drop k)<ah V):vL A V k us' (qs.set k Q):=by obtain⟨p,e,i,q,l,d⟩:=h;refine⟨hL,fU e _ (by rw[aP];omega),by rw[o,i,List.length_set],b,?_,λj s=>by rw[dX _ _ _ _ oM];exact d j oM⟩;rw[l,hv,lJ _ _ _ n,d k oM];grind
def zV (us:List Int) (P R:Int) (i:Nat) (xs:List Int):Prop :=
 aG xs/\ah (xs.take i)*P=ah (us.take i)-us.getD 0 0%P+bv^i*(us.getD i 0%P)/\xs.length+1<=us.length
theorem zV.start{b:List Int}{P R:Int}{n:Nat}(h:n+1<=b.length):zV b P R 0 (List.replicate n 0) :=
 ⟨jo _,by simp only[List.take_zero,ah];rw[Int.pow_zero];omega,by simpa using h⟩
theorem zV.step{b:List Int}{P R:Int}{i:Nat}{j:List Int}(h:zV b P R i j)(n:aG b)(E:i<j.length)(o:0<P)(I:0<R)(d:P*R=4294967296) :
  let x:=b.getD i 0/P
  let y:=b.getD (i+1) 0%P*R
  0<=x/\x<R/\0<=y/\y+x<4294967296/\zV b P R (i+1) (j.set i (x+y)):=by
 intro x y;obtain⟨B,C,D⟩:=h;have k:=n.getD i;have p:=n.getD (i+1);rw[aP]at k p;have l:x=b.getD i 0/P:=rfl;have m:y=b.getD (i+1) 0%P*R:=rfl;generalize hu:b.getD i 0=u at *;generalize hw:b.getD (i+1) 0=w at *;have G:0<=x:=by rw[l];exact Int.ediv_nonneg k.1 oM
 have x1:x<R:=by rw[l];exact Int.ediv_lt_of_lt_mul o (by rw[Int.mul_comm,d];exact k.2)
 have F:=Int.emod_nonneg w (oM:P≠0);have m1:=Int.emod_lt_of_pos w o;have H:0<=y:=by rw[m];exact Int.mul_nonneg F oM
 have J:y<=(P-1)*R:=by rw[m];exact Int.mul_le_mul_of_nonneg_right oM oM
 have K:(P-1)*R=4294967296-R:=by rw[Int.sub_mul,d];omega
 refine⟨G,x1,H,oM,fU B _ (by rw[aP];omega),?_,by rw[List.length_set];exact D⟩;rw[nE _ _ _ E,aI,hu,hw];have e:=Int.mul_ediv_add_emod u P;rw[<-l]at e;have z:y*P=w%P*4294967296:=by rw[m,<-d];grind
 have q:bv^(i+1)=bv^i*4294967296:=by rw[Int.pow_succ,aP]
 rw[q];generalize bv^i=Q at *;generalize hM:w%P=M at *;generalize hN:u%P=N at *;have r:(ah (j.take i)+Q*(x+y))*P=ah (j.take i)*P+Q*(P*x+y*P):=gR;rw[r,C,z];have s:P*x=u-N:=oM;rw[s];grind
theorem Ta{b rs:List Int}{P R z:Int}{n:Nat}(h:zV b P R n rs)(D:rs.length=n)(d:aG b)(s:n<b.length)(C:0<P)(j:P*R=4294967296)(k:ah b<bv^n)(hz:ah b=P*z):ah rs=z:=by
 obtain⟨y,i,B⟩:=h;have p:=oH d k n (nL _)
 have q:ah (b.take n)=ah b:=by
  have e1:=dZ b n oM
  have m:ah (b.drop n)=0:=by
   have u:=aU (d.drop n);have hp:0<bv^n:=Int.pow_pos dR;have E:=aU (d.take n);rcases Int.lt_or_le 0 (ah (b.drop n))with h|h
   ·have:=mZ (oM:(1:Int)<=ah (b.drop n)) (Int.le_of_lt hp);omega
   ·omega
  rw[m,Int.mul_zero,Int.add_zero]at e1;exact e1.symm
 have r:b.getD 0 0%P=0:=by
  cases b with
  | nil=>simp at s
  | cons x l =>
   have e:ah (x::l)=x+4294967296*ah l:=rfl;rw[e,<-j]at hz;have m:P*(R*ah l)=P*R*ah l:=gR;have:x=P*(z-R*ah l):=by rw[Int.mul_sub];omega
   show x%P=0;rw[this];exact Int.mul_emod_right _ _
 rw[tL oM,q,r,p,hz]at i;have o:(0:Int)%P=0:=Int.zero_emod P;rw[o,Int.mul_zero,Int.sub_zero,Int.add_zero,Int.mul_comm P z]at i;exact Int.eq_of_mul_eq_mul_right oM i
theorem Tc{w P R:Int}(e:0<=w)(h:0<P)(d:0<R)(b:P*R=4294967296):w*4294967296/P%4294967296=w%P*R:=by
 have e1:w*4294967296/P=w*R:=by rw[<-b,(gR:w*(P*R)=w*R*P)];exact Int.mul_ediv_cancel _ oM
 rw[e1,<-b,Int.mul_comm w R,Int.mul_comm P R,Int.mul_emod_mul_of_pos _ _ d,Int.mul_comm]
theorem KD{l:List Int}(h:aG l){n:Nat}(d:n<=l.length)(i:ah l<bv^n):ah (l.take n)=ah l:=by
 have e1:=dZ l n d;have e:=aU (h.drop n);have hp:0<bv^n:=Int.pow_pos dR;have j:=aU (h.take n);rcases Int.lt_or_le 0 (ah (l.drop n))with h|h
 ·have:=mZ (oM:(1:Int)<=ah (l.drop n)) (Int.le_of_lt hp);omega
 ·have b:ah (l.drop n)=0:=oM;rw[b,Int.mul_zero,Int.add_zero]at e1;exact e1.symm
theorem Yl{B vs:List Int}{n k b:Nat}(LB:aG B)(r:B.length=n+2)(q:B.getD (n+1) 0<((2^b:Nat):Int))(e:b+k=32)(h:aG vs)(hv:ah vs=ah B*((2^k:Nat):Int))(s:vs.length=n+2+1):ah (vs.take (n+2))=ah vs:=by
 refine KD h oM ?_;have e1:=dZ B (n+1+1) oM;rw[List.drop_of_length_le oM,aI]at e1;have e0:ah ([]:List Int)=0:=rfl;rw[e0,Int.mul_zero,Int.add_zero]at e1;have i:=gK (LB.take (n+1));rw[List.length_take,Nat.min_eq_left oM]at i;have hp:0<bv^(n+1):=Int.pow_pos dR;have p:(0:Int)<((2^k:Nat):Int):=Int.ofNat_lt.2 (Nat.pow_pos dM)
 have j:ah B<bv^(n+1)*((2^b:Nat):Int):=by have l:=mZ (oM:B.getD (n+1) 0+1<=((2^b:Nat):Int)) (Int.le_of_lt hp);rw[Int.mul_add,Int.mul_one]at l;omega
 have m:((2^b:Nat):Int)*((2^k:Nat):Int)=4294967296:=by rw[<-Int.natCast_mul,<-Nat.pow_add,e];rfl
 have d:=Int.mul_lt_mul_of_pos_right j p;rw[hv,Int.pow_succ,aP];rw[aP]at d;have o:(4294967296:Int)^(n+1)*((2^b:Nat):Int)*((2^k:Nat):Int)=4294967296^(n+1)*4294967296:=by rw[Int.mul_assoc,m]
 rw[o]at d;exact d
theorem Vk{V:List Int}{n:Nat}{P:Int}(h:aG V)(l:V.length=n+2)(k:0<P)(b:bv^(n+1)*P<=ah V):1<=V.getD (n+1) 0:=by
 have e1:=dZ V (n+1+1) oM;rw[List.drop_of_length_le oM,aI]at e1;have e0:ah ([]:List Int)=0:=rfl;rw[e0,Int.mul_zero,Int.add_zero]at e1;have d:=gK (h.take (n+1));rw[List.length_take,Nat.min_eq_left oM]at d;have hp:0<bv^(n+1):=Int.pow_pos dR;have i:=(h.getD (n+1)).1;rcases Int.lt_or_le (V.getD (n+1) 0) 1 with h3|h3
 ·exfalso;have e:V.getD (n+1) 0=0:=oM;rw[e,Int.mul_zero]at e1;have j:=mZ (oM:1<=P) (Int.le_of_lt hp);omega
 ·exact h3
theorem Ql{A us V:List Int}{n D:Nat}{P:Int}(h:aG A)(p:A.length+1=D+(n+2))(d:aG us)(hu:us.length=A.length+1)(r:ah us=ah A*P)(k:0<P)(b:bv^(n+1)*P<=ah V)(q:V.length=n+2):vL (ah us) V D us (List.replicate D 0):=by refine⟨d,jo D,by rw[List.length_replicate];omega,?_,by rw[mR,Int.zero_mul,Int.add_zero],λj l=>by rw[jD,List.getElem?_replicate,if_pos l];rfl⟩;have e1:=dZ us D oM;have m:=aU (d.take D);have hp:0<bv^D:=Int.pow_pos dR;have e:=gK h;rw[(oM:A.length=D+(n+1)),Int.pow_add]at e;have o:=Int.mul_lt_mul_of_pos_right e k;have i:=mZ b (Int.le_of_lt hp);rw[<-Int.mul_assoc]at i;exact Int.lt_of_mul_lt_mul_left (a:=bv^D) oM (Int.le_of_lt hp)
theorem OA(l:List Int){n j:Nat}(h:j<n):(l.take n).getD j 0=l.getD j 0:=by rw[jD,List.getElem?_take,if_pos h,jD]
def KE (r d:List Int):Int :=
 if r.length=d.length then max 1 (r.getD (r.length-1) 0/(d.getD (d.length-1) 0+1))
 else(r.getD (r.length-1) 0*4294967296+r.getD (r.length-2) 0)/(d.getD (d.length-1) 0+1)*bv^(r.length-d.length-1)
theorem Qm{l:List Int}(h:aG l){n:Nat}(e:l.length=n+1):bv^n*l.getD n 0<=ah l/\ah l<bv^n*(l.getD n 0+1):=by have e1:=dZ l (n+1) oM;rw[List.drop_of_length_le oM,aI]at e1;have e0:ah ([]:List Int)=0:=rfl;rw[e0,Int.mul_zero,Int.add_zero]at e1;have b:=gK (h.take n);rw[List.length_take,Nat.min_eq_left oM]at b;have d:=aU (h.take n);rw[Int.mul_add,Int.mul_one];exact⟨oM,oM⟩
theorem Td{l:List Int}(h:aG l){n:Nat}(i:l.length=n+2):bv^n*(l.getD (n+1) 0*4294967296+l.getD n 0)<=ah l:=by
 have e1:=dZ l (n+1+1) oM;rw[List.drop_of_length_le oM,aI,aI]at e1;have e0:ah ([]:List Int)=0:=rfl;rw[e0,Int.mul_zero,Int.add_zero]at e1;have e:=aU (h.take n);have b:bv^(n+1)=bv^n*4294967296:=by rw[Int.pow_succ,aP]
 rw[b]at e1;have d:bv^n*(l.getD (n+1) 0*4294967296+l.getD n 0)=bv^n*l.getD n 0+bv^n*4294967296*l.getD (n+1) 0:=gR;omega
theorem EM{r d:List Int}(j:aG r)(i:aG d)(nd:gL d)(hd:1<=d.length)(h:ah d<=ah r):d.length<=r.length:=by
 rcases Nat.lt_or_ge r.length d.length with hl|hl
 ·exfalso;have k:=gK j;have l:=nd.low i hd
  have m:bv^r.length<=bv^(d.length-1):=by obtain⟨e,he⟩:=Nat.exists_eq_add_of_le (oM:r.length<=d.length - 1);rw[he,Int.pow_add];have a:0<bv^r.length:=Int.pow_pos dR;have b:0<bv^e:=Int.pow_pos dR;have:=mZ (oM:(1:Int)<=bv^e) (Int.le_of_lt a);omega
  omega
 ·exact hl
theorem xm{l:List Int}(h:aG l)(j:gL l){n:Nat}(d:l.length=n+1):1<=l.getD n 0:=by
 have b:l≠[]:=λe=>by rw[e]at d;simp at d
 have i:=j b;have k:=(h.getD n).1;rw[List.getLast_eq_getElem]at i
 have:l.getD n 0=l[l.length-1]'(oM):=by
  rw[jD,gE oM];show l[n]'(oM)=_
  congr 1;omega
 omega
theorem Vm{r d:List Int}(b:aG r)(e:aG d)(H:gL r)(nd:gL d)(hd:1<=d.length)(h:ah d<=ah r):1<=KE r d/\KE r d*ah d<=ah r:=by
 have J:=EM b e nd hd h;obtain⟨m,hm⟩:∃m,d.length=m+1:=⟨d.length - 1,oM⟩;have x:=(Qm e hm).2;have E:=xm e nd hm;have i:=(e.getD m).2;rw[aP]at i;have z:0<bv^m:=Int.pow_pos dR;have y:=aU e;unfold KE;rw[hm,Nat.add_sub_cancel];obtain⟨low,j⟩:∃low,low=d.getD m 0+1:=⟨_,rfl⟩;rw[<-j]at x ⊢;split
 ·rename_i he;refine⟨oM,?_⟩;rw[he,Nat.add_sub_cancel];have o:=(Qm b he).1;have G:=(b.getD m).1;rcases Int.le_total (r.getD m 0/low) 1 with h1|h1
  ·rw[Int.max_eq_left h1];omega
  ·rw[Int.max_eq_right h1];generalize r.getD m 0=t at *;have k:t/low*low<=t:=Int.ediv_mul_le t oM;have q:t/low*ah d<=t/low*(bv^m*low):=mZ oM oM;have s:t/low*(bv^m*low)=bv^m*(t/low*low):=gR;have u:=mZ k (Int.le_of_lt z);omega
 ·rename_i he;obtain⟨n,p⟩:∃n,r.length=n+2:=⟨r.length - 2,oM⟩;rw[p,Nat.add_sub_cancel,(oM:n+2 - 1=n+1)];have o:=Td b p;have G:=xm b H (n:=n+1) oM;have I:=(b.getD n).1;obtain⟨T,C⟩:∃T,T=r.getD (n+1) 0*4294967296+r.getD n 0:=⟨_,rfl⟩;rw[<-C]at o ⊢;have D:4294967296<=T:=oM;have l:1<=T/low:=Int.le_ediv_of_mul_le oM oM;have F:n+2 - (m+1) - 1=n - m:=oM;rw[F];have B:0<bv^(n - m):=Int.pow_pos dR;refine⟨?_,?_⟩
  ·have:=Int.mul_le_mul l (oM:(1:Int)<=bv^(n-m)) oM oM;omega
  ·have k:T/low*low<=T:=Int.ediv_mul_le T oM;have e1:bv^n=bv^(n-m)*bv^m:=by rw[<-Int.pow_add];congr 1;omega
   have q:T/low*bv^(n-m)*ah d<=T/low*bv^(n-m)*(bv^m*low):=mZ oM (Int.mul_nonneg oM oM);have s:T/low*bv^(n-m)*(bv^m*low)=bv^n*(T/low*low):=by rw[e1];grind
   have u:=mZ k (Int.le_of_lt (show 0<bv^n from Int.pow_pos dR));omega
theorem OB{T low:Int}(b:0<=T)(d:2<=low)(l:T<18446744073709551616)(k:Nat):ah (List.replicate k 0++[T/low%4294967296,T/low/4294967296%4294967296])=T/low*bv^k:=by have i:=Int.ediv_nonneg b (oM:0<=low);have j:T/low<=T:=Int.ediv_le_self low b;generalize T/low=q at *;rw[gP,mR,List.length_replicate];simp only[ah];rw[aP];have e:q/4294967296%4294967296=q/4294967296:=oM;rw[e];have h:q%4294967296+4294967296*(q/4294967296+4294967296*0)=q:=oM;rw[h,Int.zero_add,Int.mul_comm]
end Q
end
