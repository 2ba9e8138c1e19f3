/- A division of small polynomials ends, whether or not it is exact. No program in sight. -/
import Derived.Test.YtopclbeomcggiaaGreatY30
import Derived.Test.YtopclbeomcggiaaGreatY31
set_option linter.unusedVariables false
set_option linter.unusedSimpArgs false
set_option maxHeartbeats 16000000
set_option maxRecDepth 100000
section
namespace Q
open MP Go.Proofs.YtopclbeomcggiaaGreat
def wt (B:Int) (e:Ex):Int:=e.1+B*(e.2.1+B*(e.2.2.1+B*e.2.2.2))
theorem Xr(B:Int)(e f:Ex):wt B (e.add f)=wt B e+wt B f:=by simp only[wt,Ex.add];grind
theorem Xt(B:Int)(e f:Ex):wt B (e.sub f)=wt B e-wt B f:=by simp only[wt,Ex.sub];grind
theorem cK{B x x' h b:Int}(d:0<=B)(j:x<=B-1)(i:0<=x')(e:h<b):x+B*h<x'+B*b:=by have:=mZ (oM:h+1<=b) d;rw[Int.mul_add,Int.mul_one]at this;omega
theorem lv{B x h H:Int}(b:0<=B)(e:x<=B-1)(d:h<=H-1):x+B*h<=B*H-1:=by have:=mZ (oM:h+1<=H) b;rw[Int.mul_add,Int.mul_one]at this;omega
theorem YH{v d:Nat}{g u:Ex}(hg:g.nat=true)(hu:u.nat=true)(hd:∀w,w<v->u.get w<=d)(hz:∀w,v<w->w<4->u.get w=0/\g.get w=0)(h:g.gt u=true):wt ((d:Int)+1) u<wt ((d:Int)+1) g:=by
 rw[Ex.gt_iff]at h;rw[Ex.nat_iff]at hg hu;have d0:=hd 0;have d1:=hd 1;have d2:=hd 2;have j:=hz 1;have k:=hz 2;have l:=hz 3;simp only[Ex.get]at d0 d1 d2 j k l;have b:(0:Int)<=(d:Int)+1:=oM;unfold wt;rcases h with h|⟨e,h|⟨i,h|⟨e1,h⟩⟩⟩
 ·have hv:3<=v:=by
   rcases Nat.lt_or_ge v 3 with h'|h'
   ·have:=l h' oM;omega
   ·exact h'
  exact cK b (by have:=d0 oM;omega) oM (cK b (by have:=d1 oM;omega) oM (cK b (by have:=d2 oM;omega) oM h))
 ·have hv:2<=v:=by
   rcases Nat.lt_or_ge v 2 with h'|h'
   ·have:=k h' oM;omega
   ·exact h'
  rw[e];exact cK b (by have:=d0 oM;omega) oM (cK b (by have:=d1 oM;omega) oM oM)
 ·have hv:1<=v:=by
   rcases Nat.lt_or_ge v 1 with h'|h'
   ·have:=j h' oM;omega
   ·exact h'
  rw[e,i];exact cK b (by have:=d0 oM;omega) oM oM
 ·rw[e,i,e1];omega
def TA (v d M:Nat):Nat:=(M+1)*(d+1)^v
theorem YI{v d M:Nat}{e:Ex}(hv:v<4)(hd:∀w,w<v->e.get w<=d)(hm:e.get v<=M)(hz:∀w,v<w->w<4->e.get w=0):wt ((d:Int)+1) e<=(TA v d M:Nat):=by
 have d0:=hd 0;have d1:=hd 1;have d2:=hd 2;have n:=hz 1;have l:=hz 2;have j:=hz 3;simp only[Ex.get]at d0 d1 d2 n l j;have b:(0:Int)<=(d:Int)+1:=oM
 have e1:((TA v d M:Nat):Int)=((M:Int)+1)*((d:Int)+1)^v:=by unfold TA;rw[Int.natCast_mul,Int.natCast_pow];rfl
 rw[e1];unfold wt;obtain rfl|rfl|rfl|rfl:v=0\/v=1\/v=2\/v=3:=oM
 ·simp only[Ex.get]at hm;rw[n oM oM,l oM oM,j oM oM,Int.mul_zero,Int.add_zero,Int.mul_zero,Int.add_zero,Int.mul_zero,Int.add_zero,Int.pow_zero,Int.mul_one];omega
 ·simp only[Ex.get]at hm;rw[l oM oM,j oM oM,Int.mul_zero,Int.add_zero,Int.mul_zero,Int.add_zero];have:=lv (h:=e.2.1) (H:=(M:Int)+1) b (show e.1<=_ by have:=d0 oM;omega) oM;have i:((M:Int)+1)*((d:Int)+1)^1=((d:Int)+1)*((M:Int)+1):=gR;rw[i];omega
 ·simp only[Ex.get]at hm;rw[j oM oM,Int.mul_zero,Int.add_zero];have k:=lv (h:=e.2.2.1) (H:=(M:Int)+1) b (show e.2.1<=_ by have:=d1 oM;omega) oM;have m:=lv b (show e.1<=_ by have:=d0 oM;omega) k;have i:((M:Int)+1)*((d:Int)+1)^2=((d:Int)+1)*(((d:Int)+1)*((M:Int)+1)):=gR;rw[i];omega
 ·simp only[Ex.get]at hm;have k:=lv (h:=e.2.2.2) (H:=(M:Int)+1) b (show e.2.2.1<=_ by have:=d2 oM;omega) oM;have m:=lv b (show e.2.1<=_ by have:=d1 oM;omega) k;have o:=lv b (show e.1<=_ by have:=d0 oM;omega) m;have i:((M:Int)+1)*((d:Int)+1)^3=((d:Int)+1)*(((d:Int)+1)*(((d:Int)+1)*((M:Int)+1))):=gR;rw[i];omega
def Vk (v d W:Nat) (w:Nat):Nat:=if w<=v then W/(d+1)^w else 0
theorem YJ{B:Int}(b:0<=B){e:Ex}(he:e.nat=true):e.1<=wt B e/\e.2.1*B<=wt B e/\e.2.2.1*B^2<=wt B e/\e.2.2.2*B^3<=wt B e:=by
 rw[Ex.nat_iff]at he;obtain⟨h0,j,k,l⟩:=he;have m:=Int.mul_nonneg b j;have n:=Int.mul_nonneg b (Int.mul_nonneg b k);have o:=Int.mul_nonneg b (Int.mul_nonneg b (Int.mul_nonneg b l));have e1:wt B e=e.1+B*e.2.1+B*(B*e.2.2.1)+B*(B*(B*e.2.2.2)):=by unfold wt;grind
 have d:e.2.1*B=B*e.2.1:=Int.mul_comm _ _;have h:e.2.2.1*B^2=B*(B*e.2.2.1):=gR;have i:e.2.2.2*B^3=B*(B*(B*e.2.2.2)):=gR;rw[e1,d,h,i];omega
theorem Xu{v d W:Nat}{e:Ex}(he:e.nat=true)(n:wt ((d:Int)+1) e<=W)(hz:∀w,v<w->w<4->e.get w=0):M4 (Vk v d W) e:=by
 refine⟨he,λw m=>?_⟩;unfold Vk;split
 ·have o:=Ex.nat_get he w;obtain⟨k,b⟩:∃k:Nat,e.get w=k:=⟨(e.get w).toNat,oM⟩;rw[b];refine Int.ofNat_le.2 ((Nat.le_div_iff_mul_le (Nat.pow_pos oM)).2 ?_);refine Int.ofNat_le.1 (Int.le_trans ?_ n);obtain⟨i,g1,j,l⟩:=YJ (B:=(d:Int)+1) oM he;have h:((k*(d+1)^w:Nat):Int)=e.get w*((d:Int)+1)^w:=by rw[b,Int.natCast_mul,Int.natCast_pow];rfl
  rw[h];obtain rfl|rfl|rfl|rfl:w=0\/w=1\/w=2\/w=3:=oM
  ·rw[Int.pow_zero,Int.mul_one];exact i
  ·rw[(gR:((d:Int)+1)^1=(d:Int)+1)];exact g1
  ·exact j
  ·exact l
 ·rw[hz w oM m];omega
theorem In.inv{b:Nat}{p:MP}(h:In b p)(h0:p≠0):In b (c (1/Q.hd p)):=by
 obtain⟨D,H,q,r,B,l⟩:=h
 obtain⟨z,hz⟩:∃z:Int,Q.hd p*(D:Rat)=(z:Rat):=by obtain⟨t,u,e⟩:=IE h0;rw[e];exact l.d t u
 have j:(D:Rat)≠0:=jQ q;have s:=yU h0;have k:=IG h0
 have x:z≠0:=λe=>by rw[e]at hz;exact jm s j hz
 have i:((z.natAbs:Nat):Rat)=bJ (z:Rat):=(Q.rabs_int z).symm
 have y:z.natAbs<=H:=by
  have e1:=Rat.mul_le_mul_of_nonneg_left (Ty h0) (bU D);have m:bJ (z:Rat)=(D:Rat)*bJ (Q.hd p):=by rw[<-hz,jS,bT (bU D)];grind
  have n:((z.natAbs:Nat):Rat)<=(H:Rat):=by rw[i,m];exact Rat.le_trans e1 l.a
  exact Rat.natCast_le_natCast.1 n
 refine⟨z.natAbs,D,oM,oM,r,Sk ?_,?_⟩
 ·rcases Int.natAbs_eq z with e|e
  ·refine⟨D,?_⟩;rw[<-iN,<-e,<-hz,iN];grind
  ·refine⟨-D,?_⟩;rw[<-iN,(oM:((z.natAbs:Nat):Int)=-z),Rat.intCast_neg,Rat.intCast_neg,<-hz,iN];grind
 ·rw[Mq,i,<-hz,jS,bT (bU D)];have o:bJ (Q.hd p)*bJ (1/Q.hd p)=1:=by rw[<-jS,k];exact rT
  have:bJ (Q.hd p)*(D:Rat)*bJ (1/Q.hd p)=(bJ (Q.hd p)*bJ (1/Q.hd p))*(D:Rat):=gR;rw[this,o,Rat.one_mul];exact Rat.le_refl
def OC (e:Ex) (h:e.nat=true):MP:=⟨[(e,1)],Bt h (by decide)⟩
theorem Gq(e:Ex)(h:e.nat=true):uh 1 1 (OC e h):=by refine⟨λt b=>by rw[List.mem_singleton.1 b];exact Dv.int 1 1,?_⟩;show((1:Nat):Rat)*(bJ 1+0)<=((1:Nat):Rat);rw[rT,Rat.add_zero,Rat.mul_one];exact Rat.le_refl
theorem Xv{e:Ex}(h:e.nat=true){r:Rat}(b:r≠0)(hv:bQ [(e,r)]):(⟨[(e,r)],hv⟩:MP)=c r*OC e h:=by refine MP.eq_of ?_;rw[tQ];show [(e,r)]=bS [(e,1)] r;rw[bS,if_neg b];show [(e,r)]=[(e,1*r)];rw[Rat.one_mul]
theorem OD{v d W b0 bz:Nat}{z:MP}{g:aj}{ts:List aj}(E:z.l=g::ts)(j:∀t∈z.l,(∀w,w<v->t.1.get w<=d)/\∀w,v<w->w<4->t.1.get w=0)(hz:In bz z){dB:Nat->Nat}(hB:∀e:Ex,e.nat=true->wt ((d:Int)+1) e<=W->(∀w,v<w->w<4->e.get w=0)->M4 dB e)(I:bx dB<=10000)(a8:b0+bz+(bx dB+1)*(bz+1)<LB) :
  ∀(n:Nat)(a:MP)(out:List aj)(S:List Ex),S.Nodup->(∀e∈S,M4 dB e)->(∀e∈S,∀t∈a.l,e.gt t.1=true)->(∀t∈a.l,wt ((d:Int)+1) t.1<=W/\∀w,v<w->w<4->t.1.get w=0)->In (b0+S.length*(bz+1)) a->bx dB+1<=n+S.length->∃r,rW (g::ts) g n a.l out=some r
 | 0,a,out,S,hS,hSb,_,_,_,hn=>by have:=IJ hS hSb;omega
 | n+1,a,out,S,hS,hSb,hSg,ha,hi,hn=>by
  have z0:z≠0:=λh=>by have:=zero_iff.1 h;rw[E]at this;cases this
  have o:g.2≠0:=(z.v.2 g (by rw[E];simp)).1;have q:g∈z.l:=by rw[E];simp
  cases ea:a.l with
  | nil=>exact⟨_,by rw[rW]⟩
  | cons m a' =>
   have k:m∈a.l:=by rw[ea];simp
   have a0:a≠0:=λh=>by have:=zero_iff.1 h;rw[ea]at this;cases this
   have hm:=ha m k;have Z:=(a.v.2 m k).2;have Y:=hB m.1 Z hm.1 hm.2;have N:(m.1::S).Nodup:=List.nodup_cons.2 ⟨λh=>(by have:=hSg _ h m k;rw[Ex.gt_irrefl]at this;cases this),hS⟩
   have C:∀e∈m.1::S,M4 dB e:=λe he=>by
    rcases List.mem_cons.1 he with rfl|he
    ·exact Y
    ·exact hSb e he
   have X:=IJ N C;rw[List.length_cons]at X;have a1:=Nat.mul_le_mul_right (bz+1) (oM:S.length+1<=bx dB+1);rw[Nat.add_mul S.length,Nat.one_mul]at a1;have a3:=qL (OA λt F=>hB t.1 (a.v.2 t F).2 (ha t F).1 (ha t F).2) hi I oM;rw[ea]at a3;rw[rW,if_pos a3];by_cases hq:(m.1.sub g.1).nat=true
   ·rw[if_pos hq];have va:bQ (m::a'):=ea▸a.v;have i:=Si va o hq;have a9:m.2≠0:=(a.v.2 m k).1;have a4:hd z=g.2:=yX E;have a5:hd a=m.2:=yX ea
    have R:(1:Rat)/g.2≠0:=λh=>by have:=IG z0;rw[a4,h]at this;grind
    have M:m.2/g.2=m.2*(1/g.2):=by
     have b:=Rat.div_mul_cancel (a:=1) o;have B:=Rat.div_mul_cancel (a:=m.2) o;have G:(m.2/g.2 - m.2*(1/g.2))*g.2=0:=gR;rcases Rat.mul_eq_zero.1 G with h|h
     ·grind
     ·exact absurd h o
    have et:(⟨[gQ m g],i⟩:MP)=c (hd a)*(c (1/hd z)*OC _ hq):=by
     have a2:bQ [(m.1.sub g.1,m.2*(1/g.2))]:=by rw[<-M];exact i
     have:=Xv hq (jm a9 R) a2;rw[a4,a5];have e2:c (m.2*(1/g.2))=c m.2*c (1/g.2):=(mR _ _).symm;rw[e2]at this;have e3:(⟨[gQ m g],i⟩:MP)=⟨[(m.1.sub g.1,m.2*(1/g.2))],a2⟩:=MP.eq_of (congrArg (λx=>[(m.1.sub g.1,x)]) M);rw[e3,this];grind
    have a7:In (b0+S.length*(bz+1)+(bz+0)) (⟨[gQ m g],i⟩:MP):=by rw[et];exact(hi.hd a0).mul ((hz.inv z0).mul ⟨1,1,oM,nL _,nL _,Gq _ hq⟩)
    have aa:=qL (d:=dB) (p:=(⟨[gQ m g],i⟩:MP)) (OA λt F=>by
     rw[List.mem_singleton.1 F];refine⟨hq,λw hw=>?_⟩;have b:=Y.2 w hw;have B:=Ex.nat_get (z.v.2 g q).2 w;show(m.1.sub g.1).get w<=_
     have G:(m.1.sub g.1).get w=m.1.get w-g.1.get w:=by rcases w with _|_|_|w<;>rfl
     omega) a7 I oM
    rw[if_pos aa];obtain⟨t,F⟩:∃t:MP,t=⟨[gQ m g],i⟩:=⟨_,rfl⟩
    have e2:gp (m::a') (aZ (g::ts) [gQ m g])=(a-z*t).l:=by rw[F,<-ea,<-E];rfl
    have e3:(a-z*t).l=canon (Xa a' ts (gQ m g)):=by rw[<-e2];exact Xb Z o
    rw[e2]
    have hP:∀u∈(a-z*t).l,m.1.gt u.1=true/\wt ((d:Int)+1) u.1<=W/\∀w,v<w->w<4->u.1.get w=0:=by
     rw[e3];refine mf (P:=λe=>m.1.gt e=true/\wt ((d:Int)+1) e<=W/\∀w,v<w->w<4->e.get w=0) λu hu=>?_;rcases List.mem_append.1 hu with hu|hu
     ·exact⟨va.1.head u hu,ha u (by rw[ea];simp[hu])⟩
     ·obtain⟨s,hs,rfl⟩:=List.mem_map.1 hu;have y:s∈z.l:=by rw[E];simp[hs]
      have O:g.1.gt s.1=true:=(E▸z.v:bQ (g::ts)).1.head s hs;have b:=O
      have B:m.1=(m.1.sub g.1).add g.1:=by simp only[Ex.add,Ex.sub];refine Ex.ext' ?_ ?_ ?_ ?_<;>simp only<;>omega
      have G:(s.1.add (m.1.sub g.1))=(m.1.sub g.1).add s.1:=Ex.add_comm _ _;refine⟨?_,?_,λw b J=>?_⟩
      ·show m.1.gt (s.1.add (m.1.sub g.1))=true;rw[G];rw[<-Ex.gt_add (m.1.sub g.1),<-B]at b;exact b
      ·show wt _ (s.1.add (m.1.sub g.1))<=_;have h5:=YH (z.v.2 g q).2 (z.v.2 s y).2 (j s y).1 (λw b B=>⟨(j s y).2 w b B,(j g q).2 w b B⟩) O;rw[Xr,Xt];have:=hm.1;omega
      ·show(s.1.add (m.1.sub g.1)).get w=0;have h6:=(j s y).2 w b J;have h7:=(j g q).2 w b J;have h8:=hm.2 w b J
       have h9:(m.1.sub g.1).get w=m.1.get w-g.1.get w:=by rcases w with _|_|_|w<;>rfl
       rw[Ex.get_add];omega
    have a6:In (b0+(m.1::S).length*(bz+1)) (a-z*t):=by
     obtain⟨D,H,b,B,G,J⟩:=hi;obtain⟨L,K,k1,k2,k3,k4⟩:=hz.nrm;have e4:z*t=c (hd a)*(OC _ hq*nrm z):=by rw[F,et,nrm];grind
     have i1:=(J.hd a0).mul ((Gq _ hq).mul k4);rw[Nat.one_mul,Nat.one_mul,<-e4]at i1;have i2:=(J.up L).sub i1
     have ab:2^(b0+(m.1::S).length*(bz+1))=2^(b0+S.length*(bz+1))*2^bz*2:=by rw[List.length_cons,Nat.add_mul,Nat.one_mul,<-Nat.add_assoc,<-Nat.add_assoc,Nat.pow_succ,Nat.pow_add]
     have p1:=Nat.mul_le_mul B k2;have p2:=Nat.mul_le_mul G k2;have p3:=Nat.mul_le_mul G k3;exact⟨D*L,H*L+H*K,Nat.mul_pos b k1,oM,oM,i2⟩
    exact OD E j hz hB I a8 n (a-z*t) (out++[gQ m g]) (m.1::S) N C (λe he u hu=>by
     rcases List.mem_cons.1 he with rfl|he
     ·exact(hP u hu).1
     ·exact Ex.gt_trans (hSg e he m k) (hP u hu).1) (λu hu=>(hP u hu).2) a6 (by rw[List.length_cons];omega)
   ·rw[if_neg hq];exact⟨_,rfl⟩
theorem Vm{v d M b0 bz:Nat}{a z:MP}(hv:v<4)(E:z≠0)(ha:∀w,w<v->a.deg w<=d)(o:a.deg v<=M)(hz:∀w,w<v->z.deg w<=d)(C:a.lo (v+1))(D:z.lo (v+1))(y:In b0 a)(B:In bz z)
  (q:bx (Vk v d (TA v d M))<=10000) (s:b0+bz+(bx (Vk v d (TA v d M))+1)*(bz+1)<LB):∃r,zU a.l z.l=some r:=by
 obtain⟨g,ts,u⟩:=je E;have hd:∀(p:MP)(w:Nat)(k:Int),p.deg w<=k->∀t∈p.l,t.1.get w<=k:=λp w k h t b=>Int.le_trans (dR b w) h
 obtain⟨r,x⟩:=OD (v:=v) (d:=d) (W:=TA v d M) (b0:=b0) (dB:=Vk v d (TA v d M)) u (λt b=>⟨λw i=>hd z w d (hz w i) t b,λw m n=>fr_get (D w m n) b⟩) B
  (λe he i h=>Xu he i h) q s fuel a [] [] List.nodup_nil (λe h=>by cases h) (λe h=>by cases h)
  (λt b=>by
   have j:∀w,v<w->w<4->t.1.get w=0:=λw m n=>fr_get (C w m n) b
   exact⟨YI hv (λw i=>hd a w d (ha w i) t b) (hd a v M o t b) j,j⟩)
  (by simpa using y) (by unfold fuel;simp only[List.length_nil];omega)
 exact⟨r,by rw[u];exact x⟩
def dW (v x t:Nat) (w:Nat):Nat:=if w<v then x else if w=v then t else 0
theorem Ag{v x t:Nat}(hv:v<4):bx (dW v x t)=(t+1)*(x+1)^v:=by
 obtain rfl|rfl|rfl|rfl:v=0\/v=1\/v=2\/v=3:=oM
 ·simp[bx,dW]
 ·simp[bx,dW,Nat.mul_comm]
 ·simp[bx,dW,Nat.pow_succ,Nat.mul_comm]
 ·simp[bx,dW,Nat.pow_succ,Nat.mul_comm]
theorem ui{v x t:Nat}{p:MP}(j:p.lo (v+1))(i:∀w,w<v->p.deg w<=x)(b:p.deg v<=t):Dg (dW v x t) p:=λw d=>by
 unfold dW;split
 ·exact i w aM
 ·split
  ·rename_i e;rw[e];exact b
  ·have h:p.deg w<=0:=j w oM d;exact h
theorem Dg.lo{v x t:Nat}{p:MP}(h:Dg (dW v x t) p):p.lo (v+1):=λw d b=>by have:=h w b;rw[dW,if_neg oM,if_neg oM]at this;exact this
theorem Dg.lo0{v x:Nat}{p:MP}(h:Dg (dW v x 0) p):p.lo v:=λw d b=>by
 have:=h w b;rw[dW,if_neg oM]at this;have e:(if w=v then 0 else 0)=0:=by split<;>rfl
 rw[e]at this;exact this
theorem Dg.low{v x t:Nat}(hv:v<4){p:MP}(h:Dg (dW v x t) p):∀w,w<v->p.deg w<=x:=λw b=>by have:=h w oM;rwa[dW,if_pos b]at this
theorem Dg.top{v x t:Nat}(hv:v<4){p:MP}(h:Dg (dW v x t) p):p.deg v<=t:=by have:=h v hv;rwa[dW,if_neg oM,if_pos rfl]at this
def gM (D H:Nat) (d:Nat->Nat) (l:List aj):Prop:=∃p:MP,p.l=l/\uh D H p/\Dg d p
theorem gM.nil(D H:Nat)(d:Nat->Nat):gM D H d []:=⟨0,rfl,uh.zero D H,λw _=>by rw[deg_zero];omega⟩
theorem gM.get{D H:Nat}{d:Nat->Nat}{L:List (List aj)}(h:∀c∈L,gM D H d c)(i:Nat):gM D H d (L.getD i []):=by
 rw[jD]
 cases hi:L[i]? with
 | none=>exact gM.nil D H d
 | some c=>exact h c (List.mem_of_getElem? hi)
theorem gM.mul{D H e i:Nat}{d d':Nat->Nat}{p q:List aj}(h:gM D H d p)(k:gM e i d' q):gM (D*e) (H*i) (λw=>d w+d' w) (aZ p q):=by obtain⟨a,rfl,l,m⟩:=h;obtain⟨b,rfl,n,k2⟩:=k;exact⟨a*b,rfl,l.mul n,λw j=>Int.le_trans (dh w a b (m w j) (k2 w j) oM) sM⟩
theorem gM.sub{D H e:Nat}{d:Nat->Nat}{p q:List aj}(h:gM D H d p)(j:gM D e d q):gM D (H+e) d (gp p q):=by obtain⟨a,rfl,k,l⟩:=h;obtain⟨b,rfl,m,k2⟩:=j;exact⟨a - b,rfl,k.sub m,λw i=>by have:=nD w a b;have:=l w i;have:=k2 w i;omega⟩
theorem gM.mono{D H b:Nat}{d:Nat->Nat}{p:List aj}(h:gM D H d p)(k:H<=b):gM D b d p:=by obtain⟨a,e,i,j⟩:=h;exact⟨a,e,i.mono k,j⟩
theorem M6{D R:List (List aj)}{k d j b:Nat}{dr l:Nat->Nat}(e:∀c∈D,gM j b l c)(h:∀c∈R,gM k d dr c):∀c∈fZ D R,gM (k*j) (d*b+d*b) (λw=>dr w+l w) c:=λc hc=>by
 simp only[fZ,List.mem_map]at hc;obtain⟨i,-,rfl⟩:=hc;split
 ·exact((gM.get h _).mul (gM.get e _)).sub ((gM.get h _).mul (gM.get e _))
 ·exact((gM.get h _).mul (gM.get e _)).mono oM
theorem Gs{D:List (List aj)}{Da Ha d b s:Nat}{da e:Nat->Nat}(h:∀c∈D,gM d b e c)
  (k:∀j,j<=s->∀c,gM (Da*d^j) (Ha*(2*b)^j) (λw=>da w+j*e w) c->DV c=true) :
  ∀(f j:Nat)(R:List (List aj)),R.length+j<=s+(D.length-1)\/R.length<=D.length-1->j<=s->(∀c∈R,gM (Da*d^j) (Ha*(2*b)^j) (λw=>da w+j*e w) c) ->
   MI D f R=true/\∃i,i<=s/\∀c∈gH D f R,gM (Da*d^i) (Ha*(2*b)^i) (λw=>da w+i*e w) c
 | 0,j,R,_,hj,hR=>⟨rfl,j,hj,hR⟩
 | f+1,j,R,hl,hj,hR=>by
  unfold MI gH;split
  ·rename_i p;have n:=M6 h hR
   have o:∀c∈fZ D R,gM (Da*d^(j+1)) (Ha*(2*b)^(j+1)) (λw=>da w+(j+1)*e w) c:=λc hc=>by
    have:=n c hc;have e1:Da*d^j*d=Da*d^(j+1):=by rw[Nat.pow_succ,Nat.mul_assoc]
    have l:Ha*(2*b)^j*b+Ha*(2*b)^j*b=Ha*(2*b)^(j+1):=by rw[Nat.pow_succ,<-Nat.mul_two,Nat.mul_assoc,Nat.mul_assoc,Nat.mul_comm b 2]
    have m:(λw=>da w+j*e w+e w)=λw=>da w+(j+1)*e w:=funext λw=>by rw[Nat.add_mul,Nat.one_mul,Nat.add_assoc]
    rw[e1,l,m]at this;exact this
   obtain⟨q,k2⟩:=Gs h k f (j+1) (fZ D R) (by rw[iL];omega) oM o;refine⟨?_,k2⟩;rw[Bool.and_eq_true,List.all_eq_true];exact⟨λc hc=>k j hj c (hR c hc),q⟩
  ·exact⟨rfl,j,hj,hR⟩
theorem M7(p:List aj)(v:Nat)(i:Int):bF (gU p v i)=bF p:=by
 unfold gU
 induction p with
 | nil=>rfl
 | cons u l b=>simp only[List.map_cons,bF,b]
theorem Ev{v D H:Nat}{d:Nat->Nat}(hv:v<4)(j:d v=0):∀(L:List (List aj))(i:Nat),(∀c∈L,gM D H d c) ->
  (∀t∈fromL v i L,(t.1.nat=true/\(∀w,w<4->w≠v->t.1.get w<=d w)/\t.1.get v<=((i+L.length:Nat):Int))/\Dv D t.2)/\(D:Rat)*bF (fromL v i L)<=((L.length*H:Nat):Rat)/\(fromL v i L).length<=L.length*bx d
 | [],i,_=>⟨λt b=>(by cases b),by
   show(D:Rat)*0<=((0*H:Nat):Rat)
   rw[Rat.mul_zero];exact bU _,by simp[fromL]⟩
 | c::L,i,h=>by
  obtain⟨p,rfl,n,o⟩:=h c sM;obtain⟨s,k2,B⟩:=Ev hv j L (i+1) λc hc=>h c (by simp[hc])
  have e:fromL v (i:Int) (p.l::L)=gU p.l v i++fromL v ((i+1:Nat):Int) L:=by rw[fromL];rfl
  rw[e];refine⟨λt b=>?_,?_,?_⟩
  ·rcases List.mem_append.1 b with b|b
   ·obtain⟨u,hu,rfl⟩:=List.mem_map.1 b;obtain⟨n1,n2⟩:=o.inB u hu;have m:u.1.get v=0:=by have:=n2 v hv;have:=Ex.nat_get n1 v;omega
    refine⟨⟨Ex.put_nat n1 v oM,λw q k=>?_,?_⟩,n.d u hu⟩
    ·show(u.1.put v _).get w<=_;rw[Ex.get_put_ne _ hv q (Ne.symm k)];exact n2 w q
    ·show(u.1.put v (u.1.get v+i)).get v<=_;rw[Ex.get_put,m];simp only[List.length_cons];omega
   ·obtain⟨⟨m1,x,C⟩,y⟩:=s t b;exact⟨⟨m1,x,by simp only[List.length_cons];omega⟩,y⟩
  ·rw[uB,M7,Rat.mul_add,List.length_cons,Nat.add_mul,Nat.one_mul,Rat.natCast_add];have:=n.a;have r:(D:Rat)*p.am=(D:Rat)*bF p.l:=rfl;rw[r]at this;grind
  ·have z:=o.len;rw[List.length_append,List.length_cons,Nat.add_mul,Nat.one_mul];have:(gU p.l v i).length=p.l.length:=by unfold gU;rw[List.length_map]
   omega
theorem Ew{x a j:Nat}(h:x<=2^a):x^j<=2^(a*j):=by rw[Nat.pow_mul];exact Nat.pow_le_pow_left h j
theorem Qi{v A al M s lM:Nat}{a b:MP}(hv:v<4)(b0:b≠0)(la:a.lo (v+1))(lb:b.lo (v+1))(ha:∀w,w<v->a.deg w<=A)(hb:∀w,w<v->b.deg w<=A)(ia:In al a)(ib:In al b)
  (hs:a.deg v+1<=b.deg v+s) (hM:b.deg v<=M) (hlM:M<=2^lM) (Z:(M+1)*((s+1)*A+1)^v<=10000) (L:(s+1)*(al+1)+lM<LB) :
  Ub a.l b.l v=some (oO v a b).l/\In ((s+1)*(al+1)+lM) (oO v a b)/\(∀w,w<v->(oO v a b).deg w<=((s+1)*A:Nat))/\(oO v a b).deg v<=M/\(oO v a b).lo (v+1):=by
 obtain⟨Da,Ha,a1,a2,a3,a4⟩:=ia;obtain⟨E,F,b1,b2,b3,b4⟩:=ib
 have hrow:∀(p:MP)(D H:Nat),p.lo (v+1)->(∀w,w<v->p.deg w<=A)->uh D H p->∀c∈aB p.l v,gM D H (dW v A 0) c:=λp D H lp hp z c hc=>by
  obtain⟨n,rfl⟩:=fH hc;refine⟨p.co v n,rfl,z.co v n,λw G=>?_⟩;unfold dW;split
  ·exact rP v n p G hv (hp w aM)
  ·have S:(p.co v n).deg w<=0:=I7 hv lp w oM G;omega
 have a0:=deg_pos b0 v;have lD:(aB b.l v).length=(b.deg v).toNat+1:=by rw[eB];have e:aD b.l v=b.deg v:=rfl;omega
 have lR:((aB a.l v).length:Int)<=a.deg v+1:=by rw[eB];have e:aD a.l v=a.deg v:=rfl;have:=deg_ge v a;omega
 have k:bx (dW v ((s+1)*A) M)<=10000:=by rw[Ag hv];exact Z
 have I:∀j,j<=s->∀w,dW v A 0 w+j*dW v A 0 w<=dW v ((s+1)*A) M w:=λj B w=>by
  unfold dW;split
  ·have:=Nat.mul_le_mul_right A B;rw[Nat.add_mul];omega
  ·split<;>simp
 have q:∀j,j<=s->Da*E^j<=2^((s+1)*(al+1))/\Ha*(2*F)^j<=2^((s+1)*(al+1)):=λj B=>by
  have p1:=Ew (j:=j) b2;have p2:(2*F)^j<=2^((al+1)*j):=Ew (by rw[Nat.pow_succ];omega);have q1:=Nat.mul_le_mul a2 p1;have q2:=Nat.mul_le_mul a3 p2;rw[<-Nat.pow_add]at q1 q2;have r0:=Nat.mul_le_mul_left (al+1) B;have r1:al*j<=(al+1)*j:=Nat.mul_le_mul_right _ oM;have r2:(s+1)*(al+1)=(al+1)*s+(al+1):=by rw[Nat.mul_comm,Nat.mul_add,nU]
  exact⟨Nat.le_trans q1 (Nat.pow_le_pow_right oM oM),Nat.le_trans q2 (Nat.pow_le_pow_right oM oM)⟩
 have hpos:∀j,0<Da*E^j:=λj=>Nat.mul_pos a1 (Nat.pow_pos b1)
 have N:∀j,j<=s->∀c,gM (Da*E^j) (Ha*(2*F)^j) (λw=>dW v A 0 w+j*dW v A 0 w) c->DV c=true:=λj B c hc=>by obtain⟨p,rfl,S,h2⟩:=hc;exact qL (h2.mono (I j B)) ⟨_,_,hpos j,(q j B).1,(q j B).2,S⟩ k oM
 obtain⟨k1,i,z,k2⟩:=Gs (Da:=Da) (Ha:=Ha) (da:=dW v A 0) (hrow b E F lb hb b4) N (aB a.l v).length 0 (aB a.l v)
  (by rw[lD];omega) oM (λc hc=>by
   have:=hrow a Da Ha la ha a4 c hc;have e3:(λw=>dW v A 0 w+0*dW v A 0 w)=dW v A 0:=funext λw=>by rw[Nat.zero_mul,Nat.add_zero]
   rw[Nat.pow_zero,Nat.pow_zero,nU,nU,e3];exact this)
 have y:=Ae (aB b.l v) (aB a.l v).length (aB a.l v) oM;obtain⟨R,W⟩:∃R,R=gH (aB b.l v) (aB a.l v).length (aB a.l v):=⟨_,rfl⟩;rw[<-W]at k2 y;have X:R.length<=M:=by rw[lD]at y;omega
 have J:dW v A 0 v+i*dW v A 0 v=0:=by simp[dW]
 obtain⟨f1,f2,f3⟩:=Ev hv (d:=λw=>dW v A 0 w+i*dW v A 0 w) J R 0 k2
 have hL:R.length*(Ha*(2*F)^i)<=2^((s+1)*(al+1)+lM):=by rw[Nat.add_comm,Nat.pow_add];exact Nat.mul_le_mul oM (q i z).2
 have hD:Da*E^i<=2^((s+1)*(al+1)+lM):=Nat.le_trans (q i z).1 (Nat.pow_le_pow_right oM oM)
 have u:∀t∈fromL v ((0:Nat):Int) R,M4 (dW v ((s+1)*A) M) t.1:=λt m=>by
  obtain⟨⟨m1,m2,m3⟩,-⟩:=f1 t m;refine⟨m1,λw G=>?_⟩;by_cases O:w=v
  ·subst O;rw[dW,if_neg oM,if_pos rfl];omega
  ·have h6:t.1.get w<=((dW v A 0 w+i*dW v A 0 w:Nat):Int):=m2 w G O;have h7:=I i z w;omega
 have C:(fromL v ((0:Nat):Int) R).length<=10000:=by
  have S:bx (λw=>dW v A 0 w+i*dW v A 0 w)<=((s+1)*A+1)^v:=by
   have e:(λw=>dW v A 0 w+i*dW v A 0 w)=dW v (A+i*A) 0:=funext λw=>by
    unfold dW;split
    ·rfl
    ·split<;>simp
   rw[e,Ag hv,Nat.one_mul];exact Nat.pow_le_pow_left (by have:=Nat.mul_le_mul_right A z;rw[Nat.add_mul s 1 A];omega) v
  have h2:=Nat.mul_le_mul X S;have h3:(M+1)*((s+1)*A+1)^v=M*((s+1)*A+1)^v+((s+1)*A+1)^v:=by rw[Nat.add_mul,Nat.one_mul]
  omega
 have Y:=Tz (b:=(s+1)*(al+1)+lM) u k C (hpos i) hD hL (λt m=>(f1 t m).2) f2 L;have r:(oO v a b).l=canon (fromL v ((0:Nat):Int) R):=by rw[W];rfl
 have K:uh (Da*E^i) (R.length*(Ha*(2*F)^i)) (oO v a b):=by
  refine⟨λt m=>?_,?_⟩
  ·rw[r]at m;exact yH (λt m=>(f1 t m).2) t m
  ·refine Rat.le_trans (Rat.mul_le_mul_of_nonneg_left ?_ (bU _)) f2;show bF (oO v a b).l<=_;rw[r];exact qD _
 have o:Dg (dW v ((s+1)*A) M) (oO v a b):=OA λt m=>by rw[r]at m;exact mf (P:=M4 (dW v ((s+1)*A) M)) u t m
 have x:In ((s+1)*(al+1)+lM) (oO v a b):=⟨_,_,hpos i,hD,hL,K⟩;refine⟨?_,x,o.low hv,o.top hv,o.lo⟩;have G:=qL o x k L;unfold Ub;simp only;rw[<-W,if_pos ⟨λh=>b0 (zero_iff.2 h),k1,Y,List.all_eq_true.2 λc hc=>N i z c (k2 c hc)⟩];have:=Es G;rw[r]at this ⊢;exact this
theorem za{v:Nat}(hv:v<4){z k f:MP}(o:z.lo (v+1))(pz:z.prim v)(l:k.lo v)(k0:k≠0)(h:z∣k*f):z∣f:=by
 have key:∀n:Nat,v+1+n<=4->∀f:MP,f.lo (v+1+n)->z∣k*f->z∣f:=λn=>by
  induction n with
  | zero=>intro _ f j h;exact fA (oI v oM) hv j pz l k0 h
  | succ n m =>
   intro p f j h;have b:z.fr (v+1+n):=o _ oM oM;have d:k.fr (v+1+n):=l _ oM oM;refine(dvd_iff_co b f).2 λi=>m oM _ (I7 oM j) ?_;have:=(dvd_iff_co b (k*f)).1 h i;rwa[co_mul_fr d]at this
 have e:v+1+(3-v)=4:=oM;exact key (3-v) oM f (by rw[e];exact K9 f) h
theorem M8{u U v R d la xi H X b l2:Nat}(hu:1<=u)(j:u<=U)(z:0<R)(s:H<=2^b)(o:2*U*R^v<=2^l2)(i:la=l2+b)(C:X=2^xi-1)
  (hc:(la+xi)*((U-1)*(R+d)^v)<xi*(U*R^v)) :
  (2*(u*R^v*(X*H))+1)^((u-1)*(R+d)^v)<(X+1)^(u*R^v)/\u*R^v*(X*H)<=2^(la+xi):=by
 have x:0<2^xi:=Nat.pow_pos oM;have h:X+1=2^xi:=oM
 have p:2*(u*R^v)*H<=2^la:=by rw[i,Nat.pow_add];refine Nat.mul_le_mul (Nat.le_trans ?_ o) s;rw[Nat.mul_assoc 2 U];exact Nat.mul_le_mul_left 2 (Nat.mul_le_mul_right _ j)
 have q:2*(u*R^v*(X*H))+1<=2^(la+xi):=by
  have e1:2*(u*R^v*(X*H))=2*(u*R^v)*H*X:=by rw[Nat.mul_comm X H,<-Nat.mul_assoc,<-Nat.mul_assoc,<-Nat.mul_assoc]
  have k:=Nat.mul_le_mul_right X p;have l:2^la*X+2^la=2^(la+xi):=by rw[Nat.pow_add,<-h,Nat.mul_add,nU]
  have r:0<2^la:=Nat.pow_pos oM;rw[e1];omega
 refine⟨?_,oM⟩
 have k:(2*(u*R^v*(X*H))+1)^((u-1)*(R+d)^v)<=2^((la+xi)*((u-1)*(R+d)^v)):=by have e:2^((la+xi)*((u-1)*(R+d)^v))=(2^(la+xi))^((u-1)*(R+d)^v):=Nat.pow_mul ..;rw[e];exact Nat.pow_le_pow_left q _
 refine Nat.lt_of_le_of_lt k ?_;rw[h,<-Nat.pow_mul];refine Nat.pow_lt_pow_right oM ?_
 have l:(u-1)*U<=u*(U-1):=by rw[Nat.sub_mul,Nat.mul_sub,Nat.one_mul,nU];omega
 have B:0<U:=oM;refine Nat.lt_of_mul_lt_mul_right (a:=U) ?_
 have r:(la+xi)*((u-1)*(R+d)^v)*U<=u*((la+xi)*((U-1)*(R+d)^v)):=by
  have e1:(la+xi)*((u-1)*(R+d)^v)*U=(la+xi)*(R+d)^v*((u-1)*U):=by simp only[Nat.mul_comm,Nat.mul_left_comm,Nat.mul_assoc]
  have m:u*((la+xi)*((U-1)*(R+d)^v))=(la+xi)*(R+d)^v*(u*(U-1)):=by simp only[Nat.mul_comm,Nat.mul_left_comm,Nat.mul_assoc]
  rw[e1,m];exact Nat.mul_le_mul_left _ l
 have y:u*((la+xi)*((U-1)*(R+d)^v))<u*(xi*(U*R^v)):=Nat.mul_lt_mul_of_pos_left hc hu;have n:u*(xi*(U*R^v))=xi*(u*R^v)*U:=by simp only[Nat.mul_comm,Nat.mul_left_comm,Nat.mul_assoc]
 rw[<-n];omega
theorem AY{v M d b R la xi l2 kap U:Nat}(hv:v<4){p q x y z k t e:MP}(h:Sq v p q x y)(y0:y≠0)(k0:k≠0)(kf:k.lo v)(e0:e≠0)(ef:e.fr v)(H:k*x=t*y+e*z)(F:z.deg v<y.deg v)(z0:z≠0)(pz:z.prim v)(lz:z.lo (v+1))
  (Z:p≠0) (q0:q≠0) (lp:p.lo (v+1)) (lq:q.lo (v+1)) (hp:∀w,w<v->p.deg w<=d) (hq:∀w,w<v->q.deg w<=d) (ip:In b p) (iq:In b q) (hm:p.deg v<=M) (hn:q.deg v<=M) (a5:y.deg v<=p.deg v) (a6:y.deg v<=q.deg v)
  (hU:2*(M:Int)+2<=U+2*y.deg v) (hR:0<R) (h2:2*U*R^v<=2^l2) (W:la=l2+b) (hc:(la+xi)*((U-1)*(R+d)^v)<xi*(U*R^v)) (hk:qN (dW v (R-1+d) M) (v+1)<=2^kap) :
  (∀w,w<v->z.deg w<=((U*d:Nat):Int))/\In (la+xi+kap) (nrm z):=by
 have a7:=deg_pos z0 v;obtain⟨m,em⟩:∃m:Nat,p.deg v=m:=⟨(p.deg v).toNat,oM⟩;obtain⟨n,en⟩:∃n:Nat,q.deg v=n:=⟨(q.deg v).toNat,oM⟩;obtain⟨K,eK⟩:∃K:Nat,y.deg v=(K:Int)+1:=⟨(y.deg v).toNat - 1,oM⟩;have hu:1<=m+n - 2*K:=oM;have I:m+n - 2*K<=U:=oM;refine⟨λw C=>?_,?_⟩
 ·obtain⟨S,T,B,hS,r,u⟩:=LX (v:=v) (w:=w) hv oM oM (m:=m) (n:=n) (k:=K) oM oM oM oM (hp w C) (hq w C);obtain⟨f0,c',c0,J,hd⟩:=h.dvd hv y0 k0 kf e0 ef H F z0 (f:=S*p+T*q) (K:=(K:Int)) rfl r (.inr oM) B oM oM;have h3:=dvd_deg f0 (za hv lz pz J c0 hd) w;have h4:(m+n - 2*K)*d<=U*d:=Nat.mul_le_mul_right _ I;omega
 ·obtain⟨j,Hp,a1,a2,a3,a4⟩:=ip;obtain⟨Dq,Hq,b1,b2,b3,b4⟩:=iq;have l:(j:Rat)≠0:=jQ a1;have o:(Dq:Rat)≠0:=jQ b1
  have L:(c (j:Rat)*p).am<=((2^b:Nat):Rat):=by rw[tT,bT (bU _)];exact Rat.le_trans a4.a (Gp a3)
  have N:(c (Dq:Rat)*q).am<=((2^b:Nat):Rat):=by rw[tT,bT (bU _)];exact Rat.le_trans b4.a (Gp b3)
  obtain⟨X,hX⟩:∃X,X=2^xi - 1:=⟨_,rfl⟩;obtain⟨n1,n2⟩:=M8 (d:=d) hu I hR (nL (2^b)) h2 W hX hc;have lP:(c (j:Rat)*p).lo (v+1):=gV Z (Eo l p).1 lp;have lQ:(c (Dq:Rat)*q).lo (v+1):=gV q0 (Eo o q).1 lq
  obtain⟨S,T,B,hS,r,u,E,D,s⟩:=JZ hv lP lQ (rU a4.d) (rU b4.d) (m:=m) (n:=n) (k:=K) (d:=d) (by rw[vJ l Z];omega) (by rw[vJ o q0];omega) oM oM
   (λw C=>by rw[vJ l Z];exact hp w C) (λw C=>by rw[vJ o q0];exact hq w C) L N hR n1
  have i:S*(c (j:Rat)*p)+T*(c (Dq:Rat)*q)=(S*c (j:Rat))*p+(T*c (Dq:Rat))*q:=gR
  have a0:(S*c (j:Rat)).deg v<=S.deg v:=by have h5:(c (j:Rat)).deg v<=0:=ow _ v;have:=dh v S (c (j:Rat)) (Int.le_refl _) h5 (by have:=deg_ge v S;omega);omega
  have G:S*c (j:Rat)≠0\/T*c (Dq:Rat)≠0:=B.imp (λh=>mul_ne h (zR l)) λh=>mul_ne h (zR o);obtain⟨f,hf⟩:∃f,f=S*(c (j:Rat)*p)+T*(c (Dq:Rat)*q):=⟨_,rfl⟩;rw[<-hf]at r u E D s i;obtain⟨f0,c',c0,J,hd⟩:=h.dvd hv y0 k0 kf e0 ef H F z0 (f:=f) (K:=(K:Int)) i r (.inr oM) G oM oM;have Y:=za hv lz pz J c0 hd
  have O:In (la+xi) f:=by refine⟨1,_,oM,Nat.one_le_two_pow,n2,E,?_⟩;rw[show((1:Nat):Rat)=1 from rfl,Rat.one_mul];exact D
  exact O.fac (n:=v+1) oM f0 Y s (ui s u oM) hk
structure nu where
 M:Nat
 d:Nat
 b:Nat
 E:Nat
 br:Nat
 kE:Nat
 k0:Nat
 lM:Nat
 P:Nat
 R:Nat->Nat
 l2:Nat->Nat
 xi:Nat->Nat
 kap:Nat->Nat
namespace nu
def bE (L:nu):Nat:=L.br+L.kE
def cz (L:nu) (v x:Nat):Nat:=if v=0 then 0 else x+L.kE
def b1 (L:nu) (v:Nat):Nat:=if v=0 then L.b else L.b+(L.b+L.k0)
def mu (L:nu) (v U:Nat):Nat:=if U=1 then L.b1 v else L.l2 U+L.b1 v+L.xi U+L.kap U
def U (L:nu) (k:Nat):Nat:=2*L.M+2-2*k
end nu
structure qO (v:Nat) (L:nu):Prop where
 hv:v<4
 hlM:L.M<=2^L.lM
 k0:qN (dW v L.d L.M) (v+1)<=2^L.k0
 kE:qN (dW v L.E 0) v<=2^L.kE
 mono:∀U,U<2*L.M->1<=U->L.mu v U<=L.mu v (U+1)
 sg:∀U,U<2*L.M+1->2<=U->0<L.R U/\2*U*L.R U^v<=2^L.l2 U/\(L.l2 U+L.b1 v+L.xi U)*((U-1)*(L.R U+L.d)^v)<L.xi U*(U*L.R U^v)/\qN (dW v (L.R U-1+L.d) L.M) (v+1)<=2^L.kap U
 p1:(L.M+1)*(1*L.d)<=L.P/\(L.M+1)*(L.b1 v+1)+L.lM<LB
 pk:∀k,k<L.M+1->2<=k->(k+1)*(L.U k*L.d)<=L.P/\(k+1)*(L.mu v (L.U k)+1)+L.lM<LB
 bP:(L.M+1)*(L.P+1)^v<=10000
 e1:L.M*(1*L.d)<=L.E/\L.M*(L.b1 v+1)+L.lM<=L.br
 ek:∀k,k<L.M+1->3<=k->k*(L.U k*L.d)<=L.E/\k*(L.mu v (L.U k)+1)+L.lM<=L.br
 dE:L.d<=L.E/\L.b<=L.br/\L.E<=L.P/\1<=L.M
 x1:L.br+L.mu v (2*L.M)+L.cz v L.br<LB
 x2:L.b1 v+L.cz v L.b<LB
 dv:bx (Vk v L.d (TA v L.d L.M))<=10000/\L.b1 v+L.b1 v+(bx (Vk v L.d (TA v L.d L.M))+1)*(L.b1 v+1)<LB
 fin:L.bE+L.mu v (2*L.M)<LB
 fl:L.M+1<fuel
def QF (d:Nat->Nat) (b:Nat) (G:List aj->List aj->Option (List aj)):Prop:=∀x y:MP,Dg d x->Dg d y->In b x->In b y->∃r,G x.l y.l=some r
theorem uj{g:MP}(h:hd g=1):nrm g=g:=by rw[nrm,h,(dK:(1:Rat)/1=1),Aw];grind
theorem su{v:Nat}{L:nu}(h:qO v L){x:Nat}{g f:MP}(hg:hd g=1)(f0:f≠0)(hd:g∣f)(b:Dg (dW v L.E 0) f)(j:In x f):Dg (dW v L.E 0) g/\In (L.cz v x) g:=by
 have hv:=h.hv;refine⟨b.dvd f0 hd,?_⟩;unfold nu.cz;split
 ·rename_i e;subst e;obtain⟨r,rfl⟩:=kL (gV f0 hd b.lo0);have k:r≠0:=λe=>by rw[e,Cm]at hg;cases hg
  have d:=wD k 1;have i:c r*1=c r:=gR;rw[i,hg,qI,Rat.one_mul]at d;rw[<-d,Aw];exact In.one 0
 ·have:=j.fac (n:=v) oM f0 hd b.lo0 b h.kE;rwa[uj hg]at this
theorem OE{v:Nat}{L:nu}{x:Nat}(b:x<=L.br):L.cz v x<=L.bE:=by unfold nu.cz nu.bE;split<;>omega
def YK (v:Nat) (L:nu) (x:Nat) (l:List aj):Prop:=∃f:MP,f.l=l/\Dg (dW v L.E 0) f/\In x f
theorem OG{v x:Nat}{L:nu}(h:qO v L)(B:x<=L.br){G:List aj->List aj->Option (List aj)}(s:Ov G)(y:QF (dW v L.E 0) L.bE G):∀(l:List (List aj))(b:MP),(∀c∈l,YK v L x c) ->
  (b=0\/(hd b=1/\∃f:MP,f≠0/\b∣f/\Dg (dW v L.E 0) f/\In x f))->∃r,vB G b.l l=some r
 | [],b,_,_=>⟨_,rfl⟩
 | c::l,b,hl,ha=>by
  obtain⟨f,rfl,p,hf⟩:=hl c sM
  have d:Dg (dW v L.E 0) b/\In L.bE b:=by
   rcases ha with e|⟨F,q,f0,k,m,o⟩
   ·rw[e];exact⟨λw _=>by rw[deg_zero];omega,In.zero _⟩
   ·obtain⟨C,D⟩:=su h F f0 k m o;exact⟨C,D.mono (OE B)⟩
  obtain⟨r,z⟩:=y b f d.1 p d.2 (hf.mono (by unfold nu.bE;omega));obtain⟨g,rfl,hg⟩:=s b f r z;rw[vB,z];simp only;split
  ·exact⟨_,rfl⟩
  ·refine OG h B s y l g (λc hc=>hl c (by simp[hc])) ?_;by_cases j:g=0
   ·exact .inl j
   ·refine .inr ⟨hg.n j,?_⟩;by_cases f0:f=0
    ·rcases ha with e|⟨-,q,h0,k,m,o⟩
     ·exact absurd (zero_dvd (hg.i.u 0 (by rw[e];exact dvd_refl 0) (by rw[f0];exact dvd_refl 0))) j
     ·exact⟨q,h0,dvd_trans hg.i.l k,m,o⟩
    ·exact⟨f,f0,hg.i.r,p,hf⟩
theorem Ah{v x:Nat}{L:nu}(h:qO v L){a:MP}(i:a.lo (v+1))(ha:∀w,w<v->a.deg w<=L.E)(e:In x a)(n:Nat):Dg (dW v L.E 0) (a.co v n)/\In x (a.co v n):=by
 refine⟨λw b=>?_,e.co v n⟩;unfold dW;split
 ·exact rP v n a b h.hv (ha w aM)
 ·have d:(a.co v n).deg w<=0:=I7 h.hv i w oM b;split<;>exact d
theorem Ey{v x:Nat}{L:nu}(h:qO v L)(y:x<=L.br){G:List aj->List aj->Option (List aj)}(k:Ov G)(u:QF (dW v L.E 0) L.bE G){a:MP}(q:a.lo (v+1))(ha:∀w,w<v->a.deg w<=L.E)(p:In x a) :
  ∃g:MP,ni G a.l v=some g.l/\uG v g a/\(g≠0->hd g=1)/\(a≠0->Dg (dW v L.E 0) g/\In (L.cz v x) g):=by
 obtain⟨r,o⟩:=OG h y k u (aB a.l v) 0 (λc hc=>by
  obtain⟨n,e⟩:=fH hc;obtain⟨b,i⟩:=Ah h q ha p n
  exact⟨a.co v n,e.symm,b,i⟩) (.inl rfl)
 obtain⟨g,rfl,hg,m⟩:=qJ k (a:=a) (v:=v) o;refine⟨g,o,hg,m,λj=>?_⟩;have s:=dvd_ne j hg.d;obtain⟨b,i⟩:=Ah h q ha p (a.deg v).toNat;exact su h (m s) (lc_ne j v) ((dvd_iff_co hg.f a).1 hg.d _) b i
theorem OH{v:Nat}{L:nu}(h:qO v L){U:Nat}(b:1<=U):∀k:Nat,U+k<=2*L.M->L.mu v U<=L.mu v (U+k)
 | 0,_=>nL _
 | k+1,hk=>Nat.le_trans (OH h b k (by omega)) (h.mono (U+k) (by omega) (by omega))
theorem zb{v:Nat}{L:nu}(h:qO v L){U b:Nat}(d:1<=U)(e:U<=b)(i:b<=2*L.M):L.mu v U<=L.mu v b:=by have:=OH h d (b - U) oM;rwa[(oM:U+(b - U)=b)]at this
theorem KF{v:Nat}{L:nu}(h:qO v L){G:List aj->List aj->Option (List aj)}(hG:Ov G)(hX:QF (dW v L.E 0) L.bE G)
  {p q:MP} (p0:p≠0) (q0:q≠0) (lp:p.lo (v+1)) (lq:q.lo (v+1)) (hp:∀w,w<v->p.deg w<=L.d) (hq:∀w,w<v->q.deg w<=L.d) (ip:In (L.b1 v) p) (iq:In (L.b1 v) q) (hm:p.deg v<=L.M) (hn:q.deg v<=L.M) :
  ∀(n:Nat)(x y:MP)(U:Nat),y.deg v<n->Sq v p q x y->x.prim v->y.prim v->x.lo (v+1)->y.lo (v+1)->(∀w,w<v->x.deg w<=((U*L.d:Nat):Int))->(∀w,w<v->y.deg w<=((U*L.d:Nat):Int))->In (L.mu v U) x->In (L.mu v U) y ->
   1<=U->U<=2*L.M->(U=1\/((U:Int)+2*x.deg v=2*(L.M:Int)+2/\y.deg v<x.deg v))->1<=y.deg v->y.deg v<=x.deg v->x.deg v<=L.M->y.deg v<=p.deg v->y.deg v<=q.deg v ->
   ∃s:MP,rX G v n x.l y.l=some s.l/\In (L.mu v (2*L.M)) s
 | 0,x,y,U,hlt,_,_,_,_,_,_,_,_,_,_,_,_,u,_,_,_,_=>by omega
 | n+1,x,y,U,hlt,hS,px,py,lx,ly,dx,dy,ix,iy,hU1,hU2,hUc,hy1,hyx,hxM,hyp,hyq=>by
  have hv:=h.hv;have y0:=bZ py;have x0:=bZ px;obtain⟨k,hk⟩:∃k:Nat,x.deg v=k:=⟨(x.deg v).toNat,oM⟩;obtain⟨j,hj⟩:∃j:Nat,y.deg v=j:=⟨(y.deg v).toNat,oM⟩
  have a0:(k-j+1+1)*(U*L.d)<=L.P/\(k-j+1+1)*(L.mu v U+1)+L.lM<LB:=by
   rcases hUc with e|⟨e,W⟩
   ·subst e;have u:=h.p1;have D:=Nat.mul_le_mul_right (1*L.d) (oM:k-j+1+1<=L.M+1);have K:=Nat.mul_le_mul_right (L.mu v 1+1) (oM:k-j+1+1<=L.M+1);have h4:L.mu v 1=L.b1 v:=if_pos rfl;rw[h4]at K ⊢;omega
   ·have u:=h.pk k oM oM;have e2:L.U k=U:=by unfold nu.U;omega
    rw[e2]at u;have D:=Nat.mul_le_mul_right (U*L.d) (oM:k-j+1+1<=k+1);have K:=Nat.mul_le_mul_right (L.mu v U+1) (oM:k-j+1+1<=k+1);omega
  obtain⟨r1,r2,r3,r4,r5⟩:=Qi (M:=L.M) (s:=k - j+1) (lM:=L.lM) hv y0 lx ly dx dy ix iy oM oM h.hlM
   (Nat.le_trans (Nat.mul_le_mul_left _ (Nat.pow_le_pow_left (by have:=a0.1;omega) v)) h.bP) a0.2
  obtain⟨t,s',J,ad⟩:=Gm (a:=x) y0 v;obtain⟨r,hr⟩:∃r,r=oO v x y:=⟨_,rfl⟩;rw[<-hr]at r1 r2 r3 r4 r5 J ad;rw[rX,r1];have X:L.mu v U<=L.mu v (2*L.M):=zb h hU1 hU2 (nL _)
  cases er:r.l with
  | nil=>exact⟨y,rfl,iy.mono X⟩
  | cons a l =>
   simp only;have z:r≠0:=λe=>by rw[zero_iff.1 e]at er;cases er
   split
   ·exact⟨1,by rw[pO],In.one _⟩
   ·rename_i a8
    have ag:1<=r.deg v:=by
     have u:=deg_pos z v;have D:r.deg v≠0:=by show aD r.l v≠0;rw[er];exact a8
     omega
    have Z:(k-j+1+1)*(U*L.d)<=L.E/\(k-j+1+1)*(L.mu v U+1)+L.lM<=L.br:=by
     rcases hUc with e|⟨e,W⟩
     ·subst e;have u:=h.e1;have D:=Nat.mul_le_mul_right (1*L.d) (oM:k-j+1+1<=L.M);have K:=Nat.mul_le_mul_right (L.mu v 1+1) (oM:k-j+1+1<=L.M);have h4:L.mu v 1=L.b1 v:=if_pos rfl;rw[h4]at K ⊢;omega
     ·have u:=h.ek k oM oM;have e2:L.U k=U:=by unfold nu.U;omega
      rw[e2]at u;have D:=Nat.mul_le_mul_right (U*L.d) (oM:k-j+1+1<=k);have K:=Nat.mul_le_mul_right (L.mu v U+1) (oM:k-j+1+1<=k);omega
    have a1:∀w,w<v->r.deg w<=L.E:=λw hw=>by have:=r3 w hw;have:=Z.1;omega
    have a2:In L.br r:=r2.mono Z.2;obtain⟨g,c1,c2,c3,c4⟩:=Ey h (nL _) hG hX r5 a1 a2;obtain⟨c5,c6⟩:=c4 z;obtain⟨i,o,I,C⟩:=jA c2 z;have b:=bZ I;have a4:i.lo (v+1):=qK C b o r5;have a9:g.deg v=0:=qp c2.f C;have ap:i.deg v=r.deg v:=by rw[o,deg_mul C b,a9];omega
    have aq:2<=j:=oM;have B:2<=L.U j/\L.U j<=2*L.M:=by unfold nu.U;omega
    have a7:((L.U j:Nat):Int)+2*y.deg v=2*(L.M:Int)+2:=by rw[hj];unfold nu.U;omega
    obtain⟨s1,s2,s3,s4⟩:=h.sg (L.U j) oM B.1;have S:=wE hv ly s';have H:=IC (lc_ne y0 v) s';have a3:(y.lc v)^s'*x=t*y+g*i:=by rw[<-o];exact J
    obtain⟨m1,m2⟩:=AY hv hS y0 H S C c2.f a3 oM b I a4 p0 q0 lp lq hp hq ip iq hm hn hyp hyq oM s1 s2 rfl s3 s4;have a5:L.l2 (L.U j)+L.b1 v+L.xi (L.U j)+L.kap (L.U j)=L.mu v (L.U j):=by rw[nu.mu,if_neg oM]
    rw[a5]at m2;have ao:L.mu v (L.U j)<=L.mu v (2*L.M):=zb h oM B.2 (nL _)
    have F:In (L.br+L.mu v (L.U j)) i:=by
     have e1:hd r=hd i:=by rw[o,xE C b,c3 C,Rat.one_mul]
     have D:=(a2.hd z).mul m2;rwa[e1,<-si b]at D
    have ar:=h.x1
    have O:bx (dW v L.E L.M)<=10000:=by rw[Ag hv];exact Nat.le_trans (Nat.mul_le_mul_left _ (Nat.pow_le_pow_left (by have:=h.dE.2.2.1;omega) v)) h.bP
    have oU:Dg (dW v L.E L.M) r:=ui r5 a1 oM;have Y:=oF C (o.trans (jC g i)) oU O F c6 oM;have R:Dg (dW v L.E L.M) i:=oU.dvd z ⟨g,o.trans (jC g i)⟩;have ab:=sj R F O oM
    have ac:lN G (a::l) v=some i.l:=by rw[er]at Y c1;rw[lN];simp only[c1];exact Y
    have N:nrm i≠0:=MX b
    have m:∀w,(nrm i).deg w=i.deg w:=λw=>by have u:=dvd_deg b (eu b).1 w;have D:=dvd_deg N (eu b).2 w;omega
    have aa:=yU b
    have a6:Sq v p q y (nrm i):=by refine hS.step y0 H S (e:=g*c (hd i)) (mul_ne C (zR aa)) (wR c2.f (ow _ v)) (t:=t) ?_ (by rw[m];omega);rw[a3];have u:g*c (hd i)*nrm i=g*(c (hd i)*nrm i):=gR;rw[u,<-si b]
    obtain⟨s,al,an⟩:=KF h hG hX p0 q0 lp lq hp hq ip iq hm hn n y (nrm i) (L.U j) (by rw[m];omega) a6 py (jT I (eu b).1) ly (MZ a4)
     (λw hw=>by
      have u:=dy w hw;have D:U*L.d<=L.U j*L.d:=Nat.mul_le_mul_right _ (by rcases hUc with e|⟨e,_⟩<;>omega)
      omega)
     (λw hw=>by rw[m];exact m1 w hw) (iy.mono (zb h hU1 (by rcases hUc with e|⟨e,_⟩<;>omega) B.2)) m2 oM B.2 (.inr ⟨a7,by rw[m];omega⟩) (by rw[m];omega) (by rw[m];omega) oM (by rw[m];omega) (by rw[m];omega)
    refine⟨s,?_,an⟩;rw[ac];simp only;rw[ab];exact al
end Q
end
section
namespace Q
open MP Go Go.Proofs.YtopclbeomcggiaaGreat
theorem Xw{G:List aj->List aj->Option (List aj)}{a b r:List aj}(h:Bh G a b=some r):SX G a b=some r:=by
 unfold Bh at h;unfold SX;split at h
 ·rename_i d;rw[if_pos d];exact h
 rename_i d;rw[if_neg d];split at h
 ·rename_i e;rw[if_pos e];exact h
 rename_i e;rw[if_neg e];split at h
 ·rename_i i;rw[if_pos i];exact h
 rename_i i;rw[if_neg i];obtain⟨v,hv,h⟩:=aX h;rw[hv];simp only[dY];split at h
 ·rename_i j;rw[if_pos j];exact h
 rename_i j;rw[if_neg j];split at h
 ·rename_i k;rw[if_pos k];exact h
 rename_i k;rw[if_neg k];obtain⟨x,l,h⟩:=aX h;obtain⟨y,m,h⟩:=aX h;obtain⟨g,hg,h⟩:=aX h;obtain⟨p,hp,h⟩:=aX h;obtain⟨q,hq,h⟩:=aX h;split at h
 ·cases h
 rw[l,m];simp only;rw[hg];simp only;rw[hp,hq];exact h
theorem ze:∀n,Ov (uz n)
 | 0=>λ_ _ _ h=>by cases h
 | n+1=>λa b r h=>Vg (ze n) a b r (Xw h)
theorem KG{v:Nat}{a b:MP}(h:0<a.deg v\/0<b.deg v)(d:a.lo (v+1))(lb:b.lo (v+1)):∀n,n<=4->v<n->ut [a.l,b.l] n=some v
 | 0,_,h=>by omega
 | n+1,hn,hv=>by
  rw[ut];rcases Nat.eq_or_lt_of_le (show v<=n by omega)with e|hlt
  ·subst e;rw[if_pos];simp only[List.any_cons,List.any_nil,Bool.or_false,Bool.or_eq_true,decide_eq_true_eq];exact h
  ·rw[if_neg]
   ·exact KG h d lb n (by omega) hlt
   ·simp only[List.any_cons,List.any_nil,Bool.or_false,Bool.or_eq_true,decide_eq_true_eq,not_or];have i:a.deg n<=0:=d n oM oM;have j:b.deg n<=0:=lb n oM oM;exact⟨by show ¬0<a.deg n;omega,by show ¬0<b.deg n;omega⟩
theorem wF{v:Nat}{L:nu}(h:qO v L){a x p:MP}(l:a≠0)(o:a.lo (v+1))(da:Dg (dW v L.d L.M) a)(k:In L.b a)(e:a=x*p)(m:hd x=1)(j:v=0->x=1):In (L.b1 v) p:=by
 unfold nu.b1;split
 ·rename_i i;have e1:a=p:=by rw[e,j i];grind
  rw[<-e1];exact k
 ·exact k.quot (n:=v+1) (by have:=h.hv;omega) l (e.trans (jC x p)) m o da h.k0
theorem OI{v:Nat}{L:nu}(h:qO v L){G:List aj->List aj->Option (List aj)}(C:Ov G)(D:QF (dW v L.E 0) L.bE G)
  {p q:MP} (y:p.prim v) (z:q.prim v) (dp:Dg (dW v L.d L.M) p) (dq:Dg (dW v L.d L.M) q) (ip:In (L.b1 v) p) (i:In (L.b1 v) q) (u:1<=q.deg v) (e:q.deg v<=p.deg v) :
  ∃s:MP,Bf G p.l q.l v=some s.l/\In (L.mu v (2*L.M)) s:=by
 have hv:=h.hv;have I:=bZ y;have B:=bZ z;have k:=dp.top hv;have n:=dq.top hv;have F:=h.fl;have e1:aD p.l v=p.deg v:=rfl;have J:aD q.l v=q.deg v:=rfl;have j:L.mu v 1=L.b1 v:=if_pos rfl;have o:L.b1 v<=L.mu v (2*L.M):=by rw[<-j];exact zb h (nL _) (by have:=h.dE.2.2.2;omega) (nL _)
 obtain⟨m,hm⟩:=ug (a:=p.l) (b:=q.l) (v:=v) oM oM [0,1,2];obtain⟨r,H⟩:=Vm hv B (dp.low hv) k (dq.low hv) dp.lo dq.lo ip i h.dv.1 h.dv.2;unfold Bf zV;rw[hm];simp only;split
 ·exact⟨1,by rw[pO],In.one _⟩
 ·rw[H];simp only;split
  ·exact⟨q,rfl,i.mono o⟩
  ·exact KF h C D I B dp.lo dq.lo (dp.low hv) (dq.low hv) ip i k n fuel p q 1 oM .base y z dp.lo dq.lo
    (λw x=>by have:=dp.low hv w x;omega) (λw x=>by have:=dq.low hv w x;omega) (by rw[j];exact ip) (by rw[j];exact i) (nL _) (by have:=h.dE.2.2.2;omega) (.inl rfl) u e k e (Int.le_refl _)
theorem OJ{v:Nat}{L:nu}(h:qO v L){G:List aj->List aj->Option (List aj)}(I:Ov G)(F:QF (dW v L.E 0) L.bE G)(Z:QF (dW v L.E 0) L.bE (Bh G)):QF (dW v L.d L.M) L.b (Bh G):=λa b da o J ib=>by
 have hv:=h.hv;have H:=h.dE;have a1:=h.x2
 have j:bx (dW v L.d L.M)<=10000:=by rw[Ag hv];exact Nat.le_trans (Nat.mul_le_mul_left _ (Nat.pow_le_pow_left oM v)) h.bP
 have an:L.b<=L.b1 v:=by unfold nu.b1;split<;>omega
 have W:L.b<LB:=oM;have u:L.b<=L.bE:=by unfold nu.bE;omega
 have low0:∀p:MP,Dg (dW v L.d L.M) p->p.deg v<=0->Dg (dW v L.E 0) p:=λp dp hp=>ui dp.lo (λw hw=>by have:=dp.low hv w hw;omega) hp;by_cases X:a.deg v<=0/\b.deg v<=0
 ·exact Z a b (low0 a da X.1) (low0 b o X.2) (J.mono u) (ib.mono u)
 unfold Bh;split
 ·exact⟨_,sj o ib j W⟩
 rename_i ha;have C:a≠0:=λe=>ha (zero_iff.1 e);split
 ·exact⟨_,sj da J j W⟩
 rename_i hb;have b0:b≠0:=λe=>hb (zero_iff.1 e);split
 ·exact⟨_,rfl⟩
 have a6:SV [a.l,b.l]=some v:=KG oM da.lo o.lo 4 oM hv;rw[a6];simp only[dY];have D:∀p:MP,Dg (dW v L.d L.M) p->∀w,w<v->p.deg w<=L.E:=λp dp w hw=>by have:=dp.low hv w hw;omega
 obtain⟨x,x1,x2,x3,x4⟩:=Ey h H.2.1 I F da.lo (D a da) J;obtain⟨y,y1,y2,y3,y4⟩:=Ey h H.2.1 I F o.lo (D b o) ib;obtain⟨x5,x6⟩:=x4 C;obtain⟨y5,y6⟩:=y4 b0;have k:L.cz v L.b<=L.bE:=OE H.2.1;split
 ·rename_i h0;rw[x1];exact F x b x5 (low0 b o (Int.le_of_eq h0)) (x6.mono k) (ib.mono u)
 rename_i S;split
 ·rename_i h0;rw[y1];exact F a y (low0 a da (Int.le_of_eq h0)) y5 (J.mono u) (y6.mono k)
 rename_i R;rw[x1,y1];simp only;obtain⟨g',Y⟩:=F x y x5 y5 (x6.mono k) (y6.mono k);obtain⟨g,rfl,hg⟩:=I x y _ Y;obtain⟨p,K,pp,x0⟩:=jA x2 C;obtain⟨q,eq,pq,y0⟩:=jA y2 b0;have p0:=bZ pp;have q0:=bZ pq
 have a2:∀z:MP,v=0->hd z=1->Dg (dW v L.E 0) z->z=1:=λz e N h2=>by
  subst e;obtain⟨r,rfl⟩:=kL h2.lo0;have hr:r≠0:=λe=>by rw[e,Cm]at N;cases N
  have O:=wD hr 1;have a4:c r*1=c r:=gR;rw[a4,N,qI,Rat.one_mul]at O;rw[<-O,Aw]
 have ip:=wF h C da.lo da J K (x3 x0) (λe=>a2 x e (x3 x0) x5);have iq:=wF h b0 o.lo o ib eq (y3 y0) (λe=>a2 y e (y3 y0) y5);have a7:=oF x0 (K.trans (jC x p)) da j ip x6 a1;have a8:=oF y0 (eq.trans (jC y q)) o j iq y6 a1;have a9:¬(p.l=[]\/q.l=[]):=λe=>e.elim (λe=>p0 (zero_iff.2 e)) λe=>q0 (zero_iff.2 e);rw[Y,a7,a8];simp only;rw[if_neg a9];have dp:Dg (dW v L.d L.M) p:=da.dvd C ⟨x,K.trans (jC x p)⟩;have dq:Dg (dW v L.d L.M) q:=o.dvd b0 ⟨y,eq.trans (jC y q)⟩;have ar:p.deg v=a.deg v:=by rw[K,deg_mul x0 p0,qp x2.f x0];omega
 have au:q.deg v=b.deg v:=by rw[eq,deg_mul y0 q0,qp y2.f y0];omega
 have ag:=deg_pos C v;have ao:=deg_pos b0 v;have al:a.deg v≠0:=R;have ap:b.deg v≠0:=S
 have hs:∃s:MP,EX G p.l q.l v=some s.l/\In (L.mu v (2*L.M)) s:=by
  unfold EX;split
  ·rename_i m;have m:p.deg v<q.deg v:=m;exact OI h I F pq pp dq dp iq ip oM oM
  ·rename_i m;have m:¬p.deg v<q.deg v:=m;exact OI h I F pp pq dp dq ip iq oM oM
 obtain⟨s,s1,s2⟩:=hs;rw[s1];simp only;have e3:L.mu v 1=L.b1 v:=if_pos rfl;have B:=h.fin;have aq:L.b1 v<=L.mu v (2*L.M):=by rw[<-e3];exact zb h (nL _) oM (nL _)
 have ac:Wp p.l:=kW (qL dp ip j oM);have ad:Wp q.l:=kW (qL dq iq j oM);obtain⟨s',es,aa⟩:=Oy I hv ac ad dp.lo dq.lo pp pq s1;have a3:s=s':=MP.eq_of es;subst a3;have a5:g*s∣a:=by rw[K];exact mul_dvd hg.i.l aa.l
 have g0:=dvd_ne x0 hg.i.l
 have ig:In L.bE g:=by obtain⟨N,h2⟩:=Ah h da.lo (D a da) J (a.deg v).toNat;have h3:g∣a.lc v:=dvd_trans hg.i.l ((dvd_iff_co x2.f a).1 x2.d _);exact(su h (hg.n g0) (lc_ne C v) h3 N h2).2.mono k
 have im:=ig.mul s2;have dm:Dg (dW v L.d L.M) (g*s):=da.dvd C a5;have hw:=Es (qL dm im j B);have ab:g1 (aZ g.l s.l)=some (g*s).l:=hw;rw[ab];exact⟨_,sj dm im j B⟩
theorem OL{b:Nat}(hb:b<LB){d:Nat->Nat}(hd:∀w,w<4->d w=0)(n:Nat):QF d b (uz (n+1)):=λx y j m q s=>by
 have i:bx d<=10000:=by unfold bx;rw[hd 0,hd 1,hd 2,hd 3]<;>omega
 have hc:∀z:MP,Dg d z->z.l≠[]->lX z.l=true:=λz dz hz=>by
  have p:z.lo 0:=λw _ k=>by have:=dz w k;rw[hd w k]at this;exact this
  obtain⟨r,rfl⟩:=kL p;have e:(c r).l=bW r:=rfl;rw[e]at hz ⊢;unfold bW at hz ⊢;split
  ·rename_i h;rw[if_pos h]at hz;exact absurd rfl hz
  ·rfl
 show ∃r,Bh (uz n) x.l y.l=some r;unfold Bh;split
 ·exact⟨_,sj m s i hb⟩
 rename_i o;split
 ·exact⟨_,sj j q i hb⟩
 rw[if_pos (.inl (hc x j o))];exact⟨_,rfl⟩
theorem QF.mono{d d':Nat->Nat}{b e:Nat}{G:List aj->List aj->Option (List aj)}(h:QF d b G)(hd:∀w,d' w<=d w)(hb:e<=b):QF d' e G:=λx y i j k l=>h x y (i.mono hd) (j.mono hd) (k.mono hb) (l.mono hb)
def Zf (L:Nat->nu):Nat->Prop
 | 0=>qO 0 (L 0)
 | v+1=>qO (v+1) (L (v+1))/\(L (v+1)).E<=(L v).d/\(L (v+1)).E<=(L v).M/\(L (v+1)).bE<=(L v).b/\Zf L v
theorem M9{L:Nat->nu}:∀(v:Nat),Zf L v->∀n,QF (dW v (L v).d (L v).M) (L v).b (uz (n+v+2))
 | 0,h,n=>by
  have h0:qO 0 (L 0):=h;have hz:∀w,w<4->dW 0 (L 0).E 0 w=0:=λw _=>by unfold dW;rw[if_neg oM];split<;>rfl
  have hb:(L 0).bE<LB:=by have:=h0.fin;omega
  exact OJ h0 (ze (n+1)) (OL hb hz n) (OL hb hz (n+1))
 | v+1,h,n=>by
  obtain⟨o,p,q,k,l⟩:=h
  have hd:∀w,dW (v+1) (L (v+1)).E 0 w<=dW v (L v).d (L v).M w:=λw=>by
   unfold dW;by_cases e:w<v
   ·rw[if_pos oM,if_pos e];exact p
   ·by_cases i:w=v
    ·rw[if_pos oM,if_neg e,if_pos i];exact q
    ·rw[if_neg oM,if_neg e,if_neg i];split<;>exact nL _
  have g1:=(M9 v l n).mono hd k;have j:=(M9 v l (n+1)).mono hd k;have e1:n+(v+1)+2=(n+v+2)+1:=oM;have m:n+1+v+2=(n+v+2)+1:=oM;rw[m]at j;rw[e1];exact OJ o (ze _) g1 j
end Q
end
section
namespace Q
open MP Go.Proofs.YtopclbeomcggiaaGreat
def YL (n:Nat):Nat:=n.log2+1
def kb (d:Nat):Nat:=d*(YL (4*d+3)+YL (2*d+1))
def YM (v M d b E br P:Nat):nu where
 M:=M
 d:=d
 b:=b
 E:=E
 br:=br
 kE:=v*kb E
 k0:=v*kb d+kb M
 lM:=YL M
 P:=P
 R:=λU=>if v=0 then 1 else 2*U*d+1
 l2:=λU=>YL (2*U*(if v=0 then 1 else 2*U*d+1)^v)
 xi:=λU=>(YL (2*U*(if v=0 then 1 else 2*U*d+1)^v)+(if v=0 then b else b+(b+(v*kb d+kb M))))*((U-1)*((if v=0 then 1 else 2*U*d+1)+d)^v)/(U*(if v=0 then 1 else 2*U*d+1)^v-(U-1)*((if v=0 then 1 else 2*U*d+1)+d)^v)+1
 kap:=λU=>v*kb ((if v=0 then 1 else 2*U*d+1)-1+d)+kb M
def ZT (v:Nat) (L:nu):Bool :=
 decide (v<4)&&decide (L.M<=2^L.lM)&&decide (qN (dW v L.d L.M) (v+1)<=2^L.k0)&&decide (qN (dW v L.E 0) v<=2^L.kE)
 && decide (∀U,U<2*L.M->1<=U->L.mu v U<=L.mu v (U+1))
 && decide (∀U,U<2*L.M+1->2<=U->0<L.R U/\2*U*L.R U^v<=2^L.l2 U/\(L.l2 U+L.b1 v+L.xi U)*((U-1)*(L.R U+L.d)^v)<L.xi U*(U*L.R U^v)/\qN (dW v (L.R U-1+L.d) L.M) (v+1)<=2^L.kap U)
 && decide ((L.M+1)*(1*L.d)<=L.P/\(L.M+1)*(L.b1 v+1)+L.lM<LB)
 && decide (∀k,k<L.M+1->2<=k->(k+1)*(L.U k*L.d)<=L.P/\(k+1)*(L.mu v (L.U k)+1)+L.lM<LB)
 && decide ((L.M+1)*(L.P+1)^v<=10000)&&decide (L.M*(1*L.d)<=L.E/\L.M*(L.b1 v+1)+L.lM<=L.br)
 && decide (∀k,k<L.M+1->3<=k->k*(L.U k*L.d)<=L.E/\k*(L.mu v (L.U k)+1)+L.lM<=L.br)
 && decide (L.d<=L.E/\L.b<=L.br/\L.E<=L.P/\1<=L.M)&&decide (L.br+L.mu v (2*L.M)+L.cz v L.br<LB)&&decide (L.b1 v+L.cz v L.b<LB)
 && decide (bx (Vk v L.d (TA v L.d L.M))<=10000/\L.b1 v+L.b1 v+(bx (Vk v L.d (TA v L.d L.M))+1)*(L.b1 v+1)<LB)
 && decide (L.bE+L.mu v (2*L.M)<LB)&&decide (L.M+1<fuel)
theorem TB{v:Nat}{L:nu}(h:ZT v L=true):qO v L:=by simp only[ZT,Bool.and_eq_true,decide_eq_true_eq]at h;obtain⟨⟨⟨⟨⟨⟨⟨⟨⟨⟨⟨⟨⟨⟨⟨⟨n,o⟩,p⟩,q⟩,r⟩,s⟩,u⟩,x⟩,y⟩,b⟩,d⟩,e⟩,i⟩,j⟩,k⟩,l⟩,m⟩:=h;exact⟨n,o,p,q,r,s,u,x,y,b,d,e,i,j,k,l,m⟩
def L8:Nat->nu
 | 0=>YM 0 320 320 136492 16486400 7033665291 16589440
 | 1=>YM 1 8 8 712 320 129772 400
 | _=>YM 2 2 4 90 8 536 24
def D8:Nat->Nat:=dW 2 4 2
structure Dm (p:MP):Prop where
 e:∀t∈p.l,(0<=t.1.1/\t.1.1<=2)/\(0<=t.1.2.1/\t.1.2.1<=2)/\(0<=t.1.2.2.1/\t.1.2.2.1<=1)/\t.1.2.2.2=0
 i:uh 1 15 p
def ZG (L:List wh):MP:=⟨Iz L,fB _⟩
structure Dq (H:Nat) (p:MP):Prop where
 d:Dg D8 p
 i:uh 1 H p
def szN (D:Nat):Sz:=⟨D,2^200,4,75⟩
def dr (v:Nat) (p:MP):MP:=⟨aS p.l v,p.v.pder v⟩
theorem IK(v:Nat)(p q:MP):dr v (p*q)=dr v p*q+p*dr v q:=MP.eq_of (GX p.v q.v v)
theorem vK{p:List aj}{v:Nat}{t:aj}(h:t∈aS p v):∃s∈p,0<s.1.get v/\t=(s.1.put v (s.1.get v-1),s.2*(s.1.get v:Rat)):=by obtain⟨s,e,rfl⟩:=List.mem_map.1 h;obtain⟨b,d⟩:=List.mem_filter.1 e;exact⟨s,b,by simpa using d,rfl⟩
theorem Vn{p:List aj}{v:Nat}{s:aj}(h:s∈p)(h0:0<s.1.get v):(s.1.put v (s.1.get v-1),s.2*(s.1.get v:Rat))∈aS p v :=
 List.mem_map.2 ⟨s,List.mem_filter.2 ⟨h,by simpa using h0⟩,rfl⟩
theorem BS{p:MP}(h:p≠0)(v:Nat):∃t∈p.l,t.1.get v=p.deg v:=rG (λe=>h (zero_iff.2 e)) p.v.nat v
variable {v:Nat} {p x y z x' y' z' f g H K:MP}
theorem TD(h:dr v p≠0):(dr v p).deg v<=p.deg v-1:=by obtain⟨t,d,e⟩:=BS h v;obtain⟨s,b,h0,rfl⟩:=vK d;rw[<-e,Ex.get_put];have:s.1.get v<=p.deg v:=dR b v;omega
theorem Qj(h:0<p.deg v):p.deg v-1<=(dr v p).deg v:=by
 have h0:p≠0:=λe=>by rw[e,deg_zero]at h;omega
 obtain⟨s,b,e⟩:=BS h0 v;have:=dR (Vn (v:=v) b oM) v;rw[Ex.get_put,e]at this;exact this
theorem OM(h:dr v p=0):p.fr v:=by
 by_cases b:0<p.deg v
 ·have:=Qj b;rw[h,deg_zero]at this;omega
 ·show p.deg v<=0;omega
theorem Gt{d:Nat->Nat}(hv:v<4)(h:Dg d p):Dg d (dr v p):=λw i=>by
 by_cases h0:dr v p=0
 ·rw[h0,deg_zero];omega
 obtain⟨t,k,e⟩:=BS h0 w;obtain⟨s,j,h0,rfl⟩:=vK k;rw[<-e];have l:s.1.get w<=p.deg w:=dR j w;have m:=h w i;by_cases b:v=w
 ·subst b;rw[Ex.get_put];omega
 ·show Ex.get (Ex.put s.1 v _) w<=_;rw[Ex.get_put_ne _ hv i b];omega
structure Yn (v:Nat) (x y H:MP):Prop where
 x0:x≠0
 h0:H≠0
 e:x*dr v H=y*H
 co:∀d,d∣x->d∣y->d.unit
theorem TE{a b:MP}(h:x*g≠0)(hg:jw g (x*g) (y*g)):∀d,d∣x->d∣y->d.unit:=λd j k=>by have i:g≠0:=λe=>h (by rw[e];grind);have:=hg.u (g*d) (by rw[(gR:x*g=g*x)];exact mul_dvd (dvd_refl g) j) (by rw[(gR:y*g=g*y)];exact mul_dvd (dvd_refl g) k);exact unit_cancel i this
theorem Yn.start(e:p≠0)(hg:jw g p (dr v p))(ex:p=x*g)(i:dr v p=y*g):Yn v x y p:=by
 have d:jw g (x*g) (y*g):=by rw[<-ex,<-i];exact hg
 exact⟨λh=>e (by rw[ex,h];grind),e,by rw[i];grind,TE (a:=p) (b:=p) (by rw[<-ex];exact e) d⟩
theorem Yn.xd(h:Yn v x y H):x∣H:=G6 (oI 4 oM) (K9 x) (K9 y) (K9 H) h.h0 h.co ⟨dr v H,h.e.symm⟩
theorem Yn.zz(h:Yn v x y (x*K)):x*dr v K=(y-dr v x)*K:=by have b:=h.e;rw[IK]at b;refine cancel h.x0 ?_;grind
theorem Yn.step(h:Yn v x y (x*K))(hf:jw f x (y-dr v x))(ex:x=x'*f)(i:y-dr v x=z'*f):Yn v x' z' K:=by
 have j:=h.zz;have f0:f≠0:=λe=>h.x0 (by rw[ex,e];grind);have d:jw f (x'*f) (z'*f):=by rw[<-ex,<-i];exact hf
 refine⟨λe=>h.x0 (by rw[ex,e];grind),λe=>h.h0 (by rw[e];grind),?_,TE (a:=x) (b:=x) (by rw[<-ex];exact h.x0) d⟩;refine cancel f0 ?_;rw[i]at j;have k:x'*f*dr v K=z'*f*K:=by rw[<-ex];exact j
 grind
theorem Yn.stop(h:Yn v x y H)(j:x.fr v)(hp:H.prim v):H.unit:=by refine hp H ?_ (dvd_refl H);refine OM (Classical.byContradiction λb=>?_);have i:x*dr v H≠0:=mul_ne h.x0 b;have d:y≠0:=λe=>i (by rw[h.e,e];grind);have e1:=deg_mul h.x0 b v;rw[h.e,deg_mul d h.h0 v]at e1;have:=deg_pos d v;have:=TD b;have:=qp j h.x0;omega
theorem Yn.sqf(h:Yn v x y p){d:MP}(hd:d*d∣x):d.fr v:=by
 refine Classical.byContradiction λb=>?_;have b:0<d.deg v:=by have b:¬d.deg v<=0:=b;omega
 obtain⟨x0,rfl⟩:=hd;have d0:d≠0:=λe=>by rw[e,deg_zero]at b;omega
 have key:∀m:Nat,∃K r:MP,K≠0/\K.deg v+m<=p.deg v/\d*x0*(r*dr v d*K+d*dr v K)=y*K:=λm=>by
  induction m with
  | zero=>exact⟨p,0,h.h0,sM,by have:=h.e;grind⟩
  | succ m o =>
   obtain⟨K,r,k0,j,e⟩:=o
   have i:d∣K:=by refine G6 (oI 4 oM) (K9 d) (K9 y) (K9 K) k0 (λc l n=>h.co c (dvd_trans l ?_) n) ⟨x0*(r*dr v d*K+d*dr v K),by rw[<-e];grind⟩;exact⟨d*x0,gR⟩
   obtain⟨L,rfl⟩:=i;have k:L≠0:=λe=>k0 (by rw[e];grind);refine⟨L,r+1,k,?_,?_⟩
   ·have:=deg_mul d0 k v;push_cast;omega
   ·rw[IK]at e;refine cancel d0 ?_;grind
 obtain⟨K,r,k0,j,-⟩:=key ((p.deg v).toNat+1);have:=deg_pos k0 v;have:=deg_pos h.h0 v
 push_cast at j
 omega
theorem Gu{w:Nat}(hv:v<4)(j:w<4):(dr v p).deg w<=p.deg w:=by
 by_cases h0:dr v p=0
 ·rw[h0,deg_zero];exact deg_ge _ _
 obtain⟨t,i,e⟩:=BS h0 w;obtain⟨s,h,h0,rfl⟩:=vK i;rw[<-e];have d:s.1.get w<=p.deg w:=dR h w;by_cases b:v=w
 ·subst b;rw[Ex.get_put];omega
 ·show Ex.get (Ex.put s.1 v _) w<=_;rw[Ex.get_put_ne _ hv j b];exact d
theorem YN{n:Nat}(hv:v<4)(h:p.lo n):(dr v p).lo n:=λw d b=>Int.le_trans (Gu hv b) (h w d b)
theorem OO(r:Rat):dr v (c r*p)=c r*dr v p:=by
 have h:dr v (c r)=0:=by refine zero_iff.2 (List.eq_nil_iff_forall_not_mem.2 λt d=>?_);obtain⟨s,b,h0,-⟩:=vK d;have:=fr_get (ow r v) b;omega
 rw[IK,h];grind
theorem Qk{E:Nat}:∀l:List aj,(∀t∈l,t.1.nat=true/\t.1.get v<=E)->bF (aS l v)<=bF l*(E:Rat):=by
 intro l
 induction l with
 | nil=>intro _;simp only[aS,List.filter_nil,List.map_nil,bF];grind
 | cons u l m =>
  intro d;have e:=m λt k=>d t (by simp[k]);have h0:=Ex.nat_get (d u sM).1 v;have n:=(d u sM).2;have h:=fV u.2;have b:(0:Rat)<=(E:Rat):=Rat.natCast_nonneg;unfold aS at e ⊢;by_cases hz:0<u.1.get v
  ·rw[List.filter_cons_of_pos (by simpa using hz),List.map_cons];simp only[bF];rw[jS,Rat.add_mul]
   have i:bJ ((u.1.get v:Int):Rat)<=(E:Rat):=by rw[rabs_int];exact Rat.natCast_le_natCast.2 oM
   have j:bJ u.2*bJ ((u.1.get v:Int):Rat)<=bJ u.2*(E:Rat):=Rat.mul_le_mul_of_nonneg_left i h;grind
  ·rw[List.filter_cons_of_neg (by simpa using hz)];simp only[bF];rw[Rat.add_mul];have j:0<=bJ u.2*(E:Rat):=Rat.mul_nonneg h b;grind
theorem In.der{b e E:Nat}(x:p.deg v<=E)(he:E<=2^e)(h:In b p):In (b+e) (dr v p):=by
 obtain⟨D,H,n,y,o,k⟩:=h;have q:H*E<=2^(b+e):=by rw[Nat.pow_add];exact Nat.mul_le_mul o he
 have z:2^b<=2^(b+e):=Nat.pow_le_pow_right oM oM;refine⟨D,H*E,n,oM,q,⟨λt i=>?_,?_⟩⟩
 ·obtain⟨u,hu,_,rfl⟩:=vK i;obtain⟨a,ha⟩:=k.d u hu;refine⟨a*u.1.get v,?_⟩;simp only;rw[Rat.intCast_mul,<-ha];grind
 ·have r:=Qk (v:=v) (E:=E) p.l λt i=>⟨(p.v.2 t i).2,Int.le_trans (dR i v) x⟩;have m:=Rat.mul_le_mul_of_nonneg_left r (bU D);have s:=Rat.mul_le_mul_of_nonneg_right k.a (bU E);rw[Rat.natCast_mul];show(D:Rat)*bF (aS p.l v)<=_;have j:(D:Rat)*(bF p.l*(E:Rat))=(D:Rat)*p.am*(E:Rat):=by show _=(D:Rat)*bF p.l*(E:Rat);grind
  rw[j]at m;exact Rat.le_trans m s
end Q
end
section
namespace Q
open MP Go.Proofs.YtopclbeomcggiaaGreat
variable {v:Nat} {p x y z x' y' z' f g H K w:MP}
structure Yp (v:Nat) (p x y H:MP):Prop where
 n:Yn v x y H
 q:∃G,G≠0/\hd G=1/\p=x*G
 d:H∣p
theorem Yp.start(d:p≠0)(hg:NG g p (dr v p))(ex:p=x*g)(e:dr v p=y*g):Yp v p x y p:=by have b:g≠0:=jW hg.i d;exact⟨Yn.start d hg.i ex e,⟨g,b,hg.n b,ex⟩,dvd_refl p⟩
theorem Yp.step(h:Yp v p x y H)(hg:NG g x (y-dr v x))(ex:x=x'*g)(l:y-dr v x=z'*g):∃K,H=x*K/\Yp v p x' z' K:=by
 obtain⟨K,rfl⟩:=h.n.xd;obtain⟨G,j,k,e⟩:=h.q;have b:g≠0:=jW hg.i h.n.x0;refine⟨K,rfl,h.n.step hg.i ex l,⟨g*G,mul_ne b j,by rw[xE b j,hg.n b,k,Rat.mul_one],?_⟩,dvd_trans ⟨x,gR⟩ h.d⟩;have m:p=x'*g*G:=by rw[<-ex];exact e
 grind
theorem Yp.xp(h:Yp v p x y H):x∣p:=by obtain⟨G,_,_,e⟩:=h.q;exact⟨G,e⟩
section
variable {n b bx k k2 e:Nat} {d:Nat->Nat}
theorem ZU(z:n<=4)(hv:v<4)(l:p≠0)(H:In b p)(dp:Dg d p)(q:p.lo n)(E:qN d n<=2^k)(o:qN (λw=>d w+d w) n<=2^k2)(he:d v<=2^e)
  (x0:x≠0) (k0:K≠0) (B:x∣p) (I:In bx x) (y:K∣p) (eq:x*dr v K=w*K):In (bx+(b+k+e)+(bx+(b+k+e)+k2)) w/\Dg d w:=by
 have i:x*dr v (nrm K)=w*nrm K:=by rw[nrm,OO];grind
 have L:=MX k0;by_cases w0:w=0
 ·rw[w0];exact⟨In.zero _,λu _=>by rw[deg_zero];omega⟩
 have t0:x*dr v (nrm K)≠0:=by rw[i];exact mul_ne w0 L
 have d0:dr v (nrm K)≠0:=λh=>t0 (by rw[h];grind);have m:dr v K≠0:=λh=>d0 (by rw[nrm,OO,h];grind);have j:nrm K∣p:=dvd_trans (eu k0).1 y;have r:=dp.dvd l B;have dK:=dp.dvd l j;have F:In (b+k) (nrm K):=H.fac z l y q dp E;have G:=I.mul (In.der (dK v hv) he F);have J:(x*dr v (nrm K)).lo n:=kK (gV l B q) (YN hv (gV l j q))
 have C:Dg (λw=>d w+d w) (x*dr v (nrm K)):=λu hu=>by rw[deg_mul x0 d0];have s:=r u hu;have D:=Gt hv dK u hu;show _<=((d u+d u:Nat):Int);omega
 refine⟨In.quot z G t0 i (jY k0) J C o,λu hu=>?_⟩;have s:=deg_mul x0 m u;rw[eq,deg_mul w0 k0]at s;have D:=Gu (p:=K) hv hu;have M:=r u hu;omega
structure YS (v:Nat) (d:Nat->Nat) (B:Nat) (x y:MP):Prop where
 sx:In B x/\Dg d x
 sy:In B y/\Dg d y
 sd:In B (dr v x)/\Dg d (dr v x)
 sz:In B (y-dr v x)/\Dg d (y-dr v x)
theorem Yp.size(s:n<=4)(hv:v<4)(m:p≠0)(u:In b p)(dp:Dg d p)(z:p.lo n)(r:qN d n<=2^k)(j:qN (λw=>d w+d w) n<=2^k2)(he:d v<=2^e)
  (h:Yp v p x y H):YS v d (b+(b+k)+(b+k+e)+(b+(b+k)+(b+k+e)+k2)) x y:=by
 obtain⟨G,E,B,C⟩:=h.q;have x0:=h.n.x0;have i:=h.xp;have l:In (b+(b+k)) x:=u.quot s m C B z dp r;have o:=dp.dvd m i;have D:=ZU s hv m u dp z r j he x0 h.n.h0 i l h.d h.n.e
 have hz:In (b+(b+k)+(b+k+e)+(b+(b+k)+(b+k+e)+k2)) (y-dr v x)/\Dg d (y-dr v x):=by obtain⟨K,rfl⟩:=h.n.xd;have k0:K≠0:=λe=>h.n.h0 (by rw[e];grind);exact ZU s hv m u dp z r j he x0 k0 i l (dvd_trans ⟨x,gR⟩ h.d) h.n.zz
 exact⟨⟨l.mono oM,o⟩,D,⟨(In.der (o v hv) he l).mono oM,Gt hv o⟩,hz⟩
end
def YR (S:MP->MP->Prop) (v:Nat):Nat->Nat->MP->MP->List (MP × Nat)->Prop
 | 0,_,_,_,_=>False
 | f+1,n,x,y,L=>x.fr v/\L=[]\/0<x.deg v/\S x y/\∃g x' z' M,NG g x (y-dr v x)/\x=x'*g/\y-dr v x=z'*g/\YR S v f (n+1) x' z' M/\L=if 0<g.deg v then(g,n)::M else M
theorem YO{S:MP->MP->Prop}(q:∀x y H,Yp v p x y H->S x y):∀(N n:Nat)(x y H:MP),(H.deg v).toNat<N->Yp v p x y H->∃L,YR S v N n x y L:=λN=>by
 induction N with
 | zero=>intro n x y H h;omega
 | succ N u =>
  intro n x y H z h;by_cases s:x.deg v<=0
  ·exact⟨[],.inl ⟨s,rfl⟩⟩
  obtain⟨d,_,hg⟩:=oI 4 oM x (y - dr v x) (K9 _) (K9 _);have e:d≠0:=jW hg h.n.x0;have b:NG (nrm d) x (y - dr v x):=⟨qd hg e,λ_=>jY e⟩;obtain⟨x',ex⟩:=b.i.l;obtain⟨z',j⟩:=b.i.r;have ex:x=x'*nrm d:=by rw[ex];grind
  have j:y-dr v x=z'*nrm d:=by rw[j];grind
  obtain⟨K,m,k⟩:=h.step b ex j;have k0:K≠0:=k.n.h0;have hd:=deg_mul h.n.x0 k0 v;rw[<-m]at hd;have:=deg_pos k0 v;obtain⟨M,o⟩:=u (n+1) x' z' K oM k;exact⟨_,.inr ⟨oM,q x y H h,nrm d,x',z',M,b,ex,j,o,rfl⟩⟩
theorem KH{g:MP}(b:hd g=1)(hu:g.unit):g=1:=Ej (Bz hu) hu (unit_dvd unit_one g |> λ_=>⟨g,gR⟩) b qI
theorem KI{g:MP}(h:g.unit):∀n:Nat,(g^n).unit
 | 0=>by rw[show g^0=1 by grind];exact unit_one
 | n+1=>by rw[show g^(n+1)=g^n*g by grind];exact unit_mul (KI h n) h
def PL:List (MP × Nat)->MP
 | []=>1
 | t::L=>t.1^t.2*PL L
theorem Na{g:MP}(h:hd g=1)(b:g≠0):∀n:Nat,g^n≠0/\hd (g^n)=1
 | 0=>by rw[show g^0=1 by grind];exact⟨one_ne,qI⟩
 | n+1=>by obtain⟨d,e⟩:=Na h b n;rw[(gR:g^(n+1)=g^n*g)];exact⟨mul_ne d b,by rw[xE d b,e,h,Rat.mul_one]⟩
theorem vL{g:MP}(h:hd g=1):g≠0:=λe=>by rw[e]at h;have:hd 0=0:=rfl;rw[this]at h;exact absurd h dM
theorem TF:∀{L:List (MP × Nat)},(∀t∈L,hd t.1=1)->PL L≠0/\hd (PL L)=1
 | [],_=>⟨one_ne,qI⟩
 | t::L,h=>by obtain⟨b,e⟩:=TF (L:=L) λu hu=>h u (by simp[hu]);obtain⟨d,i⟩:=Na (h t sM) (vL (h t sM)) t.2;exact⟨mul_ne d b,by show hd (t.1^t.2*PL L)=1;rw[xE d b,i,e,Rat.mul_one]⟩
theorem YR.fac{S:MP->MP->Prop}:∀{N n:Nat}{x y:MP}{L:List (MP × Nat)},x≠0->YR S v N n x y L->(∀t∈L,t.1∣x/\0<t.1.deg v/\hd t.1=1/\n<=t.2)/\L.Pairwise λa b=>a.2<b.2/\a.1*b.1∣x
 | 0,_,_,_,_,_,h=>by cases h
 | N+1,n,x,y,L,x0,h=>by
  rcases h with ⟨_,rfl⟩|⟨_,_,g,x',z',M,hg,ex,D,C,rfl⟩
  ·exact⟨λt d=>(by cases d),.nil⟩
  have o:x'≠0:=λe=>x0 (by rw[ex,e];grind);have z:g≠0:=jW hg.i x0;obtain⟨r,B⟩:=YR.fac o C;have s:x'∣x:=⟨g,ex⟩
  have j:∀t∈M,t.1∣x/\0<t.1.deg v/\hd t.1=1/\n<=t.2:=λt d=>by obtain⟨m,p,q,u⟩:=r t d;exact⟨dvd_trans m s,p,q,oM⟩
  have k:M.Pairwise λa b=>a.2<b.2/\a.1*b.1∣x:=B.imp λh=>⟨h.1,dvd_trans h.2 s⟩;split
  ·rename_i hd;refine⟨λt d=>?_,List.pairwise_cons.2 ⟨λb hb=>?_,k⟩⟩
   ·rcases List.mem_cons.1 d with rfl|d
    ·exact⟨hg.i.l,hd,hg.n z,nL _⟩
    ·exact j t d
   ·obtain⟨m,p,q,u⟩:=r b hb;refine⟨by show n<b.2;omega,?_⟩;rw[ex,jC x' g];exact mul_dvd (dvd_refl g) m
  ·exact⟨j,k⟩
theorem YR.prod{S:MP->MP->Prop}(hp:p.prim v):∀{N n:Nat}{x y H:MP}{L:List (MP × Nat)},Yp v p x y H->YR S v N (n+1) x y L->x^n*H∣PL L/\PL L∣x^n*H
 | 0,_,_,_,_,_,_,h=>by cases h
 | N+1,n,x,y,H,L,hy,h=>by
  rcases h with ⟨q,rfl⟩|⟨_,_,g,x',z',M,hg,ex,u,B,rfl⟩
  ·have u1:x.unit:=hp x q hy.xp;have C:H.unit:=hy.n.stop q (jT hp hy.d);exact⟨unit_mul (KI u1 n) C,⟨x^n*H,by show _=(1:MP)*_;grind⟩⟩
  obtain⟨K,s,b⟩:=hy.step hg ex u;obtain⟨k,o⟩:=YR.prod hp b B;have z:g≠0:=jW hg.i hy.n.x0
  have e:x^n*H=g^(n+1)*(x'^(n+1)*K):=by
   have e1:x^n*H=x^(n+1)*K:=by rw[s];grind
   have r:∀m:Nat,(x'*g)^m=x'^m*g^m:=λm=>by
    induction m with
    | zero=>grind
    | succ m j=>rw[(gR:(x'*g)^(m+1)=(x'*g)^m*(x'*g)),j];grind
   rw[e1,ex,r];grind
  rw[e];split
  ·exact⟨mul_dvd (dvd_refl _) k,mul_dvd (dvd_refl _) o⟩
  ·rename_i hd;have:g=1:=KH (hg.n z) (hp g (by show g.deg v<=0;omega) (dvd_trans hg.i.l hy.xp))
   have e1:∀m:Nat,(1:MP)^m=1:=λm=>by
    induction m with
    | zero=>grind
    | succ m j=>rw[(gR:(1:MP)^(m+1)=(1:MP)^m*1),j];grind
   rw[this,e1,(gR:(1:MP)*(x'^(n+1)*K)=x'^(n+1)*K)];exact⟨k,o⟩
theorem YR.all{S:MP->MP->Prop}(hp:p.prim v){N:Nat}{L:List (MP × Nat)}(b:Yp v p x y p)(h:YR S v N 1 x y L):PL L=nrm p:=by have d:=b.n.h0;obtain⟨i,j⟩:=YR.prod (n:=0) hp b h;have e:x^0*p=p:=gR;rw[e]at i j;obtain⟨f1,_⟩:=YR.fac b.n.x0 h;obtain⟨l,q1⟩:=TF λt k=>(f1 t k).2.2.1;exact Ej l (dvd_trans j (eu d).2) (dvd_trans (eu d).1 i) q1 (jY d)
theorem Vo(G:Yn v x y p){g e:MP}(hg:g∣x)(D:g≠0)(he:jw e g (dr v g)):e.fr v:=by
 obtain⟨h,o⟩:=he.l;obtain⟨k,ek⟩:=he.r;have e0:e≠0:=jW he D;have h0:h≠0:=λa=>D (by rw[o,a];grind)
 -- e divides h times its derivative
 have hd:e∣h*dr v e:=⟨k-dr v h,by
  have:dr v (e*h)=e*k:=by rw[<-o];exact ek
  rw[IK]at this;grind⟩
 by_cases d0:dr v e=0
 ·exact OM d0
 obtain⟨m,_,hm⟩:=oI 4 oM e h (K9 _) (K9 _);have z:m.fr v:=G.sqf (dvd_trans (by rw[o];exact mul_dvd hm.l hm.r) hg)
 -- up to a factor without v,e divides its derivative
 obtain⟨e1,b⟩:=hm.l;obtain⟨i,E⟩:=hm.r;have j:m≠0:=λa=>e0 (by rw[b,a];grind);have n:e1≠0:=λa=>e0 (by rw[b,a];grind)
 have hc:e1∣i*dr v e:=by refine dvd_cancel j ?_;rw[<-b,show m*(i*dr v e)=h*dr v e by rw[E];grind];exact hd
 have q:∀d,d∣e1->d∣i->d.unit:=λd B C=>by have:=hm.u (m*d) (by rw[b];exact mul_dvd (dvd_refl m) B) (by rw[E];exact mul_dvd (dvd_refl m) C);exact unit_cancel j this
 have s:e1∣dr v e:=G6 (oI 4 oM) (K9 e1) (K9 i) (K9 _) d0 q hc;have B:=dvd_deg d0 s v;have C:=TD d0;have F:=deg_mul j n v;rw[<-b,qp z j]at F;omega
theorem Vp(hp:p.prim v)(k:Yn v x y p)(j:x∣p){a b e:MP}(h:a*b∣x)(d:a≠0)(he:NG e a b):e=1:=by have e0:e≠0:=jW he.i d;have hd:e*e∣x:=dvd_trans (mul_dvd he.i.l he.i.r) h;exact KH (he.n e0) (hp e (k.sqf hd) (dvd_trans (dvd_trans ⟨e,rfl⟩ hd) j))
end Q
end
section
namespace Q
open MP Go.Proofs.YtopclbeomcggiaaGreat
structure An (a b g:MP):Prop where
 e:uz 6 a.l b.l=some g.l
 wa:Wp a.l
 wb:Wp b.l
def Z5 (v:Nat) (e:Ex):Ex:=(e.put v (e.get 3)).put 3 (e.get v)
def swX (v:Nat) (x:Pt):Pt:=(x.put v (x.get 3)).put 3 (x.get v)
def sw (v:Nat) (p:MP):MP:=⟨canon (p.l.map λt=>(Z5 v t.1,t.2)),fB _⟩
theorem NC.eqq{v:Nat}{g h a:MP}(hg:NC v g a)(b:NC v h a):g=h:=by
 have i:=b.1.u g hg.1.f hg.1.d;have j:=hg.1.u h b.1.f b.1.d;by_cases h0:g=0
 ·rw[h0]at i ⊢;exact(zero_dvd i).symm
 ·have k:h≠0:=λe=>h0 (by rw[e]at j;exact zero_dvd j);exact Ej h0 i j (hg.2 h0) (b.2 k)
def Rw8 (H:Nat) (l:List aj):Prop:=∃f:MP,f.l=l/\Dg D8 f/\In 90 f/\(f=0\/∃F:MP,F≠0/\f∣F/\Dq H F)
theorem YP{d:Nat->Nat}{p:MP}(h:Dg d p){v:Nat}(hv:v<4)(n:Nat):Dg d (p.co v n):=λw b=>rP v n p b hv (h w b)
end Q
end
