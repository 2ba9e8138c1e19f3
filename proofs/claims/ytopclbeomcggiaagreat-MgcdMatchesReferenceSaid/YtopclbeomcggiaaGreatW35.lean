/- Small polynomials pass the tests; divisions answer. No program in sight. -/
import Derived.Test.YtopclbeomcggiaaGreatW34
set_option linter.unusedVariables false
set_option linter.unusedSimpArgs false
set_option maxHeartbeats 16000000
set_option maxRecDepth 100000
section
namespace Q
open MP Go.Proofs.YtopclbeomcggiaaGreat
theorem DC:∀(N:Nat)(L:List Nat),L.Nodup->(∀x∈L,x<N)->L.length<=N
 | 0,L,_,h=>by
  cases L with
  | nil=>simp
  | cons x L=>have:=h x sM;omega
 | N+1,L,hn,h=>by
  by_cases i:N∈L
  ·have j:=DC N (L.erase N) (hn.erase N) λx b=>by
    have d:=(hn.mem_erase_iff).1 b;have:=h x d.2;have:=d.1;omega
   rw[List.length_erase_of_mem i]at j;omega
  ·have:=DC N L hn λx b=>by
    have:=h x b;have:x≠N:=λe=>i (e▸b);omega
   omega
def bx (d:Nat->Nat):Nat:=(d 0+1)*(d 1+1)*(d 2+1)*(d 3+1)
def LQ (d:Nat->Nat) (e:Ex):Prop:=e.nat=true/\∀w,w<4->e.get w<=d w
def Nz (d:Nat->Nat) (e:Ex):Nat:=((e.1.toNat * (d 1+1)+e.2.1.toNat)*(d 2+1)+e.2.2.1.toNat)*(d 3+1)+e.2.2.2.toNat
theorem GY{a b A B:Nat}(ha:a<A)(hb:b<B):a*B+b<A*B:=by have:=Nat.mul_le_mul_right B (oM:a+1<=A);rw[Nat.add_mul]at this;omega
theorem DD{a b a' b' B:Nat}(hb:b<B)(d:b' < B)(h:a*B+b=a'*B+b'):a=a'/\b=b':=by
 have j:(a*B+b)/B=a:=by rw[Nat.mul_comm,Nat.mul_add_div oM,Nat.div_eq_of_lt hb,Nat.add_zero]
 have e:(a'*B+b')/B=a':=by rw[Nat.mul_comm,Nat.mul_add_div oM,Nat.div_eq_of_lt d,Nat.add_zero]
 have i:a=a':=by rw[<-j,<-e,h]
 subst i;omega
theorem LQ.parts{d:Nat->Nat}{e:Ex}(h:LQ d e):e.1.toNat<d 0+1/\e.2.1.toNat<d 1+1/\e.2.2.1.toNat<d 2+1/\e.2.2.2.toNat<d 3+1/\0<=e.1/\0<=e.2.1/\0<=e.2.2.1/\0<=e.2.2.2:=by have l:=Ex.nat_iff.1 h.1;have j:=h.2 0 oM;have k:=h.2 1 oM;have i:=h.2 2 oM;have b:=h.2 3 oM;simp only[Ex.get]at j k i b;omega
theorem Ub{d:Nat->Nat}{e:Ex}(h:LQ d e):Nz d e<bx d:=by obtain⟨b,j,k,i,_⟩:=h.parts;exact GY (GY (GY b j) k) i
theorem Uc{d:Nat->Nat}{e f:Ex}(h:LQ d e)(m:LQ d f)(hc:Nz d e=Nz d f):e=f:=by obtain⟨x,l,b,n,z,n1,n2,s⟩:=h.parts;obtain⟨k0,o,k,i,y,m1,B,u⟩:=m.parts;obtain⟨c1,c2⟩:=DD n i hc;obtain⟨j,q⟩:=DD b k c1;obtain⟨p,r⟩:=DD l o j;exact Ex.ext' oM oM oM oM
theorem GZ{d:Nat->Nat}{L:List Ex}(b:L.Nodup)(h:∀e∈L,LQ d e):L.length<=bx d:=by
 have i:(L.map (Nz d)).Nodup:=by
  induction L with
  | nil=>exact List.nodup_nil
  | cons e L j =>
   rw[List.nodup_cons]at b;rw[List.map_cons,List.nodup_cons];refine⟨λhm=>?_,j b.2 λf hf=>h f (by simp[hf])⟩;obtain⟨f,hf,hc⟩:=List.mem_map.1 hm;exact b.1 (Uc (h e sM) (h f (by simp[hf])) hc.symm▸hf)
 have:=DC (bx d) _ i λx k=>by obtain⟨e,he,rfl⟩:=List.mem_map.1 k;exact Ub (h e he)
 rwa[List.length_map]at this
theorem Pf{l:List ai}(h:FM l):(l.map Prod.fst).Nodup:=by
 induction l with
 | nil=>exact List.nodup_nil
 | cons t l d =>
  have b:=List.pairwise_cons.1 h;rw[List.map_cons,List.nodup_cons];refine⟨λhm=>?_,d b.2⟩;obtain⟨u,hu,e⟩:=List.mem_map.1 hm;exact Ex.gt_ne (b.1 u hu) e.symm
theorem Dg.inB{d:Nat->Nat}{p:MP}(h:Dg d p):∀t∈p.l,LQ d t.1:=λt b=>⟨(p.v.2 t b).2,λw e=>Int.le_trans (eU b w) (h w e)⟩
theorem Dg.len{d:Nat->Nat}{p:MP}(h:Dg d p):p.l.length<=bx d:=by
 have:=GZ (Pf p.v.1) (d:=d) λe he=>by obtain⟨t,b,rfl⟩:=List.mem_map.1 he;exact h.inB t b
 rwa[List.length_map]at this
theorem NA{d:Nat->Nat}{p:MP}(h:∀t∈p.l,LQ d t.1):Dg d p:=λw i=>by
 rcases(fQ (λt=>t.1.get w) p.l (-1)).2.2 with e|⟨t,b,e⟩
 ·show aD p.l w<=_;unfold aD;rw[e];omega
 ·show aD p.l w<=_;unfold aD;rw[<-e];exact(h t b).2 w i
theorem YR{a b c e:Nat}(ha:0<a)(hb:0<b)(hc:0<c)(he:0<e):a<=a*b*c*e/\b<=a*b*c*e/\c<=a*b*c*e/\e<=a*b*c*e:=by
 have e1:a*b*c*e=a*(b*c*e):=by simp only[Nat.mul_assoc]
 have h:a*b*c*e=b*(a*c*e):=by simp only[Nat.mul_comm,Nat.mul_left_comm]
 have d:a*b*c*e=c*(a*b*e):=by simp only[Nat.mul_comm,Nat.mul_left_comm]
 have i:a*b*c*e=e*(a*b*c):=by simp only[Nat.mul_comm,Nat.mul_left_comm]
 refine⟨?_,?_,?_,?_⟩
 ·rw[e1];exact Nat.le_mul_of_pos_right _ (Nat.mul_pos (Nat.mul_pos hb hc) he)
 ·rw[h];exact Nat.le_mul_of_pos_right _ (Nat.mul_pos (Nat.mul_pos ha hc) he)
 ·rw[d];exact Nat.le_mul_of_pos_right _ (Nat.mul_pos (Nat.mul_pos ha hb) he)
 ·rw[i];exact Nat.le_mul_of_pos_right _ (Nat.mul_pos (Nat.mul_pos ha hb) hc)
theorem UO(d:Nat->Nat):d 0+1<=bx d/\d 1+1<=bx d/\d 2+1<=bx d/\d 3+1<=bx d:=YR oM oM oM oM
theorem LW{D:Nat}{x:Rat}(j:0<D)(h:Dv D x):x.den∣D/\bH ((x.num:Int):Rat)<=(D:Rat)*bH x:=by
 obtain⟨k,d⟩:=h;have l:(D:Rat)≠0:=jE j
 have hc:x=Rat.divInt k D:=by rw[Rat.divInt_eq_div,Rat.intCast_natCast,<-d];grind
 obtain⟨e1,b⟩:=rM k D oM;rw[<-hc]at e1 b;refine⟨Int.natCast_dvd_natCast.1 ⟨(Int.gcd k D:Int),by rw[b];exact(Int.ediv_mul_cancel (Int.gcd_dvd_right _ _)).symm⟩,?_⟩;have e:x.num.natAbs<=k.natAbs:=by rw[e1];exact Int.natAbs_ediv_le_natAbs _ _
 have i:(D:Rat)*bH x=bH (k:Rat):=by rw[<-d,jH,bO (bQ D)];grind
 rw[i,Q.rabs_int,Q.rabs_int];exact Ac e
theorem Ud{D:Nat}{x:Rat}(h:Dv D x):Dv D (bH x):=by
 unfold bH;split
 ·exact h.neg
 ·exact h
theorem ND{D:Nat}:∀{l:List ai},(∀t∈l,Dv D t.2)->Dv D (bI l)
 | [],_=>Dv.zero D
 | t::l,h=>(Ud (h t (by simp))).add (ND λu hu=>h u (by simp[hu]))
theorem JH{D:Nat}:∀{l:List ai},(∀t∈l,t.2.den∣D)->zb l∣D
 | [],_=>Nat.one_dvd D
 | t::l,h=>Nat.lcm_dvd (h t (by simp)) (JH λu hu=>h u (by simp[hu]))
theorem AV{n b:Nat}(h:n<=2^b):aF n<=b+1:=jI (Nat.lt_of_le_of_lt h (Nat.pow_lt_pow_right oM oM))
theorem RY{d:Nat->Nat}{b D H:Nat}{l:List ai}(n:∀t∈l,LQ d t.1)(hd:bx d<=10000)(o:l.length<=10000)(j:0<D)(k:D<=2^b)(p:H<=2^b)(hv:∀t∈l,Dv D t.2)(ha:(D:Rat)*bI l<=(H:Rat))(hb:b<LB):UG l=true:=by
 simp only[UG,Bool.and_eq_true,decide_eq_true_eq,List.all_eq_true];have q:=UO d;refine⟨⟨⟨o,λt i=>?_⟩,?_⟩,?_⟩
 ·obtain⟨r,e,h,m,s,n1,n2,u⟩:=(n t i).parts;exact⟨⟨⟨⟨⟨⟨⟨oM,oM⟩,oM⟩,oM⟩,oM⟩,oM⟩,oM⟩,oM⟩
 ·have e:zb l∣D:=JH λt i=>(LW j (hv t i)).1;have h:=iT (Nat.le_trans (Nat.le_of_dvd j e) k);have m:=AV (Nat.le_refl (2^b));omega
 ·have e:=(LW j (ND hv)).2;rw[bO (lW l),Q.rabs_int]at e;have h:Q8 l<=H:=Rat.natCast_le_natCast.1 (Rat.le_trans e ha);have m:=AV (Nat.le_trans h p);omega
theorem sQ{d:Nat->Nat}{b:Nat}{p:MP}(h:Dg d p)(k:In b p)(hd:bx d<=10000)(hb:b<LB):CL p.l=true:=by obtain⟨D,H,j,i,m,e⟩:=k;rw[CL,Bool.and_eq_true];exact⟨Ct.2 p.v,RY h.inB hd (Nat.le_trans h.len hd) j i m e.d e.a hb⟩
theorem NE{p:MP}(h:CL p.l=true):g1 p.l=some p.l:=by rw[g1,if_pos h]
theorem ql{d:Nat->Nat}{b:Nat}{p:MP}(h:Dg d p)(m:In b p)(hd:bx d<=10000)(hb:b<LB):jQ p.l=some (nrm p).l:=by
 by_cases i:p=0
 ·rw[i,jJ];rfl
 ·have k:=sQ (h.dvd i (fF i).1) m.nrm hd hb;obtain⟨t,l,e⟩:=je i;have n:(nrm p).l=bN p.l (1/t.2):=by rw[nrm,xY e,sF]
  have j:=NE k;rw[n]at j ⊢;rw[e]at j ⊢;exact j
theorem DF{g:ai}{ts:List ai}(hv:bR (g::ts)):∀(s out:List ai)(n:Nat),bR s->(∀x r,x::r <:+ s->CL (aX (x::r) (g::ts))=true/\CL [x]=true)->s.length+1<=n->qU (g::ts) g n (aX s (g::ts)) out=some (some (out++s))
 | [],out,n,_,_,hn=>by obtain⟨n,rfl⟩:∃m,n=m+1:=⟨n - 1,by simp at hn;omega⟩;rw[show aX [] (g::ts)=[]from rfl,qU,List.append_nil]
 | x::s,out,n,hs,hw,hn=>by obtain⟨n,rfl⟩:∃m,n=m+1:=⟨n - 1,by simp at hn;omega⟩;have hz:=(hv.2 g sM).1;have d:=hs.2 x sM;obtain⟨j,h⟩:=AO hs hv;obtain⟨a,ha⟩:=AL (bR.mul _ _) (jr d.1 hz) j h;obtain⟨w1,l⟩:=hw x s (List.suffix_refl _);have i:=DF hv s (out++[x]) n hs.tail (λy r o=>hw y r (o.trans (List.suffix_cons x s))) (by simp at hn;omega);have b:=Cy hs hv bR.nil;rw[xG (bR.mul _ _),xG (bR.mul _ _)]at b;rw[ha]at w1 b ⊢;have e:=Cx (x:=x) hz;have k:((x.1.add g.1).sub g.1)=x.1:=congrArg Prod.fst e;rw[qU,if_pos w1,if_pos (by show((x.1.add g.1).sub g.1).nat=true;rw[k];exact d.2),e,if_pos l,b,i];simp
theorem yg{d:Nat->Nat}{b k:Nat}{a q z:MP}(u:z≠0)(e:a=q*z)(hd:Dg d a)(C:bx d<=10000)(hq:In b q)(hz:In k z)(hb:b+k<LB):iO a.l z.l=some q.l:=by
 obtain⟨g,ts,n⟩:=je u;by_cases s:q=0
 ·have ha:a=0:=by rw[e,s];grind
  rw[ha,s,iO,n];rfl
 have F:a≠0:=by rw[e];exact mul_ne s u
 have i:Dg d q:=hd.dvd F ⟨z,e⟩;have H:Dg d z:=hd.dvd F ⟨q,by rw[e];grind⟩;have j:∀w,q.deg w+z.deg w=a.deg w:=λw=>by rw[e,deg_mul s u]
 have key:=DF (n▸z.v) q.l [] fuel q.v (λx r o=>by
  have hv:bR (x::r):=q.v.sublist o.sublist;have hp:In b (⟨x::r,hv⟩:MP):=hq.part o.sublist
  have y:∀w,(⟨x::r,hv⟩:MP).deg w<=q.deg w:=λw=>by
   rcases(fQ (λt=>t.1.get w) (x::r) (-1)).2.2 with e|⟨t,G,e⟩
   ·show aD (x::r) w<=_;unfold aD;rw[e];exact deg_ge w q
   ·show aD (x::r) w<=_;unfold aD;rw[<-e];exact eU (o.sublist.subset G) w
  have D:(⟨x::r,hv⟩:MP)≠0:=λh=>by have:=zero_iff.1 h;cases this
  refine⟨?_,?_⟩
  ·have E:=sQ (d:=d) (p:=(⟨x::r,hv⟩:MP)*z) (λw B=>by
    rw[deg_mul D u];have:=j w;have:=y w;have:=hd w B;omega) (hp.mul hz) C hb
   rw[<-n];exact E
  ·have m:bR [x]:=hv.sublist (List.singleton_sublist.2 sM)
   exact sQ (d:=d) (p:=(⟨[x],m⟩:MP)) (λw B=>by
    show aD [x] w<=_;have E:=eU (o.sublist.subset (sM:x∈x::r)) w;have J:=i w B;have K:q.deg w=aD q.l w:=rfl;show max (-1) (x.1.get w)<=_
    omega) (hp.part (q:=⟨[x],m⟩) (List.singleton_sublist.2 sM)) C oM)
  (by have:=i.len;unfold fuel;omega)
 have I:a.l=aX q.l (g::ts):=by rw[e,<-n];rfl
 rw[iO,n,I];simp only[ze,key,List.nil_append,Option.getD_some];exact NE (sQ i hq C oM)
def wt (B:Int) (e:Ex):Int:=e.1+B*(e.2.1+B*(e.2.2.1+B*e.2.2.2))
theorem V8(B:Int)(e f:Ex):wt B (e.add f)=wt B e+wt B f:=by simp only[wt,Ex.add];grind
theorem V9(B:Int)(e f:Ex):wt B (e.sub f)=wt B e-wt B f:=by simp only[wt,Ex.sub];grind
theorem bY{B x d h b:Int}(j:0<=B)(k:x<=B-1)(i:0<=d)(e:h<b):x+B*h<d+B*b:=by have:=Int.mul_le_mul_of_nonneg_left (oM:h+1<=b) j;rw[Int.mul_add,Int.mul_one]at this;omega
theorem kL{B x h H:Int}(b:0<=B)(e:x<=B-1)(d:h<=H-1):x+B*h<=B*H-1:=by have:=Int.mul_le_mul_of_nonneg_left (oM:h+1<=H) b;rw[Int.mul_add,Int.mul_one]at this;omega
theorem Xx{v d:Nat}{g u:Ex}(hg:g.nat=true)(hu:u.nat=true)(hd:∀w,w<v->u.get w<=d)(hz:∀w,v<w->w<4->u.get w=0/\g.get w=0)(h:g.gt u=true):wt ((d:Int)+1) u<wt ((d:Int)+1) g:=by
 rw[Ex.gt_iff]at h;rw[Ex.nat_iff]at hg hu;have d0:=hd 0;have d1:=hd 1;have d2:=hd 2;have k:=hz 1;have l:=hz 2;have i:=hz 3;simp only[Ex.get]at d0 d1 d2 k l i;have b:(0:Int)<=(d:Int)+1:=oM;unfold wt;rcases h with h|⟨e,h|⟨j,h|⟨e1,h⟩⟩⟩
 ·have hv:3<=v:=by
   rcases Nat.lt_or_ge v 3 with h'|h'
   ·have:=i h' oM;omega
   ·exact h'
  exact bY b (by have:=d0 oM;omega) oM (bY b (by have:=d1 oM;omega) oM (bY b (by have:=d2 oM;omega) oM h))
 ·have hv:2<=v:=by
   rcases Nat.lt_or_ge v 2 with h'|h'
   ·have:=l h' oM;omega
   ·exact h'
  rw[e];exact bY b (by have:=d0 oM;omega) oM (bY b (by have:=d1 oM;omega) oM oM)
 ·have hv:1<=v:=by
   rcases Nat.lt_or_ge v 1 with h'|h'
   ·have:=k h' oM;omega
   ·exact h'
  rw[e,j];exact bY b (by have:=d0 oM;omega) oM oM
 ·rw[e,j,e1];omega
def RZ (v d M:Nat):Nat:=(M+1)*(d+1)^v
theorem Xy{v d M:Nat}{e:Ex}(hv:v<4)(hd:∀w,w<v->e.get w<=d)(hm:e.get v<=M)(hz:∀w,v<w->w<4->e.get w=0):wt ((d:Int)+1) e<=(RZ v d M:Nat):=by
 have d0:=hd 0;have d1:=hd 1;have d2:=hd 2;have n:=hz 1;have k:=hz 2;have j:=hz 3;simp only[Ex.get]at d0 d1 d2 n k j;have b:(0:Int)<=(d:Int)+1:=oM
 have e1:((RZ v d M:Nat):Int)=((M:Int)+1)*((d:Int)+1)^v:=by unfold RZ;rw[Int.natCast_mul,Int.natCast_pow];rfl
 rw[e1];unfold wt;obtain rfl|rfl|rfl|rfl:v=0\/v=1\/v=2\/v=3:=oM
 ·simp only[Ex.get]at hm;rw[n oM oM,k oM oM,j oM oM,Int.mul_zero,Int.add_zero,Int.mul_zero,Int.add_zero,Int.mul_zero,Int.add_zero,Int.pow_zero,Int.mul_one];omega
 ·simp only[Ex.get]at hm;rw[k oM oM,j oM oM,Int.mul_zero,Int.add_zero,Int.mul_zero,Int.add_zero];have:=kL (h:=e.2.1) (H:=(M:Int)+1) b (show e.1<=_ by have:=d0 oM;omega) oM;have i:((M:Int)+1)*((d:Int)+1)^1=((d:Int)+1)*((M:Int)+1):=gR;rw[i];omega
 ·simp only[Ex.get]at hm;rw[j oM oM,Int.mul_zero,Int.add_zero];have l:=kL (h:=e.2.2.1) (H:=(M:Int)+1) b (show e.2.1<=_ by have:=d1 oM;omega) oM;have m:=kL b (show e.1<=_ by have:=d0 oM;omega) l;have i:((M:Int)+1)*((d:Int)+1)^2=((d:Int)+1)*(((d:Int)+1)*((M:Int)+1)):=gR;rw[i];omega
 ·simp only[Ex.get]at hm;have l:=kL (h:=e.2.2.2) (H:=(M:Int)+1) b (show e.2.2.1<=_ by have:=d2 oM;omega) oM;have m:=kL b (show e.2.1<=_ by have:=d1 oM;omega) l;have o:=kL b (show e.1<=_ by have:=d0 oM;omega) m;have i:((M:Int)+1)*((d:Int)+1)^3=((d:Int)+1)*(((d:Int)+1)*(((d:Int)+1)*((M:Int)+1))):=gR;rw[i];omega
def Ue (v d W:Nat) (w:Nat):Nat:=if w<=v then W/(d+1)^w else 0
theorem Xz{B:Int}(b:0<=B){e:Ex}(he:e.nat=true):e.1<=wt B e/\e.2.1*B<=wt B e/\e.2.2.1*B^2<=wt B e/\e.2.2.2*B^3<=wt B e:=by
 rw[Ex.nat_iff]at he;obtain⟨n,j,d,i⟩:=he;have p:=Int.mul_nonneg b j;have o:=Int.mul_nonneg b (Int.mul_nonneg b d);have m:=Int.mul_nonneg b (Int.mul_nonneg b (Int.mul_nonneg b i));have e1:wt B e=e.1+B*e.2.1+B*(B*e.2.2.1)+B*(B*(B*e.2.2.2)):=by unfold wt;grind
 have l:e.2.1*B=B*e.2.1:=Int.mul_comm _ _;have h:e.2.2.1*B^2=B*(B*e.2.2.1):=gR;have k:e.2.2.2*B^3=B*(B*(B*e.2.2.2)):=gR;rw[e1,l,h,k];omega
theorem Wd{v d W:Nat}{e:Ex}(he:e.nat=true)(l:wt ((d:Int)+1) e<=W)(hz:∀w,v<w->w<4->e.get w=0):LQ (Ue v d W) e:=by
 refine⟨he,λw m=>?_⟩;unfold Ue;split
 ·have o:=Ex.nat_get he w;obtain⟨k,b⟩:∃k:Nat,e.get w=k:=⟨(e.get w).toNat,oM⟩;rw[b];refine Int.ofNat_le.2 ((Nat.le_div_iff_mul_le (Nat.pow_pos oM)).2 ?_);refine Int.ofNat_le.1 (Int.le_trans ?_ l);obtain⟨j,g1,n,h⟩:=Xz (B:=(d:Int)+1) oM he;have i:((k*(d+1)^w:Nat):Int)=e.get w*((d:Int)+1)^w:=by rw[b,Int.natCast_mul,Int.natCast_pow];rfl
  rw[i];obtain rfl|rfl|rfl|rfl:w=0\/w=1\/w=2\/w=3:=oM
  ·rw[Int.pow_zero,Int.mul_one];exact j
  ·rw[(gR:((d:Int)+1)^1=(d:Int)+1)];exact g1
  ·exact n
  ·exact h
 ·rw[hz w oM m];omega
theorem In.inv{b:Nat}{p:MP}(h:In b p)(j:p≠0):In b (c (1/Q.hd p)):=by
 obtain⟨D,H,x,n,C,m⟩:=h
 obtain⟨z,hz⟩:∃z:Int,Q.hd p*(D:Rat)=(z:Rat):=by obtain⟨t,q,e⟩:=zx j;rw[e];exact m.d t q
 have k:(D:Rat)≠0:=jE x;have y:=vF j;have l:=GX j
 have B:z≠0:=λe=>by rw[e]at hz;exact jr y k hz
 have i:((z.natAbs:Nat):Rat)=bH (z:Rat):=(Q.rabs_int z).symm
 have u:z.natAbs<=H:=by
  have e1:=Rat.mul_le_mul_of_nonneg_left (Ny j) (bQ D);have r:bH (z:Rat)=(D:Rat)*bH (Q.hd p):=by rw[<-hz,jH,bO (bQ D)];grind
  have s:((z.natAbs:Nat):Rat)<=(H:Rat):=by rw[i,r];exact Rat.le_trans e1 m.a
  exact Rat.natCast_le_natCast.1 s
 refine⟨z.natAbs,D,oM,oM,n,O3 ?_,?_⟩
 ·rcases Int.natAbs_eq z with e|e
  ·refine⟨D,?_⟩;rw[<-Rat.intCast_natCast,<-e,<-hz,Rat.intCast_natCast];grind
  ·refine⟨-D,?_⟩;rw[<-Rat.intCast_natCast,(oM:((z.natAbs:Nat):Int)=-z),Rat.intCast_neg,Rat.intCast_neg,<-hz,Rat.intCast_natCast];grind
 ·rw[I6,i,<-hz,jH,bO (bQ D)];have o:bH (Q.hd p)*bH (1/Q.hd p)=1:=by rw[<-jH,l];exact qR
  have:bH (Q.hd p)*(D:Rat)*bH (1/Q.hd p)=(bH (Q.hd p)*bH (1/Q.hd p))*(D:Rat):=gR;rw[this,o,Rat.one_mul];exact Rat.le_refl
def NF (e:Ex) (h:e.nat=true):MP:=⟨[(e,1)],Au h (by decide)⟩
theorem Fz(e:Ex)(h:e.nat=true):qI 1 1 (NF e h):=by refine⟨λt b=>by rw[List.mem_singleton.1 b];exact Dv.int 1 1,?_⟩;show((1:Nat):Rat)*(bH 1+0)<=((1:Nat):Rat);rw[qR,Rat.add_zero,Rat.mul_one];exact Rat.le_refl
theorem We{e:Ex}(h:e.nat=true){r:Rat}(b:r≠0)(hv:bR [(e,r)]):(⟨[(e,r)],hv⟩:MP)=c r*NF e h:=by refine MP.eq_of ?_;rw[sF];show [(e,r)]=bN [(e,1)] r;rw[bN,if_neg b];show [(e,r)]=[(e,1*r)];rw[Rat.one_mul]
theorem NH{v d W b0 bz:Nat}{z:MP}{g:ai}{ts:List ai}(F:z.l=g::ts)(j:∀t∈z.l,(∀w,w<v->t.1.get w<=d)/\∀w,v<w->w<4->t.1.get w=0)(hz:In bz z){dB:Nat->Nat}(hB:∀e:Ex,e.nat=true->wt ((d:Int)+1) e<=W->(∀w,v<w->w<4->e.get w=0)->LQ dB e)(G:bx dB<=10000)(a6:b0+bz+(bx dB+1)*(bz+1)<LB) :
  ∀(n:Nat)(a:MP)(out:List ai)(S:List Ex),S.Nodup->(∀e∈S,LQ dB e)->(∀e∈S,∀t∈a.l,e.gt t.1=true)->(∀t∈a.l,wt ((d:Int)+1) t.1<=W/\∀w,v<w->w<4->t.1.get w=0)->In (b0+S.length*(bz+1)) a->bx dB+1<=n+S.length->∃r,qU (g::ts) g n a.l out=some r
 | 0,a,out,S,hS,hSb,_,_,_,hn=>by have:=GZ hS hSb;omega
 | n+1,a,out,S,hS,hSb,hSg,ha,hi,hn=>by
  have z0:z≠0:=λh=>by have:=zero_iff.1 h;rw[F]at this;cases this
  have o:g.2≠0:=(z.v.2 g (by rw[F];simp)).1;have q:g∈z.l:=by rw[F];simp
  cases ea:a.l with
  | nil=>exact⟨_,by rw[qU]⟩
  | cons m a' =>
   have k:m∈a.l:=by rw[ea];simp
   have a0:a≠0:=λh=>by have:=zero_iff.1 h;rw[ea]at this;cases this
   have hm:=ha m k;have a2:=(a.v.2 m k).2;have Z:=hB m.1 a2 hm.1 hm.2;have O:(m.1::S).Nodup:=List.nodup_cons.2 ⟨λh=>(by have:=hSg _ h m k;rw[Ex.gt_irrefl]at this;cases this),hS⟩
   have E:∀e∈m.1::S,LQ dB e:=λe he=>by
    rcases List.mem_cons.1 he with rfl|he
    ·exact Z
    ·exact hSb e he
   have a3:=GZ O E;rw[List.length_cons]at a3;have R:=Nat.mul_le_mul_right (bz+1) (oM:S.length+1<=bx dB+1);rw[Nat.add_mul S.length,Nat.one_mul]at R;have Y:=sQ (NA λt C=>hB t.1 (a.v.2 t C).2 (ha t C).1 (ha t C).2) hi G oM;rw[ea]at Y;rw[qU,if_pos Y];by_cases hq:(m.1.sub g.1).nat=true
   ·rw[if_pos hq];have va:bR (m::a'):=ea▸a.v;have i:=QX va o hq;have a5:m.2≠0:=(a.v.2 m k).1;have N:hd z=g.2:=xY F;have a8:hd a=m.2:=xY ea
    have a4:(1:Rat)/g.2≠0:=λh=>by have:=GX z0;rw[N,h]at this;grind
    have a1:m.2/g.2=m.2*(1/g.2):=by
     have b:=Rat.div_mul_cancel (a:=1) o;have B:=Rat.div_mul_cancel (a:=m.2) o;have I:(m.2/g.2 - m.2*(1/g.2))*g.2=0:=gR;rcases Rat.mul_eq_zero.1 I with h|h
     ·grind
     ·exact absurd h o
    have et:(⟨[gI m g],i⟩:MP)=c (hd a)*(c (1/hd z)*NF _ hq):=by
     have M:bR [(m.1.sub g.1,m.2*(1/g.2))]:=by rw[<-a1];exact i
     have:=We hq (jr a5 a4) M;rw[N,a8];have e2:c (m.2*(1/g.2))=c m.2*c (1/g.2):=(lX _ _).symm;rw[e2]at this;have e3:(⟨[gI m g],i⟩:MP)=⟨[(m.1.sub g.1,m.2*(1/g.2))],M⟩:=MP.eq_of (congrArg (λx=>[(m.1.sub g.1,x)]) a1);rw[e3,this];grind
    have a9:In (b0+S.length*(bz+1)+(bz+0)) (⟨[gI m g],i⟩:MP):=by rw[et];exact(hi.hd a0).mul ((hz.inv z0).mul ⟨1,1,oM,Nat.le_refl _,Nat.le_refl _,Fz _ hq⟩)
    have a7:=sQ (d:=dB) (p:=(⟨[gI m g],i⟩:MP)) (NA λt C=>by
     rw[List.mem_singleton.1 C];refine⟨hq,λw hw=>?_⟩;have b:=Z.2 w hw;have B:=Ex.nat_get (z.v.2 g q).2 w;show(m.1.sub g.1).get w<=_
     have I:(m.1.sub g.1).get w=m.1.get w-g.1.get w:=by rcases w with _|_|_|w<;>rfl
     omega) a9 G oM
    rw[if_pos a7];obtain⟨t,C⟩:∃t:MP,t=⟨[gI m g],i⟩:=⟨_,rfl⟩
    have e2:gH (m::a') (aX (g::ts) [gI m g])=(a-z*t).l:=by rw[C,<-ea,<-F];rfl
    have e3:(a-z*t).l=canon (VF a' ts (gI m g)):=by rw[<-e2];exact VG a2 o
    rw[e2]
    have hP:∀u∈(a-z*t).l,m.1.gt u.1=true/\wt ((d:Int)+1) u.1<=W/\∀w,v<w->w<4->u.1.get w=0:=by
     rw[e3];refine lm (P:=λe=>m.1.gt e=true/\wt ((d:Int)+1) e<=W/\∀w,v<w->w<4->e.get w=0) λu hu=>?_;rcases List.mem_append.1 hu with hu|hu
     ·exact⟨va.1.head u hu,ha u (by rw[ea];simp[hu])⟩
     ·obtain⟨s,hs,rfl⟩:=List.mem_map.1 hu;have y:s∈z.l:=by rw[F];simp[hs]
      have X:g.1.gt s.1=true:=(F▸z.v:bR (g::ts)).1.head s hs;have b:=X
      have B:m.1=(m.1.sub g.1).add g.1:=by simp only[Ex.add,Ex.sub];refine Ex.ext' ?_ ?_ ?_ ?_<;>simp only<;>omega
      have I:(s.1.add (m.1.sub g.1))=(m.1.sub g.1).add s.1:=Ex.add_comm _ _;refine⟨?_,?_,λw b J=>?_⟩
      ·show m.1.gt (s.1.add (m.1.sub g.1))=true;rw[I];rw[<-Ex.gt_add (m.1.sub g.1),<-B]at b;exact b
      ·show wt _ (s.1.add (m.1.sub g.1))<=_;have h5:=Xx (z.v.2 g q).2 (z.v.2 s y).2 (j s y).1 (λw b B=>⟨(j s y).2 w b B,(j g q).2 w b B⟩) X;rw[V8,V9];have:=hm.1;omega
      ·show(s.1.add (m.1.sub g.1)).get w=0;have h6:=(j s y).2 w b J;have h7:=(j g q).2 w b J;have h8:=hm.2 w b J
       have h9:(m.1.sub g.1).get w=m.1.get w-g.1.get w:=by rcases w with _|_|_|w<;>rfl
       rw[Ex.get_add];omega
    have aa:In (b0+(m.1::S).length*(bz+1)) (a-z*t):=by
     obtain⟨D,H,b,B,I,J⟩:=hi;obtain⟨L,K,k1,k2,k3,k4⟩:=hz.nrm;have e4:z*t=c (hd a)*(NF _ hq*nrm z):=by rw[C,et,nrm];grind
     have i1:=(J.hd a0).mul ((Fz _ hq).mul k4);rw[Nat.one_mul,Nat.one_mul,<-e4]at i1;have i2:=(J.up L).sub i1
     have ab:2^(b0+(m.1::S).length*(bz+1))=2^(b0+S.length*(bz+1))*2^bz*2:=by rw[List.length_cons,Nat.add_mul,Nat.one_mul,<-Nat.add_assoc,<-Nat.add_assoc,Nat.pow_succ,Nat.pow_add]
     have p1:=Nat.mul_le_mul B k2;have p2:=Nat.mul_le_mul I k2;have p3:=Nat.mul_le_mul I k3;exact⟨D*L,H*L+H*K,Nat.mul_pos b k1,oM,oM,i2⟩
    exact NH F j hz hB G a6 n (a-z*t) (out++[gI m g]) (m.1::S) O E (λe he u hu=>by
     rcases List.mem_cons.1 he with rfl|he
     ·exact(hP u hu).1
     ·exact Ex.gt_trans (hSg e he m k) (hP u hu).1) (λu hu=>(hP u hu).2) aa (by rw[List.length_cons];omega)
   ·rw[if_neg hq];exact⟨_,rfl⟩
theorem Uf{v d M b0 bz:Nat}{a z:MP}(hv:v<4)(D:z≠0)(ha:∀w,w<v->a.deg w<=d)(n:a.deg v<=M)(hz:∀w,w<v->z.deg w<=d)(y:a.lo (v+1))(x:z.lo (v+1))(C:In b0 a)(B:In bz z)
  (q:bx (Ue v d (RZ v d M))<=10000) (s:b0+bz+(bx (Ue v d (RZ v d M))+1)*(bz+1)<LB):∃r,ze a.l z.l=some r:=by
 obtain⟨g,ts,u⟩:=je D;have hd:∀(p:MP)(w:Nat)(k:Int),p.deg w<=k->∀t∈p.l,t.1.get w<=k:=λp w k h t b=>Int.le_trans (eU b w) h
 obtain⟨r,E⟩:=NH (v:=v) (d:=d) (W:=RZ v d M) (b0:=b0) (dB:=Ue v d (RZ v d M)) u (λt b=>⟨λw i=>hd z w d (hz w i) t b,λw o m=>fr_get (x w o m) b⟩) B
  (λe he i h=>Wd he i h) q s fuel a [] [] List.nodup_nil (λe h=>by cases h) (λe h=>by cases h)
  (λt b=>by
   have j:∀w,v<w->w<4->t.1.get w=0:=λw o m=>fr_get (y w o m) b
   exact⟨Xy hv (λw i=>hd a w d (ha w i) t b) (hd a v M n t b) j,j⟩)
  (by simpa using C) (by unfold fuel;simp only[List.length_nil];omega)
 exact⟨r,by rw[u];exact E⟩
def dN (v x t:Nat) (w:Nat):Nat:=if w<v then x else if w=v then t else 0
theorem zy{v x t:Nat}(hv:v<4):bx (dN v x t)=(t+1)*(x+1)^v:=by
 obtain rfl|rfl|rfl|rfl:v=0\/v=1\/v=2\/v=3:=oM
 ·simp[bx,dN]
 ·simp[bx,dN,Nat.mul_comm]
 ·simp[bx,dN,Nat.pow_succ,Nat.mul_comm]
 ·simp[bx,dN,Nat.pow_succ,Nat.mul_comm]
theorem sK{v x t:Nat}{p:MP}(d:p.lo (v+1))(i:∀w,w<v->p.deg w<=x)(b:p.deg v<=t):Dg (dN v x t) p:=λw j=>by
 unfold dN;split
 ·exact i w aM
 ·split
  ·rename_i e;rw[e];exact b
  ·have h:p.deg w<=0:=d w oM j;exact h
theorem Dg.lo{v x t:Nat}{p:MP}(h:Dg (dN v x t) p):p.lo (v+1):=λw d b=>by have:=h w b;rw[dN,if_neg oM,if_neg oM]at this;exact this
theorem Dg.lo0{v x:Nat}{p:MP}(h:Dg (dN v x 0) p):p.lo v:=λw d b=>by
 have:=h w b;rw[dN,if_neg oM]at this;have e:(if w=v then 0 else 0)=0:=by split<;>rfl
 rw[e]at this;exact this
theorem Dg.low{v x t:Nat}(hv:v<4){p:MP}(h:Dg (dN v x t) p):∀w,w<v->p.deg w<=x:=λw b=>by have:=h w oM;rwa[dN,if_pos b]at this
theorem Dg.top{v x t:Nat}(hv:v<4){p:MP}(h:Dg (dN v x t) p):p.deg v<=t:=by have:=h v hv;rwa[dN,if_neg oM,if_pos rfl]at this
def gD (D H:Nat) (d:Nat->Nat) (l:List ai):Prop:=∃p:MP,p.l=l/\qI D H p/\Dg d p
theorem gD.nil(D H:Nat)(d:Nat->Nat):gD D H d []:=⟨0,rfl,qI.zero D H,λw _=>by rw[deg_zero];omega⟩
theorem gD.get{D H:Nat}{d:Nat->Nat}{L:List (List ai)}(h:∀c∈L,gD D H d c)(i:Nat):gD D H d (L.getD i []):=by
 rw[List.getD_eq_getElem?_getD]
 cases hi:L[i]? with
 | none=>exact gD.nil D H d
 | some c=>exact h c (List.mem_of_getElem? hi)
theorem gD.mul{D H j i:Nat}{d d':Nat->Nat}{p q:List ai}(h:gD D H d p)(l:gD j i d' q):gD (D*j) (H*i) (λw=>d w+d' w) (aX p q):=by obtain⟨a,rfl,o,k⟩:=h;obtain⟨b,rfl,n,m⟩:=l;exact⟨a*b,rfl,o.mul n,λw e=>Int.le_trans (bT w a b (k w e) (m w e) oM) sM⟩
theorem gD.sub{D H i:Nat}{d:Nat->Nat}{p q:List ai}(h:gD D H d p)(m:gD D i d q):gD D (H+i) d (gH p q):=by obtain⟨a,rfl,l,k⟩:=h;obtain⟨b,rfl,j,n⟩:=m;exact⟨a - b,rfl,l.sub j,λw e=>by have:=mU w a b;have:=k w e;have:=n w e;omega⟩
theorem gD.mono{D H b:Nat}{d:Nat->Nat}{p:List ai}(h:gD D H d p)(k:H<=b):gD D b d p:=by obtain⟨a,e,j,i⟩:=h;exact⟨a,e,j.mono k,i⟩
theorem LX{D R:List (List ai)}{l h m b:Nat}{j k:Nat->Nat}(d:∀c∈D,gD m b k c)(e:∀c∈R,gD l h j c):∀c∈fO D R,gD (l*m) (h*b+h*b) (λw=>j w+k w) c:=λc hc=>by
 simp only[fO,List.mem_map]at hc;obtain⟨i,-,rfl⟩:=hc;split
 ·exact((gD.get e _).mul (gD.get d _)).sub ((gD.get e _).mul (gD.get d _))
 ·exact((gD.get e _).mul (gD.get d _)).mono oM
theorem FB{D:List (List ai)}{Da Ha e b s:Nat}{da d:Nat->Nat}(h:∀c∈D,gD e b d c)
  (k:∀j,j<=s->∀c,gD (Da*e^j) (Ha*(2*b)^j) (λw=>da w+j*d w) c->CL c=true) :
  ∀(f j:Nat)(R:List (List ai)),R.length+j<=s+(D.length-1)\/R.length<=D.length-1->j<=s->(∀c∈R,gD (Da*e^j) (Ha*(2*b)^j) (λw=>da w+j*d w) c) ->
   La D f R=true/\∃i,i<=s/\∀c∈gm D f R,gD (Da*e^i) (Ha*(2*b)^i) (λw=>da w+i*d w) c
 | 0,j,R,_,hj,hR=>⟨rfl,j,hj,hR⟩
 | f+1,j,R,hl,hj,hR=>by
  unfold La gm;split
  ·rename_i m;have q:=LX h hR
   have l:∀c∈fO D R,gD (Da*e^(j+1)) (Ha*(2*b)^(j+1)) (λw=>da w+(j+1)*d w) c:=λc hc=>by
    have:=q c hc;have e1:Da*e^j*e=Da*e^(j+1):=by rw[Nat.pow_succ,Nat.mul_assoc]
    have r:Ha*(2*b)^j*b+Ha*(2*b)^j*b=Ha*(2*b)^(j+1):=by rw[Nat.pow_succ,<-Nat.mul_two,Nat.mul_assoc,Nat.mul_assoc,Nat.mul_comm b 2]
    have n:(λw=>da w+j*d w+d w)=λw=>da w+(j+1)*d w:=funext λw=>by rw[Nat.add_mul,Nat.one_mul,Nat.add_assoc]
    rw[e1,r,n]at this;exact this
   obtain⟨p,o⟩:=FB h k f (j+1) (fO D R) (by rw[gX];omega) oM l;refine⟨?_,o⟩;rw[Bool.and_eq_true,List.all_eq_true];exact⟨λc hc=>k j hj c (hR c hc),p⟩
  ·exact⟨rfl,j,hj,hR⟩
theorem LY(p:List ai)(v:Nat)(i:Int):bI (gJ p v i)=bI p:=by
 unfold gJ
 induction p with
 | nil=>rfl
 | cons u l b=>simp only[List.map_cons,bI,b]
theorem DI{v D H:Nat}{d:Nat->Nat}(hv:v<4)(k:d v=0):∀(L:List (List ai))(i:Nat),(∀c∈L,gD D H d c) ->
  (∀t∈fromL v i L,(t.1.nat=true/\(∀w,w<4->w≠v->t.1.get w<=d w)/\t.1.get v<=((i+L.length:Nat):Int))/\Dv D t.2)/\(D:Rat)*bI (fromL v i L)<=((L.length*H:Nat):Rat)/\(fromL v i L).length<=L.length*bx d
 | [],i,_=>⟨λt b=>(by cases b),by
   show(D:Rat)*0<=((0*H:Nat):Rat)
   rw[Rat.mul_zero];exact bQ _,by simp[fromL]⟩
 | c::L,i,h=>by
  obtain⟨p,rfl,q,n⟩:=h c sM;obtain⟨s,C,z⟩:=DI hv k L (i+1) λc hc=>h c (by simp[hc])
  have e:fromL v (i:Int) (p.l::L)=gJ p.l v i++fromL v ((i+1:Nat):Int) L:=by rw[fromL];rfl
  rw[e];refine⟨λt b=>?_,?_,?_⟩
  ·rcases List.mem_append.1 b with b|b
   ·obtain⟨u,hu,rfl⟩:=List.mem_map.1 b;obtain⟨n1,n2⟩:=n.inB u hu;have m:u.1.get v=0:=by have:=n2 v hv;have:=Ex.nat_get n1 v;omega
    refine⟨⟨Ex.put_nat n1 v oM,λw o j=>?_,?_⟩,q.d u hu⟩
    ·show(u.1.put v _).get w<=_;rw[Ex.get_put_ne _ hv o (Ne.symm j)];exact n2 w o
    ·show(u.1.put v (u.1.get v+i)).get v<=_;rw[Ex.get_put,m];simp only[List.length_cons];omega
   ·obtain⟨⟨m1,x,E⟩,y⟩:=s t b;exact⟨⟨m1,x,by simp only[List.length_cons];omega⟩,y⟩
  ·rw[sZ,LY,Rat.mul_add,List.length_cons,Nat.add_mul,Nat.one_mul,Rat.natCast_add];have:=q.a;have r:(D:Rat)*p.am=(D:Rat)*bI p.l:=rfl;rw[r]at this;grind
  ·have B:=n.len;rw[List.length_append,List.length_cons,Nat.add_mul,Nat.one_mul];have:(gJ p.l v i).length=p.l.length:=by unfold gJ;rw[List.length_map]
   omega
theorem DJ{x a j:Nat}(h:x<=2^a):x^j<=2^(a*j):=by rw[Nat.pow_mul];exact Nat.pow_le_pow_left h j
theorem Pg{v A al M s lM:Nat}{a b:MP}(hv:v<4)(b0:b≠0)(la:a.lo (v+1))(lb:b.lo (v+1))(ha:∀w,w<v->a.deg w<=A)(hb:∀w,w<v->b.deg w<=A)(ia:In al a)(ib:In al b)
  (hs:a.deg v+1<=b.deg v+s) (hM:b.deg v<=M) (hlM:M<=2^lM) (a0:(M+1)*((s+1)*A+1)^v<=10000) (J:(s+1)*(al+1)+lM<LB) :
  Sw a.l b.l v=some (nY v a b).l/\In ((s+1)*(al+1)+lM) (nY v a b)/\(∀w,w<v->(nY v a b).deg w<=((s+1)*A:Nat))/\(nY v a b).deg v<=M/\(nY v a b).lo (v+1):=by
 obtain⟨Da,Ha,a1,a2,a3,a4⟩:=ia;obtain⟨G,F,b1,b2,b3,b4⟩:=ib
 have hrow:∀(p:MP)(D H:Nat),p.lo (v+1)->(∀w,w<v->p.deg w<=A)->qI D H p->∀c∈aA p.l v,gD D H (dN v A 0) c:=λp D H lp hp C c hc=>by
  obtain⟨n,rfl⟩:=eu hc;refine⟨p.co v n,rfl,C.co v n,λw E=>?_⟩;unfold dN;split
  ·exact qO v n p E hv (hp w aM)
  ·have S:(p.co v n).deg w<=0:=Ie hv lp w oM E;omega
 have a5:=deg_pos b0 v;have lD:(aA b.l v).length=(b.deg v).toNat+1:=by rw[dS];have e:aD b.l v=b.deg v:=rfl;omega
 have lR:((aA a.l v).length:Int)<=a.deg v+1:=by rw[dS];have e:aD a.l v=a.deg v:=rfl;have:=deg_ge v a;omega
 have m:bx (dN v ((s+1)*A) M)<=10000:=by rw[zy hv];exact a0
 have O:∀j,j<=s->∀w,dN v A 0 w+j*dN v A 0 w<=dN v ((s+1)*A) M w:=λj B w=>by
  unfold dN;split
  ·have:=Nat.mul_le_mul_right A B;rw[Nat.add_mul];omega
  ·split<;>simp
 have q:∀j,j<=s->Da*G^j<=2^((s+1)*(al+1))/\Ha*(2*F)^j<=2^((s+1)*(al+1)):=λj B=>by
  have p1:=DJ (j:=j) b2;have p2:(2*F)^j<=2^((al+1)*j):=DJ (by rw[Nat.pow_succ];omega);have q1:=Nat.mul_le_mul a2 p1;have q2:=Nat.mul_le_mul a3 p2;rw[<-Nat.pow_add]at q1 q2;have r0:=Nat.mul_le_mul_left (al+1) B;have r1:al*j<=(al+1)*j:=Nat.mul_le_mul_right _ oM;have r2:(s+1)*(al+1)=(al+1)*s+(al+1):=by rw[Nat.mul_comm,Nat.mul_add,Nat.mul_one]
  exact⟨Nat.le_trans q1 (Nat.pow_le_pow_right oM oM),Nat.le_trans q2 (Nat.pow_le_pow_right oM oM)⟩
 have hpos:∀j,0<Da*G^j:=λj=>Nat.mul_pos a1 (Nat.pow_pos b1)
 have I:∀j,j<=s->∀c,gD (Da*G^j) (Ha*(2*F)^j) (λw=>dN v A 0 w+j*dN v A 0 w) c->CL c=true:=λj B c hc=>by obtain⟨p,rfl,S,h2⟩:=hc;exact sQ (h2.mono (O j B)) ⟨_,_,hpos j,(q j B).1,(q j B).2,S⟩ m oM
 obtain⟨k1,i,C,W⟩:=FB (Da:=Da) (Ha:=Ha) (da:=dN v A 0) (hrow b G F lb hb b4) I (aA a.l v).length 0 (aA a.l v)
  (by rw[lD];omega) oM (λc hc=>by
   have:=hrow a Da Ha la ha a4 c hc;have e3:(λw=>dN v A 0 w+0*dN v A 0 w)=dN v A 0:=funext λw=>by rw[Nat.zero_mul,Nat.add_zero]
   rw[Nat.pow_zero,Nat.pow_zero,Nat.mul_one,Nat.mul_one,e3];exact this)
 have x:=zu (aA b.l v) (aA a.l v).length (aA a.l v) oM;obtain⟨R,X⟩:∃R,R=gm (aA b.l v) (aA a.l v).length (aA a.l v):=⟨_,rfl⟩;rw[<-X]at W x;have Y:R.length<=M:=by rw[lD]at x;omega
 have N:dN v A 0 v+i*dN v A 0 v=0:=by simp[dN]
 obtain⟨f1,f2,f3⟩:=DI hv (d:=λw=>dN v A 0 w+i*dN v A 0 w) N R 0 W
 have hL:R.length*(Ha*(2*F)^i)<=2^((s+1)*(al+1)+lM):=by rw[Nat.add_comm,Nat.pow_add];exact Nat.mul_le_mul oM (q i C).2
 have hD:Da*G^i<=2^((s+1)*(al+1)+lM):=Nat.le_trans (q i C).1 (Nat.pow_le_pow_right oM oM)
 have y:∀t∈fromL v ((0:Nat):Int) R,LQ (dN v ((s+1)*A) M) t.1:=λt k=>by
  obtain⟨⟨m1,m2,m3⟩,-⟩:=f1 t k;refine⟨m1,λw E=>?_⟩;by_cases K:w=v
  ·subst K;rw[dN,if_neg oM,if_pos rfl];omega
  ·have h6:t.1.get w<=((dN v A 0 w+i*dN v A 0 w:Nat):Int):=m2 w E K;have h7:=O i C w;omega
 have z:(fromL v ((0:Nat):Int) R).length<=10000:=by
  have S:bx (λw=>dN v A 0 w+i*dN v A 0 w)<=((s+1)*A+1)^v:=by
   have e:(λw=>dN v A 0 w+i*dN v A 0 w)=dN v (A+i*A) 0:=funext λw=>by
    unfold dN;split
    ·rfl
    ·split<;>simp
   rw[e,zy hv,Nat.one_mul];exact Nat.pow_le_pow_left (by have:=Nat.mul_le_mul_right A C;rw[Nat.add_mul s 1 A];omega) v
  have h2:=Nat.mul_le_mul Y S;have h3:(M+1)*((s+1)*A+1)^v=M*((s+1)*A+1)^v+((s+1)*A+1)^v:=by rw[Nat.add_mul,Nat.one_mul]
  omega
 have Z:=RY (b:=(s+1)*(al+1)+lM) y m z (hpos i) hD hL (λt k=>(f1 t k).2) f2 J;have r:(nY v a b).l=canon (fromL v ((0:Nat):Int) R):=by rw[X];rfl
 have L:qI (Da*G^i) (R.length*(Ha*(2*F)^i)) (nY v a b):=by
  refine⟨λt k=>?_,?_⟩
  ·rw[r]at k;exact xH (λt k=>(f1 t k).2) t k
  ·refine Rat.le_trans (Rat.mul_le_mul_of_nonneg_left ?_ (bQ _)) f2;show bI (nY v a b).l<=_;rw[r];exact qd _
 have o:Dg (dN v ((s+1)*A) M) (nY v a b):=NA λt k=>by rw[r]at k;exact lm (P:=LQ (dN v ((s+1)*A) M)) y t k
 have u:In ((s+1)*(al+1)+lM) (nY v a b):=⟨_,_,hpos i,hD,hL,L⟩;refine⟨?_,u,o.low hv,o.top hv,o.lo⟩;have E:=sQ o u m J;unfold Sw;simp only;rw[<-X,if_pos ⟨λh=>b0 (zero_iff.2 h),k1,Z,List.all_eq_true.2 λc hc=>I i C c (W c hc)⟩];have:=NE E;rw[r]at this ⊢;exact this
theorem yh{v:Nat}(hv:v<4){z k f:MP}(m:z.lo (v+1))(pz:z.prim v)(l:k.lo v)(k0:k≠0)(h:z∣k*f):z∣f:=by
 have key:∀n:Nat,v+1+n<=4->∀f:MP,f.lo (v+1+n)->z∣k*f->z∣f:=λn=>by
  induction n with
  | zero=>intro _ f d h;exact eB (yP v oM) hv d pz l k0 h
  | succ n o =>
   intro p f d h;have b:z.fr (v+1+n):=m _ oM oM;have j:k.fr (v+1+n):=l _ oM oM;refine(dvd_iff_co b f).2 λi=>o oM _ (Ie oM d) ?_;have:=(dvd_iff_co b (k*f)).1 h i;rwa[co_mul_fr j]at this
 have e:v+1+(3-v)=4:=oM;exact key (3-v) oM f (by rw[e];exact YL f) h
theorem L6{u U v R d la xi H X b l2:Nat}(hu:1<=u)(j:u<=U)(z:0<R)(n:H<=2^b)(m:2*U*R^v<=2^l2)(i:la=l2+b)(C:X=2^xi-1)
  (hc:(la+xi)*((U-1)*(R+d)^v)<xi*(U*R^v)) :
  (2*(u*R^v*(X*H))+1)^((u-1)*(R+d)^v)<(X+1)^(u*R^v)/\u*R^v*(X*H)<=2^(la+xi):=by
 have x:0<2^xi:=Nat.pow_pos oM;have h:X+1=2^xi:=oM
 have r:2*(u*R^v)*H<=2^la:=by rw[i,Nat.pow_add];refine Nat.mul_le_mul (Nat.le_trans ?_ m) n;rw[Nat.mul_assoc 2 U];exact Nat.mul_le_mul_left 2 (Nat.mul_le_mul_right _ j)
 have s:2*(u*R^v*(X*H))+1<=2^(la+xi):=by
  have e1:2*(u*R^v*(X*H))=2*(u*R^v)*H*X:=by rw[Nat.mul_comm X H,<-Nat.mul_assoc,<-Nat.mul_assoc,<-Nat.mul_assoc]
  have k:=Nat.mul_le_mul_right X r;have l:2^la*X+2^la=2^(la+xi):=by rw[Nat.pow_add,<-h,Nat.mul_add,Nat.mul_one]
  have o:0<2^la:=Nat.pow_pos oM;rw[e1];omega
 refine⟨?_,oM⟩
 have k:(2*(u*R^v*(X*H))+1)^((u-1)*(R+d)^v)<=2^((la+xi)*((u-1)*(R+d)^v)):=by have e:2^((la+xi)*((u-1)*(R+d)^v))=(2^(la+xi))^((u-1)*(R+d)^v):=Nat.pow_mul ..;rw[e];exact Nat.pow_le_pow_left s _
 refine Nat.lt_of_le_of_lt k ?_;rw[h,<-Nat.pow_mul];refine Nat.pow_lt_pow_right oM ?_
 have l:(u-1)*U<=u*(U-1):=by rw[Nat.sub_mul,Nat.mul_sub,Nat.one_mul,Nat.mul_one];omega
 have y:0<U:=oM;refine Nat.lt_of_mul_lt_mul_right (a:=U) ?_
 have o:(la+xi)*((u-1)*(R+d)^v)*U<=u*((la+xi)*((U-1)*(R+d)^v)):=by
  have e1:(la+xi)*((u-1)*(R+d)^v)*U=(la+xi)*(R+d)^v*((u-1)*U):=by simp only[Nat.mul_comm,Nat.mul_left_comm,Nat.mul_assoc]
  have p:u*((la+xi)*((U-1)*(R+d)^v))=(la+xi)*(R+d)^v*(u*(U-1)):=by simp only[Nat.mul_comm,Nat.mul_left_comm,Nat.mul_assoc]
  rw[e1,p];exact Nat.mul_le_mul_left _ l
 have B:u*((la+xi)*((U-1)*(R+d)^v))<u*(xi*(U*R^v)):=Nat.mul_lt_mul_of_pos_left hc hu;have q:u*(xi*(U*R^v))=xi*(u*R^v)*U:=by simp only[Nat.mul_comm,Nat.mul_left_comm,Nat.mul_assoc]
 rw[<-q];omega
theorem Ad{v M d b R la xi l2 kap U:Nat}(hv:v<4){p q x y z k t e:MP}(h:Sq v p q x y)(y0:y≠0)(k0:k≠0)(kf:k.lo v)(e0:e≠0)(ef:e.fr v)(I:k*x=t*y+e*z)(D:z.deg v<y.deg v)(Y:z≠0)(pz:z.prim v)(lz:z.lo (v+1))
  (N:p≠0) (O:q≠0) (lp:p.lo (v+1)) (lq:q.lo (v+1)) (hp:∀w,w<v->p.deg w<=d) (hq:∀w,w<v->q.deg w<=d) (ip:In b p) (iq:In b q) (hm:p.deg v<=M) (hn:q.deg v<=M) (a8:y.deg v<=p.deg v) (a6:y.deg v<=q.deg v)
  (hU:2*(M:Int)+2<=U+2*y.deg v) (hR:0<R) (h2:2*U*R^v<=2^l2) (Z:la=l2+b) (hc:(la+xi)*((U-1)*(R+d)^v)<xi*(U*R^v)) (hk:uz (dN v (R-1+d) M) (v+1)<=2^kap) :
  (∀w,w<v->z.deg w<=((U*d:Nat):Int))/\In (la+xi+kap) (nrm z):=by
 have a7:=deg_pos Y v;obtain⟨m,em⟩:∃m:Nat,p.deg v=m:=⟨(p.deg v).toNat,oM⟩;obtain⟨n,en⟩:∃n:Nat,q.deg v=n:=⟨(q.deg v).toNat,oM⟩;obtain⟨K,eK⟩:∃K:Nat,y.deg v=(K:Int)+1:=⟨(y.deg v).toNat - 1,oM⟩;have hu:1<=m+n - 2*K:=oM;have F:m+n - 2*K<=U:=oM;refine⟨λw C=>?_,?_⟩
 ·obtain⟨S,T,B,hS,o,u⟩:=KE (v:=v) (w:=w) hv oM oM (m:=m) (n:=n) (k:=K) oM oM oM oM (hp w C) (hq w C);obtain⟨f0,c',c0,cl,hd⟩:=h.dvd hv y0 k0 kf e0 ef I D Y (f:=S*p+T*q) (K:=(K:Int)) rfl o (.inr oM) B oM oM;have h3:=dvd_deg f0 (yh hv lz pz cl c0 hd) w;have h4:(m+n - 2*K)*d<=U*d:=Nat.mul_le_mul_right _ F;omega
 ·obtain⟨j,Hp,a1,a2,a3,a4⟩:=ip;obtain⟨Dq,Hq,b1,b2,b3,b4⟩:=iq;have l:(j:Rat)≠0:=jE a1;have r:(Dq:Rat)≠0:=jE b1
  have L:(c (j:Rat)*p).am<=((2^b:Nat):Rat):=by rw[sG,bO (bQ _)];exact Rat.le_trans a4.a (Ac a3)
  have W:(c (Dq:Rat)*q).am<=((2^b:Nat):Rat):=by rw[sG,bO (bQ _)];exact Rat.le_trans b4.a (Ac b3)
  obtain⟨X,hX⟩:∃X,X=2^xi - 1:=⟨_,rfl⟩;obtain⟨n1,n2⟩:=L6 (d:=d) hu F hR (Nat.le_refl (2^b)) h2 Z hX hc;have lP:(c (j:Rat)*p).lo (v+1):=iw N (Dz l p).1 lp;have lQ:(c (Dq:Rat)*q).lo (v+1):=iw O (Dz r q).1 lq
  obtain⟨S,T,B,hS,o,u,G,E,s⟩:=I9 hv lP lQ (qW a4.d) (qW b4.d) (m:=m) (n:=n) (k:=K) (d:=d) (by rw[uE l N];omega) (by rw[uE r O];omega) oM oM
   (λw C=>by rw[uE l N];exact hp w C) (λw C=>by rw[uE r O];exact hq w C) L W hR n1
  have i:S*(c (j:Rat)*p)+T*(c (Dq:Rat)*q)=(S*c (j:Rat))*p+(T*c (Dq:Rat))*q:=gR
  have a5:(S*c (j:Rat)).deg v<=S.deg v:=by have h5:(c (j:Rat)).deg v<=0:=nX _ v;have:=bT v S (c (j:Rat)) (Int.le_refl _) h5 (by have:=deg_ge v S;omega);omega
  have H:S*c (j:Rat)≠0\/T*c (Dq:Rat)≠0:=B.imp (λh=>mul_ne h (wF l)) λh=>mul_ne h (wF r);obtain⟨f,hf⟩:∃f,f=S*(c (j:Rat)*p)+T*(c (Dq:Rat)*q):=⟨_,rfl⟩;rw[<-hf]at o u G E s i;obtain⟨f0,c',c0,cl,hd⟩:=h.dvd hv y0 k0 kf e0 ef I D Y (f:=f) (K:=(K:Int)) i o (.inr oM) H oM oM;have a0:=yh hv lz pz cl c0 hd
  have J:In (la+xi) f:=by refine⟨1,_,oM,Nat.one_le_two_pow,n2,G,?_⟩;rw[show((1:Nat):Rat)=1 from rfl,Rat.one_mul];exact E
  exact J.fac (n:=v+1) oM f0 a0 s (sK s u oM) hk
structure nu where
 M:Nat
 d:Nat
 b:Nat
 E:Nat
 br:Nat
 kE:Nat
 k0:Nat
 lM:Nat
 P:Nat
 R:Nat->Nat
 l2:Nat->Nat
 xi:Nat->Nat
 kap:Nat->Nat
namespace nu
def bE (L:nu):Nat:=L.br+L.kE
def cz (L:nu) (v x:Nat):Nat:=if v=0 then 0 else x+L.kE
def b1 (L:nu) (v:Nat):Nat:=if v=0 then L.b else L.b+(L.b+L.k0)
def mu (L:nu) (v U:Nat):Nat:=if U=1 then L.b1 v else L.l2 U+L.b1 v+L.xi U+L.kap U
def U (L:nu) (k:Nat):Nat:=2*L.M+2-2*k
end nu
structure qm (v:Nat) (L:nu):Prop where
 hv:v<4
 hlM:L.M<=2^L.lM
 k0:uz (dN v L.d L.M) (v+1)<=2^L.k0
 kE:uz (dN v L.E 0) v<=2^L.kE
 mono:∀U,U<2*L.M->1<=U->L.mu v U<=L.mu v (U+1)
 sg:∀U,U<2*L.M+1->2<=U->0<L.R U/\2*U*L.R U^v<=2^L.l2 U/\(L.l2 U+L.b1 v+L.xi U)*((U-1)*(L.R U+L.d)^v)<L.xi U*(U*L.R U^v)/\uz (dN v (L.R U-1+L.d) L.M) (v+1)<=2^L.kap U
 p1:(L.M+1)*(1*L.d)<=L.P/\(L.M+1)*(L.b1 v+1)+L.lM<LB
 pk:∀k,k<L.M+1->2<=k->(k+1)*(L.U k*L.d)<=L.P/\(k+1)*(L.mu v (L.U k)+1)+L.lM<LB
 bP:(L.M+1)*(L.P+1)^v<=10000
 e1:L.M*(1*L.d)<=L.E/\L.M*(L.b1 v+1)+L.lM<=L.br
 ek:∀k,k<L.M+1->3<=k->k*(L.U k*L.d)<=L.E/\k*(L.mu v (L.U k)+1)+L.lM<=L.br
 dE:L.d<=L.E/\L.b<=L.br/\L.E<=L.P/\1<=L.M
 x1:L.br+L.mu v (2*L.M)+L.cz v L.br<LB
 x2:L.b1 v+L.cz v L.b<LB
 dv:bx (Ue v L.d (RZ v L.d L.M))<=10000/\L.b1 v+L.b1 v+(bx (Ue v L.d (RZ v L.d L.M))+1)*(L.b1 v+1)<LB
 fin:L.bE+L.mu v (2*L.M)<LB
 fl:L.M+1<fuel
def PG (d:Nat->Nat) (b:Nat) (G:List ai->List ai->Option (List ai)):Prop:=∀x y:MP,Dg d x->Dg d y->In b x->In b y->∃r,G x.l y.l=some r
theorem AX{g:MP}(h:hd g=1):nrm g=g:=by rw[nrm,h,(dK:(1:Rat)/1=1),zR];grind
theorem rf{v:Nat}{L:nu}(h:qm v L){x:Nat}{g f:MP}(hg:hd g=1)(f0:f≠0)(hd:g∣f)(b:Dg (dN v L.E 0) f)(j:In x f):Dg (dN v L.E 0) g/\In (L.cz v x) g:=by
 have hv:=h.hv;refine⟨b.dvd f0 hd,?_⟩;unfold nu.cz;split
 ·rename_i e;subst e;obtain⟨r,rfl⟩:=jX (iw f0 hd b.lo0);have k:r≠0:=λe=>by rw[e,BZ]at hg;cases hg
  have d:=sI k 1;have i:c r*1=c r:=gR;rw[i,hg,uC,Rat.one_mul]at d;rw[<-d,zR];exact In.one 0
 ·have:=j.fac (n:=v) oM f0 hd b.lo0 b h.kE;rwa[AX hg]at this
theorem NI{v:Nat}{L:nu}{x:Nat}(b:x<=L.br):L.cz v x<=L.bE:=by unfold nu.cz nu.bE;split<;>omega
def XA (v:Nat) (L:nu) (x:Nat) (l:List ai):Prop:=∃f:MP,f.l=l/\Dg (dN v L.E 0) f/\In x f
theorem NJ{v x:Nat}{L:nu}(h:qm v L)(y:x<=L.br){G:List ai->List ai->Option (List ai)}(B:Nt G)(s:PG (dN v L.E 0) L.bE G):∀(l:List (List ai))(b:MP),(∀c∈l,XA v L x c) ->
  (b=0\/(hd b=1/\∃f:MP,f≠0/\b∣f/\Dg (dN v L.E 0) f/\In x f))->∃r,ut G b.l l=some r
 | [],b,_,_=>⟨_,rfl⟩
 | c::l,b,hl,ha=>by
  obtain⟨f,rfl,p,hf⟩:=hl c sM
  have d:Dg (dN v L.E 0) b/\In L.bE b:=by
   rcases ha with e|⟨D,z,f0,j,m,o⟩
   ·rw[e];exact⟨λw _=>by rw[deg_zero];omega,In.zero _⟩
   ·obtain⟨F,C⟩:=rf h D f0 j m o;exact⟨F,C.mono (NI y)⟩
  obtain⟨r,q⟩:=s b f d.1 p d.2 (hf.mono (by unfold nu.bE;omega));obtain⟨g,rfl,hg⟩:=B b f r q;rw[ut,q];simp only;split
  ·exact⟨_,rfl⟩
  ·refine NJ h y B s l g (λc hc=>hl c (by simp[hc])) ?_;by_cases k:g=0
   ·exact .inl k
   ·refine .inr ⟨hg.n k,?_⟩;by_cases f0:f=0
    ·rcases ha with e|⟨-,z,H,j,m,o⟩
     ·exact absurd (zero_dvd (hg.i.u 0 (by rw[e];exact dvd_refl 0) (by rw[f0];exact dvd_refl 0))) k
     ·exact⟨z,H,dvd_trans hg.i.l j,m,o⟩
    ·exact⟨f,f0,hg.i.r,p,hf⟩
theorem zz{v x:Nat}{L:nu}(h:qm v L){a:MP}(e:a.lo (v+1))(ha:∀w,w<v->a.deg w<=L.E)(i:In x a)(n:Nat):Dg (dN v L.E 0) (a.co v n)/\In x (a.co v n):=by
 refine⟨λw b=>?_,i.co v n⟩;unfold dN;split
 ·exact qO v n a b h.hv (ha w aM)
 ·have d:(a.co v n).deg w<=0:=Ie h.hv e w oM b;split<;>exact d
theorem DK{v x:Nat}{L:nu}(h:qm v L)(s:x<=L.br){G:List ai->List ai->Option (List ai)}(k:Nt G)(y:PG (dN v L.E 0) L.bE G){a:MP}(j:a.lo (v+1))(ha:∀w,w<v->a.deg w<=L.E)(o:In x a) :
  ∃g:MP,mD G a.l v=some g.l/\tZ v g a/\(g≠0->hd g=1)/\(a≠0->Dg (dN v L.E 0) g/\In (L.cz v x) g):=by
 obtain⟨r,p⟩:=NJ h s k y (aA a.l v) 0 (λc hc=>by
  obtain⟨n,e⟩:=eu hc;obtain⟨i,b⟩:=zz h j ha o n
  exact⟨a.co v n,e.symm,i,b⟩) (.inl rfl)
 obtain⟨g,rfl,hg,q⟩:=qi k (a:=a) (v:=v) p;refine⟨g,p,hg,q,λm=>?_⟩;have u:=dvd_ne m hg.d;obtain⟨i,b⟩:=zz h j ha o (a.deg v).toNat;exact rf h (q u) (lc_ne m v) ((dvd_iff_co hg.f a).1 hg.d _) i b
theorem NK{v:Nat}{L:nu}(h:qm v L){U:Nat}(b:1<=U):∀k:Nat,U+k<=2*L.M->L.mu v U<=L.mu v (U+k)
 | 0,_=>Nat.le_refl _
 | k+1,hk=>Nat.le_trans (NK h b k (by omega)) (h.mono (U+k) (by omega) (by omega))
theorem yj{v:Nat}{L:nu}(h:qm v L){U b:Nat}(d:1<=U)(e:U<=b)(i:b<=2*L.M):L.mu v U<=L.mu v b:=by have:=NK h d (b - U) oM;rwa[(oM:U+(b - U)=b)]at this
theorem JI{v:Nat}{L:nu}(h:qm v L){G:List ai->List ai->Option (List ai)}(hG:Nt G)(hX:PG (dN v L.E 0) L.bE G)
  {p q:MP} (p0:p≠0) (q0:q≠0) (lp:p.lo (v+1)) (lq:q.lo (v+1)) (hp:∀w,w<v->p.deg w<=L.d) (hq:∀w,w<v->q.deg w<=L.d) (ip:In (L.b1 v) p) (iq:In (L.b1 v) q) (hm:p.deg v<=L.M) (hn:q.deg v<=L.M) :
  ∀(n:Nat)(x y:MP)(U:Nat),y.deg v<n->Sq v p q x y->x.prim v->y.prim v->x.lo (v+1)->y.lo (v+1)->(∀w,w<v->x.deg w<=((U*L.d:Nat):Int))->(∀w,w<v->y.deg w<=((U*L.d:Nat):Int))->In (L.mu v U) x->In (L.mu v U) y ->
   1<=U->U<=2*L.M->(U=1\/((U:Int)+2*x.deg v=2*(L.M:Int)+2/\y.deg v<x.deg v))->1<=y.deg v->y.deg v<=x.deg v->x.deg v<=L.M->y.deg v<=p.deg v->y.deg v<=q.deg v ->
   ∃s:MP,qV G v n x.l y.l=some s.l/\In (L.mu v (2*L.M)) s
 | 0,x,y,U,hlt,_,_,_,_,_,_,_,_,_,_,_,_,z,_,_,_,_=>by omega
 | n+1,x,y,U,hlt,hS,px,py,lx,ly,dx,dy,ix,iy,hU1,hU2,hUc,hy1,hyx,hxM,hyp,hyq=>by
  have hv:=h.hv;have y0:=cZ py;have x0:=cZ px;obtain⟨k,hk⟩:∃k:Nat,x.deg v=k:=⟨(x.deg v).toNat,oM⟩;obtain⟨j,hj⟩:∃j:Nat,y.deg v=j:=⟨(y.deg v).toNat,oM⟩
  have a4:(k-j+1+1)*(U*L.d)<=L.P/\(k-j+1+1)*(L.mu v U+1)+L.lM<LB:=by
   rcases hUc with e|⟨e,K⟩
   ·subst e;have z:=h.p1;have C:=Nat.mul_le_mul_right (1*L.d) (oM:k-j+1+1<=L.M+1);have X:=Nat.mul_le_mul_right (L.mu v 1+1) (oM:k-j+1+1<=L.M+1);have h4:L.mu v 1=L.b1 v:=if_pos rfl;rw[h4]at X ⊢;omega
   ·have z:=h.pk k oM oM;have e2:L.U k=U:=by unfold nu.U;omega
    rw[e2]at z;have C:=Nat.mul_le_mul_right (U*L.d) (oM:k-j+1+1<=k+1);have X:=Nat.mul_le_mul_right (L.mu v U+1) (oM:k-j+1+1<=k+1);omega
  obtain⟨r1,r2,r3,r4,r5⟩:=Pg (M:=L.M) (s:=k - j+1) (lM:=L.lM) hv y0 lx ly dx dy ix iy oM oM h.hlM
   (Nat.le_trans (Nat.mul_le_mul_left _ (Nat.pow_le_pow_left (by have:=a4.1;omega) v)) h.bP) a4.2
  obtain⟨t,s',a1,ag⟩:=Fx (a:=x) y0 v;obtain⟨r,hr⟩:∃r,r=nY v x y:=⟨_,rfl⟩;rw[<-hr]at r1 r2 r3 r4 r5 a1 ag;rw[qV,r1];have R:L.mu v U<=L.mu v (2*L.M):=yj h hU1 hU2 (Nat.le_refl _)
  cases er:r.l with
  | nil=>exact⟨y,rfl,iy.mono R⟩
  | cons a l =>
   simp only;have u:r≠0:=λe=>by rw[zero_iff.1 e]at er;cases er
   split
   ·exact⟨1,by rw[sJ],In.one _⟩
   ·rename_i a5
    have a8:1<=r.deg v:=by
     have z:=deg_pos u v;have C:r.deg v≠0:=by show aD r.l v≠0;rw[er];exact a5
     omega
    have O:(k-j+1+1)*(U*L.d)<=L.E/\(k-j+1+1)*(L.mu v U+1)+L.lM<=L.br:=by
     rcases hUc with e|⟨e,K⟩
     ·subst e;have z:=h.e1;have C:=Nat.mul_le_mul_right (1*L.d) (oM:k-j+1+1<=L.M);have X:=Nat.mul_le_mul_right (L.mu v 1+1) (oM:k-j+1+1<=L.M);have h4:L.mu v 1=L.b1 v:=if_pos rfl;rw[h4]at X ⊢;omega
     ·have z:=h.ek k oM oM;have e2:L.U k=U:=by unfold nu.U;omega
      rw[e2]at z;have C:=Nat.mul_le_mul_right (U*L.d) (oM:k-j+1+1<=k);have X:=Nat.mul_le_mul_right (L.mu v U+1) (oM:k-j+1+1<=k);omega
    have a3:∀w,w<v->r.deg w<=L.E:=λw hw=>by have:=r3 w hw;have:=O.1;omega
    have N:In L.br r:=r2.mono O.2;obtain⟨g,c1,c2,c3,c4⟩:=DK h (Nat.le_refl _) hG hX r5 a3 N;obtain⟨c5,c6⟩:=c4 u;obtain⟨i,o,I,F⟩:=jh c2 u;have b:=cZ I;have a2:i.lo (v+1):=qj F b o r5;have aa:g.deg v=0:=uf c2.f F;have ap:i.deg v=r.deg v:=by rw[o,deg_mul F b,aa];omega
    have ar:2<=j:=oM;have B:2<=L.U j/\L.U j<=2*L.M:=by unfold nu.U;omega
    have a9:((L.U j:Nat):Int)+2*y.deg v=2*(L.M:Int)+2:=by rw[hj];unfold nu.U;omega
    obtain⟨s1,s2,s3,s4⟩:=h.sg (L.U j) oM B.1;have S:=uX hv ly s';have D:=GU (lc_ne y0 v) s';have Y:(y.lc v)^s'*x=t*y+g*i:=by rw[<-o];exact a1
    obtain⟨m1,m2⟩:=Ad hv hS y0 D S F c2.f Y oM b I a2 p0 q0 lp lq hp hq ip iq hm hn hyp hyq oM s1 s2 rfl s3 s4;have ad:L.l2 (L.U j)+L.b1 v+L.xi (L.U j)+L.kap (L.U j)=L.mu v (L.U j):=by rw[nu.mu,if_neg oM]
    rw[ad]at m2;have ao:L.mu v (L.U j)<=L.mu v (2*L.M):=yj h oM B.2 (Nat.le_refl _)
    have H:In (L.br+L.mu v (L.U j)) i:=by
     have e1:hd r=hd i:=by rw[o,GV F b,c3 F,Rat.one_mul]
     have C:=(N.hd u).mul m2;rwa[e1,<-qZ b]at C
    have aq:=h.x1
    have J:bx (dN v L.E L.M)<=10000:=by rw[zy hv];exact Nat.le_trans (Nat.mul_le_mul_left _ (Nat.pow_le_pow_left (by have:=h.dE.2.2.1;omega) v)) h.bP
    have nQ:Dg (dN v L.E L.M) r:=sK r5 a3 oM;have a0:=yg F (o.trans (jF g i)) nQ J H c6 oM;have W:Dg (dN v L.E L.M) i:=nQ.dvd u ⟨g,o.trans (jF g i)⟩;have an:=ql W H J oM
    have al:kT G (a::l) v=some i.l:=by rw[er]at a0 c1;rw[kT];simp only[c1];exact a0
    have Z:nrm i≠0:=RV b
    have m:∀w,(nrm i).deg w=i.deg w:=λw=>by have z:=dvd_deg b (fF b).1 w;have C:=dvd_deg Z (fF b).2 w;omega
    have ac:=vF b
    have a7:Sq v p q y (nrm i):=by refine hS.step y0 D S (e:=g*c (hd i)) (mul_ne F (wF ac)) (vK c2.f (nX _ v)) (t:=t) ?_ (by rw[m];omega);rw[Y];have z:g*c (hd i)*nrm i=g*(c (hd i)*nrm i):=gR;rw[z,<-qZ b]
    obtain⟨s,a6,ab⟩:=JI h hG hX p0 q0 lp lq hp hq ip iq hm hn n y (nrm i) (L.U j) (by rw[m];omega) a7 py (jY I (fF b).1) ly (LP a2)
     (λw hw=>by
      have z:=dy w hw;have C:U*L.d<=L.U j*L.d:=Nat.mul_le_mul_right _ (by rcases hUc with e|⟨e,_⟩<;>omega)
      omega)
     (λw hw=>by rw[m];exact m1 w hw) (iy.mono (yj h hU1 (by rcases hUc with e|⟨e,_⟩<;>omega) B.2)) m2 oM B.2 (.inr ⟨a9,by rw[m];omega⟩) (by rw[m];omega) (by rw[m];omega) oM (by rw[m];omega) (by rw[m];omega)
    refine⟨s,?_,ab⟩;rw[al];simp only;rw[an];exact a6
end Q
end
section
namespace Q
open MP Go Go.Proofs.YtopclbeomcggiaaGreat
theorem Wh{G:List ai->List ai->Option (List ai)}{a b r:List ai}(h:Ao G a b=some r):Rc G a b=some r:=by
 unfold Ao at h;unfold Rc;split at h
 ·rename_i i;rw[if_pos i];exact h
 rename_i i;rw[if_neg i];split at h
 ·rename_i e;rw[if_pos e];exact h
 rename_i e;rw[if_neg e];split at h
 ·rename_i k;rw[if_pos k];exact h
 rename_i k;rw[if_neg k];obtain⟨v,hv,h⟩:=aV h;rw[hv];simp only[fD];split at h
 ·rename_i d;rw[if_pos d];exact h
 rename_i d;rw[if_neg d];split at h
 ·rename_i j;rw[if_pos j];exact h
 rename_i j;rw[if_neg j];obtain⟨x,m,h⟩:=aV h;obtain⟨y,l,h⟩:=aV h;obtain⟨g,hg,h⟩:=aV h;obtain⟨p,hp,h⟩:=aV h;obtain⟨q,hq,h⟩:=aV h;split at h
 ·cases h
 rw[m,l];simp only;rw[hg];simp only;rw[hp,hq];exact h
theorem yl:∀n,Nt (wm n)
 | 0=>λ_ _ _ h=>by cases h
 | n+1=>λa b r h=>Ua (yl n) a b r (Wh h)
theorem JJ{v:Nat}{a b:MP}(h:0<a.deg v\/0<b.deg v)(d:a.lo (v+1))(lb:b.lo (v+1)):∀n,n<=4->v<n->sO [a.l,b.l] n=some v
 | 0,_,h=>by omega
 | n+1,hn,hv=>by
  rw[sO];rcases Nat.eq_or_lt_of_le (show v<=n by omega)with e|hlt
  ·subst e;rw[if_pos];simp only[List.any_cons,List.any_nil,Bool.or_false,Bool.or_eq_true,decide_eq_true_eq];exact h
  ·rw[if_neg]
   ·exact JJ h d lb n (by omega) hlt
   ·simp only[List.any_cons,List.any_nil,Bool.or_false,Bool.or_eq_true,decide_eq_true_eq,not_or];have j:a.deg n<=0:=d n oM oM;have i:b.deg n<=0:=lb n oM oM;exact⟨by show ¬0<a.deg n;omega,by show ¬0<b.deg n;omega⟩
theorem uY{v:Nat}{L:nu}(h:qm v L){a x p:MP}(l:a≠0)(m:a.lo (v+1))(da:Dg (dN v L.d L.M) a)(k:In L.b a)(e:a=x*p)(o:hd x=1)(j:v=0->x=1):In (L.b1 v) p:=by
 unfold nu.b1;split
 ·rename_i i;have e1:a=p:=by rw[e,j i];grind
  rw[<-e1];exact k
 ·exact k.quot (n:=v+1) (by have:=h.hv;omega) l (e.trans (jF x p)) o m da h.k0
theorem NL{v:Nat}{L:nu}(h:qm v L){G:List ai->List ai->Option (List ai)}(I:Nt G)(D:PG (dN v L.E 0) L.bE G)
  {p q:MP} (y:p.prim v) (z:q.prim v) (dp:Dg (dN v L.d L.M) p) (dq:Dg (dN v L.d L.M) q) (ip:In (L.b1 v) p) (i:In (L.b1 v) q) (u:1<=q.deg v) (e:q.deg v<=p.deg v) :
  ∃s:MP,Am G p.l q.l v=some s.l/\In (L.mu v (2*L.M)) s:=by
 have hv:=h.hv;have H:=cZ y;have B:=cZ z;have k:=dp.top hv;have n:=dq.top hv;have F:=h.fl;have e1:aD p.l v=p.deg v:=rfl;have J:aD q.l v=q.deg v:=rfl;have o:L.mu v 1=L.b1 v:=if_pos rfl;have x:L.b1 v<=L.mu v (2*L.M):=by rw[<-o];exact yj h (Nat.le_refl _) (by have:=h.dE.2.2.2;omega) (Nat.le_refl _)
 obtain⟨m,hm⟩:=sH (a:=p.l) (b:=q.l) (v:=v) oM oM [0,1,2];obtain⟨r,C⟩:=Uf hv B (dp.low hv) k (dq.low hv) dp.lo dq.lo ip i h.dv.1 h.dv.2;unfold Am zf;rw[hm];simp only;split
 ·exact⟨1,by rw[sJ],In.one _⟩
 ·rw[C];simp only;split
  ·exact⟨q,rfl,i.mono x⟩
  ·exact JI h I D H B dp.lo dq.lo (dp.low hv) (dq.low hv) ip i k n fuel p q 1 oM .base y z dp.lo dq.lo
    (λw j=>by have:=dp.low hv w j;omega) (λw j=>by have:=dq.low hv w j;omega) (by rw[o];exact ip) (by rw[o];exact i) (Nat.le_refl _) (by have:=h.dE.2.2.2;omega) (.inl rfl) u e k e (Int.le_refl _)
theorem NM{v:Nat}{L:nu}(h:qm v L){G:List ai->List ai->Option (List ai)}(J:Nt G)(H:PG (dN v L.E 0) L.bE G)(O:PG (dN v L.E 0) L.bE (Ao G)):PG (dN v L.d L.M) L.b (Ao G):=λa b da o K W=>by
 have hv:=h.hv;have D:=h.dE;have a1:=h.x2
 have j:bx (dN v L.d L.M)<=10000:=by rw[zy hv];exact Nat.le_trans (Nat.mul_le_mul_left _ (Nat.pow_le_pow_left oM v)) h.bP
 have ax:L.b<=L.b1 v:=by unfold nu.b1;split<;>omega
 have a4:L.b<LB:=oM;have u:L.b<=L.bE:=by unfold nu.bE;omega
 have low0:∀p:MP,Dg (dN v L.d L.M) p->p.deg v<=0->Dg (dN v L.E 0) p:=λp dp hp=>sK dp.lo (λw X=>by have:=dp.low hv w X;omega) hp;by_cases a3:a.deg v<=0/\b.deg v<=0
 ·exact O a b (low0 a da a3.1) (low0 b o a3.2) (K.mono u) (W.mono u)
 unfold Ao;split
 ·exact⟨_,ql o W j a4⟩
 rename_i ha;have F:a≠0:=λe=>ha (zero_iff.1 e);split
 ·exact⟨_,ql da K j a4⟩
 rename_i hb;have b0:b≠0:=λe=>hb (zero_iff.1 e);split
 ·exact⟨_,rfl⟩
 have ab:Rb [a.l,b.l]=some v:=JJ oM da.lo o.lo 4 oM hv;rw[ab];simp only[fD];have C:∀p:MP,Dg (dN v L.d L.M) p->∀w,w<v->p.deg w<=L.E:=λp dp w X=>by have:=dp.low hv w X;omega
 obtain⟨x,x1,x2,x3,x4⟩:=DK h D.2.1 J H da.lo (C a da) K;obtain⟨y,y1,y2,y3,y4⟩:=DK h D.2.1 J H o.lo (C b o) W;obtain⟨x5,x6⟩:=x4 F;obtain⟨y5,y6⟩:=y4 b0;have m:L.cz v L.b<=L.bE:=NI D.2.1;split
 ·rename_i h0;rw[x1];exact H x b x5 (low0 b o (Int.le_of_eq h0)) (x6.mono m) (W.mono u)
 rename_i R;split
 ·rename_i h0;rw[y1];exact H a y (low0 a da (Int.le_of_eq h0)) y5 (K.mono u) (y6.mono m)
 rename_i a2;rw[x1,y1];simp only;obtain⟨g',Z⟩:=H x y x5 y5 (x6.mono m) (y6.mono m);obtain⟨g,rfl,hg⟩:=J x y _ Z;obtain⟨p,S,pp,I⟩:=jh x2 F;obtain⟨q,eq,pq,y0⟩:=jh y2 b0;have p0:=cZ pp;have q0:=cZ pq
 have a5:∀z:MP,v=0->hd z=1->Dg (dN v L.E 0) z->z=1:=λz e Y h2=>by
  subst e;obtain⟨r,rfl⟩:=jX h2.lo0;have hr:r≠0:=λe=>by rw[e,BZ]at Y;cases Y
  have N:=sI hr 1;have an:c r*1=c r:=gR;rw[an,Y,uC,Rat.one_mul]at N;rw[<-N,zR]
 have ip:=uY h F da.lo da K S (x3 I) (λe=>a5 x e (x3 I) x5);have iq:=uY h b0 o.lo o W eq (y3 y0) (λe=>a5 y e (y3 y0) y5);have a7:=yg I (S.trans (jF x p)) da j ip x6 a1;have a9:=yg y0 (eq.trans (jF y q)) o j iq y6 a1;have ad:¬(p.l=[]\/q.l=[]):=λe=>e.elim (λe=>p0 (zero_iff.2 e)) λe=>q0 (zero_iff.2 e);rw[Z,a7,a9];simp only;rw[if_neg ad];have dp:Dg (dN v L.d L.M) p:=da.dvd F ⟨x,S.trans (jF x p)⟩;have dq:Dg (dN v L.d L.M) q:=o.dvd b0 ⟨y,eq.trans (jF y q)⟩;have au:p.deg v=a.deg v:=by rw[S,deg_mul I p0,uf x2.f I];omega
 have ao:q.deg v=b.deg v:=by rw[eq,deg_mul y0 q0,uf y2.f y0];omega
 have av:=deg_pos F v;have ar:=deg_pos b0 v;have aq:a.deg v≠0:=a2;have aw:b.deg v≠0:=R
 have hs:∃s:MP,Ef G p.l q.l v=some s.l/\In (L.mu v (2*L.M)) s:=by
  unfold Ef;split
  ·rename_i k;have k:p.deg v<q.deg v:=k;exact NL h J H pq pp dq dp iq ip oM oM
  ·rename_i k;have k:¬p.deg v<q.deg v:=k;exact NL h J H pp pq dp dq ip iq oM oM
 obtain⟨s,s1,s2⟩:=hs;rw[s1];simp only;have e3:L.mu v 1=L.b1 v:=if_pos rfl;have B:=h.fin;have ap:L.b1 v<=L.mu v (2*L.M):=by rw[<-e3];exact yj h (Nat.le_refl _) oM (Nat.le_refl _)
 have a6:Wp p.l:=kF (sQ dp ip j oM);have ag:Wp q.l:=kF (sQ dq iq j oM);obtain⟨s',es,ac⟩:=Nw J hv a6 ag dp.lo dq.lo pp pq s1;have aa:s=s':=MP.eq_of es;subst aa;have a8:g*s∣a:=by rw[S];exact mul_dvd hg.i.l ac.l
 have g0:=dvd_ne I hg.i.l
 have ig:In L.bE g:=by obtain⟨Y,h2⟩:=zz h da.lo (C a da) K (a.deg v).toNat;have h3:g∣a.lc v:=dvd_trans hg.i.l ((dvd_iff_co x2.f a).1 x2.d _);exact(rf h (hg.n g0) (lc_ne F v) h3 Y h2).2.mono m
 have im:=ig.mul s2;have dm:Dg (dN v L.d L.M) (g*s):=da.dvd F a8;have X:=NE (sQ dm im j B);have al:g1 (aX g.l s.l)=some (g*s).l:=X;rw[al];exact⟨_,ql dm im j B⟩
theorem NN{b:Nat}(hb:b<LB){d:Nat->Nat}(hd:∀w,w<4->d w=0)(n:Nat):PG d b (wm (n+1)):=λx y k o s m=>by
 have i:bx d<=10000:=by unfold bx;rw[hd 0,hd 1,hd 2,hd 3]<;>omega
 have hc:∀z:MP,Dg d z->z.l≠[]->kY z.l=true:=λz dz hz=>by
  have p:z.lo 0:=λw _ j=>by have:=dz w j;rw[hd w j]at this;exact this
  obtain⟨r,rfl⟩:=jX p;have e:(c r).l=bZ r:=rfl;rw[e]at hz ⊢;unfold bZ at hz ⊢;split
  ·rename_i h;rw[if_pos h]at hz;exact absurd rfl hz
  ·rfl
 show ∃r,Ao (wm n) x.l y.l=some r;unfold Ao;split
 ·exact⟨_,ql o m i hb⟩
 rename_i q;split
 ·exact⟨_,ql k s i hb⟩
 rw[if_pos (.inl (hc x k q))];exact⟨_,rfl⟩
theorem PG.mono{d d':Nat->Nat}{b e:Nat}{G:List ai->List ai->Option (List ai)}(h:PG d b G)(hd:∀w,d' w<=d w)(hb:e<=b):PG d' e G:=λx y j k l i=>h x y (j.mono hd) (k.mono hd) (l.mono hb) (i.mono hb)
def X8 (L:Nat->nu):Nat->Prop
 | 0=>qm 0 (L 0)
 | v+1=>qm (v+1) (L (v+1))/\(L (v+1)).E<=(L v).d/\(L (v+1)).E<=(L v).M/\(L (v+1)).bE<=(L v).b/\X8 L v
theorem L9{L:Nat->nu}:∀(v:Nat),X8 L v->∀n,PG (dN v (L v).d (L v).M) (L v).b (wm (n+v+2))
 | 0,h,n=>by
  have j:qm 0 (L 0):=h;have hz:∀w,w<4->dN 0 (L 0).E 0 w=0:=λw _=>by unfold dN;rw[if_neg oM];split<;>rfl
  have hb:(L 0).bE<LB:=by have:=j.fin;omega
  exact NM j (yl (n+1)) (NN hb hz n) (NN hb hz (n+1))
 | v+1,h,n=>by
  obtain⟨q,o,p,k,l⟩:=h
  have hd:∀w,dN (v+1) (L (v+1)).E 0 w<=dN v (L v).d (L v).M w:=λw=>by
   unfold dN;by_cases e:w<v
   ·rw[if_pos oM,if_pos e];exact o
   ·by_cases i:w=v
    ·rw[if_pos oM,if_neg e,if_pos i];exact p
    ·rw[if_neg oM,if_neg e,if_neg i];split<;>exact Nat.le_refl _
  have g1:=(L9 v l n).mono hd k;have m:=(L9 v l (n+1)).mono hd k;have e1:n+(v+1)+2=(n+v+2)+1:=oM;have r:n+1+v+2=(n+v+2)+1:=oM;rw[r]at m;rw[e1];exact NM q (yl _) g1 m
end Q
end
section
namespace Q
open MP Go.Proofs.YtopclbeomcggiaaGreat
def XB (n:Nat):Nat:=n.log2+1
def kb (d:Nat):Nat:=d*(XB (4*d+3)+XB (2*d+1))
def Yz (v M d b E br P:Nat):nu where
 M:=M
 d:=d
 b:=b
 E:=E
 br:=br
 kE:=v*kb E
 k0:=v*kb d+kb M
 lM:=XB M
 P:=P
 R:=λU=>if v=0 then 1 else 2*U*d+1
 l2:=λU=>XB (2*U*(if v=0 then 1 else 2*U*d+1)^v)
 xi:=λU=>(XB (2*U*(if v=0 then 1 else 2*U*d+1)^v)+(if v=0 then b else b+(b+(v*kb d+kb M))))*((U-1)*((if v=0 then 1 else 2*U*d+1)+d)^v)/(U*(if v=0 then 1 else 2*U*d+1)^v-(U-1)*((if v=0 then 1 else 2*U*d+1)+d)^v)+1
 kap:=λU=>v*kb ((if v=0 then 1 else 2*U*d+1)-1+d)+kb M
def YJ (v:Nat) (L:nu):Bool :=
 decide (v<4)&&decide (L.M<=2^L.lM)&&decide (uz (dN v L.d L.M) (v+1)<=2^L.k0)&&decide (uz (dN v L.E 0) v<=2^L.kE)
 && decide (∀U,U<2*L.M->1<=U->L.mu v U<=L.mu v (U+1))
 && decide (∀U,U<2*L.M+1->2<=U->0<L.R U/\2*U*L.R U^v<=2^L.l2 U/\(L.l2 U+L.b1 v+L.xi U)*((U-1)*(L.R U+L.d)^v)<L.xi U*(U*L.R U^v)/\uz (dN v (L.R U-1+L.d) L.M) (v+1)<=2^L.kap U)
 && decide ((L.M+1)*(1*L.d)<=L.P/\(L.M+1)*(L.b1 v+1)+L.lM<LB)
 && decide (∀k,k<L.M+1->2<=k->(k+1)*(L.U k*L.d)<=L.P/\(k+1)*(L.mu v (L.U k)+1)+L.lM<LB)
 && decide ((L.M+1)*(L.P+1)^v<=10000)&&decide (L.M*(1*L.d)<=L.E/\L.M*(L.b1 v+1)+L.lM<=L.br)
 && decide (∀k,k<L.M+1->3<=k->k*(L.U k*L.d)<=L.E/\k*(L.mu v (L.U k)+1)+L.lM<=L.br)
 && decide (L.d<=L.E/\L.b<=L.br/\L.E<=L.P/\1<=L.M)&&decide (L.br+L.mu v (2*L.M)+L.cz v L.br<LB)&&decide (L.b1 v+L.cz v L.b<LB)
 && decide (bx (Ue v L.d (RZ v L.d L.M))<=10000/\L.b1 v+L.b1 v+(bx (Ue v L.d (RZ v L.d L.M))+1)*(L.b1 v+1)<LB)
 && decide (L.bE+L.mu v (2*L.M)<LB)&&decide (L.M+1<fuel)
theorem Ma{v:Nat}{L:nu}(h:YJ v L=true):qm v L:=by simp only[YJ,Bool.and_eq_true,decide_eq_true_eq]at h;obtain⟨⟨⟨⟨⟨⟨⟨⟨⟨⟨⟨⟨⟨⟨⟨⟨p,n⟩,u⟩,x⟩,q⟩,s⟩,o⟩,r⟩,y⟩,l⟩,e⟩,i⟩,d⟩,j⟩,k⟩,m⟩,b⟩:=h;exact⟨p,n,u,x,q,s,o,r,y,l,e,i,d,j,k,m,b⟩
def L8:Nat->nu
 | 0=>Yz 0 320 320 136492 16486400 7033665291 16589440
 | 1=>Yz 1 8 8 712 320 129772 400
 | _=>Yz 2 2 4 90 8 536 24
theorem YA:qm 0 (L8 0):=Ma dK
theorem YB:qm 1 (L8 1):=Ma dK
theorem YC:qm 2 (L8 2):=Ma dK
theorem UQ:X8 L8 2:=⟨YC,dK,dK,dK,YB,dK,dK,dK,YA⟩
def D8:Nat->Nat:=dN 2 4 2
theorem Wi{a b:MP}(da:Dg D8 a)(e:Dg D8 b)(h:In 90 a)(i:In 90 b):∃g:MP,wm 6 a.l b.l=some g.l/\NG g a b:=by obtain⟨r,d⟩:=L9 2 UQ 2 a b da e h i;obtain⟨g,rfl,hg⟩:=yl 6 a b r d;exact⟨g,d,hg⟩
structure Dm (p:MP):Prop where
 e:∀t∈p.l,(0<=t.1.1/\t.1.1<=2)/\(0<=t.1.2.1/\t.1.2.1<=2)/\(0<=t.1.2.2.1/\t.1.2.2.1<=1)/\t.1.2.2.2=0
 i:qI 1 15 p
def Wj (L:List Ap):MP:=⟨wD L,fA _⟩
theorem ym(L:List Ap):Dm (Wj L):=by
 have hb:=(Dc L).canon;refine⟨lm (P:=λe=>(0<=e.1/\e.1<=2)/\(0<=e.2.1/\e.2.1<=2)/\(0<=e.2.2.1/\e.2.2.1<=1)/\e.2.2.2=0) λt h=>?_,hb.d,?_⟩
 ·obtain⟨s,i,rfl⟩:=List.mem_map.1 h;show(0<=s.1%256%3/\s.1%256%3<=2)/\(0<=s.2.1%256%3/\s.2.1%256%3<=2)/\(0<=s.2.2.1%256%2/\s.2.2.1%256%2<=1)/\(0:Int)=0;omega
 ·rw[show((1:Nat):Rat)=1 from rfl,Rat.one_mul];exact hb.b
structure Dq (H:Nat) (p:MP):Prop where
 d:Dg D8 p
 i:qI 1 H p
theorem Sa:D8 0=4/\D8 1=4/\D8 2=2/\D8 3=0:=dM
theorem Dm.deg{p:MP}(h:Dm p):p.deg 0<=2/\p.deg 1<=2/\p.deg 2<=1/\p.deg 3<=0:=by
 have d:∀(w:Nat)(k:Int),0<=k->(∀t∈p.l,t.1.get w<=k)->p.deg w<=k:=λw k i h=>by
  rcases(fQ (λt=>t.1.get w) p.l (-1)).2.2 with e|⟨t,b,e⟩
  ·show aD p.l w<=_;unfold aD;rw[e];omega
  ·show aD p.l w<=_;unfold aD;rw[<-e];exact h t b
 exact⟨d 0 2 oM λt b=>by have:=h.e t b;show t.1.1<=_;omega,d 1 2 oM λt b=>by have:=h.e t b;show t.1.2.1<=_;omega,
  d 2 1 oM λt b=>by have:=h.e t b;show t.1.2.2.1<=_;omega,d 3 0 oM λt b=>by have:=h.e t b;show t.1.2.2.2<=_;omega⟩
theorem Dm.mul{p q:MP}(h:Dm p)(b:Dm q):Dq 225 (p*q):=by
 obtain⟨l,o,e,d⟩:=h.deg;obtain⟨b0,b1,m,j⟩:=b.deg;obtain⟨e0,e1,n,k⟩:=Sa;refine⟨λw r=>?_,h.i.mul b.i⟩;obtain rfl|rfl|rfl|rfl:w=0\/w=1\/w=2\/w=3:=oM
 ·rw[e0];exact bT 0 p q l b0 oM
 ·rw[e1];exact bT 1 p q o b1 oM
 ·rw[n];exact bT 2 p q e m oM
 ·rw[k];exact bT 3 p q d j oM
theorem XC{p:MP}(h:Dg D8 p):p.lo 3:=h.lo
theorem XD:uz D8 3<=2^72:=dK
theorem XE:bx D8=75:=dK
theorem Dq.in{H b:Nat}{p:MP}(h:Dq H p)(hb:H<=2^b):In b p:=⟨1,H,oM,Nat.one_le_two_pow,hb,h.i⟩
theorem Ug{x:Rat}(h:Dv 1 x)(b:x≠0):1<=bH x:=by obtain⟨z,rfl⟩:=iD h;exact MP.rabs_int λe=>b (by rw[e];rfl)
theorem Mc{H:Nat}{f g q:MP}(h:Dq H f)(f0:f≠0)(e:f=g*q)(hg:hd g=1):∃z:Nat,0<z/\z<=H/\qI z (2^72*H) g/\qI 1 (z*(2^72*H)) q:=by
 have E:g≠0:=λh=>f0 (by rw[e,h];grind);have R:q≠0:=λh=>f0 (by rw[e,h];grind);obtain⟨r,j,hp⟩:=Rx E;have M:c r*c r⁻¹=1:=by rw[lX,Rat.mul_inv_cancel _ j];rfl
 have p:r⁻¹≠0:=λh=>by have:=Rat.mul_inv_cancel _ j;rw[h]at this;grind
 have k:f=(c r*g)*(c r⁻¹*q):=by rw[e];grind
 have u:=LF h.i.d hp k;have D:c r⁻¹*q≠0:=mul_ne (wF p) R;have n:c r*g≠0:=mul_ne (wF j) E;have b:f.am<=(H:Rat):=by have:=h.i.a;rwa[show((1:Nat):Rat)=1 from rfl,Rat.one_mul]at this
 have J:∀x y:MP,f=x*y->x.dv 1->y.dv 1->qI 1 (2^72*H) x:=λx y e I K=>by refine⟨I,?_⟩;have:=MP.fac D8 3 oM _ _ _ e f0 I K (XC h.d) λw S=>h.d w oM;rw[show((1:Nat):Rat)=1 from rfl,Rat.one_mul,Rat.natCast_mul];exact Rat.le_trans this (qp (Ac XD) b (bQ _) (bQ _))
 have O:=J _ _ k hp.1 u;obtain⟨z,N,o,W,F⟩:=O.nrm oM n;rw[yf j,AX hg]at F;rw[show((1:Nat):Rat)=1 from rfl,Rat.one_mul]at o;have C:hd f=hd (c r*g)*hd (c r⁻¹*q):=by rw[k,GV n D]
 have m:1<=bH (hd (c r⁻¹*q)):=by obtain⟨t,l,B⟩:=zx D;exact Ug (by rw[B];exact u t l) (vF D)
 have s:z<=H:=by refine Rat.natCast_le_natCast.1 ?_;rw[o];have G:=Rat.mul_le_mul_of_nonneg_left m (fM (hd (c r*g)));rw[<-jH,<-C,Rat.mul_one]at G;exact Rat.le_trans G (Rat.le_trans (Ny f0) b)
 refine⟨z,N,s,F,?_⟩;have L:=J _ _ (k.trans (jF _ _)) u hp.1;have nQ:hd (c r*g)=r:=by rw[sI j,hg,Rat.one_mul]
 have eq:q=c r*(c r⁻¹*q):=gR
 have ir:Dv 1 r:=by obtain⟨t,l,B⟩:=zx n;rw[<-nQ,B];exact hp.1 t l
 have i1:qI 1 z (c r):=⟨O3 ir,by rw[I6,show((1:Nat):Rat)=1 from rfl,Rat.one_mul,o,nQ];exact Rat.le_refl⟩;have:=i1.mul L;rw[<-eq,Nat.one_mul]at this;exact this
def JK (D:Nat):Sz:=⟨D,2^200,4,75⟩
theorem Sb{D H:Nat}{p:MP}(h:qI D H p)(o:0<D)(hd:Dg D8 p)(r:H<=2^200):Bd (JK D) p.l:=by
 refine⟨by have:=hd.len;rw[XE]at this;exact this,λt i=>?_,h.d,?_⟩
 ·have b:=(hd.inB t i).2;have u:=Ex.nat_iff.1 (hd.inB t i).1;obtain⟨e0,e1,s,q⟩:=Sa;have k:=b 0 oM;have m:=b 1 oM;have j:=b 2 oM;have e:=b 3 oM;rw[e0]at k;rw[e1]at m;rw[s]at j;rw[q]at e;simp only[Ex.get]at k m j e;simp only[JK];omega
 ·have b:p.am<=(D:Rat)*p.am:=by
   have n:(1:Rat)<=(D:Rat):=qh o;have:=Rat.mul_le_mul_of_nonneg_right n p.am_nonneg;rwa[Rat.one_mul]at this
  exact Rat.le_trans b (Rat.le_trans h.a (Ac r))
theorem Md{D:Nat}(h:0<D)(b:D<65536):(JK D).ok:=⟨h,b,by show 2^200<2^1000;exact VU,by show 4<1000000;omega,by show 75<1000000;omega⟩
theorem NP{H:Nat}{f g:MP}(h:Dq H f)(k:H<=225)(f0:f≠0)(hd:g∣f)(hg:Q.hd g=1):∃z,0<z/\z<=H/\Pk (JK z) g.l:=by obtain⟨q,e⟩:=hd;obtain⟨z,b,m,j,-⟩:=Mc h f0 e hg;have i:=Nat.mul_le_mul_left (2^72) k;exact⟨z,b,m,g.v,Sb j b (h.d.dvd f0 ⟨q,e⟩) (Nat.le_trans i dK),Md b oM⟩
theorem AY:Pk (JK 1) (0:MP).l:=⟨(0:MP).v,Bd.nil _,Md oM oM⟩
theorem XF{H:Nat}{a b g:MP}(ha:Dq H a)(hb:Dq H b)(k:H<=225)(hg:NG g a b):∃z,0<z/\z<=225/\Pk (JK z) g.l:=by
 by_cases d:g=0
 ·rw[d];exact⟨1,oM,oM,AY⟩
 ·by_cases j:a=0
  ·by_cases b0:b=0
   ·exact absurd (zero_dvd (hg.i.u 0 (by rw[j];exact dvd_refl 0) (by rw[b0];exact dvd_refl 0))) d
   ·obtain⟨z,h,m,e⟩:=NP hb k b0 hg.i.r (hg.n d);exact⟨z,h,oM,e⟩
  ·obtain⟨z,h,m,e⟩:=NP ha k j hg.i.l (hg.n d);exact⟨z,h,oM,e⟩
theorem X9{p:MP}(hd:Dg D8 p)(b:In 90 p):Wp p.l:=kF (sQ hd b (by rw[XE];omega) (by rw[CK];omega))
theorem XG{p:MP}(hd:Dg D8 p)(b:In 90 p):jQ p.l=some (nrm p).l:=ql hd b (by rw[XE];omega) (by rw[CK];omega)
theorem YD:2^72*225<=2^90:=dK
theorem Dq.in90{H:Nat}{p:MP}(h:Dq H p)(b:H<=225):In 90 p:=h.in (Nat.le_trans b dK)
theorem Sc{H:Nat}{f g:MP}(h:Dq H f)(b:H<=225)(f0:f≠0)(hd:g∣f)(hg:Q.hd g=1):Dg D8 g/\In 90 g:=by obtain⟨q,e⟩:=hd;obtain⟨z,k,l,j,-⟩:=Mc h f0 e hg;have i:=Nat.mul_le_mul_left (2^72) b;exact⟨h.d.dvd f0 ⟨q,e⟩,z,_,k,Nat.le_trans (Nat.le_trans l b) dK,Nat.le_trans i YD,j⟩
theorem NQ:Dg D8 (0:MP)/\In 90 (0:MP):=⟨λw _=>by rw[deg_zero];omega,In.zero _⟩
theorem NG.eq2{g h a b:MP}(hg:NG g a b)(j:NG h a b):g=h:=by
 have m:=j.i.u g hg.i.l hg.i.r;have k:=hg.i.u h j.i.l j.i.r;by_cases d:g=0
 ·rw[d]at m ⊢;exact(zero_dvd m).symm
 ·have o:h≠0:=λe=>d (by rw[e]at k;exact zero_dvd k);exact LM d m k (hg.n d) (j.n o)
structure An (a b g:MP):Prop where
 e:wm 6 a.l b.l=some g.l
 wa:Wp a.l
 wb:Wp b.l
theorem XH{a b g:MP}(da:Dg D8 a)(d:Dg D8 b)(i:In 90 a)(j:In 90 b)(hg:NG g a b):An a b g:=by obtain⟨h,e,k⟩:=Wi da d i j;rw[k.eq2 hg]at e;exact⟨e,X9 da i,X9 d j⟩
end Q
end
section
namespace Go.Proofs.YtopclbeomcggiaaGreat
open Go.RowKit Q
theorem Uh{a b g:MP}(h:An a b g)(W:World)(u v:Value)(d:ak W u a.l)(i:ak W v b.l):Calls Tryz.prog 16 #[u,v] W (aS W g.l) :=
 (nL 6 _ _ _ h.wa h.wb h.e).1 u v W d i
end Go.Proofs.YtopclbeomcggiaaGreat
end
