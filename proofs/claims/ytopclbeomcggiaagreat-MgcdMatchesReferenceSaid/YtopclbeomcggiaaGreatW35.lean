/- Small polynomials pass the tests; divisions answer. No program in sight. -/
import Derived.Test.YtopclbeomcggiaaGreatW34
set_option linter.unusedVariables false
set_option linter.unusedSimpArgs false
set_option maxHeartbeats 16000000
set_option maxRecDepth 100000
section
namespace Q
open MP Go.Proofs.YtopclbeomcggiaaGreat
theorem DR:∀(N:Nat)(L:List Nat),L.Nodup->(∀x∈L,x<N)->L.length<=N
 | 0,L,_,h=>by
  cases L with
  | nil=>simp
  | cons x L=>have:=h x sM;omega
 | N+1,L,hn,h=>by
  by_cases i:N∈L
  ·have j:=DR N (L.erase N) (hn.erase N) λx b=>by
    have d:=(hn.mem_erase_iff).1 b;have:=h x d.2;have:=d.1;omega
   rw[List.length_erase_of_mem i]at j;omega
  ·have:=DR N L hn λx b=>by
    have:=h x b;have:x≠N:=λe=>i (e▸b);omega
   omega
def bx (d:Nat->Nat):Nat:=(d 0+1)*(d 1+1)*(d 2+1)*(d 3+1)
def Md (d:Nat->Nat) (e:Ex):Prop:=e.nat=true/\∀w,w<4->e.get w<=d w
def NK (d:Nat->Nat) (e:Ex):Nat:=((e.1.toNat * (d 1+1)+e.2.1.toNat)*(d 2+1)+e.2.2.1.toNat)*(d 3+1)+e.2.2.2.toNat
theorem Hf{a b A B:Nat}(ha:a<A)(hb:b<B):a*B+b<A*B:=by have:=Nat.mul_le_mul_right B (oM:a+1<=A);rw[Nat.add_mul]at this;omega
theorem DT{a b a' b' B:Nat}(hb:b<B)(d:b' < B)(h:a*B+b=a'*B+b'):a=a'/\b=b':=by
 have e:(a*B+b)/B=a:=by rw[Nat.mul_comm,Nat.mul_add_div oM,Nat.div_eq_of_lt hb,Nat.add_zero]
 have i:(a'*B+b')/B=a':=by rw[Nat.mul_comm,Nat.mul_add_div oM,Nat.div_eq_of_lt d,Nat.add_zero]
 have j:a=a':=by rw[<-e,<-i,h]
 subst j;omega
theorem Md.parts{d:Nat->Nat}{e:Ex}(h:Md d e):e.1.toNat<d 0+1/\e.2.1.toNat<d 1+1/\e.2.2.1.toNat<d 2+1/\e.2.2.2.toNat<d 3+1/\0<=e.1/\0<=e.2.1/\0<=e.2.2.1/\0<=e.2.2.2:=by have l:=Ex.nat_iff.1 h.1;have b:=h.2 0 oM;have i:=h.2 1 oM;have j:=h.2 2 oM;have k:=h.2 3 oM;simp only[Ex.get]at b i j k;omega
theorem Uj{d:Nat->Nat}{e:Ex}(h:Md d e):NK d e<bx d:=by obtain⟨b,i,j,k,_⟩:=h.parts;exact Hf (Hf (Hf b i) j) k
theorem Uk{d:Nat->Nat}{e f:Ex}(h:Md d e)(i:Md d f)(hc:NK d e=NK d f):e=f:=by obtain⟨s,j,k,l,z,n1,n2,B⟩:=h.parts;obtain⟨k0,m,n,o,u,m1,x,y⟩:=i.parts;obtain⟨c1,c2⟩:=DT l o hc;obtain⟨b,p⟩:=DT k n c1;obtain⟨q,r⟩:=DT j m b;exact Ex.ext' oM oM oM oM
theorem Hg{d:Nat->Nat}{L:List Ex}(b:L.Nodup)(h:∀e∈L,Md d e):L.length<=bx d:=by
 have i:(L.map (NK d)).Nodup:=by
  induction L with
  | nil=>exact List.nodup_nil
  | cons e L k =>
   rw[List.nodup_cons]at b;rw[List.map_cons,List.nodup_cons];refine⟨λhm=>?_,k b.2 λf hf=>h f (by simp[hf])⟩;obtain⟨f,hf,hc⟩:=List.mem_map.1 hm;exact b.1 (Uk (h e sM) (h f (by simp[hf])) hc.symm▸hf)
 have:=DR (bx d) _ i λx j=>by obtain⟨e,he,rfl⟩:=List.mem_map.1 j;exact Uj (h e he)
 rwa[List.length_map]at this
theorem Pp{l:List ai}(h:FV l):(l.map Prod.fst).Nodup:=by
 induction l with
 | nil=>exact List.nodup_nil
 | cons t l d =>
  have b:=List.pairwise_cons.1 h;rw[List.map_cons,List.nodup_cons];refine⟨λhm=>?_,d b.2⟩;obtain⟨u,hu,e⟩:=List.mem_map.1 hm;exact Ex.gt_ne (b.1 u hu) e.symm
theorem Dg.inB{d:Nat->Nat}{p:MP}(h:Dg d p):∀t∈p.l,Md d t.1:=λt b=>⟨(p.v.2 t b).2,λw e=>Int.le_trans (eU b w) (h w e)⟩
theorem Dg.len{d:Nat->Nat}{p:MP}(h:Dg d p):p.l.length<=bx d:=by
 have:=Hg (Pp p.v.1) (d:=d) λe he=>by obtain⟨t,b,rfl⟩:=List.mem_map.1 he;exact h.inB t b
 rwa[List.length_map]at this
theorem NL{d:Nat->Nat}{p:MP}(h:∀t∈p.l,Md d t.1):Dg d p:=λw i=>by
 rcases(fQ (λt=>t.1.get w) p.l (-1)).2.2 with e|⟨t,b,e⟩
 ·show aD p.l w<=_;unfold aD;rw[e];omega
 ·show aD p.l w<=_;unfold aD;rw[<-e];exact(h t b).2 w i
theorem YZ{a b c e:Nat}(ha:0<a)(hb:0<b)(hc:0<c)(he:0<e):a<=a*b*c*e/\b<=a*b*c*e/\c<=a*b*c*e/\e<=a*b*c*e:=by
 have e1:a*b*c*e=a*(b*c*e):=by simp only[Nat.mul_assoc]
 have d:a*b*c*e=b*(a*c*e):=by simp only[Nat.mul_comm,Nat.mul_left_comm]
 have h:a*b*c*e=c*(a*b*e):=by simp only[Nat.mul_comm,Nat.mul_left_comm]
 have i:a*b*c*e=e*(a*b*c):=by simp only[Nat.mul_comm,Nat.mul_left_comm]
 refine⟨?_,?_,?_,?_⟩
 ·rw[e1];exact Nat.le_mul_of_pos_right _ (Nat.mul_pos (Nat.mul_pos hb hc) he)
 ·rw[d];exact Nat.le_mul_of_pos_right _ (Nat.mul_pos (Nat.mul_pos ha hc) he)
 ·rw[h];exact Nat.le_mul_of_pos_right _ (Nat.mul_pos (Nat.mul_pos ha hb) he)
 ·rw[i];exact Nat.le_mul_of_pos_right _ (Nat.mul_pos (Nat.mul_pos ha hb) hc)
theorem UY(d:Nat->Nat):d 0+1<=bx d/\d 1+1<=bx d/\d 2+1<=bx d/\d 3+1<=bx d:=YZ oM oM oM oM
theorem Me{D:Nat}{x:Rat}(j:0<D)(h:Dv D x):x.den∣D/\bH ((x.num:Int):Rat)<=(D:Rat)*bH x:=by
 obtain⟨k,d⟩:=h;have l:(D:Rat)≠0:=jH j
 have hc:x=Rat.divInt k D:=by rw[Rat.divInt_eq_div,iN,<-d];grind
 obtain⟨e1,b⟩:=rU k D oM;rw[<-hc]at e1 b;refine⟨Int.natCast_dvd_natCast.1 ⟨(Int.gcd k D:Int),by rw[b];exact(Int.ediv_mul_cancel (Int.gcd_dvd_right _ _)).symm⟩,?_⟩;have e:x.num.natAbs<=k.natAbs:=by rw[e1];exact Int.natAbs_ediv_le_natAbs _ _
 have i:(D:Rat)*bH x=bH (k:Rat):=by rw[<-d,jK,bO (bQ D)];grind
 rw[i,Q.rabs_int,Q.rabs_int];exact Ak e
theorem Ul{D:Nat}{x:Rat}(h:Dv D x):Dv D (bH x):=by
 unfold bH;split
 ·exact h.neg
 ·exact h
theorem NM{D:Nat}:∀{l:List ai},(∀t∈l,Dv D t.2)->Dv D (bI l)
 | [],_=>Dv.zero D
 | t::l,h=>(Ul (h t (by simp))).add (NM λu hu=>h u (by simp[hu]))
theorem JP{D:Nat}:∀{l:List ai},(∀t∈l,t.2.den∣D)->zq l∣D
 | [],_=>Nat.one_dvd D
 | t::l,h=>Nat.lcm_dvd (h t (by simp)) (JP λu hu=>h u (by simp[hu]))
theorem Bb{n b:Nat}(h:n<=2^b):aF n<=b+1:=jL (Nat.lt_of_le_of_lt h (Nat.pow_lt_pow_right oM oM))
theorem Sj{d:Nat->Nat}{b D H:Nat}{l:List ai}(q:∀t∈l,Md d t.1)(hd:bx d<=10000)(p:l.length<=10000)(i:0<D)(j:D<=2^b)(n:H<=2^b)(hv:∀t∈l,Dv D t.2)(ha:(D:Rat)*bI l<=(H:Rat))(hb:b<LB):UO l=true:=by
 simp only[UO,Bool.and_eq_true,decide_eq_true_eq,List.all_eq_true];have o:=UY d;refine⟨⟨⟨p,λt k=>?_⟩,?_⟩,?_⟩
 ·obtain⟨r,e,h,m,s,n1,n2,u⟩:=(q t k).parts;exact⟨⟨⟨⟨⟨⟨⟨oM,oM⟩,oM⟩,oM⟩,oM⟩,oM⟩,oM⟩,oM⟩
 ·have e:zq l∣D:=JP λt k=>(Me i (hv t k)).1;have h:=iV (Nat.le_trans (Nat.le_of_dvd i e) j);have m:=Bb (nL (2^b));omega
 ·have e:=(Me i (NM hv)).2;rw[bO (mf l),Q.rabs_int]at e;have h:Ri l<=H:=Rat.natCast_le_natCast.1 (Rat.le_trans e ha);have m:=Bb (Nat.le_trans h n);omega
theorem tu{d:Nat->Nat}{b:Nat}{p:MP}(h:Dg d p)(m:In b p)(hd:bx d<=10000)(hb:b<LB):CY p.l=true:=by obtain⟨D,H,i,j,k,e⟩:=m;rw[CY,Bool.and_eq_true];exact⟨CE.2 p.v,Sj h.inB hd (Nat.le_trans h.len hd) i j k e.d e.a hb⟩
theorem NN{p:MP}(h:CY p.l=true):g1 p.l=some p.l:=by rw[g1,if_pos h]
theorem qy{d:Nat->Nat}{b:Nat}{p:MP}(h:Dg d p)(n:In b p)(hd:bx d<=10000)(hb:b<LB):jT p.l=some (nrm p).l:=by
 by_cases i:p=0
 ·rw[i,jM];rfl
 ·have m:=tu (h.dvd i (fF i).1) n.nrm hd hb;obtain⟨t,l,e⟩:=jg i;have k:(nrm p).l=bN p.l (1/t.2):=by rw[nrm,yn e,sO]
  have j:=NN m;rw[k]at j ⊢;rw[e]at j ⊢;exact j
theorem DU{g:ai}{ts:List ai}(hv:bR (g::ts)):∀(s out:List ai)(n:Nat),bR s->(∀x r,x::r <:+ s->CY (aX (x::r) (g::ts))=true/\CY [x]=true)->s.length+1<=n->rf (g::ts) g n (aX s (g::ts)) out=some (some (out++s))
 | [],out,n,_,_,hn=>by obtain⟨n,rfl⟩:∃m,n=m+1:=⟨n - 1,by simp at hn;omega⟩;rw[show aX [] (g::ts)=[]from rfl,rf,List.append_nil]
 | x::s,out,n,hs,hw,hn=>by obtain⟨n,rfl⟩:∃m,n=m+1:=⟨n - 1,by simp at hn;omega⟩;have hz:=(hv.2 g sM).1;have e:=hs.2 x sM;obtain⟨h,i⟩:=AZ hs hv;obtain⟨a,ha⟩:=AY (bR.mul _ _) (jw e.1 hz) h i;obtain⟨w1,o⟩:=hw x s (List.suffix_refl _);have l:=DU hv s (out++[x]) n hs.tail (λy r k=>hw y r (k.trans (List.suffix_cons x s))) (by simp at hn;omega);have b:=CL hs hv bR.nil;rw[xR (bR.mul _ _),xR (bR.mul _ _)]at b;rw[ha]at w1 b ⊢;have d:=CK (x:=x) hz;have j:((x.1.add g.1).sub g.1)=x.1:=congrArg Prod.fst d;rw[rf,if_pos w1,if_pos (by show((x.1.add g.1).sub g.1).nat=true;rw[j];exact e.2),d,if_pos o,b,l];simp
theorem yw{d:Nat->Nat}{b k:Nat}{a q z:MP}(u:z≠0)(e:a=q*z)(hd:Dg d a)(D:bx d<=10000)(hq:In b q)(hz:In k z)(hb:b+k<LB):iU a.l z.l=some q.l:=by
 obtain⟨g,ts,m⟩:=jg u;by_cases s:q=0
 ·have ha:a=0:=by rw[e,s];grind
  rw[ha,s,iU,m];rfl
 have E:a≠0:=by rw[e];exact mul_ne s u
 have i:Dg d q:=hd.dvd E ⟨z,e⟩;have H:Dg d z:=hd.dvd E ⟨q,by rw[e];grind⟩;have j:∀w,q.deg w+z.deg w=a.deg w:=λw=>by rw[e,deg_mul s u]
 have key:=DU (m▸z.v) q.l [] fuel q.v (λx r o=>by
  have hv:bR (x::r):=q.v.sublist o.sublist;have hp:In b (⟨x::r,hv⟩:MP):=hq.part o.sublist
  have y:∀w,(⟨x::r,hv⟩:MP).deg w<=q.deg w:=λw=>by
   rcases(fQ (λt=>t.1.get w) (x::r) (-1)).2.2 with e|⟨t,I,e⟩
   ·show aD (x::r) w<=_;unfold aD;rw[e];exact deg_ge w q
   ·show aD (x::r) w<=_;unfold aD;rw[<-e];exact eU (o.sublist.subset I) w
  have B:(⟨x::r,hv⟩:MP)≠0:=λh=>by have:=zero_iff.1 h;cases this
  refine⟨?_,?_⟩
  ·have F:=tu (d:=d) (p:=(⟨x::r,hv⟩:MP)*z) (λw C=>by
    rw[deg_mul B u];have:=j w;have:=y w;have:=hd w C;omega) (hp.mul hz) D hb
   rw[<-m];exact F
  ·have n:bR [x]:=hv.sublist (List.singleton_sublist.2 sM)
   exact tu (d:=d) (p:=(⟨[x],n⟩:MP)) (λw C=>by
    show aD [x] w<=_;have F:=eU (o.sublist.subset (sM:x∈x::r)) w;have J:=i w C;have K:q.deg w=aD q.l w:=rfl;show max (-1) (x.1.get w)<=_
    omega) (hp.part (q:=⟨[x],n⟩) (List.singleton_sublist.2 sM)) D oM)
  (by have:=i.len;unfold fuel;omega)
 have G:a.l=aX q.l (g::ts):=by rw[e,<-m];rfl
 rw[iU,m,G];simp only[zu,key,List.nil_append,Option.getD_some];exact NN (tu i hq D oM)
def wt (B:Int) (e:Ex):Int:=e.1+B*(e.2.1+B*(e.2.2.1+B*e.2.2.2))
theorem Wn(B:Int)(e f:Ex):wt B (e.add f)=wt B e+wt B f:=by simp only[wt,Ex.add];grind
theorem Wo(B:Int)(e f:Ex):wt B (e.sub f)=wt B e-wt B f:=by simp only[wt,Ex.sub];grind
theorem bY{B x d h b:Int}(e:0<=B)(k:x<=B-1)(j:0<=d)(i:h<b):x+B*h<d+B*b:=by have:=mZ (oM:h+1<=b) e;rw[Int.mul_add,Int.mul_one]at this;omega
theorem kQ{B x h H:Int}(b:0<=B)(e:x<=B-1)(d:h<=H-1):x+B*h<=B*H-1:=by have:=mZ (oM:h+1<=H) b;rw[Int.mul_add,Int.mul_one]at this;omega
theorem XF{v d:Nat}{g u:Ex}(hg:g.nat=true)(hu:u.nat=true)(hd:∀w,w<v->u.get w<=d)(hz:∀w,v<w->w<4->u.get w=0/\g.get w=0)(h:g.gt u=true):wt ((d:Int)+1) u<wt ((d:Int)+1) g:=by
 rw[Ex.gt_iff]at h;rw[Ex.nat_iff]at hg hu;have d0:=hd 0;have d1:=hd 1;have d2:=hd 2;have j:=hz 1;have k:=hz 2;have l:=hz 3;simp only[Ex.get]at d0 d1 d2 j k l;have b:(0:Int)<=(d:Int)+1:=oM;unfold wt;rcases h with h|⟨e,h|⟨i,h|⟨e1,h⟩⟩⟩
 ·have hv:3<=v:=by
   rcases Nat.lt_or_ge v 3 with h'|h'
   ·have:=l h' oM;omega
   ·exact h'
  exact bY b (by have:=d0 oM;omega) oM (bY b (by have:=d1 oM;omega) oM (bY b (by have:=d2 oM;omega) oM h))
 ·have hv:2<=v:=by
   rcases Nat.lt_or_ge v 2 with h'|h'
   ·have:=k h' oM;omega
   ·exact h'
  rw[e];exact bY b (by have:=d0 oM;omega) oM (bY b (by have:=d1 oM;omega) oM oM)
 ·have hv:1<=v:=by
   rcases Nat.lt_or_ge v 1 with h'|h'
   ·have:=j h' oM;omega
   ·exact h'
  rw[e,i];exact bY b (by have:=d0 oM;omega) oM oM
 ·rw[e,i,e1];omega
def Sk (v d M:Nat):Nat:=(M+1)*(d+1)^v
theorem XG{v d M:Nat}{e:Ex}(hv:v<4)(hd:∀w,w<v->e.get w<=d)(hm:e.get v<=M)(hz:∀w,v<w->w<4->e.get w=0):wt ((d:Int)+1) e<=(Sk v d M:Nat):=by
 have d0:=hd 0;have d1:=hd 1;have d2:=hd 2;have n:=hz 1;have l:=hz 2;have j:=hz 3;simp only[Ex.get]at d0 d1 d2 n l j;have b:(0:Int)<=(d:Int)+1:=oM
 have e1:((Sk v d M:Nat):Int)=((M:Int)+1)*((d:Int)+1)^v:=by unfold Sk;rw[Int.natCast_mul,Int.natCast_pow];rfl
 rw[e1];unfold wt;obtain rfl|rfl|rfl|rfl:v=0\/v=1\/v=2\/v=3:=oM
 ·simp only[Ex.get]at hm;rw[n oM oM,l oM oM,j oM oM,Int.mul_zero,Int.add_zero,Int.mul_zero,Int.add_zero,Int.mul_zero,Int.add_zero,Int.pow_zero,Int.mul_one];omega
 ·simp only[Ex.get]at hm;rw[l oM oM,j oM oM,Int.mul_zero,Int.add_zero,Int.mul_zero,Int.add_zero];have:=kQ (h:=e.2.1) (H:=(M:Int)+1) b (show e.1<=_ by have:=d0 oM;omega) oM;have i:((M:Int)+1)*((d:Int)+1)^1=((d:Int)+1)*((M:Int)+1):=gR;rw[i];omega
 ·simp only[Ex.get]at hm;rw[j oM oM,Int.mul_zero,Int.add_zero];have k:=kQ (h:=e.2.2.1) (H:=(M:Int)+1) b (show e.2.1<=_ by have:=d1 oM;omega) oM;have m:=kQ b (show e.1<=_ by have:=d0 oM;omega) k;have i:((M:Int)+1)*((d:Int)+1)^2=((d:Int)+1)*(((d:Int)+1)*((M:Int)+1)):=gR;rw[i];omega
 ·simp only[Ex.get]at hm;have k:=kQ (h:=e.2.2.2) (H:=(M:Int)+1) b (show e.2.2.1<=_ by have:=d2 oM;omega) oM;have m:=kQ b (show e.2.1<=_ by have:=d1 oM;omega) k;have o:=kQ b (show e.1<=_ by have:=d0 oM;omega) m;have i:((M:Int)+1)*((d:Int)+1)^3=((d:Int)+1)*(((d:Int)+1)*(((d:Int)+1)*((M:Int)+1))):=gR;rw[i];omega
def Um (v d W:Nat) (w:Nat):Nat:=if w<=v then W/(d+1)^w else 0
theorem XH{B:Int}(b:0<=B){e:Ex}(he:e.nat=true):e.1<=wt B e/\e.2.1*B<=wt B e/\e.2.2.1*B^2<=wt B e/\e.2.2.2*B^3<=wt B e:=by
 rw[Ex.nat_iff]at he;obtain⟨p,j,k,l⟩:=he;have m:=Int.mul_nonneg b j;have n:=Int.mul_nonneg b (Int.mul_nonneg b k);have o:=Int.mul_nonneg b (Int.mul_nonneg b (Int.mul_nonneg b l));have e1:wt B e=e.1+B*e.2.1+B*(B*e.2.2.1)+B*(B*(B*e.2.2.2)):=by unfold wt;grind
 have d:e.2.1*B=B*e.2.1:=Int.mul_comm _ _;have h:e.2.2.1*B^2=B*(B*e.2.2.1):=gR;have i:e.2.2.2*B^3=B*(B*(B*e.2.2.2)):=gR;rw[e1,d,h,i];omega
theorem Wq{v d W:Nat}{e:Ex}(he:e.nat=true)(n:wt ((d:Int)+1) e<=W)(hz:∀w,v<w->w<4->e.get w=0):Md (Um v d W) e:=by
 refine⟨he,λw m=>?_⟩;unfold Um;split
 ·have o:=Ex.nat_get he w;obtain⟨k,b⟩:∃k:Nat,e.get w=k:=⟨(e.get w).toNat,oM⟩;rw[b];refine Int.ofNat_le.2 ((Nat.le_div_iff_mul_le (Nat.pow_pos oM)).2 ?_);refine Int.ofNat_le.1 (Int.le_trans ?_ n);obtain⟨i,g1,j,l⟩:=XH (B:=(d:Int)+1) oM he;have h:((k*(d+1)^w:Nat):Int)=e.get w*((d:Int)+1)^w:=by rw[b,Int.natCast_mul,Int.natCast_pow];rfl
  rw[h];obtain rfl|rfl|rfl|rfl:w=0\/w=1\/w=2\/w=3:=oM
  ·rw[Int.pow_zero,Int.mul_one];exact i
  ·rw[(gR:((d:Int)+1)^1=(d:Int)+1)];exact g1
  ·exact j
  ·exact l
 ·rw[hz w oM m];omega
theorem In.inv{b:Nat}{p:MP}(h:In b p)(j:p≠0):In b (c (1/Q.hd p)):=by
 obtain⟨D,H,r,s,C,m⟩:=h
 obtain⟨z,hz⟩:∃z:Int,Q.hd p*(D:Rat)=(z:Rat):=by obtain⟨t,x,e⟩:=zI j;rw[e];exact m.d t x
 have k:(D:Rat)≠0:=jH r;have u:=vN j;have l:=He j
 have y:z≠0:=λe=>by rw[e]at hz;exact jw u k hz
 have i:((z.natAbs:Nat):Rat)=bH (z:Rat):=(Q.rabs_int z).symm
 have B:z.natAbs<=H:=by
  have e1:=Rat.mul_le_mul_of_nonneg_left (NJ j) (bQ D);have n:bH (z:Rat)=(D:Rat)*bH (Q.hd p):=by rw[<-hz,jK,bO (bQ D)];grind
  have o:((z.natAbs:Nat):Rat)<=(H:Rat):=by rw[i,n];exact Rat.le_trans e1 m.a
  exact Rat.natCast_le_natCast.1 o
 refine⟨z.natAbs,D,oM,oM,s,Pd ?_,?_⟩
 ·rcases Int.natAbs_eq z with e|e
  ·refine⟨D,?_⟩;rw[<-iN,<-e,<-hz,iN];grind
  ·refine⟨-D,?_⟩;rw[<-iN,(oM:((z.natAbs:Nat):Int)=-z),Rat.intCast_neg,Rat.intCast_neg,<-hz,iN];grind
 ·rw[Je,i,<-hz,jK,bO (bQ D)];have q:bH (Q.hd p)*bH (1/Q.hd p)=1:=by rw[<-jK,l];exact qZ
  have:bH (Q.hd p)*(D:Rat)*bH (1/Q.hd p)=(bH (Q.hd p)*bH (1/Q.hd p))*(D:Rat):=gR;rw[this,q,Rat.one_mul];exact Rat.le_refl
def NP (e:Ex) (h:e.nat=true):MP:=⟨[(e,1)],AJ h (by decide)⟩
theorem FK(e:Ex)(h:e.nat=true):qO 1 1 (NP e h):=by refine⟨λt b=>by rw[List.mem_singleton.1 b];exact Dv.int 1 1,?_⟩;show((1:Nat):Rat)*(bH 1+0)<=((1:Nat):Rat);rw[qZ,Rat.add_zero,Rat.mul_one];exact Rat.le_refl
theorem Ws{e:Ex}(h:e.nat=true){r:Rat}(b:r≠0)(hv:bR [(e,r)]):(⟨[(e,r)],hv⟩:MP)=c r*NP e h:=by refine MP.eq_of ?_;rw[sO];show [(e,r)]=bN [(e,1)] r;rw[bN,if_neg b];show [(e,r)]=[(e,1*r)];rw[Rat.one_mul]
theorem NQ{v d W b0 bz:Nat}{z:MP}{g:ai}{ts:List ai}(E:z.l=g::ts)(j:∀t∈z.l,(∀w,w<v->t.1.get w<=d)/\∀w,v<w->w<4->t.1.get w=0)(hz:In bz z){dB:Nat->Nat}(hB:∀e:Ex,e.nat=true->wt ((d:Int)+1) e<=W->(∀w,v<w->w<4->e.get w=0)->Md dB e)(I:bx dB<=10000)(a8:b0+bz+(bx dB+1)*(bz+1)<LB) :
  ∀(n:Nat)(a:MP)(out:List ai)(S:List Ex),S.Nodup->(∀e∈S,Md dB e)->(∀e∈S,∀t∈a.l,e.gt t.1=true)->(∀t∈a.l,wt ((d:Int)+1) t.1<=W/\∀w,v<w->w<4->t.1.get w=0)->In (b0+S.length*(bz+1)) a->bx dB+1<=n+S.length->∃r,rf (g::ts) g n a.l out=some r
 | 0,a,out,S,hS,hSb,_,_,_,hn=>by have:=Hg hS hSb;omega
 | n+1,a,out,S,hS,hSb,hSg,ha,hi,hn=>by
  have z0:z≠0:=λh=>by have:=zero_iff.1 h;rw[E]at this;cases this
  have o:g.2≠0:=(z.v.2 g (by rw[E];simp)).1;have q:g∈z.l:=by rw[E];simp
  cases ea:a.l with
  | nil=>exact⟨_,by rw[rf]⟩
  | cons m a' =>
   have k:m∈a.l:=by rw[ea];simp
   have a0:a≠0:=λh=>by have:=zero_iff.1 h;rw[ea]at this;cases this
   have hm:=ha m k;have Z:=(a.v.2 m k).2;have Y:=hB m.1 Z hm.1 hm.2;have N:(m.1::S).Nodup:=List.nodup_cons.2 ⟨λh=>(by have:=hSg _ h m k;rw[Ex.gt_irrefl]at this;cases this),hS⟩
   have C:∀e∈m.1::S,Md dB e:=λe he=>by
    rcases List.mem_cons.1 he with rfl|he
    ·exact Y
    ·exact hSb e he
   have X:=Hg N C;rw[List.length_cons]at X;have a1:=Nat.mul_le_mul_right (bz+1) (oM:S.length+1<=bx dB+1);rw[Nat.add_mul S.length,Nat.one_mul]at a1;have a3:=tu (NL λt F=>hB t.1 (a.v.2 t F).2 (ha t F).1 (ha t F).2) hi I oM;rw[ea]at a3;rw[rf,if_pos a3];by_cases hq:(m.1.sub g.1).nat=true
   ·rw[if_pos hq];have va:bR (m::a'):=ea▸a.v;have i:=Q9 va o hq;have a9:m.2≠0:=(a.v.2 m k).1;have a4:hd z=g.2:=yn E;have a5:hd a=m.2:=yn ea
    have R:(1:Rat)/g.2≠0:=λh=>by have:=He z0;rw[a4,h]at this;grind
    have M:m.2/g.2=m.2*(1/g.2):=by
     have b:=Rat.div_mul_cancel (a:=1) o;have B:=Rat.div_mul_cancel (a:=m.2) o;have G:(m.2/g.2 - m.2*(1/g.2))*g.2=0:=gR;rcases Rat.mul_eq_zero.1 G with h|h
     ·grind
     ·exact absurd h o
    have et:(⟨[gI m g],i⟩:MP)=c (hd a)*(c (1/hd z)*NP _ hq):=by
     have a2:bR [(m.1.sub g.1,m.2*(1/g.2))]:=by rw[<-M];exact i
     have:=Ws hq (jw a9 R) a2;rw[a4,a5];have e2:c (m.2*(1/g.2))=c m.2*c (1/g.2):=(mg _ _).symm;rw[e2]at this;have e3:(⟨[gI m g],i⟩:MP)=⟨[(m.1.sub g.1,m.2*(1/g.2))],a2⟩:=MP.eq_of (congrArg (λx=>[(m.1.sub g.1,x)]) M);rw[e3,this];grind
    have a7:In (b0+S.length*(bz+1)+(bz+0)) (⟨[gI m g],i⟩:MP):=by rw[et];exact(hi.hd a0).mul ((hz.inv z0).mul ⟨1,1,oM,nL _,nL _,FK _ hq⟩)
    have aa:=tu (d:=dB) (p:=(⟨[gI m g],i⟩:MP)) (NL λt F=>by
     rw[List.mem_singleton.1 F];refine⟨hq,λw hw=>?_⟩;have b:=Y.2 w hw;have B:=Ex.nat_get (z.v.2 g q).2 w;show(m.1.sub g.1).get w<=_
     have G:(m.1.sub g.1).get w=m.1.get w-g.1.get w:=by rcases w with _|_|_|w<;>rfl
     omega) a7 I oM
    rw[if_pos aa];obtain⟨t,F⟩:∃t:MP,t=⟨[gI m g],i⟩:=⟨_,rfl⟩
    have e2:gH (m::a') (aX (g::ts) [gI m g])=(a-z*t).l:=by rw[F,<-ea,<-E];rfl
    have e3:(a-z*t).l=canon (VN a' ts (gI m g)):=by rw[<-e2];exact VO Z o
    rw[e2]
    have hP:∀u∈(a-z*t).l,m.1.gt u.1=true/\wt ((d:Int)+1) u.1<=W/\∀w,v<w->w<4->u.1.get w=0:=by
     rw[e3];refine lw (P:=λe=>m.1.gt e=true/\wt ((d:Int)+1) e<=W/\∀w,v<w->w<4->e.get w=0) λu hu=>?_;rcases List.mem_append.1 hu with hu|hu
     ·exact⟨va.1.head u hu,ha u (by rw[ea];simp[hu])⟩
     ·obtain⟨s,hs,rfl⟩:=List.mem_map.1 hu;have y:s∈z.l:=by rw[E];simp[hs]
      have O:g.1.gt s.1=true:=(E▸z.v:bR (g::ts)).1.head s hs;have b:=O
      have B:m.1=(m.1.sub g.1).add g.1:=by simp only[Ex.add,Ex.sub];refine Ex.ext' ?_ ?_ ?_ ?_<;>simp only<;>omega
      have G:(s.1.add (m.1.sub g.1))=(m.1.sub g.1).add s.1:=Ex.add_comm _ _;refine⟨?_,?_,λw b J=>?_⟩
      ·show m.1.gt (s.1.add (m.1.sub g.1))=true;rw[G];rw[<-Ex.gt_add (m.1.sub g.1),<-B]at b;exact b
      ·show wt _ (s.1.add (m.1.sub g.1))<=_;have h5:=XF (z.v.2 g q).2 (z.v.2 s y).2 (j s y).1 (λw b B=>⟨(j s y).2 w b B,(j g q).2 w b B⟩) O;rw[Wn,Wo];have:=hm.1;omega
      ·show(s.1.add (m.1.sub g.1)).get w=0;have h6:=(j s y).2 w b J;have h7:=(j g q).2 w b J;have h8:=hm.2 w b J
       have h9:(m.1.sub g.1).get w=m.1.get w-g.1.get w:=by rcases w with _|_|_|w<;>rfl
       rw[Ex.get_add];omega
    have a6:In (b0+(m.1::S).length*(bz+1)) (a-z*t):=by
     obtain⟨D,H,b,B,G,J⟩:=hi;obtain⟨L,K,k1,k2,k3,k4⟩:=hz.nrm;have e4:z*t=c (hd a)*(NP _ hq*nrm z):=by rw[F,et,nrm];grind
     have i1:=(J.hd a0).mul ((FK _ hq).mul k4);rw[Nat.one_mul,Nat.one_mul,<-e4]at i1;have i2:=(J.up L).sub i1
     have ab:2^(b0+(m.1::S).length*(bz+1))=2^(b0+S.length*(bz+1))*2^bz*2:=by rw[List.length_cons,Nat.add_mul,Nat.one_mul,<-Nat.add_assoc,<-Nat.add_assoc,Nat.pow_succ,Nat.pow_add]
     have p1:=Nat.mul_le_mul B k2;have p2:=Nat.mul_le_mul G k2;have p3:=Nat.mul_le_mul G k3;exact⟨D*L,H*L+H*K,Nat.mul_pos b k1,oM,oM,i2⟩
    exact NQ E j hz hB I a8 n (a-z*t) (out++[gI m g]) (m.1::S) N C (λe he u hu=>by
     rcases List.mem_cons.1 he with rfl|he
     ·exact(hP u hu).1
     ·exact Ex.gt_trans (hSg e he m k) (hP u hu).1) (λu hu=>(hP u hu).2) a6 (by rw[List.length_cons];omega)
   ·rw[if_neg hq];exact⟨_,rfl⟩
theorem Un{v d M b0 bz:Nat}{a z:MP}(hv:v<4)(E:z≠0)(ha:∀w,w<v->a.deg w<=d)(o:a.deg v<=M)(hz:∀w,w<v->z.deg w<=d)(C:a.lo (v+1))(D:z.lo (v+1))(y:In b0 a)(B:In bz z)
  (q:bx (Um v d (Sk v d M))<=10000) (s:b0+bz+(bx (Um v d (Sk v d M))+1)*(bz+1)<LB):∃r,zu a.l z.l=some r:=by
 obtain⟨g,ts,u⟩:=jg E;have hd:∀(p:MP)(w:Nat)(k:Int),p.deg w<=k->∀t∈p.l,t.1.get w<=k:=λp w k h t b=>Int.le_trans (eU b w) h
 obtain⟨r,x⟩:=NQ (v:=v) (d:=d) (W:=Sk v d M) (b0:=b0) (dB:=Um v d (Sk v d M)) u (λt b=>⟨λw i=>hd z w d (hz w i) t b,λw m n=>fr_get (D w m n) b⟩) B
  (λe he i h=>Wq he i h) q s fuel a [] [] List.nodup_nil (λe h=>by cases h) (λe h=>by cases h)
  (λt b=>by
   have j:∀w,v<w->w<4->t.1.get w=0:=λw m n=>fr_get (C w m n) b
   exact⟨XG hv (λw i=>hd a w d (ha w i) t b) (hd a v M o t b) j,j⟩)
  (by simpa using y) (by unfold fuel;simp only[List.length_nil];omega)
 exact⟨r,by rw[u];exact x⟩
def dN (v x t:Nat) (w:Nat):Nat:=if w<v then x else if w=v then t else 0
theorem zJ{v x t:Nat}(hv:v<4):bx (dN v x t)=(t+1)*(x+1)^v:=by
 obtain rfl|rfl|rfl|rfl:v=0\/v=1\/v=2\/v=3:=oM
 ·simp[bx,dN]
 ·simp[bx,dN,Nat.mul_comm]
 ·simp[bx,dN,Nat.pow_succ,Nat.mul_comm]
 ·simp[bx,dN,Nat.pow_succ,Nat.mul_comm]
theorem sV{v x t:Nat}{p:MP}(j:p.lo (v+1))(i:∀w,w<v->p.deg w<=x)(b:p.deg v<=t):Dg (dN v x t) p:=λw d=>by
 unfold dN;split
 ·exact i w aM
 ·split
  ·rename_i e;rw[e];exact b
  ·have h:p.deg w<=0:=j w oM d;exact h
theorem Dg.lo{v x t:Nat}{p:MP}(h:Dg (dN v x t) p):p.lo (v+1):=λw d b=>by have:=h w b;rw[dN,if_neg oM,if_neg oM]at this;exact this
theorem Dg.lo0{v x:Nat}{p:MP}(h:Dg (dN v x 0) p):p.lo v:=λw d b=>by
 have:=h w b;rw[dN,if_neg oM]at this;have e:(if w=v then 0 else 0)=0:=by split<;>rfl
 rw[e]at this;exact this
theorem Dg.low{v x t:Nat}(hv:v<4){p:MP}(h:Dg (dN v x t) p):∀w,w<v->p.deg w<=x:=λw b=>by have:=h w oM;rwa[dN,if_pos b]at this
theorem Dg.top{v x t:Nat}(hv:v<4){p:MP}(h:Dg (dN v x t) p):p.deg v<=t:=by have:=h v hv;rwa[dN,if_neg oM,if_pos rfl]at this
def gD (D H:Nat) (d:Nat->Nat) (l:List ai):Prop:=∃p:MP,p.l=l/\qO D H p/\Dg d p
theorem gD.nil(D H:Nat)(d:Nat->Nat):gD D H d []:=⟨0,rfl,qO.zero D H,λw _=>by rw[deg_zero];omega⟩
theorem gD.get{D H:Nat}{d:Nat->Nat}{L:List (List ai)}(h:∀c∈L,gD D H d c)(i:Nat):gD D H d (L.getD i []):=by
 rw[jD]
 cases hi:L[i]? with
 | none=>exact gD.nil D H d
 | some c=>exact h c (List.mem_of_getElem? hi)
theorem gD.mul{D H e i:Nat}{d d':Nat->Nat}{p q:List ai}(h:gD D H d p)(k:gD e i d' q):gD (D*e) (H*i) (λw=>d w+d' w) (aX p q):=by obtain⟨a,rfl,l,m⟩:=h;obtain⟨b,rfl,n,o⟩:=k;exact⟨a*b,rfl,l.mul n,λw j=>Int.le_trans (bT w a b (m w j) (o w j) oM) sM⟩
theorem gD.sub{D H e:Nat}{d:Nat->Nat}{p q:List ai}(h:gD D H d p)(j:gD D e d q):gD D (H+e) d (gH p q):=by obtain⟨a,rfl,k,l⟩:=h;obtain⟨b,rfl,m,n⟩:=j;exact⟨a - b,rfl,k.sub m,λw i=>by have:=mX w a b;have:=l w i;have:=n w i;omega⟩
theorem gD.mono{D H b:Nat}{d:Nat->Nat}{p:List ai}(h:gD D H d p)(k:H<=b):gD D b d p:=by obtain⟨a,e,i,j⟩:=h;exact⟨a,e,i.mono k,j⟩
theorem Mf{D R:List (List ai)}{k d j b:Nat}{m l:Nat->Nat}(e:∀c∈D,gD j b l c)(h:∀c∈R,gD k d m c):∀c∈fO D R,gD (k*j) (d*b+d*b) (λw=>m w+l w) c:=λc hc=>by
 simp only[fO,List.mem_map]at hc;obtain⟨i,-,rfl⟩:=hc;split
 ·exact((gD.get h _).mul (gD.get e _)).sub ((gD.get h _).mul (gD.get e _))
 ·exact((gD.get h _).mul (gD.get e _)).mono oM
theorem FL{D:List (List ai)}{Da Ha d b s:Nat}{da e:Nat->Nat}(h:∀c∈D,gD d b e c)
  (k:∀j,j<=s->∀c,gD (Da*d^j) (Ha*(2*b)^j) (λw=>da w+j*e w) c->CY c=true) :
  ∀(f j:Nat)(R:List (List ai)),R.length+j<=s+(D.length-1)\/R.length<=D.length-1->j<=s->(∀c∈R,gD (Da*d^j) (Ha*(2*b)^j) (λw=>da w+j*e w) c) ->
   Lj D f R=true/\∃i,i<=s/\∀c∈gm D f R,gD (Da*d^i) (Ha*(2*b)^i) (λw=>da w+i*e w) c
 | 0,j,R,_,hj,hR=>⟨rfl,j,hj,hR⟩
 | f+1,j,R,hl,hj,hR=>by
  unfold Lj gm;split
  ·rename_i p;have n:=Mf h hR
   have o:∀c∈fO D R,gD (Da*d^(j+1)) (Ha*(2*b)^(j+1)) (λw=>da w+(j+1)*e w) c:=λc hc=>by
    have:=n c hc;have e1:Da*d^j*d=Da*d^(j+1):=by rw[Nat.pow_succ,Nat.mul_assoc]
    have l:Ha*(2*b)^j*b+Ha*(2*b)^j*b=Ha*(2*b)^(j+1):=by rw[Nat.pow_succ,<-Nat.mul_two,Nat.mul_assoc,Nat.mul_assoc,Nat.mul_comm b 2]
    have m:(λw=>da w+j*e w+e w)=λw=>da w+(j+1)*e w:=funext λw=>by rw[Nat.add_mul,Nat.one_mul,Nat.add_assoc]
    rw[e1,l,m]at this;exact this
   obtain⟨q,r⟩:=FL h k f (j+1) (fO D R) (by rw[gY];omega) oM o;refine⟨?_,r⟩;rw[Bool.and_eq_true,List.all_eq_true];exact⟨λc hc=>k j hj c (hR c hc),q⟩
  ·exact⟨rfl,j,hj,hR⟩
theorem Mg(p:List ai)(v:Nat)(i:Int):bI (gJ p v i)=bI p:=by
 unfold gJ
 induction p with
 | nil=>rfl
 | cons u l b=>simp only[List.map_cons,bI,b]
theorem DV{v D H:Nat}{d:Nat->Nat}(hv:v<4)(j:d v=0):∀(L:List (List ai))(i:Nat),(∀c∈L,gD D H d c) ->
  (∀t∈fromL v i L,(t.1.nat=true/\(∀w,w<4->w≠v->t.1.get w<=d w)/\t.1.get v<=((i+L.length:Nat):Int))/\Dv D t.2)/\(D:Rat)*bI (fromL v i L)<=((L.length*H:Nat):Rat)/\(fromL v i L).length<=L.length*bx d
 | [],i,_=>⟨λt b=>(by cases b),by
   show(D:Rat)*0<=((0*H:Nat):Rat)
   rw[Rat.mul_zero];exact bQ _,by simp[fromL]⟩
 | c::L,i,h=>by
  obtain⟨p,rfl,n,o⟩:=h c sM;obtain⟨s,B,C⟩:=DV hv j L (i+1) λc hc=>h c (by simp[hc])
  have e:fromL v (i:Int) (p.l::L)=gJ p.l v i++fromL v ((i+1:Nat):Int) L:=by rw[fromL];rfl
  rw[e];refine⟨λt b=>?_,?_,?_⟩
  ·rcases List.mem_append.1 b with b|b
   ·obtain⟨u,hu,rfl⟩:=List.mem_map.1 b;obtain⟨n1,n2⟩:=o.inB u hu;have m:u.1.get v=0:=by have:=n2 v hv;have:=Ex.nat_get n1 v;omega
    refine⟨⟨Ex.put_nat n1 v oM,λw q k=>?_,?_⟩,n.d u hu⟩
    ·show(u.1.put v _).get w<=_;rw[Ex.get_put_ne _ hv q (Ne.symm k)];exact n2 w q
    ·show(u.1.put v (u.1.get v+i)).get v<=_;rw[Ex.get_put,m];simp only[List.length_cons];omega
   ·obtain⟨⟨m1,x,E⟩,y⟩:=s t b;exact⟨⟨m1,x,by simp only[List.length_cons];omega⟩,y⟩
  ·rw[tK,Mg,Rat.mul_add,List.length_cons,Nat.add_mul,Nat.one_mul,Rat.natCast_add];have:=n.a;have r:(D:Rat)*p.am=(D:Rat)*bI p.l:=rfl;rw[r]at this;grind
  ·have z:=o.len;rw[List.length_append,List.length_cons,Nat.add_mul,Nat.one_mul];have:(gJ p.l v i).length=p.l.length:=by unfold gJ;rw[List.length_map]
   omega
theorem DW{x a j:Nat}(h:x<=2^a):x^j<=2^(a*j):=by rw[Nat.pow_mul];exact Nat.pow_le_pow_left h j
theorem Pq{v A al M s lM:Nat}{a b:MP}(hv:v<4)(b0:b≠0)(la:a.lo (v+1))(lb:b.lo (v+1))(ha:∀w,w<v->a.deg w<=A)(hb:∀w,w<v->b.deg w<=A)(ia:In al a)(ib:In al b)
  (hs:a.deg v+1<=b.deg v+s) (hM:b.deg v<=M) (hlM:M<=2^lM) (Z:(M+1)*((s+1)*A+1)^v<=10000) (L:(s+1)*(al+1)+lM<LB) :
  SH a.l b.l v=some (oC v a b).l/\In ((s+1)*(al+1)+lM) (oC v a b)/\(∀w,w<v->(oC v a b).deg w<=((s+1)*A:Nat))/\(oC v a b).deg v<=M/\(oC v a b).lo (v+1):=by
 obtain⟨Da,Ha,a1,a2,a3,a4⟩:=ia;obtain⟨E,F,b1,b2,b3,b4⟩:=ib
 have hrow:∀(p:MP)(D H:Nat),p.lo (v+1)->(∀w,w<v->p.deg w<=A)->qO D H p->∀c∈aA p.l v,gD D H (dN v A 0) c:=λp D H lp hp z c hc=>by
  obtain⟨n,rfl⟩:=eu hc;refine⟨p.co v n,rfl,z.co v n,λw G=>?_⟩;unfold dN;split
  ·exact qW v n p G hv (hp w aM)
  ·have S:(p.co v n).deg w<=0:=Ip hv lp w oM G;omega
 have a0:=deg_pos b0 v;have lD:(aA b.l v).length=(b.deg v).toNat+1:=by rw[dS];have e:aD b.l v=b.deg v:=rfl;omega
 have lR:((aA a.l v).length:Int)<=a.deg v+1:=by rw[dS];have e:aD a.l v=a.deg v:=rfl;have:=deg_ge v a;omega
 have k:bx (dN v ((s+1)*A) M)<=10000:=by rw[zJ hv];exact Z
 have I:∀j,j<=s->∀w,dN v A 0 w+j*dN v A 0 w<=dN v ((s+1)*A) M w:=λj B w=>by
  unfold dN;split
  ·have:=Nat.mul_le_mul_right A B;rw[Nat.add_mul];omega
  ·split<;>simp
 have q:∀j,j<=s->Da*E^j<=2^((s+1)*(al+1))/\Ha*(2*F)^j<=2^((s+1)*(al+1)):=λj B=>by
  have p1:=DW (j:=j) b2;have p2:(2*F)^j<=2^((al+1)*j):=DW (by rw[Nat.pow_succ];omega);have q1:=Nat.mul_le_mul a2 p1;have q2:=Nat.mul_le_mul a3 p2;rw[<-Nat.pow_add]at q1 q2;have r0:=Nat.mul_le_mul_left (al+1) B;have r1:al*j<=(al+1)*j:=Nat.mul_le_mul_right _ oM;have r2:(s+1)*(al+1)=(al+1)*s+(al+1):=by rw[Nat.mul_comm,Nat.mul_add,nU]
  exact⟨Nat.le_trans q1 (Nat.pow_le_pow_right oM oM),Nat.le_trans q2 (Nat.pow_le_pow_right oM oM)⟩
 have hpos:∀j,0<Da*E^j:=λj=>Nat.mul_pos a1 (Nat.pow_pos b1)
 have N:∀j,j<=s->∀c,gD (Da*E^j) (Ha*(2*F)^j) (λw=>dN v A 0 w+j*dN v A 0 w) c->CY c=true:=λj B c hc=>by obtain⟨p,rfl,S,h2⟩:=hc;exact tu (h2.mono (I j B)) ⟨_,_,hpos j,(q j B).1,(q j B).2,S⟩ k oM
 obtain⟨k1,i,z,k2⟩:=FL (Da:=Da) (Ha:=Ha) (da:=dN v A 0) (hrow b E F lb hb b4) N (aA a.l v).length 0 (aA a.l v)
  (by rw[lD];omega) oM (λc hc=>by
   have:=hrow a Da Ha la ha a4 c hc;have e3:(λw=>dN v A 0 w+0*dN v A 0 w)=dN v A 0:=funext λw=>by rw[Nat.zero_mul,Nat.add_zero]
   rw[Nat.pow_zero,Nat.pow_zero,nU,nU,e3];exact this)
 have y:=zD (aA b.l v) (aA a.l v).length (aA a.l v) oM;obtain⟨R,W⟩:∃R,R=gm (aA b.l v) (aA a.l v).length (aA a.l v):=⟨_,rfl⟩;rw[<-W]at k2 y;have X:R.length<=M:=by rw[lD]at y;omega
 have J:dN v A 0 v+i*dN v A 0 v=0:=by simp[dN]
 obtain⟨f1,f2,f3⟩:=DV hv (d:=λw=>dN v A 0 w+i*dN v A 0 w) J R 0 k2
 have hL:R.length*(Ha*(2*F)^i)<=2^((s+1)*(al+1)+lM):=by rw[Nat.add_comm,Nat.pow_add];exact Nat.mul_le_mul oM (q i z).2
 have hD:Da*E^i<=2^((s+1)*(al+1)+lM):=Nat.le_trans (q i z).1 (Nat.pow_le_pow_right oM oM)
 have u:∀t∈fromL v ((0:Nat):Int) R,Md (dN v ((s+1)*A) M) t.1:=λt m=>by
  obtain⟨⟨m1,m2,m3⟩,-⟩:=f1 t m;refine⟨m1,λw G=>?_⟩;by_cases O:w=v
  ·subst O;rw[dN,if_neg oM,if_pos rfl];omega
  ·have h6:t.1.get w<=((dN v A 0 w+i*dN v A 0 w:Nat):Int):=m2 w G O;have h7:=I i z w;omega
 have C:(fromL v ((0:Nat):Int) R).length<=10000:=by
  have S:bx (λw=>dN v A 0 w+i*dN v A 0 w)<=((s+1)*A+1)^v:=by
   have e:(λw=>dN v A 0 w+i*dN v A 0 w)=dN v (A+i*A) 0:=funext λw=>by
    unfold dN;split
    ·rfl
    ·split<;>simp
   rw[e,zJ hv,Nat.one_mul];exact Nat.pow_le_pow_left (by have:=Nat.mul_le_mul_right A z;rw[Nat.add_mul s 1 A];omega) v
  have h2:=Nat.mul_le_mul X S;have h3:(M+1)*((s+1)*A+1)^v=M*((s+1)*A+1)^v+((s+1)*A+1)^v:=by rw[Nat.add_mul,Nat.one_mul]
  omega
 have Y:=Sj (b:=(s+1)*(al+1)+lM) u k C (hpos i) hD hL (λt m=>(f1 t m).2) f2 L;have r:(oC v a b).l=canon (fromL v ((0:Nat):Int) R):=by rw[W];rfl
 have K:qO (Da*E^i) (R.length*(Ha*(2*F)^i)) (oC v a b):=by
  refine⟨λt m=>?_,?_⟩
  ·rw[r]at m;exact xS (λt m=>(f1 t m).2) t m
  ·refine Rat.le_trans (Rat.mul_le_mul_of_nonneg_left ?_ (bQ _)) f2;show bI (oC v a b).l<=_;rw[r];exact ql _
 have o:Dg (dN v ((s+1)*A) M) (oC v a b):=NL λt m=>by rw[r]at m;exact lw (P:=Md (dN v ((s+1)*A) M)) u t m
 have x:In ((s+1)*(al+1)+lM) (oC v a b):=⟨_,_,hpos i,hD,hL,K⟩;refine⟨?_,x,o.low hv,o.top hv,o.lo⟩;have G:=tu o x k L;unfold SH;simp only;rw[<-W,if_pos ⟨λh=>b0 (zero_iff.2 h),k1,Y,List.all_eq_true.2 λc hc=>N i z c (k2 c hc)⟩];have:=NN G;rw[r]at this ⊢;exact this
theorem yx{v:Nat}(hv:v<4){z k f:MP}(o:z.lo (v+1))(pz:z.prim v)(l:k.lo v)(k0:k≠0)(h:z∣k*f):z∣f:=by
 have key:∀n:Nat,v+1+n<=4->∀f:MP,f.lo (v+1+n)->z∣k*f->z∣f:=λn=>by
  induction n with
  | zero=>intro _ f j h;exact eB (yY v oM) hv j pz l k0 h
  | succ n m =>
   intro p f j h;have b:z.fr (v+1+n):=o _ oM oM;have d:k.fr (v+1+n):=l _ oM oM;refine(dvd_iff_co b f).2 λi=>m oM _ (Ip oM j) ?_;have:=(dvd_iff_co b (k*f)).1 h i;rwa[co_mul_fr d]at this
 have e:v+1+(3-v)=4:=oM;exact key (3-v) oM f (by rw[e];exact YT f) h
theorem Mh{u U v R d la xi H X b l2:Nat}(hu:1<=u)(j:u<=U)(z:0<R)(s:H<=2^b)(o:2*U*R^v<=2^l2)(i:la=l2+b)(C:X=2^xi-1)
  (hc:(la+xi)*((U-1)*(R+d)^v)<xi*(U*R^v)) :
  (2*(u*R^v*(X*H))+1)^((u-1)*(R+d)^v)<(X+1)^(u*R^v)/\u*R^v*(X*H)<=2^(la+xi):=by
 have x:0<2^xi:=Nat.pow_pos oM;have h:X+1=2^xi:=oM
 have p:2*(u*R^v)*H<=2^la:=by rw[i,Nat.pow_add];refine Nat.mul_le_mul (Nat.le_trans ?_ o) s;rw[Nat.mul_assoc 2 U];exact Nat.mul_le_mul_left 2 (Nat.mul_le_mul_right _ j)
 have q:2*(u*R^v*(X*H))+1<=2^(la+xi):=by
  have e1:2*(u*R^v*(X*H))=2*(u*R^v)*H*X:=by rw[Nat.mul_comm X H,<-Nat.mul_assoc,<-Nat.mul_assoc,<-Nat.mul_assoc]
  have k:=Nat.mul_le_mul_right X p;have l:2^la*X+2^la=2^(la+xi):=by rw[Nat.pow_add,<-h,Nat.mul_add,nU]
  have r:0<2^la:=Nat.pow_pos oM;rw[e1];omega
 refine⟨?_,oM⟩
 have k:(2*(u*R^v*(X*H))+1)^((u-1)*(R+d)^v)<=2^((la+xi)*((u-1)*(R+d)^v)):=by have e:2^((la+xi)*((u-1)*(R+d)^v))=(2^(la+xi))^((u-1)*(R+d)^v):=Nat.pow_mul ..;rw[e];exact Nat.pow_le_pow_left q _
 refine Nat.lt_of_le_of_lt k ?_;rw[h,<-Nat.pow_mul];refine Nat.pow_lt_pow_right oM ?_
 have l:(u-1)*U<=u*(U-1):=by rw[Nat.sub_mul,Nat.mul_sub,Nat.one_mul,nU];omega
 have B:0<U:=oM;refine Nat.lt_of_mul_lt_mul_right (a:=U) ?_
 have r:(la+xi)*((u-1)*(R+d)^v)*U<=u*((la+xi)*((U-1)*(R+d)^v)):=by
  have e1:(la+xi)*((u-1)*(R+d)^v)*U=(la+xi)*(R+d)^v*((u-1)*U):=by simp only[Nat.mul_comm,Nat.mul_left_comm,Nat.mul_assoc]
  have m:u*((la+xi)*((U-1)*(R+d)^v))=(la+xi)*(R+d)^v*(u*(U-1)):=by simp only[Nat.mul_comm,Nat.mul_left_comm,Nat.mul_assoc]
  rw[e1,m];exact Nat.mul_le_mul_left _ l
 have y:u*((la+xi)*((U-1)*(R+d)^v))<u*(xi*(U*R^v)):=Nat.mul_lt_mul_of_pos_left hc hu;have n:u*(xi*(U*R^v))=xi*(u*R^v)*U:=by simp only[Nat.mul_comm,Nat.mul_left_comm,Nat.mul_assoc]
 rw[<-n];omega
theorem Al{v M d b R la xi l2 kap U:Nat}(hv:v<4){p q x y z k t e:MP}(h:Sq v p q x y)(y0:y≠0)(k0:k≠0)(kf:k.lo v)(e0:e≠0)(ef:e.fr v)(H:k*x=t*y+e*z)(F:z.deg v<y.deg v)(z0:z≠0)(pz:z.prim v)(lz:z.lo (v+1))
  (Z:p≠0) (q0:q≠0) (lp:p.lo (v+1)) (lq:q.lo (v+1)) (hp:∀w,w<v->p.deg w<=d) (hq:∀w,w<v->q.deg w<=d) (ip:In b p) (iq:In b q) (hm:p.deg v<=M) (hn:q.deg v<=M) (a5:y.deg v<=p.deg v) (a6:y.deg v<=q.deg v)
  (hU:2*(M:Int)+2<=U+2*y.deg v) (hR:0<R) (h2:2*U*R^v<=2^l2) (W:la=l2+b) (hc:(la+xi)*((U-1)*(R+d)^v)<xi*(U*R^v)) (hk:uH (dN v (R-1+d) M) (v+1)<=2^kap) :
  (∀w,w<v->z.deg w<=((U*d:Nat):Int))/\In (la+xi+kap) (nrm z):=by
 have a7:=deg_pos z0 v;obtain⟨m,em⟩:∃m:Nat,p.deg v=m:=⟨(p.deg v).toNat,oM⟩;obtain⟨n,en⟩:∃n:Nat,q.deg v=n:=⟨(q.deg v).toNat,oM⟩;obtain⟨K,eK⟩:∃K:Nat,y.deg v=(K:Int)+1:=⟨(y.deg v).toNat - 1,oM⟩;have hu:1<=m+n - 2*K:=oM;have I:m+n - 2*K<=U:=oM;refine⟨λw C=>?_,?_⟩
 ·obtain⟨S,T,B,hS,r,u⟩:=KN (v:=v) (w:=w) hv oM oM (m:=m) (n:=n) (k:=K) oM oM oM oM (hp w C) (hq w C);obtain⟨f0,c',c0,J,hd⟩:=h.dvd hv y0 k0 kf e0 ef H F z0 (f:=S*p+T*q) (K:=(K:Int)) rfl r (.inr oM) B oM oM;have h3:=dvd_deg f0 (yx hv lz pz J c0 hd) w;have h4:(m+n - 2*K)*d<=U*d:=Nat.mul_le_mul_right _ I;omega
 ·obtain⟨j,Hp,a1,a2,a3,a4⟩:=ip;obtain⟨Dq,Hq,b1,b2,b3,b4⟩:=iq;have l:(j:Rat)≠0:=jH a1;have o:(Dq:Rat)≠0:=jH b1
  have L:(c (j:Rat)*p).am<=((2^b:Nat):Rat):=by rw[sP,bO (bQ _)];exact Rat.le_trans a4.a (Ak a3)
  have N:(c (Dq:Rat)*q).am<=((2^b:Nat):Rat):=by rw[sP,bO (bQ _)];exact Rat.le_trans b4.a (Ak b3)
  obtain⟨X,hX⟩:∃X,X=2^xi - 1:=⟨_,rfl⟩;obtain⟨n1,n2⟩:=Mh (d:=d) hu I hR (nL (2^b)) h2 W hX hc;have lP:(c (j:Rat)*p).lo (v+1):=iA Z (DN l p).1 lp;have lQ:(c (Dq:Rat)*q).lo (v+1):=iA q0 (DN o q).1 lq
  obtain⟨S,T,B,hS,r,u,E,D,s⟩:=Jh hv lP lQ (ry a4.d) (ry b4.d) (m:=m) (n:=n) (k:=K) (d:=d) (by rw[uM l Z];omega) (by rw[uM o q0];omega) oM oM
   (λw C=>by rw[uM l Z];exact hp w C) (λw C=>by rw[uM o q0];exact hq w C) L N hR n1
  have i:S*(c (j:Rat)*p)+T*(c (Dq:Rat)*q)=(S*c (j:Rat))*p+(T*c (Dq:Rat))*q:=gR
  have a0:(S*c (j:Rat)).deg v<=S.deg v:=by have h5:(c (j:Rat)).deg v<=0:=ow _ v;have:=bT v S (c (j:Rat)) (Int.le_refl _) h5 (by have:=deg_ge v S;omega);omega
  have G:S*c (j:Rat)≠0\/T*c (Dq:Rat)≠0:=B.imp (λh=>mul_ne h (wN l)) λh=>mul_ne h (wN o);obtain⟨f,hf⟩:∃f,f=S*(c (j:Rat)*p)+T*(c (Dq:Rat)*q):=⟨_,rfl⟩;rw[<-hf]at r u E D s i;obtain⟨f0,c',c0,J,hd⟩:=h.dvd hv y0 k0 kf e0 ef H F z0 (f:=f) (K:=(K:Int)) i r (.inr oM) G oM oM;have Y:=yx hv lz pz J c0 hd
  have O:In (la+xi) f:=by refine⟨1,_,oM,Nat.one_le_two_pow,n2,E,?_⟩;rw[show((1:Nat):Rat)=1 from rfl,Rat.one_mul];exact D
  exact O.fac (n:=v+1) oM f0 Y s (sV s u oM) hk
structure nD where
 M:Nat
 d:Nat
 b:Nat
 E:Nat
 br:Nat
 kE:Nat
 k0:Nat
 lM:Nat
 P:Nat
 R:Nat->Nat
 l2:Nat->Nat
 xi:Nat->Nat
 kap:Nat->Nat
namespace nD
def bE (L:nD):Nat:=L.br+L.kE
def cz (L:nD) (v x:Nat):Nat:=if v=0 then 0 else x+L.kE
def b1 (L:nD) (v:Nat):Nat:=if v=0 then L.b else L.b+(L.b+L.k0)
def mu (L:nD) (v U:Nat):Nat:=if U=1 then L.b1 v else L.l2 U+L.b1 v+L.xi U+L.kap U
def U (L:nD) (k:Nat):Nat:=2*L.M+2-2*k
end nD
structure qA (v:Nat) (L:nD):Prop where
 hv:v<4
 hlM:L.M<=2^L.lM
 k0:uH (dN v L.d L.M) (v+1)<=2^L.k0
 kE:uH (dN v L.E 0) v<=2^L.kE
 mono:∀U,U<2*L.M->1<=U->L.mu v U<=L.mu v (U+1)
 sg:∀U,U<2*L.M+1->2<=U->0<L.R U/\2*U*L.R U^v<=2^L.l2 U/\(L.l2 U+L.b1 v+L.xi U)*((U-1)*(L.R U+L.d)^v)<L.xi U*(U*L.R U^v)/\uH (dN v (L.R U-1+L.d) L.M) (v+1)<=2^L.kap U
 p1:(L.M+1)*(1*L.d)<=L.P/\(L.M+1)*(L.b1 v+1)+L.lM<LB
 pk:∀k,k<L.M+1->2<=k->(k+1)*(L.U k*L.d)<=L.P/\(k+1)*(L.mu v (L.U k)+1)+L.lM<LB
 bP:(L.M+1)*(L.P+1)^v<=10000
 e1:L.M*(1*L.d)<=L.E/\L.M*(L.b1 v+1)+L.lM<=L.br
 ek:∀k,k<L.M+1->3<=k->k*(L.U k*L.d)<=L.E/\k*(L.mu v (L.U k)+1)+L.lM<=L.br
 dE:L.d<=L.E/\L.b<=L.br/\L.E<=L.P/\1<=L.M
 x1:L.br+L.mu v (2*L.M)+L.cz v L.br<LB
 x2:L.b1 v+L.cz v L.b<LB
 dv:bx (Um v L.d (Sk v L.d L.M))<=10000/\L.b1 v+L.b1 v+(bx (Um v L.d (Sk v L.d L.M))+1)*(L.b1 v+1)<LB
 fin:L.bE+L.mu v (2*L.M)<LB
 fl:L.M+1<fuel
def PP (d:Nat->Nat) (b:Nat) (G:List ai->List ai->Option (List ai)):Prop:=∀x y:MP,Dg d x->Dg d y->In b x->In b y->∃r,G x.l y.l=some r
theorem Bc{g:MP}(h:hd g=1):nrm g=g:=by rw[nrm,h,(dK:(1:Rat)/1=1),zZ];grind
theorem rD{v:Nat}{L:nD}(h:qA v L){x:Nat}{g f:MP}(hg:hd g=1)(f0:f≠0)(hd:g∣f)(b:Dg (dN v L.E 0) f)(j:In x f):Dg (dN v L.E 0) g/\In (L.cz v x) g:=by
 have hv:=h.hv;refine⟨b.dvd f0 hd,?_⟩;unfold nD.cz;split
 ·rename_i e;subst e;obtain⟨r,rfl⟩:=ku (iA f0 hd b.lo0);have k:r≠0:=λe=>by rw[e,Cn]at hg;cases hg
  have d:=sS k 1;have i:c r*1=c r:=gR;rw[i,hg,uK,Rat.one_mul]at d;rw[<-d,zZ];exact In.one 0
 ·have:=j.fac (n:=v) oM f0 hd b.lo0 b h.kE;rwa[Bc hg]at this
theorem NR{v:Nat}{L:nD}{x:Nat}(b:x<=L.br):L.cz v x<=L.bE:=by unfold nD.cz nD.bE;split<;>omega
def XI (v:Nat) (L:nD) (x:Nat) (l:List ai):Prop:=∃f:MP,f.l=l/\Dg (dN v L.E 0) f/\In x f
theorem NS{v x:Nat}{L:nD}(h:qA v L)(B:x<=L.br){G:List ai->List ai->Option (List ai)}(s:NE G)(y:PP (dN v L.E 0) L.bE G):∀(l:List (List ai))(b:MP),(∀c∈l,XI v L x c) ->
  (b=0\/(hd b=1/\∃f:MP,f≠0/\b∣f/\Dg (dN v L.E 0) f/\In x f))->∃r,uD G b.l l=some r
 | [],b,_,_=>⟨_,rfl⟩
 | c::l,b,hl,ha=>by
  obtain⟨f,rfl,p,hf⟩:=hl c sM
  have d:Dg (dN v L.E 0) b/\In L.bE b:=by
   rcases ha with e|⟨H,q,f0,k,m,o⟩
   ·rw[e];exact⟨λw _=>by rw[deg_zero];omega,In.zero _⟩
   ·obtain⟨C,D⟩:=rD h H f0 k m o;exact⟨C,D.mono (NR B)⟩
  obtain⟨r,z⟩:=y b f d.1 p d.2 (hf.mono (by unfold nD.bE;omega));obtain⟨g,rfl,hg⟩:=s b f r z;rw[uD,z];simp only;split
  ·exact⟨_,rfl⟩
  ·refine NS h B s y l g (λc hc=>hl c (by simp[hc])) ?_;by_cases j:g=0
   ·exact .inl j
   ·refine .inr ⟨hg.n j,?_⟩;by_cases f0:f=0
    ·rcases ha with e|⟨-,q,F,k,m,o⟩
     ·exact absurd (zero_dvd (hg.i.u 0 (by rw[e];exact dvd_refl 0) (by rw[f0];exact dvd_refl 0))) j
     ·exact⟨q,F,dvd_trans hg.i.l k,m,o⟩
    ·exact⟨f,f0,hg.i.r,p,hf⟩
theorem zK{v x:Nat}{L:nD}(h:qA v L){a:MP}(i:a.lo (v+1))(ha:∀w,w<v->a.deg w<=L.E)(e:In x a)(n:Nat):Dg (dN v L.E 0) (a.co v n)/\In x (a.co v n):=by
 refine⟨λw b=>?_,e.co v n⟩;unfold dN;split
 ·exact qW v n a b h.hv (ha w aM)
 ·have d:(a.co v n).deg w<=0:=Ip h.hv i w oM b;split<;>exact d
theorem DX{v x:Nat}{L:nD}(h:qA v L)(y:x<=L.br){G:List ai->List ai->Option (List ai)}(k:NE G)(u:PP (dN v L.E 0) L.bE G){a:MP}(q:a.lo (v+1))(ha:∀w,w<v->a.deg w<=L.E)(p:In x a) :
  ∃g:MP,mG G a.l v=some g.l/\um v g a/\(g≠0->hd g=1)/\(a≠0->Dg (dN v L.E 0) g/\In (L.cz v x) g):=by
 obtain⟨r,o⟩:=NS h y k u (aA a.l v) 0 (λc hc=>by
  obtain⟨n,e⟩:=eu hc;obtain⟨b,i⟩:=zK h q ha p n
  exact⟨a.co v n,e.symm,b,i⟩) (.inl rfl)
 obtain⟨g,rfl,hg,m⟩:=qw k (a:=a) (v:=v) o;refine⟨g,o,hg,m,λj=>?_⟩;have s:=dvd_ne j hg.d;obtain⟨b,i⟩:=zK h q ha p (a.deg v).toNat;exact rD h (m s) (lc_ne j v) ((dvd_iff_co hg.f a).1 hg.d _) b i
theorem NT{v:Nat}{L:nD}(h:qA v L){U:Nat}(b:1<=U):∀k:Nat,U+k<=2*L.M->L.mu v U<=L.mu v (U+k)
 | 0,_=>nL _
 | k+1,hk=>Nat.le_trans (NT h b k (by omega)) (h.mono (U+k) (by omega) (by omega))
theorem yz{v:Nat}{L:nD}(h:qA v L){U b:Nat}(d:1<=U)(e:U<=b)(i:b<=2*L.M):L.mu v U<=L.mu v b:=by have:=NT h d (b - U) oM;rwa[(oM:U+(b - U)=b)]at this
theorem JQ{v:Nat}{L:nD}(h:qA v L){G:List ai->List ai->Option (List ai)}(hG:NE G)(hX:PP (dN v L.E 0) L.bE G)
  {p q:MP} (p0:p≠0) (q0:q≠0) (lp:p.lo (v+1)) (lq:q.lo (v+1)) (hp:∀w,w<v->p.deg w<=L.d) (hq:∀w,w<v->q.deg w<=L.d) (ip:In (L.b1 v) p) (iq:In (L.b1 v) q) (hm:p.deg v<=L.M) (hn:q.deg v<=L.M) :
  ∀(n:Nat)(x y:MP)(U:Nat),y.deg v<n->Sq v p q x y->x.prim v->y.prim v->x.lo (v+1)->y.lo (v+1)->(∀w,w<v->x.deg w<=((U*L.d:Nat):Int))->(∀w,w<v->y.deg w<=((U*L.d:Nat):Int))->In (L.mu v U) x->In (L.mu v U) y ->
   1<=U->U<=2*L.M->(U=1\/((U:Int)+2*x.deg v=2*(L.M:Int)+2/\y.deg v<x.deg v))->1<=y.deg v->y.deg v<=x.deg v->x.deg v<=L.M->y.deg v<=p.deg v->y.deg v<=q.deg v ->
   ∃s:MP,ru G v n x.l y.l=some s.l/\In (L.mu v (2*L.M)) s
 | 0,x,y,U,hlt,_,_,_,_,_,_,_,_,_,_,_,_,u,_,_,_,_=>by omega
 | n+1,x,y,U,hlt,hS,px,py,lx,ly,dx,dy,ix,iy,hU1,hU2,hUc,hy1,hyx,hxM,hyp,hyq=>by
  have hv:=h.hv;have y0:=cZ py;have x0:=cZ px;obtain⟨k,hk⟩:∃k:Nat,x.deg v=k:=⟨(x.deg v).toNat,oM⟩;obtain⟨j,hj⟩:∃j:Nat,y.deg v=j:=⟨(y.deg v).toNat,oM⟩
  have a0:(k-j+1+1)*(U*L.d)<=L.P/\(k-j+1+1)*(L.mu v U+1)+L.lM<LB:=by
   rcases hUc with e|⟨e,W⟩
   ·subst e;have u:=h.p1;have D:=Nat.mul_le_mul_right (1*L.d) (oM:k-j+1+1<=L.M+1);have K:=Nat.mul_le_mul_right (L.mu v 1+1) (oM:k-j+1+1<=L.M+1);have h4:L.mu v 1=L.b1 v:=if_pos rfl;rw[h4]at K ⊢;omega
   ·have u:=h.pk k oM oM;have e2:L.U k=U:=by unfold nD.U;omega
    rw[e2]at u;have D:=Nat.mul_le_mul_right (U*L.d) (oM:k-j+1+1<=k+1);have K:=Nat.mul_le_mul_right (L.mu v U+1) (oM:k-j+1+1<=k+1);omega
  obtain⟨r1,r2,r3,r4,r5⟩:=Pq (M:=L.M) (s:=k - j+1) (lM:=L.lM) hv y0 lx ly dx dy ix iy oM oM h.hlM
   (Nat.le_trans (Nat.mul_le_mul_left _ (Nat.pow_le_pow_left (by have:=a0.1;omega) v)) h.bP) a0.2
  obtain⟨t,s',J,ad⟩:=FI (a:=x) y0 v;obtain⟨r,hr⟩:∃r,r=oC v x y:=⟨_,rfl⟩;rw[<-hr]at r1 r2 r3 r4 r5 J ad;rw[ru,r1];have X:L.mu v U<=L.mu v (2*L.M):=yz h hU1 hU2 (nL _)
  cases er:r.l with
  | nil=>exact⟨y,rfl,iy.mono X⟩
  | cons a l =>
   simp only;have z:r≠0:=λe=>by rw[zero_iff.1 e]at er;cases er
   split
   ·exact⟨1,by rw[sU],In.one _⟩
   ·rename_i a8
    have ag:1<=r.deg v:=by
     have u:=deg_pos z v;have D:r.deg v≠0:=by show aD r.l v≠0;rw[er];exact a8
     omega
    have Z:(k-j+1+1)*(U*L.d)<=L.E/\(k-j+1+1)*(L.mu v U+1)+L.lM<=L.br:=by
     rcases hUc with e|⟨e,W⟩
     ·subst e;have u:=h.e1;have D:=Nat.mul_le_mul_right (1*L.d) (oM:k-j+1+1<=L.M);have K:=Nat.mul_le_mul_right (L.mu v 1+1) (oM:k-j+1+1<=L.M);have h4:L.mu v 1=L.b1 v:=if_pos rfl;rw[h4]at K ⊢;omega
     ·have u:=h.ek k oM oM;have e2:L.U k=U:=by unfold nD.U;omega
      rw[e2]at u;have D:=Nat.mul_le_mul_right (U*L.d) (oM:k-j+1+1<=k);have K:=Nat.mul_le_mul_right (L.mu v U+1) (oM:k-j+1+1<=k);omega
    have a1:∀w,w<v->r.deg w<=L.E:=λw hw=>by have:=r3 w hw;have:=Z.1;omega
    have a2:In L.br r:=r2.mono Z.2;obtain⟨g,c1,c2,c3,c4⟩:=DX h (nL _) hG hX r5 a1 a2;obtain⟨c5,c6⟩:=c4 z;obtain⟨i,o,I,C⟩:=jk c2 z;have b:=cZ I;have a4:i.lo (v+1):=qx C b o r5;have a9:g.deg v=0:=uo c2.f C;have ap:i.deg v=r.deg v:=by rw[o,deg_mul C b,a9];omega
    have aq:2<=j:=oM;have B:2<=L.U j/\L.U j<=2*L.M:=by unfold nD.U;omega
    have a7:((L.U j:Nat):Int)+2*y.deg v=2*(L.M:Int)+2:=by rw[hj];unfold nD.U;omega
    obtain⟨s1,s2,s3,s4⟩:=h.sg (L.U j) oM B.1;have S:=vE hv ly s';have H:=G9 (lc_ne y0 v) s';have a3:(y.lc v)^s'*x=t*y+g*i:=by rw[<-o];exact J
    obtain⟨m1,m2⟩:=Al hv hS y0 H S C c2.f a3 oM b I a4 p0 q0 lp lq hp hq ip iq hm hn hyp hyq oM s1 s2 rfl s3 s4;have a5:L.l2 (L.U j)+L.b1 v+L.xi (L.U j)+L.kap (L.U j)=L.mu v (L.U j):=by rw[nD.mu,if_neg oM]
    rw[a5]at m2;have ao:L.mu v (L.U j)<=L.mu v (2*L.M):=yz h oM B.2 (nL _)
    have F:In (L.br+L.mu v (L.U j)) i:=by
     have e1:hd r=hd i:=by rw[o,Hd C b,c3 C,Rat.one_mul]
     have D:=(a2.hd z).mul m2;rwa[e1,<-rC b]at D
    have ar:=h.x1
    have O:bx (dN v L.E L.M)<=10000:=by rw[zJ hv];exact Nat.le_trans (Nat.mul_le_mul_left _ (Nat.pow_le_pow_left (by have:=h.dE.2.2.1;omega) v)) h.bP
    have nY:Dg (dN v L.E L.M) r:=sV r5 a1 oM;have Y:=yw C (o.trans (jI g i)) nY O F c6 oM;have R:Dg (dN v L.E L.M) i:=nY.dvd z ⟨g,o.trans (jI g i)⟩;have ab:=qy R F O oM
    have ac:kW G (a::l) v=some i.l:=by rw[er]at Y c1;rw[kW];simp only[c1];exact Y
    have N:nrm i≠0:=Sg b
    have m:∀w,(nrm i).deg w=i.deg w:=λw=>by have u:=dvd_deg b (fF b).1 w;have D:=dvd_deg N (fF b).2 w;omega
    have aa:=vN b
    have a6:Sq v p q y (nrm i):=by refine hS.step y0 H S (e:=g*c (hd i)) (mul_ne C (wN aa)) (vS c2.f (ow _ v)) (t:=t) ?_ (by rw[m];omega);rw[a3];have u:g*c (hd i)*nrm i=g*(c (hd i)*nrm i):=gR;rw[u,<-rC b]
    obtain⟨s,al,an⟩:=JQ h hG hX p0 q0 lp lq hp hq ip iq hm hn n y (nrm i) (L.U j) (by rw[m];omega) a6 py (kC I (fF b).1) ly (Mc a4)
     (λw hw=>by
      have u:=dy w hw;have D:U*L.d<=L.U j*L.d:=Nat.mul_le_mul_right _ (by rcases hUc with e|⟨e,_⟩<;>omega)
      omega)
     (λw hw=>by rw[m];exact m1 w hw) (iy.mono (yz h hU1 (by rcases hUc with e|⟨e,_⟩<;>omega) B.2)) m2 oM B.2 (.inr ⟨a7,by rw[m];omega⟩) (by rw[m];omega) (by rw[m];omega) oM (by rw[m];omega) (by rw[m];omega)
    refine⟨s,?_,an⟩;rw[ac];simp only;rw[ab];exact al
end Q
end
section
namespace Q
open MP Go Go.Proofs.YtopclbeomcggiaaGreat
theorem Wt{G:List ai->List ai->Option (List ai)}{a b r:List ai}(h:Az G a b=some r):Rn G a b=some r:=by
 unfold Az at h;unfold Rn;split at h
 ·rename_i d;rw[if_pos d];exact h
 rename_i d;rw[if_neg d];split at h
 ·rename_i e;rw[if_pos e];exact h
 rename_i e;rw[if_neg e];split at h
 ·rename_i i;rw[if_pos i];exact h
 rename_i i;rw[if_neg i];obtain⟨v,hv,h⟩:=aV h;rw[hv];simp only[fD];split at h
 ·rename_i j;rw[if_pos j];exact h
 rename_i j;rw[if_neg j];split at h
 ·rename_i k;rw[if_pos k];exact h
 rename_i k;rw[if_neg k];obtain⟨x,l,h⟩:=aV h;obtain⟨y,m,h⟩:=aV h;obtain⟨g,hg,h⟩:=aV h;obtain⟨p,hp,h⟩:=aV h;obtain⟨q,hq,h⟩:=aV h;split at h
 ·cases h
 rw[l,m];simp only;rw[hg];simp only;rw[hp,hq];exact h
theorem yA:∀n,NE (wJ n)
 | 0=>λ_ _ _ h=>by cases h
 | n+1=>λa b r h=>Ui (yA n) a b r (Wt h)
theorem JR{v:Nat}{a b:MP}(h:0<a.deg v\/0<b.deg v)(d:a.lo (v+1))(lb:b.lo (v+1)):∀n,n<=4->v<n->sZ [a.l,b.l] n=some v
 | 0,_,h=>by omega
 | n+1,hn,hv=>by
  rw[sZ];rcases Nat.eq_or_lt_of_le (show v<=n by omega)with e|hlt
  ·subst e;rw[if_pos];simp only[List.any_cons,List.any_nil,Bool.or_false,Bool.or_eq_true,decide_eq_true_eq];exact h
  ·rw[if_neg]
   ·exact JR h d lb n (by omega) hlt
   ·simp only[List.any_cons,List.any_nil,Bool.or_false,Bool.or_eq_true,decide_eq_true_eq,not_or];have i:a.deg n<=0:=d n oM oM;have j:b.deg n<=0:=lb n oM oM;exact⟨by show ¬0<a.deg n;omega,by show ¬0<b.deg n;omega⟩
theorem vF{v:Nat}{L:nD}(h:qA v L){a x p:MP}(l:a≠0)(o:a.lo (v+1))(da:Dg (dN v L.d L.M) a)(k:In L.b a)(e:a=x*p)(m:hd x=1)(j:v=0->x=1):In (L.b1 v) p:=by
 unfold nD.b1;split
 ·rename_i i;have e1:a=p:=by rw[e,j i];grind
  rw[<-e1];exact k
 ·exact k.quot (n:=v+1) (by have:=h.hv;omega) l (e.trans (jI x p)) m o da h.k0
theorem NU{v:Nat}{L:nD}(h:qA v L){G:List ai->List ai->Option (List ai)}(C:NE G)(D:PP (dN v L.E 0) L.bE G)
  {p q:MP} (y:p.prim v) (z:q.prim v) (dp:Dg (dN v L.d L.M) p) (dq:Dg (dN v L.d L.M) q) (ip:In (L.b1 v) p) (i:In (L.b1 v) q) (u:1<=q.deg v) (e:q.deg v<=p.deg v) :
  ∃s:MP,Ay G p.l q.l v=some s.l/\In (L.mu v (2*L.M)) s:=by
 have hv:=h.hv;have I:=cZ y;have B:=cZ z;have k:=dp.top hv;have n:=dq.top hv;have F:=h.fl;have e1:aD p.l v=p.deg v:=rfl;have J:aD q.l v=q.deg v:=rfl;have j:L.mu v 1=L.b1 v:=if_pos rfl;have o:L.b1 v<=L.mu v (2*L.M):=by rw[<-j];exact yz h (nL _) (by have:=h.dE.2.2.2;omega) (nL _)
 obtain⟨m,hm⟩:=sQ (a:=p.l) (b:=q.l) (v:=v) oM oM [0,1,2];obtain⟨r,H⟩:=Un hv B (dp.low hv) k (dq.low hv) dp.lo dq.lo ip i h.dv.1 h.dv.2;unfold Ay zw;rw[hm];simp only;split
 ·exact⟨1,by rw[sU],In.one _⟩
 ·rw[H];simp only;split
  ·exact⟨q,rfl,i.mono o⟩
  ·exact JQ h C D I B dp.lo dq.lo (dp.low hv) (dq.low hv) ip i k n fuel p q 1 oM .base y z dp.lo dq.lo
    (λw x=>by have:=dp.low hv w x;omega) (λw x=>by have:=dq.low hv w x;omega) (by rw[j];exact ip) (by rw[j];exact i) (nL _) (by have:=h.dE.2.2.2;omega) (.inl rfl) u e k e (Int.le_refl _)
theorem NV{v:Nat}{L:nD}(h:qA v L){G:List ai->List ai->Option (List ai)}(I:NE G)(F:PP (dN v L.E 0) L.bE G)(a1:PP (dN v L.E 0) L.bE (Az G)):PP (dN v L.d L.M) L.b (Az G):=λa b da o J ib=>by
 have hv:=h.hv;have H:=h.dE;have a2:=h.x2
 have j:bx (dN v L.d L.M)<=10000:=by rw[zJ hv];exact Nat.le_trans (Nat.mul_le_mul_left _ (Nat.pow_le_pow_left oM v)) h.bP
 have ao:L.b<=L.b1 v:=by unfold nD.b1;split<;>omega
 have X:L.b<LB:=oM;have u:L.b<=L.bE:=by unfold nD.bE;omega
 have low0:∀p:MP,Dg (dN v L.d L.M) p->p.deg v<=0->Dg (dN v L.E 0) p:=λp dp hp=>sV dp.lo (λw hw=>by have:=dp.low hv w hw;omega) hp;by_cases Y:a.deg v<=0/\b.deg v<=0
 ·exact a1 a b (low0 a da Y.1) (low0 b o Y.2) (J.mono u) (ib.mono u)
 unfold Az;split
 ·exact⟨_,qy o ib j X⟩
 rename_i ha;have C:a≠0:=λe=>ha (zero_iff.1 e);split
 ·exact⟨_,qy da J j X⟩
 rename_i hb;have b0:b≠0:=λe=>hb (zero_iff.1 e);split
 ·exact⟨_,rfl⟩
 have a7:Rm [a.l,b.l]=some v:=JR oM da.lo o.lo 4 oM hv;rw[a7];simp only[fD];have D:∀p:MP,Dg (dN v L.d L.M) p->∀w,w<v->p.deg w<=L.E:=λp dp w hw=>by have:=dp.low hv w hw;omega
 obtain⟨x,x1,x2,x3,x4⟩:=DX h H.2.1 I F da.lo (D a da) J;obtain⟨y,y1,y2,y3,y4⟩:=DX h H.2.1 I F o.lo (D b o) ib;obtain⟨x5,x6⟩:=x4 C;obtain⟨y5,y6⟩:=y4 b0;have k:L.cz v L.b<=L.bE:=NR H.2.1;split
 ·rename_i h0;rw[x1];exact F x b x5 (low0 b o (Int.le_of_eq h0)) (x6.mono k) (ib.mono u)
 rename_i W;split
 ·rename_i h0;rw[y1];exact F a y (low0 a da (Int.le_of_eq h0)) y5 (J.mono u) (y6.mono k)
 rename_i S;rw[x1,y1];simp only;obtain⟨g',Z⟩:=F x y x5 y5 (x6.mono k) (y6.mono k);obtain⟨g,rfl,hg⟩:=I x y _ Z;obtain⟨p,N,pp,K⟩:=jk x2 C;obtain⟨q,eq,pq,y0⟩:=jk y2 b0;have p0:=cZ pp;have q0:=cZ pq
 have a3:∀z:MP,v=0->hd z=1->Dg (dN v L.E 0) z->z=1:=λz e O h2=>by
  subst e;obtain⟨r,rfl⟩:=ku h2.lo0;have hr:r≠0:=λe=>by rw[e,Cn]at O;cases O
  have R:=sS hr 1;have a5:c r*1=c r:=gR;rw[a5,O,uK,Rat.one_mul]at R;rw[<-R,zZ]
 have ip:=vF h C da.lo da J N (x3 K) (λe=>a3 x e (x3 K) x5);have iq:=vF h b0 o.lo o ib eq (y3 y0) (λe=>a3 y e (y3 y0) y5);have a8:=yw K (N.trans (jI x p)) da j ip x6 a2;have a9:=yw y0 (eq.trans (jI y q)) o j iq y6 a2;have aa:¬(p.l=[]\/q.l=[]):=λe=>e.elim (λe=>p0 (zero_iff.2 e)) λe=>q0 (zero_iff.2 e);rw[Z,a8,a9];simp only;rw[if_neg aa];have dp:Dg (dN v L.d L.M) p:=da.dvd C ⟨x,N.trans (jI x p)⟩;have dq:Dg (dN v L.d L.M) q:=o.dvd b0 ⟨y,eq.trans (jI y q)⟩;have au:p.deg v=a.deg v:=by rw[N,deg_mul K p0,uo x2.f K];omega
 have av:q.deg v=b.deg v:=by rw[eq,deg_mul y0 q0,uo y2.f y0];omega
 have al:=deg_pos C v;have ap:=deg_pos b0 v;have an:a.deg v≠0:=S;have aq:b.deg v≠0:=W
 have hs:∃s:MP,Ep G p.l q.l v=some s.l/\In (L.mu v (2*L.M)) s:=by
  unfold Ep;split
  ·rename_i m;have m:p.deg v<q.deg v:=m;exact NU h I F pq pp dq dp iq ip oM oM
  ·rename_i m;have m:¬p.deg v<q.deg v:=m;exact NU h I F pp pq dp dq ip iq oM oM
 obtain⟨s,s1,s2⟩:=hs;rw[s1];simp only;have e3:L.mu v 1=L.b1 v:=if_pos rfl;have B:=h.fin;have ar:L.b1 v<=L.mu v (2*L.M):=by rw[<-e3];exact yz h (nL _) oM (nL _)
 have ad:Wp p.l:=kI (tu dp ip j oM);have ag:Wp q.l:=kI (tu dq iq j oM);obtain⟨s',es,ab⟩:=NI I hv ad ag dp.lo dq.lo pp pq s1;have a4:s=s':=MP.eq_of es;subst a4;have a6:g*s∣a:=by rw[N];exact mul_dvd hg.i.l ab.l
 have g0:=dvd_ne K hg.i.l
 have ig:In L.bE g:=by obtain⟨O,h2⟩:=zK h da.lo (D a da) J (a.deg v).toNat;have h3:g∣a.lc v:=dvd_trans hg.i.l ((dvd_iff_co x2.f a).1 x2.d _);exact(rD h (hg.n g0) (lc_ne C v) h3 O h2).2.mono k
 have im:=ig.mul s2;have dm:Dg (dN v L.d L.M) (g*s):=da.dvd C a6;have hw:=NN (tu dm im j B);have ac:g1 (aX g.l s.l)=some (g*s).l:=hw;rw[ac];exact⟨_,qy dm im j B⟩
theorem NW{b:Nat}(hb:b<LB){d:Nat->Nat}(hd:∀w,w<4->d w=0)(n:Nat):PP d b (wJ (n+1)):=λx y j m q s=>by
 have i:bx d<=10000:=by unfold bx;rw[hd 0,hd 1,hd 2,hd 3]<;>omega
 have hc:∀z:MP,Dg d z->z.l≠[]->lu z.l=true:=λz dz hz=>by
  have p:z.lo 0:=λw _ k=>by have:=dz w k;rw[hd w k]at this;exact this
  obtain⟨r,rfl⟩:=ku p;have e:(c r).l=bZ r:=rfl;rw[e]at hz ⊢;unfold bZ at hz ⊢;split
  ·rename_i h;rw[if_pos h]at hz;exact absurd rfl hz
  ·rfl
 show ∃r,Az (wJ n) x.l y.l=some r;unfold Az;split
 ·exact⟨_,qy m s i hb⟩
 rename_i o;split
 ·exact⟨_,qy j q i hb⟩
 rw[if_pos (.inl (hc x j o))];exact⟨_,rfl⟩
theorem PP.mono{d d':Nat->Nat}{b e:Nat}{G:List ai->List ai->Option (List ai)}(h:PP d b G)(hd:∀w,d' w<=d w)(hb:e<=b):PP d' e G:=λx y i j k l=>h x y (i.mono hd) (j.mono hd) (k.mono hb) (l.mono hb)
def Yg (L:Nat->nD):Nat->Prop
 | 0=>qA 0 (L 0)
 | v+1=>qA (v+1) (L (v+1))/\(L (v+1)).E<=(L v).d/\(L (v+1)).E<=(L v).M/\(L (v+1)).bE<=(L v).b/\Yg L v
theorem Mi{L:Nat->nD}:∀(v:Nat),Yg L v->∀n,PP (dN v (L v).d (L v).M) (L v).b (wJ (n+v+2))
 | 0,h,n=>by
  have k:qA 0 (L 0):=h;have hz:∀w,w<4->dN 0 (L 0).E 0 w=0:=λw _=>by unfold dN;rw[if_neg oM];split<;>rfl
  have hb:(L 0).bE<LB:=by have:=k.fin;omega
  exact NV k (yA (n+1)) (NW hb hz n) (NW hb hz (n+1))
 | v+1,h,n=>by
  obtain⟨p,q,r,l,m⟩:=h
  have hd:∀w,dN (v+1) (L (v+1)).E 0 w<=dN v (L v).d (L v).M w:=λw=>by
   unfold dN;by_cases e:w<v
   ·rw[if_pos oM,if_pos e];exact q
   ·by_cases i:w=v
    ·rw[if_pos oM,if_neg e,if_pos i];exact r
    ·rw[if_neg oM,if_neg e,if_neg i];split<;>exact nL _
  have g1:=(Mi v m n).mono hd l;have j:=(Mi v m (n+1)).mono hd l;have e1:n+(v+1)+2=(n+v+2)+1:=oM;have o:n+1+v+2=(n+v+2)+1:=oM;rw[o]at j;rw[e1];exact NV p (yA _) g1 j
end Q
end
section
namespace Q
open MP Go.Proofs.YtopclbeomcggiaaGreat
def XJ (n:Nat):Nat:=n.log2+1
def kb (d:Nat):Nat:=d*(XJ (4*d+3)+XJ (2*d+1))
def YH (v M d b E br P:Nat):nD where
 M:=M
 d:=d
 b:=b
 E:=E
 br:=br
 kE:=v*kb E
 k0:=v*kb d+kb M
 lM:=XJ M
 P:=P
 R:=λU=>if v=0 then 1 else 2*U*d+1
 l2:=λU=>XJ (2*U*(if v=0 then 1 else 2*U*d+1)^v)
 xi:=λU=>(XJ (2*U*(if v=0 then 1 else 2*U*d+1)^v)+(if v=0 then b else b+(b+(v*kb d+kb M))))*((U-1)*((if v=0 then 1 else 2*U*d+1)+d)^v)/(U*(if v=0 then 1 else 2*U*d+1)^v-(U-1)*((if v=0 then 1 else 2*U*d+1)+d)^v)+1
 kap:=λU=>v*kb ((if v=0 then 1 else 2*U*d+1)-1+d)+kb M
def YR (v:Nat) (L:nD):Bool :=
 decide (v<4)&&decide (L.M<=2^L.lM)&&decide (uH (dN v L.d L.M) (v+1)<=2^L.k0)&&decide (uH (dN v L.E 0) v<=2^L.kE)
 && decide (∀U,U<2*L.M->1<=U->L.mu v U<=L.mu v (U+1))
 && decide (∀U,U<2*L.M+1->2<=U->0<L.R U/\2*U*L.R U^v<=2^L.l2 U/\(L.l2 U+L.b1 v+L.xi U)*((U-1)*(L.R U+L.d)^v)<L.xi U*(U*L.R U^v)/\uH (dN v (L.R U-1+L.d) L.M) (v+1)<=2^L.kap U)
 && decide ((L.M+1)*(1*L.d)<=L.P/\(L.M+1)*(L.b1 v+1)+L.lM<LB)
 && decide (∀k,k<L.M+1->2<=k->(k+1)*(L.U k*L.d)<=L.P/\(k+1)*(L.mu v (L.U k)+1)+L.lM<LB)
 && decide ((L.M+1)*(L.P+1)^v<=10000)&&decide (L.M*(1*L.d)<=L.E/\L.M*(L.b1 v+1)+L.lM<=L.br)
 && decide (∀k,k<L.M+1->3<=k->k*(L.U k*L.d)<=L.E/\k*(L.mu v (L.U k)+1)+L.lM<=L.br)
 && decide (L.d<=L.E/\L.b<=L.br/\L.E<=L.P/\1<=L.M)&&decide (L.br+L.mu v (2*L.M)+L.cz v L.br<LB)&&decide (L.b1 v+L.cz v L.b<LB)
 && decide (bx (Um v L.d (Sk v L.d L.M))<=10000/\L.b1 v+L.b1 v+(bx (Um v L.d (Sk v L.d L.M))+1)*(L.b1 v+1)<LB)
 && decide (L.bE+L.mu v (2*L.M)<LB)&&decide (L.M+1<fuel)
theorem Mj{v:Nat}{L:nD}(h:YR v L=true):qA v L:=by simp only[YR,Bool.and_eq_true,decide_eq_true_eq]at h;obtain⟨⟨⟨⟨⟨⟨⟨⟨⟨⟨⟨⟨⟨⟨⟨⟨n,o⟩,p⟩,q⟩,r⟩,s⟩,u⟩,x⟩,y⟩,b⟩,d⟩,e⟩,i⟩,j⟩,k⟩,l⟩,m⟩:=h;exact⟨n,o,p,q,r,s,u,x,y,b,d,e,i,j,k,l,m⟩
def L8:Nat->nD
 | 0=>YH 0 320 320 136492 16486400 7033665291 16589440
 | 1=>YH 1 8 8 712 320 129772 400
 | _=>YH 2 2 4 90 8 536 24
theorem YI:qA 0 (L8 0):=Mj dK
theorem YJ:qA 1 (L8 1):=Mj dK
theorem YK:qA 2 (L8 2):=Mj dK
theorem UZ:Yg L8 2:=⟨YK,dK,dK,dK,YJ,dK,dK,dK,YI⟩
def D8:Nat->Nat:=dN 2 4 2
theorem Wu{a b:MP}(da:Dg D8 a)(e:Dg D8 b)(h:In 90 a)(i:In 90 b):∃g:MP,wJ 6 a.l b.l=some g.l/\NG g a b:=by obtain⟨r,d⟩:=Mi 2 UZ 2 a b da e h i;obtain⟨g,rfl,hg⟩:=yA 6 a b r d;exact⟨g,d,hg⟩
structure Dm (p:MP):Prop where
 e:∀t∈p.l,(0<=t.1.1/\t.1.1<=2)/\(0<=t.1.2.1/\t.1.2.1<=2)/\(0<=t.1.2.2.1/\t.1.2.2.1<=1)/\t.1.2.2.2=0
 i:qO 1 15 p
def Wv (L:List AA):MP:=⟨wL L,fA _⟩
theorem yB(L:List AA):Dm (Wv L):=by
 have hb:=(Dn L).canon;refine⟨lw (P:=λe=>(0<=e.1/\e.1<=2)/\(0<=e.2.1/\e.2.1<=2)/\(0<=e.2.2.1/\e.2.2.1<=1)/\e.2.2.2=0) λt h=>?_,hb.d,?_⟩
 ·obtain⟨s,i,rfl⟩:=List.mem_map.1 h;show(0<=s.1%256%3/\s.1%256%3<=2)/\(0<=s.2.1%256%3/\s.2.1%256%3<=2)/\(0<=s.2.2.1%256%2/\s.2.2.1%256%2<=1)/\(0:Int)=0;omega
 ·rw[show((1:Nat):Rat)=1 from rfl,Rat.one_mul];exact hb.b
structure Dq (H:Nat) (p:MP):Prop where
 d:Dg D8 p
 i:qO 1 H p
theorem Sl:D8 0=4/\D8 1=4/\D8 2=2/\D8 3=0:=dM
theorem Dm.deg{p:MP}(h:Dm p):p.deg 0<=2/\p.deg 1<=2/\p.deg 2<=1/\p.deg 3<=0:=by
 have d:∀(w:Nat)(k:Int),0<=k->(∀t∈p.l,t.1.get w<=k)->p.deg w<=k:=λw k i h=>by
  rcases(fQ (λt=>t.1.get w) p.l (-1)).2.2 with e|⟨t,b,e⟩
  ·show aD p.l w<=_;unfold aD;rw[e];omega
  ·show aD p.l w<=_;unfold aD;rw[<-e];exact h t b
 exact⟨d 0 2 oM λt b=>by have:=h.e t b;show t.1.1<=_;omega,d 1 2 oM λt b=>by have:=h.e t b;show t.1.2.1<=_;omega,
  d 2 1 oM λt b=>by have:=h.e t b;show t.1.2.2.1<=_;omega,d 3 0 oM λt b=>by have:=h.e t b;show t.1.2.2.2<=_;omega⟩
theorem Dm.mul{p q:MP}(h:Dm p)(b:Dm q):Dq 225 (p*q):=by
 obtain⟨d,e,j,k⟩:=h.deg;obtain⟨b0,b1,l,m⟩:=b.deg;obtain⟨e0,e1,n,o⟩:=Sl;refine⟨λw r=>?_,h.i.mul b.i⟩;obtain rfl|rfl|rfl|rfl:w=0\/w=1\/w=2\/w=3:=oM
 ·rw[e0];exact bT 0 p q d b0 oM
 ·rw[e1];exact bT 1 p q e b1 oM
 ·rw[n];exact bT 2 p q j l oM
 ·rw[o];exact bT 3 p q k m oM
theorem XK{p:MP}(h:Dg D8 p):p.lo 3:=h.lo
theorem XL:uH D8 3<=2^72:=dK
theorem XM:bx D8=75:=dK
theorem Dq.in{H b:Nat}{p:MP}(h:Dq H p)(hb:H<=2^b):In b p:=⟨1,H,oM,Nat.one_le_two_pow,hb,h.i⟩
theorem Uo{x:Rat}(h:Dv 1 x)(b:x≠0):1<=bH x:=by obtain⟨z,rfl⟩:=iI h;exact MP.rabs_int λe=>b (by rw[e];rfl)
theorem Mk{H:Nat}{f g q:MP}(h:Dq H f)(f0:f≠0)(e:f=g*q)(hg:hd g=1):∃z:Nat,0<z/\z<=H/\qO z (2^72*H) g/\qO 1 (z*(2^72*H)) q:=by
 have E:g≠0:=λh=>f0 (by rw[e,h];grind);have O:q≠0:=λh=>f0 (by rw[e,h];grind);obtain⟨r,j,hp⟩:=RH E;have M:c r*c r⁻¹=1:=by rw[mg,Rat.mul_inv_cancel _ j];rfl
 have s:r⁻¹≠0:=λh=>by have:=Rat.mul_inv_cancel _ j;rw[h]at this;grind
 have k:f=(c r*g)*(c r⁻¹*q):=by rw[e];grind
 have C:=LW h.i.d hp k;have m:c r⁻¹*q≠0:=mul_ne (wN s) O;have l:c r*g≠0:=mul_ne (wN j) E;have b:f.am<=(H:Rat):=by have:=h.i.a;rwa[show((1:Nat):Rat)=1 from rfl,Rat.one_mul]at this
 have G:∀x y:MP,f=x*y->x.dv 1->y.dv 1->qO 1 (2^72*H) x:=λx y e I N=>by refine⟨I,?_⟩;have:=MP.fac D8 3 oM _ _ _ e f0 I N (XK h.d) λw S=>h.d w oM;rw[show((1:Nat):Rat)=1 from rfl,Rat.one_mul,Rat.natCast_mul];exact Rat.le_trans this (qC (Ak XL) b (bQ _) (bQ _))
 have K:=G _ _ k hp.1 C;obtain⟨z,R,D,W,J⟩:=K.nrm oM l;rw[yt j,Bc hg]at J;rw[show((1:Nat):Rat)=1 from rfl,Rat.one_mul]at D;have n:hd f=hd (c r*g)*hd (c r⁻¹*q):=by rw[k,Hd l m]
 have p:1<=bH (hd (c r⁻¹*q)):=by obtain⟨t,u,o⟩:=zI m;exact Uo (by rw[o];exact C t u) (vN m)
 have B:z<=H:=by refine Rat.natCast_le_natCast.1 ?_;rw[D];have F:=Rat.mul_le_mul_of_nonneg_left p (fM (hd (c r*g)));rw[<-jK,<-n,Rat.mul_one]at F;exact Rat.le_trans F (Rat.le_trans (NJ f0) b)
 refine⟨z,R,B,J,?_⟩;have L:=G _ _ (k.trans (jI _ _)) C hp.1;have nY:hd (c r*g)=r:=by rw[sS j,hg,Rat.one_mul]
 have eq:q=c r*(c r⁻¹*q):=gR
 have ir:Dv 1 r:=by obtain⟨t,u,o⟩:=zI l;rw[<-nY,o];exact hp.1 t u
 have i1:qO 1 z (c r):=⟨Pd ir,by rw[Je,show((1:Nat):Rat)=1 from rfl,Rat.one_mul,D,nY];exact Rat.le_refl⟩;have:=i1.mul L;rw[<-eq,Nat.one_mul]at this;exact this
def JS (D:Nat):Sz:=⟨D,2^200,4,75⟩
theorem Sm{D H:Nat}{p:MP}(h:qO D H p)(r:0<D)(hd:Dg D8 p)(s:H<=2^200):Bd (JS D) p.l:=by
 refine⟨by have:=hd.len;rw[XM]at this;exact this,λt m=>?_,h.d,?_⟩
 ·have b:=(hd.inB t m).2;have u:=Ex.nat_iff.1 (hd.inB t m).1;obtain⟨e0,e1,n,o⟩:=Sl;have e:=b 0 oM;have i:=b 1 oM;have j:=b 2 oM;have k:=b 3 oM;rw[e0]at e;rw[e1]at i;rw[n]at j;rw[o]at k;simp only[Ex.get]at e i j k;simp only[JS];omega
 ·have b:p.am<=(D:Rat)*p.am:=by
   have q:(1:Rat)<=(D:Rat):=qp r;have:=Rat.mul_le_mul_of_nonneg_right q p.am_nonneg;rwa[Rat.one_mul]at this
  exact Rat.le_trans b (Rat.le_trans h.a (Ak s))
theorem Ml{D:Nat}(h:0<D)(b:D<65536):(JS D).ok:=⟨h,b,by show 2^200<2^1000;exact V5,by show 4<1000000;omega,by show 75<1000000;omega⟩
theorem NY{H:Nat}{f g:MP}(h:Dq H f)(j:H<=225)(f0:f≠0)(hd:g∣f)(hg:Q.hd g=1):∃z,0<z/\z<=H/\Pk (JS z) g.l:=by obtain⟨q,e⟩:=hd;obtain⟨z,b,k,m,-⟩:=Mk h f0 e hg;have i:=Nat.mul_le_mul_left (2^72) j;exact⟨z,b,k,g.v,Sm m b (h.d.dvd f0 ⟨q,e⟩) (Nat.le_trans i dK),Ml b oM⟩
theorem Be:Pk (JS 1) (0:MP).l:=⟨(0:MP).v,Bd.nil _,Ml oM oM⟩
theorem XN{H:Nat}{a b g:MP}(ha:Dq H a)(hb:Dq H b)(k:H<=225)(hg:NG g a b):∃z,0<z/\z<=225/\Pk (JS z) g.l:=by
 by_cases d:g=0
 ·rw[d];exact⟨1,oM,oM,Be⟩
 ·by_cases j:a=0
  ·by_cases b0:b=0
   ·exact absurd (zero_dvd (hg.i.u 0 (by rw[j];exact dvd_refl 0) (by rw[b0];exact dvd_refl 0))) d
   ·obtain⟨z,e,m,h⟩:=NY hb k b0 hg.i.r (hg.n d);exact⟨z,e,oM,h⟩
  ·obtain⟨z,e,m,h⟩:=NY ha k j hg.i.l (hg.n d);exact⟨z,e,oM,h⟩
theorem Yh{p:MP}(hd:Dg D8 p)(b:In 90 p):Wp p.l:=kI (tu hd b (by rw[XM];omega) (by rw[CW];omega))
theorem XO{p:MP}(hd:Dg D8 p)(b:In 90 p):jT p.l=some (nrm p).l:=qy hd b (by rw[XM];omega) (by rw[CW];omega)
theorem YL:2^72*225<=2^90:=dK
theorem Dq.in90{H:Nat}{p:MP}(h:Dq H p)(b:H<=225):In 90 p:=h.in (Nat.le_trans b dK)
theorem Sn{H:Nat}{f g:MP}(h:Dq H f)(b:H<=225)(f0:f≠0)(hd:g∣f)(hg:Q.hd g=1):Dg D8 g/\In 90 g:=by obtain⟨q,e⟩:=hd;obtain⟨z,j,k,l,-⟩:=Mk h f0 e hg;have i:=Nat.mul_le_mul_left (2^72) b;exact⟨h.d.dvd f0 ⟨q,e⟩,z,_,j,Nat.le_trans (Nat.le_trans k b) dK,Nat.le_trans i YL,l⟩
theorem NZ:Dg D8 (0:MP)/\In 90 (0:MP):=⟨λw _=>by rw[deg_zero];omega,In.zero _⟩
theorem NG.eq2{g h a b:MP}(hg:NG g a b)(j:NG h a b):g=h:=by
 have k:=j.i.u g hg.i.l hg.i.r;have m:=hg.i.u h j.i.l j.i.r;by_cases d:g=0
 ·rw[d]at k ⊢;exact(zero_dvd k).symm
 ·have o:h≠0:=λe=>d (by rw[e]at m;exact zero_dvd m);exact Ma d k m (hg.n d) (j.n o)
structure An (a b g:MP):Prop where
 e:wJ 6 a.l b.l=some g.l
 wa:Wp a.l
 wb:Wp b.l
theorem XP{a b g:MP}(da:Dg D8 a)(d:Dg D8 b)(i:In 90 a)(j:In 90 b)(hg:NG g a b):An a b g:=by obtain⟨h,e,k⟩:=Wu da d i j;rw[k.eq2 hg]at e;exact⟨e,Yh da i,Yh d j⟩
end Q
end
section
namespace Go.Proofs.YtopclbeomcggiaaGreat
open Go.RowKit Q
theorem Uq{a b g:MP}(h:An a b g)(W:World)(u v:Value)(d:ak W u a.l)(i:ak W v b.l):Calls Tryz.prog 16 #[u,v] W (aS W g.l) :=
 (nV 6 _ _ _ h.wa h.wb h.e).1 u v W d i
end Go.Proofs.YtopclbeomcggiaaGreat
end
