/- The reference's integers: Add, Sub. -/
import Derived.Test.YtopclbeomcggiaaGreatW21
set_option linter.unusedVariables false
set_option linter.unusedSimpArgs false
set_option maxHeartbeats 16000000
set_option maxRecDepth 100000
namespace Q
open Go Go.RowKit Go.Proofs.YtopclbeomcggiaaGreat
def af.lim {g:Option Nat} {T:TypeId} (hT:uT≠T) (z:Int) (n:Nat):af (Lr g T):=af.of (λv w=>∃l,cO w v l/\ah l=z/\l.length<=n) (λ_ _ _ hb ⟨l,h,e⟩=>⟨l,h.lr hb hT,e⟩)
end Q
namespace Go.Proofs.YtopclbeomcggiaaGreat
open Go.RowKit Q
theorem Gh{w:World}{v:Value}{z:Int}{n:Nat}(h:∃l,cO w v l/\ah l=z/\l.length<=n)(d:n<=1000000000)(neg:Bool):Calls Tryz.prog 103 #[v,.bool neg] w (kV w (fZ neg z)):=by obtain⟨l,hu,rfl,b⟩:=h;exact iB neg v l w hu oM
theorem xq(n1 n2:Bool)(m1 m2:Value)(z1 z2:Int)(w:World)(h1:aZ w n1 m1 z1)(h2:aZ w n2 m2 z2)(c1:aF z1.natAbs<=CS)(c2:aF z2.natAbs<=CS) :
  Calls Tryz.prog 108 #[.agg #[.bool n1,m1],.agg #[.bool n2,m2]] w (kV w (z1+z2)):=by
 obtain⟨l1,ao1,cap1,rfl,hc1,b1,u1,L1,mm1,nn1,hp1,e1⟩:=h1.openS c1;obtain⟨l2,ao2,cap2,rfl,hc2,b2,u2,L2,mm2,nn2,hp2,e2⟩:=h2.openS c2;clear hc1 hc2 mm1 mm2 h1 h2 c1 c2 hp1 hp2;by_cases o:n1=n2
 ·subst o;have e:z1+z2=fZ n1 (ah l1+ah l2):=by rw[e1,e2];cases n1<;>simp[fZ]<;>omega
  rw[e];clear e e1 e2;have n:(n1==n1)=true:=sM
  go_enter Tryz.func108,Tryz.ntmps108
  go_upto_region 1 with (fail)
  refine rG λW hb0 B1 B2 B3 m=>?_;have x1:=B1.at1 0 _ rfl;have x2:=B2.at1 0 _ rfl
  go_upto_region 2 with (fail)
  refine aC mixed (none) (0) (fK.none) [.eq (.pointer (some ⟨w.heap.size,1,none⟩)),.eq (.slice ao1 l1.length cap1),.eq (.pointer (some ⟨w.heap.size+1,1,none⟩)),.eq (.slice ao2 l2.length cap2),.lim dM (ah l1+ah l2) 600000000,.eq (.pointer (some ⟨w.heap.size,0,none⟩)),.eq (.bool n1),.int dM ((fZ n1 (ah l1+ah l2)))] [10,11,12,13,14,15,16,17] rfl rfl rfl rfl ⟨λA _ hA _ _ _=>have h2:A.eval (.tmp 2)=.pointer (some ⟨w.heap.size,0,none⟩):=hA 2 rfl;pZ rfl,λA _ _ hL _ he=>have hb:=hL.below;have h10:=eT 10 (he.1 rfl);have c0:=((B1).on hb).at1 1 _ rfl;pZ rfl,λA _ hA _ _ _=>have h3:A.eval (.tmp 3)=.pointer (some ⟨w.heap.size+1,0,none⟩):=hA 3 rfl;pZ rfl,λA _ _ hL _ he=>have hb:=hL.below;have h12:=eT 12 (he.1 rfl);have c0:=((B2).on hb).at1 1 _ rfl;pZ rfl,?_,λA _ hA _ _ _=>have h2:A.eval (.tmp 2)=.pointer (some ⟨w.heap.size,0,none⟩):=hA 2 rfl;pZ rfl,λA _ _ hL _ he=>have hb:=hL.below;have h15:=eT 15 (he.1 rfl);have c0:=((B1).on hb).at1 0 _ rfl;pZ rfl,?_,trivial⟩ ?_
  ·intro A w1 hA hL hS he;have hb:=hS rfl;have h11:=eT 11 (he.1 rfl);have h13:=eT 13 (he.2.1 rfl);have hf0:=eF A 125;refine ae rfl ?_;refine dI (f:=125) (args:=#[.slice ao1 l1.length cap1,.slice ao2 l2.length cap2]) rfl rfl ?_ ?_
   ·exact gZ
   ·refine(OB _ _ l1 l2 _ ((u1.on hb0).on hb) ((u2.on hb0).on hb) oM oM).mono ?_;rintro e w' ⟨v,l,rfl,hu,hp,i⟩;exact⟨_,rfl,i,l,hu,hp.1,oM⟩
  ·intro A w1 hA hL hS he;have hb:=hS rfl;obtain⟨v14,h14,f14⟩:=fT 14 (he.1 rfl);have h16:=eT 16 (he.2.1 rfl);have hf0:=eF A 103;exact cP (f:=103) (args:=#[v14,.bool n1]) (Gh f14 oM n1)
  ·intro W2 hL2;have hb2:=hL2.below;simp only[aT,af.eq,af.ret,af.int,af.lim,af.of,lZ];rintro _ - _ ⟨n7,m7,rfl,i7⟩;go_frame;have b:=B3.on hb2
   go_wp2_with (refine az rfl _ (.tmp 4) (.tmp 17) rfl _ _ _ _ rfl rfl b rfl aK i7.ones ?_;intro w3 R k)
   exact dH rfl rfl rfl R Tryz.underlying39 rfl aK (jb hb0 hb2 oM b i7 k)
 ·have n:(n1==n2)=false:=by simpa using o
  have HL1:=λW (hb:Below w.heap.size w W)=>xm _ _ l1 l2 W (u1.on hb) (u2.on hb) oM oM nn1 nn2
  go_enter Tryz.func108,Tryz.ntmps108
  go_upto_region 1 with (fail)
  refine rG λW hb0 B1 B2 B3 m=>?_;have x1:=B1.at1 0 _ rfl;have x2:=B2.at1 0 _ rfl;have x3:=B1.at1 1 _ rfl;have x4:=B2.at1 1 _ rfl
  go_upto_region 3 with (fail)
  by_cases j:ah l1<ah l2
  ·simp only[j,decide_true]at HL1;have e:z1+z2=fZ n2 (ah l2-ah l1):=by rw[e1,e2];cases n1<;>cases n2<;>simp[fZ]at *<;>omega
   replace e:=zH e;clear e1 e2;have d:=iU L2 L1 nn1 oM
   go_upto_region 4 with (go_at_call 102;refine(HL1 W hb0).mono ?_;rintro en w1 ⟨rfl,hb1⟩)
   have hb01:=hb0.trans (hb1.mono hb0.size);replace B1:=B1.on hb1;replace B2:=B2.on hb1;replace B3:=B3.on hb1;refine aC mixed (none) (0) (fK.none) [.eq (.pointer (some ⟨w.heap.size+1,1,none⟩)),.eq (.slice ao2 l2.length cap2),.eq (.pointer (some ⟨w.heap.size,1,none⟩)),.eq (.slice ao1 l1.length cap1),.lim dM (ah l2-ah l1) 600000000,.eq (.pointer (some ⟨w.heap.size+1,0,none⟩)),.eq (.bool n2),.int dM ((fZ n2 (ah l2-ah l1)))] [23,24,25,26,27,28,29,30] rfl rfl rfl rfl ⟨λA _ hA _ _ _=>have h3:A.eval (.tmp 3)=.pointer (some ⟨w.heap.size+1,0,none⟩):=hA 3 rfl;pZ rfl,λA _ _ hL _ he=>have hb:=hL.below;have h23:=eT 23 (he.1 rfl);have c0:=((B2).on hb).at1 1 _ rfl;pZ rfl,λA _ hA _ _ _=>have h2:A.eval (.tmp 2)=.pointer (some ⟨w.heap.size,0,none⟩):=hA 2 rfl;pZ rfl,λA _ _ hL _ he=>have hb:=hL.below;have h25:=eT 25 (he.1 rfl);have c0:=((B1).on hb).at1 1 _ rfl;pZ rfl,?_,λA _ hA _ _ _=>have h3:A.eval (.tmp 3)=.pointer (some ⟨w.heap.size+1,0,none⟩):=hA 3 rfl;pZ rfl,λA _ _ hL _ he=>have hb:=hL.below;have h28:=eT 28 (he.1 rfl);have c0:=((B2).on hb).at1 0 _ rfl;pZ rfl,?_,trivial⟩ ?_
   ·intro A w1 hA hL hS he;have hb:=hS rfl;have h24:=eT 24 (he.1 rfl);have h26:=eT 26 (he.2.1 rfl);have hf0:=eF A 126;refine ae rfl ?_;refine dI (f:=126) (args:=#[.slice ao2 l2.length cap2,.slice ao1 l1.length cap1]) rfl rfl ?_ ?_
    ·exact gZ
    ·refine(Cj _ _ l2 l1 _ ((u2.on hb01).on hb) ((u1.on hb01).on hb) oM d oM).mono ?_;rintro e w' ⟨v,l,rfl,hu,hp,i⟩;exact⟨_,rfl,i,l,hu,hp.1,oM⟩
   ·intro A w1 hA hL hS he;have hb:=hS rfl;obtain⟨v27,h27,f27⟩:=fT 27 (he.1 rfl);have h29:=eT 29 (he.2.1 rfl);have hf0:=eF A 103;exact cP (f:=103) (args:=#[v27,.bool n2]) (Gh f27 oM n2)
   ·intro W2 hL2;have hb2:=hL2.below;simp only[aT,af.eq,af.ret,af.int,af.lim,af.of,lZ];rintro _ - _ ⟨n7,m7,rfl,i7⟩;go_frame;have b:=B3.on hb2
    go_wp2_with (refine az rfl _ (.tmp 4) (.tmp 30) rfl _ _ _ _ rfl rfl b rfl aK i7.ones ?_;intro w3 R k)
    exact dH rfl rfl rfl R Tryz.underlying39 rfl aK (by rw[e.out];exact jb hb01 hb2 oM b i7 k)
  ·simp only[j,decide_false]at HL1;have e:z1+z2=fZ n1 (ah l1-ah l2):=by rw[e1,e2];cases n1<;>cases n2<;>simp[fZ]at *<;>omega
   replace e:=zH e;clear e1 e2;have d:=iU L1 L2 nn2 oM
   go_upto_region 5 with (go_at_call 102;refine(HL1 W hb0).mono ?_;rintro en w1 ⟨rfl,hb1⟩)
   have hb01:=hb0.trans (hb1.mono hb0.size);replace B1:=B1.on hb1;replace B2:=B2.on hb1;replace B3:=B3.on hb1;refine aC mixed (none) (0) (fK.none) [.eq (.pointer (some ⟨w.heap.size,1,none⟩)),.eq (.slice ao1 l1.length cap1),.eq (.pointer (some ⟨w.heap.size+1,1,none⟩)),.eq (.slice ao2 l2.length cap2),.lim dM (ah l1-ah l2) 600000000,.eq (.pointer (some ⟨w.heap.size,0,none⟩)),.eq (.bool n1),.int dM ((fZ n1 (ah l1-ah l2)))] [31,32,33,34,35,36,37,38] rfl rfl rfl rfl ⟨λA _ hA _ _ _=>have h2:A.eval (.tmp 2)=.pointer (some ⟨w.heap.size,0,none⟩):=hA 2 rfl;pZ rfl,λA _ _ hL _ he=>have hb:=hL.below;have h31:=eT 31 (he.1 rfl);have c0:=((B1).on hb).at1 1 _ rfl;pZ rfl,λA _ hA _ _ _=>have h3:A.eval (.tmp 3)=.pointer (some ⟨w.heap.size+1,0,none⟩):=hA 3 rfl;pZ rfl,λA _ _ hL _ he=>have hb:=hL.below;have h33:=eT 33 (he.1 rfl);have c0:=((B2).on hb).at1 1 _ rfl;pZ rfl,?_,λA _ hA _ _ _=>have h2:A.eval (.tmp 2)=.pointer (some ⟨w.heap.size,0,none⟩):=hA 2 rfl;pZ rfl,λA _ _ hL _ he=>have hb:=hL.below;have h36:=eT 36 (he.1 rfl);have c0:=((B1).on hb).at1 0 _ rfl;pZ rfl,?_,trivial⟩ ?_
   ·intro A w1 hA hL hS he;have hb:=hS rfl;have h32:=eT 32 (he.1 rfl);have h34:=eT 34 (he.2.1 rfl);have hf0:=eF A 126;refine ae rfl ?_;refine dI (f:=126) (args:=#[.slice ao1 l1.length cap1,.slice ao2 l2.length cap2]) rfl rfl ?_ ?_
    ·exact gZ
    ·refine(Cj _ _ l1 l2 _ ((u1.on hb01).on hb) ((u2.on hb01).on hb) oM d oM).mono ?_;rintro e w' ⟨v,l,rfl,hu,hp,i⟩;exact⟨_,rfl,i,l,hu,hp.1,oM⟩
   ·intro A w1 hA hL hS he;have hb:=hS rfl;obtain⟨v35,h35,f35⟩:=fT 35 (he.1 rfl);have h37:=eT 37 (he.2.1 rfl);have hf0:=eF A 103;exact cP (f:=103) (args:=#[v35,.bool n1]) (Gh f35 oM n1)
   ·intro W2 hL2;have hb2:=hL2.below;simp only[aT,af.eq,af.ret,af.int,af.lim,af.of,lZ];rintro _ - _ ⟨n7,m7,rfl,i7⟩;go_frame;have b:=B3.on hb2
    go_wp2_with (refine az rfl _ (.tmp 4) (.tmp 38) rfl _ _ _ _ rfl rfl b rfl aK i7.ones ?_;intro w3 R k)
    exact dH rfl rfl rfl R Tryz.underlying39 rfl aK (by rw[e.out];exact jb hb01 hb2 oM b i7 k)
theorem Iz(n1 n2:Bool)(m1 m2:Value)(z1 z2:Int)(w:World)(h1:aZ w n1 m1 z1)(h2:aZ w n2 m2 z2)(c1:aF z1.natAbs<=CS)(c2:aF z2.natAbs<=CS) :
  Calls Tryz.prog 140 #[.agg #[.bool n1,m1],.agg #[.bool n2,m2]] w (kV w (z1-z2)):=by
 obtain⟨a1,k1,q1,rfl,-,-⟩:=h1.shape;obtain⟨a2,k2,q2,rfl,-,-⟩:=h2.shape;have c3:aF (-z2).natAbs<=CS:=by rw[Int.natAbs_neg];exact c2
 rw[Int.sub_eq_add_neg]
 go_enter Tryz.func140,Tryz.ntmps140
 go_upto_region 1 with (fail)
 refine rG λW hb0 B1 B2 B3 k=>?_;refine aC mixed (none) (0) (fK.none) [.eq (.agg #[.bool n1,.slice a1 k1 q1]),.eq (.agg #[.bool n2,.slice a2 k2 q2]),.int dM ((-z2)),.int dM ((z1+-z2))] [5,6,7,8] rfl rfl rfl rfl ⟨λA _ hA hL _ _=>have hb:=hL.below;have h2:A.eval (.tmp 2)=.pointer (some ⟨w.heap.size,0,none⟩):=hA 2 rfl;have c0:=((B1).on hb).at1 0 _ rfl;have c1:=((B1).on hb).at1 1 _ rfl;pZ rfl,λA _ hA hL _ _=>have hb:=hL.below;have h3:A.eval (.tmp 3)=.pointer (some ⟨w.heap.size+1,0,none⟩):=hA 3 rfl;have c0:=((B2).on hb).at1 0 _ rfl;have c1:=((B2).on hb).at1 1 _ rfl;pZ rfl,λA _ _ _ hS he=>have hb:=hS rfl;have h6:=eT 6 (he.1 rfl);have hf0:=eF A 124;cP (f:=124) (args:=#[.agg #[.bool n2,.slice a2 k2 q2]]) (xh _ _ _ _ ((h2.on hb0).on hb) c2),?_,trivial⟩ ?_
 ·intro A w1 hA hL hS he;have hb:=hS rfl;have h5:=eT 5 (he.1 rfl);obtain⟨v7,h7,f7⟩:=fT 7 (he.2.1 rfl);have hf0:=eF A 108;refine ae rfl ?_;refine dI (f:=108) (args:=#[.agg #[.bool n1,.slice a1 k1 q1],v7]) rfl rfl ?_ ?_
  ·exact gZ
  ·obtain⟨n7,m7,rfl,i7⟩:=f7;refine(xq _ _ _ _ _ _ _ ((h1.on hb0).on hb) i7 c1 c3).mono ?_;rintro e w' ⟨neg,m,rfl,j,d⟩;exact⟨_,rfl,d,neg,m,rfl,j⟩
 ·intro W2 hL2;have hb2:=hL2.below;simp only[aT,af.eq,af.ret,af.int,af.lim,af.of,lZ];rintro _ - _ ⟨n7,m7,rfl,i7⟩;go_frame;have b:=B3.on hb2
  go_wp2_with (refine az rfl _ (.tmp 4) (.tmp 8) rfl _ _ _ _ rfl rfl b rfl aK i7.ones ?_;intro w3 R i)
  exact dH rfl rfl rfl R Tryz.underlying39 rfl aK (jb hb0 hb2 oM b i7 i)
def oF (A B:List Int) (i:Nat) (xs:List Int):Prop :=
 xs.length=A.length+B.length+1/\aG xs/\ah xs=ah (A.take i)*ah B/\∀j,i+B.length<=j->xs.getD j 0=0
def vO (A B:List Int) (i k:Nat) (xs:List Int) (c:Int):Prop :=
 xs.length=A.length+B.length+1/\aG xs/\0<=c/\c<4294967296/\k<=B.length+1/\(k=B.length+1->c=0)/\(k<=B.length->xs.getD (i+B.length) 0=0) /\
  ah xs+bv^(i+k)*c=ah (A.take i)*ah B+bv^i*(A.getD i 0*ah (B.take k))/\∀j,i+B.length<j->xs.getD j 0=0
theorem oF.start(A B:List Int):oF A B 0 (List.replicate (A.length+B.length+1) 0) :=
 ⟨sM,jl _,by simp[ah,mO],λj _=>by
  rw[List.getD_eq_getElem?_getD,List.getElem?_replicate];split<;>rfl⟩
theorem oF.inner{A B:List Int}{i:Nat}{b:List Int}(h:oF A B i b):vO A B i 0 b 0 :=
 ⟨h.1,h.2.1,oM,oM,oM,oM,λ_=>h.2.2.2 _ (Nat.le_refl _),by rw[h.2.2.1];simp[ah],λj d=>h.2.2.2 j oM⟩
theorem vO.step{A B:List Int}{i k:Nat}{b:List Int}{c:Int}(h:vO A B i k b c)(z:aG A)(LB:aG B)(K:i<A.length)(N:k<B.length\/0<c) :
  vO A B i (k+1) (b.set (i+k) ((c+b.getD (i+k) 0+A.getD i 0*B.getD k 0)%4294967296)) ((c+b.getD (i+k) 0+A.getD i 0*B.getD k 0)/4294967296):=by
 obtain⟨y,n,L,M,I,C,p,J,G⟩:=h;have s:=z.getD i;have o:=LB.getD k;have u:=n.getD (i+k);rw[aP]at s o u;have hp:=prod_bound (A.getD i 0) (B.getD k 0) s.1 oM o.1 oM;have x:=kP B k
 have d:k<=B.length:=by
  rcases Nat.lt_or_ge B.length k with h|h
  ·have:=C oM;omega
  ·exact h
 have l:¬k<B.length->(c+b.getD (i+k) 0+A.getD i 0*B.getD k 0)=c:=λh=>by have e:k=B.length:=oM;rw[x h,e,p d];simp
 refine⟨by simpa using y,fU n _ (by rw[aP];omega),oM,oM,oM,λhe=>?_,λH=>?_,?_,λj E=>by rw[dX _ _ _ _ oM];exact G j E⟩
 ·rw[l oM];omega
 ·rw[dX _ _ _ _ oM];exact p d
 rw[lw _ _ _ oM,aI];have e:=Int.mul_ediv_add_emod (c+b.getD (i+k) 0+A.getD i 0*B.getD k 0) 4294967296;generalize(c+b.getD (i+k) 0+A.getD i 0*B.getD k 0)%4294967296=r at *;generalize(c+b.getD (i+k) 0+A.getD i 0*B.getD k 0)/4294967296=q at *;rw[<-aP]at e;have D:bv^(i+(k+1))=bv^(i+k)*bv:=by rw[<-Nat.add_assoc,Int.pow_succ]
 have F:bv^(i+k)=bv^i*bv^k:=Int.pow_add ..;rw[D];have:bv^(i+k)*(c+b.getD (i+k) 0+A.getD i 0*B.getD k 0)=bv^(i+k)*(bv*q+r):=by rw[e]
 have m:ah b=ah (A.take i)*ah B+bv^i*(A.getD i 0*ah (B.take k))-bv^(i+k)*c:=oM;rw[m];rw[F]at *;generalize bv^i=P at *;generalize bv^k=R at *;grind
theorem vO.done{A B:List Int}{i k:Nat}{b:List Int}(h:vO A B i k b 0)(x:¬k<B.length):oF A B (i+1) b:=by obtain⟨e,d,o,q,r,s,p,m,n⟩:=h;refine⟨e,d,?_,λj u=>n j oM⟩;rw[aI];rw[List.take_of_length_le (l:=B) oM]at m;grind
theorem oF.done{A B:List Int}{b:List Int}(h:oF A B A.length b):ah b=ah A*ah B:=by rw[h.2.2.1,List.take_of_length_le (Nat.le_refl _)]
theorem OC(n1 n2:Bool)(ao1 ao2:Option Addr)(cap1 cap2:Nat)(l lb:List Int)(w:World)(bA:l.length<=499000000)(bB:lb.length<=499000000)(LA:aG l)(LB:aG lb)(mA:At uT w ao1 (uc l))(mB:At uT w ao2 (uc lb)) :
  Calls Tryz.prog 105 #[.agg #[.bool n1,.slice ao1 l.length cap1],.agg #[.bool n2,.slice ao2 lb.length cap2]] w (kV w (fZ (n1 != n2) (ah l*ah lb))):=by
 go_enter Tryz.func105,Tryz.ntmps105
 go_upto_region 1 with (fail)
 refine rG λW hb0 B1 B2 B3 a7=>?_;have c1:=B1.at1 1 _ rfl;have c2:=B2.at1 1 _ rfl
 go_wp2_with (at_make;refine bL rfl _ _ _ rfl _ (.int .u32 0) 1 4 Tryz.underlying37 bD rfl rfl .i64 .i64 _ _ (l.length+lb.length+1) rfl rfl oM oM oM oM ?_;intro w1 own1 gr1;have c3:=(B1.keep gr1 B1.lt).at1 1 _ rfl)
 rw[iM]at own1;clear c1 c2 c3
 go_loopw [6] (λi wr=>∃(k:Nat)(u:List Int),k<=l.length/\i=.int .i64 k/\Hid (oF l lb k u)/\Hid (Blk wr W.heap.size uT (uc u))/\Below W.heap.size W wr) (λi _=>l.length-(intOf i).toNat)
 case atStart=>exact⟨0,_,Nat.zero_le _,rfl,zH (oF.start l lb),zH own1,gr1⟩
 case round =>
  clear own1 gr1;obtain⟨i,u,Z,rfl,hinv,b,hb⟩:=hrel;have d1:=(B1.keep hb B1.lt).at1 1 _ rfl;by_cases D:i<l.length
  ·obtain⟨p1,o1,rfl,S⟩:=mA (by rw[dG];omega);have C:∀w',Below W.heap.size W w'->w'.cell? ⟨p1,o1+i,none⟩=some (.int .u32 (l.getD i 0)):=λw' h=>((S.on hb0).on h).ucell i D;have a1:=(LA.getD i).1;have a4:l.getD i 0<4294967296:=(LA.getD i).2;have HX:Hid (∃x,x=l.getD i 0):=⟨_,rfl⟩;obtain⟨x,Y⟩:=HX.out;rw[<-Y]at C a1 a4;replace Y:=zH Y;clear S HX;go_wp2
   go_loopw [7,8] (λc q wr=>∃(k:Nat)(u:List Int)(I:Int),q=.int .i64 k/\c=.int .u64 I/\Hid (vO l lb i k u I)/\Hid (Blk wr W.heap.size uT (uc u))/\Below W.heap.size W wr) (λ_ q _=>lb.length+1-(intOf q).toNat)
   case atStart=>exact⟨0,u,0,rfl,rfl,zH hinv.out.inner,b,hb⟩
   case round =>
    clear hinv b d1 hb;obtain⟨k,J,I,rfl,rfl,n,b,d⟩:=hrel;have d2:=(B2.keep d B2.lt).at1 1 _ rfl;have q1:=n.out.2.2.1;have q2:=n.out.2.2.2.1;have a8:=n.out.2.2.2.2.1;have HK:=zH n.out.2.2.2.2.2.1;have HL:=zH n.out.1;have s:=b.out.ucell (i+k);have a9:=b.out.frozen (i+k);have F:i+k<J.length↔k<=lb.length\/i+k<l.length+lb.length+1:=by rw[HL.out];omega
    have a2:=(LB.getD k).1;have a0:lb.getD k 0<4294967296:=(LB.getD k).2;have a3:=(n.out.2.1.getD (i+k)).1;have a6:J.getD (i+k) 0<4294967296:=(n.out.2.1.getD (i+k)).2;have p2:=kP lb k;have o:=n.out.step LA LB D;rw[<-Y.out]at o;have j:J.length=l.length+lb.length+1:=HL.out;by_cases r:k<lb.length
    ·obtain⟨B,o2,rfl,M⟩:=mB (by rw[dG];omega);have X:∀w',Below W.heap.size W w'->w'.cell? ⟨B,o2+k,none⟩=some (.int .u32 (lb.getD k 0)):=λw' h=>((M.on hb0).on h).ucell k r;replace s:=s (by rw[j];omega);replace o:=zH (o (.inl r));have p:i+k<J.length:=oM;clear p2 F M j;generalize lb.getD k 0=y at *;generalize J.getD (i+k) 0=z at *;obtain⟨hp0,hp1⟩:=prod_bound x y a1 oM a2 oM;have hlen2:i+k<l.length+lb.length+1:=oM;replace p:=zH p
     go_upto_region 11 with (fail)
     refine aC mixed (none) (0) (fK.none) [.eq (.int .u64 (I+z)),.eq (.pointer (some ⟨w.heap.size,1,none⟩)),.eq (.slice (some ⟨p1,o1,none⟩) l.length cap1),.eq (.int .i64 i),.eq (.pointer (some ⟨p1,o1+i*1,none⟩)),.eq (.int .u32 x),.eq (.int .u64 x),.eq (.pointer (some ⟨w.heap.size+1,1,none⟩)),.eq (.slice (some ⟨B,o2,none⟩) lb.length cap2),.eq (.int .i64 k),.eq (.pointer (some ⟨B,o2+k*1,none⟩)),.eq (.int .u32 y),.eq (.int .u64 y),.eq (.int .u64 (x*y)),.eq (.int .u64 (I+z+x*y))] [50,51,52,53,54,55,56,57,58,59,60,61,62,63,64] rfl rfl rfl rfl ⟨λ_ _ a _ _ _=>xM rfl (a 7 rfl),λA _ hA _ _ _=>have h2:A.eval (.tmp 2)=.pointer (some ⟨w.heap.size,0,none⟩):=hA 2 rfl;pZ rfl,λA _ _ hL _ he=>have hb:=hL.below;have h51:=eT 51 (he.1 rfl);have c0:=((B1.keep d B1.lt).on hb).at1 1 _ rfl;pZ rfl,λ_ _ a _ _ _=>xM rfl (a 6 rfl),λ_ _ _ _ _ e=>pI rfl Tryz.underlying37 p1 o1 i (D) (e.1 rfl) (e.2.1 rfl),?_,?_,λA _ hA _ _ _=>have h3:A.eval (.tmp 3)=.pointer (some ⟨w.heap.size+1,0,none⟩):=hA 3 rfl;pZ rfl,λA _ _ hL _ he=>have hb:=hL.below;have h57:=eT 57 (he.1 rfl);have c0:=((B2.keep d B2.lt).on hb).at1 1 _ rfl;pZ rfl,λ_ _ a _ _ _=>xM rfl (a 8 rfl),λ_ _ _ _ _ e=>pI rfl Tryz.underlying37 B o2 k (r) (e.1 rfl) (e.2.1 rfl),?_,?_,?_,?_,trivial⟩ ?_
     ·intro A w1 hA hL hS he;have h54:=eT 54 (he.1 rfl);refine ae rfl ?_;have c0:=C w1 (d.trans (hL.below.mono d.size));exact aB rfl rfl gZ
     ·intro A w1 hA hL hS he;have h55:=eT 55 (he.1 rfl);refine ae rfl (aB rfl rfl ?_);generalize A.eval=ev at *;go_simp;rw[IntKind.wrap_u64];omega
     ·intro A w1 hA hL hS he;have h60:=eT 60 (he.1 rfl);refine ae rfl ?_;have c0:=X w1 (d.trans (hL.below.mono d.size));exact aB rfl rfl gZ
     ·intro A w1 hA hL hS he;have h61:=eT 61 (he.1 rfl);refine ae rfl (aB rfl rfl ?_);generalize A.eval=ev at *;go_simp;rw[IntKind.wrap_u64];omega
     ·intro A w1 hA hL hS he;have h56:=eT 56 (he.1 rfl);have h62:=eT 62 (he.2.1 rfl);refine ae rfl (aB rfl rfl ?_);generalize A.eval=ev at *;go_simp;rw[IntKind.wrap_u64];omega
     ·intro A w1 hA hL hS he;have h50:=eT 50 (he.1 rfl);have h63:=eT 63 (he.2.1 rfl);refine ae rfl (aB rfl rfl ?_);generalize A.eval=ev at *;go_simp;rw[IntKind.wrap_u64];omega
     ·intro W2 hL2;simp only[aT,af.eq,lZ];have hblk2:=zH (b.out.on hL2.below);have hb2:=d.trans (hL2.below.mono d.size);have hco2:=hblk2.out.ucell (i+k) p.out;have hfo2:=hblk2.out.frozen (i+k);go_frame;go_wp2;go_roundw
      case rel=>exact⟨k+1,_,_,nM,rfl,o,zH (hblk2.out.uset (i+k) _),hb2.setCell (Nat.le_refl _) _⟩
      case measure=>simp[intOf];omega
    ·rw[p2 r,Int.mul_zero,Int.add_zero]at o;rw[p2 r]at a2 a0;by_cases hc0:0<I
     ·replace o:=zH (o (.inr hc0))
      have G:k<=lb.length:=by
       rcases Nat.lt_or_ge lb.length k with h|h
       ·have:=HK.out oM;omega
       ·exact h
      replace s:=s (by rw[j];omega);have hlen2:i+k<l.length+lb.length+1:=oM;clear p2 F j;generalize J.getD (i+k) 0=z at *;replace G:=zH G;go_wp2;go_roundw
      case rel=>exact⟨k+1,_,_,nM,rfl,o,zH (b.out.uset (i+k) _),d.setCell (Nat.le_refl _) _⟩
      case measure=>have:=G.out;simp[intOf];omega
     ·obtain rfl:I=0:=oM;have HD:=zH (n.out.done r);clear o s F p2 j;go_wp2;go_roundw
      case rel=>exact⟨i+1,_,oM,nM,HD,b,d⟩
      case measure=>simp[intOf];omega
  ·obtain rfl:i=l.length:=oM;have e1:=(B1.keep hb B1.lt).at1 0 _ rfl;have e2:=(B2.keep hb B2.lt).at1 0 _ rfl
   have hu:cO wr (.slice (some ⟨W.heap.size,0,none⟩) (l.length+lb.length+1) (l.length+lb.length+1)) u:=by have:=b.out.u32s hinv.out.2.1;rw[hinv.out.1]at this;exact this
   have HV:=zH hinv.out.done;have a5:u.length<=1000000000:=by rw[hinv.out.1];omega
   have L:=hb0.trans (hb.mono hb0.size);have N:=B3.keep hb B3.lt;clear hinv b
   go_wp2_with fail
   refine(iB (n1 != n2) _ u _ hu a5).mono ?_;rintro e w2 ⟨neg,m,rfl,Z,hb2⟩;rw[HV.out]at Z
   go_wp2_with (refine az rfl _ (.tmp 4) (.tmp 80) rfl _ _ _ _ rfl rfl (N.on hb2) rfl aK Z.ones ?_;intro w3 R gr)
   exact dH rfl rfl rfl R Tryz.underlying39 rfl aK (jb L hb2 oM (N.on hb2) Z gr)
theorem lI(n1 n2:Bool)(m1 m:Value)(k h:Int)(w:World)(p:aZ w n1 m1 k)(o:aZ w n2 m h)(c1:aF k.natAbs<=CS)(c2:aF h.natAbs<=CS) :
  Calls Tryz.prog 105 #[.agg #[.bool n1,m1],.agg #[.bool n2,m]] w (kV w (k*h)):=by
 obtain⟨n,j,d,rfl,y,b1,u1,B,e,s,u,rfl⟩:=p.openS c1;obtain⟨l2,l,b,rfl,q,D,C,r,i,z,x,rfl⟩:=o.openS c2;rw[<-Mw];exact OC n1 n2 j l d b n l2 w oM oM B r e i
theorem IA(u:Option Addr)(cap:Nat)(A:List Int)(d:Int)(w:World)(I:A.length<=68719476736)(p:aG A)(D:At uT w u (uc A))(d0:1<=d)(d1:d<4294967296) :
  Calls Tryz.prog 157 #[.slice u A.length cap,.int .u32 d] w (wX w (ah A) d A.length):=by
 go_enter Tryz.func157,Tryz.ntmps157
 go_wp2_with (at_make;refine bL rfl _ _ _ rfl _ (.int .u32 0) 1 4 Tryz.underlying37 bD rfl rfl .i64 .i64 _ _ A.length rfl rfl oM oM oM oM ?_;intro w1 own1 gr1)
 rw[iM]at own1
 go_loopw [7,8] (λr i wr=>∃(k:Nat)(m:List Int)(q:Int),k<=A.length/\i=.int .i64 ((k:Int)-1)/\r=.int .u64 q/\Hid (jW A d k m q)/\Hid (Blk wr w.heap.size uT (uc m))/\Below w.heap.size w wr) (λ_ i _=>(intOf i+1).toNat)
 case atStart=>exact⟨A.length,_,0,Nat.le_refl _,rfl,rfl,zH (jW.start A d oM),zH own1,gr1⟩
 case round =>
  obtain⟨k,m,q,J,rfl,rfl,hinv,b,hb⟩:=hrel;by_cases h0:1<=k
  ·obtain⟨i,rfl⟩:∃i,k=i+1:=⟨k - 1,oM⟩;obtain⟨p1,o1,e1,j⟩:=D (by rw[dG];omega);have hc:=(j.keep hb j.lt).ucell i oM;have E1:=zH e1;have q0:=hinv.out.2.2.1;have q1:q<4294967296:=by have:=hinv.out.2.2.2.1;omega
   have l:i<m.length:=by have:=hinv.out.1;omega
   have C:=b.out.ucell i l;have F:=b.out.frozen i;have a1:=(p.getD i).1;have B:A.getD i 0<4294967296:=(p.getD i).2;obtain⟨n,s1,s0⟩:=hinv.out.step p d1 oM;have G:=zH l;clear e1 j l;generalize A.getD i 0=x at *;generalize m.getD i 0=z at *;have s:=zH n;clear n;have o:i<A.length:=oM;have y:0<=q*4294967296+x:=oM
   go_wp2_with (refine aj rfl (.tmp 21) (.tmp 22) _ rfl _ Tryz.underlying37 _ _ _ bD _ _ _ rfl _ _ rfl i oM o p1 o1 E1.out ?_;rw[Nat.mul_one])
   go_roundw
   case rel=>exact⟨i,_,_,oM,nM,rfl,s,zH (b.out.uset i _),hb.setCell (Nat.le_refl _) _⟩
   case measure=>simp[intOf]
  ·obtain rfl:k=0:=oM;have q0:=hinv.out.2.2.1;have q1:q<4294967296:=by have:=hinv.out.2.2.2.1;omega
   go_wp2;go_ret2;have hu:=b.out.u32s hinv.out.2.1;rw[hinv.out.1]at hu;exact⟨_,m,q,rfl,hu,hinv.out.1,hinv.out.done,q0,hinv.out.2.2.2.1,hb⟩
theorem Ck(v:Value)(l:List Int)(d:Int)(w:World)(h:cO w v l)(b:l.length<=68719476736)(d0:1<=d)(d1:d<4294967296) :
  Calls Tryz.prog 157 #[v,.int .u32 d] w (wX w (ah l) d l.length):=by
 obtain⟨e,cap,rfl,_,L,m⟩:=h;exact IA e cap l d w b L m d0 d1
def ML (w:World) (x y:Int) (e:Ending) (w':World):Prop :=
 ∃n1 m1 n2 m2,e=.returned (.tuple #[.agg #[.bool n1,m1],.agg #[.bool n2,m2]])/\aZ w' n1 m1 x/\aZ w' n2 m2 y/\Below w.heap.size w w'
theorem uh{P:Program}{fn:Func}{p q:Tmp}{ty:TypeId}(h:fn.results=#[.cell p ty,.cell q ty])(tmps:Array Value)(w:World)(g1 b:Nat){d:TypeDesc}(hu:P.underlying ty=some d)
  (hd:(match d with|.struct _|.array _ _=>true|_=>false)=true) {l m:TypeId} {c1 c2:List Value} (hp:tmps.getD p undef=.pointer (some ⟨g1,0,none⟩)) (hq:tmps.getD q undef=.pointer (some ⟨b,0,none⟩)) (o:Blk w g1 l c1) (n:Blk w b m c2)
  (j:(P.info? ty).map (·.size)=some c1.length) (k:(P.info? ty).map (·.size)=some c2.length) :
  (results fn tmps).run P w=.ok (.tuple #[.agg c1.toArray,.agg c2.toArray]) w:=by
 have i:tmps[p]?.getD undef=.pointer (some ⟨g1,0,none⟩):=by simpa using hp
 have e:tmps[q]?.getD undef=.pointer (some ⟨b,0,none⟩):=by simpa using hq
 have e1:=run_loadVar_row (P:=P) w g1 l ty c1.toArray (0,0) d o hu hd (by simpa using j);have r:=run_loadVar_row (P:=P) w b m ty c2.toArray (0,0) d n hu hd (by simpa using k);simp[results,h,i,e,asAddr,Sem.run_bind,e1,r]
theorem MM{w:World}{neg:Bool}{m:Value}{z:Int}(h:aZ w neg m z)(hz:aF z.natAbs<=CS):Calls Tryz.prog 103 #[m,.bool neg] w (kV w z):=by obtain⟨l,d,cap,rfl,hc,b,u,L,e,i,hp,rfl⟩:=h.openS hz;exact iB neg _ l w u oM
theorem yR{w:World}{neg:Bool}{m:Value}{z:Int}(h:aZ w neg m z)(hz:aF z.natAbs<=CS):Calls Tryz.prog 103 #[m,.bool false] w (kV w z.natAbs):=by obtain⟨l,e,cap,rfl,hc,b,u,L,j,i,hp,rfl⟩:=h.openS hz;have:=iB false _ l w u oM;have d:=aU L;rw[fe,Int.natAbs_of_nonneg d];exact this
theorem IB(v1 v2:Value)(l1:List Int)(d:Int)(w:World)(h1:cO w v1 l1)(h2:cO w v2 [d])(b1:l1.length<=600000000)(hd:1<=d) :
  Calls Tryz.prog 139 #[v1,v2] w (ML w (ah l1/d) (ah l1%d)):=by
 obtain⟨ao2,cap2,rfl,hc2,L2,m2⟩:=h2;obtain⟨p2,o2,rfl,s⟩:=m2 (by simp[uc]);have x:d<4294967296:=(L2 d sM).2;simp only[List.length_cons,List.length_nil,Nat.zero_add]at hc2 ⊢
 go_enter Tryz.func139,Tryz.ntmps139
 go_upto_region 1 with (fail)
 refine wS λW hb0 B1 B2 z=>?_;have i:=(s.on hb0).ucell 0 sM;simp only[List.getD_cons_zero,Nat.add_zero]at i
 go_upto_region 3 with (first
  | (refine aj rfl (.tmp 21) _ _ rfl _ Tryz.underlying37 _ _ _ bD _ _ _ rfl .i64 0 rfl 0 rfl oM p2 o2 rfl ?_;rw[Nat.zero_mul,Nat.add_zero])
  | (go_at_call 157;refine(Ck _ l1 d _ (h1.on hb0) oM hd x).mono ?_;rintro e w1 ⟨v,l,r,rfl,hu,B,he,hr0,hr1,hb1⟩))
 have hq:Hid (ah l1/d=ah l/\ah l1%d=r):=zH (WC oM he hr0 hr1);have y:0<=r/\r<bv:=by rw[aP];omega
 clear he i;have hb01:=hb0.trans (hb1.mono hb0.size);have p:=B1.on hb1;have q:=B2.on hb1;have n:ah [r]=r:=by simp[ah]
 go_wp2_with fail
 refine(iB false _ l w1 hu oM).mono ?_;rintro e w2 hret;obtain⟨n3,a3,k3,c3,rfl,i3,hb2⟩:=eD hret;clear hret;have j:Below w2.heap.size w2 (w2.alloc (.cells #[.int .u32 r] uT)):=(Below.refl _ _).alloc (Nat.le_refl _) _
 go_wp2_with fail
 refine(iB false _ [r] _ (cO.newOne w2 y) sM).mono ?_;rintro e w3 hret;obtain⟨n4,a4,k4,c4,rfl,i4,hb3⟩:=eD hret;clear hret;have hb23:=hb2.trans ((j.trans (hb3.mono j.size)).mono hb2.size);have hC1:=p.on hb23;have hC2:=q.on hb23;have k:=i3.on (j.trans (hb3.mono j.size))
 go_wp2_with (first
  | (refine az rfl _ (.tmp 4) (.tmp 28) rfl _ _ _ _ rfl rfl hC1 rfl aK k.ones ?_;intro w4 R4 gr4;have b:=hC2.grown gr4 oM;have u:=k.stored gr4 hC1 dM;have m:=i4.stored gr4 hC1 dM)
  | (refine az rfl _ (.tmp 5) (.tmp 31) rfl _ _ _ _ rfl rfl b rfl aK m.ones ?_;intro w5 R5 gr5))
 have o:=hb01.trans (hb23.mono hb01.size);have hlt1:=hC1.lt;have hlt2:=b.lt;refine bodyPost_ret (uh rfl _ _ _ _ Tryz.underlying39 rfl rfl rfl (R4.grown gr5 oM) R5 aK aK) rfl ⟨_,_,_,_,rfl,?_,?_,(o.trans ((aH gr4 (Nat.le_of_lt hlt1) (Nat.le_refl _)).mono oM)).trans ((aH gr5 (Nat.le_of_lt hlt2) (Nat.le_refl _)).mono oM)⟩
 ·have:=u.stored gr5 b dM;rw[hq.out.1];simpa[fZ]using this
 ·have:=m.stored gr5 b dM;rw[n]at this;rw[hq.out.2];simpa[fZ]using this
theorem iN{x y:Int}{K:Nat}(h:x.natAbs<=y.natAbs)(b:aF y.natAbs<=K):aF x.natAbs<=K:=Nat.le_trans (iT h) b
end Go.Proofs.YtopclbeomcggiaaGreat
