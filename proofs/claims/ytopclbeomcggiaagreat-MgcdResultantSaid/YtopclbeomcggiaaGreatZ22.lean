/- The reference's integers: Add, Sub. -/
import Derived.Test.YtopclbeomcggiaaGreatZ21
set_option linter.unusedVariables false
set_option linter.unusedSimpArgs false
set_option maxHeartbeats 16000000
set_option maxRecDepth 100000
namespace Q
open Go Go.RowKit Go.Proofs.YtopclbeomcggiaaGreat
def ae.lim {g:Option Nat} {T:TypeId} (hT:uT≠T) (z:Int) (n:Nat):ae (Lr g T):=ae.of (λv w=>∃l,dD w v l/\ah l=z/\l.length<=n) (λ_ _ _ hb ⟨l,h,e⟩=>⟨l,h.lr hb hT,e⟩)
end Q
namespace Go.Proofs.YtopclbeomcggiaaGreat
open Go.RowKit Q
theorem Iu{w:World}{v:Value}{z:Int}{n:Nat}(h:∃l,dD w v l/\ah l=z/\l.length<=n)(d:n<=1000000000)(neg:Bool):Calls Tryz.prog 103 #[v,.bool neg] w (kX w (gK neg z)):=by obtain⟨l,hu,rfl,b⟩:=h;exact jc neg v l w hu oM
theorem yF(n1 n2:Bool)(m1 m2:Value)(z1 z2:Int)(w:World)(h1:bC w n1 m1 z1)(h2:bC w n2 m2 z2)(c1:aJ z1.natAbs<=CS)(c2:aJ z2.natAbs<=CS) :
  Calls Tryz.prog 108 #[.agg #[.bool n1,m1],.agg #[.bool n2,m2]] w (kX w (z1+z2)):=by
 obtain⟨l1,ao1,cap1,rfl,hc1,b1,u1,L1,mm1,nn1,hp1,e1⟩:=h1.openS c1;obtain⟨l2,ao2,cap2,rfl,hc2,b2,u2,L2,mm2,nn2,hp2,e2⟩:=h2.openS c2;clear hc1 hc2 mm1 mm2 h1 h2 c1 c2 hp1 hp2;by_cases o:n1=n2
 ·subst o;have e:z1+z2=gK n1 (ah l1+ah l2):=by rw[e1,e2];cases n1<;>simp[gK]<;>omega
  rw[e];clear e e1 e2;have m:(n1==n1)=true:=sM
  go_enter Tryz.func108,Tryz.ntmps108
  go_upto_region 1 with (fail)
  refine uF λW hb0 B1 B2 B3 n=>?_;have x1:=B1.at1 0 _ rfl;have x2:=B2.at1 0 _ rfl
  go_upto_region 2 with (fail)
  refine aD mixed (none) (0) (eQ.none) [.eq (.pointer (some ⟨w.heap.size,1,none⟩)),.eq (.slice ao1 l1.length cap1),.eq (.pointer (some ⟨w.heap.size+1,1,none⟩)),.eq (.slice ao2 l2.length cap2),.lim dM (ah l1+ah l2) 600000000,.eq (.pointer (some ⟨w.heap.size,0,none⟩)),.eq (.bool n1),.int dM ((gK n1 (ah l1+ah l2)))] [10,11,12,13,14,15,16,17] rfl rfl rfl rfl ⟨λA _ hA _ _ _=>have h2:A.eval (.tmp 2)=.pointer (some ⟨w.heap.size,0,none⟩):=hA 2 rfl;pZ rfl,λA _ _ hL _ he=>have hb:=hL.below;have h10:=eT 10 (he.1 rfl);have c0:=((B1).on hb).at1 1 _ rfl;pZ rfl,λA _ hA _ _ _=>have h3:A.eval (.tmp 3)=.pointer (some ⟨w.heap.size+1,0,none⟩):=hA 3 rfl;pZ rfl,λA _ _ hL _ he=>have hb:=hL.below;have h12:=eT 12 (he.1 rfl);have c0:=((B2).on hb).at1 1 _ rfl;pZ rfl,?_,λA _ hA _ _ _=>have h2:A.eval (.tmp 2)=.pointer (some ⟨w.heap.size,0,none⟩):=hA 2 rfl;pZ rfl,λA _ _ hL _ he=>have hb:=hL.below;have h15:=eT 15 (he.1 rfl);have c0:=((B1).on hb).at1 0 _ rfl;pZ rfl,?_,trivial⟩ ?_
  ·intro A w1 hA hL hS he;have hb:=hS rfl;have h11:=eT 11 (he.1 rfl);have h13:=eT 13 (he.2.1 rfl);have hf0:=eF A 125;refine af rfl ?_;refine dR (f:=125) (args:=#[.slice ao1 l1.length cap1,.slice ao2 l2.length cap2]) rfl rfl ?_ ?_
   ·exact gZ
   ·refine(QE _ _ l1 l2 _ ((u1.on hb0).on hb) ((u2.on hb0).on hb) oM oM).mono ?_;rintro e w' ⟨v,l,rfl,hu,hp,d⟩;exact⟨_,rfl,d,l,hu,hp.1,oM⟩
  ·intro A w1 hA hL hS he;have hb:=hS rfl;obtain⟨v14,h14,f14⟩:=fT 14 (he.1 rfl);have h16:=eT 16 (he.2.1 rfl);have hf0:=eF A 103;exact cP (f:=103) (args:=#[v14,.bool n1]) (Iu f14 oM n1)
  ·intro W2 hL2;have hb2:=hL2.below;simp only[aQ,ae.eq,ae.ret,ae.int,ae.lim,ae.of,lZ];rintro _ - _ ⟨n7,m7,rfl,i7⟩;go_frame;have b:=B3.on hb2
   go_wp2_with (refine aA rfl _ (.tmp 4) (.tmp 17) rfl _ _ _ _ rfl rfl b rfl aS i7.ones ?_;intro w3 R j)
   exact dY rfl rfl rfl R Tryz.underlying39 rfl aS (jv hb0 hb2 oM b i7 j)
 ·have m:(n1==n2)=false:=by simpa using o
  have HL1:=λW (hb:Below w.heap.size w W)=>yD _ _ l1 l2 W (u1.on hb) (u2.on hb) oM oM nn1 nn2
  go_enter Tryz.func108,Tryz.ntmps108
  go_upto_region 1 with (fail)
  refine uF λW hb0 B1 B2 B3 n=>?_;have x1:=B1.at1 0 _ rfl;have x2:=B2.at1 0 _ rfl;have x3:=B1.at1 1 _ rfl;have x4:=B2.at1 1 _ rfl
  go_upto_region 3 with (fail)
  by_cases k:ah l1<ah l2
  ·simp only[k,decide_true]at HL1;have e:z1+z2=gK n2 (ah l2-ah l1):=by rw[e1,e2];cases n1<;>cases n2<;>simp[gK]at *<;>omega
   replace e:=zH e;clear e1 e2;have i:=jm L2 L1 nn1 oM
   go_upto_region 4 with (go_at_call 102;refine(HL1 W hb0).mono ?_;rintro en w1 ⟨rfl,hb1⟩)
   have hb01:=hb0.trans (hb1.mono hb0.size);replace B1:=B1.on hb1;replace B2:=B2.on hb1;replace B3:=B3.on hb1;refine aD mixed (none) (0) (eQ.none) [.eq (.pointer (some ⟨w.heap.size+1,1,none⟩)),.eq (.slice ao2 l2.length cap2),.eq (.pointer (some ⟨w.heap.size,1,none⟩)),.eq (.slice ao1 l1.length cap1),.lim dM (ah l2-ah l1) 600000000,.eq (.pointer (some ⟨w.heap.size+1,0,none⟩)),.eq (.bool n2),.int dM ((gK n2 (ah l2-ah l1)))] [23,24,25,26,27,28,29,30] rfl rfl rfl rfl ⟨λA _ hA _ _ _=>have h3:A.eval (.tmp 3)=.pointer (some ⟨w.heap.size+1,0,none⟩):=hA 3 rfl;pZ rfl,λA _ _ hL _ he=>have hb:=hL.below;have h23:=eT 23 (he.1 rfl);have c0:=((B2).on hb).at1 1 _ rfl;pZ rfl,λA _ hA _ _ _=>have h2:A.eval (.tmp 2)=.pointer (some ⟨w.heap.size,0,none⟩):=hA 2 rfl;pZ rfl,λA _ _ hL _ he=>have hb:=hL.below;have h25:=eT 25 (he.1 rfl);have c0:=((B1).on hb).at1 1 _ rfl;pZ rfl,?_,λA _ hA _ _ _=>have h3:A.eval (.tmp 3)=.pointer (some ⟨w.heap.size+1,0,none⟩):=hA 3 rfl;pZ rfl,λA _ _ hL _ he=>have hb:=hL.below;have h28:=eT 28 (he.1 rfl);have c0:=((B2).on hb).at1 0 _ rfl;pZ rfl,?_,trivial⟩ ?_
   ·intro A w1 hA hL hS he;have hb:=hS rfl;have h24:=eT 24 (he.1 rfl);have h26:=eT 26 (he.2.1 rfl);have hf0:=eF A 126;refine af rfl ?_;refine dR (f:=126) (args:=#[.slice ao2 l2.length cap2,.slice ao1 l1.length cap1]) rfl rfl ?_ ?_
    ·exact gZ
    ·refine(DW _ _ l2 l1 _ ((u2.on hb01).on hb) ((u1.on hb01).on hb) oM i oM).mono ?_;rintro e w' ⟨v,l,rfl,hu,hp,d⟩;exact⟨_,rfl,d,l,hu,hp.1,oM⟩
   ·intro A w1 hA hL hS he;have hb:=hS rfl;obtain⟨v27,h27,f27⟩:=fT 27 (he.1 rfl);have h29:=eT 29 (he.2.1 rfl);have hf0:=eF A 103;exact cP (f:=103) (args:=#[v27,.bool n2]) (Iu f27 oM n2)
   ·intro W2 hL2;have hb2:=hL2.below;simp only[aQ,ae.eq,ae.ret,ae.int,ae.lim,ae.of,lZ];rintro _ - _ ⟨n7,m7,rfl,i7⟩;go_frame;have b:=B3.on hb2
    go_wp2_with (refine aA rfl _ (.tmp 4) (.tmp 30) rfl _ _ _ _ rfl rfl b rfl aS i7.ones ?_;intro w3 R j)
    exact dY rfl rfl rfl R Tryz.underlying39 rfl aS (by rw[e.out];exact jv hb01 hb2 oM b i7 j)
  ·simp only[k,decide_false]at HL1;have e:z1+z2=gK n1 (ah l1-ah l2):=by rw[e1,e2];cases n1<;>cases n2<;>simp[gK]at *<;>omega
   replace e:=zH e;clear e1 e2;have i:=jm L1 L2 nn2 oM
   go_upto_region 5 with (go_at_call 102;refine(HL1 W hb0).mono ?_;rintro en w1 ⟨rfl,hb1⟩)
   have hb01:=hb0.trans (hb1.mono hb0.size);replace B1:=B1.on hb1;replace B2:=B2.on hb1;replace B3:=B3.on hb1;refine aD mixed (none) (0) (eQ.none) [.eq (.pointer (some ⟨w.heap.size,1,none⟩)),.eq (.slice ao1 l1.length cap1),.eq (.pointer (some ⟨w.heap.size+1,1,none⟩)),.eq (.slice ao2 l2.length cap2),.lim dM (ah l1-ah l2) 600000000,.eq (.pointer (some ⟨w.heap.size,0,none⟩)),.eq (.bool n1),.int dM ((gK n1 (ah l1-ah l2)))] [31,32,33,34,35,36,37,38] rfl rfl rfl rfl ⟨λA _ hA _ _ _=>have h2:A.eval (.tmp 2)=.pointer (some ⟨w.heap.size,0,none⟩):=hA 2 rfl;pZ rfl,λA _ _ hL _ he=>have hb:=hL.below;have h31:=eT 31 (he.1 rfl);have c0:=((B1).on hb).at1 1 _ rfl;pZ rfl,λA _ hA _ _ _=>have h3:A.eval (.tmp 3)=.pointer (some ⟨w.heap.size+1,0,none⟩):=hA 3 rfl;pZ rfl,λA _ _ hL _ he=>have hb:=hL.below;have h33:=eT 33 (he.1 rfl);have c0:=((B2).on hb).at1 1 _ rfl;pZ rfl,?_,λA _ hA _ _ _=>have h2:A.eval (.tmp 2)=.pointer (some ⟨w.heap.size,0,none⟩):=hA 2 rfl;pZ rfl,λA _ _ hL _ he=>have hb:=hL.below;have h36:=eT 36 (he.1 rfl);have c0:=((B1).on hb).at1 0 _ rfl;pZ rfl,?_,trivial⟩ ?_
   ·intro A w1 hA hL hS he;have hb:=hS rfl;have h32:=eT 32 (he.1 rfl);have h34:=eT 34 (he.2.1 rfl);have hf0:=eF A 126;refine af rfl ?_;refine dR (f:=126) (args:=#[.slice ao1 l1.length cap1,.slice ao2 l2.length cap2]) rfl rfl ?_ ?_
    ·exact gZ
    ·refine(DW _ _ l1 l2 _ ((u1.on hb01).on hb) ((u2.on hb01).on hb) oM i oM).mono ?_;rintro e w' ⟨v,l,rfl,hu,hp,d⟩;exact⟨_,rfl,d,l,hu,hp.1,oM⟩
   ·intro A w1 hA hL hS he;have hb:=hS rfl;obtain⟨v35,h35,f35⟩:=fT 35 (he.1 rfl);have h37:=eT 37 (he.2.1 rfl);have hf0:=eF A 103;exact cP (f:=103) (args:=#[v35,.bool n1]) (Iu f35 oM n1)
   ·intro W2 hL2;have hb2:=hL2.below;simp only[aQ,ae.eq,ae.ret,ae.int,ae.lim,ae.of,lZ];rintro _ - _ ⟨n7,m7,rfl,i7⟩;go_frame;have b:=B3.on hb2
    go_wp2_with (refine aA rfl _ (.tmp 4) (.tmp 38) rfl _ _ _ _ rfl rfl b rfl aS i7.ones ?_;intro w3 R j)
    exact dY rfl rfl rfl R Tryz.underlying39 rfl aS (by rw[e.out];exact jv hb01 hb2 oM b i7 j)
theorem J7(n1 n2:Bool)(m1 m2:Value)(z1 z2:Int)(w:World)(h1:bC w n1 m1 z1)(h2:bC w n2 m2 z2)(c1:aJ z1.natAbs<=CS)(c2:aJ z2.natAbs<=CS) :
  Calls Tryz.prog 140 #[.agg #[.bool n1,m1],.agg #[.bool n2,m2]] w (kX w (z1-z2)):=by
 obtain⟨a1,k1,q1,rfl,-,-⟩:=h1.shape;obtain⟨a2,k2,q2,rfl,-,-⟩:=h2.shape;have c3:aJ (-z2).natAbs<=CS:=by rw[Int.natAbs_neg];exact c2
 rw[Int.sub_eq_add_neg]
 go_enter Tryz.func140,Tryz.ntmps140
 go_upto_region 1 with (fail)
 refine uF λW hb0 B1 B2 B3 k=>?_;refine aD mixed (none) (0) (eQ.none) [.eq (.agg #[.bool n1,.slice a1 k1 q1]),.eq (.agg #[.bool n2,.slice a2 k2 q2]),.int dM ((-z2)),.int dM ((z1+-z2))] [5,6,7,8] rfl rfl rfl rfl ⟨λA _ hA hL _ _=>have hb:=hL.below;have h2:A.eval (.tmp 2)=.pointer (some ⟨w.heap.size,0,none⟩):=hA 2 rfl;have c0:=((B1).on hb).at1 0 _ rfl;have c1:=((B1).on hb).at1 1 _ rfl;pZ rfl,λA _ hA hL _ _=>have hb:=hL.below;have h3:A.eval (.tmp 3)=.pointer (some ⟨w.heap.size+1,0,none⟩):=hA 3 rfl;have c0:=((B2).on hb).at1 0 _ rfl;have c1:=((B2).on hb).at1 1 _ rfl;pZ rfl,λA _ _ _ hS he=>have hb:=hS rfl;have h6:=eT 6 (he.1 rfl);have hf0:=eF A 124;cP (f:=124) (args:=#[.agg #[.bool n2,.slice a2 k2 q2]]) (yC _ _ _ _ ((h2.on hb0).on hb) c2),?_,trivial⟩ ?_
 ·intro A w1 hA hL hS he;have hb:=hS rfl;have h5:=eT 5 (he.1 rfl);obtain⟨v7,h7,f7⟩:=fT 7 (he.2.1 rfl);have hf0:=eF A 108;refine af rfl ?_;refine dR (f:=108) (args:=#[.agg #[.bool n1,.slice a1 k1 q1],v7]) rfl rfl ?_ ?_
  ·exact gZ
  ·obtain⟨n7,m7,rfl,i7⟩:=f7;refine(yF _ _ _ _ _ _ _ ((h1.on hb0).on hb) i7 c1 c3).mono ?_;rintro e w' ⟨neg,m,rfl,j,d⟩;exact⟨_,rfl,d,neg,m,rfl,j⟩
 ·intro W2 hL2;have hb2:=hL2.below;simp only[aQ,ae.eq,ae.ret,ae.int,ae.lim,ae.of,lZ];rintro _ - _ ⟨n7,m7,rfl,i7⟩;go_frame;have b:=B3.on hb2
  go_wp2_with (refine aA rfl _ (.tmp 4) (.tmp 8) rfl _ _ _ _ rfl rfl b rfl aS i7.ones ?_;intro w3 R i)
  exact dY rfl rfl rfl R Tryz.underlying39 rfl aS (jv hb0 hb2 oM b i7 i)
def pW (A B:List Int) (i:Nat) (xs:List Int):Prop :=
 xs.length=A.length+B.length+1/\aK xs/\ah xs=ah (A.take i)*ah B/\∀j,i+B.length<=j->xs.getD j 0=0
def xu (A B:List Int) (i k:Nat) (xs:List Int) (c:Int):Prop :=
 xs.length=A.length+B.length+1/\aK xs/\0<=c/\c<4294967296/\k<=B.length+1/\(k=B.length+1->c=0)/\(k<=B.length->xs.getD (i+B.length) 0=0) /\
  ah xs+bJ^(i+k)*c=ah (A.take i)*ah B+bJ^i*(A.getD i 0*ah (B.take k))/\∀j,i+B.length<j->xs.getD j 0=0
theorem pW.start(A B:List Int):pW A B 0 (List.replicate (A.length+B.length+1) 0) :=
 ⟨sM,jJ _,by simp[ah,nG],λj _=>by
  rw[jD,List.getElem?_replicate];split<;>rfl⟩
theorem pW.inner{A B:List Int}{i:Nat}{b:List Int}(h:pW A B i b):xu A B i 0 b 0 :=
 ⟨h.1,h.2.1,oM,oM,oM,oM,λ_=>h.2.2.2 _ (nL _),by rw[h.2.2.1];simp[ah],λj d=>h.2.2.2 j oM⟩
theorem xu.step{A B:List Int}{i k:Nat}{b:List Int}{c:Int}(h:xu A B i k b c)(p:aK A)(LB:aK B)(H:i<A.length)(I:k<B.length\/0<c) :
  xu A B i (k+1) (b.set (i+k) ((c+b.getD (i+k) 0+A.getD i 0*B.getD k 0)%4294967296)) ((c+b.getD (i+k) 0+A.getD i 0*B.getD k 0)/4294967296):=by
 obtain⟨x,n,D,E,F,y,o,G,z⟩:=h;have a1:=p.getD i;have a2:=LB.getD k;have s:=n.getD (i+k);rw[aV]at a1 a2 s;have hp:=prod_bound (A.getD i 0) (B.getD k 0) a1.1 oM a2.1 oM;have p2:=kY B k
 have d:k<=B.length:=by
  rcases Nat.lt_or_ge B.length k with h|h
  ·have:=y oM;omega
  ·exact h
 have m:¬k<B.length->(c+b.getD (i+k) 0+A.getD i 0*B.getD k 0)=c:=λh=>by have e:k=B.length:=oM;rw[p2 h,e,o d];simp
 refine⟨by simpa using x,gH n _ (by rw[aV];omega),oM,oM,oM,λhe=>?_,λJ=>?_,?_,λj C=>by rw[eU _ _ _ _ oM];exact z j C⟩
 ·rw[m oM];omega
 ·rw[eU _ _ _ _ oM];exact o d
 rw[lY _ _ _ oM,aP];have e:=Int.mul_ediv_add_emod (c+b.getD (i+k) 0+A.getD i 0*B.getD k 0) 4294967296;generalize(c+b.getD (i+k) 0+A.getD i 0*B.getD k 0)%4294967296=r at *;generalize(c+b.getD (i+k) 0+A.getD i 0*B.getD k 0)/4294967296=q at *;rw[<-aV]at e;have e2:bJ^(i+(k+1))=bJ^(i+k)*bJ:=by rw[<-Nat.add_assoc,Int.pow_succ]
 have u:bJ^(i+k)=bJ^i*bJ^k:=Int.pow_add ..;rw[e2];have:bJ^(i+k)*(c+b.getD (i+k) 0+A.getD i 0*B.getD k 0)=bJ^(i+k)*(bJ*q+r):=by rw[e]
 have l:ah b=ah (A.take i)*ah B+bJ^i*(A.getD i 0*ah (B.take k))-bJ^(i+k)*c:=oM;rw[l];rw[u]at *;generalize bJ^i=P at *;generalize bJ^k=R at *;grind
theorem xu.done{A B:List Int}{i k:Nat}{b:List Int}(h:xu A B i k b 0)(x:¬k<B.length):pW A B (i+1) b:=by obtain⟨d,e,o,p,q,r,s,m,n⟩:=h;refine⟨d,e,?_,λj u=>n j oM⟩;rw[aP];rw[tL (l:=B) oM]at m;grind
theorem pW.done{A B:List Int}{b:List Int}(h:pW A B A.length b):ah b=ah A*ah B:=by rw[h.2.2.1,tL (nL _)]
theorem QF(n1 n2:Bool)(ao1 ao2:Option Addr)(cap1 cap2:Nat)(la lb:List Int)(w:World)(bA:la.length<=499000000)(bB:lb.length<=499000000)(Z:aK la)(LB:aK lb)(mA:At uT w ao1 (uc la))(mB:At uT w ao2 (uc lb)) :
  Calls Tryz.prog 105 #[.agg #[.bool n1,.slice ao1 la.length cap1],.agg #[.bool n2,.slice ao2 lb.length cap2]] w (kX w (gK (n1 != n2) (ah la*ah lb))):=by
 go_enter Tryz.func105,Tryz.ntmps105
 go_upto_region 1 with (fail)
 refine uF λW hb0 B1 B2 B3 a9=>?_;have c1:=B1.at1 1 _ rfl;have c2:=B2.at1 1 _ rfl
 go_wp2_with (at_make;refine bV rfl _ _ _ rfl _ (.int .u32 0) 1 4 Tryz.underlying37 bM rfl rfl .i64 .i64 _ _ (la.length+lb.length+1) rfl rfl oM oM oM oM ?_;intro w1 own1 gr1;have c3:=(B1.keep gr1 B1.lt).at1 1 _ rfl)
 rw[jf]at own1;clear c1 c2 c3
 go_loopw [6] (λi wr=>∃(k:Nat)(s:List Int),k<=la.length/\i=.int .i64 k/\Hid (pW la lb k s)/\Hid (Blk wr W.heap.size uT (uc s))/\Below W.heap.size W wr) (λi _=>la.length-(intOf i).toNat)
 case atStart=>exact⟨0,_,Nat.zero_le _,rfl,zH (pW.start la lb),zH own1,gr1⟩
 case round =>
  clear own1 gr1;obtain⟨i,s,X,rfl,hinv,b,hb⟩:=hrel;have d1:=(B1.keep hb B1.lt).at1 1 _ rfl;by_cases G:i<la.length
  ·obtain⟨p1,o1,rfl,M⟩:=mA (by rw[dU];omega);have B:∀w',Below W.heap.size W w'->w'.cell? ⟨p1,o1+i,none⟩=some (.int .u32 (la.getD i 0)):=λw' h=>((M.on hb0).on h).ucell i G;have a1:=(Z.getD i).1;have a0:la.getD i 0<4294967296:=(Z.getD i).2;have HX:Hid (∃x,x=la.getD i 0):=⟨_,rfl⟩;obtain⟨x,Y⟩:=HX.out;rw[<-Y]at B a1 a0;replace Y:=zH Y;clear M HX;go_wp2
   go_loopw [7,8] (λc q wr=>∃(k:Nat)(s:List Int)(C:Int),q=.int .i64 k/\c=.int .u64 C/\Hid (xu la lb i k s C)/\Hid (Blk wr W.heap.size uT (uc s))/\Below W.heap.size W wr) (λ_ q _=>lb.length+1-(intOf q).toNat)
   case atStart=>exact⟨0,s,0,rfl,rfl,zH hinv.out.inner,b,hb⟩
   case round =>
    clear hinv b d1 hb;obtain⟨k,I,C,rfl,rfl,l,b,d⟩:=hrel;have d2:=(B2.keep d B2.lt).at1 1 _ rfl;have q1:=l.out.2.2.1;have q2:=l.out.2.2.2.1;have a8:=l.out.2.2.2.2.1;have HK:=zH l.out.2.2.2.2.2.1;have HL:=zH l.out.1;have r:=b.out.ucell (i+k);have a7:=b.out.frozen (i+k);have D:i+k<I.length↔k<=lb.length\/i+k<la.length+lb.length+1:=by rw[HL.out];omega
    have a2:=(LB.getD k).1;have a4:lb.getD k 0<4294967296:=(LB.getD k).2;have a3:=(l.out.2.1.getD (i+k)).1;have a6:I.getD (i+k) 0<4294967296:=(l.out.2.1.getD (i+k)).2;have p2:=kY lb k;have n:=l.out.step Z LB G;rw[<-Y.out]at n;have j:I.length=la.length+lb.length+1:=HL.out;by_cases p:k<lb.length
    ·obtain⟨u,o2,rfl,N⟩:=mB (by rw[dU];omega);have S:∀w',Below W.heap.size W w'->w'.cell? ⟨u,o2+k,none⟩=some (.int .u32 (lb.getD k 0)):=λw' h=>((N.on hb0).on h).ucell k p;replace r:=r (by rw[j];omega);replace n:=zH (n (.inl p));have o:i+k<I.length:=oM;clear p2 D N j;generalize lb.getD k 0=y at *;generalize I.getD (i+k) 0=z at *;obtain⟨hp0,hp1⟩:=prod_bound x y a1 oM a2 oM;have hlen2:i+k<la.length+lb.length+1:=oM;replace o:=zH o
     go_upto_region 11 with (fail)
     refine aD mixed (none) (0) (eQ.none) [.eq (.int .u64 (C+z)),.eq (.pointer (some ⟨w.heap.size,1,none⟩)),.eq (.slice (some ⟨p1,o1,none⟩) la.length cap1),.eq (.int .i64 i),.eq (.pointer (some ⟨p1,o1+i*1,none⟩)),.eq (.int .u32 x),.eq (.int .u64 x),.eq (.pointer (some ⟨w.heap.size+1,1,none⟩)),.eq (.slice (some ⟨u,o2,none⟩) lb.length cap2),.eq (.int .i64 k),.eq (.pointer (some ⟨u,o2+k*1,none⟩)),.eq (.int .u32 y),.eq (.int .u64 y),.eq (.int .u64 (x*y)),.eq (.int .u64 (C+z+x*y))] [50,51,52,53,54,55,56,57,58,59,60,61,62,63,64] rfl rfl rfl rfl ⟨λ_ _ a _ _ _=>xM rfl (a 7 rfl),λA _ hA _ _ _=>have h2:A.eval (.tmp 2)=.pointer (some ⟨w.heap.size,0,none⟩):=hA 2 rfl;pZ rfl,λA _ _ hL _ he=>have hb:=hL.below;have h51:=eT 51 (he.1 rfl);have c0:=((B1.keep d B1.lt).on hb).at1 1 _ rfl;pZ rfl,λ_ _ a _ _ _=>xM rfl (a 6 rfl),λ_ _ _ _ _ e=>pI rfl Tryz.underlying37 p1 o1 i (G) (e.1 rfl) (e.2.1 rfl),?_,?_,λA _ hA _ _ _=>have h3:A.eval (.tmp 3)=.pointer (some ⟨w.heap.size+1,0,none⟩):=hA 3 rfl;pZ rfl,λA _ _ hL _ he=>have hb:=hL.below;have h57:=eT 57 (he.1 rfl);have c0:=((B2.keep d B2.lt).on hb).at1 1 _ rfl;pZ rfl,λ_ _ a _ _ _=>xM rfl (a 8 rfl),λ_ _ _ _ _ e=>pI rfl Tryz.underlying37 u o2 k (p) (e.1 rfl) (e.2.1 rfl),?_,?_,?_,?_,trivial⟩ ?_
     ·intro A w1 hA hL hS he;have h54:=eT 54 (he.1 rfl);refine af rfl ?_;have c0:=B w1 (d.trans (hL.below.mono d.size));exact aC rfl rfl gZ
     ·intro A w1 hA hL hS he;have h55:=eT 55 (he.1 rfl);refine af rfl (aC rfl rfl ?_);generalize A.eval=ev at *;go_simp;rw[IntKind.wrap_u64];omega
     ·intro A w1 hA hL hS he;have h60:=eT 60 (he.1 rfl);refine af rfl ?_;have c0:=S w1 (d.trans (hL.below.mono d.size));exact aC rfl rfl gZ
     ·intro A w1 hA hL hS he;have h61:=eT 61 (he.1 rfl);refine af rfl (aC rfl rfl ?_);generalize A.eval=ev at *;go_simp;rw[IntKind.wrap_u64];omega
     ·intro A w1 hA hL hS he;have h56:=eT 56 (he.1 rfl);have h62:=eT 62 (he.2.1 rfl);refine af rfl (aC rfl rfl ?_);generalize A.eval=ev at *;go_simp;rw[IntKind.wrap_u64];omega
     ·intro A w1 hA hL hS he;have h50:=eT 50 (he.1 rfl);have h63:=eT 63 (he.2.1 rfl);refine af rfl (aC rfl rfl ?_);generalize A.eval=ev at *;go_simp;rw[IntKind.wrap_u64];omega
     ·intro W2 hL2;simp only[aQ,ae.eq,lZ];have hblk2:=zH (b.out.on hL2.below);have hb2:=d.trans (hL2.below.mono d.size);have hco2:=hblk2.out.ucell (i+k) o.out;have hfo2:=hblk2.out.frozen (i+k);go_frame;go_wp2;go_roundw
      case rel=>exact⟨k+1,_,_,nM,rfl,n,zH (hblk2.out.uset (i+k) _),hb2.setCell (nL _) _⟩
      case measure=>simp[intOf];omega
    ·rw[p2 p,Int.mul_zero,Int.add_zero]at n;rw[p2 p]at a2 a4;by_cases hc0:0<C
     ·replace n:=zH (n (.inr hc0))
      have F:k<=lb.length:=by
       rcases Nat.lt_or_ge lb.length k with h|h
       ·have:=HK.out oM;omega
       ·exact h
      replace r:=r (by rw[j];omega);have hlen2:i+k<la.length+lb.length+1:=oM;clear p2 D j;generalize I.getD (i+k) 0=z at *;replace F:=zH F;go_wp2;go_roundw
      case rel=>exact⟨k+1,_,_,nM,rfl,n,zH (b.out.uset (i+k) _),d.setCell (nL _) _⟩
      case measure=>have:=F.out;simp[intOf];omega
     ·obtain rfl:C=0:=oM;have HD:=zH (l.out.done p);clear n r D p2 j;go_wp2;go_roundw
      case rel=>exact⟨i+1,_,oM,nM,HD,b,d⟩
      case measure=>simp[intOf];omega
  ·obtain rfl:i=la.length:=oM;have e1:=(B1.keep hb B1.lt).at1 0 _ rfl;have e2:=(B2.keep hb B2.lt).at1 0 _ rfl
   have hu:dD wr (.slice (some ⟨W.heap.size,0,none⟩) (la.length+lb.length+1) (la.length+lb.length+1)) s:=by have:=b.out.u32s hinv.out.2.1;rw[hinv.out.1]at this;exact this
   have HV:=zH hinv.out.done;have a5:s.length<=1000000000:=by rw[hinv.out.1];omega
   have L:=hb0.trans (hb.mono hb0.size);have J:=B3.keep hb B3.lt;clear hinv b
   go_wp2_with fail
   refine(jc (n1 != n2) _ s _ hu a5).mono ?_;rintro e w2 ⟨neg,m,rfl,X,hb2⟩;rw[HV.out]at X
   go_wp2_with (refine aA rfl _ (.tmp 4) (.tmp 80) rfl _ _ _ _ rfl rfl (J.on hb2) rfl aS X.ones ?_;intro w3 R gr)
   exact dY rfl rfl rfl R Tryz.underlying39 rfl aS (jv L hb2 oM (J.on hb2) X gr)
theorem mf(n1 n2:Bool)(m1 m:Value)(k l:Int)(w:World)(p:bC w n1 m1 k)(q:bC w n2 m l)(c1:aJ k.natAbs<=CS)(c2:aJ l.natAbs<=CS) :
  Calls Tryz.prog 105 #[.agg #[.bool n1,m1],.agg #[.bool n2,m]] w (kX w (k*l)):=by
 obtain⟨y,e,b,rfl,r,b1,u1,n,i,z,u,rfl⟩:=p.openS c1;obtain⟨l2,h,d,rfl,s,C,D,o,j,B,x,rfl⟩:=q.openS c2;rw[<-OE];exact QF n1 n2 e h b d y l2 w oM oM n o i j
theorem J8(u:Option Addr)(cap:Nat)(A:List Int)(d:Int)(w:World)(I:A.length<=68719476736)(p:aK A)(F:At uT w u (uc A))(d0:1<=d)(d1:d<4294967296) :
  Calls Tryz.prog 157 #[.slice u A.length cap,.int .u32 d] w (yo w (ah A) d A.length):=by
 go_enter Tryz.func157,Tryz.ntmps157
 go_wp2_with (at_make;refine bV rfl _ _ _ rfl _ (.int .u32 0) 1 4 Tryz.underlying37 bM rfl rfl .i64 .i64 _ _ A.length rfl rfl oM oM oM oM ?_;intro w1 own1 gr1)
 rw[jf]at own1
 go_loopw [7,8] (λr i wr=>∃(k:Nat)(m:List Int)(q:Int),k<=A.length/\i=.int .i64 ((k:Int)-1)/\r=.int .u64 q/\Hid (kN A d k m q)/\Hid (Blk wr w.heap.size uT (uc m))/\Below w.heap.size w wr) (λ_ i _=>(intOf i+1).toNat)
 case atStart=>exact⟨A.length,_,0,nL _,rfl,rfl,zH (kN.start A d oM),zH own1,gr1⟩
 case round =>
  obtain⟨k,m,q,J,rfl,rfl,hinv,b,hb⟩:=hrel;by_cases h0:1<=k
  ·obtain⟨i,rfl⟩:∃i,k=i+1:=⟨k - 1,oM⟩;obtain⟨p1,o1,e1,j⟩:=F (by rw[dU];omega);have hc:=(j.keep hb j.lt).ucell i oM;have E1:=zH e1;have q0:=hinv.out.2.2.1;have q1:q<4294967296:=by have:=hinv.out.2.2.2.1;omega
   have l:i<m.length:=by have:=hinv.out.1;omega
   have B:=b.out.ucell i l;have C:=b.out.frozen i;have a1:=(p.getD i).1;have y:A.getD i 0<4294967296:=(p.getD i).2;obtain⟨n,s1,s0⟩:=hinv.out.step p d1 oM;have G:=zH l;clear e1 j l;generalize A.getD i 0=x at *;generalize m.getD i 0=z at *;have o:=zH n;clear n;have s:i<A.length:=oM;have D:0<=q*4294967296+x:=oM
   go_wp2_with (refine ak rfl (.tmp 21) (.tmp 22) _ rfl _ Tryz.underlying37 _ _ _ bM _ _ _ rfl _ _ rfl i oM s p1 o1 E1.out ?_;rw[nU])
   go_roundw
   case rel=>exact⟨i,_,_,oM,nM,rfl,o,zH (b.out.uset i _),hb.setCell (nL _) _⟩
   case measure=>simp[intOf]
  ·obtain rfl:k=0:=oM;have q0:=hinv.out.2.2.1;have q1:q<4294967296:=by have:=hinv.out.2.2.2.1;omega
   go_wp2;go_ret2;have hu:=b.out.u32s hinv.out.2.1;rw[hinv.out.1]at hu;exact⟨_,m,q,rfl,hu,hinv.out.1,hinv.out.done,q0,hinv.out.2.2.2.1,hb⟩
theorem DX(v:Value)(l:List Int)(d:Int)(w:World)(h:dD w v l)(b:l.length<=68719476736)(d0:1<=d)(d1:d<4294967296) :
  Calls Tryz.prog 157 #[v,.int .u32 d] w (yo w (ah l) d l.length):=by
 obtain⟨e,cap,rfl,_,L,m⟩:=h;exact J8 e cap l d w b L m d0 d1
def OQ (w:World) (x y:Int) (e:Ending) (w':World):Prop :=
 ∃n1 m1 n2 m2,e=.returned (.tuple #[.agg #[.bool n1,m1],.agg #[.bool n2,m2]])/\bC w' n1 m1 x/\bC w' n2 m2 y/\Below w.heap.size w w'
theorem uX{P:Program}{fn:Func}{p q:Tmp}{ty:TypeId}(h:fn.results=#[.cell p ty,.cell q ty])(tmps:Array Value)(w:World)(g1 b:Nat){d:TypeDesc}(hu:P.underlying ty=some d)
  (hd:(match d with|.struct _|.array _ _=>true|_=>false)=true) {l m:TypeId} {c1 c2:List Value} (hp:tmps.getD p undef=.pointer (some ⟨g1,0,none⟩)) (hq:tmps.getD q undef=.pointer (some ⟨b,0,none⟩)) (n:Blk w g1 l c1) (o:Blk w b m c2)
  (e:(P.info? ty).map (·.size)=some c1.length) (i:(P.info? ty).map (·.size)=some c2.length) :
  (results fn tmps).run P w=.ok (.tuple #[.agg c1.toArray,.agg c2.toArray]) w:=by
 have j:tmps[p]?.getD undef=.pointer (some ⟨g1,0,none⟩):=by simpa using hp
 have k:tmps[q]?.getD undef=.pointer (some ⟨b,0,none⟩):=by simpa using hq
 have e1:=run_loadVar_row (P:=P) w g1 l ty c1.toArray (0,0) d n hu hd (by simpa using e);have e2:=run_loadVar_row (P:=P) w b m ty c2.toArray (0,0) d o hu hd (by simpa using i);simp[results,h,j,k,asAddr,Sem.run_bind,e1,e2]
theorem OT{w:World}{neg:Bool}{m:Value}{z:Int}(h:bC w neg m z)(hz:aJ z.natAbs<=CS):Calls Tryz.prog 103 #[m,.bool neg] w (kX w z):=by obtain⟨l,d,cap,rfl,hc,b,u,L,e,i,hp,rfl⟩:=h.openS hz;exact jc neg _ l w u oM
theorem Ab{w:World}{neg:Bool}{m:Value}{z:Int}(h:bC w neg m z)(hz:aJ z.natAbs<=CS):Calls Tryz.prog 103 #[m,.bool false] w (kX w z.natAbs):=by obtain⟨l,e,cap,rfl,hc,b,u,L,i,j,hp,rfl⟩:=h.openS hz;have:=jc false _ l w u oM;have d:=aW L;rw[fH,Int.natAbs_of_nonneg d];exact this
theorem J9(v1 v2:Value)(l1:List Int)(d:Int)(w:World)(h1:dD w v1 l1)(h2:dD w v2 [d])(b1:l1.length<=600000000)(hd:1<=d) :
  Calls Tryz.prog 139 #[v1,v2] w (OQ w (ah l1/d) (ah l1%d)):=by
 obtain⟨ao2,cap2,rfl,hc2,L2,m2⟩:=h2;obtain⟨p2,o2,rfl,q⟩:=m2 (by simp[uc]);have s:d<4294967296:=(L2 d sM).2;simp only[List.length_cons,List.length_nil,Nat.zero_add]at hc2 ⊢
 go_enter Tryz.func139,Tryz.ntmps139
 go_upto_region 1 with (fail)
 refine yh λW hb0 B1 B2 z=>?_;have i:=(q.on hb0).ucell 0 sM;simp only[List.getD_cons_zero,Nat.add_zero]at i
 go_upto_region 3 with (first
  | (refine ak rfl (.tmp 21) _ _ rfl _ Tryz.underlying37 _ _ _ bM _ _ _ rfl .i64 0 rfl 0 rfl oM p2 o2 rfl ?_;rw[Nat.zero_mul,Nat.add_zero])
  | (go_at_call 157;refine(DX _ l1 d _ (h1.on hb0) oM hd s).mono ?_;rintro e w1 ⟨v,l,r,rfl,hu,B,he,hr0,hr1,hb1⟩))
 have hq:Hid (ah l1/d=ah l/\ah l1%d=r):=zH (Zk oM he hr0 hr1);have x:0<=r/\r<bJ:=by rw[aV];omega
 clear he i;have hb01:=hb0.trans (hb1.mono hb0.size);have n:=B1.on hb1;have o:=B2.on hb1;have u:ah [r]=r:=by simp[ah]
 go_wp2_with fail
 refine(jc false _ l w1 hu oM).mono ?_;rintro e w2 hret;obtain⟨n3,a3,k3,c3,rfl,i3,hb2⟩:=fB hret;clear hret;have j:Below w2.heap.size w2 (w2.alloc (.cells #[.int .u32 r] uT)):=(Below.refl _ _).alloc (nL _) _
 go_wp2_with fail
 refine(jc false _ [r] _ (dD.newOne w2 x) sM).mono ?_;rintro e w3 hret;obtain⟨n4,a4,k4,c4,rfl,i4,hb3⟩:=fB hret;clear hret;have hb23:=hb2.trans ((j.trans (hb3.mono j.size)).mono hb2.size);have hC1:=n.on hb23;have hC2:=o.on hb23;have k:=i3.on (j.trans (hb3.mono j.size))
 go_wp2_with (first
  | (refine aA rfl _ (.tmp 4) (.tmp 28) rfl _ _ _ _ rfl rfl hC1 rfl aS k.ones ?_;intro w4 R4 gr4;have b:=hC2.grown gr4 oM;have y:=k.stored gr4 hC1 dM;have m:=i4.stored gr4 hC1 dM)
  | (refine aA rfl _ (.tmp 5) (.tmp 31) rfl _ _ _ _ rfl rfl b rfl aS m.ones ?_;intro w5 R5 gr5))
 have p:=hb01.trans (hb23.mono hb01.size);have hlt1:=hC1.lt;have hlt2:=b.lt;refine bodyPost_ret (uX rfl _ _ _ _ Tryz.underlying39 rfl rfl rfl (R4.grown gr5 oM) R5 aS aS) rfl ⟨_,_,_,_,rfl,?_,?_,(p.trans ((aL gr4 (Nat.le_of_lt hlt1) (nL _)).mono oM)).trans ((aL gr5 (Nat.le_of_lt hlt2) (nL _)).mono oM)⟩
 ·have:=y.stored gr5 b dM;rw[hq.out.1];simpa[gK]using this
 ·have:=m.stored gr5 b dM;rw[u]at this;rw[hq.out.2];simpa[gK]using this
theorem ji{x y:Int}{K:Nat}(h:x.natAbs<=y.natAbs)(b:aJ y.natAbs<=K):aJ x.natAbs<=K:=Nat.le_trans (jl h) b
end Go.Proofs.YtopclbeomcggiaaGreat
