/- The integer package of the program: division of absolute values. -/
import Derived.Test.YtopclbeomcggiaaGreatW15
set_option linter.unusedVariables false
set_option linter.unusedSimpArgs false
set_option maxHeartbeats 16000000
set_option maxRecDepth 100000
namespace Go.Proofs.YtopclbeomcggiaaGreat
open Go.RowKit Q
def YS (z:Int):Prop:=z.natAbs<4294967296
theorem BU(v1 v2:Value)(l1 l2:List Int)(w:World)(h1:cO w v1 l1)(h2:cO w v2 l2)(b1:l1.length<=17179869184)(b2:l2.length<=17179869184)(n1:gL l1)(n2:gL l2)(hp:1<=l2.length) :
  Calls Tryz.prog 141 #[v1,v2] w (KI w (ah l1) (ah l2) (l1.length+1)):=by
 have n:=n2.pos h2.limbs oM;by_cases i:ah l1<ah l2
 ·have H:=zH (jB i);have k:=zH i;clear i
  go_enter Tryz.func141,Tryz.ntmps141
  go_wp2_with (first
   | (go_at_call 142;refine(jY _ _ l1 l2 _ h1 h2 oM oM n1 n2).mono ?_;rintro e w1 ⟨rfl,hb1⟩;rw[H.out])
   | (go_at_call 159;refine(KG _ l1 _ (h1.on hb1) oM).mono ?_;rintro e w2 ⟨v,l,rfl,hu,rfl,hb2⟩))
  go_ret2;exact⟨_,_,[],l,rfl,cO.nil,hu,Nat.zero_le _,oM,by simp[ah],k.out,hb1.trans (hb2.mono hb1.size)⟩
 ·have hc:0<=eQ (ah l1) (ah l2):=by unfold eQ;rw[if_neg i];split<;>omega
  have k:=zH i;clear i;by_cases m:l2.length=1
  ·obtain⟨d,rfl⟩:∃d,l2=[d]:=by
    match l2,m with
    | [d],_=>exact⟨d,rfl⟩
   have hd:=h2.limbs d sM;rw[aP]at hd
   have hd1:1<=d:=by
    have:ah [d]=d:=by simp[ah]
    omega
   have hd2:=hd.2;obtain⟨ao2,cap2,rfl,_,L2,m2⟩:=id h2;obtain⟨p2,o2,rfl,hc2⟩:=m2 (by simp[uc]);simp only[List.length_cons,List.length_nil,Nat.zero_add]at *
   go_enter Tryz.func141,Tryz.ntmps141
   go_wp2_with (first
    | (go_at_call 142;refine(jY _ _ l1 [d] _ h1 h2 oM sM n1 n2).mono ?_;rintro e w1 ⟨rfl,hb1⟩;have j:=(hc2.on hb1).ucell 0 sM;simp only[List.getD_cons_zero,Nat.add_zero]at j)
    | (go_at_call 160;refine(OC _ l1 d _ (h1.on hb1) oM hd1 hd2).mono ?_;rintro e w2 ⟨v,l,r,rfl,hu,p,he,hr0,hr1,hb2⟩))
   go_ret2;have hb3:Below w.heap.size w (w2.alloc (.cells #[.int .u32 r] uT)):=(hb1.trans (hb2.mono hb1.size)).alloc (by have:=hb1.size;have:=hb2.size;omega) _;refine⟨_,_,l,[r],rfl,hu.on ((Below.refl _ _).alloc (nL _) _),?_,oM,sM,?_,?_,hb3⟩
   ·exact(Blk.new w2 uT (uc [r])).u32s (aG.nil.cons ⟨hr0,by rw[aP];omega⟩)
   ·rw[he];simp[ah]
   ·simpa[ah]using hr1
  ·have kQ:l2.length<=l1.length:=by
    rcases Nat.lt_or_ge l1.length l2.length with h|h
    ·exfalso;have k1:=gK h1.limbs;have k2:=n2.low h2.limbs oM
     have k3:bv^l1.length<=bv^(l2.length-1):=by obtain⟨d,hd⟩:=Nat.exists_eq_add_of_le (oM:l1.length<=l2.length - 1);rw[hd,Int.pow_add];have a:0<bv^l1.length:=Int.pow_pos dR;have b:0<bv^d:=Int.pow_pos dR;have:=mZ (oM:(1:Int)<=bv^d) (Int.le_of_lt a);omega
     have:=k.out;omega
    ·exact h
   have hb2:((l2.length:Int)==1)=false:=by simp;omega
   have hb3:¬(l2.length:Int)=1:=oM;have hn2:2<=l2.length:=oM;obtain⟨ao2,cap2,rfl,_,L2,m2⟩:=id h2
   go_enter Tryz.func141,Tryz.ntmps141
   go_wp2_with (first
    | (go_at_call 142;refine(jY _ _ l1 l2 _ h1 h2 oM oM n1 n2).mono ?_;rintro e w1 ⟨rfl,hb1⟩)
    | (go_at_call 161;refine(Qs _ _ l1 l2 _ (h1.on hb1) (h2.on hb1) b1 n2 hn2 kQ).mono ?_;rintro e w2 ⟨v1,v2,q,r,rfl,hq,hr,o,lr,he,hlt2,hb2⟩))
   go_ret2;exact⟨_,_,q,r,rfl,hq,hr,o,lr,he,hlt2,hb1.trans (hb2.mono hb1.size)⟩
theorem uj{w:World}{neg:Bool}{b:Option Addr}{n cap:Nat}{z:Int}(h:aZ w neg (.slice b n cap) z):n=0↔z=0:=by obtain⟨_,_,_,e,h,_⟩:=h.shape;cases e;exact h
theorem Ij(q d r:Int):Int.gcd (q*d+r) d=Int.gcd d r:=by rw[Int.gcd_comm];simp
theorem BV{l:List Int}(b:aG l){K:Nat}(h:aF (ah l).natAbs<=32*K):ah l<bv^K:=by have d:=pR (ah l).natAbs;have e:2^aF (ah l).natAbs<=2^(32*K):=Nat.pow_le_pow_right dM h;have:=aU b;rw[MF];omega
theorem EP{w:World}{neg:Bool}{m:Value}{n:Int}(h:aZ w neg m (fZ false n))(j:0<=n):∃l,cO w m l/\gL l/\ah l=n:=by
 obtain⟨l,d,e,i,b⟩:=h;refine⟨l,d,e,?_⟩;cases neg
 ·simp only[fZ]at b;rw[if_neg sM,if_neg sM]at b;exact b.symm
 ·have:=e.pos d.limbs (i rfl);simp only[fZ,if_true]at b;rw[if_neg sM]at b;omega
def Eu (g:Nat) (K:Nat) (n:Nat) (x y:Value) (w:World):Prop :=
 ∃lx ly,cO w x lx/\cO w y ly/\gL lx/\gL ly/\ah lx<bv^K/\ah ly<bv^K/\Int.gcd (ah lx) (ah ly)=g/\(ah ly).toNat<=n
theorem OE(neg:Bool)(b:Option Addr)(n c:Nat)(w:World):(Instr.field 39 (.agg #[.bool neg,.slice b n c]) 1).run Tryz.prog w=.ok (.slice b n c) w:=kM
theorem Tg(n1 n2:Bool)(m1 m2:Value)(z1 z2:Int)(w:World)(h1:aZ w n1 m1 z1)(h2:aZ w n2 m2 z2)(c1:aF z1.natAbs<=jl/4)(c2:aF z2.natAbs<=jl/4) :
  Calls Tryz.prog 128 #[.agg #[.bool n1,m1],.agg #[.bool n2,m2]] w (kY w (Int.gcd z1 z2)):=by
 go_enter Tryz.func128,Tryz.ntmps128
 go_upto_region 1 with (fail)
 refine rQ λW hb0 B1 B2 B3 a1=>?_;have e1:=B1.at1 1 _ rfl;have e2:=B2.at1 1 _ rfl
 go_quiet (fail)
 obtain⟨W1,hW1⟩:∃W1,W1=W.drewN nq:=⟨_,rfl⟩;rw[<-hW1];have hb1:Below W.heap.size W W1:=by rw[hW1];exact oZ (Below.refl _ _) _
 clear hW1 e1 e2;obtain⟨l1,u1,nn1,_,v1⟩:=h1;obtain⟨l2,u2,nn2,_,v2⟩:=h2;obtain⟨K,hK,hK2⟩:∃K:Nat,jl/4<=32*K/\K<=8589934592:=⟨8589934592,dM,nL _⟩;have k1:ah l1<bv^K:=BV u1.limbs (by rw[v1,fe]at c1;omega);have k2:ah l2<bv^K:=BV u2.limbs (by rw[v2,fe]at c2;omega)
 have hg:Int.gcd (ah l1) (ah l2)=Int.gcd z1 z2:=by rw[v1,v2];cases n1<;>cases n2<;>simp[fZ]
 have hm1:=u1.on (hb0.trans (hb1.mono hb0.size));have hm2:=u2.on (hb0.trans (hb1.mono hb0.size));have s:=B3.on hb1;have b:Eu (Int.gcd z1 z2) K (ah l2).toNat m1 m2 W1:=⟨l1,l2,hm1,hm2,nn1,nn2,k1,k2,hg,nL _⟩;generalize(ah l2).toNat=n0 at b;clear u1 u2 nn1 nn2 v1 v2 k1 k2 hg hm1 hm2 c1 c2 B1 B2 B3;replace b:=zH b;go_wp2
 go_loopg [5,6] n0 (λn x y wr=>Hid (Eu (Int.gcd z1 z2) K n x y wr)/\Below W.heap.size W wr/\Hid (Blk wr (w.heap.size+1+1) 39 [.bool false,.slice none 0 0]))
 case atStart=>exact⟨b,hb1,s⟩
 case round =>
  obtain⟨j,hb,hB⟩:=hrel;clear b hb1;obtain⟨X,o,l,z,C,p,kx,M,hg,hn⟩:=j.out;obtain⟨ao,cap,rfl,I,F,my⟩:=id z;have N:=C.len_le l.limbs kx;have S:=p.len_le F M;have D:=zH hg;clear j hg;by_cases hp:0<o.length
  ·have L:=p.pos F hp
   go_wp2_with (first
    | (go_at_call 141;refine(BU _ _ X o _ l z oM oM C p hp).mono ?_;rintro e w2 ⟨v1,v2,q,r,rfl,hq,hr,lq,lr,he,a0,hb2⟩;replace he:=zH he)
    | (go_at_call 112;refine(lI false _ r _ hr oM).mono ?_;rintro e w3 ⟨neg,m,rfl,k,hb3⟩;obtain⟨ao3,n3,cap3,rfl,_,_⟩:=k.shape;have J:=OE neg ao3 n3 cap3))
   obtain⟨r',u,B,i⟩:=EP k (aU hr.limbs);have d:=(hb2.trans (hb3.mono hb2.size));go_roundg ((ah r).toNat)
   case measure=>have:=aU hr.limbs;omega
   case rel=>exact⟨zH ⟨o,r',z.on d,u,p,B,M,by rw[i];omega,by rw[i,<-D.out,he.out,Ij],by rw[i];exact nL _⟩,hb.trans (d.mono hb.size),hB.out.on d⟩
  ·obtain rfl:o=[]:=List.eq_nil_of_length_eq_zero oM
   have k:aZ wr false _ (Int.gcd z1 z2):=⟨X,l,C,(λh=>by cases h),by
    have:=D.out;have hl:=aU l.limbs;simp only[ah,Int.gcd_zero_right]at this
    rw[<-this];simp only[fZ];rw[if_neg sM];omega⟩
   obtain⟨Y,G,rfl,_,_,_⟩:=id l
   go_wp2_with (refine az rfl _ (.tmp 4) (.tmp 27) rfl _ _ _ _ rfl rfl hB.out rfl aK k.ones ?_;intro w3 R Z)
   exact dH rfl rfl rfl R Tryz.underlying39 rfl aK (jd hb0 hb oM hB.out k Z)
def UF (w:World) (x y:Int) (e:Ending) (w':World):Prop :=
 ∃n1 m1 n2 m2,e=.returned (.tuple #[.agg #[.bool n1,m1],.agg #[.bool n2,m2],.int .i64 0])/\aZ w' n1 m1 x/\aZ w' n2 m2 y/\Below w.heap.size w w'
theorem WL{z d q r:Int}(hd:0<d)(h:z=q*d+r)(b:0<=r)(e:r<d):z/d=q/\z%d=r:=by rw[Int.ediv_emod_unique hd];exact⟨by rw[h,Int.mul_comm];omega,b,e⟩
theorem MM{n1 n2:Bool}{d b q r:Int}(h:d=q*b+r)(i:0<=r)(j:r<b)(k:n1=false\/r=0) :
  (if n1 != n2 then -(fZ n1 d/fZ n2 b)else fZ n1 d/fZ n2 b)=q/\fZ n1 d%fZ n2 b=r:=by
 have e:fZ n1 d=(if n1 then -q else q)*b+r:=by
  rcases k with rfl|rfl
  ·simpa[fZ]using h
  ·cases n1<;>simp[fZ,h]<;>grind
 have:=WL oM e i j;cases n1<;>cases n2<;>simp_all[fZ]
theorem Qt{n2:Bool}{d b q r:Int}(h:d=q*b+r)(i:0<r)(j:r<b) :
  (if true != n2 then -(fZ true d/fZ n2 b)else fZ true d/fZ n2 b)=q+1/\fZ true d%fZ n2 b=b-r:=by
 have e:fZ true d=(-(q+1))*b+(b-r):=by simp only[fZ,if_true,h];grind
 have:=WL oM e oM oM;cases n2<;>simp_all[fZ]
theorem EQ{a b:Bool}(h:true=(a&&b)):a=true:=by cases a<;>simp_all
theorem xq{P:Program}{fn:Func}{p q u:Tmp}{ty:TypeId}(h:fn.results=#[.cell p ty,.cell q ty,.tmp u])(tmps:Array Value)(w:World)(g1 b:Nat){d:TypeDesc}(hu:P.underlying ty=some d)
  (hd:(match d with|.struct _|.array _ _=>true|_=>false)=true) {l m:TypeId} {c1 c2:List Value} (hp:tmps.getD p undef=.pointer (some ⟨g1,0,none⟩)) (hq:tmps.getD q undef=.pointer (some ⟨b,0,none⟩)) (o:Blk w g1 l c1) (r:Blk w b m c2)
  (e:(P.info? ty).map (·.size)=some c1.length) (i:(P.info? ty).map (·.size)=some c2.length) :
  (results fn tmps).run P w.drew=.ok (.tuple #[.agg c1.toArray,.agg c2.toArray,tmps.getD u undef]) w.drew:=by
 have j:tmps[p]?.getD undef=.pointer (some ⟨g1,0,none⟩):=by simpa using hp
 have k:tmps[q]?.getD undef=.pointer (some ⟨b,0,none⟩):=by simpa using hq
 have e1:=run_loadVar_row (P:=P) w.drew g1 l ty c1.toArray (0,0) d o.drew hu hd (by simpa using e);have n:=run_loadVar_row (P:=P) w.drew b m ty c2.toArray (0,0) d r.drew hu hd (by simpa using i);simp[results,h,j,k,asAddr,Sem.run_bind,e1,n]
def DM (g:Nat) (x y:Int) (w:World):Prop:=∃nq aq kq cq nr ar kr cr,Blk w g 39 [.bool nq,.slice aq kq cq]/\Blk w (g+1) 39 [.bool nr,.slice ar kr cr] /\
 aZ w nq (.slice aq kq cq) x/\aZ w nr (.slice ar kr cr) y
theorem eD{w w':World}{z:Int}{e:Ending}(h:kY w z e w'):∃neg b n cap,e=.returned (.agg #[.bool neg,.slice b n cap])/\aZ w' neg (.slice b n cap) z/\Below w.heap.size w w':=by obtain⟨neg,m,rfl,d,hb⟩:=h;obtain⟨b,n,cap,rfl,_,_⟩:=d.shape;exact⟨neg,b,n,cap,rfl,d,hb⟩
theorem zW(n1 n2:Bool)(m1 m2:Value)(z1 z2:Int)(w:World)(h1:aZ w n1 m1 z1)(h2:aZ w n2 m2 z2)(c1:aF z1.natAbs<=jl/4)(c2:aF z2.natAbs<=jl/4)(hz:z2≠0) :
  Calls Tryz.prog 130 #[.agg #[.bool n1,m1],.agg #[.bool n2,m2]] w (UF w (z1/z2) (z1%z2)):=by
 obtain⟨l1,ao1,cap1,rfl,u1,b1,nn1,e1⟩:=gz h1 (by unfold jl at *;omega);obtain⟨l2,ao2,cap2,rfl,u2,b2,nn2,e2⟩:=gz h2 (by unfold jl at *;omega);have k1:l1.length<=8589934592:=aZ.len nn1 u1.limbs (by rw[e1,fe]at c1;unfold jl at c1;omega);have k2:l2.length<=8589934592:=aZ.len nn2 u2.limbs (by rw[e2,fe]at c2;unfold jl at c2;omega)
 have hp:0<l2.length:=by
  rcases Nat.eq_zero_or_pos l2.length with h|h
  ·exfalso;apply hz;obtain rfl:l2=[]:=List.eq_nil_of_length_eq_zero h;rw[e2];cases n2<;>rfl
  ·exact h
 have ab:((l2.length:Int)==0)=false:=beq_eq_false_iff_ne.2 oM;replace h1:=zH h1;replace h2:=zH h2;have hc1:Hid (aF (ah l1).natAbs<=jl/4):=by rw[e1,fe]at c1;exact c1
 replace e1:=zH e1;replace e2:=zH e2;clear c1 c2 b1 b2
 go_enter Tryz.func130,Tryz.ntmps130
 go_upto_region 1 with (fail)
 refine WH λW hb0 B1 B2 B3 B4 ac=>?_;have x1:=B1.at1 1 _ rfl;have x2:=B2.at1 1 _ rfl
 go_upto_region 5 with (first
  | (go_at_call 141;refine(BU _ _ l1 l2 _ (u1.on hb0) (u2.on hb0) oM oM nn1 nn2 hp).mono ?_;rintro e w1 ⟨v1,v2,q,r,rfl,hq,hr,lq,lr,he,L,hb1⟩;replace he:=zH he)
  | (go_at_call_of 112 (v1);refine(lI false _ q _ hq oM).mono ?_;rintro e w2 hret;obtain⟨nq,Z,kq,j,rfl,k,hb2⟩:=eD hret;clear hret)
  | (go_at_call_of 112 (v2);refine(lI false _ r _ (hr.on hb2) oM).mono ?_;rintro e w3 hret;obtain⟨nr,ar,C,a5,rfl,b,hb3⟩:=eD hret;clear hret))
 have s:Below W.heap.size W w3:=hb1.trans ((hb2.mono hb1.size).trans (hb3.mono (Nat.le_trans hb1.size hb2.size)));refine xc λW' hb4 n F a7=>?_;have hB:=s.trans (hb4.mono s.size);replace B1:=B1.keep hB B1.lt;replace B2:=B2.keep hB B2.lt;replace B3:=B3.keep hB B3.lt;replace B4:=B4.keep hB B4.lt;replace k:=(k.on hb3).on hb4;replace b:=b.on hb4;replace hb0:=hb0.trans (hB.mono hb0.size);have M:ah r<ah l2:=L;have hr0:=aU hr.limbs;have hne34:w.heap.size+1+1+1<w3.heap.size:=by have:=s.size;omega
 generalize w3.heap.size=g at *;clear s hb4 hB hb1 hb2 hb3 hq hr lq lr L;obtain⟨t,u⟩:∃t:Bool,t=(n1&&decide (0<C)):=⟨_,rfl⟩;replace u:=zH u;have y1:=B1.at1 0 _ rfl;have y2:=F.at1 1 _ rfl
 go_cut [36] (λv wc=>v=.bool t/\W'=wc)
 case first =>
  cases n1
  ·go_wp2;go_meet
   case rel=>exact⟨by rw[u.out];rfl,rfl⟩
  ·by_cases hk:0<C
   ·have hd:decide (0<(C:Int))=true:=by simp;omega
    have B:Hid (decide (0<C)=true):=zH (by simpa using hk);go_wp2;go_meet
    case rel=>exact⟨by rw[u.out,B.out];rfl,rfl⟩
   ·obtain rfl:C=0:=oM;go_wp2;go_meet
    case rel=>exact⟨by rw[u.out];rfl,rfl⟩
 case rest =>
  obtain⟨rfl,rfl⟩:=hcut
  go_upto_if 36 with (fail)
  go_cut [] (λwc=>Below w.heap.size w wc/\w.heap.size+1+1+1<g/\Hid (Blk wc w.heap.size 39 [.bool n1,.slice ao1 l1.length cap1])/\Hid (Blk wc (w.heap.size+1) 39 [.bool n2,.slice ao2 l2.length cap2]) /\
   Hid (Blk wc (w.heap.size+1+1) 39 [.bool false,.slice none 0 0])/\Hid (Blk wc (w.heap.size+1+1+1) 39 [.bool false,.slice none 0 0])/\Hid (DM g (if n1 != n2 then -(z1/z2)else z1/z2) (z1%z2) wc))
  case first =>
   cases t
   ·go_wp2;go_meet
    case rel =>
     have:=u.out
     have hz:n1=false\/ah r=0:=by
      cases n1
      ·exact .inl rfl
      ·right;rw[Bool.true_and]at this;have hk:=of_decide_eq_false this.symm;exact(uj b).1 oM
     have hm:=MM (n1:=n1) (n2:=n2) he.out hr0 M hz;rw[<-e1.out,<-e2.out]at hm;exact⟨hb0,hne34,zH B1,zH B2,zH B3,zH B4,zH ⟨_,_,_,_,_,_,_,_,n,F,by rw[hm.1];exact k,by rw[hm.2];exact b⟩⟩
   ·have hn1:n1=true:=EQ u.out;subst hn1;have aa:0<C:=by have h:=u.out;rw[Bool.true_and]at h;exact of_decide_eq_true h.symm
    have a1:0<ah r:=by
     rcases Int.lt_or_eq_of_le hr0 with h|h
     ·exact h
     ·have:=(uj b).2 h.symm;omega
    have hm:=Qt (n2:=n2) he.out a1 M;rw[<-e1.out,<-e2.out]at hm;replace hm:=zH hm;have hq0:0<=ah q:=by have:=he.out;have:=aU u1.limbs;rcases Int.lt_or_le (ah q) 0 with h|h;· { have:ah q*ah l2<=(-1)*ah l2:=Int.mul_le_mul_of_nonneg_right oM oM;omega };· exact h
    have a0:Hid (aF (fZ false (ah q)).natAbs<=jl):=by have:=he.out;have h2:ah q*1<=ah q*ah l2:=mZ oM hq0;have h3:=iV (show(fZ false (ah q)).natAbs<=(ah l1).natAbs by rw[fe];omega);have:=hc1.out;exact Nat.le_trans h3 (Nat.le_trans this dM)
    obtain⟨r',N,a3,a2⟩:=EP b hr0;have J:=iW u2.limbs N.limbs a3 oM
    go_upto_region 6 with (fail)
    refine iL mixed [.eq (.agg #[.bool nq,.slice Z kq j]),.int 1,.int (ah q+1)] [37,38,39] rfl rfl rfl ⟨?_,?_,?_,trivial⟩ ?_
    ·intro A w1 hA hb he;have h9:A.eval (.tmp 9)=.pointer (some ⟨g,0,none⟩):=hA 9 rfl;have c0:=(n.on hb).at1 0 _ rfl;have c1:=(n.on hb).at1 1 _ rfl;refine aL rfl ?_;exact gZ
    ·intro A w1 hA hb he;have hf0:=eF A 85;have hc0:=eC A (.int .i64 1);refine dh (f:=85) (args:=#[(.int .i64 1)]) ?_ ?_
     ·exact gZ
     ·refine(BQ 1 _ oM oM).mono ?_;rintro e w' ⟨neg,m,rfl,I,hb⟩;exact⟨_,rfl,hb,neg,m,rfl,I⟩
    ·intro A w1 hA hb he;have h37:A.eval (.tmp 37)=.agg #[.bool nq,.slice Z kq j]:=he.1 rfl;have f38:((.int 1:bX)).p (A.eval (.tmp 38)) w1:=he.2.1 rfl;obtain⟨v38,h38⟩:∃v,A.eval (.tmp 38)=v:=⟨_,rfl⟩;rw[h38]at f38;have hf0:=eF A 131;refine dh (f:=131) (args:=#[.agg #[.bool nq,.slice Z kq j],v38]) ?_ ?_
     ·exact gZ
     ·obtain⟨neg,m,rfl,I⟩:=f38;refine(MH _ _ _ _ _ _ _ (k.on hb) I a0.out dM).mono ?_;rintro e w' ⟨neg,m,rfl,I,hb⟩;exact⟨_,rfl,hb,neg,m,rfl,I⟩
    ·intro w4 hb5;simp only[pV,bX.eq,bX.u32,bX.int,bX.of,lZ];rintro _ - _ ⟨al,ag,rfl,i⟩;obtain⟨a8,ad,a9,rfl,_,_⟩:=i.shape;go_frame;refine az rfl _ (.tmp 9) (.tmp 39) rfl _ _ _ _ rfl rfl (n.on hb5) rfl aK i.ones ?_;intro w5 R5 gr5;have G:Below w.heap.size w w5:=hb0.trans ((hb5.mono hb0.size).trans ((aH gr5 (Nat.le_of_lt (n.on hb5).lt) (nL g)).mono oM));have S:=(B1.on hb5).grown gr5 oM;have D:=(B2.on hb5).grown gr5 oM;have X:=(B3.on hb5).grown gr5 oM;have Y:=(B4.on hb5).grown gr5 oM;have o:=(F.on hb5).grown gr5 oM;have a4:=((u2.on hb0).on hb5).stored gr5 (n.on hb5) dM;have hir5:=(N.on hb5).stored gr5 (n.on hb5) dM;have hiq5:=i.stored gr5 (n.on hb5) dM;clear B1 B2 B3 B4 F n hb5 gr5 i y1 y2 x1 x2;have an:=D.at1 1 _ rfl;have ao:=o.at1 1 _ rfl
     go_wp2_with (first
      | (go_at_call 143;refine(yO _ _ l2 r' _ a4 hir5 oM J oM).mono ?_;rintro e w6 ⟨v,l,rfl,hu,⟨hv,hl⟩,hb6⟩)
      | (go_at_call 112;refine(lI false _ l _ hu oM).mono ?_;rintro e w7 hret;obtain⟨nr2,ar2,kr2,capr2,rfl,hir2,hb7⟩:=eD hret;clear hret)
      | (refine az rfl _ (.tmp 10) (.tmp 45) rfl _ _ _ _ rfl rfl ((o.on hb6).on hb7) rfl aK hir2.ones ?_;intro w8 R8 gr8))
     have hb67:Below w5.heap.size w5 w7:=hb6.trans (hb7.mono hb6.size);have y:=o.on hb67;have hs5:=o.lt;have hs7:=y.lt;go_meet
     case rel =>
      have hm:=hm.out;refine⟨G.trans ((hb67.mono G.size).trans ((aH gr8 (Nat.le_of_lt hs7) (nL (g+1))).mono oM)),hne34,zH ((S.on hb67).grown gr8 oM),zH ((D.on hb67).grown gr8 oM),zH ((X.on hb67).grown gr8 oM),zH ((Y.on hb67).grown gr8 oM),zH ⟨_,_,_,_,_,_,_,_,(R5.on hb67).grown gr8 oM,R8,?_,?_⟩⟩
      ·rw[hm.1];exact(hiq5.on hb67).stored gr8 y dM
      ·rw[hm.2,<-a2,<-hv];exact hir2.stored gr8 y dM
  case rest =>
   obtain⟨hb,a6,hB1,hB2,hB3,hB4,z⟩:=hcut;obtain⟨nq1,aq1,kq1,cq1,nr1,ar1,kr1,cr1,Bq1,Br1,hiq1,hir1⟩:=z.out;have x1:=hB1.out.at1 0 _ rfl;have x2:=hB2.out.at1 0 _ rfl
   go_upto_if 50 with (fail)
   clear B1 B2 B3 B4 n F k b u1 u2 x1 x2 hB1 hB2;have hlt1:=Br1.lt
   go_cut [] (λwd=>Below w.heap.size w wd/\Hid (Blk wd (w.heap.size+1+1) 39 [.bool false,.slice none 0 0])/\Hid (Blk wd (w.heap.size+1+1+1) 39 [.bool false,.slice none 0 0])/\Hid (DM g (z1/z2) (z1%z2) wd))
   case first =>
    obtain⟨d,hd⟩:∃d:Bool,d=(n1 != n2):=⟨_,rfl⟩;have B:(!(n1==n2))=d:=by rw[hd];rfl
    rw[<-hd]at hiq1;rw[B];have y1:=Bq1.at1 0 _ rfl;have y2:=Bq1.at1 1 _ rfl;cases d
    ·go_wp2;go_meet
     case rel=>exact⟨hb,hB3,hB4,zH ⟨_,_,_,_,_,_,_,_,Bq1,Br1,hiq1,hir1⟩⟩
    ·rw[if_pos rfl]at hiq1
     go_wp2_with (first
      | (go_at_call 127;refine(Gc _ _ _ _ hiq1).mono ?_;rintro e w2 hret;obtain⟨nq2,aq2,kq2,capq2,rfl,hiq2,hb2⟩:=eD hret;clear hret;rw[Int.neg_neg]at hiq2)
      | (refine az rfl _ (.tmp 9) (.tmp 52) rfl _ _ _ _ rfl rfl (Bq1.on hb2) rfl aK hiq2.ones ?_;intro w3 R3 gr3))
     have x:=Bq1.on hb2;go_meet
     case rel=>exact⟨hb.trans ((hb2.mono hb.size).trans ((aH gr3 (Nat.le_of_lt x.lt) (nL g)).mono oM)),zH ((hB3.out.on hb2).grown gr3 oM),zH ((hB4.out.on hb2).grown gr3 oM),zH ⟨_,_,_,_,_,_,_,_,R3,(Br1.on hb2).grown gr3 oM,hiq2.stored gr3 x dM,(hir1.on hb2).stored gr3 x dM⟩⟩
   case rest =>
    obtain⟨hb,hB3,hB4,z⟩:=hcut;obtain⟨nq1,aq1,kq1,cq1,nr1,ar1,kr1,cr1,Bq1,Br1,hiq1,hir1⟩:=z.out
    go_upto_region 10 with (fail)
    have y1:=Bq1.at1 0 _ rfl;have y2:=Bq1.at1 1 _ rfl;have y3:=Br1.at1 0 _ rfl;have y4:=Br1.at1 1 _ rfl;have s1:=hB3.out.at1 0 _ rfl;have s2:=hB3.out.at1 1 _ rfl;have s3:=hB4.out.at1 0 _ rfl;have s4:=hB4.out.at1 1 _ rfl;have f1:=hB3.out.frozen 0;have f2:=hB3.out.frozen 1;have f3:=hB4.out.frozen 0;have f4:=hB4.out.frozen 1
    go_region
    obtain⟨R1,gr1⟩:=dW [.bool nq1,.slice aq1 kq1 cq1] 0 wc _ hB3.out sM;obtain⟨R2,gr2⟩:=dW [.bool nr1,.slice ar1 kr1 cr1] 0 _ _ (hB4.out.grown gr1 oM) sM;have hR1:=R1.grown gr2 oM;have hiq2:=(hiq1.stored gr1 hB3.out dM).stored gr2 (hB4.out.grown gr1 oM) dM;have hir2:=(hir1.stored gr1 hB3.out dM).stored gr2 (hB4.out.grown gr1 oM) dM;have hb3:Below w.heap.size w _:=(hb.trans ((aH gr1 (Nat.le_of_lt hB3.out.lt) (nL _)).mono oM)).trans ((aH gr2 (Nat.le_of_lt (hB4.out.grown gr1 oM).lt) (nL _)).mono oM);go_wp2;exact bodyPost_ret (xq rfl _ _ _ _ Tryz.underlying39 rfl rfl rfl hR1 R2 aK aK) rfl ⟨_,_,_,_,rfl,hiq2,hir2,oZ hb3 1⟩
def ER (w:World) (v:Value) (x y:Int):Prop:=∃g n1 a1 k1 c1 n2 a2 k2 c2,v=.slice (some ⟨g,0,none⟩) 2 2/\Blk w g 39 [.bool n1,.slice a1 k1 c1,.bool n2,.slice a2 k2 c2]/\aZ w n1 (.slice a1 k1 c1) x/\aZ w n2 (.slice a2 k2 c2) y
theorem ER.on{w w':World}{v:Value}{x y:Int}(h:ER w v x y)(hb:Below w.heap.size w w'):ER w' v x y:=by obtain⟨g,n1,b,l,c1,n2,d,m,c2,e,k,i,j⟩:=h;exact⟨g,n1,b,l,c1,n2,d,m,c2,e,k.on hb,i.on hb,j.on hb⟩
def yU (x y:Int) (i:Nat):Int:=if i=0 then 1 else if i=1 then x else x*y
def uk (g:Nat) (z:Int) (w:World):Prop:=∃n a k c,Blk w g 39 [.bool n,.slice a k c]/\aZ w n (.slice a k c) z
theorem Ik{x y:Int}(c1:aF x.natAbs<=jl/4)(c2:aF y.natAbs<=jl/4)(i:Nat):aF (yU x y i).natAbs<=jl:=by
 unfold yU;split
 ·decide
 ·split
  ·unfold jl at *;omega
  ·have:=gB x.natAbs y.natAbs;rw[Int.natAbs_mul];unfold jl at *;omega
theorem mW(v:Value)(x y:Int)(w:World)(h:ER w v x y)(c1:aF x.natAbs<=jl/4)(c2:aF y.natAbs<=jl/4) :
  Calls Tryz.prog 84 #[v] w (kY w (x*y)):=by
 obtain⟨g,n1,a1,k1,q1,n2,a2,k2,q2,rfl,hB,h1,h2⟩:=h
 go_enter Tryz.func84,Tryz.ntmps84
 go_upto_region 1 with (fail)
 refine jb λW hb0 B2 u=>?_;have n:=Ik c1 c2;have p:aF x.natAbs<=jl:=by unfold jl at *;omega
 have q:aF y.natAbs<=jl:=by unfold jl at *;omega
 clear c1 c2
 go_upto_region 2 with (go_at_call 85;refine(BQ 1 _ oM oM).mono ?_;rintro e w1 hret;obtain⟨n0,a0,k0,q0,rfl,m,hb1⟩:=eD hret;clear hret)
 refine jb λz hb2 B3 o=>?_;have hb3:=hb1.trans (hb2.mono hb1.size);replace B2:=B2.on hb3;replace m:=m.on hb2;replace hb0:=hb0.trans (hb3.mono hb0.size);have b:w.heap.size<w1.heap.size:=by have:=hb1.size;omega
 generalize w1.heap.size=r at *;clear hb1 hb2 hb3;go_wp2
 go_loopw [9] (λi wr=>∃k:Nat,k<=2/\i=.int .i64 k/\Below w.heap.size w wr/\w.heap.size<r/\Hid (uk r (yU x y k) wr)/\Hid (Blk wr w.heap.size 39 [.bool false,.slice none 0 0])) (λi _=>2-(intOf i).toNat)
 case atStart=>exact⟨0,oM,rfl,hb0,b,zH ⟨_,_,_,_,B3,m⟩,zH B2⟩
 case round =>
  clear hb0 b B3 m B2;obtain⟨k,B,rfl,hb,b,l,d⟩:=hrel;obtain⟨n3,a3,k3,q3,B3,i3⟩:=l.out;have d1:=B3.at1 0 _ rfl;have d2:=B3.at1 1 _ rfl;have hG:=hB.keep hb hB.lt;have s:=hB.lt;have z1:=hG.at1 0 _ rfl;have z2:=hG.at1 1 _ rfl;have z3:=hG.at1 2 _ rfl;have z4:=hG.at1 3 _ rfl;obtain rfl|rfl|rfl:k=0\/k=1\/k=2:=oM
  ·go_upto_region 5 with (fail)
   refine jb λW1 hb1 B5 hsz1=>?_;have e1:=(B3.on hb1).at1 0 _ rfl;have e2:=(B3.on hb1).at1 1 _ rfl;have e3:=B5.at1 0 _ rfl;have e4:=B5.at1 1 _ rfl
   go_wp2_with (first
    | (go_at_call 111;refine(MK _ _ _ _ _ _ _ (i3.on hb1) (((h1.on hb).on hb1)) (n 0) p).mono ?_;rintro e w2 hret;obtain⟨n4,a4,k4,q4,rfl,i4,hb2⟩:=eD hret;clear hret)
    | (refine az rfl _ (.tmp 3) (.tmp 15) rfl _ _ _ _ rfl rfl ((B3.on hb1).on hb2) rfl aK i4.ones ?_;intro w3 R3 gr3))
   have hB3:=(B3.on hb1).on hb2;go_roundw
   case measure=>simp[intOf]
   case rel =>
    refine⟨1,oM,nM,hb.trans (((hb1.trans (hb2.mono hb1.size)).mono hb.size).trans ((aH gr3 (Nat.le_of_lt hB3.lt) (nL r)).mono oM)),b,zH ⟨_,_,_,_,R3,?_⟩,zH (((d.out.on hb1).on hb2).grown gr3 oM)⟩;have:=i4.stored gr3 hB3 dM;simp only[yU,if_true,if_false,Int.one_mul]at this ⊢;exact this
  ·go_upto_region 5 with (fail)
   refine jb λW1 hb1 B5 hsz1=>?_;have e1:=(B3.on hb1).at1 0 _ rfl;have e2:=(B3.on hb1).at1 1 _ rfl;have e3:=B5.at1 0 _ rfl;have e4:=B5.at1 1 _ rfl
   go_wp2_with (first
    | (go_at_call 111;refine(MK _ _ _ _ _ _ _ (i3.on hb1) (((h2.on hb).on hb1)) (n 1) q).mono ?_;rintro e w2 hret;obtain⟨n4,a4,k4,q4,rfl,i4,hb2⟩:=eD hret;clear hret)
    | (refine az rfl _ (.tmp 3) (.tmp 15) rfl _ _ _ _ rfl rfl ((B3.on hb1).on hb2) rfl aK i4.ones ?_;intro w3 R3 gr3))
   have hB3:=(B3.on hb1).on hb2;go_roundw
   case measure=>simp[intOf]
   case rel =>
    refine⟨2,oM,nM,hb.trans (((hb1.trans (hb2.mono hb1.size)).mono hb.size).trans ((aH gr3 (Nat.le_of_lt hB3.lt) (nL r)).mono oM)),b,zH ⟨_,_,_,_,R3,?_⟩,zH (((d.out.on hb1).on hb2).grown gr3 oM)⟩;have:=i4.stored gr3 hB3 dM;simp only[yU,if_true,if_false]at this ⊢;exact this
  ·have j:=d.out;rw[show yU x y 2=x*y from rfl]at i3
   go_wp2_with (refine az rfl _ (.tmp 2) (.tmp 17) rfl _ _ _ _ rfl rfl j rfl aK i3.ones ?_;intro w3 R3 gr3)
   exact dH rfl rfl rfl R3 Tryz.underlying39 rfl aK (jd hb (Below.refl _ _) (nL _) j i3 gr3)
def bM (w:World) (v:Value) (q:Rat):Prop:=∃n a k c n' a' k' c',v=.agg #[.bool n,.slice a k c,.bool n',.slice a' k' c']/\aZ w n (.slice a k c) q.num/\aZ w n' (.slice a' k' c') (q.den:Int)
theorem bM.on{w w':World}{v:Value}{q:Rat}(h:bM w v q)(hb:Below w.heap.size w w'):bM w' v q:=by obtain⟨n,a,k,c,n',a',k',c',e,b,d⟩:=h;exact⟨n,a,k,c,n',a',k',c',e,b.on hb,d.on hb⟩
theorem bM.stored{w w':World}{v:Value}{q:Rat}{R:Nat}{T':TypeId}{b:List Value}(h:bM w v q)(hg:w.grownBy w' (some R))(d:Blk w R T' b)(i:uT≠T'):bM w' v q:=by obtain⟨n,a,k,c,n',a',k',c',e,j,l⟩:=h;exact⟨n,a,k,c,n',a',k',c',e,j.stored hg d i,l.stored hg d i⟩
end Go.Proofs.YtopclbeomcggiaaGreat
namespace Q
open Go.Proofs.YtopclbeomcggiaaGreat
def bX.rat (q:Rat):bX:=bX.of (λv w=>bM w v q) (λ_ _ _ hb h=>h.on hb)
def bX.ints2 (x y:Int):bX:=bX.of (λv w=>ER w v x y) (λ_ _ _ hb h=>h.on hb)
end Q
namespace Go.Proofs.YtopclbeomcggiaaGreat
open Go.RowKit Q
def pX (w:World) (q:Rat) (e:Ending) (w':World):Prop:=∃v,e=.returned v/\bM w' v q/\Below w.heap.size w w'
theorem dA:(Tryz.prog.info? 41).map (·.size)=some 4:=kM
theorem lX{P:Program}{o:Oper}{A:Act}{w:World}{i:Nat}{φ:Nat->Value->World->Prop}{Q:Exit->Act->World->Prop}{x y:Int}{n1 n2:Bool}{d e:Option Addr}{j c1 k c2:Nat}
  (l:aZ w n1 (.slice d j c1) x) (m:aZ w n2 (.slice e k c2) y)
  (b:(execOp A.eval o).run P w=.ok (.value (.slice (some ⟨w.heap.size,0,none⟩) 2 2)) (w.alloc (.cells #[.bool n1,.slice d j c1,.bool n2,.slice e k c2] 39)))
  (h:∀v w,φ i v w=ER w v x y:=by intros;rfl) :
  o.wp P A w (λA' w'=>∃v,A'=A.put o.dst v/\Below w.heap.size w w'/\φ i v w') Q:=by
 have hb:Below w.heap.size w (w.alloc (.cells #[.bool n1,.slice d j c1,.bool n2,.slice e k c2] 39)):=(Below.refl _ _).alloc (nL _) _;refine BK ?_ b hb;rw[h];exact⟨_,_,_,_,_,_,_,_,_,rfl,Blk.new w _ _,l.on hb,m.on hb⟩
def Rk (q:Rat):Prop:=aF q.den<=jl/16/\aF q.num.natAbs<=jl/16
theorem Qu{n:Nat}(h:n<65536):aF n<=16:=jL h
theorem Rk.num{q:Rat}(h:Rk q):aF q.num.natAbs<=jl/4:=by have:=h.2;unfold jl at *;omega
theorem Rk.den{q:Rat}(h:Rk q):aF ((q.den:Int)).natAbs<=jl/4:=by have:=h.1;rw[Int.natAbs_natCast];unfold jl at *;omega
theorem Rk.num'{q:Rat}(h:Rk q):aF q.num.natAbs<=jl:=by have:=h.2;unfold jl at *;omega
theorem Rk.den'{q:Rat}(h:Rk q):aF ((q.den:Int)).natAbs<=jl:=by have:=h.1;rw[Int.natAbs_natCast];unfold jl at *;omega
theorem BZ{p q:Rat}(h:Rk p)(b:Rk q):aF ((p.den:Int)*q.den).natAbs<=jl/4/\(p.den:Int)*q.den≠0:=by
 have e:((p.den:Int)*q.den).natAbs=p.den*q.den:=by rw[Int.natAbs_mul,Int.natAbs_natCast,Int.natAbs_natCast]
 refine⟨?_,?_⟩
 ·rw[e];have:=gB p.den q.den;have:=h.1;have:=b.1;unfold jl at *;omega
 ·have:=p.den_nz;have:=q.den_nz;intro d;rcases Int.mul_eq_zero.1 d with h|h<;>omega
theorem rT{p q:Rat}(h:Rk p)(b:Rk q):aF (p.num*(q.den:Int)).natAbs<=jl/8:=by have:=gB p.num.natAbs q.den;have:=h.2;have:=b.1;rw[Int.natAbs_mul,Int.natAbs_natCast];unfold jl at *;omega
theorem Il{x y:Int}{K:Nat}(h:aF x.natAbs<=K)(b:aF y.natAbs<=K):aF (x+y).natAbs<=K+1:=by have:=Oq x.natAbs y.natAbs;have:=iV (Int.natAbs_add_le x y);omega
theorem rU(n d:Int)(hd:0<d):(Rat.divInt n d).num=n/(Int.gcd n d)/\((Rat.divInt n d).den:Int)=d/(Int.gcd n d):=by
 obtain⟨k,rfl⟩:∃k:Nat,d=k:=⟨d.toNat,oM⟩;have b:k≠0:=oM
 have e:Rat.divInt n k=Rat.normalize n k b:=by rw[Rat.divInt_ofNat,<-Rat.normalize_eq_mkRat]
 rw[e,Rat.normalize_eq];exact⟨rfl,Int.natCast_ediv _ _⟩
theorem oI{w W w1 h:World}{v:Value}{q:Rat}{R:Nat}{cs:List Value}(b:Below w.heap.size w W)(hb:Below W.heap.size W w1)(i:w.heap.size<=R)(e:Blk w1 R 41 cs)(j:bM w1 v q)(d:w1.grownBy h (some R)) :
  pX w q (.returned v) h :=
 ⟨v,rfl,j.stored d e dM,b.trans ((hb.mono b.size).trans ((aH d (Nat.le_of_lt e.lt) (nL R)).mono i))⟩
theorem vQ(z:Int):(z<0/\jm z=-1)\/(z=0/\jm z=0)\/(0<z/\jm z=1):=by unfold jm;split<;>(try split)<;>omega
theorem Ce(n d:Int)(hd:d≠0):∃x y:Int,0<y/\y.natAbs=d.natAbs/\x.natAbs=n.natAbs/\(d<0->x=-n/\y=-d)/\(0<d->x=n/\y=d) /\
  (Rat.divInt n d).num=x/(Int.gcd x y)/\((Rat.divInt n d).den:Int)=y/(Int.gcd x y):=by
 rcases Int.lt_or_gt_of_ne hd with h|h
 ·refine⟨-n,-d,oM,oM,oM,λ_=>⟨rfl,rfl⟩,λ_=>oM,?_⟩;have:=rU (-n) (-d) oM;rwa[Rat.neg_divInt_neg]at this
 ·exact⟨n,d,h,rfl,rfl,λ_=>oM,λ_=>⟨rfl,rfl⟩,rU n d h⟩
theorem vR(n1 n2:Bool)(m1 m2:Value)(z1 z2:Int)(w:World)(h1:aZ w n1 m1 z1)(h2:aZ w n2 m2 z2)(c1:aF z1.natAbs<=jl/4)(c2:aF z2.natAbs<=jl/4)(hz:z2≠0) :
  Calls Tryz.prog 110 #[.agg #[.bool n1,m1],.agg #[.bool n2,m2]] w (pX w (Rat.divInt z1 z2)):=by
 obtain⟨a1,k1,q1,rfl,-,-⟩:=h1.shape;obtain⟨a2,k2,q2,rfl,-,-⟩:=h2.shape;obtain⟨x,d,hd,ed,ex,l,n,I,s⟩:=Ce z1 z2 hz;generalize Rat.divInt z1 z2=Qr at *;rw[<-ed]at c2;rw[<-ex]at c1;replace I:=zH I;replace s:=zH s
 go_enter Tryz.func110,Tryz.ntmps110
 go_upto_region 1 with (fail)
 refine rQ λW hb0 B1 B2 B3 X=>?_;have x1:=B1.at1 0 _ rfl;have x2:=B1.at1 1 _ rfl;have y1:=B2.at1 0 _ rfl;have y2:=B2.at1 1 _ rfl
 go_upto_if 8 with (go_at_call 109;refine(BP _ _ _ _ (h2.on hb0)).mono ?_;rintro e w1 ⟨rfl,hb1⟩)
 go_cut [] (λwc=>Below w.heap.size w wc/\Hid (uk w.heap.size x wc)/\Hid (uk (w.heap.size+1) d wc)/\Hid (Blk wc (w.heap.size+1+1) 41 [.bool false,.slice none 0 0,.bool false,.slice none 0 0]))
 case first =>
  rcases vQ z2 with ⟨h,S⟩|⟨h,-⟩|⟨h,S⟩
  ·obtain⟨rfl,rfl⟩:=l h;rw[S];replace B1:=B1.on hb1;replace B2:=B2.on hb1;replace B3:=B3.on hb1;replace h1:=(h1.on hb0).on hb1;replace h2:=(h2.on hb0).on hb1;have B:=hb0.trans (hb1.mono hb0.size);clear hb0 hb1 x1 x2 y1 y2 l n
   go_upto_region 2 with (fail)
   refine iL mixed [.eq (.agg #[.bool n1,.slice a1 k1 q1]),.int ((-z1)),.eq (.agg #[.bool n2,.slice a2 k2 q2]),.int ((-z2))] [9,10,11,12] rfl rfl rfl ⟨?_,?_,?_,?_,trivial⟩ ?_
   ·intro A w1 hA hb he;have h2:A.eval (.tmp 2)=.pointer (some ⟨w.heap.size,0,none⟩):=hA 2 rfl;have c0:=(B1.on hb).at1 0 _ rfl;have c1:=(B1.on hb).at1 1 _ rfl;refine aL rfl ?_;exact gZ
   ·intro A w1 hA hb he;have h9:A.eval (.tmp 9)=.agg #[.bool n1,.slice a1 k1 q1]:=he.1 rfl;have hf0:=eF A 127;refine dh (f:=127) (args:=#[.agg #[.bool n1,.slice a1 k1 q1]]) ?_ ?_
    ·exact gZ
    ·refine(Gc _ _ _ _ (h1.on hb)).mono ?_;rintro e w' ⟨neg,m,rfl,D,hb⟩;exact⟨_,rfl,hb,neg,m,rfl,D⟩
   ·intro A w1 hA hb he;have h3:A.eval (.tmp 3)=.pointer (some ⟨w.heap.size+1,0,none⟩):=hA 3 rfl;have c0:=(B2.on hb).at1 0 _ rfl;have c1:=(B2.on hb).at1 1 _ rfl;refine aL rfl ?_;exact gZ
   ·intro A w1 hA hb he;have h11:A.eval (.tmp 11)=.agg #[.bool n2,.slice a2 k2 q2]:=he.1 rfl;have hf0:=eF A 127;refine dh (f:=127) (args:=#[.agg #[.bool n2,.slice a2 k2 q2]]) ?_ ?_
    ·exact gZ
    ·refine(Gc _ _ _ _ (h2.on hb)).mono ?_;rintro e w' ⟨neg,m,rfl,D,hb⟩;exact⟨_,rfl,hb,neg,m,rfl,D⟩
   ·intro w2 hb2;simp only[pV,bX.eq,bX.u32,bX.int,bX.of,lZ];rintro _ ⟨n3,m3,rfl,i3⟩ _ ⟨n4,m4,rfl,i4⟩;obtain⟨a3,k3,q3,rfl,-,-⟩:=i3.shape;obtain⟨a4,k4,q4,rfl,-,-⟩:=i4.shape;go_frame;refine az rfl _ (.tmp 2) (.tmp 10) rfl _ _ _ _ rfl rfl (B1.on hb2) rfl aK i3.ones ?_;intro w3 R3 gr3;have hB2:=(B2.on hb2).grown gr3 oM;have j4:=i4.stored gr3 (B1.on hb2) dM;go_frame;refine az rfl _ (.tmp 3) (.tmp 12) rfl _ _ _ _ rfl rfl hB2 rfl aK j4.ones ?_;intro w4 R4 gr4;have a6:=B1.lt;have hlt2:=(B1.on hb2).lt;have hlt3:=hB2.lt;go_wp2;go_meet
    case rel=>exact⟨B.trans ((hb2.mono B.size).trans (((aH gr3 (Nat.le_of_lt hlt2) (nL _))).trans ((aH gr4 oM oM)))),zH ⟨_,_,_,_,R3.grown gr4 oM,(i3.stored gr3 (B1.on hb2) dM).stored gr4 hB2 dM⟩,zH ⟨_,_,_,_,R4,j4.stored gr4 hB2 dM⟩,zH (((B3.on hb2).grown gr3 oM).grown gr4 oM)⟩
  ·omega
  ·obtain⟨rfl,rfl⟩:=n h;rw[S];go_wp2;go_meet
   case rel=>exact⟨hb0.trans (hb1.mono hb0.size),zH ⟨_,_,_,_,B1.on hb1,(h1.on hb0).on hb1⟩,zH ⟨_,_,_,_,B2.on hb1,(h2.on hb0).on hb1⟩,zH (B3.on hb1)⟩
 case rest =>
  obtain⟨hb,hB1,hB2,hB3⟩:=hcut;obtain⟨nx,ax,kx,cx,i,q⟩:=hB1.out;obtain⟨nd,ad,kd,cd,Bd,id⟩:=hB2.out;have u1:=i.at1 0 _ rfl;have u2:=i.at1 1 _ rfl;have v1:=Bd.at1 0 _ rfl;have v2:=Bd.at1 1 _ rfl;clear B1 B2 B3 x1 x2 y1 y2
  go_upto_region 4 with (go_at_call 128;refine(Tg _ _ _ _ _ _ _ q id c1 c2).mono ?_;rintro e w2 hret;obtain⟨Z,J,Y,L,rfl,u,hb2⟩:=eD hret;clear hret)
  refine jb λW2 hb3 o hsz2=>?_;have j:=hb2.trans (hb3.mono hb2.size);replace i:=i.on j;replace Bd:=Bd.on j;replace q:=q.on j;replace id:=id.on j;replace u:=u.on hb3;have b:=hB3.out.on j;replace hb:=hb.trans (j.mono hb.size);have hlt2:w.heap.size+1+1<w2.heap.size:=by have:=hb2.size;have:=hB3.out.lt;omega
  generalize w2.heap.size=r at *;have hg1:Int.gcd x d<=d.natAbs:=Int.gcd_le_natAbs_right _ oM;have hg0:0<Int.gcd x d:=Int.gcd_pos_of_ne_zero_right _ oM;generalize Int.gcd x d=g at *;have N:aF ((g:Int)).natAbs<=jl:=by rw[Int.natAbs_natCast];exact Nat.le_trans (iV hg1) (Nat.le_trans c2 dM)
  clear j hb2 hb3 u1 u2 v1 v2 l n hB1 hB2 hB3;refine iL mixed [.eq (.agg #[.bool Z,.slice J Y L]),.int (1),.eq (.int .i64 (eQ g 1)),.eq (.bool (eQ g 1 != 0))] [16,17,18,19] rfl rfl rfl ⟨?_,?_,?_,?_,trivial⟩ ?_
  ·intro A w1 hA hb he;have h5:A.eval (.tmp 5)=.pointer (some ⟨r,0,none⟩):=hA 5 rfl;have c0:=(o.on hb).at1 0 _ rfl;have c1:=(o.on hb).at1 1 _ rfl;refine aL rfl ?_;exact gZ
  ·intro A w1 hA hb he;have hf0:=eF A 85;have hc0:=eC A (.int .i64 1);refine dh (f:=85) (args:=#[(.int .i64 1)]) ?_ ?_
   ·exact gZ
   ·refine(BQ 1 _ oM oM).mono ?_;rintro e w' ⟨neg,m,rfl,D,hb⟩;exact⟨_,rfl,hb,neg,m,rfl,D⟩
  ·intro A w1 hA hb he;have h16:A.eval (.tmp 16)=.agg #[.bool Z,.slice J Y L]:=he.1 rfl;have f17:((.int (1):bX)).p (A.eval (.tmp 17)) w1:=he.2.1 rfl;obtain⟨v17,h17⟩:∃v,A.eval (.tmp 17)=v:=⟨_,rfl⟩;rw[h17]at f17;have hf0:=eF A 129;refine dh (f:=129) (args:=#[.agg #[.bool Z,.slice J Y L],v17]) ?_ ?_
   ·exact gZ
   ·obtain⟨n17,m17,rfl,i17⟩:=f17;refine(SS _ _ _ _ _ _ _ (u.on hb) i17 N dM).mono ?_;rintro e w' ⟨rfl,hb⟩;exact⟨_,rfl,hb,rfl⟩
  ·intro A w1 hA hb he;have h18:A.eval (.tmp 18)=.int .i64 (eQ g 1):=he.1 rfl;have hc0:=eC A (.int .i64 0);refine aL rfl ?_;exact gZ
  ·intro w4 hb4;simp only[pV,bX.eq,bX.u32,bX.int,bX.of,lZ];rintro _ -;go_frame;replace i:=i.on hb4;replace Bd:=Bd.on hb4;replace o:=o.on hb4;replace q:=q.on hb4;replace id:=id.on hb4;replace u:=u.on hb4;replace b:=b.on hb4;replace hb:=hb.trans (hb4.mono hb.size);clear hb4 hb0 X hsz2
   go_upto_if 19 with (fail)
   go_cut [] (λwc=>Below w.heap.size w wc/\Hid (uk w.heap.size Qr.num wc)/\Hid (uk (w.heap.size+1) Qr.den wc)/\Hid (Blk wc (w.heap.size+1+1) 41 [.bool false,.slice none 0 0,.bool false,.slice none 0 0]))
   case first =>
    by_cases M:g=1
    ·subst M;have G:=I.out;have y:=s.out;rw[Int.natCast_one,Int.ediv_one]at G y;rw[show(eQ ((1:Nat):Int) 1 != 0)=false from rfl];go_wp2;go_meet
     case rel=>exact⟨hb,zH ⟨_,_,_,_,i,by rw[G];exact q⟩,zH ⟨_,_,_,_,Bd,by rw[y];exact id⟩,zH b⟩
    ·rw[show(eQ (g:Int) 1 != 0)=true by rw[jP oM];rfl];have c5:aF ((g:Int)).natAbs<=jl/4:=by rw[Int.natAbs_natCast];exact Nat.le_trans (iV hg1) c2
     have C:(g:Int)≠0:=oM;have e1:=i.at1 0 _ rfl;have e2:=i.at1 1 _ rfl;have e3:=o.at1 0 _ rfl;have e4:=o.at1 1 _ rfl
     go_upto_region 6 with (first
      | (go_at_call 130;refine(zW _ _ _ _ _ _ _ q u c1 c5 C).mono ?_;rintro e w5 ⟨n5,m5,_,_,rfl,i5,-,hb5⟩;obtain⟨a5,k5,q5,rfl,-,-⟩:=i5.shape)
      | (refine az rfl _ (.tmp 2) (.tmp 24) rfl _ _ _ _ rfl rfl (i.on hb5) rfl aK i5.ones ?_;intro w6 R6 gr6))
     have k:=i.on hb5;replace i5:=i5.stored gr6 k dM;replace Bd:=(Bd.on hb5).grown gr6 oM;replace o:=(o.on hb5).grown gr6 oM;replace id:=(id.on hb5).stored gr6 k dM;replace u:=(u.on hb5).stored gr6 k dM;replace b:=(b.on hb5).grown gr6 oM;have F:=k.lt;replace hb:=hb.trans ((hb5.mono hb.size).trans (aH gr6 (Nat.le_of_lt F) (nL _)));clear e1 e2 e3 e4 hb5 gr6 k i q;have e1:=Bd.at1 0 _ rfl;have e2:=Bd.at1 1 _ rfl;have e3:=o.at1 0 _ rfl;have e4:=o.at1 1 _ rfl
     go_wp2_with (first
      | (go_at_call 130;refine(zW _ _ _ _ _ _ _ id u c2 c5 C).mono ?_;rintro e w7 ⟨n7,m7,_,_,rfl,i7,-,hb7⟩;obtain⟨a7,k7,q7,rfl,-,-⟩:=i7.shape)
      | (refine az rfl _ (.tmp 3) (.tmp 31) rfl _ _ _ _ rfl rfl (Bd.on hb7) rfl aK i7.ones ?_;intro w8 R8 gr8))
     have z:=Bd.on hb7;have a0:=z.lt;go_meet
     case rel=>exact⟨hb.trans ((hb7.mono hb.size).trans (aH gr8 oM oM)),zH ⟨_,_,_,_,(R6.on hb7).grown gr8 oM,by rw[I.out];exact(i5.on hb7).stored gr8 z dM⟩,zH ⟨_,_,_,_,R8,by rw[s.out];exact i7.stored gr8 z dM⟩,zH ((b.on hb7).grown gr8 oM)⟩
   case rest =>
    obtain⟨hb,hB1,hB2,hB3⟩:=hcut;obtain⟨nx,ax,kx,cx,i,q⟩:=hB1.out;obtain⟨nd,ad,kd,cd,Bd,id⟩:=hB2.out;have u1:=i.at1 0 _ rfl;have u2:=i.at1 1 _ rfl;have v1:=Bd.at1 0 _ rfl;have v2:=Bd.at1 1 _ rfl
    go_wp2_with (refine az rfl _ (.tmp 4) (.tmp 36) rfl _ _ _ _ rfl rfl hB3.out rfl dA (by simp[Value.oneCell']) ?_;intro w5 R5 gr5)
    exact dH rfl rfl rfl R5 Tryz.underlying41 rfl dA (oI hb (Below.refl _ _) oM hB3.out ⟨_,_,_,_,_,_,_,_,rfl,q,id⟩ gr5)
theorem dJ{n n':Bool}{a a':Option Addr}{k c k' c':Nat}:(#[Value.bool n,.slice a k c,.bool n',.slice a' k' c']).all (·.oneCell')=true:=by simp[Value.oneCell']
theorem Cf(p q:Rat):Rat.divInt (p.num*(q.den:Int)+q.num*(p.den:Int)) ((p.den:Int)*(q.den:Int))=p+q:=by rw[Rat.add_def',<-Rat.divInt_ofNat,Int.natCast_mul]
theorem Ch(p q:Rat):Rat.divInt (p.num*q.num) ((p.den:Int)*(q.den:Int))=p*q:=by rw[Rat.mul_def',<-Rat.divInt_ofNat,Int.natCast_mul]
theorem Ci(p q:Rat):Rat.divInt (p.num*(q.den:Int)) ((p.den:Int)*q.num)=p/q:=by rw[Rat.div_def,<-Rat.divInt_mul_divInt,<-Rat.inv_divInt q.num,Rat.num_divInt_den,Rat.num_divInt_den]
theorem Io(v1 v2:Value)(p q:Rat)(w:World)(h1:bM w v1 p)(h2:bM w v2 q)(k1:Rk p)(k2:Rk q) :
  Calls Tryz.prog 113 #[v1,v2] w (pX w (p+q)):=by
 rw[<-Cf];obtain⟨s1,a1,l1,c1,s2,a2,l2,c2,rfl,i1,i2⟩:=h1;obtain⟨s3,a3,l3,c3,s4,a4,l4,c4,rfl,i3,i4⟩:=h2;obtain⟨n,dz⟩:=BZ k1 k2;have l:=rT k1 k2;have k:=rT k2 k1;have sb:aF (p.num*(q.den:Int)+q.num*(p.den:Int)).natAbs<=jl/4:=by have:=Il l k;unfold jl at *;omega
 have cb1:aF (p.num*(q.den:Int)).natAbs<=jl:=by unfold jl at *;omega
 have cb2:aF (q.num*(p.den:Int)).natAbs<=jl:=by unfold jl at *;omega
 go_enter Tryz.func113,Tryz.ntmps113
 go_upto_region 1 with (fail)
 refine rQ λW hb0 B1 B2 B3 r=>?_;replace i1:=i1.on hb0;replace i2:=i2.on hb0;replace i3:=i3.on hb0;replace i4:=i4.on hb0;refine iL mixed [.eq (.pointer (some ⟨w.heap.size,0,none⟩)),.eq (.agg #[.bool s1,.slice a1 l1 c1]),.eq (.pointer (some ⟨w.heap.size+1,2,none⟩)),.eq (.agg #[.bool s4,.slice a4 l4 c4]),.ints2 (p.num) ((q.den:Int)),.int ((p.num*(q.den:Int))),.eq (.pointer (some ⟨w.heap.size+1,0,none⟩)),.eq (.agg #[.bool s3,.slice a3 l3 c3]),.eq (.pointer (some ⟨w.heap.size,2,none⟩)),.eq (.agg #[.bool s2,.slice a2 l2 c2]),.ints2 (q.num) ((p.den:Int)),.int ((q.num*(p.den:Int))),.int ((p.num*(q.den:Int)+q.num*(p.den:Int))),.eq (.pointer (some ⟨w.heap.size,2,none⟩)),.eq (.agg #[.bool s2,.slice a2 l2 c2]),.eq (.pointer (some ⟨w.heap.size+1,2,none⟩)),.eq (.agg #[.bool s4,.slice a4 l4 c4]),.ints2 ((p.den:Int)) ((q.den:Int)),.int (((p.den:Int)*(q.den:Int))),.rat ((Rat.divInt (p.num*(q.den:Int)+q.num*(p.den:Int)) ((p.den:Int)*(q.den:Int))))] [5,6,7,8,9,10,11,12,13,14,15,16,17,18,19,20,21,22,23,24] rfl rfl rfl ⟨?_,?_,?_,?_,?_,?_,?_,?_,?_,?_,?_,?_,?_,?_,?_,?_,?_,?_,?_,?_,trivial⟩ ?_
 ·intro A w1 hA hb he;have h2:A.eval (.tmp 2)=.pointer (some ⟨w.heap.size,0,none⟩):=hA 2 rfl;refine aL rfl ?_;exact gZ
 ·intro A w1 hA hb he;have h5:A.eval (.tmp 5)=.pointer (some ⟨w.heap.size,0,none⟩):=he.1 rfl;have c0:=(B1.on hb).at1 0 _ rfl;have c1:=(B1.on hb).at1 1 _ rfl;refine aL rfl ?_;exact gZ
 ·intro A w1 hA hb he;have h3:A.eval (.tmp 3)=.pointer (some ⟨w.heap.size+1,0,none⟩):=hA 3 rfl;refine aL rfl ?_;exact gZ
 ·intro A w1 hA hb he;have h7:A.eval (.tmp 7)=.pointer (some ⟨w.heap.size+1,2,none⟩):=he.1 rfl;have c0:=(B2.on hb).at1 2 _ rfl;have c1:=(B2.on hb).at1 3 _ rfl;refine aL rfl ?_;exact gZ
 ·intro A w1 hA hb he;have h6:A.eval (.tmp 6)=.agg #[.bool s1,.slice a1 l1 c1]:=he.1 rfl;have h8:A.eval (.tmp 8)=.agg #[.bool s4,.slice a4 l4 c4]:=he.2.1 rfl;have d:=i1.on hb;obtain⟨_,_,_,ex,-⟩:=d.shape;cases ex;have i:=i4.on hb;obtain⟨_,_,_,j,-⟩:=i.shape;cases j;exact lX d i (by generalize A.eval=ev at *;go_simp)
 ·intro A w1 hA hb he;have f9:((.ints2 (p.num) ((q.den:Int)):bX)).p (A.eval (.tmp 9)) w1:=he.1 rfl;obtain⟨v9,h9⟩:∃v,A.eval (.tmp 9)=v:=⟨_,rfl⟩;rw[h9]at f9;have hf0:=eF A 84;refine dh (f:=84) (args:=#[v9]) ?_ ?_
  ·exact gZ
  ·refine(mW _ _ _ _ f9 k1.num k2.den).mono ?_;rintro e w' ⟨neg,m,rfl,b,hb⟩;exact⟨_,rfl,hb,neg,m,rfl,b⟩
 ·intro A w1 hA hb he;have h3:A.eval (.tmp 3)=.pointer (some ⟨w.heap.size+1,0,none⟩):=hA 3 rfl;refine aL rfl ?_;exact gZ
 ·intro A w1 hA hb he;have h11:A.eval (.tmp 11)=.pointer (some ⟨w.heap.size+1,0,none⟩):=he.1 rfl;have c0:=(B2.on hb).at1 0 _ rfl;have c1:=(B2.on hb).at1 1 _ rfl;refine aL rfl ?_;exact gZ
 ·intro A w1 hA hb he;have h2:A.eval (.tmp 2)=.pointer (some ⟨w.heap.size,0,none⟩):=hA 2 rfl;refine aL rfl ?_;exact gZ
 ·intro A w1 hA hb he;have h13:A.eval (.tmp 13)=.pointer (some ⟨w.heap.size,2,none⟩):=he.1 rfl;have c0:=(B1.on hb).at1 2 _ rfl;have c1:=(B1.on hb).at1 3 _ rfl;refine aL rfl ?_;exact gZ
 ·intro A w1 hA hb he;have h12:A.eval (.tmp 12)=.agg #[.bool s3,.slice a3 l3 c3]:=he.1 rfl;have h14:A.eval (.tmp 14)=.agg #[.bool s2,.slice a2 l2 c2]:=he.2.1 rfl;have d:=i3.on hb;obtain⟨_,_,_,ex,-⟩:=d.shape;cases ex;have i:=i2.on hb;obtain⟨_,_,_,j,-⟩:=i.shape;cases j;exact lX d i (by generalize A.eval=ev at *;go_simp)
 ·intro A w1 hA hb he;have f15:((.ints2 (q.num) ((p.den:Int)):bX)).p (A.eval (.tmp 15)) w1:=he.1 rfl;obtain⟨v15,h15⟩:∃v,A.eval (.tmp 15)=v:=⟨_,rfl⟩;rw[h15]at f15;have hf0:=eF A 84;refine dh (f:=84) (args:=#[v15]) ?_ ?_
  ·exact gZ
  ·refine(mW _ _ _ _ f15 k2.num k1.den).mono ?_;rintro e w' ⟨neg,m,rfl,b,hb⟩;exact⟨_,rfl,hb,neg,m,rfl,b⟩
 ·intro A w1 hA hb he;have f10:((.int ((p.num*(q.den:Int))):bX)).p (A.eval (.tmp 10)) w1:=he.1 rfl;obtain⟨v10,h10⟩:∃v,A.eval (.tmp 10)=v:=⟨_,rfl⟩;rw[h10]at f10;have f16:((.int ((q.num*(p.den:Int))):bX)).p (A.eval (.tmp 16)) w1:=he.2.1 rfl;obtain⟨v16,h16⟩:∃v,A.eval (.tmp 16)=v:=⟨_,rfl⟩;rw[h16]at f16;have hf0:=eF A 131;refine dh (f:=131) (args:=#[v10,v16]) ?_ ?_
  ·exact gZ
  ·obtain⟨n10,m10,rfl,i10⟩:=f10;obtain⟨n16,m16,rfl,i16⟩:=f16;refine(MH _ _ _ _ _ _ _ i10 i16 cb1 cb2).mono ?_;rintro e w' ⟨neg,m,rfl,b,hb⟩;exact⟨_,rfl,hb,neg,m,rfl,b⟩
 ·intro A w1 hA hb he;have h2:A.eval (.tmp 2)=.pointer (some ⟨w.heap.size,0,none⟩):=hA 2 rfl;refine aL rfl ?_;exact gZ
 ·intro A w1 hA hb he;have h18:A.eval (.tmp 18)=.pointer (some ⟨w.heap.size,2,none⟩):=he.1 rfl;have c0:=(B1.on hb).at1 2 _ rfl;have c1:=(B1.on hb).at1 3 _ rfl;refine aL rfl ?_;exact gZ
 ·intro A w1 hA hb he;have h3:A.eval (.tmp 3)=.pointer (some ⟨w.heap.size+1,0,none⟩):=hA 3 rfl;refine aL rfl ?_;exact gZ
 ·intro A w1 hA hb he;have h20:A.eval (.tmp 20)=.pointer (some ⟨w.heap.size+1,2,none⟩):=he.1 rfl;have c0:=(B2.on hb).at1 2 _ rfl;have c1:=(B2.on hb).at1 3 _ rfl;refine aL rfl ?_;exact gZ
 ·intro A w1 hA hb he;have h19:A.eval (.tmp 19)=.agg #[.bool s2,.slice a2 l2 c2]:=he.1 rfl;have h21:A.eval (.tmp 21)=.agg #[.bool s4,.slice a4 l4 c4]:=he.2.1 rfl;have d:=i2.on hb;obtain⟨_,_,_,ex,-⟩:=d.shape;cases ex;have i:=i4.on hb;obtain⟨_,_,_,j,-⟩:=i.shape;cases j;exact lX d i (by generalize A.eval=ev at *;go_simp)
 ·intro A w1 hA hb he;have f22:((.ints2 ((p.den:Int)) ((q.den:Int)):bX)).p (A.eval (.tmp 22)) w1:=he.1 rfl;obtain⟨v22,h22⟩:∃v,A.eval (.tmp 22)=v:=⟨_,rfl⟩;rw[h22]at f22;have hf0:=eF A 84;refine dh (f:=84) (args:=#[v22]) ?_ ?_
  ·exact gZ
  ·refine(mW _ _ _ _ f22 k1.den k2.den).mono ?_;rintro e w' ⟨neg,m,rfl,b,hb⟩;exact⟨_,rfl,hb,neg,m,rfl,b⟩
 ·intro A w1 hA hb he;have f17:((.int ((p.num*(q.den:Int)+q.num*(p.den:Int))):bX)).p (A.eval (.tmp 17)) w1:=he.1 rfl;obtain⟨v17,h17⟩:∃v,A.eval (.tmp 17)=v:=⟨_,rfl⟩;rw[h17]at f17;have f23:((.int (((p.den:Int)*(q.den:Int))):bX)).p (A.eval (.tmp 23)) w1:=he.2.1 rfl;obtain⟨v23,h23⟩:∃v,A.eval (.tmp 23)=v:=⟨_,rfl⟩;rw[h23]at f23;have hf0:=eF A 110;refine dh (f:=110) (args:=#[v17,v23]) ?_ ?_
  ·exact gZ
  ·obtain⟨n17,m17,rfl,i17⟩:=f17;obtain⟨n23,m23,rfl,i23⟩:=f23;refine(vR _ _ _ _ _ _ _ i17 i23 sb n dz).mono ?_;rintro e w' ⟨v,rfl,b,hb⟩;exact⟨_,rfl,hb,b⟩
 ·intro w1 hb;simp only[pV,bX.eq,bX.u32,bX.int,bX.ints2,bX.rat,bX.of,lZ];rintro _ - _ - _ - _ - _ - _ - _ - _ ⟨t1,b1,g1,d1,t2,b2,g2,d2,rfl,j1,j2⟩;go_frame;refine az rfl _ (.tmp 4) (.tmp 24) rfl _ _ _ _ rfl rfl (B3.on hb) rfl dA dJ ?_;intro w2 R o;go_wp2;exact dH rfl rfl rfl R Tryz.underlying41 rfl dA (oI hb0 hb oM (B3.on hb) ⟨_,_,_,_,_,_,_,_,rfl,j1,j2⟩ o)
theorem Cj(v1 v2:Value)(p q:Rat)(w:World)(h1:bM w v1 p)(h2:bM w v2 q)(k1:Rk p)(k2:Rk q) :
  Calls Tryz.prog 88 #[v1,v2] w (pX w (p*q)):=by
 rw[<-Ch];obtain⟨s1,a1,l1,c1,s2,a2,l2,c2,rfl,i1,i2⟩:=h1;obtain⟨s3,a3,l3,c3,s4,a4,l4,c4,rfl,i3,i4⟩:=h2;obtain⟨k,dz⟩:=BZ k1 k2;have sb:aF (p.num*q.num).natAbs<=jl/4:=by have:=gB p.num.natAbs q.num.natAbs;have:=k1.2;have:=k2.2;rw[Int.natAbs_mul];unfold jl at *;omega
 go_enter Tryz.func88,Tryz.ntmps88
 go_upto_region 1 with (fail)
 refine rQ λW hb0 B1 B2 B3 n=>?_;replace i1:=i1.on hb0;replace i2:=i2.on hb0;replace i3:=i3.on hb0;replace i4:=i4.on hb0;refine iL mixed [.eq (.pointer (some ⟨w.heap.size,0,none⟩)),.eq (.agg #[.bool s1,.slice a1 l1 c1]),.eq (.pointer (some ⟨w.heap.size+1,0,none⟩)),.eq (.agg #[.bool s3,.slice a3 l3 c3]),.ints2 (p.num) (q.num),.int ((p.num*q.num)),.eq (.pointer (some ⟨w.heap.size,2,none⟩)),.eq (.agg #[.bool s2,.slice a2 l2 c2]),.eq (.pointer (some ⟨w.heap.size+1,2,none⟩)),.eq (.agg #[.bool s4,.slice a4 l4 c4]),.ints2 ((p.den:Int)) ((q.den:Int)),.int (((p.den:Int)*(q.den:Int))),.rat ((Rat.divInt (p.num*q.num) ((p.den:Int)*(q.den:Int))))] [5,6,7,8,9,10,11,12,13,14,15,16,17] rfl rfl rfl ⟨?_,?_,?_,?_,?_,?_,?_,?_,?_,?_,?_,?_,?_,trivial⟩ ?_
 ·intro A w1 hA hb he;have h2:A.eval (.tmp 2)=.pointer (some ⟨w.heap.size,0,none⟩):=hA 2 rfl;refine aL rfl ?_;exact gZ
 ·intro A w1 hA hb he;have h5:A.eval (.tmp 5)=.pointer (some ⟨w.heap.size,0,none⟩):=he.1 rfl;have c0:=(B1.on hb).at1 0 _ rfl;have c1:=(B1.on hb).at1 1 _ rfl;refine aL rfl ?_;exact gZ
 ·intro A w1 hA hb he;have h3:A.eval (.tmp 3)=.pointer (some ⟨w.heap.size+1,0,none⟩):=hA 3 rfl;refine aL rfl ?_;exact gZ
 ·intro A w1 hA hb he;have h7:A.eval (.tmp 7)=.pointer (some ⟨w.heap.size+1,0,none⟩):=he.1 rfl;have c0:=(B2.on hb).at1 0 _ rfl;have c1:=(B2.on hb).at1 1 _ rfl;refine aL rfl ?_;exact gZ
 ·intro A w1 hA hb he;have h6:A.eval (.tmp 6)=.agg #[.bool s1,.slice a1 l1 c1]:=he.1 rfl;have h8:A.eval (.tmp 8)=.agg #[.bool s3,.slice a3 l3 c3]:=he.2.1 rfl;have d:=i1.on hb;obtain⟨_,_,_,ex,-⟩:=d.shape;cases ex;have i:=i3.on hb;obtain⟨_,_,_,j,-⟩:=i.shape;cases j;exact lX d i (by generalize A.eval=ev at *;go_simp)
 ·intro A w1 hA hb he;have f9:((.ints2 (p.num) (q.num):bX)).p (A.eval (.tmp 9)) w1:=he.1 rfl;obtain⟨v9,h9⟩:∃v,A.eval (.tmp 9)=v:=⟨_,rfl⟩;rw[h9]at f9;have hf0:=eF A 84;refine dh (f:=84) (args:=#[v9]) ?_ ?_
  ·exact gZ
  ·refine(mW _ _ _ _ f9 k1.num k2.num).mono ?_;rintro e w' ⟨neg,m,rfl,b,hb⟩;exact⟨_,rfl,hb,neg,m,rfl,b⟩
 ·intro A w1 hA hb he;have h2:A.eval (.tmp 2)=.pointer (some ⟨w.heap.size,0,none⟩):=hA 2 rfl;refine aL rfl ?_;exact gZ
 ·intro A w1 hA hb he;have h11:A.eval (.tmp 11)=.pointer (some ⟨w.heap.size,2,none⟩):=he.1 rfl;have c0:=(B1.on hb).at1 2 _ rfl;have c1:=(B1.on hb).at1 3 _ rfl;refine aL rfl ?_;exact gZ
 ·intro A w1 hA hb he;have h3:A.eval (.tmp 3)=.pointer (some ⟨w.heap.size+1,0,none⟩):=hA 3 rfl;refine aL rfl ?_;exact gZ
 ·intro A w1 hA hb he;have h13:A.eval (.tmp 13)=.pointer (some ⟨w.heap.size+1,2,none⟩):=he.1 rfl;have c0:=(B2.on hb).at1 2 _ rfl;have c1:=(B2.on hb).at1 3 _ rfl;refine aL rfl ?_;exact gZ
 ·intro A w1 hA hb he;have h12:A.eval (.tmp 12)=.agg #[.bool s2,.slice a2 l2 c2]:=he.1 rfl;have h14:A.eval (.tmp 14)=.agg #[.bool s4,.slice a4 l4 c4]:=he.2.1 rfl;have d:=i2.on hb;obtain⟨_,_,_,ex,-⟩:=d.shape;cases ex;have i:=i4.on hb;obtain⟨_,_,_,j,-⟩:=i.shape;cases j;exact lX d i (by generalize A.eval=ev at *;go_simp)
 ·intro A w1 hA hb he;have f15:((.ints2 ((p.den:Int)) ((q.den:Int)):bX)).p (A.eval (.tmp 15)) w1:=he.1 rfl;obtain⟨v15,h15⟩:∃v,A.eval (.tmp 15)=v:=⟨_,rfl⟩;rw[h15]at f15;have hf0:=eF A 84;refine dh (f:=84) (args:=#[v15]) ?_ ?_
  ·exact gZ
  ·refine(mW _ _ _ _ f15 k1.den k2.den).mono ?_;rintro e w' ⟨neg,m,rfl,b,hb⟩;exact⟨_,rfl,hb,neg,m,rfl,b⟩
 ·intro A w1 hA hb he;have f10:((.int ((p.num*q.num)):bX)).p (A.eval (.tmp 10)) w1:=he.1 rfl;obtain⟨v10,h10⟩:∃v,A.eval (.tmp 10)=v:=⟨_,rfl⟩;rw[h10]at f10;have f16:((.int (((p.den:Int)*(q.den:Int))):bX)).p (A.eval (.tmp 16)) w1:=he.2.1 rfl;obtain⟨v16,h16⟩:∃v,A.eval (.tmp 16)=v:=⟨_,rfl⟩;rw[h16]at f16;have hf0:=eF A 110;refine dh (f:=110) (args:=#[v10,v16]) ?_ ?_
  ·exact gZ
  ·obtain⟨n10,m10,rfl,i10⟩:=f10;obtain⟨n16,m16,rfl,i16⟩:=f16;refine(vR _ _ _ _ _ _ _ i10 i16 sb k dz).mono ?_;rintro e w' ⟨v,rfl,b,hb⟩;exact⟨_,rfl,hb,b⟩
 ·intro w1 hb;simp only[pV,bX.eq,bX.u32,bX.int,bX.ints2,bX.rat,bX.of,lZ];rintro _ - _ - _ - _ - _ ⟨t1,b1,g1,d1,t2,b2,g2,d2,rfl,j1,j2⟩;go_frame;refine az rfl _ (.tmp 4) (.tmp 17) rfl _ _ _ _ rfl rfl (B3.on hb) rfl dA dJ ?_;intro w2 R l;go_wp2;exact dH rfl rfl rfl R Tryz.underlying41 rfl dA (oI hb0 hb oM (B3.on hb) ⟨_,_,_,_,_,_,_,_,rfl,j1,j2⟩ l)
theorem uW{x y:Int}:(eQ x y==0)=decide (x=y):=by
 unfold eQ;split
 ·simp;omega
 ·split
  ·simp;omega
  ·simp;omega
theorem pF(v:Value)(q:Rat)(w:World)(h:bM w v q):Calls Tryz.prog 86 #[v] w (rE w (.int .i64 (jm q.num))):=by
 obtain⟨s1,a1,l1,c1,s2,a2,l2,c2,rfl,i1,i2⟩:=h
 go_enter Tryz.func86,Tryz.ntmps86
 go_upto_region 1 with (fail)
 refine jb λW hb0 B1 b=>?_;have e1:=B1.at1 0 _ rfl;have e2:=B1.at1 1 _ rfl
 go_wp2_with (go_at_call 109;refine(BP _ _ _ _ (i1.on hb0)).mono ?_;rintro e w1 ⟨rfl,hb1⟩)
 go_ret;exact⟨rfl,hb0.trans (hb1.mono hb0.size)⟩
theorem rV(n:Int)(w:World)(h1:-4611686018427387904<=n)(h2:n<=4611686018427387904):Calls Tryz.prog 47 #[.int .i64 n] w (pX w n):=by
 go_enter Tryz.func47,Tryz.ntmps47
 go_upto_region 1 with (fail)
 refine jb λW hb0 B1 d=>?_
 go_wp2_with (first
  | (go_at_call_of 85 (Value.int IntKind.i64 1);refine(BQ 1 _ oM oM).mono ?_;rintro e w2 hret;obtain⟨n2,a2,l2,c2,rfl,i2,hb2⟩:=eD hret;clear hret)
  | (go_at_call 85;refine(BQ n _ h1 h2).mono ?_;rintro e w1 hret;obtain⟨n1,a1,l1,c1,rfl,i1,hb1⟩:=eD hret;clear hret)
  | (refine az rfl _ (.tmp 2) (.tmp 6) rfl _ _ _ _ rfl rfl ((B1.on hb1).on hb2) rfl dA dJ ?_;intro w3 R b))
 exact dH rfl rfl rfl R Tryz.underlying41 rfl dA (oI (hb0.trans (hb1.mono hb0.size)) hb2 (nL _) ((B1.on hb1).on hb2) ⟨_,_,_,_,_,_,_,_,rfl,by rw[Rat.num_intCast];exact i1.on hb2,by rw[Rat.den_intCast];exact i2⟩ b)
end Go.Proofs.YtopclbeomcggiaaGreat
