/- The reference's integers: Mul, short. -/
import Derived.Test.YtopclbeomcggiaaGreatW21
set_option linter.unusedVariables false
set_option linter.unusedSimpArgs false
set_option maxHeartbeats 16000000
set_option maxRecDepth 100000
namespace Go.Proofs.YtopclbeomcggiaaGreat
open Go.RowKit Q
def oL (A B:List Int) (i:Nat) (xs:List Int):Prop :=
 xs.length=A.length+B.length+1/\aG xs/\ah xs=ah (A.take i)*ah B/\∀j,i+B.length<=j->xs.getD j 0=0
def vX (A B:List Int) (i k:Nat) (xs:List Int) (c:Int):Prop :=
 xs.length=A.length+B.length+1/\aG xs/\0<=c/\c<4294967296/\k<=B.length+1/\(k=B.length+1->c=0)/\(k<=B.length->xs.getD (i+B.length) 0=0) /\
  ah xs+bv^(i+k)*c=ah (A.take i)*ah B+bv^i*(A.getD i 0*ah (B.take k))/\∀j,i+B.length<j->xs.getD j 0=0
theorem oL.start(A B:List Int):oL A B 0 (List.replicate (A.length+B.length+1) 0) :=
 ⟨sM,jo _,by simp[ah,mR],λj _=>by
  rw[jD,List.getElem?_replicate];split<;>rfl⟩
theorem oL.inner{A B:List Int}{i:Nat}{b:List Int}(h:oL A B i b):vX A B i 0 b 0 :=
 ⟨h.1,h.2.1,oM,oM,oM,oM,λ_=>h.2.2.2 _ (nL _),by rw[h.2.2.1];simp[ah],λj d=>h.2.2.2 j oM⟩
theorem vX.step{A B:List Int}{i k:Nat}{b:List Int}{c:Int}(h:vX A B i k b c)(u:aG A)(LB:aG B)(L:i<A.length)(M:k<B.length\/0<c) :
  vX A B i (k+1) (b.set (i+k) ((c+b.getD (i+k) 0+A.getD i 0*B.getD k 0)%4294967296)) ((c+b.getD (i+k) 0+A.getD i 0*B.getD k 0)/4294967296):=by
 obtain⟨C,p,H,I,J,D,s,K,E⟩:=h;have n:=u.getD i;have o:=LB.getD k;have x:=p.getD (i+k);rw[aP]at n o x;have hp:=prod_bound (A.getD i 0) (B.getD k 0) n.1 oM o.1 oM;have G:=kS B k
 have d:k<=B.length:=by
  rcases Nat.lt_or_ge B.length k with h|h
  ·have:=D oM;omega
  ·exact h
 have m:¬k<B.length->(c+b.getD (i+k) 0+A.getD i 0*B.getD k 0)=c:=λh=>by have e:k=B.length:=oM;rw[G h,e,s d];simp
 refine⟨by simpa using C,fU p _ (by rw[aP];omega),oM,oM,oM,λhe=>?_,λN=>?_,?_,λj F=>by rw[dX _ _ _ _ oM];exact E j F⟩
 ·rw[m oM];omega
 ·rw[dX _ _ _ _ oM];exact s d
 rw[lJ _ _ _ oM,aI];have e:=Int.mul_ediv_add_emod (c+b.getD (i+k) 0+A.getD i 0*B.getD k 0) 4294967296;generalize(c+b.getD (i+k) 0+A.getD i 0*B.getD k 0)%4294967296=r at *;generalize(c+b.getD (i+k) 0+A.getD i 0*B.getD k 0)/4294967296=q at *;rw[<-aP]at e;have y:bv^(i+(k+1))=bv^(i+k)*bv:=by rw[<-Nat.add_assoc,Int.pow_succ]
 have z:bv^(i+k)=bv^i*bv^k:=Int.pow_add ..;rw[y];have:bv^(i+k)*(c+b.getD (i+k) 0+A.getD i 0*B.getD k 0)=bv^(i+k)*(bv*q+r):=by rw[e]
 have l:ah b=ah (A.take i)*ah B+bv^i*(A.getD i 0*ah (B.take k))-bv^(i+k)*c:=oM;rw[l];rw[z]at *;generalize bv^i=P at *;generalize bv^k=R at *;grind
theorem vX.done{A B:List Int}{i k:Nat}{b:List Int}(h:vX A B i k b 0)(x:¬k<B.length):oL A B (i+1) b:=by obtain⟨d,e,o,p,q,r,s,m,n⟩:=h;refine⟨d,e,?_,λj u=>n j oM⟩;rw[aI];rw[tL (l:=B) oM]at m;grind
theorem oL.done{A B:List Int}{b:List Int}(h:oL A B A.length b):ah b=ah A*ah B:=by rw[h.2.2.1,tL (nL _)]
theorem OM(n1 n2:Bool)(ao1 ao2:Option Addr)(cap1 cap2:Nat)(l lb:List Int)(w:World)(bA:l.length<=499000000)(bB:lb.length<=499000000)(LA:aG l)(LB:aG lb)(mA:At uT w ao1 (uc l))(mB:At uT w ao2 (uc lb)) :
  Calls Tryz.prog 105 #[.agg #[.bool n1,.slice ao1 l.length cap1],.agg #[.bool n2,.slice ao2 lb.length cap2]] w (kY w (fZ (n1 != n2) (ah l*ah lb))):=by
 go_enter Tryz.func105,Tryz.ntmps105
 go_upto_region 1 with (fail)
 refine rQ λW hb0 B1 B2 B3 a9=>?_;have c1:=B1.at1 1 _ rfl;have c2:=B2.at1 1 _ rfl
 go_wp2_with (at_make;refine bL rfl _ _ _ rfl _ (.int .u32 0) 1 4 Tryz.underlying37 bD rfl rfl .i64 .i64 _ _ (l.length+lb.length+1) rfl rfl oM oM oM oM ?_;intro w1 own1 gr1;have c3:=(B1.keep gr1 B1.lt).at1 1 _ rfl)
 rw[iO]at own1;clear c1 c2 c3
 go_loopw [6] (λi wr=>∃(k:Nat)(u:List Int),k<=l.length/\i=.int .i64 k/\Hid (oL l lb k u)/\Hid (Blk wr W.heap.size uT (uc u))/\Below W.heap.size W wr) (λi _=>l.length-(intOf i).toNat)
 case atStart=>exact⟨0,_,Nat.zero_le _,rfl,zH (oL.start l lb),zH own1,gr1⟩
 case round =>
  clear own1 gr1;obtain⟨i,u,Y,rfl,hinv,b,hb⟩:=hrel;have d1:=(B1.keep hb B1.lt).at1 1 _ rfl;by_cases I:i<l.length
  ·obtain⟨p1,o1,rfl,N⟩:=mA (by rw[dG];omega);have C:∀w',Below W.heap.size W w'->w'.cell? ⟨p1,o1+i,none⟩=some (.int .u32 (l.getD i 0)):=λw' h=>((N.on hb0).on h).ucell i I;have a1:=(LA.getD i).1;have a0:l.getD i 0<4294967296:=(LA.getD i).2;have HX:Hid (∃x,x=l.getD i 0):=⟨_,rfl⟩;obtain⟨x,Z⟩:=HX.out;rw[<-Z]at C a1 a0;replace Z:=zH Z;clear N HX;go_wp2
   go_loopw [7,8] (λc q wr=>∃(k:Nat)(u:List Int)(D:Int),q=.int .i64 k/\c=.int .u64 D/\Hid (vX l lb i k u D)/\Hid (Blk wr W.heap.size uT (uc u))/\Below W.heap.size W wr) (λ_ q _=>lb.length+1-(intOf q).toNat)
   case atStart=>exact⟨0,u,0,rfl,rfl,zH hinv.out.inner,b,hb⟩
   case round =>
    clear hinv b d1 hb;obtain⟨k,J,D,rfl,rfl,n,b,d⟩:=hrel;have d2:=(B2.keep d B2.lt).at1 1 _ rfl;have q1:=n.out.2.2.1;have q2:=n.out.2.2.2.1;have a8:=n.out.2.2.2.2.1;have HK:=zH n.out.2.2.2.2.2.1;have HL:=zH n.out.1;have s:=b.out.ucell (i+k);have a7:=b.out.frozen (i+k);have F:i+k<J.length↔k<=lb.length\/i+k<l.length+lb.length+1:=by rw[HL.out];omega
    have a2:=(LB.getD k).1;have a4:lb.getD k 0<4294967296:=(LB.getD k).2;have a3:=(n.out.2.1.getD (i+k)).1;have a6:J.getD (i+k) 0<4294967296:=(n.out.2.1.getD (i+k)).2;have p2:=kS lb k;have o:=n.out.step LA LB I;rw[<-Z.out]at o;have j:J.length=l.length+lb.length+1:=HL.out;by_cases r:k<lb.length
    ·obtain⟨B,o2,rfl,S⟩:=mB (by rw[dG];omega);have X:∀w',Below W.heap.size W w'->w'.cell? ⟨B,o2+k,none⟩=some (.int .u32 (lb.getD k 0)):=λw' h=>((S.on hb0).on h).ucell k r;replace s:=s (by rw[j];omega);replace o:=zH (o (.inl r));have p:i+k<J.length:=oM;clear p2 F S j;generalize lb.getD k 0=y at *;generalize J.getD (i+k) 0=z at *;obtain⟨hp0,hp1⟩:=prod_bound x y a1 oM a2 oM;have hlen2:i+k<l.length+lb.length+1:=oM;replace p:=zH p
     go_upto_region 11 with (fail)
     refine aC mixed (none) (0) (fK.none) [.eq (.int .u64 (D+z)),.eq (.pointer (some ⟨w.heap.size,1,none⟩)),.eq (.slice (some ⟨p1,o1,none⟩) l.length cap1),.eq (.int .i64 i),.eq (.pointer (some ⟨p1,o1+i*1,none⟩)),.eq (.int .u32 x),.eq (.int .u64 x),.eq (.pointer (some ⟨w.heap.size+1,1,none⟩)),.eq (.slice (some ⟨B,o2,none⟩) lb.length cap2),.eq (.int .i64 k),.eq (.pointer (some ⟨B,o2+k*1,none⟩)),.eq (.int .u32 y),.eq (.int .u64 y),.eq (.int .u64 (x*y)),.eq (.int .u64 (D+z+x*y))] [50,51,52,53,54,55,56,57,58,59,60,61,62,63,64] rfl rfl rfl rfl ⟨λ_ _ a _ _ _=>xM rfl (a 7 rfl),λA _ hA _ _ _=>have h2:A.eval (.tmp 2)=.pointer (some ⟨w.heap.size,0,none⟩):=hA 2 rfl;pZ rfl,λA _ _ hL _ he=>have hb:=hL.below;have h51:=eT 51 (he.1 rfl);have c0:=((B1.keep d B1.lt).on hb).at1 1 _ rfl;pZ rfl,λ_ _ a _ _ _=>xM rfl (a 6 rfl),λ_ _ _ _ _ e=>pI rfl Tryz.underlying37 p1 o1 i (I) (e.1 rfl) (e.2.1 rfl),?_,?_,λA _ hA _ _ _=>have h3:A.eval (.tmp 3)=.pointer (some ⟨w.heap.size+1,0,none⟩):=hA 3 rfl;pZ rfl,λA _ _ hL _ he=>have hb:=hL.below;have h57:=eT 57 (he.1 rfl);have c0:=((B2.keep d B2.lt).on hb).at1 1 _ rfl;pZ rfl,λ_ _ a _ _ _=>xM rfl (a 8 rfl),λ_ _ _ _ _ e=>pI rfl Tryz.underlying37 B o2 k (r) (e.1 rfl) (e.2.1 rfl),?_,?_,?_,?_,trivial⟩ ?_
     ·intro A w1 hA hL hS he;have h54:=eT 54 (he.1 rfl);refine ae rfl ?_;have c0:=C w1 (d.trans (hL.below.mono d.size));exact aB rfl rfl gZ
     ·intro A w1 hA hL hS he;have h55:=eT 55 (he.1 rfl);refine ae rfl (aB rfl rfl ?_);generalize A.eval=ev at *;go_simp;rw[IntKind.wrap_u64];omega
     ·intro A w1 hA hL hS he;have h60:=eT 60 (he.1 rfl);refine ae rfl ?_;have c0:=X w1 (d.trans (hL.below.mono d.size));exact aB rfl rfl gZ
     ·intro A w1 hA hL hS he;have h61:=eT 61 (he.1 rfl);refine ae rfl (aB rfl rfl ?_);generalize A.eval=ev at *;go_simp;rw[IntKind.wrap_u64];omega
     ·intro A w1 hA hL hS he;have h56:=eT 56 (he.1 rfl);have h62:=eT 62 (he.2.1 rfl);refine ae rfl (aB rfl rfl ?_);generalize A.eval=ev at *;go_simp;rw[IntKind.wrap_u64];omega
     ·intro A w1 hA hL hS he;have h50:=eT 50 (he.1 rfl);have h63:=eT 63 (he.2.1 rfl);refine ae rfl (aB rfl rfl ?_);generalize A.eval=ev at *;go_simp;rw[IntKind.wrap_u64];omega
     ·intro W2 hL2;simp only[aT,af.eq,lZ];have hblk2:=zH (b.out.on hL2.below);have hb2:=d.trans (hL2.below.mono d.size);have hco2:=hblk2.out.ucell (i+k) p.out;have hfo2:=hblk2.out.frozen (i+k);go_frame;go_wp2;go_roundw
      case rel=>exact⟨k+1,_,_,nM,rfl,o,zH (hblk2.out.uset (i+k) _),hb2.setCell (nL _) _⟩
      case measure=>simp[intOf];omega
    ·rw[p2 r,Int.mul_zero,Int.add_zero]at o;rw[p2 r]at a2 a4;by_cases hc0:0<D
     ·replace o:=zH (o (.inr hc0))
      have G:k<=lb.length:=by
       rcases Nat.lt_or_ge lb.length k with h|h
       ·have:=HK.out oM;omega
       ·exact h
      replace s:=s (by rw[j];omega);have hlen2:i+k<l.length+lb.length+1:=oM;clear p2 F j;generalize J.getD (i+k) 0=z at *;replace G:=zH G;go_wp2;go_roundw
      case rel=>exact⟨k+1,_,_,nM,rfl,o,zH (b.out.uset (i+k) _),d.setCell (nL _) _⟩
      case measure=>have:=G.out;simp[intOf];omega
     ·obtain rfl:D=0:=oM;have HD:=zH (n.out.done r);clear o s F p2 j;go_wp2;go_roundw
      case rel=>exact⟨i+1,_,oM,nM,HD,b,d⟩
      case measure=>simp[intOf];omega
  ·obtain rfl:i=l.length:=oM;have e1:=(B1.keep hb B1.lt).at1 0 _ rfl;have e2:=(B2.keep hb B2.lt).at1 0 _ rfl
   have hu:cO wr (.slice (some ⟨W.heap.size,0,none⟩) (l.length+lb.length+1) (l.length+lb.length+1)) u:=by have:=b.out.u32s hinv.out.2.1;rw[hinv.out.1]at this;exact this
   have HV:=zH hinv.out.done;have a5:u.length<=1000000000:=by rw[hinv.out.1];omega
   have M:=hb0.trans (hb.mono hb0.size);have L:=B3.keep hb B3.lt;clear hinv b
   go_wp2_with fail
   refine(iC (n1 != n2) _ u _ hu a5).mono ?_;rintro e w2 ⟨neg,m,rfl,Y,hb2⟩;rw[HV.out]at Y
   go_wp2_with (refine az rfl _ (.tmp 4) (.tmp 80) rfl _ _ _ _ rfl rfl (L.on hb2) rfl aK Y.ones ?_;intro w3 R gr)
   exact dH rfl rfl rfl R Tryz.underlying39 rfl aK (jd M hb2 oM (L.on hb2) Y gr)
theorem lL(n1 n2:Bool)(m1 m:Value)(k l:Int)(w:World)(p:aZ w n1 m1 k)(q:aZ w n2 m l)(c1:aF k.natAbs<=CS)(c2:aF l.natAbs<=CS) :
  Calls Tryz.prog 105 #[.agg #[.bool n1,m1],.agg #[.bool n2,m]] w (kY w (k*l)):=by
 obtain⟨y,e,b,rfl,r,b1,u1,n,i,z,u,rfl⟩:=p.openS c1;obtain⟨l2,h,d,rfl,s,C,D,o,j,B,x,rfl⟩:=q.openS c2;rw[<-MJ];exact OM n1 n2 e h b d y l2 w oM oM n o i j
theorem IL(u:Option Addr)(cap:Nat)(A:List Int)(d:Int)(w:World)(I:A.length<=68719476736)(p:aG A)(F:At uT w u (uc A))(d0:1<=d)(d1:d<4294967296) :
  Calls Tryz.prog 157 #[.slice u A.length cap,.int .u32 d] w (xn w (ah A) d A.length):=by
 go_enter Tryz.func157,Tryz.ntmps157
 go_wp2_with (at_make;refine bL rfl _ _ _ rfl _ (.int .u32 0) 1 4 Tryz.underlying37 bD rfl rfl .i64 .i64 _ _ A.length rfl rfl oM oM oM oM ?_;intro w1 own1 gr1)
 rw[iO]at own1
 go_loopw [7,8] (λr i wr=>∃(k:Nat)(m:List Int)(q:Int),k<=A.length/\i=.int .i64 ((k:Int)-1)/\r=.int .u64 q/\Hid (jZ A d k m q)/\Hid (Blk wr w.heap.size uT (uc m))/\Below w.heap.size w wr) (λ_ i _=>(intOf i+1).toNat)
 case atStart=>exact⟨A.length,_,0,nL _,rfl,rfl,zH (jZ.start A d oM),zH own1,gr1⟩
 case round =>
  obtain⟨k,m,q,J,rfl,rfl,hinv,b,hb⟩:=hrel;by_cases h0:1<=k
  ·obtain⟨i,rfl⟩:∃i,k=i+1:=⟨k - 1,oM⟩;obtain⟨p1,o1,e1,j⟩:=F (by rw[dG];omega);have hc:=(j.keep hb j.lt).ucell i oM;have E1:=zH e1;have q0:=hinv.out.2.2.1;have q1:q<4294967296:=by have:=hinv.out.2.2.2.1;omega
   have l:i<m.length:=by have:=hinv.out.1;omega
   have B:=b.out.ucell i l;have C:=b.out.frozen i;have a1:=(p.getD i).1;have y:A.getD i 0<4294967296:=(p.getD i).2;obtain⟨n,s1,s0⟩:=hinv.out.step p d1 oM;have G:=zH l;clear e1 j l;generalize A.getD i 0=x at *;generalize m.getD i 0=z at *;have o:=zH n;clear n;have s:i<A.length:=oM;have D:0<=q*4294967296+x:=oM
   go_wp2_with (refine aj rfl (.tmp 21) (.tmp 22) _ rfl _ Tryz.underlying37 _ _ _ bD _ _ _ rfl _ _ rfl i oM s p1 o1 E1.out ?_;rw[nU])
   go_roundw
   case rel=>exact⟨i,_,_,oM,nM,rfl,o,zH (b.out.uset i _),hb.setCell (nL _) _⟩
   case measure=>simp[intOf]
  ·obtain rfl:k=0:=oM;have q0:=hinv.out.2.2.1;have q1:q<4294967296:=by have:=hinv.out.2.2.2.1;omega
   go_wp2;go_ret2;have hu:=b.out.u32s hinv.out.2.1;rw[hinv.out.1]at hu;exact⟨_,m,q,rfl,hu,hinv.out.1,hinv.out.done,q0,hinv.out.2.2.2.1,hb⟩
theorem Cu(v:Value)(l:List Int)(d:Int)(w:World)(h:cO w v l)(b:l.length<=68719476736)(d0:1<=d)(d1:d<4294967296) :
  Calls Tryz.prog 157 #[v,.int .u32 d] w (xn w (ah l) d l.length):=by
 obtain⟨e,cap,rfl,_,L,m⟩:=h;exact IL e cap l d w b L m d0 d1
def MV (w:World) (x y:Int) (e:Ending) (w':World):Prop :=
 ∃n1 m1 n2 m2,e=.returned (.tuple #[.agg #[.bool n1,m1],.agg #[.bool n2,m2]])/\aZ w' n1 m1 x/\aZ w' n2 m2 y/\Below w.heap.size w w'
theorem ut{P:Program}{fn:Func}{p q:Tmp}{ty:TypeId}(h:fn.results=#[.cell p ty,.cell q ty])(tmps:Array Value)(w:World)(g1 b:Nat){d:TypeDesc}(hu:P.underlying ty=some d)
  (hd:(match d with|.struct _|.array _ _=>true|_=>false)=true) {l m:TypeId} {c1 c2:List Value} (hp:tmps.getD p undef=.pointer (some ⟨g1,0,none⟩)) (hq:tmps.getD q undef=.pointer (some ⟨b,0,none⟩)) (o:Blk w g1 l c1) (r:Blk w b m c2)
  (e:(P.info? ty).map (·.size)=some c1.length) (i:(P.info? ty).map (·.size)=some c2.length) :
  (results fn tmps).run P w=.ok (.tuple #[.agg c1.toArray,.agg c2.toArray]) w:=by
 have j:tmps[p]?.getD undef=.pointer (some ⟨g1,0,none⟩):=by simpa using hp
 have k:tmps[q]?.getD undef=.pointer (some ⟨b,0,none⟩):=by simpa using hq
 have e1:=run_loadVar_row (P:=P) w g1 l ty c1.toArray (0,0) d o hu hd (by simpa using e);have n:=run_loadVar_row (P:=P) w b m ty c2.toArray (0,0) d r hu hd (by simpa using i);simp[results,h,j,k,asAddr,Sem.run_bind,e1,n]
theorem MW{w:World}{neg:Bool}{m:Value}{z:Int}(h:aZ w neg m z)(hz:aF z.natAbs<=CS):Calls Tryz.prog 103 #[m,.bool neg] w (kY w z):=by obtain⟨l,d,cap,rfl,hc,b,u,L,e,i,hp,rfl⟩:=h.openS hz;exact iC neg _ l w u oM
theorem zb{w:World}{neg:Bool}{m:Value}{z:Int}(h:aZ w neg m z)(hz:aF z.natAbs<=CS):Calls Tryz.prog 103 #[m,.bool false] w (kY w z.natAbs):=by obtain⟨l,e,cap,rfl,hc,b,u,L,i,j,hp,rfl⟩:=h.openS hz;have:=iC false _ l w u oM;have d:=aU L;rw[fe,Int.natAbs_of_nonneg d];exact this
theorem IM(v1 v2:Value)(l1:List Int)(d:Int)(w:World)(h1:cO w v1 l1)(h2:cO w v2 [d])(b1:l1.length<=600000000)(hd:1<=d) :
  Calls Tryz.prog 139 #[v1,v2] w (MV w (ah l1/d) (ah l1%d)):=by
 obtain⟨ao2,cap2,rfl,hc2,L2,m2⟩:=h2;obtain⟨p2,o2,rfl,q⟩:=m2 (by simp[uc]);have s:d<4294967296:=(L2 d sM).2;simp only[List.length_cons,List.length_nil,Nat.zero_add]at hc2 ⊢
 go_enter Tryz.func139,Tryz.ntmps139
 go_upto_region 1 with (fail)
 refine xc λW hb0 B1 B2 z=>?_;have i:=(q.on hb0).ucell 0 sM;simp only[List.getD_cons_zero,Nat.add_zero]at i
 go_upto_region 3 with (first
  | (refine aj rfl (.tmp 21) _ _ rfl _ Tryz.underlying37 _ _ _ bD _ _ _ rfl .i64 0 rfl 0 rfl oM p2 o2 rfl ?_;rw[Nat.zero_mul,Nat.add_zero])
  | (go_at_call 157;refine(Cu _ l1 d _ (h1.on hb0) oM hd s).mono ?_;rintro e w1 ⟨v,l,r,rfl,hu,B,he,hr0,hr1,hb1⟩))
 have hq:Hid (ah l1/d=ah l/\ah l1%d=r):=zH (WL oM he hr0 hr1);have x:0<=r/\r<bv:=by rw[aP];omega
 clear he i;have hb01:=hb0.trans (hb1.mono hb0.size);have n:=B1.on hb1;have o:=B2.on hb1;have u:ah [r]=r:=by simp[ah]
 go_wp2_with fail
 refine(iC false _ l w1 hu oM).mono ?_;rintro e w2 hret;obtain⟨n3,a3,k3,c3,rfl,i3,hb2⟩:=eD hret;clear hret;have j:Below w2.heap.size w2 (w2.alloc (.cells #[.int .u32 r] uT)):=(Below.refl _ _).alloc (nL _) _
 go_wp2_with fail
 refine(iC false _ [r] _ (cO.newOne w2 x) sM).mono ?_;rintro e w3 hret;obtain⟨n4,a4,k4,c4,rfl,i4,hb3⟩:=eD hret;clear hret;have hb23:=hb2.trans ((j.trans (hb3.mono j.size)).mono hb2.size);have hC1:=n.on hb23;have hC2:=o.on hb23;have k:=i3.on (j.trans (hb3.mono j.size))
 go_wp2_with (first
  | (refine az rfl _ (.tmp 4) (.tmp 28) rfl _ _ _ _ rfl rfl hC1 rfl aK k.ones ?_;intro w4 R4 gr4;have b:=hC2.grown gr4 oM;have y:=k.stored gr4 hC1 dM;have m:=i4.stored gr4 hC1 dM)
  | (refine az rfl _ (.tmp 5) (.tmp 31) rfl _ _ _ _ rfl rfl b rfl aK m.ones ?_;intro w5 R5 gr5))
 have p:=hb01.trans (hb23.mono hb01.size);have hlt1:=hC1.lt;have hlt2:=b.lt;refine bodyPost_ret (ut rfl _ _ _ _ Tryz.underlying39 rfl rfl rfl (R4.grown gr5 oM) R5 aK aK) rfl ⟨_,_,_,_,rfl,?_,?_,(p.trans ((aH gr4 (Nat.le_of_lt hlt1) (nL _)).mono oM)).trans ((aH gr5 (Nat.le_of_lt hlt2) (nL _)).mono oM)⟩
 ·have:=y.stored gr5 b dM;rw[hq.out.1];simpa[fZ]using this
 ·have:=m.stored gr5 b dM;rw[u]at this;rw[hq.out.2];simpa[fZ]using this
theorem iT{x y:Int}{K:Nat}(h:x.natAbs<=y.natAbs)(b:aF y.natAbs<=K):aF x.natAbs<=K:=Nat.le_trans (iV h) b
end Go.Proofs.YtopclbeomcggiaaGreat
