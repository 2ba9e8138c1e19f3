/- The reference's integers: Mul, short. -/
import Derived.Test.YtopclbeomcggiaaGreatW20
set_option linter.unusedVariables false
set_option linter.unusedSimpArgs false
set_option maxHeartbeats 16000000
set_option maxRecDepth 100000
namespace Go.Proofs.YtopclbeomcggiaaGreat
open Go.RowKit Q
def nJ (A B:List Int) (i:Nat) (xs:List Int):Prop :=
 xs.length=A.length+B.length+1/\aH xs/\ah xs=ah (A.take i)*ah B/\∀ j,i+B.length<=j->xs.getD j 0=0
def uU (A B:List Int) (i k:Nat) (xs:List Int) (c:Int):Prop :=
 xs.length=A.length+B.length+1/\aH xs/\0<=c/\c<4294967296/\k<=B.length+1/\(k=B.length+1->c=0)/\(k<=B.length->xs.getD (i+B.length) 0=0) /\
  ah xs+bL ^ (i+k)*c=ah (A.take i)*ah B+bL ^ i*(A.getD i 0*ah (B.take k))/\∀ j,i+B.length<j->xs.getD j 0=0
theorem nJ.start (A B:List Int):nJ A B 0 (List.replicate (A.length+B.length+1) 0) :=
 ⟨by simp,jM _,by simp [ah,nZ],fun j _=>by
  rw [List.getD_eq_getElem?_getD,List.getElem?_replicate];split <;> rfl⟩
theorem nJ.inner {A B:List Int} {i:Nat} {xs:List Int} (h:nJ A B i xs):uU A B i 0 xs 0 :=
 ⟨h.1,h.2.1,by omega,by omega,by omega,by omega,fun _=>h.2.2.2 _ (Nat.le_refl _),by rw [h.2.2.1];simp [ah],fun j hj=>h.2.2.2 j (by omega)⟩
theorem uU.step {A B:List Int} {i k:Nat} {xs:List Int} {c:Int} (h:uU A B i k xs c) (LA:aH A) (LB:aH B) (hi:i<A.length) (hk:k<B.length\/0<c) :
  uU A B i (k+1) (xs.set (i+k) ((c+xs.getD (i+k) 0+A.getD i 0*B.getD k 0) % 4294967296)) ((c+xs.getD (i+k) 0+A.getD i 0*B.getD k 0) / 4294967296):=by
 obtain⟨h1,h2,h3,h4,h5,h6,h7,h8,h9⟩:=h;have a1:=LA.getD i;have a2:=LB.getD k;have a3:=h2.getD (i+k);rw [aT] at a1 a2 a3;have hp:=prod_bound (A.getD i 0) (B.getD k 0) a1.1 (by omega) a2.1 (by omega);have p2:=jX B k
 have hkl:k<=B.length:=by
  rcases Nat.lt_or_ge B.length k with h|h
  ·have:=h6 (by omega);omega
  ·exact h
 have hkz:¬ k<B.length->(c+xs.getD (i+k) 0+A.getD i 0*B.getD k 0)=c:=fun h=>by
  have e:k=B.length:=by omega
  rw [p2 h,e,h7 hkl];simp
 refine⟨by simpa using h1,fJ h2 _ (by rw [aT];omega),by omega,by omega,by omega,fun he=>?_,fun hl=>?_,?_,fun j hj=>by rw [dN _ _ _ _ (by omega)];exact h9 j hj⟩
 ·rw [hkz (by omega)];omega
 ·rw [dN _ _ _ _ (by omega)];exact h7 hkl
 rw [kN _ _ _ (by omega),aL];have e:=Int.mul_ediv_add_emod (c+xs.getD (i+k) 0+A.getD i 0*B.getD k 0) 4294967296;generalize (c+xs.getD (i+k) 0+A.getD i 0*B.getD k 0) % 4294967296=r at *;generalize (c+xs.getD (i+k) 0+A.getD i 0*B.getD k 0) / 4294967296=q at *;rw [<- aT] at e;have e2:bL ^ (i+(k+1))=bL ^ (i+k)*bL:=by rw [<- Nat.add_assoc,Int.pow_succ]
 have e3:bL ^ (i+k)=bL ^ i*bL ^ k:=Int.pow_add ..;rw [e2];have:bL ^ (i+k)*(c+xs.getD (i+k) 0+A.getD i 0*B.getD k 0)=bL ^ (i+k)*(bL*q+r):=by rw [e]
 have h5':ah xs=ah (A.take i)*ah B+bL ^ i*(A.getD i 0*ah (B.take k))-bL ^ (i+k)*c:=by omega
 rw [h5'];rw [e3] at *;generalize bL ^ i=P at *;generalize bL ^ k=R at *;grind
theorem uU.done {A B:List Int} {i k:Nat} {xs:List Int} (h:uU A B i k xs 0) (hk:¬ k<B.length):nJ A B (i+1) xs:=by
 obtain⟨h1,h2,h3,h4,h5,h6,h7,h8,h9⟩:=h;refine⟨h1,h2,?_,fun j hj=>h9 j (by omega)⟩;rw [aL];rw [List.take_of_length_le (l:=B) (by omega)] at h8;grind
theorem nJ.done {A B:List Int} {xs:List Int} (h:nJ A B A.length xs):ah xs=ah A*ah B:=by
 rw [h.2.2.1,List.take_of_length_le (Nat.le_refl _)]
theorem NB (n1 n2:Bool) (ao1 ao2:Option Addr) (cap1 cap2:Nat) (la lb:List Int) (w:World) (bA:la.length<=10000000) (bB:lb.length<=10000000) (LA:aH la) (LB:aH lb) (mA:At uT w ao1 (uc la)) (mB:At uT w ao2 (uc lb)) :
  Calls Tryz.prog 105 #[.agg #[.bool n1,.slice ao1 la.length cap1],.agg #[.bool n2,.slice ao2 lb.length cap2]] w (lI w (fZ (n1 != n2) (ah la*ah lb))):=by
 go_enter Tryz.func105,Tryz.ntmps105
 go_upto_region 1 with (fail)
 refine rY fun W hb0 B1 B2 B3 hsz=>?_;have c1:=B1.at1 1 _ rfl;have c2:=B2.at1 1 _ rfl
 go_wp2_with (at_make;refine bQ rfl _ _ _ rfl _ (.int .u32 0) 1 4 Tryz.underlying37 bM rfl rfl .i64 .i64 _ _ (la.length+lb.length+1) rfl rfl (by omega) (by omega) (by omega) (by omega) ?_;intro w1 own1 gr1;have c3:=(B1.keep gr1 B1.lt).at1 1 _ rfl)
 rw [iZ] at own1;clear c1 c2 c3
 go_loopw [6] (fun i wr=>∃ (k:Nat) (xs:List Int),k<=la.length/\i=.int .i64 k/\Hid (nJ la lb k xs)/\Hid (Blk wr W.heap.size uT (uc xs))/\Below W.heap.size W wr) (fun i _=>la.length-(intOf i).toNat)
 case atStart=>exact⟨0,_,Nat.zero_le _,rfl,zH (nJ.start la lb),zH own1,gr1⟩
 case round =>
  clear own1 gr1;obtain⟨i,xs,hi,rfl,hinv,hblk,hb⟩:=hrel;have d1:=(B1.keep hb B1.lt).at1 1 _ rfl;by_cases hlt:i<la.length
  ·obtain⟨p1,o1,rfl,hcA⟩:=mA (by rw [eQ];omega);have hcA':∀ w',Below W.heap.size W w'->w'.cell? ⟨p1,o1+i,none⟩=some (.int .u32 (la.getD i 0)):=fun w' h=>((hcA.on hb0).on h).ucell i hlt;have a1:=(LA.getD i).1;have a1':la.getD i 0<4294967296:=(LA.getD i).2;have HX:Hid (∃ x,x=la.getD i 0):=⟨_,rfl⟩;obtain⟨x,hx⟩:=HX.out;rw [<- hx] at hcA' a1 a1';replace hx:=zH hx;clear hcA HX;go_wp2
   go_loopw [7,8] (fun c q wr=>∃ (k:Nat) (xs:List Int) (cy:Int),q=.int .i64 k/\c=.int .u64 cy/\Hid (uU la lb i k xs cy)/\Hid (Blk wr W.heap.size uT (uc xs))/\Below W.heap.size W wr) (fun _ q _=>lb.length+1-(intOf q).toNat)
   case atStart=>exact⟨0,xs,0,rfl,rfl,zH hinv.out.inner,hblk,hb⟩
   case round =>
    clear hinv hblk d1 hb;obtain⟨k,ys,cy,rfl,rfl,hin,hblk,hbr⟩:=hrel;have d2:=(B2.keep hbr B2.lt).at1 1 _ rfl;have q1:=hin.out.2.2.1;have q2:=hin.out.2.2.2.1;have hkb:=hin.out.2.2.2.2.1;have HK:=zH hin.out.2.2.2.2.2.1;have HL:=zH hin.out.1;have hco:=hblk.out.ucell (i+k);have hfo:=hblk.out.frozen (i+k);have hik:i+k<ys.length↔k<=lb.length\/i+k<la.length+lb.length+1:=by rw [HL.out];omega
    have a2:=(LB.getD k).1;have a2':lb.getD k 0<4294967296:=(LB.getD k).2;have a3:=(hin.out.2.1.getD (i+k)).1;have a3':ys.getD (i+k) 0<4294967296:=(hin.out.2.1.getD (i+k)).2;have p2:=jX lb k;have hst:=hin.out.step LA LB hlt;rw [<- hx.out] at hst;have hylen:ys.length=la.length+lb.length+1:=HL.out;by_cases hkt:k<lb.length
    ·obtain⟨p2',o2,rfl,hcB⟩:=mB (by rw [eQ];omega);have hcB':∀ w',Below W.heap.size W w'->w'.cell? ⟨p2',o2+k,none⟩=some (.int .u32 (lb.getD k 0)):=fun w' h=>((hcB.on hb0).on h).ucell k hkt;replace hco:=hco (by rw [hylen];omega);replace hst:=zH (hst (.inl hkt));have hlen':i+k<ys.length:=by omega
     clear p2 hik hcB hylen;generalize lb.getD k 0=y at *;generalize ys.getD (i+k) 0=z at *;obtain⟨hp0,hp1⟩:=prod_bound x y a1 (by omega) a2 (by omega);have hlen2:i+k<la.length+lb.length+1:=by omega
     replace hlen':=zH hlen'
     go_upto_region 11 with (fail)
     refine aF mixed (none) (0) (gp.none) [.eq (.int .u64 (cy+z)),.eq (.pointer (some ⟨w.heap.size,1,none⟩)),.eq (.slice (some ⟨p1,o1,none⟩) la.length cap1),.eq (.int .i64 i),.eq (.pointer (some ⟨p1,o1+i*1,none⟩)),.eq (.int .u32 x),.eq (.int .u64 x),.eq (.pointer (some ⟨w.heap.size+1,1,none⟩)),.eq (.slice (some ⟨p2',o2,none⟩) lb.length cap2),.eq (.int .i64 k),.eq (.pointer (some ⟨p2',o2+k*1,none⟩)),.eq (.int .u32 y),.eq (.int .u64 y),.eq (.int .u64 (x*y)),.eq (.int .u64 (cy+z+x*y))] [50,51,52,53,54,55,56,57,58,59,60,61,62,63,64] rfl rfl rfl rfl ⟨?_,?_,?_,?_,?_,?_,?_,?_,?_,?_,?_,?_,?_,?_,?_,trivial⟩ ?_
     ·exact fun _ _ a _ _ _=>xM rfl (a 7 rfl)
     ·intro A w1 hA hL hS he;have h2:A.eval (.tmp 2)=.pointer (some ⟨w.heap.size,0,none⟩):=hA 2 rfl;exact pZ rfl
     ·intro A w1 hA hL hS he;have hb:=hL.below;have h51:=eT 51 (he.1 rfl);have c0:=((B1.keep hbr B1.lt).on hb).at1 1 _ rfl;exact pZ rfl
     ·exact fun _ _ a _ _ _=>xM rfl (a 6 rfl)
     ·exact fun _ _ _ _ _ e=>pI rfl Tryz.underlying37 p1 o1 i (hlt) (e.1 rfl) (e.2.1 rfl)
     ·intro A w1 hA hL hS he;have h54:=eT 54 (he.1 rfl);refine ae rfl ?_;have c0:=hcA' w1 (hbr.trans (hL.below.mono hbr.size));exact aC rfl rfl gZ
     ·intro A w1 hA hL hS he;have h55:=eT 55 (he.1 rfl);refine ae rfl (aC rfl rfl ?_);generalize A.eval=ev at *;go_simp;rw [IntKind.wrap_u64];omega
     ·intro A w1 hA hL hS he;have h3:A.eval (.tmp 3)=.pointer (some ⟨w.heap.size+1,0,none⟩):=hA 3 rfl;exact pZ rfl
     ·intro A w1 hA hL hS he;have hb:=hL.below;have h57:=eT 57 (he.1 rfl);have c0:=((B2.keep hbr B2.lt).on hb).at1 1 _ rfl;exact pZ rfl
     ·exact fun _ _ a _ _ _=>xM rfl (a 8 rfl)
     ·exact fun _ _ _ _ _ e=>pI rfl Tryz.underlying37 p2' o2 k (hkt) (e.1 rfl) (e.2.1 rfl)
     ·intro A w1 hA hL hS he;have h60:=eT 60 (he.1 rfl);refine ae rfl ?_;have c0:=hcB' w1 (hbr.trans (hL.below.mono hbr.size));exact aC rfl rfl gZ
     ·intro A w1 hA hL hS he;have h61:=eT 61 (he.1 rfl);refine ae rfl (aC rfl rfl ?_);generalize A.eval=ev at *;go_simp;rw [IntKind.wrap_u64];omega
     ·intro A w1 hA hL hS he;have h56:=eT 56 (he.1 rfl);have h62:=eT 62 (he.2.1 rfl);refine ae rfl (aC rfl rfl ?_);generalize A.eval=ev at *;go_simp;rw [IntKind.wrap_u64];omega
     ·intro A w1 hA hL hS he;have h50:=eT 50 (he.1 rfl);have h63:=eT 63 (he.2.1 rfl);refine ae rfl (aC rfl rfl ?_);generalize A.eval=ev at *;go_simp;rw [IntKind.wrap_u64];omega
     ·intro W2 hL2;simp only [aU,af.eq,lZ];have hblk2:=zH (hblk.out.on hL2.below);have hb2:=hbr.trans (hL2.below.mono hbr.size);have hco2:=hblk2.out.ucell (i+k) hlen'.out;have hfo2:=hblk2.out.frozen (i+k);go_frame;go_wp2;go_roundw
      case rel=>exact⟨k+1,_,_,by go_num,rfl,hst,zH (hblk2.out.uset (i+k) _),hb2.setCell (Nat.le_refl _) _⟩
      case measure=>simp [intOf];omega
    ·rw [p2 hkt,Int.mul_zero,Int.add_zero] at hst;rw [p2 hkt] at a2 a2';by_cases hc0:0<cy
     ·replace hst:=zH (hst (.inr hc0))
      have hkl:k<=lb.length:=by
       rcases Nat.lt_or_ge lb.length k with h|h
       ·have:=HK.out (by omega);omega
       ·exact h
      replace hco:=hco (by rw [hylen];omega);have hlen2:i+k<la.length+lb.length+1:=by omega
      clear p2 hik hylen;generalize ys.getD (i+k) 0=z at *;replace hkl:=zH hkl;go_wp2;go_roundw
      case rel=>exact⟨k+1,_,_,by go_num,rfl,hst,zH (hblk.out.uset (i+k) _),hbr.setCell (Nat.le_refl _) _⟩
      case measure=>have:=hkl.out;simp [intOf];omega
     ·obtain rfl:cy=0:=by omega
      have HD:=zH (hin.out.done hkt);clear hst hco hik p2 hylen;go_wp2;go_roundw
      case rel=>exact⟨i+1,_,by omega,by go_num,HD,hblk,hbr⟩
      case measure=>simp [intOf];omega
  ·obtain rfl:i=la.length:=by omega
   have e1:=(B1.keep hb B1.lt).at1 0 _ rfl;have e2:=(B2.keep hb B2.lt).at1 0 _ rfl
   have hu:dH wr (.slice (some ⟨W.heap.size,0,none⟩) (la.length+lb.length+1) (la.length+lb.length+1)) xs:=by
    have:=hblk.out.u32s hinv.out.2.1;rw [hinv.out.1] at this;exact this
   have HV:=zH hinv.out.done;have hxl:xs.length<=100000000:=by rw [hinv.out.1];omega
   have hb0':=hb0.trans (hb.mono hb0.size);have B3':=B3.keep hb B3.lt;clear hinv hblk
   go_wp2_with fail
   refine (ku (n1 != n2) _ xs _ hu hxl).mono ?_;rintro e w2 ⟨neg,m,rfl,hi,hb2⟩;rw [HV.out] at hi
   go_wp2_with (refine aA rfl _ (.tmp 4) (.tmp 80) rfl _ _ _ _ rfl rfl (B3'.on hb2) rfl aR hi.ones ?_;intro w3 R gr)
   exact dM rfl rfl rfl R Tryz.underlying39 rfl aR (jE hb0' hb2 (by omega) (B3'.on hb2) hi gr)
theorem sM (n1 n2:Bool) (m1 m2:Value) (z1 z2:Int) (w:World) (h1:aZ w n1 m1 z1) (h2:aZ w n2 m2 z2) (c1:aI z1.natAbs<=CS) (c2:aI z2.natAbs<=CS) :
  Calls Tryz.prog 105 #[.agg #[.bool n1,m1],.agg #[.bool n2,m2]] w (lI w (z1*z2)):=by
 obtain⟨l1,ao1,cap1,rfl,hc1,b1,u1,L1,mm1,nn1,hp1,rfl⟩:=h1.openS c1;obtain⟨l2,ao2,cap2,rfl,hc2,b2,u2,L2,mm2,nn2,hp2,rfl⟩:=h2.openS c2;rw [<- K9];exact NB n1 n2 ao1 ao2 cap1 cap2 l1 l2 w (by omega) (by omega) L1 L2 mm1 mm2
theorem Hd (ao:Option Addr) (cap:Nat) (A:List Int) (d:Int) (w:World) (bA:A.length<=68719476736) (LA:aH A) (mA:At uT w ao (uc A)) (d0:1<=d) (d1:d<4294967296) :
  Calls Tryz.prog 157 #[.slice ao A.length cap,.int .u32 d] w (vM w (ah A) d A.length):=by
 go_enter Tryz.func157,Tryz.ntmps157
 go_wp2_with (at_make;refine bQ rfl _ _ _ rfl _ (.int .u32 0) 1 4 Tryz.underlying37 bM rfl rfl .i64 .i64 _ _ A.length rfl rfl (by omega) (by omega) (by omega) (by omega) ?_;intro w1 own1 gr1)
 rw [iZ] at own1
 go_loopw [7,8] (fun r i wr=>∃ (k:Nat) (xs:List Int) (q:Int),k<=A.length/\i=.int .i64 ((k:Int)-1)/\r=.int .u64 q/\Hid (jO A d k xs q)/\Hid (Blk wr w.heap.size uT (uc xs))/\Below w.heap.size w wr) (fun _ i _=>(intOf i+1).toNat)
 case atStart=>exact⟨A.length,_,0,Nat.le_refl _,rfl,rfl,zH (jO.start A d (by omega)),zH own1,gr1⟩
 case round =>
  obtain⟨k,xs,q,hk,rfl,rfl,hinv,hblk,hb⟩:=hrel;by_cases h0:1<=k
  ·obtain⟨i,rfl⟩:∃ i,k=i+1:=⟨k - 1,by omega⟩;obtain⟨p1,o1,e1,hcA⟩:=mA (by rw [eQ];omega);have hc:=(hcA.keep hb hcA.lt).ucell i (by omega);have E1:=zH e1;have q0:=hinv.out.2.2.1;have q1:q<4294967296:=by have:=hinv.out.2.2.2.1;omega
   have hxi:i<xs.length:=by have:=hinv.out.1;omega
   have hco:=hblk.out.ucell i hxi;have hfo:=hblk.out.frozen i;have a1:=(LA.getD i).1;have a1':A.getD i 0<4294967296:=(LA.getD i).2;obtain⟨hst,s1,s0⟩:=hinv.out.step LA d1 (by omega);have HX:=zH hxi;clear e1 hcA hxi;generalize A.getD i 0=x at *;generalize xs.getD i 0=z at *;have HST:=zH hst;clear hst;have hlt:i<A.length:=by omega
   have hwf:0<=q*4294967296+x:=by omega
   go_wp2_with (refine aj rfl (.tmp 21) (.tmp 22) _ rfl _ Tryz.underlying37 _ _ _ bM _ _ _ rfl _ _ rfl i (by omega) hlt p1 o1 E1.out ?_;rw [Nat.mul_one])
   go_roundw
   case rel=>exact⟨i,_,_,by omega,by go_num,rfl,HST,zH (hblk.out.uset i _),hb.setCell (Nat.le_refl _) _⟩
   case measure=>simp [intOf]
  ·obtain rfl:k=0:=by omega
   have q0:=hinv.out.2.2.1;have q1:q<4294967296:=by have:=hinv.out.2.2.2.1;omega
   go_wp2;go_ret2;have hu:=hblk.out.u32s hinv.out.2.1;rw [hinv.out.1] at hu;exact⟨_,xs,q,rfl,hu,hinv.out.1,hinv.out.done,q0,hinv.out.2.2.2.1,hb⟩
theorem JH (v:Value) (l:List Int) (d:Int) (w:World) (h:dH w v l) (b:l.length<=68719476736) (d0:1<=d) (d1:d<4294967296) :
  Calls Tryz.prog 157 #[v,.int .u32 d] w (vM w (ah l) d l.length):=by
 obtain⟨ao,cap,rfl,_,L,m⟩:=h;exact Hd ao cap l d w b L m d0 d1
def V7 (w:World) (x y:Int) (e:Ending) (w':World):Prop :=
 ∃ n1 m1 n2 m2,e=.returned (.tuple #[.agg #[.bool n1,m1],.agg #[.bool n2,m2]])/\aZ w' n1 m1 x/\aZ w' n2 m2 y/\Below w.heap.size w w'
theorem Bb {P:Program} {fn:Func} {p q:Tmp} {ty:TypeId} (h:fn.results=#[.cell p ty,.cell q ty]) (tmps:Array Value) (w:World) (g1 g2:Nat) {d:TypeDesc} (hu:P.underlying ty=some d)
  (hd:(match d with|.struct _|.array _ _=>true|_=>false)=true) {T1 T2:TypeId} {c1 c2:List Value} (hp:tmps.getD p undef=.pointer (some ⟨g1,0,none⟩)) (hq:tmps.getD q undef=.pointer (some ⟨g2,0,none⟩)) (h1:Blk w g1 T1 c1) (h2:Blk w g2 T2 c2)
  (hi1:(P.info? ty).map (·.size)=some c1.length) (hi2:(P.info? ty).map (·.size)=some c2.length) :
  (results fn tmps).run P w=.ok (.tuple #[.agg c1.toArray,.agg c2.toArray]) w:=by
 have hp':tmps[p]?.getD undef=.pointer (some ⟨g1,0,none⟩):=by simpa using hp
 have hq':tmps[q]?.getD undef=.pointer (some ⟨g2,0,none⟩):=by simpa using hq
 have e1:=run_loadVar_row (P:=P) w g1 T1 ty c1.toArray (0,0) d h1 hu hd (by simpa using hi1);have e2:=run_loadVar_row (P:=P) w g2 T2 ty c2.toArray (0,0) d h2 hu hd (by simpa using hi2);simp [results,h,hp',hq',asAddr,Sem.run_bind,e1,e2]
theorem Lx {w:World} {neg:Bool} {m:Value} {z:Int} (h:aZ w neg m z) (hz:aI z.natAbs<=CS):Calls Tryz.prog 103 #[m,.bool neg] w (lI w z):=by
 obtain⟨l,ao,cap,rfl,hc,b,u,L,mm,nn,hp,rfl⟩:=h.openS hz;exact ku neg _ l w u (by omega)
theorem xS {w:World} {neg:Bool} {m:Value} {z:Int} (h:aZ w neg m z) (hz:aI z.natAbs<=CS):Calls Tryz.prog 103 #[m,.bool false] w (lI w z.natAbs):=by
 obtain⟨l,ao,cap,rfl,hc,b,u,L,mm,nn,hp,rfl⟩:=h.openS hz;have:=ku false _ l w u (by omega);have hl:=bg L;rw [dZ,Int.natAbs_of_nonneg hl];exact this
theorem He (v1 v2:Value) (l1:List Int) (d:Int) (w:World) (h1:dH w v1 l1) (h2:dH w v2 [d]) (b1:l1.length<=1000000) (hd:1<=d) :
  Calls Tryz.prog 139 #[v1,v2] w (V7 w (ah l1 / d) (ah l1 % d)):=by
 obtain⟨ao2,cap2,rfl,hc2,L2,m2⟩:=h2;obtain⟨p2,o2,rfl,hcl⟩:=m2 (by simp [uc]);have hdl:d<4294967296:=(L2 d (by simp)).2;simp only [List.length_cons,List.length_nil,Nat.zero_add] at hc2 ⊢
 go_enter Tryz.func139,Tryz.ntmps139
 go_upto_region 1 with (fail)
 refine xm fun W hb0 B1 B2 hsz=>?_;have hcell:=(hcl.on hb0).ucell 0 (by simp);simp only [List.getD_cons_zero,Nat.add_zero] at hcell
 go_upto_region 3 with (first
  | (refine aj rfl (.tmp 21) _ _ rfl _ Tryz.underlying37 _ _ _ bM _ _ _ rfl .i64 0 rfl 0 rfl (by omega) p2 o2 rfl ?_;rw [Nat.zero_mul,Nat.add_zero])
  | (go_at_call 157;refine (JH _ l1 d _ (h1.on hb0) (by omega) hd hdl).mono ?_;rintro e w1 ⟨v,l,r,rfl,hu,hl,he,hr0,hr1,hb1⟩))
 have hq:Hid (ah l1 / d=ah l/\ah l1 % d=r):=zH (Xz (by omega) he hr0 hr1);have hr':0<=r/\r<bL:=by rw [aT];omega
 clear he hcell;have hb01:=hb0.trans (hb1.mono hb0.size);have B1':=B1.on hb1;have B2':=B2.on hb1;have hlr:ah [r]=r:=by simp [ah]
 go_wp2_with fail
 refine (ku false _ l w1 hu (by omega)).mono ?_;rintro e w2 hret;obtain⟨n3,a3,k3,c3,rfl,i3,hb2⟩:=fK hret;clear hret;have hba:Below w2.heap.size w2 (w2.alloc (.cells #[.int .u32 r] uT)):=(Below.refl _ _).alloc (Nat.le_refl _) _
 go_wp2_with fail
 refine (ku false _ [r] _ (dH.newOne w2 hr') (by simp)).mono ?_;rintro e w3 hret;obtain⟨n4,a4,k4,c4,rfl,i4,hb3⟩:=fK hret;clear hret;have hb23:=hb2.trans ((hba.trans (hb3.mono hba.size)).mono hb2.size);have hC1:=B1'.on hb23;have hC2:=B2'.on hb23;have i3':=i3.on (hba.trans (hb3.mono hba.size))
 go_wp2_with (first
  | (refine aA rfl _ (.tmp 4) (.tmp 28) rfl _ _ _ _ rfl rfl hC1 rfl aR i3'.ones ?_;intro w4 R4 gr4;have hC2':=hC2.grown gr4 (by omega);have i3s:=i3'.stored gr4 hC1 (by decide);have i4s:=i4.stored gr4 hC1 (by decide))
  | (refine aA rfl _ (.tmp 5) (.tmp 31) rfl _ _ _ _ rfl rfl hC2' rfl aR i4s.ones ?_;intro w5 R5 gr5))
 have hbz:=hb01.trans (hb23.mono hb01.size);have hlt1:=hC1.lt;have hlt2:=hC2'.lt;refine bodyPost_ret (Bb rfl _ _ _ _ Tryz.underlying39 rfl rfl rfl (R4.grown gr5 (by omega)) R5 aR aR) rfl ⟨_,_,_,_,rfl,?_,?_,(hbz.trans ((aM gr4 (Nat.le_of_lt hlt1) (Nat.le_refl _)).mono (by omega))).trans ((aM gr5 (Nat.le_of_lt hlt2) (Nat.le_refl _)).mono (by omega))⟩
 ·have:=i3s.stored gr5 hC2' (by decide);rw [hq.out.1];simpa [fZ] using this
 ·have:=i4s.stored gr5 hC2' (by decide);rw [hlr] at this;rw [hq.out.2];simpa [fZ] using this
theorem UO {l:List Int} {z:Int} {n:Bool} (hf:pY z) (hz:z≠0) (h:aH l) (hn:iU l) (e:z=fZ n (ah l)):∃ d,l=[d]/\1<=d:=by
 have h1:=pY.one (l:=l) (by unfold pY at *;rw [e,dZ] at hf;exact hf) h hn
 match l,h1 with
 | [],_=>exact absurd (by rw [e];cases n <;> rfl) hz
 | [d],_ =>
  refine⟨d,rfl,?_⟩;have:=h d (by simp);have hne:d≠0:=by rintro rfl;apply hz;rw [e];cases n <;> simp [fZ,ah]
  omega
 | _::_::_,h=>simp at h
theorem nK {x y:Int} {K:Nat} (h:x.natAbs<=y.natAbs) (hy:aI y.natAbs<=K):aI x.natAbs<=K:=Nat.le_trans (iC h) hy
theorem sN (n1 n2:Bool) (m1 m2:Value) (z1 z2:Int) (w:World) (h1:aZ w n1 m1 z1) (h2:aZ w n2 m2 z2) (c1:aI z1.natAbs<=CS / 2) (c2:aI z2.natAbs<=CS / 2) (hz:z2≠0) (hf:pY z2) :
  Calls Tryz.prog 123 #[.agg #[.bool n1,m1],.agg #[.bool n2,m2]] w (TW w (z1 / z2) (z1 % z2)):=by
 obtain⟨a1,k1,q1,rfl,-,-⟩:=h1.shape;obtain⟨a2,k2,q2,rfl,-,-⟩:=h2.shape;have c1':aI z1.natAbs<=CS:=by unfold CS at *;omega
 have c2':aI z2.natAbs<=CS:=by unfold CS at *;omega
 have hsg:(iV z2 == 0)=false:=by unfold iV;rw [if_neg hz];split <;> rfl
 go_enter Tryz.func123,Tryz.ntmps123
 go_upto_region 1 with (fail)
 refine VX fun W hb0 B1 B2 B3 B4 hsz=>?_;refine aF mixed (none) (0) (gp.none) [.eq (.pointer (some ⟨w.heap.size,1,none⟩)),.eq (.slice a1 k1 q1),.eq (.pointer (some ⟨w.heap.size,0,none⟩)),.eq (.bool n1),.int (by decide) (z1),.eq (.pointer (some ⟨w.heap.size+1,1,none⟩)),.eq (.slice a2 k2 q2),.eq (.pointer (some ⟨w.heap.size+1,0,none⟩)),.eq (.bool n2),.int (by decide) (z2)] [9,10,11,12,13,14,15,16,17,18] rfl rfl rfl rfl ⟨?_,?_,?_,?_,?_,?_,?_,?_,?_,?_,trivial⟩ ?_
 ·intro A w1 hA hL hS he;have h2:A.eval (.tmp 2)=.pointer (some ⟨w.heap.size,0,none⟩):=hA 2 rfl;exact pZ rfl
 ·intro A w1 hA hL hS he;have hb:=hL.below;have h9:=eT 9 (he.1 rfl);have c0:=((B1).on hb).at1 1 _ rfl;exact pZ rfl
 ·intro A w1 hA hL hS he;have h2:A.eval (.tmp 2)=.pointer (some ⟨w.heap.size,0,none⟩):=hA 2 rfl;exact pZ rfl
 ·intro A w1 hA hL hS he;have hb:=hL.below;have h11:=eT 11 (he.1 rfl);have c0:=((B1).on hb).at1 0 _ rfl;exact pZ rfl
 ·intro A w1 hA hL hS he;have hb:=hS rfl;have h10:=eT 10 (he.1 rfl);have h12:=eT 12 (he.2.1 rfl);have hf0:=eF A 103;exact cP (f:=103) (args:=#[.slice a1 k1 q1,.bool n1]) (Lx ((h1.on hb0).on hb) c1')
 ·intro A w1 hA hL hS he;have h3:A.eval (.tmp 3)=.pointer (some ⟨w.heap.size+1,0,none⟩):=hA 3 rfl;exact pZ rfl
 ·intro A w1 hA hL hS he;have hb:=hL.below;have h14:=eT 14 (he.1 rfl);have c0:=((B2).on hb).at1 1 _ rfl;exact pZ rfl
 ·intro A w1 hA hL hS he;have h3:A.eval (.tmp 3)=.pointer (some ⟨w.heap.size+1,0,none⟩):=hA 3 rfl;exact pZ rfl
 ·intro A w1 hA hL hS he;have hb:=hL.below;have h16:=eT 16 (he.1 rfl);have c0:=((B2).on hb).at1 0 _ rfl;exact pZ rfl
 ·intro A w1 hA hL hS he;have hb:=hS rfl;have h15:=eT 15 (he.1 rfl);have h17:=eT 17 (he.2.1 rfl);have hf0:=eF A 103;exact cP (f:=103) (args:=#[.slice a2 k2 q2,.bool n2]) (Lx ((h2.on hb0).on hb) c2')
 ·intro W2 hL2;have hb2:=hL2.below;simp only [aU,af.eq,af.ret,af.int,af.lim,af.of,lZ];rintro _ ⟨n3,m3,rfl,i3⟩ _ ⟨n4,m4,rfl,i4⟩;obtain⟨a3,k3,q3,rfl,-,-⟩:=i3.shape;obtain⟨a4,k4,q4,rfl,-,-⟩:=i4.shape;go_frame;have C1:=B1.on hb2;have C2:=B2.on hb2;have C3:=B3.on hb2;have C4:=B4.on hb2;have hb02:=hb0.trans (hb2.mono hb0.size);clear B1 B2 B3 B4 hb0 hb2 hL2
  go_upto_region 2 with (first
   | (refine aA rfl _ (.tmp 2) (.tmp 13) rfl _ _ _ _ rfl rfl C1 rfl aR i3.ones ?_;intro w3 R3 gr3;have D2:=C2.grown gr3 (by omega);have D3:=C3.grown gr3 (by omega);have D4:=C4.grown gr3 (by omega);have j3:=i3.stored gr3 C1 (by decide);have j4:=i4.stored gr3 C1 (by decide);have hb3:=hb02.trans ((aM gr3 (Nat.le_of_lt C1.lt) (Nat.le_refl _)).mono (by omega)))
   | (refine aA rfl _ (.tmp 3) (.tmp 18) rfl _ _ _ _ rfl rfl D2 rfl aR j4.ones ?_;intro w4 R4 gr4;have E1:=R3.grown gr4 (by omega);have E3:=D3.grown gr4 (by omega);have E4:=D4.grown gr4 (by omega);have k3':=j3.stored gr4 D2 (by decide);have k4':=j4.stored gr4 D2 (by decide);have hb4:=hb3.trans ((aM gr4 (Nat.le_of_lt D2.lt) (Nat.le_refl _)).mono (by omega))))
  clear C1 C2 C3 C4 D2 D3 D4 R3 gr3 gr4 i3 i4 j3 j4 hb3 hb02;have x1:=R4.at1 0 _ rfl;have x2:=R4.at1 1 _ rfl;obtain⟨l3,ao3,cap3,es3,hc3,b3,u3,L3,mm3,nn3,hp3,e3⟩:=k3'.openS c1';obtain⟨l4,ao4,cap4,es4,hc4,b4,u4,L4,mm4,nn4,hp4,e4⟩:=k4'.openS c2';obtain⟨d,rfl,hd1⟩:=UO hf hz L4 nn4 e4;have hlv4:ah [d]=d:=by simp [ah]
  rw [hlv4] at e4;clear hp3 hp4 hc3 hc4 mm3 mm4 L4 nn4 es3 es4 hf c2 c2';have hq0:ah l3=(ah l3 / d)*d+ah l3 % d:=by have:=Int.mul_ediv_add_emod (ah l3) d;rw [Int.mul_comm];omega
  have hr0:0<=ah l3 % d:=Int.emod_nonneg _ (by omega);have hr1:ah l3 % d<d:=Int.emod_lt_of_pos _ (by omega);have hlq0:0<=ah l3 / d:=Int.ediv_nonneg (bg L3) (by omega);have hql:(ah l3 / d).natAbs<=(ah l3).natAbs:=Int.natAbs_ediv_le_natAbs _ _;have hcl3:aI (ah l3).natAbs<=CS / 2:=by rw [e3,dZ] at c1;exact c1
  have hcq:aI (ah l3 / d).natAbs<=CS:=by have:=nK hql hcl3;unfold CS at *;omega
  have hcd:aI d.natAbs<=CS:=Nat.le_trans (jH (k:=32) (show d.natAbs<2 ^ 32 from by have:=(u4.limbs d (by simp)).2;rw [aT] at this;omega)) (by unfold CS;omega);have hcr:aI (ah l3 % d).natAbs<=CS:=nK (show (ah l3 % d).natAbs<=d.natAbs by omega) hcd;have hdz:=fun h=>Lc (n1:=n3) (n2:=n4) hq0 hr0 hr1 h;have hdo:=fun h=>Pf (n2:=n4) hq0 h hr1;have hdv:=fun W' (hb:Below w4.heap.size w4 W')=>He _ _ l3 d W' (u3.on hb) (u4.on hb) (by omega) hd1;replace hq0:=zH hq0;rw [<- e3,<- e4] at hdz;replace hcl3:=zH hcl3;replace hql:=zH hql;replace hlv4:=zH hlv4;replace e3:=zH e3;replace e4:=zH e4;generalize ah l3 / d=Q at *;generalize ah l3 % d=R at *;have y1:=E1.at1 0 _ rfl;have y2:=E1.at1 1 _ rfl
  go_upto_region 4 with (go_at_call 100;refine (nX _ _ _ w4 k4').mono ?_;rintro e w5 ⟨rfl,hb5⟩)
  replace E1:=E1.on hb5;replace R4:=R4.on hb5;replace E3:=E3.on hb5;replace E4:=E4.on hb5;replace hb4:=hb4.trans (hb5.mono hb4.size);replace k3':=k3'.on hb5;replace k4':=k4'.on hb5;have hdv5:=hdv w5 hb5;clear x1 x2 y1 y2 hdv hb5 u3 u4 hsg;have x1:=R4.at1 0 _ rfl;have x2:=R4.at1 1 _ rfl;have y1:=E1.at1 0 _ rfl;have y2:=E1.at1 1 _ rfl
  go_upto_region 5 with (go_at_call 139;refine hdv5.mono ?_;rintro e w6 ⟨n5,m5,n6,m6,rfl,i5,i6,hb6⟩;obtain⟨a5,k5,q5,rfl,-,-⟩:=i5.shape;obtain⟨a6,k6,q6,rfl,-,-⟩:=i6.shape)
  clear hdv5;have hlt6:=E4.lt;refine xm fun W' hb7 Bq Br hsz'=>?_;have hbx:=hb6.trans (hb7.mono hb6.size);have hlt7:w.heap.size+1+1+1<w6.heap.size:=by have:=hb6.size;omega
  replace E1:=E1.on hbx;replace R4:=R4.on hbx;replace E3:=E3.on hbx;replace E4:=E4.on hbx;replace hb4:=hb4.trans (hbx.mono hb4.size);replace k3':=k3'.on hbx;replace k4':=k4'.on hbx;replace i5:=i5.on hb7;replace i6:=i6.on hb7;generalize w6.heap.size=g at *;clear x1 x2 y1 y2 hb6 hb7 hbx;obtain⟨t,ht⟩:∃ t:Bool,t=(n3 && decide (0<R)):=⟨_,rfl⟩;replace ht:=zH ht;replace hdz:=zH hdz;replace hdo:=zH hdo;have y1:=E1.at1 0 _ rfl;have z1':=Br.at1 0 _ rfl;have z2':=Br.at1 1 _ rfl
  go_cut [34,35,36,37,38] (fun v1 v2 v3 v4 v5 wc=>v5=.bool t/\Below W'.heap.size W' wc)
  case first =>
   cases n3
   ·go_wp2;go_meet
    case rel=>exact⟨by rw [ht.out];rfl,Below.refl _ _⟩
   ·have hsr:=nX _ _ _ W' i6;by_cases hR:0<R
    ·have e:iV R=1:=by unfold iV;rw [if_neg (by omega),if_neg (by omega)]
     rw [e] at hsr;have htt:Hid (t=true):=zH (by rw [ht.out];simpa using hR)
     go_wp2_with (go_at_call 100;refine hsr.mono ?_;rintro e w7 ⟨rfl,hb7⟩)
     go_meet
     case rel=>exact⟨by rw [htt.out] <;> rfl,hb7⟩
    ·have e:iV R=0:=by unfold iV;rw [if_pos (by omega)]
     rw [e] at hsr;have htt:Hid (t=false):=zH (by rw [ht.out];simpa using hR)
     go_wp2_with (go_at_call 100;refine hsr.mono ?_;rintro e w7 ⟨rfl,hb7⟩)
     go_meet
     case rel=>exact⟨by rw [htt.out] <;> rfl,hb7⟩
  case rest =>
   obtain⟨rfl,hbc⟩:=hcut;replace E1:=E1.on hbc;replace R4:=R4.on hbc;replace E3:=E3.on hbc;replace E4:=E4.on hbc;replace Bq:=Bq.on hbc;replace Br:=Br.on hbc;replace i5:=i5.on hbc;replace i6:=i6.on hbc;replace k3':=k3'.on hbc;replace k4':=k4'.on hbc;replace hb4:=hb4.trans (hbc.mono hb4.size);clear y1 z1' z2' hbc
   go_upto_if 38 with (fail)
   go_cut [] (fun wc=>Below w.heap.size w wc/\Hid (Blk wc w.heap.size 39 [.bool n3,.slice a3 k3 q3])/\Hid (Blk wc (w.heap.size+1) 39 [.bool n4,.slice a4 k4 q4]) /\
    Hid (Blk wc (w.heap.size+1+1) 39 [.bool false,.slice none 0 0])/\Hid (Blk wc (w.heap.size+1+1+1) 39 [.bool false,.slice none 0 0])/\Hid (DM g (if n3 != n4 then -(z1 / z2) else z1 / z2) (z1 % z2) wc))
   case first =>
    cases t
    ·go_wp2;go_meet
     case rel =>
      have hz:n3=false\/R=0:=by
       have:=ht.out;cases n3
       ·exact .inl rfl
       ·right;rw [Bool.true_and] at this;have:=of_decide_eq_false this.symm;omega
      have hm:=hdz.out hz;exact⟨hb4,zH E1,zH R4,zH E3,zH E4,zH ⟨_,_,_,_,_,_,_,_,Bq,Br,by rw [hm.1];exact i5,by rw [hm.2];exact i6⟩⟩
    ·have hn3:n3=true:=DD ht.out;subst hn3;have hRp:0<R:=by have h:=ht.out;rw [Bool.true_and] at h;exact of_decide_eq_true h.symm
     have hm:=hdo.out hRp;rw [<- e3.out,<- e4.out] at hm;replace hm:=zH hm
     have hma:∀ W,Below wc.heap.size wc W->Calls Tryz.prog 103 #[.slice a4 k4 q4,.bool false] W (lI W d):=fun W hb=>by
      have:=xS (k4'.on hb) (by rw [e4.out,dZ];exact hcd);rwa [e4.out,dZ,Int.natAbs_of_nonneg (by omega)] at this
     go_upto_region 6 with (fail)
     refine aF mixed (none) (0) (gp.none) [.eq (.agg #[.bool n5,.slice a5 k5 q5]),.int (by decide) (1),.int (by decide) ((Q+1))] [39,40,41] rfl rfl rfl rfl ⟨?_,?_,?_,trivial⟩ ?_
     ·intro A w1 hA hL hS he;have hb:=hL.below;have h7:A.eval (.tmp 7)=.pointer (some ⟨g,0,none⟩):=hA 7 rfl;have c0:=((Bq).on hb).at1 0 _ rfl;have c1:=((Bq).on hb).at1 1 _ rfl;exact pZ rfl
     ·intro A w1 hA hL hS he;have hb:=hS rfl;have hf0:=eF A 70;have hc0:=eC A (.int .i64 1);exact cP (f:=70) (args:=#[(.int .i64 1)]) (Fg 1 _ (by omega) (by omega))
     ·intro A w1 hA hL hS he;have hb:=hS rfl;have h39:=eT 39 (he.1 rfl);obtain⟨v40,h40,f40⟩:=fT 40 (he.2.1 rfl);have hf0:=eF A 108;refine ae rfl ?_;refine fI (f:=108) (args:=#[.agg #[.bool n5,.slice a5 k5 q5],v40]) rfl rfl ?_ ?_
      ·exact gZ
      ·obtain⟨n40,m40,rfl,i40⟩:=f40;refine (Ba _ _ _ _ _ _ _ (i5.on hb) i40 hcq (by decide)).mono ?_;rintro e w' ⟨neg,m,rfl,hi,hb'⟩;exact⟨_,rfl,hb',neg,m,rfl,hi⟩
     ·intro w8 hL8;have hb8:=hL8.below;simp only [aU,af.eq,af.ret,af.int,af.lim,af.of,lZ];rintro _ - _ ⟨n7,m7,rfl,i7⟩;obtain⟨a7,k7,q7,rfl,-,-⟩:=i7.shape;go_frame;have Bq8:=Bq.on hb8
      go_upto_region 7 with (refine aA rfl _ (.tmp 7) (.tmp 41) rfl _ _ _ _ rfl rfl Bq8 rfl aR i7.ones ?_;intro w9 R9 gr9)
      have hb89:Below w.heap.size w w9:=hb4.trans ((hb8.mono hb4.size).trans ((aM gr9 (Nat.le_of_lt Bq8.lt) (Nat.le_refl _)).mono (by omega)));have F1:=(E1.on hb8).grown gr9 (by omega);have F2:=(R4.on hb8).grown gr9 (by omega);have F3:=(E3.on hb8).grown gr9 (by omega);have F4:=(E4.on hb8).grown gr9 (by omega);have Fr:=(Br.on hb8).grown gr9 (by omega);have j7:=i7.stored gr9 Bq8 (by decide);have j6:=(i6.on hb8).stored gr9 Bq8 (by decide);have j4:=(k4'.on hb8).stored gr9 Bq8 (by decide)
      have hma9:∀ W,Below w9.heap.size w9 W->Calls Tryz.prog 103 #[.slice a4 k4 q4,.bool false] W (lI W d):=fun W hb=>by
       have:=xS (j4.on hb) (by rw [e4.out,dZ];exact hcd);rwa [e4.out,dZ,Int.natAbs_of_nonneg (by omega)] at this
      clear E1 R4 E3 E4 Bq Br i7 i6 i5 k4' k3' hma hb8 hL8 Bq8 gr9;refine aF mixed (none) (0) (gp.none) [.eq (.pointer (some ⟨w.heap.size+1,1,none⟩)),.eq (.slice a4 k4 q4),.int (by decide) (d),.eq (.agg #[.bool n6,.slice a6 k6 q6]),.int (by decide) ((d-R))] [42,43,44,45,46] rfl rfl rfl rfl ⟨?_,?_,?_,?_,?_,trivial⟩ ?_
      ·intro A w1 hA hL hS he;have h3:A.eval (.tmp 3)=.pointer (some ⟨w.heap.size+1,0,none⟩):=hA 3 rfl;exact pZ rfl
      ·intro A w1 hA hL hS he;have hb:=hL.below;have h42:=eT 42 (he.1 rfl);have c0:=((F2).on hb).at1 1 _ rfl;exact pZ rfl
      ·intro A w1 hA hL hS he;have hb:=hS rfl;have h43:=eT 43 (he.1 rfl);have hf0:=eF A 103;have hc0:=eC A (.bool false);exact cP (f:=103) (args:=#[.slice a4 k4 q4,(.bool false)]) (hma9 _ hb)
      ·intro A w1 hA hL hS he;have hb:=hL.below;have h8:A.eval (.tmp 8)=.pointer (some ⟨g+1,0,none⟩):=hA 8 rfl;have c0:=((Fr).on hb).at1 0 _ rfl;have c1:=((Fr).on hb).at1 1 _ rfl;exact pZ rfl
      ·intro A w1 hA hL hS he;have hb:=hS rfl;obtain⟨v44,h44,f44⟩:=fT 44 (he.1 rfl);have h45:=eT 45 (he.2.1 rfl);have hf0:=eF A 140;refine ae rfl ?_;refine fI (f:=140) (args:=#[v44,.agg #[.bool n6,.slice a6 k6 q6]]) rfl rfl ?_ ?_
       ·exact gZ
       ·obtain⟨n44,m44,rfl,i44⟩:=f44;refine (PG _ _ _ _ _ _ _ i44 (j6.on hb) hcd hcr).mono ?_;rintro e w' ⟨neg,m,rfl,hi,hb'⟩;exact⟨_,rfl,hb',neg,m,rfl,hi⟩
      ·intro w10 hL10;have hb10:=hL10.below;simp only [aU,af.eq,af.ret,af.int,af.lim,af.of,lZ];rintro _ - _ ⟨n11,m11,rfl,i11⟩;obtain⟨a11,k11,q11,rfl,-,-⟩:=i11.shape;go_frame;have Br10:=Fr.on hb10
       go_wp2_with (refine aA rfl _ (.tmp 8) (.tmp 46) rfl _ _ _ _ rfl rfl Br10 rfl aR i11.ones ?_;intro w11 R11 gr11)
       have hs10:=Br10.lt;go_meet
       case rel =>
        have hm:=hm.out;refine⟨hb89.trans ((hb10.mono hb89.size).trans ((aM gr11 (Nat.le_of_lt hs10) (Nat.le_refl _)).mono (by omega))),zH ((F1.on hb10).grown gr11 (by omega)),zH ((F2.on hb10).grown gr11 (by omega)),zH ((F3.on hb10).grown gr11 (by omega)),zH ((F4.on hb10).grown gr11 (by omega)),zH ⟨_,_,_,_,_,_,_,_,(R9.on hb10).grown gr11 (by omega),R11,?_,?_⟩⟩
        ·rw [hm.1];exact (j7.on hb10).stored gr11 Br10 (by decide)
        ·rw [hm.2];exact i11.stored gr11 Br10 (by decide)
   case rest =>
    obtain⟨hb,hB1,hB2,hB3,hB4,hDM⟩:=hcut;obtain⟨nq1,aq1,kq1,cq1,nr1,ar1,kr1,cr1,Bq1,Br1,hiq1,hir1⟩:=hDM.out;have x1:=hB1.out.at1 0 _ rfl;have x2:=hB2.out.at1 0 _ rfl;clear E1 R4 E3 E4 Bq Br i5 i6 k3' k4' hb4 hdz hdo ht;have hlt1:=Br1.lt
    go_upto_if 51 with (fail)
    clear x1 x2 hB1 hB2
    go_cut [] (fun wd=>Below w.heap.size w wd/\Hid (Blk wd (w.heap.size+1+1) 39 [.bool false,.slice none 0 0])/\Hid (Blk wd (w.heap.size+1+1+1) 39 [.bool false,.slice none 0 0])/\Hid (DM g (z1 / z2) (z1 % z2) wd))
    case first =>
     obtain⟨dd,hd⟩:∃ dd:Bool,dd=(n3 != n4):=⟨_,rfl⟩;have hd':(!(n3 == n4))=dd:=by rw [hd];rfl
     rw [<- hd] at hiq1;rw [hd'];have u1:=Bq1.at1 0 _ rfl;have u2:=Bq1.at1 1 _ rfl;have hnq:aI (-(z1 / z2)).natAbs<=CS:=by rw [Int.natAbs_neg];exact nK (Int.natAbs_ediv_le_natAbs z1 z2) c1'
     cases dd
     ·go_wp2;go_meet
      case rel=>exact⟨hb,hB3,hB4,zH ⟨_,_,_,_,_,_,_,_,Bq1,Br1,hiq1,hir1⟩⟩
     ·rw [if_pos rfl] at hiq1
      go_wp2_with (first
       | (go_at_call 124;refine (vX _ _ _ _ hiq1 hnq).mono ?_;rintro e w2 hret;obtain⟨nq2,aq2,kq2,capq2,rfl,hiq2,hb2⟩:=fK hret;clear hret;rw [Int.neg_neg] at hiq2)
       | (refine aA rfl _ (.tmp 7) (.tmp 53) rfl _ _ _ _ rfl rfl (Bq1.on hb2) rfl aR hiq2.ones ?_;intro w3 R3 gr3))
      have hBq:=Bq1.on hb2;go_meet
      case rel=>exact⟨hb.trans ((hb2.mono hb.size).trans ((aM gr3 (Nat.le_of_lt hBq.lt) (Nat.le_refl g)).mono (by omega))),zH ((hB3.out.on hb2).grown gr3 (by omega)),zH ((hB4.out.on hb2).grown gr3 (by omega)),zH ⟨_,_,_,_,_,_,_,_,R3,(Br1.on hb2).grown gr3 (by omega),hiq2.stored gr3 hBq (by decide),(hir1.on hb2).stored gr3 hBq (by decide)⟩⟩
    case rest =>
     obtain⟨hb,hB3,hB4,hDM⟩:=hcut;obtain⟨nq1,aq1,kq1,cq1,nr1,ar1,kr1,cr1,Bq1,Br1,hiq1,hir1⟩:=hDM.out
     go_upto_region 10 with (fail)
     have y1:=Bq1.at1 0 _ rfl;have y2:=Bq1.at1 1 _ rfl;have y3:=Br1.at1 0 _ rfl;have y4:=Br1.at1 1 _ rfl;have s1:=hB3.out.at1 0 _ rfl;have s2:=hB3.out.at1 1 _ rfl;have s3:=hB4.out.at1 0 _ rfl;have s4:=hB4.out.at1 1 _ rfl;have f1:=hB3.out.frozen 0;have f2:=hB3.out.frozen 1;have f3:=hB4.out.frozen 0;have f4:=hB4.out.frozen 1
     go_region
     obtain⟨R1,gr1⟩:=eU [.bool nq1,.slice aq1 kq1 cq1] 0 wc _ hB3.out (by simp);obtain⟨R2,gr2⟩:=eU [.bool nr1,.slice ar1 kr1 cr1] 0 _ _ (hB4.out.grown gr1 (by omega)) (by simp);have hR1:=R1.grown gr2 (by omega);have hiq2:=(hiq1.stored gr1 hB3.out (by decide)).stored gr2 (hB4.out.grown gr1 (by omega)) (by decide);have hir2:=(hir1.stored gr1 hB3.out (by decide)).stored gr2 (hB4.out.grown gr1 (by omega)) (by decide);have hb3:Below w.heap.size w _:=(hb.trans ((aM gr1 (Nat.le_of_lt hB3.out.lt) (Nat.le_refl _)).mono (by omega))).trans ((aM gr2 (Nat.le_of_lt (hB4.out.grown gr1 (by omega)).lt) (Nat.le_refl _)).mono (by omega));go_wp2;exact bodyPost_ret (vN rfl _ _ _ _ Tryz.underlying39 rfl rfl rfl hR1 R2 aR aR) rfl ⟨_,_,_,_,rfl,hiq2,hir2,pV hb3 1⟩
theorem PH (n1 n2:Bool) (m1 m2:Value) (z1 z2:Int) (w:World) (h1:aZ w n1 m1 z1) (h2:aZ w n2 m2 z2) (c1:aI z1.natAbs<=CS / 2) (c2:aI z2.natAbs<=CS / 2) (hf:pY z2) :
  Calls Tryz.prog 101 #[.agg #[.bool n1,m1],.agg #[.bool n2,m2]] w (lI w (Int.gcd z1 z2)):=by
 obtain⟨a1,k1,q1,rfl,-,-⟩:=h1.shape;obtain⟨a2,k2,q2,rfl,-,-⟩:=h2.shape
 go_enter Tryz.func101,Tryz.ntmps101
 go_upto_region 1 with (fail)
 refine rY fun W hb0 B1 B2 B3 hsz=>?_
 have hst:Hid (∃ x y,Am w.heap.size x W/\Am (w.heap.size+1) y W/\aI x.natAbs<=CS / 2/\aI y.natAbs<=CS / 2/\pY y/\Int.gcd x y=Int.gcd z1 z2/\y.natAbs=z2.natAbs) :=
  zH ⟨z1,z2,⟨_,_,_,_,B1,h1.on hb0⟩,⟨_,_,_,_,B2,h2.on hb0⟩,c1,c2,hf,rfl,rfl⟩
 generalize z2.natAbs=n0 at hst;clear B1 B2
 go_loopg [] n0 (fun n wr=>Hid (∃ x y,Am w.heap.size x wr/\Am (w.heap.size+1) y wr/\aI x.natAbs<=CS / 2/\aI y.natAbs<=CS / 2/\pY y/\Int.gcd x y=Int.gcd z1 z2/\y.natAbs=n)/\Below w.heap.size w wr/\Hid (Blk wr (w.heap.size+1+1) 39 [.bool false,.slice none 0 0]))
 case atStart=>exact⟨hst,hb0,zH B3⟩
 case round =>
  clear hst hb0 B3 hsz;obtain⟨hst,hb,hB⟩:=hrel;obtain⟨x,y,⟨nx,ax,kx,cx,Bx,ix⟩,⟨ny,ay,ky,cy,By,iy⟩,bx,by',hfy,hg,hn⟩:=hst.out;clear hst;replace hg:=zH hg;replace hn:=zH hn;have u1:=Bx.at1 0 _ rfl;have u2:=Bx.at1 1 _ rfl;have v1:=By.at1 0 _ rfl;have v2:=By.at1 1 _ rfl;have hsg:=nX _ _ _ wr iy;by_cases hy:y=0
  ·subst hy;have hg0:Int.gcd z1 z2=x.natAbs:=by have:=hg.out;simpa using this.symm
   have hma:=fun W' (hb':Below wr.heap.size wr W')=>xS (ix.on hb') (by unfold CS at *;omega);rw [<- hg0] at hma;replace hg0:=zH hg0;rw [show iV 0=0 from rfl] at hsg
   go_upto_region 4 with (go_at_call 100;refine hsg.mono ?_;rintro e w2 ⟨rfl,hb2⟩)
   have Bx2:=Bx.on hb2;have hB2:=hB.out.on hb2;clear u1 u2 v1 v2;have u1:=Bx2.at1 0 _ rfl;have u2:=Bx2.at1 1 _ rfl
   go_wp2_with (first
    | (go_at_call 103;refine (hma _ hb2).mono ?_;rintro e w3 hret;obtain⟨n3,a3,k3,c3,rfl,i3,hb3⟩:=fK hret;clear hret;have hB3:=hB2.on hb3)
    | (refine aA rfl _ (.tmp 4) (.tmp 22) rfl _ _ _ _ rfl rfl hB3 rfl aR i3.ones ?_;intro w4 R gr))
   exact dM rfl rfl rfl R Tryz.underlying39 rfl aR (jE hb (hb2.trans (hb3.mono hb2.size)) (by omega) hB3 i3 gr)
  ·have hs0:(iV y != 0)=true:=by unfold iV;rw [if_neg hy];split <;> rfl
   generalize iV y=sy at hs0 hsg
   go_upto_region 2 with (go_at_call 100;refine hsg.mono ?_;rintro e w2 ⟨rfl,hb2⟩)
   have hdm:=sN _ _ _ _ _ _ w2 (ix.on hb2) (iy.on hb2) bx by' hy hfy
   replace Bx:=Bx.on hb2;replace By:=By.on hb2;have hBB:=hB.out.on hb2;replace iy:=iy.on hb2;replace hb:=hb.trans (hb2.mono hb.size);clear u1 u2 v1 v2 hs0 hb2 hB;have u1:=Bx.at1 0 _ rfl;have u2:=Bx.at1 1 _ rfl;have v1:=By.at1 0 _ rfl;have v2:=By.at1 1 _ rfl
   go_upto_region 3 with (go_at_call 123;refine hdm.mono ?_;rintro e w3 ⟨n5,m5,n6,m6,rfl,i5,i6,hb3⟩;obtain⟨a5,k5,q5,rfl,-,-⟩:=i5.shape;obtain⟨a6,k6,q6,rfl,-,-⟩:=i6.shape)
   clear hdm u1 u2 v1 v2;replace Bx:=Bx.on hb3;replace By:=By.on hb3;replace hBB:=hBB.on hb3;replace iy:=iy.on hb3;replace hb:=hb.trans (hb3.mono hb.size);refine xm fun W' hb7 Bq Br hsz'=>?_;have hlt3:w.heap.size+1+1<w3.heap.size:=hBB.lt;replace Bx:=Bx.on hb7;replace By:=By.on hb7;replace hBB:=hBB.on hb7;replace iy:=iy.on hb7;replace i6:=i6.on hb7;replace hb:=hb.trans (hb7.mono hb.size);clear i5 hb3 hb7 hsz';generalize w3.heap.size=g at *;have y1:=By.at1 0 _ rfl;have y2:=By.at1 1 _ rfl;have y3:=Br.at1 0 _ rfl;have y4:=Br.at1 1 _ rfl;have s1:=Bx.at1 0 _ rfl;have s2:=Bx.at1 1 _ rfl;have f1:=Bx.frozen 0;have f2:=Bx.frozen 1;have f3:=By.frozen 0;have f4:=By.frozen 1
   go_region
   obtain⟨R1,gr1⟩:=eU [.bool ny,.slice ay ky cy] 0 W' _ Bx (by simp);have hBy:=By.grown gr1 (by omega);obtain⟨R2,gr2⟩:=eU [.bool n6,.slice a6 k6 q6] 0 _ _ hBy (by simp);have hR1:=R1.grown gr2 (by omega);have iy2:=(iy.stored gr1 Bx (by decide)).stored gr2 hBy (by decide);have i62:=(i6.stored gr1 Bx (by decide)).stored gr2 hBy (by decide);have hBB2:=(hBB.grown gr1 (by omega)).grown gr2 (by omega);have hb3:Below w.heap.size w _:=(hb.trans ((aM gr1 (Nat.le_of_lt Bx.lt) (Nat.le_refl _)).mono (by omega))).trans ((aM gr2 (Nat.le_of_lt hBy.lt) (Nat.le_refl _)).mono (by omega));clear R1 hBy gr1 gr2 s1 s2 y1 y2 y3 y4 f1 f2 f3 f4 Bx By Bq Br iy i6 hBB hb;have hm0:0<=x % y:=Int.emod_nonneg _ hy
   have hm1:(x % y).natAbs<y.natAbs:=by
    rcases Int.lt_or_gt_of_ne hy with h|h
    ·have:=Int.emod_lt_of_pos x (show 0 < -y by omega);rw [Int.emod_neg] at this;omega
    ·have:=Int.emod_lt_of_pos x h;omega
   have hgs:Int.gcd y (x % y)=Int.gcd x y:=by
    have:=Gy (x / y) y (x % y);rw [<- this,Int.mul_comm,Int.mul_ediv_add_emod]
   go_wp2;go_roundg ((x % y).natAbs)
   case measure=>have:=hn.out;omega
   case rel=>exact⟨zH ⟨y,x % y,⟨_,_,_,_,hR1.drew,iy2.on (pV (Below.refl _ _) 1)⟩,⟨_,_,_,_,R2.drew,i62.on (pV (Below.refl _ _) 1)⟩,by',nK (Nat.le_of_lt hm1) by',hfy.le (Nat.le_of_lt hm1),by rw [hgs,hg.out],rfl⟩,pV hb3 1,zH hBB2.drew⟩
def Rs (q:Rat):Prop:=q.den<65536/\aI q.num.natAbs<=1000000
theorem Rs.rk {q:Rat} (h:Rs q):Rk q:=Rk.small h.1 (by have:=h.2;unfold iT;omega)
theorem Rs.num {q:Rat} (h:Rs q):aI q.num.natAbs<=CS / 4:=by have:=h.2;unfold CS;omega
theorem Rs.den {q:Rat} (h:Rs q):aI ((q.den:Int)).natAbs<=CS / 4:=by have:=vO h.1;rw [Int.natAbs_natCast];unfold CS;omega
theorem OL {x:Int} (h:aI x.natAbs<=CS / 4):aI x.natAbs<=CS:=by unfold CS at *;omega
theorem UQ {x:Int} (h:aI x.natAbs<=CS / 4):aI x.natAbs<=CS / 2:=by unfold CS at *;omega
theorem PI {p q:Rat} (h:Rs p) (h':Rs q):aI (p.num*(q.den:Int)).natAbs<=CS / 8:=by
 have:=jV p.num.natAbs q.den;have:=h.2;have:=vO h'.1;rw [Int.natAbs_mul,Int.natAbs_natCast];unfold CS;omega
theorem Ud {p q:Rat} (h:Rs p) (h':Rs q):pY ((p.den:Int)*q.den)/\aI ((p.den:Int)*q.den).natAbs<=CS / 4/\(p.den:Int)*q.den≠0:=by
 obtain⟨h2,h3⟩:=Ao h.rk h'.rk
 have h1:pY ((p.den:Int)*q.den):=by
  have a1:=h.1;have a2:=h'.1;have:=Nat.mul_le_mul (show p.den<=65535 by omega) (show q.den<=65535 by omega);unfold pY;rw [Int.natAbs_mul,Int.natAbs_natCast,Int.natAbs_natCast];omega
 refine⟨h1,?_,h3⟩;have:=jH (n:=((p.den:Int)*q.den).natAbs) (k:=32) (by unfold pY at h1;omega);unfold CS;omega
theorem Sw (n1 n2:Bool) (m1 m2:Value) (z1 z2:Int) (w:World) (h1:aZ w n1 m1 z1) (h2:aZ w n2 m2 z2) (c1:aI z1.natAbs<=CS / 4) (c2:aI z2.natAbs<=CS / 4) (hz:z2≠0) (hf:pY z2) :
  Calls Tryz.prog 104 #[.agg #[.bool n1,m1],.agg #[.bool n2,m2]] w (Ff w (Rat.divInt z1 z2) 0):=by
 obtain⟨a1,k1,q1,rfl,-,-⟩:=h1.shape;obtain⟨a2,k2,q2,rfl,-,-⟩:=h2.shape;obtain⟨x,d,hd,ed,ex,hneg,hpos,hn,hdn⟩:=Ap z1 z2 hz;have hsg:(iV z2 == 0)=false:=by unfold iV;rw [if_neg hz];split <;> rfl
 generalize Rat.divInt z1 z2=Qr at *;have c1':=OL c1;have c2':=OL c2;rw [<- ed] at c2;rw [<- ex] at c1;replace hf:pY d:=by unfold pY at *;rw [ed];exact hf
 replace hn:=zH hn;replace hdn:=zH hdn
 go_enter Tryz.func104,Tryz.ntmps104
 go_upto_region 1 with (fail)
 refine rY fun W hb0 B1 B2 B3 hsz=>?_;have y1:=B2.at1 0 _ rfl;have y2:=B2.at1 1 _ rfl
 go_upto_region 3 with (go_at_call 100;refine (nX _ _ _ W (h2.on hb0)).mono ?_;rintro e w0 ⟨rfl,hbs⟩)
 replace B1:=B1.on hbs;replace B2:=B2.on hbs;replace B3:=B3.on hbs;replace hb0:=hb0.trans (hbs.mono hb0.size);clear y1 y2 hbs hsg;have y1:=B2.at1 0 _ rfl;have y2:=B2.at1 1 _ rfl
 go_upto_if 19 with (go_at_call 100;refine (nX _ _ _ w0 (h2.on hb0)).mono ?_;rintro e w1 ⟨rfl,hb1⟩)
 replace B1:=B1.on hb1;replace B2:=B2.on hb1;replace B3:=B3.on hb1;replace hb0:=hb0.trans (hb1.mono hb0.size);clear y1 y2 hb1
 go_cut [] (fun wc=>Below w.heap.size w wc/\Hid (Am w.heap.size x wc)/\Hid (Am (w.heap.size+1) d wc)/\Hid (Blk wc (w.heap.size+1+1) 41 [.bool false,.slice none 0 0,.bool false,.slice none 0 0]))
 case first =>
  rcases uM z2 with ⟨h,hs⟩|⟨h,-⟩|⟨h,hs⟩
  ·obtain⟨rfl,rfl⟩:=hneg h;rw [hs];replace h1:=h1.on hb0;replace h2:=h2.on hb0;clear hneg hpos
   go_upto_region 4 with (fail)
   refine aF mixed (none) (0) (gp.none) [.eq (.agg #[.bool n1,.slice a1 k1 q1]),.int (by decide) ((-z1)),.eq (.agg #[.bool n2,.slice a2 k2 q2]),.int (by decide) ((-z2))] [20,21,22,23] rfl rfl rfl rfl ⟨?_,?_,?_,?_,trivial⟩ ?_
   ·intro A w1 hA hL hS he;have hb:=hL.below;have h2:A.eval (.tmp 2)=.pointer (some ⟨w.heap.size,0,none⟩):=hA 2 rfl;have c0:=((B1).on hb).at1 0 _ rfl;have c1:=((B1).on hb).at1 1 _ rfl;exact pZ rfl
   ·intro A w1 hA hL hS he;have hb:=hS rfl;have h20:=eT 20 (he.1 rfl);have hf0:=eF A 124;exact cP (f:=124) (args:=#[.agg #[.bool n1,.slice a1 k1 q1]]) (vX _ _ _ _ (h1.on hb) c1')
   ·intro A w1 hA hL hS he;have hb:=hL.below;have h3:A.eval (.tmp 3)=.pointer (some ⟨w.heap.size+1,0,none⟩):=hA 3 rfl;have c0:=((B2).on hb).at1 0 _ rfl;have c1:=((B2).on hb).at1 1 _ rfl;exact pZ rfl
   ·intro A w1 hA hL hS he;have hb:=hS rfl;have h22:=eT 22 (he.1 rfl);have hf0:=eF A 124;exact cP (f:=124) (args:=#[.agg #[.bool n2,.slice a2 k2 q2]]) (vX _ _ _ _ (h2.on hb) c2')
   ·intro w2 hL2;have hb2:=hL2.below;simp only [aU,af.eq,af.int,af.of,lZ];rintro _ ⟨n3,m3,rfl,i3⟩ _ ⟨n4,m4,rfl,i4⟩;obtain⟨a3,k3,q3,rfl,-,-⟩:=i3.shape;obtain⟨a4,k4,q4,rfl,-,-⟩:=i4.shape;go_frame;refine aA rfl _ (.tmp 2) (.tmp 21) rfl _ _ _ _ rfl rfl (B1.on hb2) rfl aR i3.ones ?_;intro w3 R3 gr3;have hB2:=(B2.on hb2).grown gr3 (by omega);have j4:=i4.stored gr3 (B1.on hb2) (by decide);go_frame;refine aA rfl _ (.tmp 3) (.tmp 23) rfl _ _ _ _ rfl rfl hB2 rfl aR j4.ones ?_;intro w4 R4 gr4;have hlt:=B1.lt;have hlt2:=(B1.on hb2).lt;have hlt3:=hB2.lt;go_wp2;go_meet
    case rel=>exact⟨hb0.trans ((hb2.mono hb0.size).trans (((aM gr3 (Nat.le_of_lt hlt2) (Nat.le_refl _))).trans ((aM gr4 (by omega) (by omega))))),zH ⟨_,_,_,_,R3.grown gr4 (by omega),(i3.stored gr3 (B1.on hb2) (by decide)).stored gr4 hB2 (by decide)⟩,zH ⟨_,_,_,_,R4,j4.stored gr4 hB2 (by decide)⟩,zH (((B3.on hb2).grown gr3 (by omega)).grown gr4 (by omega))⟩
  ·omega
  ·obtain⟨rfl,rfl⟩:=hpos h;rw [hs];go_wp2;go_meet
   case rel=>exact⟨hb0,zH ⟨_,_,_,_,B1,h1.on hb0⟩,zH ⟨_,_,_,_,B2,h2.on hb0⟩,zH B3⟩
 case rest =>
  obtain⟨hb,hB1,hB2,hB3⟩:=hcut;obtain⟨nx,ax,kx,cx,Bx,ix⟩:=hB1.out;obtain⟨nd,ad,kd,cd,Bd,id⟩:=hB2.out;have u1:=Bx.at1 0 _ rfl;have u2:=Bx.at1 1 _ rfl;have v1:=Bd.at1 0 _ rfl;have v2:=Bd.at1 1 _ rfl;clear B1 B2 B3 hneg hpos
  go_upto_region 6 with (go_at_call 101;refine (PH _ _ _ _ _ _ _ ix id (UQ c1) (UQ c2) hf).mono ?_;rintro e w2 hret;obtain⟨ng,ag,kg,cg,rfl,ig,hb2⟩:=fK hret;clear hret)
  refine jI fun W2 hb3 Bg hsz2=>?_;have hbB:=hb2.trans (hb3.mono hb2.size);replace Bx:=Bx.on hbB;replace Bd:=Bd.on hbB;replace ix:=ix.on hbB;replace id:=id.on hbB;replace ig:=ig.on hb3;have hB3':=hB3.out.on hbB;replace hb:=hb.trans (hbB.mono hb.size);have hlt2:w.heap.size+1+1<w2.heap.size:=by have:=hb2.size;have:=hB3.out.lt;omega
  generalize w2.heap.size=r at *;have hg1:Int.gcd x d<=d.natAbs:=Int.gcd_le_natAbs_right _ (by omega);have hg0:0<Int.gcd x d:=Int.gcd_pos_of_ne_zero_right _ (by omega);generalize Int.gcd x d=g at *;have c5:aI ((g:Int)).natAbs<=CS / 2:=by rw [Int.natAbs_natCast];exact Nat.le_trans (iC hg1) (UQ c2)
  have hgF:pY (g:Int):=hf.le (by rw [Int.natAbs_natCast];exact hg1);have hgz:(g:Int)≠0:=by omega
  clear hbB hb2 hb3 u1 u2 v1 v2 hB1 hB2 hB3;have e1:=Bx.at1 0 _ rfl;have e2:=Bx.at1 1 _ rfl;have e3:=Bg.at1 0 _ rfl;have e4:=Bg.at1 1 _ rfl
  go_upto_region 7 with (go_at_call 123;refine (sN _ _ _ _ _ _ _ ix ig (UQ c1) c5 hgz hgF).mono ?_;rintro e w5 ⟨n5,m5,n6,m6,rfl,i5,i6,hb5⟩;obtain⟨a5,k5,q5,rfl,-,-⟩:=i5.shape;obtain⟨a6,k6,q6,rfl,-,-⟩:=i6.shape)
  refine xm fun W5 hb6 Bp Bpr hsz5=>?_;have hbB:=hb5.trans (hb6.mono hb5.size);replace Bd:=Bd.on hbB;replace Bg:=Bg.on hbB;replace id:=id.on hbB;replace ig:=ig.on hbB;replace hB3':=hB3'.on hbB;replace hb:=hb.trans (hbB.mono hb.size);replace i5:=i5.on hb6;rw [<- hn.out] at i5;have hlt5:r<w5.heap.size:=by have:=hb5.size;omega
  generalize w5.heap.size=r5 at *;clear e1 e2 e3 e4 hb5 hb6 hbB ix Bx i6 Bpr;have e1:=Bd.at1 0 _ rfl;have e2:=Bd.at1 1 _ rfl;have e3:=Bg.at1 0 _ rfl;have e4:=Bg.at1 1 _ rfl
  go_upto_region 8 with (go_at_call 123;refine (sN _ _ _ _ _ _ _ id ig (UQ c2) c5 hgz hgF).mono ?_;rintro e w7 ⟨n7,m7,n8,m8,rfl,i7,i8,hb7⟩;obtain⟨a7,k7,q7,rfl,-,-⟩:=i7.shape;obtain⟨a8,k8,q8,rfl,-,-⟩:=i8.shape)
  refine xm fun W7 hb8 Bq Bqr hsz7=>?_;have hbB:=hb7.trans (hb8.mono hb7.size);replace Bp:=Bp.on hbB;replace hB3':=hB3'.on hbB;replace hb:=hb.trans (hbB.mono hb.size);replace i5:=i5.on hbB;replace i7:=i7.on hb8;rw [<- hdn.out] at i7;generalize w7.heap.size=r7 at *;clear e1 e2 e3 e4 hb7 hb8 hbB id Bd i8 Bqr;have e1:=Bp.at1 0 _ rfl;have e2:=Bp.at1 1 _ rfl;have e3:=Bq.at1 0 _ rfl;have e4:=Bq.at1 1 _ rfl
  go_wp2_with (refine aA rfl _ (.tmp 4) (.tmp 43) rfl _ _ _ _ rfl rfl hB3' rfl dL dQ ?_;intro w9 R9 gr9)
  exact bodyPost_ret (qh rfl _ _ _ Tryz.underlying41 rfl rfl R9 dL) rfl ⟨_,rfl,bV.stored ⟨_,_,_,_,_,_,_,_,rfl,i5,i7⟩ gr9 hB3' (by decide),hb.trans ((aM gr9 (Nat.le_of_lt hB3'.lt) (Nat.le_refl _)).mono (by omega))⟩
theorem LD (n1 n2:Bool) (m1 m2:Value) (z1 z2:Int) (w:World) (h1:aZ w n1 m1 z1) (h2:aZ w n2 m2 z2) (c1:aI z1.natAbs<=CS / 4) (c2:aI z2.natAbs<=CS / 4) (hz:z2≠0) (hf:pY z2) :
  Calls Tryz.prog 107 #[.agg #[.bool n1,m1],.agg #[.bool n2,m2]] w (qY w (Rat.divInt z1 z2)):=by
 obtain⟨a1,k1,q1,rfl,-,-⟩:=h1.shape;obtain⟨a2,k2,q2,rfl,-,-⟩:=h2.shape
 go_enter Tryz.func107,Tryz.ntmps107
 go_upto_region 1 with (fail)
 refine rY fun W hb0 B1 B2 B3 hsz=>?_;have x1:=B1.at1 0 _ rfl;have x2:=B1.at1 1 _ rfl;have y1:=B2.at1 0 _ rfl;have y2:=B2.at1 1 _ rfl
 go_upto_region 2 with (go_at_call 104;refine (Sw _ _ _ _ _ _ W (h1.on hb0) (h2.on hb0) c1 c2 hz hf).mono ?_;rintro e w1 ⟨v,rfl,hv,hb1⟩;obtain⟨t1,b1,g1,d1,t2,b2,g2,d2,rfl,j1,j2⟩:=hv)
 refine jI fun W2 hb2 B5 hsz2=>?_;have hbB:=hb1.trans (hb2.mono hb1.size);have C3:=B3.on hbB;have e1:=B5.at1 0 _ rfl;have e2:=B5.at1 1 _ rfl;have e3:=B5.at1 2 _ rfl;have e4:=B5.at1 3 _ rfl;clear x1 x2 y1 y2
 go_wp2_with (refine aA rfl _ (.tmp 4) (.tmp 13) rfl _ _ _ _ rfl rfl C3 rfl dL dQ ?_;intro w3 R gr)
 exact dM rfl rfl rfl R Tryz.underlying41 rfl dL (oZ hb0 hbB (by omega) C3 ⟨_,_,_,_,_,_,_,_,rfl,j1.on hb2,j2.on hb2⟩ gr)
end Go.Proofs.YtopclbeomcggiaaGreat
