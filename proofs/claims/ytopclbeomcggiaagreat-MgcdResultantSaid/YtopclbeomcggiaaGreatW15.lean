/- The integer package of the program: division of absolute values. -/
import Derived.Test.YtopclbeomcggiaaGreatW14
set_option linter.unusedVariables false
set_option linter.unusedSimpArgs false
set_option maxHeartbeats 16000000
set_option maxRecDepth 100000
namespace Go.Proofs.YtopclbeomcggiaaGreat
open Go.RowKit Q
def pY (z:Int):Prop:=z.natAbs<4294967296
theorem pY.le {x y:Int} (h:pY y) (hl:x.natAbs<=y.natAbs):pY x:=Nat.lt_of_le_of_lt hl h
theorem pY.one {l:List Int} (h:pY (ah l)) (hl:aH l) (hn:iU l):l.length<=1 :=
 hn.len_le hl (by have:=bg hl;have:(ah l).natAbs<4294967296:=h;rw [Int.pow_succ,Int.pow_zero,aT];omega)
theorem Ak (v1 v2:Value) (l1 l2:List Int) (w:World) (h1:dH w v1 l1) (h2:dH w v2 l2) (b1:l1.length<=17179869184) (b2:l2.length<=17179869184) (n1:iU l1) (n2:iU l2) (hp:1<=l2.length) :
  Calls Tryz.prog 141 #[v1,v2] w (Jw w (ah l1) (ah l2) (l1.length+1)):=by
 have hpos:=n2.pos h2.limbs (by omega);by_cases hlt:ah l1<ah l2
 ·have H:=zH (jb hlt);have HL:=zH hlt;clear hlt
  go_enter Tryz.func141,Tryz.ntmps141
  go_wp2_with (first
   | (go_at_call 142;refine (jN _ _ l1 l2 _ h1 h2 (by omega) (by omega) n1 n2).mono ?_;rintro e w1 ⟨rfl,hb1⟩;rw [H.out])
   | (go_at_call 159;refine (Ju _ l1 _ (h1.on hb1) (by omega)).mono ?_;rintro e w2 ⟨v,l,rfl,hu,rfl,hb2⟩))
  go_ret2;exact⟨_,_,[],l,rfl,dH.nil,hu,Nat.zero_le _,by omega,by simp [ah],HL.out,hb1.trans (hb2.mono hb1.size)⟩
 ·have hc:0<=dW (ah l1) (ah l2):=by unfold dW;rw [if_neg hlt];split <;> omega
  have HL:=zH hlt;clear hlt;by_cases h1l:l2.length=1
  ·obtain⟨d,rfl⟩:∃ d,l2=[d]:=by
    match l2,h1l with
    | [d],_=>exact⟨d,rfl⟩
   have hd:=h2.limbs d (by simp);rw [aT] at hd
   have hd1:1<=d:=by
    have:ah [d]=d:=by simp [ah]
    omega
   have hd2:=hd.2;obtain⟨ao2,cap2,rfl,_,L2,m2⟩:=id h2;obtain⟨p2,o2,rfl,hc2⟩:=m2 (by simp [uc]);simp only [List.length_cons,List.length_nil,Nat.zero_add] at *
   go_enter Tryz.func141,Tryz.ntmps141
   go_wp2_with (first
    | (go_at_call 142;refine (jN _ _ l1 [d] _ h1 h2 (by omega) (by simp) n1 n2).mono ?_;rintro e w1 ⟨rfl,hb1⟩;have hcell:=(hc2.on hb1).ucell 0 (by simp);simp only [List.getD_cons_zero,Nat.add_zero] at hcell)
    | (go_at_call 160;refine (Nj _ l1 d _ (h1.on hb1) (by omega) hd1 hd2).mono ?_;rintro e w2 ⟨v,l,r,rfl,hu,hl,he,hr0,hr1,hb2⟩))
   go_ret2;have hb3:Below w.heap.size w (w2.alloc (.cells #[.int .u32 r] uT)):=(hb1.trans (hb2.mono hb1.size)).alloc (by have:=hb1.size;have:=hb2.size;omega) _;refine⟨_,_,l,[r],rfl,hu.on ((Below.refl _ _).alloc (Nat.le_refl _) _),?_,by omega,by simp,?_,?_,hb3⟩
   ·exact (Blk.new w2 uT (uc [r])).u32s (aH.nil.cons ⟨hr0,by rw [aT];omega⟩)
   ·rw [he];simp [ah]
   ·simpa [ah] using hr1
  ·have nz:l2.length<=l1.length:=by
    rcases Nat.lt_or_ge l1.length l2.length with h|h
    ·exfalso;have k1:=il h1.limbs;have k2:=n2.low h2.limbs (by omega)
     have k3:bL ^ l1.length<=bL ^ (l2.length-1):=by
      obtain⟨d,hd⟩:=Nat.exists_eq_add_of_le (show l1.length<=l2.length - 1 by omega);rw [hd,Int.pow_add];have a:0<bL ^ l1.length:=Int.pow_pos eO;have b:0<bL ^ d:=Int.pow_pos eO;have:=Int.mul_le_mul_of_nonneg_left (show (1:Int)<=bL ^ d by omega) (Int.le_of_lt a);omega
     have:=HL.out;omega
    ·exact h
   have hb2:((l2.length:Int) == 1)=false:=by simp;omega
   have hb3:¬ (l2.length:Int)=1:=by omega
   have hn2:2<=l2.length:=by omega
   obtain⟨ao2,cap2,rfl,_,L2,m2⟩:=id h2
   go_enter Tryz.func141,Tryz.ntmps141
   go_wp2_with (first
    | (go_at_call 142;refine (jN _ _ l1 l2 _ h1 h2 (by omega) (by omega) n1 n2).mono ?_;rintro e w1 ⟨rfl,hb1⟩)
    | (go_at_call 161;refine (Pe _ _ l1 l2 _ (h1.on hb1) (h2.on hb1) b1 n2 hn2 nz).mono ?_;rintro e w2 ⟨v1,v2,q,r,rfl,hq,hr,lq,lr,he,hlt2,hb2⟩))
   go_ret2;exact⟨_,_,q,r,rfl,hq,hr,lq,lr,he,hlt2,hb1.trans (hb2.mono hb1.size)⟩
theorem sD {w:World} {neg:Bool} {ao:Option Addr} {n cap:Nat} {z:Int} (h:aZ w neg (.slice ao n cap) z):n=0↔z=0:=by
 obtain⟨_,_,_,e,h,_⟩:=h.shape;cases e;exact h
theorem Gy (q d r:Int):Int.gcd (q*d+r) d=Int.gcd d r:=by
 rw [Int.gcd_comm];simp
theorem Al {l:List Int} (hl:aH l) {K:Nat} (h:aI (ah l).natAbs<=32*K):ah l<bL ^ K:=by
 have h1:=oh (ah l).natAbs;have h2:2 ^ aI (ah l).natAbs<=2 ^ (32*K):=Nat.pow_le_pow_right (by decide) h;have:=bg hl;rw [KZ];omega
theorem DC {w:World} {neg:Bool} {m:Value} {n:Int} (h:aZ w neg m (fZ false n)) (hn:0<=n):∃ l,dH w m l/\iU l/\ah l=n:=by
 obtain⟨l,h1,h2,h3,h4⟩:=h;refine⟨l,h1,h2,?_⟩;cases neg
 ·simp only [fZ] at h4;rw [if_neg (by simp),if_neg (by simp)] at h4;exact h4.symm
 ·have:=h2.pos h1.limbs (h3 rfl);simp only [fZ,if_true] at h4;rw [if_neg (by simp)] at h4;omega
def Eu (g:Nat) (K:Nat) (n:Nat) (x y:Value) (w:World):Prop :=
 ∃ lx ly,dH w x lx/\dH w y ly/\iU lx/\iU ly/\ah lx<bL ^ K/\ah ly<bL ^ K/\Int.gcd (ah lx) (ah ly)=g/\(ah ly).toNat<=n
theorem Nn (neg:Bool) (ao:Option Addr) (n c:Nat) (w:World):(Instr.field 39 (.agg #[.bool neg,.slice ao n c]) 1).run Tryz.prog w=.ok (.slice ao n c) w:=by kernel_rfl
theorem Si (n1 n2:Bool) (m1 m2:Value) (z1 z2:Int) (w:World) (h1:aZ w n1 m1 z1) (h2:aZ w n2 m2 z2) (c1:aI z1.natAbs<=iT / 4) (c2:aI z2.natAbs<=iT / 4) :
  Calls Tryz.prog 128 #[.agg #[.bool n1,m1],.agg #[.bool n2,m2]] w (lI w (Int.gcd z1 z2)):=by
 go_enter Tryz.func128,Tryz.ntmps128
 go_upto_region 1 with (fail)
 refine rY fun W hb0 B1 B2 B3 hsz=>?_;have e1:=B1.at1 1 _ rfl;have e2:=B2.at1 1 _ rfl
 go_quiet (fail)
 obtain⟨W1,hW1⟩:∃ W1,W1=W.drewN nq:=⟨_,rfl⟩;rw [<- hW1];have hb1:Below W.heap.size W W1:=by rw [hW1];exact pV (Below.refl _ _) _
 clear hW1 e1 e2;obtain⟨l1,u1,nn1,_,v1⟩:=h1;obtain⟨l2,u2,nn2,_,v2⟩:=h2;obtain⟨K,hK,hK2⟩:∃ K:Nat,iT / 4<=32*K/\K<=8589934592:=⟨8589934592,by decide,Nat.le_refl _⟩;have k1:ah l1<bL ^ K:=Al u1.limbs (by rw [v1,dZ] at c1;omega);have k2:ah l2<bL ^ K:=Al u2.limbs (by rw [v2,dZ] at c2;omega)
 have hg:Int.gcd (ah l1) (ah l2)=Int.gcd z1 z2:=by
  rw [v1,v2];cases n1 <;> cases n2 <;> simp [fZ]
 have hm1:=u1.on (hb0.trans (hb1.mono hb0.size));have hm2:=u2.on (hb0.trans (hb1.mono hb0.size));have B3':=B3.on hb1;have hst:Eu (Int.gcd z1 z2) K (ah l2).toNat m1 m2 W1:=⟨l1,l2,hm1,hm2,nn1,nn2,k1,k2,hg,Nat.le_refl _⟩;generalize (ah l2).toNat=n0 at hst;clear u1 u2 nn1 nn2 v1 v2 k1 k2 hg hm1 hm2 c1 c2 B1 B2 B3;replace hst:=zH hst;go_wp2
 go_loopg [5,6] n0 (fun n x y wr=>Hid (Eu (Int.gcd z1 z2) K n x y wr)/\Below W.heap.size W wr/\Hid (Blk wr (w.heap.size+1+1) 39 [.bool false,.slice none 0 0]))
 case atStart=>exact⟨hst,hb1,B3'⟩
 case round =>
  obtain⟨heu,hb,hB⟩:=hrel;clear hst hb1;obtain⟨lx,ly,hx,hy,nx,ny,kx,ky,hg,hn⟩:=heu.out;obtain⟨ao,cap,rfl,hcap,Ly,my⟩:=id hy;have lenx:=nx.len_le hx.limbs kx;have leny:=ny.len_le Ly ky;have HG:=zH hg;clear heu hg;by_cases hp:0<ly.length
  ·have hpos:=ny.pos Ly hp
   go_wp2_with (first
    | (go_at_call 141;refine (Ak _ _ lx ly _ hx hy (by omega) (by omega) nx ny hp).mono ?_;rintro e w2 ⟨v1,v2,q,r,rfl,hq,hr,lq,lr,he,hlt,hb2⟩;replace he:=zH he)
    | (go_at_call 112;refine (kM false _ r _ hr (by omega)).mono ?_;rintro e w3 ⟨neg,m,rfl,hi,hb3⟩;obtain⟨ao3,n3,cap3,rfl,_,_⟩:=hi.shape;have hfld:=Nn neg ao3 n3 cap3))
   obtain⟨r',hr',nr',hv'⟩:=DC hi (bg hr.limbs);have hb':=(hb2.trans (hb3.mono hb2.size));go_roundg ((ah r).toNat)
   case measure=>have:=bg hr.limbs;omega
   case rel=>exact⟨zH ⟨ly,r',hy.on hb',hr',ny,nr',ky,by rw [hv'];omega,by rw [hv',<- HG.out,he.out,Gy],by rw [hv'];exact Nat.le_refl _⟩,hb.trans (hb'.mono hb.size),hB.out.on hb'⟩
  ·obtain rfl:ly=[]:=List.eq_nil_of_length_eq_zero (by omega)
   have hi:aZ wr false _ (Int.gcd z1 z2):=⟨lx,hx,nx,(fun h=>by cases h),by
    have:=HG.out;have hl:=bg hx.limbs;simp only [ah,Int.gcd_zero_right] at this
    rw [<- this];simp only [fZ];rw [if_neg (by simp)];omega⟩
   obtain⟨aox,capx,rfl,_,_,_⟩:=id hx
   go_wp2_with (refine aA rfl _ (.tmp 4) (.tmp 27) rfl _ _ _ _ rfl rfl hB.out rfl aR hi.ones ?_;intro w3 R gr)
   exact dM rfl rfl rfl R Tryz.underlying39 rfl aR (jE hb0 hb (by omega) hB.out hi gr)
def TW (w:World) (x y:Int) (e:Ending) (w':World):Prop :=
 ∃ n1 m1 n2 m2,e=.returned (.tuple #[.agg #[.bool n1,m1],.agg #[.bool n2,m2],.int .i64 0])/\aZ w' n1 m1 x/\aZ w' n2 m2 y/\Below w.heap.size w w'
theorem Xz {z d q r:Int} (hd:0<d) (h:z=q*d+r) (h0:0<=r) (h1:r<d):z / d=q/\z % d=r:=by
 rw [Int.ediv_emod_unique hd];exact⟨by rw [h,Int.mul_comm];omega,h0,h1⟩
theorem Lc {n1 n2:Bool} {L1 L2 q r:Int} (h:L1=q*L2+r) (h0:0<=r) (h1:r<L2) (ht:n1=false\/r=0) :
  (if n1 != n2 then -(fZ n1 L1 / fZ n2 L2) else fZ n1 L1 / fZ n2 L2)=q/\fZ n1 L1 % fZ n2 L2=r:=by
 have e:fZ n1 L1=(if n1 then -q else q)*L2+r:=by
  rcases ht with rfl|rfl
  ·simpa [fZ] using h
  ·cases n1 <;> simp [fZ,h] <;> grind
 have:=Xz (by omega) e h0 h1;cases n1 <;> cases n2 <;> simp_all [fZ]
theorem Pf {n2:Bool} {L1 L2 q r:Int} (h:L1=q*L2+r) (h0:0<r) (h1:r<L2) :
  (if true != n2 then -(fZ true L1 / fZ n2 L2) else fZ true L1 / fZ n2 L2)=q+1/\fZ true L1 % fZ n2 L2=L2-r:=by
 have e:fZ true L1=(-(q+1))*L2+(L2-r):=by simp only [fZ,if_true,h];grind
 have:=Xz (by omega) e (by omega) (by omega);cases n2 <;> simp_all [fZ]
theorem DD {a b:Bool} (h:true=(a && b)):a=true:=by cases a <;> simp_all
theorem vN {P:Program} {fn:Func} {p q u:Tmp} {ty:TypeId} (h:fn.results=#[.cell p ty,.cell q ty,.tmp u]) (tmps:Array Value) (w:World) (g1 g2:Nat) {d:TypeDesc} (hu:P.underlying ty=some d)
  (hd:(match d with|.struct _|.array _ _=>true|_=>false)=true) {T1 T2:TypeId} {c1 c2:List Value} (hp:tmps.getD p undef=.pointer (some ⟨g1,0,none⟩)) (hq:tmps.getD q undef=.pointer (some ⟨g2,0,none⟩)) (h1:Blk w g1 T1 c1) (h2:Blk w g2 T2 c2)
  (hi1:(P.info? ty).map (·.size)=some c1.length) (hi2:(P.info? ty).map (·.size)=some c2.length) :
  (results fn tmps).run P w.drew=.ok (.tuple #[.agg c1.toArray,.agg c2.toArray,tmps.getD u undef]) w.drew:=by
 have hp':tmps[p]?.getD undef=.pointer (some ⟨g1,0,none⟩):=by simpa using hp
 have hq':tmps[q]?.getD undef=.pointer (some ⟨g2,0,none⟩):=by simpa using hq
 have e1:=run_loadVar_row (P:=P) w.drew g1 T1 ty c1.toArray (0,0) d h1.drew hu hd (by simpa using hi1);have e2:=run_loadVar_row (P:=P) w.drew g2 T2 ty c2.toArray (0,0) d h2.drew hu hd (by simpa using hi2);simp [results,h,hp',hq',asAddr,Sem.run_bind,e1,e2]
def DM (g:Nat) (x y:Int) (w:World):Prop:=∃ nq aq kq cq nr ar kr cr,Blk w g 39 [.bool nq,.slice aq kq cq]/\Blk w (g+1) 39 [.bool nr,.slice ar kr cr] /\
 aZ w nq (.slice aq kq cq) x/\aZ w nr (.slice ar kr cr) y
theorem fK {w w':World} {z:Int} {e:Ending} (h:lI w z e w'):∃ neg ao n cap,e=.returned (.agg #[.bool neg,.slice ao n cap])/\aZ w' neg (.slice ao n cap) z/\Below w.heap.size w w':=by
 obtain⟨neg,m,rfl,hi,hb⟩:=h;obtain⟨ao,n,cap,rfl,_,_⟩:=hi.shape;exact⟨neg,ao,n,cap,rfl,hi,hb⟩
theorem yJ (n1 n2:Bool) (m1 m2:Value) (z1 z2:Int) (w:World) (h1:aZ w n1 m1 z1) (h2:aZ w n2 m2 z2) (c1:aI z1.natAbs<=iT / 4) (c2:aI z2.natAbs<=iT / 4) (hz:z2≠0) :
  Calls Tryz.prog 130 #[.agg #[.bool n1,m1],.agg #[.bool n2,m2]] w (TW w (z1 / z2) (z1 % z2)):=by
 obtain⟨l1,ao1,cap1,rfl,u1,b1,nn1,e1⟩:=fU h1 (by unfold iT at *;omega);obtain⟨l2,ao2,cap2,rfl,u2,b2,nn2,e2⟩:=fU h2 (by unfold iT at *;omega);have k1:l1.length<=8589934592:=aZ.len nn1 u1.limbs (by rw [e1,dZ] at c1;unfold iT at c1;omega);have k2:l2.length<=8589934592:=aZ.len nn2 u2.limbs (by rw [e2,dZ] at c2;unfold iT at c2;omega)
 have hp:0<l2.length:=by
  rcases Nat.eq_zero_or_pos l2.length with h|h
  ·exfalso;apply hz;obtain rfl:l2=[]:=List.eq_nil_of_length_eq_zero h;rw [e2];cases n2 <;> rfl
  ·exact h
 have hne:((l2.length:Int) == 0)=false:=beq_eq_false_iff_ne.2 (by omega);replace h1:=zH h1;replace h2:=zH h2;have hc1:Hid (aI (ah l1).natAbs<=iT / 4):=by rw [e1,dZ] at c1;exact c1
 replace e1:=zH e1;replace e2:=zH e2;clear c1 c2 b1 b2
 go_enter Tryz.func130,Tryz.ntmps130
 go_upto_region 1 with (fail)
 refine VX fun W hb0 B1 B2 B3 B4 hsz=>?_;have x1:=B1.at1 1 _ rfl;have x2:=B2.at1 1 _ rfl
 go_upto_region 5 with (first
  | (go_at_call 141;refine (Ak _ _ l1 l2 _ (u1.on hb0) (u2.on hb0) (by omega) (by omega) nn1 nn2 hp).mono ?_;rintro e w1 ⟨v1,v2,q,r,rfl,hq,hr,lq,lr,he,hlt,hb1⟩;replace he:=zH he)
  | (go_at_call_of 112 (v1);refine (kM false _ q _ hq (by omega)).mono ?_;rintro e w2 hret;obtain⟨nq,aq,kq,capq,rfl,hiq,hb2⟩:=fK hret;clear hret)
  | (go_at_call_of 112 (v2);refine (kM false _ r _ (hr.on hb2) (by omega)).mono ?_;rintro e w3 hret;obtain⟨nr,ar,kr,capr,rfl,hir,hb3⟩:=fK hret;clear hret))
 have hbW:Below W.heap.size W w3:=hb1.trans ((hb2.mono hb1.size).trans (hb3.mono (Nat.le_trans hb1.size hb2.size)));refine xm fun W' hb4 Bq Br hsz'=>?_;have hB:=hbW.trans (hb4.mono hbW.size);replace B1:=B1.keep hB B1.lt;replace B2:=B2.keep hB B2.lt;replace B3:=B3.keep hB B3.lt;replace B4:=B4.keep hB B4.lt;replace hiq:=(hiq.on hb3).on hb4;replace hir:=hir.on hb4;replace hb0:=hb0.trans (hB.mono hb0.size);have hnd:ah r<ah l2:=hlt;have hr0:=bg hr.limbs;have hne34:w.heap.size+1+1+1<w3.heap.size:=by have:=hbW.size;omega
 generalize w3.heap.size=g at *;clear hbW hb4 hB hb1 hb2 hb3 hq hr lq lr hlt;obtain⟨t,ht⟩:∃ t:Bool,t=(n1 && decide (0<kr)):=⟨_,rfl⟩;replace ht:=zH ht;have y1:=B1.at1 0 _ rfl;have y2:=Br.at1 1 _ rfl
 go_cut [36] (fun v wc=>v=.bool t/\W'=wc)
 case first =>
  cases n1
  ·go_wp2;go_meet
   case rel=>exact⟨by rw [ht.out];rfl,rfl⟩
  ·by_cases hk:0<kr
   ·have hd:decide (0<(kr:Int))=true:=by simp;omega
    have hd':Hid (decide (0<kr)=true):=zH (by simpa using hk);go_wp2;go_meet
    case rel=>exact⟨by rw [ht.out,hd'.out];rfl,rfl⟩
   ·obtain rfl:kr=0:=by omega
    go_wp2;go_meet
    case rel=>exact⟨by rw [ht.out];rfl,rfl⟩
 case rest =>
  obtain⟨rfl,rfl⟩:=hcut
  go_upto_if 36 with (fail)
  go_cut [] (fun wc=>Below w.heap.size w wc/\w.heap.size+1+1+1<g/\Hid (Blk wc w.heap.size 39 [.bool n1,.slice ao1 l1.length cap1])/\Hid (Blk wc (w.heap.size+1) 39 [.bool n2,.slice ao2 l2.length cap2]) /\
   Hid (Blk wc (w.heap.size+1+1) 39 [.bool false,.slice none 0 0])/\Hid (Blk wc (w.heap.size+1+1+1) 39 [.bool false,.slice none 0 0])/\Hid (DM g (if n1 != n2 then -(z1 / z2) else z1 / z2) (z1 % z2) wc))
  case first =>
   cases t
   ·go_wp2;go_meet
    case rel =>
     have:=ht.out
     have hz:n1=false\/ah r=0:=by
      cases n1
      ·exact .inl rfl
      ·right;rw [Bool.true_and] at this;have hk:=of_decide_eq_false this.symm;exact (sD hir).1 (by omega)
     have hm:=Lc (n1:=n1) (n2:=n2) he.out hr0 hnd hz;rw [<- e1.out,<- e2.out] at hm;exact⟨hb0,hne34,zH B1,zH B2,zH B3,zH B4,zH ⟨_,_,_,_,_,_,_,_,Bq,Br,by rw [hm.1];exact hiq,by rw [hm.2];exact hir⟩⟩
   ·have hn1:n1=true:=DD ht.out;subst hn1;have hkr:0<kr:=by have h:=ht.out;rw [Bool.true_and] at h;exact of_decide_eq_true h.symm
    have hrp:0<ah r:=by
     rcases Int.lt_or_eq_of_le hr0 with h|h
     ·exact h
     ·have:=(sD hir).2 h.symm;omega
    have hm:=Pf (n2:=n2) he.out hrp hnd;rw [<- e1.out,<- e2.out] at hm;replace hm:=zH hm;have hq0:0<=ah q:=by have:=he.out;have:=bg u1.limbs;rcases Int.lt_or_le (ah q) 0 with h|h;· { have:ah q*ah l2<=(-1)*ah l2:=Int.mul_le_mul_of_nonneg_right (by omega) (by omega);omega };· exact h
    have hcq:Hid (aI (fZ false (ah q)).natAbs<=iT):=by
     have:=he.out;have h2:ah q*1<=ah q*ah l2:=Int.mul_le_mul_of_nonneg_left (by omega) hq0;have h3:=iC (show (fZ false (ah q)).natAbs<=(ah l1).natAbs by rw [dZ];omega);have:=hc1.out;exact Nat.le_trans h3 (Nat.le_trans this (by decide))
    obtain⟨r',hr',nr',hv'⟩:=DC hir hr0;have hlen:=iD u2.limbs hr'.limbs nr' (by omega)
    go_upto_region 6 with (fail)
    refine iw mixed [.eq (.agg #[.bool nq,.slice aq kq capq]),.int 1,.int (ah q+1)] [37,38,39] rfl rfl rfl ⟨?_,?_,?_,trivial⟩ ?_
    ·intro A w1 hA hb he;have h9:A.eval (.tmp 9)=.pointer (some ⟨g,0,none⟩):=hA 9 rfl;have c0:=(Bq.on hb).at1 0 _ rfl;have c1:=(Bq.on hb).at1 1 _ rfl;refine aK rfl ?_;exact gZ
    ·intro A w1 hA hb he;have hf0:=eF A 85;have hc0:=eC A (.int .i64 1);refine cO (f:=85) (args:=#[(.int .i64 1)]) ?_ ?_
     ·exact gZ
     ·refine (Ag 1 _ (by omega) (by omega)).mono ?_;rintro e w' ⟨neg,m,rfl,hi,hb⟩;exact⟨_,rfl,hb,neg,m,rfl,hi⟩
    ·intro A w1 hA hb he;have h37:A.eval (.tmp 37)=.agg #[.bool nq,.slice aq kq capq]:=he.1 rfl;have f38:((.int 1:bU)).p (A.eval (.tmp 38)) w1:=he.2.1 rfl;obtain⟨v38,h38⟩:∃ v,A.eval (.tmp 38)=v:=⟨_,rfl⟩;rw [h38] at f38;have hf0:=eF A 131;refine cO (f:=131) (args:=#[.agg #[.bool nq,.slice aq kq capq],v38]) ?_ ?_
     ·exact gZ
     ·obtain⟨neg,m,rfl,hi⟩:=f38;refine (K7 _ _ _ _ _ _ _ (hiq.on hb) hi hcq.out (by decide)).mono ?_;rintro e w' ⟨neg,m,rfl,hi,hb⟩;exact⟨_,rfl,hb,neg,m,rfl,hi⟩
    ·intro w4 hb5;simp only [ou,bU.eq,bU.u32,bU.int,bU.of,lZ];rintro _ - _ ⟨nq',mq',rfl,hiq'⟩;obtain⟨aq',kq',cq',rfl,_,_⟩:=hiq'.shape;go_frame;refine aA rfl _ (.tmp 9) (.tmp 39) rfl _ _ _ _ rfl rfl (Bq.on hb5) rfl aR hiq'.ones ?_;intro w5 R5 gr5;have hbe:Below w.heap.size w w5:=hb0.trans ((hb5.mono hb0.size).trans ((aM gr5 (Nat.le_of_lt (Bq.on hb5).lt) (Nat.le_refl g)).mono (by omega)));have B1':=(B1.on hb5).grown gr5 (by omega);have B2':=(B2.on hb5).grown gr5 (by omega);have B3':=(B3.on hb5).grown gr5 (by omega);have B4':=(B4.on hb5).grown gr5 (by omega);have Br':=(Br.on hb5).grown gr5 (by omega);have u2':=((u2.on hb0).on hb5).stored gr5 (Bq.on hb5) (by decide);have hir5:=(hr'.on hb5).stored gr5 (Bq.on hb5) (by decide);have hiq5:=hiq'.stored gr5 (Bq.on hb5) (by decide);clear B1 B2 B3 B4 Br Bq hb5 gr5 hiq' y1 y2 x1 x2;have z2':=B2'.at1 1 _ rfl;have z4':=Br'.at1 1 _ rfl
     go_wp2_with (first
      | (go_at_call 143;refine (xy _ _ l2 r' _ u2' hir5 (by omega) hlen (by omega)).mono ?_;rintro e w6 ⟨v,l,rfl,hu,⟨hv,hl⟩,hb6⟩)
      | (go_at_call 112;refine (kM false _ l _ hu (by omega)).mono ?_;rintro e w7 hret;obtain⟨nr2,ar2,kr2,capr2,rfl,hir2,hb7⟩:=fK hret;clear hret)
      | (refine aA rfl _ (.tmp 10) (.tmp 45) rfl _ _ _ _ rfl rfl ((Br'.on hb6).on hb7) rfl aR hir2.ones ?_;intro w8 R8 gr8))
     have hb67:Below w5.heap.size w5 w7:=hb6.trans (hb7.mono hb6.size);have hBr:=Br'.on hb67;have hs5:=Br'.lt;have hs7:=hBr.lt;go_meet
     case rel =>
      have hm:=hm.out;refine⟨hbe.trans ((hb67.mono hbe.size).trans ((aM gr8 (Nat.le_of_lt hs7) (Nat.le_refl (g+1))).mono (by omega))),hne34,zH ((B1'.on hb67).grown gr8 (by omega)),zH ((B2'.on hb67).grown gr8 (by omega)),zH ((B3'.on hb67).grown gr8 (by omega)),zH ((B4'.on hb67).grown gr8 (by omega)),zH ⟨_,_,_,_,_,_,_,_,(R5.on hb67).grown gr8 (by omega),R8,?_,?_⟩⟩
      ·rw [hm.1];exact (hiq5.on hb67).stored gr8 hBr (by decide)
      ·rw [hm.2,<- hv',<- hv];exact hir2.stored gr8 hBr (by decide)
  case rest =>
   obtain⟨hb,hne',hB1,hB2,hB3,hB4,hDM⟩:=hcut;obtain⟨nq1,aq1,kq1,cq1,nr1,ar1,kr1,cr1,Bq1,Br1,hiq1,hir1⟩:=hDM.out;have x1:=hB1.out.at1 0 _ rfl;have x2:=hB2.out.at1 0 _ rfl
   go_upto_if 50 with (fail)
   clear B1 B2 B3 B4 Bq Br hiq hir u1 u2 x1 x2 hB1 hB2;have hlt1:=Br1.lt
   go_cut [] (fun wd=>Below w.heap.size w wd/\Hid (Blk wd (w.heap.size+1+1) 39 [.bool false,.slice none 0 0])/\Hid (Blk wd (w.heap.size+1+1+1) 39 [.bool false,.slice none 0 0])/\Hid (DM g (z1 / z2) (z1 % z2) wd))
   case first =>
    obtain⟨d,hd⟩:∃ d:Bool,d=(n1 != n2):=⟨_,rfl⟩;have hd':(!(n1 == n2))=d:=by rw [hd];rfl
    rw [<- hd] at hiq1;rw [hd'];have y1:=Bq1.at1 0 _ rfl;have y2:=Bq1.at1 1 _ rfl;cases d
    ·go_wp2;go_meet
     case rel=>exact⟨hb,hB3,hB4,zH ⟨_,_,_,_,_,_,_,_,Bq1,Br1,hiq1,hir1⟩⟩
    ·rw [if_pos rfl] at hiq1
     go_wp2_with (first
      | (go_at_call 127;refine (EL _ _ _ _ hiq1).mono ?_;rintro e w2 hret;obtain⟨nq2,aq2,kq2,capq2,rfl,hiq2,hb2⟩:=fK hret;clear hret;rw [Int.neg_neg] at hiq2)
      | (refine aA rfl _ (.tmp 9) (.tmp 52) rfl _ _ _ _ rfl rfl (Bq1.on hb2) rfl aR hiq2.ones ?_;intro w3 R3 gr3))
     have hBq:=Bq1.on hb2;go_meet
     case rel=>exact⟨hb.trans ((hb2.mono hb.size).trans ((aM gr3 (Nat.le_of_lt hBq.lt) (Nat.le_refl g)).mono (by omega))),zH ((hB3.out.on hb2).grown gr3 (by omega)),zH ((hB4.out.on hb2).grown gr3 (by omega)),zH ⟨_,_,_,_,_,_,_,_,R3,(Br1.on hb2).grown gr3 (by omega),hiq2.stored gr3 hBq (by decide),(hir1.on hb2).stored gr3 hBq (by decide)⟩⟩
   case rest =>
    obtain⟨hb,hB3,hB4,hDM⟩:=hcut;obtain⟨nq1,aq1,kq1,cq1,nr1,ar1,kr1,cr1,Bq1,Br1,hiq1,hir1⟩:=hDM.out
    go_upto_region 10 with (fail)
    have y1:=Bq1.at1 0 _ rfl;have y2:=Bq1.at1 1 _ rfl;have y3:=Br1.at1 0 _ rfl;have y4:=Br1.at1 1 _ rfl;have s1:=hB3.out.at1 0 _ rfl;have s2:=hB3.out.at1 1 _ rfl;have s3:=hB4.out.at1 0 _ rfl;have s4:=hB4.out.at1 1 _ rfl;have f1:=hB3.out.frozen 0;have f2:=hB3.out.frozen 1;have f3:=hB4.out.frozen 0;have f4:=hB4.out.frozen 1
    go_region
    obtain⟨R1,gr1⟩:=eU [.bool nq1,.slice aq1 kq1 cq1] 0 wc _ hB3.out (by simp);obtain⟨R2,gr2⟩:=eU [.bool nr1,.slice ar1 kr1 cr1] 0 _ _ (hB4.out.grown gr1 (by omega)) (by simp);have hR1:=R1.grown gr2 (by omega);have hiq2:=(hiq1.stored gr1 hB3.out (by decide)).stored gr2 (hB4.out.grown gr1 (by omega)) (by decide);have hir2:=(hir1.stored gr1 hB3.out (by decide)).stored gr2 (hB4.out.grown gr1 (by omega)) (by decide);have hb3:Below w.heap.size w _:=(hb.trans ((aM gr1 (Nat.le_of_lt hB3.out.lt) (Nat.le_refl _)).mono (by omega))).trans ((aM gr2 (Nat.le_of_lt (hB4.out.grown gr1 (by omega)).lt) (Nat.le_refl _)).mono (by omega));go_wp2;exact bodyPost_ret (vN rfl _ _ _ _ Tryz.underlying39 rfl rfl rfl hR1 R2 aR aR) rfl ⟨_,_,_,_,rfl,hiq2,hir2,pV hb3 1⟩
def DF (w:World) (v:Value) (x y:Int):Prop:=∃ g n1 a1 k1 c1 n2 a2 k2 c2,v=.slice (some ⟨g,0,none⟩) 2 2/\Blk w g 39 [.bool n1,.slice a1 k1 c1,.bool n2,.slice a2 k2 c2]/\aZ w n1 (.slice a1 k1 c1) x/\aZ w n2 (.slice a2 k2 c2) y
theorem DF.on {w w':World} {v:Value} {x y:Int} (h:DF w v x y) (hb:Below w.heap.size w w'):DF w' v x y:=by
 obtain⟨g,n1,a1,k1,c1,n2,a2,k2,c2,e,hB,h1,h2⟩:=h;exact⟨g,n1,a1,k1,c1,n2,a2,k2,c2,e,hB.on hb,h1.on hb,h2.on hb⟩
def xD (x y:Int) (i:Nat):Int:=if i=0 then 1 else if i=1 then x else x*y
def Am (g:Nat) (z:Int) (w:World):Prop:=∃ n a k c,Blk w g 39 [.bool n,.slice a k c]/\aZ w n (.slice a k c) z
theorem Gz {x y:Int} (c1:aI x.natAbs<=iT / 4) (c2:aI y.natAbs<=iT / 4) (i:Nat):aI (xD x y i).natAbs<=iT:=by
 unfold xD;split
 ·decide
 ·split
  ·unfold iT at *;omega
  ·have:=jV x.natAbs y.natAbs;rw [Int.natAbs_mul];unfold iT at *;omega
theorem mq (v:Value) (x y:Int) (w:World) (h:DF w v x y) (c1:aI x.natAbs<=iT / 4) (c2:aI y.natAbs<=iT / 4) :
  Calls Tryz.prog 84 #[v] w (lI w (x*y)):=by
 obtain⟨g,n1,a1,k1,q1,n2,a2,k2,q2,rfl,hB,h1,h2⟩:=h
 go_enter Tryz.func84,Tryz.ntmps84
 go_upto_region 1 with (fail)
 refine jI fun W hb0 B2 hsz=>?_;have cb:=Gz c1 c2;have cx:aI x.natAbs<=iT:=by unfold iT at *;omega
 have cy:aI y.natAbs<=iT:=by unfold iT at *;omega
 clear c1 c2
 go_upto_region 2 with (go_at_call 85;refine (Ag 1 _ (by omega) (by omega)).mono ?_;rintro e w1 hret;obtain⟨n0,a0,k0,q0,rfl,hi,hb1⟩:=fK hret;clear hret)
 refine jI fun W' hb2 B3 hsz'=>?_;have hb3:=hb1.trans (hb2.mono hb1.size);replace B2:=B2.on hb3;replace hi:=hi.on hb2;replace hb0:=hb0.trans (hb3.mono hb0.size);have hgt:w.heap.size<w1.heap.size:=by have:=hb1.size;omega
 generalize w1.heap.size=r at *;clear hb1 hb2 hb3;go_wp2
 go_loopw [9] (fun i wr=>∃ k:Nat,k<=2/\i=.int .i64 k/\Below w.heap.size w wr/\w.heap.size<r/\Hid (Am r (xD x y k) wr)/\Hid (Blk wr w.heap.size 39 [.bool false,.slice none 0 0])) (fun i _=>2-(intOf i).toNat)
 case atStart=>exact⟨0,by omega,rfl,hb0,hgt,zH ⟨_,_,_,_,B3,hi⟩,zH B2⟩
 case round =>
  clear hb0 hgt B3 hi B2;obtain⟨k,hk,rfl,hb,hgt,hbox,hres⟩:=hrel;obtain⟨n3,a3,k3,q3,B3,i3⟩:=hbox.out;have d1:=B3.at1 0 _ rfl;have d2:=B3.at1 1 _ rfl;have hG:=hB.keep hb hB.lt;have hgl:=hB.lt;have z1:=hG.at1 0 _ rfl;have z2:=hG.at1 1 _ rfl;have z3:=hG.at1 2 _ rfl;have z4:=hG.at1 3 _ rfl;obtain rfl|rfl|rfl:k=0\/k=1\/k=2:=by omega
  ·go_upto_region 5 with (fail)
   refine jI fun W1 hb1 B5 hsz1=>?_;have e1:=(B3.on hb1).at1 0 _ rfl;have e2:=(B3.on hb1).at1 1 _ rfl;have e3:=B5.at1 0 _ rfl;have e4:=B5.at1 1 _ rfl
   go_wp2_with (first
    | (go_at_call 111;refine (La _ _ _ _ _ _ _ (i3.on hb1) (((h1.on hb).on hb1)) (cb 0) cx).mono ?_;rintro e w2 hret;obtain⟨n4,a4,k4,q4,rfl,i4,hb2⟩:=fK hret;clear hret)
    | (refine aA rfl _ (.tmp 3) (.tmp 15) rfl _ _ _ _ rfl rfl ((B3.on hb1).on hb2) rfl aR i4.ones ?_;intro w3 R3 gr3))
   have hB3:=(B3.on hb1).on hb2;go_roundw
   case measure=>simp [intOf]
   case rel =>
    refine⟨1,by omega,by go_num,hb.trans (((hb1.trans (hb2.mono hb1.size)).mono hb.size).trans ((aM gr3 (Nat.le_of_lt hB3.lt) (Nat.le_refl r)).mono (by omega))),hgt,zH ⟨_,_,_,_,R3,?_⟩,zH (((hres.out.on hb1).on hb2).grown gr3 (by omega))⟩;have:=i4.stored gr3 hB3 (by decide);simp only [xD,if_true,if_false,Int.one_mul] at this ⊢;exact this
  ·go_upto_region 5 with (fail)
   refine jI fun W1 hb1 B5 hsz1=>?_;have e1:=(B3.on hb1).at1 0 _ rfl;have e2:=(B3.on hb1).at1 1 _ rfl;have e3:=B5.at1 0 _ rfl;have e4:=B5.at1 1 _ rfl
   go_wp2_with (first
    | (go_at_call 111;refine (La _ _ _ _ _ _ _ (i3.on hb1) (((h2.on hb).on hb1)) (cb 1) cy).mono ?_;rintro e w2 hret;obtain⟨n4,a4,k4,q4,rfl,i4,hb2⟩:=fK hret;clear hret)
    | (refine aA rfl _ (.tmp 3) (.tmp 15) rfl _ _ _ _ rfl rfl ((B3.on hb1).on hb2) rfl aR i4.ones ?_;intro w3 R3 gr3))
   have hB3:=(B3.on hb1).on hb2;go_roundw
   case measure=>simp [intOf]
   case rel =>
    refine⟨2,by omega,by go_num,hb.trans (((hb1.trans (hb2.mono hb1.size)).mono hb.size).trans ((aM gr3 (Nat.le_of_lt hB3.lt) (Nat.le_refl r)).mono (by omega))),hgt,zH ⟨_,_,_,_,R3,?_⟩,zH (((hres.out.on hb1).on hb2).grown gr3 (by omega))⟩;have:=i4.stored gr3 hB3 (by decide);simp only [xD,if_true,if_false] at this ⊢;exact this
  ·have hres':=hres.out;rw [show xD x y 2=x*y from rfl] at i3
   go_wp2_with (refine aA rfl _ (.tmp 2) (.tmp 17) rfl _ _ _ _ rfl rfl hres' rfl aR i3.ones ?_;intro w3 R3 gr3)
   exact dM rfl rfl rfl R3 Tryz.underlying39 rfl aR (jE hb (Below.refl _ _) (Nat.le_refl _) hres' i3 gr3)
def bV (w:World) (v:Value) (q:Rat):Prop:=∃ n a k c n' a' k' c',v=.agg #[.bool n,.slice a k c,.bool n',.slice a' k' c']/\aZ w n (.slice a k c) q.num/\aZ w n' (.slice a' k' c') (q.den:Int)
theorem bV.on {w w':World} {v:Value} {q:Rat} (h:bV w v q) (hb:Below w.heap.size w w'):bV w' v q:=by
 obtain⟨n,a,k,c,n',a',k',c',e,h1,h2⟩:=h;exact⟨n,a,k,c,n',a',k',c',e,h1.on hb,h2.on hb⟩
theorem bV.stored {w w':World} {v:Value} {q:Rat} {R:Nat} {T':TypeId} {cs':List Value} (h:bV w v q) (hg:w.grownBy w' (some R)) (hB:Blk w R T' cs') (hT:uT≠T'):bV w' v q:=by
 obtain⟨n,a,k,c,n',a',k',c',e,h1,h2⟩:=h;exact⟨n,a,k,c,n',a',k',c',e,h1.stored hg hB hT,h2.stored hg hB hT⟩
end Go.Proofs.YtopclbeomcggiaaGreat
namespace Q
open Go.Proofs.YtopclbeomcggiaaGreat
def bU.rat (q:Rat):bU:=bU.of (fun v w=>bV w v q) (fun _ _ _ hb h=>h.on hb)
def bU.ints2 (x y:Int):bU:=bU.of (fun v w=>DF w v x y) (fun _ _ _ hb h=>h.on hb)
end Q
namespace Go.Proofs.YtopclbeomcggiaaGreat
open Go.RowKit Q
def qY (w:World) (q:Rat) (e:Ending) (w':World):Prop:=∃ v,e=.returned v/\bV w' v q/\Below w.heap.size w w'
theorem dL:(Tryz.prog.info? 41).map (·.size)=some 4:=by kernel_rfl
theorem kZ {P:Program} {o:Oper} {A:Act} {w:World} {i:Nat} {φ:Nat->Value->World->Prop} {Q:Exit->Act->World->Prop} {x y:Int} {n1 n2:Bool} {a1 a2:Option Addr} {k1 c1 k2 c2:Nat}
  (h1:aZ w n1 (.slice a1 k1 c1) x) (h2:aZ w n2 (.slice a2 k2 c2) y)
  (hrun:(execOp A.eval o).run P w=.ok (.value (.slice (some ⟨w.heap.size,0,none⟩) 2 2)) (w.alloc (.cells #[.bool n1,.slice a1 k1 c1,.bool n2,.slice a2 k2 c2] 39)))
  (hφ:∀ v w,φ i v w=DF w v x y:=by intros;rfl) :
  o.wp P A w (fun A' w'=>∃ v,A'=A.put o.dst v/\Below w.heap.size w w'/\φ i v w') Q:=by
 have hb:Below w.heap.size w (w.alloc (.cells #[.bool n1,.slice a1 k1 c1,.bool n2,.slice a2 k2 c2] 39)):=(Below.refl _ _).alloc (Nat.le_refl _) _;refine Aa ?_ hrun hb;rw [hφ];exact⟨_,_,_,_,_,_,_,_,_,rfl,Blk.new w _ _,h1.on hb,h2.on hb⟩
def Rk (q:Rat):Prop:=aI q.den<=iT / 16/\aI q.num.natAbs<=iT / 16
theorem vO {n:Nat} (h:n<65536):aI n<=16:=jH h
theorem Rk.num {q:Rat} (h:Rk q):aI q.num.natAbs<=iT / 4:=by have:=h.2;unfold iT at *;omega
theorem Rk.small {q:Rat} (h:q.den<65536) (h':aI q.num.natAbs<=iT / 16):Rk q:=⟨by have:=vO h;unfold iT;omega,h'⟩
theorem Rk.den {q:Rat} (h:Rk q):aI ((q.den:Int)).natAbs<=iT / 4:=by have:=h.1;rw [Int.natAbs_natCast];unfold iT at *;omega
theorem Rk.num' {q:Rat} (h:Rk q):aI q.num.natAbs<=iT:=by have:=h.2;unfold iT at *;omega
theorem Rk.den' {q:Rat} (h:Rk q):aI ((q.den:Int)).natAbs<=iT:=by have:=h.1;rw [Int.natAbs_natCast];unfold iT at *;omega
theorem Ao {p q:Rat} (h:Rk p) (h':Rk q):aI ((p.den:Int)*q.den).natAbs<=iT / 4/\(p.den:Int)*q.den≠0:=by
 have e:((p.den:Int)*q.den).natAbs=p.den*q.den:=by rw [Int.natAbs_mul,Int.natAbs_natCast,Int.natAbs_natCast]
 refine⟨?_,?_⟩
 ·rw [e];have:=jV p.den q.den;have:=h.1;have:=h'.1;unfold iT at *;omega
 ·have:=p.den_nz;have:=q.den_nz;intro h0;rcases Int.mul_eq_zero.1 h0 with h|h <;> omega
theorem qZ {p q:Rat} (h:Rk p) (h':Rk q):aI (p.num*(q.den:Int)).natAbs<=iT / 8:=by
 have:=jV p.num.natAbs q.den;have:=h.2;have:=h'.1;rw [Int.natAbs_mul,Int.natAbs_natCast];unfold iT at *;omega
theorem GD {x y:Int} {K:Nat} (h:aI x.natAbs<=K) (h':aI y.natAbs<=K):aI (x+y).natAbs<=K+1:=by
 have:=M8 x.natAbs y.natAbs;have:=iC (Int.natAbs_add_le x y);omega
theorem rf (n d:Int) (hd:0<d):(Rat.divInt n d).num=n / (Int.gcd n d)/\((Rat.divInt n d).den:Int)=d / (Int.gcd n d):=by
 obtain⟨k,rfl⟩:∃ k:Nat,d=k:=⟨d.toNat,by omega⟩;have hk:k≠0:=by omega
 have e:Rat.divInt n k=Rat.normalize n k hk:=by
  rw [Rat.divInt_ofNat,<- Rat.normalize_eq_mkRat]
 rw [e,Rat.normalize_eq];exact⟨rfl,Int.natCast_ediv _ _⟩
theorem oZ {w W w1 w2:World} {v:Value} {q:Rat} {R:Nat} {cs:List Value} (hb0:Below w.heap.size w W) (hb:Below W.heap.size W w1) (hR:w.heap.size<=R) (hB:Blk w1 R 41 cs) (hi:bV w1 v q) (gr:w1.grownBy w2 (some R)) :
  qY w q (.returned v) w2 :=
 ⟨v,rfl,hi.stored gr hB (by decide),hb0.trans ((hb.mono hb0.size).trans ((aM gr (Nat.le_of_lt hB.lt) (Nat.le_refl R)).mono hR))⟩
theorem uM (z:Int):(z<0/\iV z=-1)\/(z=0/\iV z=0)\/(0<z/\iV z=1):=by unfold iV;split <;> (try split) <;> omega
theorem Ap (n d:Int) (hd:d≠0):∃ x y:Int,0<y/\y.natAbs=d.natAbs/\x.natAbs=n.natAbs/\(d<0->x=-n/\y=-d)/\(0<d->x=n/\y=d) /\
  (Rat.divInt n d).num=x / (Int.gcd x y)/\((Rat.divInt n d).den:Int)=y / (Int.gcd x y):=by
 rcases Int.lt_or_gt_of_ne hd with h|h
 ·refine⟨-n,-d,by omega,by omega,by omega,fun _=>⟨rfl,rfl⟩,fun _=>by omega,?_⟩;have:=rf (-n) (-d) (by omega);rwa [Rat.neg_divInt_neg] at this
 ·exact⟨n,d,h,rfl,rfl,fun _=>by omega,fun _=>⟨rfl,rfl⟩,rf n d h⟩
theorem uN (n1 n2:Bool) (m1 m2:Value) (z1 z2:Int) (w:World) (h1:aZ w n1 m1 z1) (h2:aZ w n2 m2 z2) (c1:aI z1.natAbs<=iT / 4) (c2:aI z2.natAbs<=iT / 4) (hz:z2≠0) :
  Calls Tryz.prog 110 #[.agg #[.bool n1,m1],.agg #[.bool n2,m2]] w (qY w (Rat.divInt z1 z2)):=by
 obtain⟨a1,k1,q1,rfl,-,-⟩:=h1.shape;obtain⟨a2,k2,q2,rfl,-,-⟩:=h2.shape;obtain⟨x,d,hd,ed,ex,hneg,hpos,hn,hdn⟩:=Ap z1 z2 hz;generalize Rat.divInt z1 z2=Qr at *;rw [<- ed] at c2;rw [<- ex] at c1;replace hn:=zH hn;replace hdn:=zH hdn
 go_enter Tryz.func110,Tryz.ntmps110
 go_upto_region 1 with (fail)
 refine rY fun W hb0 B1 B2 B3 hsz=>?_;have x1:=B1.at1 0 _ rfl;have x2:=B1.at1 1 _ rfl;have y1:=B2.at1 0 _ rfl;have y2:=B2.at1 1 _ rfl
 go_upto_if 8 with (go_at_call 109;refine (Af _ _ _ _ (h2.on hb0)).mono ?_;rintro e w1 ⟨rfl,hb1⟩)
 go_cut [] (fun wc=>Below w.heap.size w wc/\Hid (Am w.heap.size x wc)/\Hid (Am (w.heap.size+1) d wc)/\Hid (Blk wc (w.heap.size+1+1) 41 [.bool false,.slice none 0 0,.bool false,.slice none 0 0]))
 case first =>
  rcases uM z2 with ⟨h,hs⟩|⟨h,-⟩|⟨h,hs⟩
  ·obtain⟨rfl,rfl⟩:=hneg h;rw [hs];replace B1:=B1.on hb1;replace B2:=B2.on hb1;replace B3:=B3.on hb1;replace h1:=(h1.on hb0).on hb1;replace h2:=(h2.on hb0).on hb1;have hbW:=hb0.trans (hb1.mono hb0.size);clear hb0 hb1 x1 x2 y1 y2 hneg hpos
   go_upto_region 2 with (fail)
   refine iw mixed [.eq (.agg #[.bool n1,.slice a1 k1 q1]),.int ((-z1)),.eq (.agg #[.bool n2,.slice a2 k2 q2]),.int ((-z2))] [9,10,11,12] rfl rfl rfl ⟨?_,?_,?_,?_,trivial⟩ ?_
   ·intro A w1 hA hb he;have h2:A.eval (.tmp 2)=.pointer (some ⟨w.heap.size,0,none⟩):=hA 2 rfl;have c0:=(B1.on hb).at1 0 _ rfl;have c1:=(B1.on hb).at1 1 _ rfl;refine aK rfl ?_;exact gZ
   ·intro A w1 hA hb he;have h9:A.eval (.tmp 9)=.agg #[.bool n1,.slice a1 k1 q1]:=he.1 rfl;have hf0:=eF A 127;refine cO (f:=127) (args:=#[.agg #[.bool n1,.slice a1 k1 q1]]) ?_ ?_
    ·exact gZ
    ·refine (EL _ _ _ _ (h1.on hb)).mono ?_;rintro e w' ⟨neg,m,rfl,hi,hb⟩;exact⟨_,rfl,hb,neg,m,rfl,hi⟩
   ·intro A w1 hA hb he;have h3:A.eval (.tmp 3)=.pointer (some ⟨w.heap.size+1,0,none⟩):=hA 3 rfl;have c0:=(B2.on hb).at1 0 _ rfl;have c1:=(B2.on hb).at1 1 _ rfl;refine aK rfl ?_;exact gZ
   ·intro A w1 hA hb he;have h11:A.eval (.tmp 11)=.agg #[.bool n2,.slice a2 k2 q2]:=he.1 rfl;have hf0:=eF A 127;refine cO (f:=127) (args:=#[.agg #[.bool n2,.slice a2 k2 q2]]) ?_ ?_
    ·exact gZ
    ·refine (EL _ _ _ _ (h2.on hb)).mono ?_;rintro e w' ⟨neg,m,rfl,hi,hb⟩;exact⟨_,rfl,hb,neg,m,rfl,hi⟩
   ·intro w2 hb2;simp only [ou,bU.eq,bU.u32,bU.int,bU.of,lZ];rintro _ ⟨n3,m3,rfl,i3⟩ _ ⟨n4,m4,rfl,i4⟩;obtain⟨a3,k3,q3,rfl,-,-⟩:=i3.shape;obtain⟨a4,k4,q4,rfl,-,-⟩:=i4.shape;go_frame;refine aA rfl _ (.tmp 2) (.tmp 10) rfl _ _ _ _ rfl rfl (B1.on hb2) rfl aR i3.ones ?_;intro w3 R3 gr3;have hB2:=(B2.on hb2).grown gr3 (by omega);have j4:=i4.stored gr3 (B1.on hb2) (by decide);go_frame;refine aA rfl _ (.tmp 3) (.tmp 12) rfl _ _ _ _ rfl rfl hB2 rfl aR j4.ones ?_;intro w4 R4 gr4;have hlt:=B1.lt;have hlt2:=(B1.on hb2).lt;have hlt3:=hB2.lt;go_wp2;go_meet
    case rel=>exact⟨hbW.trans ((hb2.mono hbW.size).trans (((aM gr3 (Nat.le_of_lt hlt2) (Nat.le_refl _))).trans ((aM gr4 (by omega) (by omega))))),zH ⟨_,_,_,_,R3.grown gr4 (by omega),(i3.stored gr3 (B1.on hb2) (by decide)).stored gr4 hB2 (by decide)⟩,zH ⟨_,_,_,_,R4,j4.stored gr4 hB2 (by decide)⟩,zH (((B3.on hb2).grown gr3 (by omega)).grown gr4 (by omega))⟩
  ·omega
  ·obtain⟨rfl,rfl⟩:=hpos h;rw [hs];go_wp2;go_meet
   case rel=>exact⟨hb0.trans (hb1.mono hb0.size),zH ⟨_,_,_,_,B1.on hb1,(h1.on hb0).on hb1⟩,zH ⟨_,_,_,_,B2.on hb1,(h2.on hb0).on hb1⟩,zH (B3.on hb1)⟩
 case rest =>
  obtain⟨hb,hB1,hB2,hB3⟩:=hcut;obtain⟨nx,ax,kx,cx,Bx,ix⟩:=hB1.out;obtain⟨nd,ad,kd,cd,Bd,id⟩:=hB2.out;have u1:=Bx.at1 0 _ rfl;have u2:=Bx.at1 1 _ rfl;have v1:=Bd.at1 0 _ rfl;have v2:=Bd.at1 1 _ rfl;clear B1 B2 B3 x1 x2 y1 y2
  go_upto_region 4 with (go_at_call 128;refine (Si _ _ _ _ _ _ _ ix id c1 c2).mono ?_;rintro e w2 hret;obtain⟨ng,ag,kg,cg,rfl,ig,hb2⟩:=fK hret;clear hret)
  refine jI fun W2 hb3 Bg hsz2=>?_;have hbB:=hb2.trans (hb3.mono hb2.size);replace Bx:=Bx.on hbB;replace Bd:=Bd.on hbB;replace ix:=ix.on hbB;replace id:=id.on hbB;replace ig:=ig.on hb3;have hB3':=hB3.out.on hbB;replace hb:=hb.trans (hbB.mono hb.size);have hlt2:w.heap.size+1+1<w2.heap.size:=by have:=hb2.size;have:=hB3.out.lt;omega
  generalize w2.heap.size=r at *;have hg1:Int.gcd x d<=d.natAbs:=Int.gcd_le_natAbs_right _ (by omega);have hg0:0<Int.gcd x d:=Int.gcd_pos_of_ne_zero_right _ (by omega);generalize Int.gcd x d=g at *;have hgb:aI ((g:Int)).natAbs<=iT:=by rw [Int.natAbs_natCast];exact Nat.le_trans (iC hg1) (Nat.le_trans c2 (by decide))
  clear hbB hb2 hb3 u1 u2 v1 v2 hneg hpos hB1 hB2 hB3;refine iw mixed [.eq (.agg #[.bool ng,.slice ag kg cg]),.int (1),.eq (.int .i64 (dW g 1)),.eq (.bool (dW g 1 != 0))] [16,17,18,19] rfl rfl rfl ⟨?_,?_,?_,?_,trivial⟩ ?_
  ·intro A w1 hA hb he;have h5:A.eval (.tmp 5)=.pointer (some ⟨r,0,none⟩):=hA 5 rfl;have c0:=(Bg.on hb).at1 0 _ rfl;have c1:=(Bg.on hb).at1 1 _ rfl;refine aK rfl ?_;exact gZ
  ·intro A w1 hA hb he;have hf0:=eF A 85;have hc0:=eC A (.int .i64 1);refine cO (f:=85) (args:=#[(.int .i64 1)]) ?_ ?_
   ·exact gZ
   ·refine (Ag 1 _ (by omega) (by omega)).mono ?_;rintro e w' ⟨neg,m,rfl,hi,hb⟩;exact⟨_,rfl,hb,neg,m,rfl,hi⟩
  ·intro A w1 hA hb he;have h16:A.eval (.tmp 16)=.agg #[.bool ng,.slice ag kg cg]:=he.1 rfl;have f17:((.int (1):bU)).p (A.eval (.tmp 17)) w1:=he.2.1 rfl;obtain⟨v17,h17⟩:∃ v,A.eval (.tmp 17)=v:=⟨_,rfl⟩;rw [h17] at f17;have hf0:=eF A 129;refine cO (f:=129) (args:=#[.agg #[.bool ng,.slice ag kg cg],v17]) ?_ ?_
   ·exact gZ
   ·obtain⟨n17,m17,rfl,i17⟩:=f17;refine (RX _ _ _ _ _ _ _ (ig.on hb) i17 hgb (by decide)).mono ?_;rintro e w' ⟨rfl,hb⟩;exact⟨_,rfl,hb,rfl⟩
  ·intro A w1 hA hb he;have h18:A.eval (.tmp 18)=.int .i64 (dW g 1):=he.1 rfl;have hc0:=eC A (.int .i64 0);refine aK rfl ?_;exact gZ
  ·intro w4 hb4;simp only [ou,bU.eq,bU.u32,bU.int,bU.of,lZ];rintro _ -;go_frame;replace Bx:=Bx.on hb4;replace Bd:=Bd.on hb4;replace Bg:=Bg.on hb4;replace ix:=ix.on hb4;replace id:=id.on hb4;replace ig:=ig.on hb4;replace hB3':=hB3'.on hb4;replace hb:=hb.trans (hb4.mono hb.size);clear hb4 hb0 hsz hsz2
   go_upto_if 19 with (fail)
   go_cut [] (fun wc=>Below w.heap.size w wc/\Hid (Am w.heap.size Qr.num wc)/\Hid (Am (w.heap.size+1) Qr.den wc)/\Hid (Blk wc (w.heap.size+1+1) 41 [.bool false,.slice none 0 0,.bool false,.slice none 0 0]))
   case first =>
    by_cases h1g:g=1
    ·subst h1g;have hn':=hn.out;have hdn':=hdn.out;rw [Int.natCast_one,Int.ediv_one] at hn' hdn';rw [show (dW ((1:Nat):Int) 1 != 0)=false from rfl];go_wp2;go_meet
     case rel=>exact⟨hb,zH ⟨_,_,_,_,Bx,by rw [hn'];exact ix⟩,zH ⟨_,_,_,_,Bd,by rw [hdn'];exact id⟩,zH hB3'⟩
    ·rw [show (dW (g:Int) 1 != 0)=true by rw [jC (by omega)];rfl];have c5:aI ((g:Int)).natAbs<=iT / 4:=by rw [Int.natAbs_natCast];exact Nat.le_trans (iC hg1) c2
     have hgz:(g:Int)≠0:=by omega
     have e1:=Bx.at1 0 _ rfl;have e2:=Bx.at1 1 _ rfl;have e3:=Bg.at1 0 _ rfl;have e4:=Bg.at1 1 _ rfl
     go_upto_region 6 with (first
      | (go_at_call 130;refine (yJ _ _ _ _ _ _ _ ix ig c1 c5 hgz).mono ?_;rintro e w5 ⟨n5,m5,_,_,rfl,i5,-,hb5⟩;obtain⟨a5,k5,q5,rfl,-,-⟩:=i5.shape)
      | (refine aA rfl _ (.tmp 2) (.tmp 24) rfl _ _ _ _ rfl rfl (Bx.on hb5) rfl aR i5.ones ?_;intro w6 R6 gr6))
     have hBx:=Bx.on hb5;replace i5:=i5.stored gr6 hBx (by decide);replace Bd:=(Bd.on hb5).grown gr6 (by omega);replace Bg:=(Bg.on hb5).grown gr6 (by omega);replace id:=(id.on hb5).stored gr6 hBx (by decide);replace ig:=(ig.on hb5).stored gr6 hBx (by decide);replace hB3':=(hB3'.on hb5).grown gr6 (by omega);have hltx:=hBx.lt;replace hb:=hb.trans ((hb5.mono hb.size).trans (aM gr6 (Nat.le_of_lt hltx) (Nat.le_refl _)));clear e1 e2 e3 e4 hb5 gr6 hBx Bx ix;have e1:=Bd.at1 0 _ rfl;have e2:=Bd.at1 1 _ rfl;have e3:=Bg.at1 0 _ rfl;have e4:=Bg.at1 1 _ rfl
     go_wp2_with (first
      | (go_at_call 130;refine (yJ _ _ _ _ _ _ _ id ig c2 c5 hgz).mono ?_;rintro e w7 ⟨n7,m7,_,_,rfl,i7,-,hb7⟩;obtain⟨a7,k7,q7,rfl,-,-⟩:=i7.shape)
      | (refine aA rfl _ (.tmp 3) (.tmp 31) rfl _ _ _ _ rfl rfl (Bd.on hb7) rfl aR i7.ones ?_;intro w8 R8 gr8))
     have hBd:=Bd.on hb7;have hltd:=hBd.lt;go_meet
     case rel=>exact⟨hb.trans ((hb7.mono hb.size).trans (aM gr8 (by omega) (by omega))),zH ⟨_,_,_,_,(R6.on hb7).grown gr8 (by omega),by rw [hn.out];exact (i5.on hb7).stored gr8 hBd (by decide)⟩,zH ⟨_,_,_,_,R8,by rw [hdn.out];exact i7.stored gr8 hBd (by decide)⟩,zH ((hB3'.on hb7).grown gr8 (by omega))⟩
   case rest =>
    obtain⟨hb,hB1,hB2,hB3⟩:=hcut;obtain⟨nx,ax,kx,cx,Bx,ix⟩:=hB1.out;obtain⟨nd,ad,kd,cd,Bd,id⟩:=hB2.out;have u1:=Bx.at1 0 _ rfl;have u2:=Bx.at1 1 _ rfl;have v1:=Bd.at1 0 _ rfl;have v2:=Bd.at1 1 _ rfl
    go_wp2_with (refine aA rfl _ (.tmp 4) (.tmp 36) rfl _ _ _ _ rfl rfl hB3.out rfl dL (by simp [Value.oneCell']) ?_;intro w5 R5 gr5)
    exact dM rfl rfl rfl R5 Tryz.underlying41 rfl dL (oZ hb (Below.refl _ _) (by omega) hB3.out ⟨_,_,_,_,_,_,_,_,rfl,ix,id⟩ gr5)
theorem dQ {n n':Bool} {a a':Option Addr} {k c k' c':Nat}:(#[Value.bool n,.slice a k c,.bool n',.slice a' k' c']).all (·.oneCell')=true:=by simp [Value.oneCell']
theorem Aq (p q:Rat):Rat.divInt (p.num*(q.den:Int)+q.num*(p.den:Int)) ((p.den:Int)*(q.den:Int))=p+q:=by
 rw [Rat.add_def',<- Rat.divInt_ofNat,Int.natCast_mul]
theorem Ar (p q:Rat):Rat.divInt (p.num*q.num) ((p.den:Int)*(q.den:Int))=p*q:=by
 rw [Rat.mul_def',<- Rat.divInt_ofNat,Int.natCast_mul]
theorem Jz (p q:Rat):Rat.divInt (p.num*(q.den:Int)) ((p.den:Int)*q.num)=p / q:=by
 rw [Rat.div_def,<- Rat.divInt_mul_divInt,<- Rat.inv_divInt q.num,Rat.num_divInt_den,Rat.num_divInt_den]
theorem GH (v1 v2:Value) (p q:Rat) (w:World) (h1:bV w v1 p) (h2:bV w v2 q) (k1:Rk p) (k2:Rk q) :
  Calls Tryz.prog 113 #[v1,v2] w (qY w (p+q)):=by
 rw [<- Aq];obtain⟨s1,a1,l1,c1,s2,a2,l2,c2,rfl,i1,i2⟩:=h1;obtain⟨s3,a3,l3,c3,s4,a4,l4,c4,rfl,i3,i4⟩:=h2;obtain⟨db,dz⟩:=Ao k1 k2;have cb:=qZ k1 k2;have cb':=qZ k2 k1;have sb:aI (p.num*(q.den:Int)+q.num*(p.den:Int)).natAbs<=iT / 4:=by have:=GD cb cb';unfold iT at *;omega
 have cb1:aI (p.num*(q.den:Int)).natAbs<=iT:=by unfold iT at *;omega
 have cb2:aI (q.num*(p.den:Int)).natAbs<=iT:=by unfold iT at *;omega
 go_enter Tryz.func113,Tryz.ntmps113
 go_upto_region 1 with (fail)
 refine rY fun W hb0 B1 B2 B3 hsz=>?_;replace i1:=i1.on hb0;replace i2:=i2.on hb0;replace i3:=i3.on hb0;replace i4:=i4.on hb0;refine iw mixed [.eq (.pointer (some ⟨w.heap.size,0,none⟩)),.eq (.agg #[.bool s1,.slice a1 l1 c1]),.eq (.pointer (some ⟨w.heap.size+1,2,none⟩)),.eq (.agg #[.bool s4,.slice a4 l4 c4]),.ints2 (p.num) ((q.den:Int)),.int ((p.num*(q.den:Int))),.eq (.pointer (some ⟨w.heap.size+1,0,none⟩)),.eq (.agg #[.bool s3,.slice a3 l3 c3]),.eq (.pointer (some ⟨w.heap.size,2,none⟩)),.eq (.agg #[.bool s2,.slice a2 l2 c2]),.ints2 (q.num) ((p.den:Int)),.int ((q.num*(p.den:Int))),.int ((p.num*(q.den:Int)+q.num*(p.den:Int))),.eq (.pointer (some ⟨w.heap.size,2,none⟩)),.eq (.agg #[.bool s2,.slice a2 l2 c2]),.eq (.pointer (some ⟨w.heap.size+1,2,none⟩)),.eq (.agg #[.bool s4,.slice a4 l4 c4]),.ints2 ((p.den:Int)) ((q.den:Int)),.int (((p.den:Int)*(q.den:Int))),.rat ((Rat.divInt (p.num*(q.den:Int)+q.num*(p.den:Int)) ((p.den:Int)*(q.den:Int))))] [5,6,7,8,9,10,11,12,13,14,15,16,17,18,19,20,21,22,23,24] rfl rfl rfl ⟨?_,?_,?_,?_,?_,?_,?_,?_,?_,?_,?_,?_,?_,?_,?_,?_,?_,?_,?_,?_,trivial⟩ ?_
 ·intro A w1 hA hb he;have h2:A.eval (.tmp 2)=.pointer (some ⟨w.heap.size,0,none⟩):=hA 2 rfl;refine aK rfl ?_;exact gZ
 ·intro A w1 hA hb he;have h5:A.eval (.tmp 5)=.pointer (some ⟨w.heap.size,0,none⟩):=he.1 rfl;have c0:=(B1.on hb).at1 0 _ rfl;have c1:=(B1.on hb).at1 1 _ rfl;refine aK rfl ?_;exact gZ
 ·intro A w1 hA hb he;have h3:A.eval (.tmp 3)=.pointer (some ⟨w.heap.size+1,0,none⟩):=hA 3 rfl;refine aK rfl ?_;exact gZ
 ·intro A w1 hA hb he;have h7:A.eval (.tmp 7)=.pointer (some ⟨w.heap.size+1,2,none⟩):=he.1 rfl;have c0:=(B2.on hb).at1 2 _ rfl;have c1:=(B2.on hb).at1 3 _ rfl;refine aK rfl ?_;exact gZ
 ·intro A w1 hA hb he;have h6:A.eval (.tmp 6)=.agg #[.bool s1,.slice a1 l1 c1]:=he.1 rfl;have h8:A.eval (.tmp 8)=.agg #[.bool s4,.slice a4 l4 c4]:=he.2.1 rfl;have jx:=i1.on hb;obtain⟨_,_,_,ex,-⟩:=jx.shape;cases ex;have jy:=i4.on hb;obtain⟨_,_,_,ey,-⟩:=jy.shape;cases ey;exact kZ jx jy (by generalize A.eval=ev at *;go_simp)
 ·intro A w1 hA hb he;have f9:((.ints2 (p.num) ((q.den:Int)):bU)).p (A.eval (.tmp 9)) w1:=he.1 rfl;obtain⟨v9,h9⟩:∃ v,A.eval (.tmp 9)=v:=⟨_,rfl⟩;rw [h9] at f9;have hf0:=eF A 84;refine cO (f:=84) (args:=#[v9]) ?_ ?_
  ·exact gZ
  ·refine (mq _ _ _ _ f9 k1.num k2.den).mono ?_;rintro e w' ⟨neg,m,rfl,hi,hb⟩;exact⟨_,rfl,hb,neg,m,rfl,hi⟩
 ·intro A w1 hA hb he;have h3:A.eval (.tmp 3)=.pointer (some ⟨w.heap.size+1,0,none⟩):=hA 3 rfl;refine aK rfl ?_;exact gZ
 ·intro A w1 hA hb he;have h11:A.eval (.tmp 11)=.pointer (some ⟨w.heap.size+1,0,none⟩):=he.1 rfl;have c0:=(B2.on hb).at1 0 _ rfl;have c1:=(B2.on hb).at1 1 _ rfl;refine aK rfl ?_;exact gZ
 ·intro A w1 hA hb he;have h2:A.eval (.tmp 2)=.pointer (some ⟨w.heap.size,0,none⟩):=hA 2 rfl;refine aK rfl ?_;exact gZ
 ·intro A w1 hA hb he;have h13:A.eval (.tmp 13)=.pointer (some ⟨w.heap.size,2,none⟩):=he.1 rfl;have c0:=(B1.on hb).at1 2 _ rfl;have c1:=(B1.on hb).at1 3 _ rfl;refine aK rfl ?_;exact gZ
 ·intro A w1 hA hb he;have h12:A.eval (.tmp 12)=.agg #[.bool s3,.slice a3 l3 c3]:=he.1 rfl;have h14:A.eval (.tmp 14)=.agg #[.bool s2,.slice a2 l2 c2]:=he.2.1 rfl;have jx:=i3.on hb;obtain⟨_,_,_,ex,-⟩:=jx.shape;cases ex;have jy:=i2.on hb;obtain⟨_,_,_,ey,-⟩:=jy.shape;cases ey;exact kZ jx jy (by generalize A.eval=ev at *;go_simp)
 ·intro A w1 hA hb he;have f15:((.ints2 (q.num) ((p.den:Int)):bU)).p (A.eval (.tmp 15)) w1:=he.1 rfl;obtain⟨v15,h15⟩:∃ v,A.eval (.tmp 15)=v:=⟨_,rfl⟩;rw [h15] at f15;have hf0:=eF A 84;refine cO (f:=84) (args:=#[v15]) ?_ ?_
  ·exact gZ
  ·refine (mq _ _ _ _ f15 k2.num k1.den).mono ?_;rintro e w' ⟨neg,m,rfl,hi,hb⟩;exact⟨_,rfl,hb,neg,m,rfl,hi⟩
 ·intro A w1 hA hb he;have f10:((.int ((p.num*(q.den:Int))):bU)).p (A.eval (.tmp 10)) w1:=he.1 rfl;obtain⟨v10,h10⟩:∃ v,A.eval (.tmp 10)=v:=⟨_,rfl⟩;rw [h10] at f10;have f16:((.int ((q.num*(p.den:Int))):bU)).p (A.eval (.tmp 16)) w1:=he.2.1 rfl;obtain⟨v16,h16⟩:∃ v,A.eval (.tmp 16)=v:=⟨_,rfl⟩;rw [h16] at f16;have hf0:=eF A 131;refine cO (f:=131) (args:=#[v10,v16]) ?_ ?_
  ·exact gZ
  ·obtain⟨n10,m10,rfl,i10⟩:=f10;obtain⟨n16,m16,rfl,i16⟩:=f16;refine (K7 _ _ _ _ _ _ _ i10 i16 cb1 cb2).mono ?_;rintro e w' ⟨neg,m,rfl,hi,hb⟩;exact⟨_,rfl,hb,neg,m,rfl,hi⟩
 ·intro A w1 hA hb he;have h2:A.eval (.tmp 2)=.pointer (some ⟨w.heap.size,0,none⟩):=hA 2 rfl;refine aK rfl ?_;exact gZ
 ·intro A w1 hA hb he;have h18:A.eval (.tmp 18)=.pointer (some ⟨w.heap.size,2,none⟩):=he.1 rfl;have c0:=(B1.on hb).at1 2 _ rfl;have c1:=(B1.on hb).at1 3 _ rfl;refine aK rfl ?_;exact gZ
 ·intro A w1 hA hb he;have h3:A.eval (.tmp 3)=.pointer (some ⟨w.heap.size+1,0,none⟩):=hA 3 rfl;refine aK rfl ?_;exact gZ
 ·intro A w1 hA hb he;have h20:A.eval (.tmp 20)=.pointer (some ⟨w.heap.size+1,2,none⟩):=he.1 rfl;have c0:=(B2.on hb).at1 2 _ rfl;have c1:=(B2.on hb).at1 3 _ rfl;refine aK rfl ?_;exact gZ
 ·intro A w1 hA hb he;have h19:A.eval (.tmp 19)=.agg #[.bool s2,.slice a2 l2 c2]:=he.1 rfl;have h21:A.eval (.tmp 21)=.agg #[.bool s4,.slice a4 l4 c4]:=he.2.1 rfl;have jx:=i2.on hb;obtain⟨_,_,_,ex,-⟩:=jx.shape;cases ex;have jy:=i4.on hb;obtain⟨_,_,_,ey,-⟩:=jy.shape;cases ey;exact kZ jx jy (by generalize A.eval=ev at *;go_simp)
 ·intro A w1 hA hb he;have f22:((.ints2 ((p.den:Int)) ((q.den:Int)):bU)).p (A.eval (.tmp 22)) w1:=he.1 rfl;obtain⟨v22,h22⟩:∃ v,A.eval (.tmp 22)=v:=⟨_,rfl⟩;rw [h22] at f22;have hf0:=eF A 84;refine cO (f:=84) (args:=#[v22]) ?_ ?_
  ·exact gZ
  ·refine (mq _ _ _ _ f22 k1.den k2.den).mono ?_;rintro e w' ⟨neg,m,rfl,hi,hb⟩;exact⟨_,rfl,hb,neg,m,rfl,hi⟩
 ·intro A w1 hA hb he;have f17:((.int ((p.num*(q.den:Int)+q.num*(p.den:Int))):bU)).p (A.eval (.tmp 17)) w1:=he.1 rfl;obtain⟨v17,h17⟩:∃ v,A.eval (.tmp 17)=v:=⟨_,rfl⟩;rw [h17] at f17;have f23:((.int (((p.den:Int)*(q.den:Int))):bU)).p (A.eval (.tmp 23)) w1:=he.2.1 rfl;obtain⟨v23,h23⟩:∃ v,A.eval (.tmp 23)=v:=⟨_,rfl⟩;rw [h23] at f23;have hf0:=eF A 110;refine cO (f:=110) (args:=#[v17,v23]) ?_ ?_
  ·exact gZ
  ·obtain⟨n17,m17,rfl,i17⟩:=f17;obtain⟨n23,m23,rfl,i23⟩:=f23;refine (uN _ _ _ _ _ _ _ i17 i23 sb db dz).mono ?_;rintro e w' ⟨v,rfl,hi,hb⟩;exact⟨_,rfl,hb,hi⟩
 ·intro w1 hb;simp only [ou,bU.eq,bU.u32,bU.int,bU.ints2,bU.rat,bU.of,lZ];rintro _ - _ - _ - _ - _ - _ - _ - _ ⟨t1,b1,g1,d1,t2,b2,g2,d2,rfl,j1,j2⟩;go_frame;refine aA rfl _ (.tmp 4) (.tmp 24) rfl _ _ _ _ rfl rfl (B3.on hb) rfl dL dQ ?_;intro w2 R gr;go_wp2;exact dM rfl rfl rfl R Tryz.underlying41 rfl dL (oZ hb0 hb (by omega) (B3.on hb) ⟨_,_,_,_,_,_,_,_,rfl,j1,j2⟩ gr)
theorem Au (v1 v2:Value) (p q:Rat) (w:World) (h1:bV w v1 p) (h2:bV w v2 q) (k1:Rk p) (k2:Rk q) :
  Calls Tryz.prog 88 #[v1,v2] w (qY w (p*q)):=by
 rw [<- Ar];obtain⟨s1,a1,l1,c1,s2,a2,l2,c2,rfl,i1,i2⟩:=h1;obtain⟨s3,a3,l3,c3,s4,a4,l4,c4,rfl,i3,i4⟩:=h2;obtain⟨db,dz⟩:=Ao k1 k2;have sb:aI (p.num*q.num).natAbs<=iT / 4:=by have:=jV p.num.natAbs q.num.natAbs;have:=k1.2;have:=k2.2;rw [Int.natAbs_mul];unfold iT at *;omega
 go_enter Tryz.func88,Tryz.ntmps88
 go_upto_region 1 with (fail)
 refine rY fun W hb0 B1 B2 B3 hsz=>?_;replace i1:=i1.on hb0;replace i2:=i2.on hb0;replace i3:=i3.on hb0;replace i4:=i4.on hb0;refine iw mixed [.eq (.pointer (some ⟨w.heap.size,0,none⟩)),.eq (.agg #[.bool s1,.slice a1 l1 c1]),.eq (.pointer (some ⟨w.heap.size+1,0,none⟩)),.eq (.agg #[.bool s3,.slice a3 l3 c3]),.ints2 (p.num) (q.num),.int ((p.num*q.num)),.eq (.pointer (some ⟨w.heap.size,2,none⟩)),.eq (.agg #[.bool s2,.slice a2 l2 c2]),.eq (.pointer (some ⟨w.heap.size+1,2,none⟩)),.eq (.agg #[.bool s4,.slice a4 l4 c4]),.ints2 ((p.den:Int)) ((q.den:Int)),.int (((p.den:Int)*(q.den:Int))),.rat ((Rat.divInt (p.num*q.num) ((p.den:Int)*(q.den:Int))))] [5,6,7,8,9,10,11,12,13,14,15,16,17] rfl rfl rfl ⟨?_,?_,?_,?_,?_,?_,?_,?_,?_,?_,?_,?_,?_,trivial⟩ ?_
 ·intro A w1 hA hb he;have h2:A.eval (.tmp 2)=.pointer (some ⟨w.heap.size,0,none⟩):=hA 2 rfl;refine aK rfl ?_;exact gZ
 ·intro A w1 hA hb he;have h5:A.eval (.tmp 5)=.pointer (some ⟨w.heap.size,0,none⟩):=he.1 rfl;have c0:=(B1.on hb).at1 0 _ rfl;have c1:=(B1.on hb).at1 1 _ rfl;refine aK rfl ?_;exact gZ
 ·intro A w1 hA hb he;have h3:A.eval (.tmp 3)=.pointer (some ⟨w.heap.size+1,0,none⟩):=hA 3 rfl;refine aK rfl ?_;exact gZ
 ·intro A w1 hA hb he;have h7:A.eval (.tmp 7)=.pointer (some ⟨w.heap.size+1,0,none⟩):=he.1 rfl;have c0:=(B2.on hb).at1 0 _ rfl;have c1:=(B2.on hb).at1 1 _ rfl;refine aK rfl ?_;exact gZ
 ·intro A w1 hA hb he;have h6:A.eval (.tmp 6)=.agg #[.bool s1,.slice a1 l1 c1]:=he.1 rfl;have h8:A.eval (.tmp 8)=.agg #[.bool s3,.slice a3 l3 c3]:=he.2.1 rfl;have jx:=i1.on hb;obtain⟨_,_,_,ex,-⟩:=jx.shape;cases ex;have jy:=i3.on hb;obtain⟨_,_,_,ey,-⟩:=jy.shape;cases ey;exact kZ jx jy (by generalize A.eval=ev at *;go_simp)
 ·intro A w1 hA hb he;have f9:((.ints2 (p.num) (q.num):bU)).p (A.eval (.tmp 9)) w1:=he.1 rfl;obtain⟨v9,h9⟩:∃ v,A.eval (.tmp 9)=v:=⟨_,rfl⟩;rw [h9] at f9;have hf0:=eF A 84;refine cO (f:=84) (args:=#[v9]) ?_ ?_
  ·exact gZ
  ·refine (mq _ _ _ _ f9 k1.num k2.num).mono ?_;rintro e w' ⟨neg,m,rfl,hi,hb⟩;exact⟨_,rfl,hb,neg,m,rfl,hi⟩
 ·intro A w1 hA hb he;have h2:A.eval (.tmp 2)=.pointer (some ⟨w.heap.size,0,none⟩):=hA 2 rfl;refine aK rfl ?_;exact gZ
 ·intro A w1 hA hb he;have h11:A.eval (.tmp 11)=.pointer (some ⟨w.heap.size,2,none⟩):=he.1 rfl;have c0:=(B1.on hb).at1 2 _ rfl;have c1:=(B1.on hb).at1 3 _ rfl;refine aK rfl ?_;exact gZ
 ·intro A w1 hA hb he;have h3:A.eval (.tmp 3)=.pointer (some ⟨w.heap.size+1,0,none⟩):=hA 3 rfl;refine aK rfl ?_;exact gZ
 ·intro A w1 hA hb he;have h13:A.eval (.tmp 13)=.pointer (some ⟨w.heap.size+1,2,none⟩):=he.1 rfl;have c0:=(B2.on hb).at1 2 _ rfl;have c1:=(B2.on hb).at1 3 _ rfl;refine aK rfl ?_;exact gZ
 ·intro A w1 hA hb he;have h12:A.eval (.tmp 12)=.agg #[.bool s2,.slice a2 l2 c2]:=he.1 rfl;have h14:A.eval (.tmp 14)=.agg #[.bool s4,.slice a4 l4 c4]:=he.2.1 rfl;have jx:=i2.on hb;obtain⟨_,_,_,ex,-⟩:=jx.shape;cases ex;have jy:=i4.on hb;obtain⟨_,_,_,ey,-⟩:=jy.shape;cases ey;exact kZ jx jy (by generalize A.eval=ev at *;go_simp)
 ·intro A w1 hA hb he;have f15:((.ints2 ((p.den:Int)) ((q.den:Int)):bU)).p (A.eval (.tmp 15)) w1:=he.1 rfl;obtain⟨v15,h15⟩:∃ v,A.eval (.tmp 15)=v:=⟨_,rfl⟩;rw [h15] at f15;have hf0:=eF A 84;refine cO (f:=84) (args:=#[v15]) ?_ ?_
  ·exact gZ
  ·refine (mq _ _ _ _ f15 k1.den k2.den).mono ?_;rintro e w' ⟨neg,m,rfl,hi,hb⟩;exact⟨_,rfl,hb,neg,m,rfl,hi⟩
 ·intro A w1 hA hb he;have f10:((.int ((p.num*q.num)):bU)).p (A.eval (.tmp 10)) w1:=he.1 rfl;obtain⟨v10,h10⟩:∃ v,A.eval (.tmp 10)=v:=⟨_,rfl⟩;rw [h10] at f10;have f16:((.int (((p.den:Int)*(q.den:Int))):bU)).p (A.eval (.tmp 16)) w1:=he.2.1 rfl;obtain⟨v16,h16⟩:∃ v,A.eval (.tmp 16)=v:=⟨_,rfl⟩;rw [h16] at f16;have hf0:=eF A 110;refine cO (f:=110) (args:=#[v10,v16]) ?_ ?_
  ·exact gZ
  ·obtain⟨n10,m10,rfl,i10⟩:=f10;obtain⟨n16,m16,rfl,i16⟩:=f16;refine (uN _ _ _ _ _ _ _ i10 i16 sb db dz).mono ?_;rintro e w' ⟨v,rfl,hi,hb⟩;exact⟨_,rfl,hb,hi⟩
 ·intro w1 hb;simp only [ou,bU.eq,bU.u32,bU.int,bU.ints2,bU.rat,bU.of,lZ];rintro _ - _ - _ - _ - _ ⟨t1,b1,g1,d1,t2,b2,g2,d2,rfl,j1,j2⟩;go_frame;refine aA rfl _ (.tmp 4) (.tmp 17) rfl _ _ _ _ rfl rfl (B3.on hb) rfl dL dQ ?_;intro w2 R gr;go_wp2;exact dM rfl rfl rfl R Tryz.underlying41 rfl dL (oZ hb0 hb (by omega) (B3.on hb) ⟨_,_,_,_,_,_,_,_,rfl,j1,j2⟩ gr)
theorem uf {x y:Int}:(dW x y == 0)=decide (x=y):=by
 unfold dW;split
 ·simp;omega
 ·split
  ·simp;omega
  ·simp;omega
theorem nR (v:Value) (q:Rat) (w:World) (h:bV w v q):Calls Tryz.prog 86 #[v] w (rO w (.int .i64 (iV q.num))):=by
 obtain⟨s1,a1,l1,c1,s2,a2,l2,c2,rfl,i1,i2⟩:=h
 go_enter Tryz.func86,Tryz.ntmps86
 go_upto_region 1 with (fail)
 refine jI fun W hb0 B1 hsz=>?_;have e1:=B1.at1 0 _ rfl;have e2:=B1.at1 1 _ rfl
 go_wp2_with (go_at_call 109;refine (Af _ _ _ _ (i1.on hb0)).mono ?_;rintro e w1 ⟨rfl,hb1⟩)
 go_ret;exact⟨rfl,hb0.trans (hb1.mono hb0.size)⟩
theorem ru (n:Int) (w:World) (h1:-4611686018427387904<=n) (h2:n<=4611686018427387904):Calls Tryz.prog 47 #[.int .i64 n] w (qY w n):=by
 go_enter Tryz.func47,Tryz.ntmps47
 go_upto_region 1 with (fail)
 refine jI fun W hb0 B1 hsz=>?_
 go_wp2_with (first
  | (go_at_call_of 85 (Value.int IntKind.i64 1);refine (Ag 1 _ (by omega) (by omega)).mono ?_;rintro e w2 hret;obtain⟨n2,a2,l2,c2,rfl,i2,hb2⟩:=fK hret;clear hret)
  | (go_at_call 85;refine (Ag n _ h1 h2).mono ?_;rintro e w1 hret;obtain⟨n1,a1,l1,c1,rfl,i1,hb1⟩:=fK hret;clear hret)
  | (refine aA rfl _ (.tmp 2) (.tmp 6) rfl _ _ _ _ rfl rfl ((B1.on hb1).on hb2) rfl dL dQ ?_;intro w3 R gr))
 exact dM rfl rfl rfl R Tryz.underlying41 rfl dL (oZ (hb0.trans (hb1.mono hb0.size)) hb2 (Nat.le_refl _) ((B1.on hb1).on hb2) ⟨_,_,_,_,_,_,_,_,rfl,by rw [Rat.num_intCast];exact i1.on hb2,by rw [Rat.den_intCast];exact i2⟩ gr)
end Go.Proofs.YtopclbeomcggiaaGreat
