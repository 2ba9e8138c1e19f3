/- The integer package of the program: Mul. -/
import Derived.Test.YtopclbeomcggiaaGreatW08
import Derived.Deep.Cut
set_option linter.unusedVariables false
set_option linter.unusedSimpArgs false
set_option maxHeartbeats 16000000
set_option maxRecDepth 100000
section
namespace Go.Proofs.YtopclbeomcggiaaGreat
open Go.RowKit Q
theorem kN (xs:List Int) (j:Nat) (v:Int) (h:j<xs.length):ah (xs.set j v)=ah xs+bL ^ j*(v-xs.getD j 0):=by
 induction xs generalizing j with
 | nil=>simp at h
 | cons x xs ih =>
  cases j with
  | zero=>simp [ah];omega
  | succ j =>
   have:=ih j (by simpa using h);simp only [List.set_cons_succ,ah,this,Int.pow_succ,List.getD_cons_succ];grind
theorem dN (l:List Int) (i j:Nat) (x:Int) (h:i≠j):(l.set i x).getD j 0=l.getD j 0:=by
 simp [List.getD_eq_getElem?_getD,List.getElem?_set_ne h]
def qX (A B:List Int) (i:Nat) (xs:List Int):Prop :=
 xs.length=A.length+B.length/\aH xs/\ah xs=ah (A.take i)*ah B/\∀ j,i+B.length<=j->xs.getD j 0=0
def Ah (A B:List Int) (i k:Nat) (xs:List Int) (c:Int):Prop :=
 xs.length=A.length+B.length/\aH xs/\0<=c/\c<4294967296/\ah xs+bL ^ (i+k)*c=ah (A.take i)*ah B+bL ^ i*(A.getD i 0*ah (B.take k))/\∀ j,i+B.length<=j->xs.getD j 0=0
theorem qX.start (A B:List Int):qX A B 0 (List.replicate (A.length+B.length) 0) :=
 ⟨by simp,jM _,by simp [ah,nZ],fun j _=>by
  rw [List.getD_eq_getElem?_getD,List.getElem?_replicate];split <;> rfl⟩
theorem qX.inner {A B:List Int} {i:Nat} {xs:List Int} (h:qX A B i xs):Ah A B i 0 xs 0 :=
 ⟨h.1,h.2.1,by omega,by omega,by rw [h.2.2.1];simp [ah],h.2.2.2⟩
theorem Ah.step {A B:List Int} {i k:Nat} {xs:List Int} {c:Int} (h:Ah A B i k xs c) (LA:aH A) (LB:aH B) (hi:i<A.length) (hk:k<B.length) :
  Ah A B i (k+1) (xs.set (i+k) ((c+(A.getD i 0*B.getD k 0+xs.getD (i+k) 0)) % 4294967296)) ((c+(A.getD i 0*B.getD k 0+xs.getD (i+k) 0)) / 4294967296):=by
 obtain⟨h1,h2,h3,h4,h5,h6⟩:=h;have a1:=LA.getD i;have a2:=LB.getD k;have a3:=h2.getD (i+k);rw [aT] at a1 a2 a3;have hp:=prod_bound (A.getD i 0) (B.getD k 0) a1.1 (by omega) a2.1 (by omega);refine⟨by simpa using h1,fJ h2 _ (by rw [aT];omega),by omega,by omega,?_,fun j hj=>by rw [dN _ _ _ _ (by omega)];exact h6 j hj⟩;rw [kN _ _ _ (by omega),aL];have e:=Int.mul_ediv_add_emod (c+(A.getD i 0*B.getD k 0+xs.getD (i+k) 0)) 4294967296;generalize (c+(A.getD i 0*B.getD k 0+xs.getD (i+k) 0)) % 4294967296=r at *;generalize (c+(A.getD i 0*B.getD k 0+xs.getD (i+k) 0)) / 4294967296=q at *;rw [<- aT] at e;have e2:bL ^ (i+(k+1))=bL ^ (i+k)*bL:=by rw [<- Nat.add_assoc,Int.pow_succ]
 have e3:bL ^ (i+k)=bL ^ i*bL ^ k:=Int.pow_add ..;rw [e2];have:bL ^ (i+k)*(c+(A.getD i 0*B.getD k 0+xs.getD (i+k) 0))=bL ^ (i+k)*(bL*q+r):=by rw [e]
 have h5':ah xs=ah (A.take i)*ah B+bL ^ i*(A.getD i 0*ah (B.take k))-bL ^ (i+k)*c:=by omega
 rw [h5'];rw [e3] at *;generalize bL ^ i=P at *;generalize bL ^ k=R at *;grind
theorem Ah.done {A B:List Int} {i:Nat} {xs:List Int} {c:Int} (h:Ah A B i B.length xs c) (hi:i<A.length):qX A B (i+1) (xs.set (i+B.length) c):=by
 obtain⟨h1,h2,h3,h4,h5,h6⟩:=h;refine⟨by simpa using h1,fJ h2 _ (by rw [aT];omega),?_,fun j hj=>by rw [dN _ _ _ _ (by omega)];exact h6 j (by omega)⟩;rw [kN _ _ _ (by omega),h6 _ (Nat.le_refl _),aL];rw [List.take_of_length_le (Nat.le_refl _)] at h5;grind
theorem qX.done {A B:List Int} {xs:List Int} (h:qX A B A.length xs):ah xs=ah A*ah B:=by
 rw [h.2.2.1,List.take_of_length_le (Nat.le_refl _)]
theorem O6 (n1 n2:Bool) (ao1 ao2:Option Addr) (cap1 cap2:Nat) (A B:List Int) (w:World) (bA:A.length<=34359738368) (bB:B.length<=34359738368) (LA:aH A) (LB:aH B) (mA:At uT w ao1 (uc A)) (mB:At uT w ao2 (uc B)) :
  Calls Tryz.prog 111 #[.agg #[.bool n1,.slice ao1 A.length cap1],.agg #[.bool n2,.slice ao2 B.length cap2]] w (lI w (fZ (n1 != n2) (ah A*ah B))):=by
 go_enter Tryz.func111,Tryz.ntmps111
 go_upto_region 1 with (fail)
 refine rY fun W hb0 B1 B2 B3 hsz=>?_;have c1:=B1.at1 1 _ rfl;have c2:=B2.at1 1 _ rfl
 go_wp2_with (at_make;refine bQ rfl _ _ _ rfl _ (.int .u32 0) 1 4 Tryz.underlying37 bM rfl rfl .i64 .i64 _ _ (A.length+B.length) rfl rfl (by omega) (by omega) (by omega) (by omega) ?_;intro w1 own1 gr1;have c3:=(B1.keep gr1 B1.lt).at1 1 _ rfl)
 rw [iZ] at own1;clear c1 c2 c3
 go_loopw [22] (fun i wr=>∃ (k:Nat) (xs:List Int),k<=A.length/\i=.int .i64 k/\Hid (qX A B k xs)/\Hid (Blk wr W.heap.size uT (uc xs))/\Below W.heap.size W wr) (fun i _=>A.length-(intOf i).toNat)
 case atStart=>exact⟨0,_,Nat.zero_le _,rfl,zH (qX.start A B),zH own1,gr1⟩
 case round =>
  obtain⟨i,xs,hi,rfl,hinv,hblk,hb⟩:=hrel;have d2:=(B2.keep hb B2.lt).at1 1 _ rfl;by_cases hlt:i<A.length
  ·obtain⟨p1,o1,e1,hcA⟩:=mA (by rw [eQ];omega);have hcA':=((hcA.on hb0).keep hb (hcA.on hb0).lt).ucell i hlt;have E1:=zH e1;have a1:=(LA.getD i).1;have a1':A.getD i 0<4294967296:=(LA.getD i).2;have HX:Hid (∃ x,x=A.getD i 0):=⟨_,rfl⟩;obtain⟨x,hx⟩:=HX.out;rw [<- hx] at hcA' a1 a1';replace hx:=zH hx;clear e1 hcA HX
   go_wp2_with (refine aj rfl (.tmp 20) (.tmp 22) _ rfl _ Tryz.underlying37 _ _ _ bM _ _ _ rfl _ _ rfl i rfl hlt p1 o1 E1.out ?_;rw [Nat.mul_one])
   obtain⟨wo,rfl⟩:∃ wo:World,wo=wr:=⟨_,rfl⟩
   go_loopw [8,30] (fun c q wr=>∃ (k:Nat) (xs:List Int) (cy:Int),k<=B.length/\q=.int .i64 k/\c=.int .u64 cy/\Hid (Ah A B i k xs cy)/\Hid (Blk wr W.heap.size uT (uc xs))/\Below W.heap.size W wr) (fun _ q _=>B.length-(intOf q).toNat)
   case atStart=>exact⟨0,xs,0,Nat.zero_le _,rfl,rfl,zH hinv.out.inner,hblk,hb⟩
   case round =>
    clear hinv hblk d2 hcA' hb;obtain⟨k,ys,cy,hk,rfl,rfl,hin,hblk,hb⟩:=hrel;have q1:=hin.out.2.2.1;have q2:=hin.out.2.2.2.1;have HL:=zH hin.out.1;by_cases hkt:k<B.length
    ·obtain⟨p2,o2,e2,hcB⟩:=mB (by rw [eQ];omega);have hcB':=((hcB.on hb0).keep hb (hcB.on hb0).lt).ucell k hkt;have E2:=zH e2;have hco:=hblk.out.ucell (i+k) (by have:=HL.out;omega);have hfo:=hblk.out.frozen (i+k);have a2:=(LB.getD k).1;have a2':B.getD k 0<4294967296:=(LB.getD k).2;have a3:=(hin.out.2.1.getD (i+k)).1;have a3':ys.getD (i+k) 0<4294967296:=(hin.out.2.1.getD (i+k)).2;have HST:=zH (hin.out.step LA LB hlt hkt);rw [<- hx.out] at HST;generalize B.getD k 0=y at *;generalize ys.getD (i+k) 0=z at *;obtain⟨hp0,hp1⟩:=prod_bound x y a1 (by omega) a2 (by omega);clear e2 hcB
     go_wp2_with (refine aj rfl (.tmp 28) (.tmp 30) _ rfl _ Tryz.underlying37 _ _ _ bM _ _ _ rfl _ _ rfl k rfl hkt p2 o2 E2.out ?_;rw [Nat.mul_one])
     go_roundw
     case rel=>exact⟨k+1,_,_,by omega,by go_num,rfl,HST,zH (hblk.out.uset (i+k) _),hb.setCell (Nat.le_refl _) _⟩
     case measure=>simp [intOf];omega
    ·obtain rfl:k=B.length:=by omega
     have d2:=(B2.keep hb B2.lt).at1 1 _ rfl;have hco:=hblk.out.ucell (i+B.length) (by have:=HL.out;omega);have hfo:=hblk.out.frozen (i+B.length);have HD:=zH (hin.out.done hlt);generalize ys.getD (i+B.length) 0=z at *;go_wp2;go_roundw
     case rel=>exact⟨i+1,_,by omega,by go_num,HD,zH (by have:=hblk.out.uset (i+B.length) cy;exact this),hb.setCell (Nat.le_refl _) _⟩
     case measure=>simp [intOf];omega
  ·obtain rfl:i=A.length:=by omega
   have d1:=(B1.keep hb B1.lt).at1 0 _ rfl;have d2':=(B2.keep hb B2.lt).at1 0 _ rfl
   have hu:dH wr (.slice (some ⟨W.heap.size,0,none⟩) (A.length+B.length) (A.length+B.length)) xs:=by
    have:=hblk.out.u32s hinv.out.2.1;rw [hinv.out.1] at this;exact this
   have HV:=zH hinv.out.done;have hxl:xs.length<=137438953472:=by rw [hinv.out.1];omega
   have hb0':=hb0.trans (hb.mono hb0.size);have B3':=B3.keep hb B3.lt;clear hinv hblk
   go_wp2_with fail
   refine (kM (n1 != n2) _ xs _ hu hxl).mono ?_;rintro e w2 ⟨neg,m,rfl,hi,hb2⟩;rw [HV.out] at hi
   go_wp2_with (refine aA rfl _ (.tmp 4) (.tmp 76) rfl _ _ _ _ rfl rfl (B3'.on hb2) rfl aR hi.ones ?_;intro w3 R gr)
   exact dM rfl rfl rfl R Tryz.underlying39 rfl aR (jE hb0' hb2 (by omega) (B3'.on hb2) hi gr)
theorem K9 (n1 n2:Bool) (x y:Int):fZ (n1 != n2) (x*y)=fZ n1 x*fZ n2 y:=by
 cases n1 <;> cases n2 <;> simp [fZ] <;> grind
theorem La (n1 n2:Bool) (m1 m2:Value) (z1 z2:Int) (w:World) (h1:aZ w n1 m1 z1) (h2:aZ w n2 m2 z2) (c1:aI z1.natAbs<=iT) (c2:aI z2.natAbs<=iT) :
  Calls Tryz.prog 111 #[.agg #[.bool n1,m1],.agg #[.bool n2,m2]] w (lI w (z1*z2)):=by
 obtain⟨l1,ao1,cap1,rfl,⟨_,_,e,_,L1,m1⟩,b1,_,e1⟩:=fU h1 c1;obtain⟨l2,ao2,cap2,rfl,⟨_,_,e',_,L2,m2⟩,b2,_,e2⟩:=fU h2 c2;cases e;cases e';rw [e1,e2,<- K9];exact O6 n1 n2 ao1 ao2 cap1 cap2 l1 l2 w b1 b2 L1 L2 m1 m2
end Go.Proofs.YtopclbeomcggiaaGreat
end
section
namespace Q
open Go.Proofs.YtopclbeomcggiaaGreat
def vL (A:List Int) (P:Int) (i:Nat) (xs:List Int):Prop :=
 xs.length=A.length+1/\aH xs/\ah xs=ah (A.take i)*P/\(∀ j,i<j->xs.getD j 0=0)/\xs.getD i 0<P
theorem vL.start (A:List Int) {P:Int} (hP:0<P):vL A P 0 (List.replicate (A.length+1) 0):=by
 have hz:∀ j,(List.replicate (A.length+1) (0:Int)).getD j 0=0:=fun j=>by
  rw [List.getD_eq_getElem?_getD,List.getElem?_replicate];split <;> rfl
 exact⟨by simp,jM _,by simp [ah,nZ],fun j _=>hz j,by rw [hz];exact hP⟩
theorem vL.step {A:List Int} {P R:Int} {i:Nat} {xs:List Int} (h:vL A P i xs) (LA:aH A) (hi:i<A.length) (hP:0<P) (hR:0<R) (hPR:P*R=4294967296) :
  let x:=A.getD i 0
  0<=x*P/\x*P<18446744073709551616/\xs.getD i 0+x*P % 4294967296<4294967296/\0<=xs.getD i 0/\P∣x*P % 4294967296/\xs.getD (i+1) 0=0/\x*P / 4294967296<P/\0<=x*P / 4294967296 /\
  vL A P (i+1) ((xs.set i (xs.getD i 0+x*P % 4294967296)).set (i+1) (x*P / 4294967296)):=by
 intro x;obtain⟨h1,h2,h3,h4,h5⟩:=h;have ax:=LA.getD i;have ay:=h2.getD i;rw [aT] at ax ay;obtain⟨y,hy⟩:∃ y,y=xs.getD i 0:=⟨_,rfl⟩;rw [<- hy] at h5 ay ⊢;have hx:x=A.getD i 0:=rfl;rw [<- hx] at ax;have hx0:0<=x*P:=Int.mul_nonneg ax.1 (by omega)
 have hPle:P<=4294967296:=by
  have:P*1<=P*R:=Int.mul_le_mul_of_nonneg_left (by omega) (by omega);omega
 have hx1:x*P<=4294967295*P:=Int.mul_le_mul_of_nonneg_right (by omega) (by omega)
 have hdv:P∣x*P % 4294967296:=by
  rw [<- hPR];refine⟨x % R,?_⟩;rw [Int.mul_comm x P,Int.mul_emod_mul_of_pos _ _ hP]
 have hlo:x*P % 4294967296<=4294967296-P:=by
  obtain⟨k,hk⟩:=hdv;have hlt:x*P % 4294967296<4294967296:=Int.emod_lt_of_pos _ (by omega);rw [hk] at hlt ⊢
  have hkR:k<R:=by
   rw [<- hPR] at hlt;exact Int.lt_of_mul_lt_mul_left hlt (by omega)
  have:P*(k+1)<=P*R:=Int.mul_le_mul_of_nonneg_left (by omega) (by omega);rw [hPR,Int.mul_add] at this;omega
 have hhi:x*P / 4294967296<P:=by
  apply Int.ediv_lt_of_lt_mul (by omega);have:4294967295*P<P*4294967296:=by omega
  omega
 have hhi0:0<=x*P / 4294967296:=Int.ediv_nonneg hx0 (by omega);have hz:=h4 (i+1) (by omega);have hr0:0<=x*P % 4294967296:=Int.emod_nonneg _ (by omega);refine⟨hx0,by omega,by omega,ay.1,hdv,hz,hhi,hhi0,by simpa using h1,fJ (fJ h2 _ (by rw [aT];omega)) _ (by rw [aT];omega),?_,fun j hj=>?_,?_⟩
 ·rw [kN _ _ _ (by simp;omega),kN _ _ _ (by omega),aL,h3,dN _ _ _ _ (by omega),hz,<- hx,<- hy];have e:=Int.mul_ediv_add_emod (x*P) 4294967296;generalize x*P % 4294967296=lo at *;generalize x*P / 4294967296=hi at *;have e2:bL ^ (i+1)=bL ^ i*4294967296:=by rw [Int.pow_succ,aT]
  rw [e2];generalize bL ^ i=Q at *;generalize ah (A.take i)=L at *;have:Q*(x*P)=Q*(4294967296*hi+lo):=by rw [e]
  grind
 ·rw [dN _ _ _ _ (by omega),dN _ _ _ _ (by omega)];exact h4 j (by omega)
 ·rw [oW _ _ _ (by simp;omega)];exact hhi
theorem vL.done {A:List Int} {P:Int} {xs:List Int} (h:vL A P A.length xs):ah xs=ah A*P:=by
 rw [h.2.2.1,List.take_of_length_le (Nat.le_refl _)]
theorem Uz {P Wl W Vl V u0 u1 u2 v1 v2:Int} (hP:0<P) (hW:W=Wl+P*(u2+4294967296*(u0*4294967296+u1))) (hWl:Wl<P) (hV:V=Vl+P*(v2+4294967296*v1)) (hVl0:0<=Vl) (v10:1<=v1) (v20:0<=v2) (hu2:u2<4294967296) (q0:0<=W):W / V<=(u0*4294967296+u1) / v1:=by
 have hVpos:0<V:=by
  have h1:=Int.mul_le_mul_of_nonneg_left (show (1:Int)<=v2+4294967296*v1 by omega) (Int.le_of_lt hP);rw [hV];omega
 obtain⟨Q,hQ⟩:∃ Q,Q=W / V:=⟨_,rfl⟩;have hQ0:0<=Q:=by rw [hQ];exact Int.ediv_nonneg q0 (Int.le_of_lt hVpos)
 have hQV:Q*V<=W:=by rw [hQ];exact Int.ediv_mul_le W (by omega)
 rw [<- hQ];apply Int.le_ediv_of_mul_le (by omega);generalize u0*4294967296+u1=t at *
 -- Q v1 β P<=Q V<=W<P β (t+1)
 have h1:P*(Q*(4294967296*v1))<=Q*V:=by
  have h2:V-P*(4294967296*v1)=Vl+P*v2:=by rw [hV];grind
  have h3:0<=Q*(Vl+P*v2):=Int.mul_nonneg hQ0 (Int.add_nonneg hVl0 (Int.mul_nonneg (Int.le_of_lt hP) v20));have h4:Q*V-P*(Q*(4294967296*v1))=Q*(V-P*(4294967296*v1)):=by grind
  rw [h2] at h4;omega
 have h2:W<P*(4294967296*(t+1)):=by
  have h3:P*(u2+4294967296*t+1)<=P*(4294967296*(t+1)):=Int.mul_le_mul_of_nonneg_left (by omega) (Int.le_of_lt hP);have h4:P*(u2+4294967296*t+1)=P*(u2+4294967296*t)+P:=by grind
  omega
 have h3:=Int.lt_of_mul_lt_mul_left (Int.lt_of_le_of_lt (Int.le_trans h1 hQV) h2) (Int.le_of_lt hP);have h4:Q*(4294967296*v1)=4294967296*(Q*v1):=by grind
 omega
theorem UA {P Wl W Vl V t u2 v1 v2 g r:Int} (hP:0<P) (hW:W=Wl+P*(u2+4294967296*t)) (hWl:Wl<P) (hV:V=Vl+P*(v2+4294967296*v1)) (hVl0:0<=Vl) (hVpos:0<V) (hWV:W<4294967296*V) (q0:0<=W) (hg0:0<=g)
  (ht:t=g*v1+r) (hQ:W / V<=g) (hc:4294967295<g\/r*4294967296+u2<g*v2):W / V<=g-1:=by
 have hQV:W / V*V<=W:=Int.ediv_mul_le W (by omega);rcases hc with hc|hc
 ·have h1:W / V<4294967296:=Int.ediv_lt_of_lt_mul hVpos hWV;omega
 ·rcases Int.lt_or_le (W / V) g with h|h
  ·omega
  ·exfalso;have e:W / V=g:=by omega
   rw [e] at hQV
   have h1:P*(g*(v2+4294967296*v1))<=g*V:=by
    have h2:g*V-P*(g*(v2+4294967296*v1))=g*Vl:=by rw [hV];grind
    have:=Int.mul_nonneg hg0 hVl0;omega
   have h2:W<P*(u2+4294967296*t+1):=by
    have:P*(u2+4294967296*t+1)=P*(u2+4294967296*t)+P:=by grind
    omega
   have h3:=Int.lt_of_mul_lt_mul_left (Int.lt_of_le_of_lt (Int.le_trans h1 hQV) h2) (Int.le_of_lt hP);have h4:g*(v2+4294967296*v1)=g*v2+4294967296*(g*v1):=by grind
   rw [ht] at h3;omega
theorem VZ {P Wl W Vl V t u2 v1 v2:Int} (hP:0<P) (hW:W=Wl+P*(u2+4294967296*t)) (hWl0:0<=Wl) (hu2:0<=u2) (hV:V=Vl+P*(v2+4294967296*v1)) (hVl:Vl<P) (v20:v2<4294967296) (hWV:W<4294967296*V):t<4294967296*(v1+1):=by
 have h1:P*(4294967296*t)<=W:=by
  have h2:=Int.mul_nonneg (Int.le_of_lt hP) hu2;have h3:P*(u2+4294967296*t)=P*u2+P*(4294967296*t):=by grind
  omega
 have h4:V<P*(4294967296*(v1+1)):=by
  have h5:=Int.mul_le_mul_of_nonneg_left (show v2+4294967296*v1+1<=4294967296*(v1+1) by omega) (Int.le_of_lt hP);have h6:P*(v2+4294967296*v1+1)=P*(v2+4294967296*v1)+P:=by grind
  omega
 have h7:P*(4294967296*t)<P*(4294967296*(4294967296*(v1+1))):=by
  have h8:P*(4294967296*(4294967296*(v1+1)))=4294967296*(P*(4294967296*(v1+1))):=by grind
  omega
 have:=Int.lt_of_mul_lt_mul_left h7 (Int.le_of_lt hP);omega
theorem UB {P Wl W Vl V t u2 v1 v2 g r:Int} (hP:0<P) (hW:W=Wl+P*(u2+4294967296*t)) (hWl0:0<=Wl) (hV:V=Vl+P*(v2+4294967296*v1)) (hVl0:0<=Vl) (hVl:Vl<P) (v10:1<=v1) (v20:0<=v2) (hg0:0<=g) (hg:g<=4294967295)
  (ht:t=g*v1+r) (hc:g*v2<=r*4294967296+u2):g-1<=W / V:=by
 have hPV:P*4294967296<=V:=by
  have:=Int.mul_le_mul_of_nonneg_left (show (4294967296:Int)<=v2+4294967296*v1 by omega) (Int.le_of_lt hP);omega
 apply Int.le_ediv_of_mul_le (by omega)
 have h1:P*(g*(v2+4294967296*v1))<=W:=by
  have h2:g*(v2+4294967296*v1)<=u2+4294967296*t:=by
   have h4:g*(v2+4294967296*v1)=g*v2+4294967296*(g*v1):=by grind
   rw [ht];omega
  have:=Int.mul_le_mul_of_nonneg_left h2 (Int.le_of_lt hP);omega
 have h2:g*V=g*Vl+P*(g*(v2+4294967296*v1)):=by rw [hV];grind
 have h3:g*Vl<=4294967296*P:=by
  have h5:g*Vl<=4294967295*Vl:=Int.mul_le_mul_of_nonneg_right hg hVl0;omega
 have h4:(g-1)*V=g*V-V:=by grind
 omega
def sj (U V:List Int) (i:Nat) (g:Int) (j:Nat) (us:List Int) (c b:Int):Prop :=
 us.length=U.length/\aH us/\0<=c/\c<4294967296/\0<=b/\b<=1/\us.take i=U.take i/\(∀ t,i+j<=t->us.getD t 0=U.getD t 0) /\
 ah us+bL ^ i*(g*ah (V.take j))=ah U+bL ^ (i+j)*(c+b)
theorem sj.start {U V:List Int} {i:Nat} {g:Int} (h:aH U):sj U V i g 0 U 0 0 :=
 ⟨rfl,h,by omega,by omega,by omega,by omega,rfl,fun _ _=>rfl,by simp [ah]⟩
theorem kV (l:List Int) {i j:Nat} (h:i<=j) (x:Int):(l.set j x).take i=l.take i:=List.take_set_of_le h
theorem sj.step {U V:List Int} {i:Nat} {g:Int} {j:Nat} {us:List Int} {c b:Int} (h:sj U V i g j us c b) (LV:aH V) (hg0:0<=g) (hg:g<=4294967295) (hj:i+j<U.length) :
  let c1:=c+g*V.getD j 0
  let d:=us.getD (i+j) 0-c1 % 4294967296-b
  0<=c1/\c1<18446744073709551616/\-4294967296<=d/\d<4294967296/\sj U V i g (j+1) (us.set (i+j) (d % 4294967296)) (c1 / 4294967296) (if d<0 then 1 else 0):=by
 intro c1 d;obtain⟨h1,h2,h3,h4,h5,h6,h7,h8,h9⟩:=h;have av:=LV.getD j;have au:=h2.getD (i+j);rw [aT] at av au;obtain⟨y,hy⟩:∃ y,y=V.getD j 0:=⟨_,rfl⟩;obtain⟨u,hu⟩:∃ u,u=us.getD (i+j) 0:=⟨_,rfl⟩;have hc1:c1=c+g*V.getD j 0:=rfl;have hd:d=us.getD (i+j) 0 - c1 % 4294967296 - b:=rfl;rw [<- hy] at av hc1;rw [<- hu] at au hd;have p0:0<=g*y:=Int.mul_nonneg hg0 av.1
 have p1:g*y<=4294967295*4294967295:=by
  have a:=Int.mul_le_mul_of_nonneg_right hg av.1;have b:=Int.mul_le_mul_of_nonneg_left (show y<=4294967295 by omega) (show (0:Int)<=4294967295 by omega);omega
 have hq0:0<=c1 / 4294967296:=Int.ediv_nonneg (by omega) (by omega);have lY:c1 / 4294967296<4294967296:=Int.ediv_lt_of_lt_mul (by omega) (by omega);have e1:=Int.mul_ediv_add_emod c1 4294967296;have hm0:=Int.emod_nonneg c1 (show (4294967296:Int)≠0 by omega);have hm1:=Int.emod_lt_of_pos c1 (show (0:Int)<4294967296 by omega);generalize c1 / 4294967296=q at *;generalize c1 % 4294967296=lo at *;have hdm0:=Int.emod_nonneg d (show (4294967296:Int)≠0 by omega);have hdm1:=Int.emod_lt_of_pos d (show (0:Int)<4294967296 by omega)
 have ed:d % 4294967296=d+(if d<0 then 4294967296 else 0):=by
  split <;> omega
 refine⟨by omega,by omega,by omega,by omega,by simpa using h1,fJ h2 _ (by rw [aT];omega),hq0,lY,by split <;> omega,by split <;> omega,by rw [kV _ (by omega)];exact h7,fun t ht=>by rw [dN _ _ _ _ (by omega)];exact h8 t (by omega),?_⟩;rw [kN _ _ _ (by omega),aL,<- hy,<- hu,ed];have e2:bL ^ (i+(j+1))=bL ^ (i+j)*4294967296:=by rw [<- Nat.add_assoc,Int.pow_succ,aT]
 have e3:bL ^ (i+j)=bL ^ i*bL ^ j:=Int.pow_add ..;rw [e2];have hlu:ah us=ah U+bL ^ (i+j)*(c+b)-bL ^ i*(g*ah (V.take j)):=by omega
 rw [hlu,e3];generalize bL ^ i=P at *;generalize bL ^ j=R at *;generalize ah (V.take j)=L at *;have e4:d=u-lo-b:=hd;have e5:4294967296*q+lo=c+g*y:=by omega
 have e6:lo=c+g*y-4294967296*q:=by omega
 split
 ·rw [e4,e6];grind
 ·rw [e4,e6];grind
def su (U V:List Int) (i j:Nat) (us:List Int) (c:Int):Prop :=
 us.length=U.length/\aH us/\0<=c/\c<=1/\us.take i=U.take i/\(∀ t,i+j<=t->us.getD t 0=U.getD t 0) /\
 ah us+bL ^ (i+j)*c=ah U+bL ^ i*ah (V.take j)
theorem su.start {U V:List Int} {i:Nat} (h:aH U):su U V i 0 U 0 :=
 ⟨rfl,h,by omega,by omega,rfl,fun _ _=>rfl,by simp [ah]⟩
theorem su.step {U V:List Int} {i j:Nat} {us:List Int} {c:Int} (h:su U V i j us c) (LV:aH V) (hj:i+j<U.length) :
  su U V i (j+1) (us.set (i+j) ((us.getD (i+j) 0+V.getD j 0+c) % 4294967296)) ((us.getD (i+j) 0+V.getD j 0+c) / 4294967296):=by
 obtain⟨h1,h2,h3,h4,h5,h6,h7⟩:=h;have av:=LV.getD j;have au:=h2.getD (i+j);rw [aT] at av au;refine⟨by simpa using h1,fJ h2 _ (by rw [aT];omega),by omega,by omega,by rw [kV _ (by omega)];exact h5,fun t ht=>by rw [dN _ _ _ _ (by omega)];exact h6 t (by omega),?_⟩;rw [kN _ _ _ (by omega),aL];generalize V.getD j 0=y at *;generalize us.getD (i+j) 0=u at *;have e:=Int.mul_ediv_add_emod (u+y+c) 4294967296;generalize (u+y+c) % 4294967296=r at *;generalize (u+y+c) / 4294967296=q at *;have e2:bL ^ (i+(j+1))=bL ^ (i+j)*4294967296:=by rw [<- Nat.add_assoc,Int.pow_succ,aT]
 have e3:bL ^ (i+j)=bL ^ i*bL ^ j:=Int.pow_add ..;rw [e2];have hlu:ah us=ah U+bL ^ i*ah (V.take j)-bL ^ (i+j)*c:=by omega
 rw [hlu,e3];generalize bL ^ i=P at *;generalize bL ^ j=R at *;have e6:r=u+y+c-4294967296*q:=by omega
 rw [e6];grind
def uI (A:Int) (V:List Int) (k:Nat) (us qs:List Int):Prop :=
 aH us/\aH qs/\us.length=qs.length+V.length/\ah (us.drop k)<ah V/\A=ah us+ah qs*ah V/\∀ j,j<k->qs.getD j 0=0
theorem eZ (l:List Int) (k:Nat) (h:k<=l.length):ah l=ah (l.take k)+bL ^ k*ah (l.drop k):=by
 conv=>lhs;rw [<- List.take_append_drop k l]
 rw [ik,List.length_take,Nat.min_eq_left h]
theorem nE {l:List Int} (h:aH l) {k:Nat} (hl:ah l<bL ^ k):∀ j,k<=j->l.getD j 0=0:=fun j hj=>by
 rcases Nat.lt_or_ge j l.length with hjl|hjl
 ·have h1:=eZ l j (by omega);have h2:=bg (h.take j)
  have h3:ah (l.drop j)=l.getD j 0+bL*ah (l.drop (j+1)):=by
   rw [List.drop_eq_getElem_cons hjl,List.getD_eq_getElem?_getD,List.getElem?_eq_getElem hjl];rfl
  have h4:=bg (h.drop (j+1));have h5:=(h.getD j).1
  have h6:bL ^ k<=bL ^ j:=by
   obtain⟨d,rfl⟩:=Nat.exists_eq_add_of_le hj;rw [Int.pow_add];have a:0<bL ^ k:=Int.pow_pos eO;have b:0<bL ^ d:=Int.pow_pos eO;have:=Int.mul_le_mul_of_nonneg_left (show (1:Int)<=bL ^ d by omega) (Int.le_of_lt a);omega
  have h7:0<bL ^ j:=Int.pow_pos eO;rcases Int.lt_or_le 0 (l.getD j 0) with hp|hp
  ·exfalso
   have h8:1<=ah (l.drop j):=by
    have:=Int.mul_nonneg (Int.le_of_lt eO) h4;omega
   have:=Int.mul_le_mul_of_nonneg_left h8 (Int.le_of_lt h7);omega
  ·omega
 ·rw [List.getD_eq_getElem?_getD,List.getElem?_eq_none hjl];rfl
theorem gV (l:List Int) (k j:Nat):(l.drop k).getD j 0=l.getD (k+j) 0:=by
 rw [List.getD_eq_getElem?_getD,List.getElem?_drop,List.getD_eq_getElem?_getD]
theorem RY {us:List Int} (h:aH us) {i n:Nat} (hn:2<=n) (hl:ah (us.drop (i+1))<bL ^ n) (hlen:i+n<us.length) :
  ∃ Wl,0<=Wl/\Wl<bL ^ (n-2)/\ah (us.drop i)=Wl+bL ^ (n-2)*(us.getD (i+n-2) 0+4294967296*(us.getD (i+n) 0*4294967296+us.getD (i+n-1) 0)):=by
 have L:=h.drop i;have hz:=nE (h.drop (i+1)) hl;have hd0:=(h.drop i).take (n-2);refine⟨ah ((us.drop i).take (n-2)),bg hd0,?_,?_⟩
 ·have:=il hd0;rw [List.length_take,List.length_drop,Nat.min_eq_left (by omega)] at this;exact this
 ·have e1:=eZ (us.drop i) (n-2+1+1+1) (by rw [List.length_drop];omega);rw [aL,aL,aL,gV,gV,gV] at e1
  have e2:ah ((us.drop i).drop (n-2+1+1+1))=0:=by
   have hall:∀ x∈(us.drop i).drop (n-2+1+1+1),x=0:=fun x hx=>by
    obtain⟨j,hj,rfl⟩:=List.getElem_of_mem hx;have h3:((us.drop i).drop (n - 2+1+1+1)).getD j 0=us.getD (i+(n - 2+1+1+1)+j) 0:=by rw [gV,gV];congr 1;omega
    rw [List.getD_eq_getElem?_getD,List.getElem?_eq_getElem hj,Option.getD_some] at h3;rw [h3];have:=hz (n+j) (by omega);rw [gV] at this;rw [<- this];congr 1;omega
   have:∀ l:List Int,(∀ x∈l,x=0)->ah l=0:=fun l=>by
    induction l with
    | nil=>intro _;rfl
    | cons x l ih=>intro h;rw [ah,ih fun y hy=>h y (by simp [hy]),h x (by simp)];rfl
   exact this _ hall
  rw [e2] at e1;rw [e1,show i+(n-2)=i+n-2 by omega,show i+(n-2+1)=i+n-1 by omega,show i+(n-2+1+1)=i+n by omega,Int.pow_succ,Int.pow_succ,aT];grind
theorem RZ {V:List Int} (h:aH V) (hn:2<=V.length):∃ Vl,0<=Vl/\Vl<bL ^ (V.length-2)/\ah V=Vl+bL ^ (V.length-2)*(V.getD (V.length-2) 0+4294967296*V.getD (V.length-1) 0):=by
 have hd0:=h.take (V.length-2);refine⟨ah (V.take (V.length-2)),bg hd0,?_,?_⟩
 ·have:=il hd0;rw [List.length_take,Nat.min_eq_left (by omega)] at this;exact this
 ·have e1:=eZ V (V.length-2+1+1) (by omega);rw [List.drop_of_length_le (by omega),aL,aL] at e1;rw [e1,show V.length-2+1=V.length-1 by omega]
  have e3:bL ^ (V.length-1)=bL ^ (V.length-2)*4294967296:=by
   rw [show V.length-1=V.length-2+1 by omega,Int.pow_succ,aT]
  rw [e3];simp only [ah];grind
theorem R7 {U V us:List Int} {i:Nat} {g c b:Int} (h:sj U V i g V.length us c b) (hlen:i+V.length<U.length) (hLU:aH U) (hlt:ah (U.drop (i+1))<ah V) (hLV:aH V) (hQ:ah (U.drop i) / ah V<=g) (hQ1:g-1<=ah (U.drop i) / ah V) :
  let t:=us.getD (i+V.length) 0-c-b
  let us':=us.set (i+V.length) (t % 4294967296)
  t<4294967296/\-4294967296<=t/\aH us'/\us'.length=U.length/\us'.take i=U.take i /\
  (¬ t<0->g=ah (U.drop i) / ah V/\ah us'=ah U-bL ^ i*(g*ah V)/\ah (us'.drop i)<ah V) /\
  (t<0->g-1=ah (U.drop i) / ah V/\ah us'=ah U-bL ^ i*(g*ah V)+bL ^ (i+V.length+1)/\us'.getD (i+V.length) 0=t % 4294967296):=by
 intro t us';obtain⟨h1,h2,h3,h4,h5,h6,h7,h8,h9⟩:=h;have au:=h2.getD (i+V.length);rw [aT] at au;have ht:t=us.getD (i+V.length) 0 - c - b:=rfl;have hus:us'=us.set (i+V.length) (t % 4294967296):=rfl;have et:t % 4294967296=t+(if t<0 then 4294967296 else 0):=by split <;> omega
 have hL':aH us':=fJ h2 _ (by rw [aT];exact⟨Int.emod_nonneg _ (by omega),Int.emod_lt_of_pos _ (by omega)⟩);have hl':us'.length=U.length:=by rw [hus,List.length_set,h1]
 have htk:us'.take i=U.take i:=by rw [hus,kV _ (by omega),h7]
 have hval:ah us'=ah U-bL ^ i*(g*ah V)+bL ^ (i+V.length)*(if t<0 then 4294967296 else 0):=by
  rw [hus,kN _ _ _ (by omega),et];rw [List.take_of_length_le (Nat.le_refl _)] at h9;have:ah us=ah U+bL ^ (i+V.length)*(c+b)-bL ^ i*(g*ah V):=by omega
  rw [this,ht];generalize us.getD (i+V.length) 0=u at *;split <;> grind
 have e1:=eZ us' i (by omega);have e2:=eZ U i (by omega);rw [htk] at e1;have hPi:0<bL ^ i:=Int.pow_pos eO;have hVpos:0<ah V:=by have:=bg (hLU.drop (i+1));omega
 have hW:ah (us'.drop i)=ah (U.drop i)-g*ah V+bL ^ V.length*(if t<0 then 4294967296 else 0):=by
  have h10:bL ^ i*ah (us'.drop i)=bL ^ i*(ah (U.drop i)-g*ah V+bL ^ V.length*(if t<0 then 4294967296 else 0)):=by
   have h11:bL ^ (i+V.length)=bL ^ i*bL ^ V.length:=Int.pow_add ..;rw [h11] at hval;have h12:bL ^ i*ah (us'.drop i)=ah us' - ah (U.take i):=by omega
   rw [h12,hval,e2];grind
  exact Int.eq_of_mul_eq_mul_left (by omega) h10
 have hW0:=bg (hL'.drop i);have hmod:=Int.emod_lt_of_pos (ah (U.drop i)) hVpos;have hmod0:=Int.emod_nonneg (ah (U.drop i)) (show ah V≠0 by omega);have hdm:=Int.mul_ediv_add_emod (ah (U.drop i)) (ah V);have hVn:=il hLV;refine⟨by omega,by omega,hL',hl',htk,fun hn=>?_,fun hn=>?_⟩
 ·rw [if_neg hn] at hW hval;have hge:g*ah V<=ah (U.drop i):=by omega
  have hg:g<=ah (U.drop i) / ah V:=Int.le_ediv_of_mul_le hVpos hge;have e:g=ah (U.drop i) / ah V:=by omega
  refine⟨e,by omega,?_⟩;have h13:g*ah V=ah V*(ah (U.drop i) / ah V):=by rw [<- e];grind
  omega
 ·rw [if_pos hn] at hW hval
  have hz:∀ j,V.length+1<=j->(us'.drop i).getD j 0=0:=fun j hj=>by
   rw [gV,hus,dN _ _ _ _ (by omega),h8 _ (by omega)];have:=nE (hLU.drop (i+1)) (Int.lt_trans hlt hVn) (j-1) (by omega);rw [gV] at this;rw [<- this];congr 1;omega
  have hub:ah (us'.drop i)<bL ^ (V.length+1):=by
   have e3:=eZ (us'.drop i) (V.length+1) (by rw [List.length_drop];omega)
   have hall:∀ x∈(us'.drop i).drop (V.length+1),x=0:=fun x hx=>by
    obtain⟨j,hj,rfl⟩:=List.getElem_of_mem hx;have h3:((us'.drop i).drop (V.length+1)).getD j 0=(us'.drop i).getD (V.length+1+j) 0:=gV _ _ _;rw [List.getD_eq_getElem?_getD,List.getElem?_eq_getElem hj,Option.getD_some] at h3;rw [h3];exact hz _ (by omega)
   have:∀ l:List Int,(∀ x∈l,x=0)->ah l=0:=fun l=>by
    induction l with
    | nil=>intro _;rfl
    | cons x l ih=>intro h;rw [ah,ih fun y hy=>h y (by simp [hy]),h x (by simp)];rfl
   rw [this _ hall] at e3;have h14:=il ((hL'.drop i).take (V.length+1));rw [List.length_take,List.length_drop,Nat.min_eq_left (by omega)] at h14;omega
  have h15:bL ^ (V.length+1)=bL ^ V.length*4294967296:=by rw [Int.pow_succ,aT]
  have hneg:ah (U.drop i)<g*ah V:=by rw [h15] at hub;omega
  have hne:g≠ah (U.drop i) / ah V:=fun e=>by
   have h13:g*ah V=ah V*(ah (U.drop i) / ah V):=by rw [<- e];grind
   omega
  refine⟨by omega,?_,by rw [hus,oW _ _ _ (by omega)]⟩;rw [hval,Int.pow_succ,aT]
theorem Sa {U U0 V us:List Int} {i:Nat} {g c:Int} (h:su U V i V.length us c) (hlen:i+V.length<U.length) (hU0:U0.length=U.length) (hL0:aH U0) (hlt:ah (U0.drop (i+1))<ah V) (hLV:aH V) (htk:U.take i=U0.take i)
  (hz:∀ t,i+V.length<t->U.getD t 0=0) (hg:g-1=ah (U0.drop i) / ah V) (hv:ah U=ah U0-bL ^ i*(g*ah V)+bL ^ (i+V.length+1)) :
  let us':=us.set (i+V.length) ((us.getD (i+V.length) 0+c) % 4294967296)
  aH us'/\us'.length=U0.length/\us'.take i=U0.take i/\ah us'=ah U0-bL ^ i*((g-1)*ah V)/\ah (us'.drop i)<ah V:=by
 intro us';obtain⟨h1,h2,h3,h4,h5,h6,h7⟩:=h;have au:=h2.getD (i+V.length);rw [aT] at au;have hus:us'=us.set (i+V.length) ((us.getD (i+V.length) 0+c) % 4294967296):=rfl;obtain⟨u,hu⟩:∃ u,u=us.getD (i+V.length) 0:=⟨_,rfl⟩;rw [<- hu] at hus au;have hL':aH us':=by rw [hus];exact fJ h2 _ (by rw [aT];exact⟨Int.emod_nonneg _ (by omega),Int.emod_lt_of_pos _ (by omega)⟩)
 have hl':us'.length=U0.length:=by rw [hus,List.length_set,h1,hU0]
 have htk':us'.take i=U0.take i:=by rw [hus,kV _ (by omega),h5,htk]
 obtain⟨co,hco⟩:∃ co,co=(u+c) / 4294967296:=⟨_,rfl⟩;have hco0:0<=co/\co<=1:=by omega
 have e0:=Int.mul_ediv_add_emod (u+c) 4294967296;rw [<- hco] at e0;have hPi:0<bL ^ i:=Int.pow_pos eO;have hVpos:0<ah V:=by have:=bg (hL0.drop (i+1));omega
 rw [List.take_of_length_le (Nat.le_refl _)] at h7
 have hval:ah us'=ah U0-bL ^ i*((g-1)*ah V)+bL ^ (i+V.length+1)*(1-co):=by
  rw [hus,kN _ _ _ (by omega),<- hu];have e1:ah us=ah U+bL ^ i*ah V-bL ^ (i+V.length)*c:=by omega
  rw [e1,hv,Int.pow_succ,aT];have e2:(u+c) % 4294967296=u+c-4294967296*co:=by omega
  rw [e2];grind
 have e1:=eZ us' i (by omega);have e2:=eZ U0 i (by omega);rw [htk'] at e1
 have hW:ah (us'.drop i)=ah (U0.drop i)-(g-1)*ah V+bL ^ (V.length+1)*(1-co):=by
  have h10:bL ^ i*ah (us'.drop i)=bL ^ i*(ah (U0.drop i)-(g-1)*ah V+bL ^ (V.length+1)*(1-co)):=by
   have h11:bL ^ (i+V.length+1)=bL ^ i*bL ^ (V.length+1):=by rw [Nat.add_assoc];exact Int.pow_add ..
   rw [h11] at hval;have h12:bL ^ i*ah (us'.drop i)=ah us' - ah (U0.take i):=by omega
   rw [h12,hval,e2];grind
  exact Int.eq_of_mul_eq_mul_left (by omega) h10
 have hdm:=Int.mul_ediv_add_emod (ah (U0.drop i)) (ah V);have hmod:=Int.emod_lt_of_pos (ah (U0.drop i)) hVpos;have hmod0:=Int.emod_nonneg (ah (U0.drop i)) (show ah V≠0 by omega);have hgV:(g-1)*ah V=ah V*(ah (U0.drop i) / ah V):=by rw [<- hg];grind
 have hub:ah (us'.drop i)<bL ^ (V.length+1):=by
  have e3:=eZ (us'.drop i) (V.length+1) (by rw [List.length_drop];omega)
  have hall:∀ x∈(us'.drop i).drop (V.length+1),x=0:=fun x hx=>by
   obtain⟨j,hj,rfl⟩:=List.getElem_of_mem hx;have h3:((us'.drop i).drop (V.length+1)).getD j 0=us'.getD (i+(V.length+1)+j) 0:=by rw [gV,gV];congr 1;omega
   rw [List.getD_eq_getElem?_getD,List.getElem?_eq_getElem hj,Option.getD_some] at h3;rw [h3,hus,dN _ _ _ _ (by omega),h6 _ (by omega)];exact hz _ (by omega)
  have:∀ l:List Int,(∀ x∈l,x=0)->ah l=0:=fun l=>by
   induction l with
   | nil=>intro _;rfl
   | cons x l ih=>intro h;rw [ah,ih fun y hy=>h y (by simp [hy]),h x (by simp)];rfl
  rw [this _ hall] at e3;have h14:=il ((hL'.drop i).take (V.length+1));rw [List.length_take,List.length_drop,Nat.min_eq_left (by omega)] at h14;omega
 have hco1:co=1:=by
  rcases Int.lt_or_le co 1 with h|h
  ·exfalso;have:co=0:=by omega
   rw [this] at hW;have h16:bL ^ (V.length+1)*(1-0)=bL ^ (V.length+1):=by rw [Int.sub_zero,Int.mul_one]
   omega
  ·omega
 rw [hco1] at hW hval;have h17:∀ x:Int,x*(1-1)=0:=fun x=>by rw [Int.sub_self,Int.mul_zero]
 rw [h17] at hW hval;exact⟨hL',hl',htk',by omega,by omega⟩
theorem uI.step {A:Int} {V us qs us':List Int} {k:Nat} {Q:Int} (h:uI A V (k+1) us qs) (hk:k<qs.length) (hQ0:0<=Q) (hQ:Q<4294967296) (hL:aH us') (hl:us'.length=us.length) (hv:ah us'=ah us-bL ^ k*(Q*ah V)) (hlt:ah (us'.drop k)<ah V):uI A V k us' (qs.set k Q):=by
 obtain⟨h1,h2,h3,h4,h5,h6⟩:=h;refine⟨hL,fJ h2 _ (by rw [aT];omega),by rw [hl,h3,List.length_set],hlt,?_,fun j hj=>by rw [dN _ _ _ _ (by omega)];exact h6 j (by omega)⟩;rw [h5,hv,kN _ _ _ hk,h6 k (by omega)];grind
def yI (us:List Int) (P R:Int) (i:Nat) (xs:List Int):Prop :=
 aH xs/\ah (xs.take i)*P=ah (us.take i)-us.getD 0 0 % P+bL ^ i*(us.getD i 0 % P)/\xs.length+1<=us.length
theorem yI.start {us:List Int} {P R:Int} {n:Nat} (h:n+1<=us.length):yI us P R 0 (List.replicate n 0) :=
 ⟨jM _,by simp only [List.take_zero,ah];rw [Int.pow_zero];omega,by simpa using h⟩
theorem yI.step {us:List Int} {P R:Int} {i:Nat} {xs:List Int} (h:yI us P R i xs) (LU:aH us) (hi:i<xs.length) (hP:0<P) (hR:0<R) (hPR:P*R=4294967296) :
  let x:=us.getD i 0 / P
  let y:=us.getD (i+1) 0 % P*R
  0<=x/\x<R/\0<=y/\y+x<4294967296/\yI us P R (i+1) (xs.set i (x+y)):=by
 intro x y;obtain⟨h1,h2,h3⟩:=h;have a0:=LU.getD i;have a1:=LU.getD (i+1);rw [aT] at a0 a1;have hx:x=us.getD i 0 / P:=rfl;have hy:y=us.getD (i+1) 0 % P*R:=rfl;generalize hu:us.getD i 0=u at *;generalize hw:us.getD (i+1) 0=w at *;have x0:0<=x:=by rw [hx];exact Int.ediv_nonneg a0.1 (by omega)
 have x1:x<R:=by rw [hx];exact Int.ediv_lt_of_lt_mul hP (by rw [Int.mul_comm,hPR];exact a0.2)
 have m0:=Int.emod_nonneg w (show P≠0 by omega);have m1:=Int.emod_lt_of_pos w hP;have y0:0<=y:=by rw [hy];exact Int.mul_nonneg m0 (by omega)
 have y1:y<=(P-1)*R:=by rw [hy];exact Int.mul_le_mul_of_nonneg_right (by omega) (by omega)
 have y2:(P-1)*R=4294967296-R:=by rw [Int.sub_mul,hPR];omega
 refine⟨x0,x1,y0,by omega,fJ h1 _ (by rw [aT];omega),?_,by rw [List.length_set];exact h3⟩;rw [mI _ _ _ hi,aL,hu,hw];have e:=Int.mul_ediv_add_emod u P;rw [<- hx] at e;have ew:y*P=w % P*4294967296:=by rw [hy,<- hPR];grind
 have e2:bL ^ (i+1)=bL ^ i*4294967296:=by rw [Int.pow_succ,aT]
 rw [e2];generalize bL ^ i=Q at *;generalize hM:w % P=M at *;generalize hN:u % P=N at *;have e3:(ah (xs.take i)+Q*(x+y))*P=ah (xs.take i)*P+Q*(P*x+y*P):=by grind
 rw [e3,h2,ew];have e4:P*x=u-N:=by omega
 rw [e4];grind
theorem Sb {us rs:List Int} {P R z:Int} {n:Nat} (h:yI us P R n rs) (hl:rs.length=n) (LU:aH us) (hn:n<us.length) (hP:0<P) (hPR:P*R=4294967296) (hlt:ah us<bL ^ n) (hz:ah us=P*z):ah rs=z:=by
 obtain⟨h1,h2,h3⟩:=h;have h0:=nE LU hlt n (Nat.le_refl _)
 have h4:ah (us.take n)=ah us:=by
  have e1:=eZ us n (by omega)
  have e2:ah (us.drop n)=0:=by
   have hnn:=bg (LU.drop n);have hp:0<bL ^ n:=Int.pow_pos eO;have ht:=bg (LU.take n);rcases Int.lt_or_le 0 (ah (us.drop n)) with h|h
   ·have:=Int.mul_le_mul_of_nonneg_left (show (1:Int)<=ah (us.drop n) by omega) (Int.le_of_lt hp);omega
   ·omega
  rw [e2,Int.mul_zero,Int.add_zero] at e1;exact e1.symm
 have h5:us.getD 0 0 % P=0:=by
  cases us with
  | nil=>simp at hn
  | cons x l =>
   have e:ah (x::l)=x+4294967296*ah l:=rfl;rw [e,<- hPR] at hz;have e2:P*(R*ah l)=P*R*ah l:=by grind
   have:x=P*(z-R*ah l):=by rw [Int.mul_sub];omega
   show x % P=0;rw [this];exact Int.mul_emod_right _ _
 rw [List.take_of_length_le (by omega),h4,h5,h0,hz] at h2;have e6:(0:Int) % P=0:=Int.zero_emod P;rw [e6,Int.mul_zero,Int.sub_zero,Int.add_zero,Int.mul_comm P z] at h2;exact Int.eq_of_mul_eq_mul_right (by omega) h2
theorem Sc {w P R:Int} (hw0:0<=w) (hP:0<P) (hR:0<R) (hPR:P*R=4294967296):w*4294967296 / P % 4294967296=w % P*R:=by
 have e1:w*4294967296 / P=w*R:=by
  rw [<- hPR,show w*(P*R)=w*R*P by grind];exact Int.mul_ediv_cancel _ (by omega)
 rw [e1,<- hPR,Int.mul_comm w R,Int.mul_comm P R,Int.mul_emod_mul_of_pos _ _ hR,Int.mul_comm]
theorem Js {l:List Int} (h:aH l) {n:Nat} (hn:n<=l.length) (hl:ah l<bL ^ n):ah (l.take n)=ah l:=by
 have e1:=eZ l n hn;have hnn:=bg (h.drop n);have hp:0<bL ^ n:=Int.pow_pos eO;have ht:=bg (h.take n);rcases Int.lt_or_le 0 (ah (l.drop n)) with h|h
 ·have:=Int.mul_le_mul_of_nonneg_left (show (1:Int)<=ah (l.drop n) by omega) (Int.le_of_lt hp);omega
 ·have e2:ah (l.drop n)=0:=by omega
  rw [e2,Int.mul_zero,Int.add_zero] at e1;exact e1.symm
theorem Xy {B vs:List Int} {n k b:Nat} (LB:aH B) (hB:B.length=n+2) (hxb:B.getD (n+1) 0<((2 ^ b:Nat):Int)) (hbk:b+k=32) (Lv:aH vs) (hv:ah vs=ah B*((2 ^ k:Nat):Int)) (hl:vs.length=n+2+1):ah (vs.take (n+2))=ah vs:=by
 refine Js Lv (by omega) ?_;have e1:=eZ B (n+1+1) (by omega);rw [List.drop_of_length_le (by omega),aL] at e1;have e0:ah ([]:List Int)=0:=rfl;rw [e0,Int.mul_zero,Int.add_zero] at e1;have h1:=il (LB.take (n+1));rw [List.length_take,Nat.min_eq_left (by omega)] at h1;have hp:0<bL ^ (n+1):=Int.pow_pos eO;have hk:(0:Int)<((2 ^ k:Nat):Int):=Int.ofNat_lt.2 (Nat.pow_pos (by decide))
 have h2:ah B<bL ^ (n+1)*((2 ^ b:Nat):Int):=by
  have h3:=Int.mul_le_mul_of_nonneg_left (show B.getD (n+1) 0+1<=((2 ^ b:Nat):Int) by omega) (Int.le_of_lt hp);rw [Int.mul_add,Int.mul_one] at h3;omega
 have h4:((2 ^ b:Nat):Int)*((2 ^ k:Nat):Int)=4294967296:=by
  rw [<- Int.natCast_mul,<- Nat.pow_add,hbk];rfl
 have h5:=Int.mul_lt_mul_of_pos_right h2 hk;rw [hv,Int.pow_succ,aT];rw [aT] at h5;have h6:(4294967296:Int) ^ (n+1)*((2 ^ b:Nat):Int)*((2 ^ k:Nat):Int)=4294967296 ^ (n+1)*4294967296:=by rw [Int.mul_assoc,h4]
 rw [h6] at h5;exact h5
theorem UC {V:List Int} {n:Nat} {P:Int} (h:aH V) (hl:V.length=n+2) (hP:0<P) (hlow:bL ^ (n+1)*P<=ah V):1<=V.getD (n+1) 0:=by
 have e1:=eZ V (n+1+1) (by omega);rw [List.drop_of_length_le (by omega),aL] at e1;have e0:ah ([]:List Int)=0:=rfl;rw [e0,Int.mul_zero,Int.add_zero] at e1;have h1:=il (h.take (n+1));rw [List.length_take,Nat.min_eq_left (by omega)] at h1;have hp:0<bL ^ (n+1):=Int.pow_pos eO;have h2:=(h.getD (n+1)).1;rcases Int.lt_or_le (V.getD (n+1) 0) 1 with h3|h3
 ·exfalso;have h4:V.getD (n+1) 0=0:=by omega
  rw [h4,Int.mul_zero] at e1;have h5:=Int.mul_le_mul_of_nonneg_left (show 1<=P by omega) (Int.le_of_lt hp);omega
 ·exact h3
theorem O7 {A us V:List Int} {n D:Nat} {P:Int} (LA:aH A) (hA:A.length+1=D+(n+2)) (Lu:aH us) (hu:us.length=A.length+1) (vu:ah us=ah A*P) (hP:0<P) (hlow:bL ^ (n+1)*P<=ah V) (hV:V.length=n+2):uI (ah us) V D us (List.replicate D 0):=by
 refine⟨Lu,jM D,by rw [List.length_replicate];omega,?_,by rw [nZ,Int.zero_mul,Int.add_zero],fun j hj=>by rw [List.getD_eq_getElem?_getD,List.getElem?_replicate,if_pos hj];rfl⟩;have e1:=eZ us D (by omega);have h1:=bg (Lu.take D);have hp:0<bL ^ D:=Int.pow_pos eO;have h2:=il LA;rw [show A.length=D+(n+1) by omega,Int.pow_add] at h2;have h3:=Int.mul_lt_mul_of_pos_right h2 hP;have h4:=Int.mul_le_mul_of_nonneg_left hlow (Int.le_of_lt hp);rw [<- Int.mul_assoc] at h4;exact Int.lt_of_mul_lt_mul_left (a:=bL ^ D) (by omega) (Int.le_of_lt hp)
theorem Ni (l:List Int) {n j:Nat} (h:j<n):(l.take n).getD j 0=l.getD j 0:=by
 rw [List.getD_eq_getElem?_getD,List.getElem?_take,if_pos h,List.getD_eq_getElem?_getD]
end Q
end
