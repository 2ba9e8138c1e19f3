/- Pseudo-divisions of small polynomials answer; the size of the pseudo-remainder. No program in sight. -/
import Derived.Test.YtopclbeomcggiaaGreatW33
set_option linter.unusedVariables false
set_option linter.unusedSimpArgs false
set_option maxHeartbeats 16000000
set_option maxRecDepth 100000
section
namespace Q
open MP Go.Proofs.YtopclbeomcggiaaGreat
def iB (v x t:Nat) (w:Nat):Nat:=if w<v then x else if w=v then t else 0
theorem Gg {v x t:Nat} (hv:v<4):bx (iB v x t)=(t+1)*(x+1) ^ v:=by
 obtain rfl|rfl|rfl|rfl:v=0\/v=1\/v=2\/v=3:=by omega
 ·simp [bx,iB]
 ·simp [bx,iB,Nat.mul_comm]
 ·simp [bx,iB,Nat.pow_succ,Nat.mul_comm]
 ·simp [bx,iB,Nat.pow_succ,Nat.mul_comm]
theorem KP {v x t:Nat} {p:MP} (lp:p.lo (v+1)) (hx:∀ w,w<v->p.deg w<=x) (ht:p.deg v<=t):Dg (iB v x t) p:=fun w hw=>by
 unfold iB;split
 ·exact hx w (by assumption)
 ·split
  ·rename_i e;rw [e];exact ht
  ·have h:p.deg w<=0:=lp w (by omega) hw;exact h
theorem Dg.lo {v x t:Nat} {p:MP} (h:Dg (iB v x t) p):p.lo (v+1):=fun w h1 h2=>by
 have:=h w h2;rw [iB,if_neg (by omega),if_neg (by omega)] at this;exact this
theorem Dg.lo0 {v x:Nat} {p:MP} (h:Dg (iB v x 0) p):p.lo v:=fun w h1 h2=>by
 have:=h w h2;rw [iB,if_neg (by omega)] at this;have e:(if w=v then 0 else 0)=0:=by split <;> rfl
 rw [e] at this;exact this
theorem Dg.low {v x t:Nat} (hv:v<4) {p:MP} (h:Dg (iB v x t) p):∀ w,w<v->p.deg w<=x:=fun w hw=>by
 have:=h w (by omega);rwa [iB,if_pos hw] at this
theorem Dg.top {v x t:Nat} (hv:v<4) {p:MP} (h:Dg (iB v x t) p):p.deg v<=t:=by
 have:=h v hv;rwa [iB,if_neg (by omega),if_pos rfl] at this
def gm (D H:Nat) (d:Nat->Nat) (l:List ai):Prop:=∃ p:MP,p.l=l/\qw D H p/\Dg d p
theorem gm.nil (D H:Nat) (d:Nat->Nat):gm D H d []:=⟨0,rfl,qw.zero D H,fun w _=>by rw [deg_zero];omega⟩
theorem gm.get {D H:Nat} {d:Nat->Nat} {L:List (List ai)} (h:∀ c∈L,gm D H d c) (i:Nat):gm D H d (L.getD i []):=by
 rw [List.getD_eq_getElem?_getD]
 cases hi:L[i]? with
 | none=>exact gm.nil D H d
 | some c=>exact h c (List.mem_of_getElem? hi)
theorem gm.mul {D H D' H':Nat} {d d':Nat->Nat} {p q:List ai} (h:gm D H d p) (h':gm D' H' d' q):gm (D*D') (H*H') (fun w=>d w+d' w) (aQ p q):=by
 obtain⟨a,rfl,h1,h2⟩:=h;obtain⟨b,rfl,k1,k2⟩:=h';exact⟨a*b,rfl,h1.mul k1,fun w hw=>Int.le_trans (dI w a b (h2 w hw) (k2 w hw) (by omega)) (by simp)⟩
theorem gm.sub {D H H':Nat} {d:Nat->Nat} {p q:List ai} (h:gm D H d p) (h':gm D H' d q):gm D (H+H') d (dK p q):=by
 obtain⟨a,rfl,h1,h2⟩:=h;obtain⟨b,rfl,k1,k2⟩:=h';exact⟨a - b,rfl,h1.sub k1,fun w hw=>by have:=oz w a b;have:=h2 w hw;have:=k2 w hw;omega⟩
theorem gm.mono {D H H':Nat} {d:Nat->Nat} {p:List ai} (h:gm D H d p) (hH:H<=H'):gm D H' d p:=by
 obtain⟨a,e,h1,h2⟩:=h;exact⟨a,e,h1.mono hH,h2⟩
theorem KQ {D R:List (List ai)} {Dr Hr Db Hb:Nat} {dr db:Nat->Nat} (hD:∀ c∈D,gm Db Hb db c) (hR:∀ c∈R,gm Dr Hr dr c):∀ c∈fE D R,gm (Dr*Db) (Hr*Hb+Hr*Hb) (fun w=>dr w+db w) c:=fun c hc=>by
 simp only [fE,List.mem_map] at hc;obtain⟨i,-,rfl⟩:=hc;split
 ·exact ((gm.get hR _).mul (gm.get hD _)).sub ((gm.get hR _).mul (gm.get hD _))
 ·exact ((gm.get hR _).mul (gm.get hD _)).mono (by omega)
theorem EC {D:List (List ai)} {Da Ha Db Hb s:Nat} {da db:Nat->Nat} (hD:∀ c∈D,gm Db Hb db c)
  (hw:∀ j,j<=s->∀ c,gm (Da*Db ^ j) (Ha*(2*Hb) ^ j) (fun w=>da w+j*db w) c->zw c=true) :
  ∀ (f j:Nat) (R:List (List ai)),R.length+j<=s+(D.length-1)\/R.length<=D.length-1->j<=s->(∀ c∈R,gm (Da*Db ^ j) (Ha*(2*Hb) ^ j) (fun w=>da w+j*db w) c) ->
   Kj D f R=true/\∃ i,i<=s/\∀ c∈fO D f R,gm (Da*Db ^ i) (Ha*(2*Hb) ^ i) (fun w=>da w+i*db w) c
 | 0,j,R,_,hj,hR=>⟨rfl,j,hj,hR⟩
 | f+1,j,R,hl,hj,hR=>by
  unfold Kj fO;split
  ·rename_i hlt;have h1:=KQ hD hR
   have h2:∀ c∈fE D R,gm (Da*Db ^ (j+1)) (Ha*(2*Hb) ^ (j+1)) (fun w=>da w+(j+1)*db w) c:=fun c hc=>by
    have:=h1 c hc;have e1:Da*Db ^ j*Db=Da*Db ^ (j+1):=by rw [Nat.pow_succ,Nat.mul_assoc]
    have e2:Ha*(2*Hb) ^ j*Hb+Ha*(2*Hb) ^ j*Hb=Ha*(2*Hb) ^ (j+1):=by
     rw [Nat.pow_succ,<- Nat.mul_two,Nat.mul_assoc,Nat.mul_assoc,Nat.mul_comm Hb 2]
    have e3:(fun w=>da w+j*db w+db w)=fun w=>da w+(j+1)*db w:=funext fun w=>by rw [Nat.add_mul,Nat.one_mul,Nat.add_assoc]
    rw [e1,e2,e3] at this;exact this
   obtain⟨k1,k2⟩:=EC hD hw f (j+1) (fE D R) (by rw [gP];omega) (by omega) h2;refine⟨?_,k2⟩;rw [Bool.and_eq_true,List.all_eq_true];exact⟨fun c hc=>hw j hj c (hR c hc),k1⟩
  ·exact⟨rfl,j,hj,hR⟩
theorem KR (p:List ai) (v:Nat) (i:Int):bD (gD p v i)=bD p:=by
 unfold gD
 induction p with
 | nil=>rfl
 | cons u l ih=>simp only [List.map_cons,bD,ih]
theorem Cw {v D H:Nat} {d:Nat->Nat} (hv:v<4) (hdv:d v=0):∀ (L:List (List ai)) (i:Nat),(∀ c∈L,gm D H d c) ->
  (∀ t∈fromL v i L,(t.1.nat=true/\(∀ w,w<4->w≠v->t.1.get w<=d w)/\t.1.get v<=((i+L.length:Nat):Int))/\Dv D t.2)/\(D:Rat)*bD (fromL v i L)<=((L.length*H:Nat):Rat)/\(fromL v i L).length<=L.length*bx d
 | [],i,_=>⟨fun t ht=>(by cases ht),by
   show (D:Rat)*0<=((0*H:Nat):Rat)
   rw [Rat.mul_zero];exact bW _,by simp [fromL]⟩
 | c::L,i,h=>by
  obtain⟨p,rfl,h1,h2⟩:=h c (by simp);obtain⟨k1,k2,k3⟩:=Cw hv hdv L (i+1) fun c hc=>h c (by simp [hc])
  have e:fromL v (i:Int) (p.l::L)=gD p.l v i++fromL v ((i+1:Nat):Int) L:=by
   rw [fromL];rfl
  rw [e];refine⟨fun t ht=>?_,?_,?_⟩
  ·rcases List.mem_append.1 ht with ht|ht
   ·obtain⟨u,hu,rfl⟩:=List.mem_map.1 ht;obtain⟨n1,n2⟩:=h2.inB u hu;have hu0:u.1.get v=0:=by have:=n2 v hv;have:=Ex.nat_get n1 v;omega
    refine⟨⟨Ex.put_nat n1 v (by omega),fun w hw hne=>?_,?_⟩,h1.d u hu⟩
    ·show (u.1.put v _).get w<=_;rw [Ex.get_put_ne _ hv hw (Ne.symm hne)];exact n2 w hw
    ·show (u.1.put v (u.1.get v+i)).get v<=_;rw [Ex.get_put,hu0];simp only [List.length_cons];omega
   ·obtain⟨⟨m1,m2,m3⟩,m4⟩:=k1 t ht;exact⟨⟨m1,m2,by simp only [List.length_cons];omega⟩,m4⟩
  ·rw [pF,KR,Rat.mul_add,List.length_cons,Nat.add_mul,Nat.one_mul,Rat.natCast_add];have:=h1.a;have e3:(D:Rat)*p.am=(D:Rat)*bD p.l:=rfl;rw [e3] at this;grind
  ·have h3:=h2.len;rw [List.length_append,List.length_cons,Nat.add_mul,Nat.one_mul];have:(gD p.l v i).length=p.l.length:=by unfold gD;rw [List.length_map]
   omega
theorem Cx {x a j:Nat} (h:x<=2 ^ a):x ^ j<=2 ^ (a*j):=by rw [Nat.pow_mul];exact Nat.pow_le_pow_left h j
theorem Ow {v A al M s lM:Nat} {a b:MP} (hv:v<4) (b0:b≠0) (la:a.lo (v+1)) (lb:b.lo (v+1)) (ha:∀ w,w<v->a.deg w<=A) (hb:∀ w,w<v->b.deg w<=A) (ia:In al a) (ib:In al b)
  (hs:a.deg v+1<=b.deg v+s) (hM:b.deg v<=M) (hlM:M<=2 ^ lM) (hbx:(M+1)*((s+1)*A+1) ^ v<=10000) (hlb:(s+1)*(al+1)+lM<LB) :
  RP a.l b.l v=some (lX v a b).l/\In ((s+1)*(al+1)+lM) (lX v a b)/\(∀ w,w<v->(lX v a b).deg w<=((s+1)*A:Nat))/\(lX v a b).deg v<=M/\(lX v a b).lo (v+1):=by
 obtain⟨Da,Ha,a1,a2,a3,a4⟩:=ia;obtain⟨Db,Hb,b1,b2,b3,b4⟩:=ib
 have hrow:∀ (p:MP) (D H:Nat),p.lo (v+1)->(∀ w,w<v->p.deg w<=A)->qw D H p->∀ c∈aB p.l v,gm D H (iB v A 0) c:=fun p D H lp hp hi c hc=>by
  obtain⟨n,rfl⟩:=gF hc;refine⟨p.co v n,rfl,hi.co v n,fun w hw=>?_⟩;unfold iB;split
  ·exact xQ v n p hw hv (hp w (by assumption))
  ·have h1:(p.co v n).deg w<=0:=GN hv lp w (by omega) hw;omega
 have hdeg:=deg_pos b0 v;have lD:(aB b.l v).length=(b.deg v).toNat+1:=by rw [aW];have e:aG b.l v=b.deg v:=rfl;omega
 have lR:((aB a.l v).length:Int)<=a.deg v+1:=by rw [aW];have e:aG a.l v=a.deg v:=rfl;have:=deg_ge v a;omega
 have hbx':bx (iB v ((s+1)*A) M)<=10000:=by rw [Gg hv];exact hbx
 have hdm:∀ j,j<=s->∀ w,iB v A 0 w+j*iB v A 0 w<=iB v ((s+1)*A) M w:=fun j hj w=>by
  unfold iB;split
  ·have:=Nat.mul_le_mul_right A hj;rw [Nat.add_mul];omega
  ·split <;> simp
 have hin:∀ j,j<=s->Da*Db ^ j<=2 ^ ((s+1)*(al+1))/\Ha*(2*Hb) ^ j<=2 ^ ((s+1)*(al+1)):=fun j hj=>by
  have p1:=Cx (j:=j) b2;have p2:(2*Hb) ^ j<=2 ^ ((al+1)*j):=Cx (by rw [Nat.pow_succ];omega);have q1:=Nat.mul_le_mul a2 p1;have q2:=Nat.mul_le_mul a3 p2;rw [<- Nat.pow_add] at q1 q2;have r0:=Nat.mul_le_mul_left (al+1) hj;have r1:al*j<=(al+1)*j:=Nat.mul_le_mul_right _ (by omega);have r2:(s+1)*(al+1)=(al+1)*s+(al+1):=by rw [Nat.mul_comm,Nat.mul_add,Nat.mul_one]
  exact⟨Nat.le_trans q1 (Nat.pow_le_pow_right (by omega) (by omega)),Nat.le_trans q2 (Nat.pow_le_pow_right (by omega) (by omega))⟩
 have hpos:∀ j,0<Da*Db ^ j:=fun j=>Nat.mul_pos a1 (Nat.pow_pos b1)
 have hwp:∀ j,j<=s->∀ c,gm (Da*Db ^ j) (Ha*(2*Hb) ^ j) (fun w=>iB v A 0 w+j*iB v A 0 w) c->zw c=true:=fun j hj c hc=>by
  obtain⟨p,rfl,h1,h2⟩:=hc;exact rT (h2.mono (hdm j hj)) ⟨_,_,hpos j,(hin j hj).1,(hin j hj).2,h1⟩ hbx' (by omega)
 obtain⟨k1,i,hi,k2⟩:=EC (Da:=Da) (Ha:=Ha) (da:=iB v A 0) (hrow b Db Hb lb hb b4) hwp (aB a.l v).length 0 (aB a.l v)
  (by rw [lD];omega) (by omega) (fun c hc=>by
   have:=hrow a Da Ha la ha a4 c hc;have e3:(fun w=>iB v A 0 w+0*iB v A 0 w)=iB v A 0:=funext fun w=>by rw [Nat.zero_mul,Nat.add_zero]
   rw [Nat.pow_zero,Nat.pow_zero,Nat.mul_one,Nat.mul_one,e3];exact this)
 have hlen:=yu (aB b.l v) (aB a.l v).length (aB a.l v) (by omega);obtain⟨R,hR⟩:∃ R,R=fO (aB b.l v) (aB a.l v).length (aB a.l v):=⟨_,rfl⟩;rw [<- hR] at k2 hlen;have hRM:R.length<=M:=by rw [lD] at hlen;omega
 have hdv0:iB v A 0 v+i*iB v A 0 v=0:=by simp [iB]
 obtain⟨f1,f2,f3⟩:=Cw hv (d:=fun w=>iB v A 0 w+i*iB v A 0 w) hdv0 R 0 k2
 have hL:R.length*(Ha*(2*Hb) ^ i)<=2 ^ ((s+1)*(al+1)+lM):=by
  rw [Nat.add_comm,Nat.pow_add];exact Nat.mul_le_mul (by omega) (hin i hi).2
 have hD:Da*Db ^ i<=2 ^ ((s+1)*(al+1)+lM):=Nat.le_trans (hin i hi).1 (Nat.pow_le_pow_right (by omega) (by omega))
 have hbox:∀ t∈fromL v ((0:Nat):Int) R,KH (iB v ((s+1)*A) M) t.1:=fun t ht=>by
  obtain⟨⟨m1,m2,m3⟩,-⟩:=f1 t ht;refine⟨m1,fun w hw=>?_⟩;by_cases hwv:w=v
  ·subst hwv;rw [iB,if_neg (by omega),if_pos rfl];omega
  ·have h6:t.1.get w<=((iB v A 0 w+i*iB v A 0 w:Nat):Int):=m2 w hw hwv;have h7:=hdm i hi w;omega
 have hlen2:(fromL v ((0:Nat):Int) R).length<=10000:=by
  have h1:bx (fun w=>iB v A 0 w+i*iB v A 0 w)<=((s+1)*A+1) ^ v:=by
   have e:(fun w=>iB v A 0 w+i*iB v A 0 w)=iB v (A+i*A) 0:=funext fun w=>by
    unfold iB;split
    ·rfl
    ·split <;> simp
   rw [e,Gg hv,Nat.one_mul];exact Nat.pow_le_pow_left (by have:=Nat.mul_le_mul_right A hi;rw [Nat.add_mul s 1 A];omega) v
  have h2:=Nat.mul_le_mul hRM h1;have h3:(M+1)*((s+1)*A+1) ^ v=M*((s+1)*A+1) ^ v+((s+1)*A+1) ^ v:=by rw [Nat.add_mul,Nat.one_mul]
  omega
 have hb2:=Q5 (b:=(s+1)*(al+1)+lM) hbox hbx' hlen2 (hpos i) hD hL (fun t ht=>(f1 t ht).2) f2 hlb;have hpl:(lX v a b).l=canon (fromL v ((0:Nat):Int) R):=by rw [hR];rfl
 have hind:qw (Da*Db ^ i) (R.length*(Ha*(2*Hb) ^ i)) (lX v a b):=by
  refine⟨fun t ht=>?_,?_⟩
  ·rw [hpl] at ht;exact wG (fun t ht=>(f1 t ht).2) t ht
  ·refine Rat.le_trans (Rat.mul_le_mul_of_nonneg_left ?_ (bW _)) f2;show bD (lX v a b).l<=_;rw [hpl];exact oI _
 have hdg:Dg (iB v ((s+1)*A) M) (lX v a b):=MH fun t ht=>by
  rw [hpl] at ht;exact gL (P:=KH (iB v ((s+1)*A) M)) hbox t ht
 have hin2:In ((s+1)*(al+1)+lM) (lX v a b):=⟨_,_,hpos i,hD,hL,hind⟩;refine⟨?_,hin2,hdg.low hv,hdg.top hv,hdg.lo⟩;have hw:=rT hdg hin2 hbx' hlb;unfold RP;simp only;rw [<- hR,if_pos ⟨fun h=>b0 (zero_iff.2 h),k1,hb2,List.all_eq_true.2 fun c hc=>hwp i hi c (k2 c hc)⟩];have:=MI hw;rw [hpl] at this ⊢;exact this
theorem xe {v:Nat} (hv:v<4) {z k f:MP} (lz:z.lo (v+1)) (pz:z.prim v) (hk:k.lo v) (k0:k≠0) (h:z∣k*f):z∣f:=by
 have key:∀ n:Nat,v+1+n<=4->∀ f:MP,f.lo (v+1+n)->z∣k*f->z∣f:=fun n=>by
  induction n with
  | zero=>intro _ f lf h;exact gG (AU v (by omega)) hv lf pz hk k0 h
  | succ n ih =>
   intro hn f lf h;have hfr:z.fr (v+1+n):=lz _ (by omega) (by omega);have hkf:k.fr (v+1+n):=hk _ (by omega) (by omega);refine (dvd_iff_co hfr f).2 fun i=>ih (by omega) _ (GN (by omega) lf) ?_;have:=(dvd_iff_co hfr (k*f)).1 h i;rwa [co_mul_fr hkf] at this
 have e:v+1+(3-v)=4:=by omega
 exact key (3-v) (by omega) f (by rw [e];exact XB f) h
theorem KS {u U v R d la xi H X b l2:Nat} (hu:1<=u) (huU:u<=U) (hR:0<R) (hH:H<=2 ^ b) (h2:2*U*R ^ v<=2 ^ l2) (hla:la=l2+b) (hX:X=2 ^ xi-1)
  (hc:(la+xi)*((U-1)*(R+d) ^ v)<xi*(U*R ^ v)) :
  (2*(u*R ^ v*(X*H))+1) ^ ((u-1)*(R+d) ^ v)<(X+1) ^ (u*R ^ v)/\u*R ^ v*(X*H)<=2 ^ (la+xi):=by
 have hx1:0<2 ^ xi:=Nat.pow_pos (by omega);have hX1:X+1=2 ^ xi:=by omega
 have h3:2*(u*R ^ v)*H<=2 ^ la:=by
  rw [hla,Nat.pow_add];refine Nat.mul_le_mul (Nat.le_trans ?_ h2) hH;rw [Nat.mul_assoc 2 U];exact Nat.mul_le_mul_left 2 (Nat.mul_le_mul_right _ huU)
 have h4:2*(u*R ^ v*(X*H))+1<=2 ^ (la+xi):=by
  have e1:2*(u*R ^ v*(X*H))=2*(u*R ^ v)*H*X:=by
   rw [Nat.mul_comm X H,<- Nat.mul_assoc,<- Nat.mul_assoc,<- Nat.mul_assoc]
  have h5:=Nat.mul_le_mul_right X h3;have h6:2 ^ la*X+2 ^ la=2 ^ (la+xi):=by rw [Nat.pow_add,<- hX1,Nat.mul_add,Nat.mul_one]
  have h7:0<2 ^ la:=Nat.pow_pos (by omega);rw [e1];omega
 refine⟨?_,by omega⟩
 have h5:(2*(u*R ^ v*(X*H))+1) ^ ((u-1)*(R+d) ^ v)<=2 ^ ((la+xi)*((u-1)*(R+d) ^ v)):=by
  have e:2 ^ ((la+xi)*((u-1)*(R+d) ^ v))=(2 ^ (la+xi)) ^ ((u-1)*(R+d) ^ v):=Nat.pow_mul ..;rw [e];exact Nat.pow_le_pow_left h4 _
 refine Nat.lt_of_le_of_lt h5 ?_;rw [hX1,<- Nat.pow_mul];refine Nat.pow_lt_pow_right (by omega) ?_
 have h6:(u-1)*U<=u*(U-1):=by
  rw [Nat.sub_mul,Nat.mul_sub,Nat.one_mul,Nat.mul_one];omega
 have hU:0<U:=by omega
 refine Nat.lt_of_mul_lt_mul_right (a:=U) ?_
 have h7:(la+xi)*((u-1)*(R+d) ^ v)*U<=u*((la+xi)*((U-1)*(R+d) ^ v)):=by
  have e1:(la+xi)*((u-1)*(R+d) ^ v)*U=(la+xi)*(R+d) ^ v*((u-1)*U):=by
   simp only [Nat.mul_comm,Nat.mul_left_comm,Nat.mul_assoc]
  have e2:u*((la+xi)*((U-1)*(R+d) ^ v))=(la+xi)*(R+d) ^ v*(u*(U-1)):=by
   simp only [Nat.mul_comm,Nat.mul_left_comm,Nat.mul_assoc]
  rw [e1,e2];exact Nat.mul_le_mul_left _ h6
 have h8:u*((la+xi)*((U-1)*(R+d) ^ v))<u*(xi*(U*R ^ v)):=Nat.mul_lt_mul_of_pos_left hc hu;have e3:u*(xi*(U*R ^ v))=xi*(u*R ^ v)*U:=by simp only [Nat.mul_comm,Nat.mul_left_comm,Nat.mul_assoc]
 rw [<- e3];omega
theorem I9 {v M d b R la xi l2 kap U:Nat} (hv:v<4) {p q x y z k t e:MP} (h:Sq v p q x y) (y0:y≠0) (k0:k≠0) (kf:k.lo v) (e0:e≠0) (ef:e.fr v) (hst:k*x=t*y+e*z) (hlt:z.deg v<y.deg v) (z0:z≠0) (pz:z.prim v) (lz:z.lo (v+1))
  (p0:p≠0) (q0:q≠0) (lp:p.lo (v+1)) (lq:q.lo (v+1)) (hp:∀ w,w<v->p.deg w<=d) (hq:∀ w,w<v->q.deg w<=d) (ip:In b p) (iq:In b q) (hm:p.deg v<=M) (hn:q.deg v<=M) (hyp:y.deg v<=p.deg v) (hyq:y.deg v<=q.deg v)
  (hU:2*(M:Int)+2<=U+2*y.deg v) (hR:0<R) (h2:2*U*R ^ v<=2 ^ l2) (hla:la=l2+b) (hc:(la+xi)*((U-1)*(R+d) ^ v)<xi*(U*R ^ v)) (hk:tC (iB v (R-1+d) M) (v+1)<=2 ^ kap) :
  (∀ w,w<v->z.deg w<=((U*d:Nat):Int))/\In (la+xi+kap) (nrm z):=by
 have hz1:=deg_pos z0 v;obtain⟨m,em⟩:∃ m:Nat,p.deg v=m:=⟨(p.deg v).toNat,by omega⟩;obtain⟨n,en⟩:∃ n:Nat,q.deg v=n:=⟨(q.deg v).toNat,by omega⟩;obtain⟨K,eK⟩:∃ K:Nat,y.deg v=(K:Int)+1:=⟨(y.deg v).toNat - 1,by omega⟩;have hu:1<=m+n - 2*K:=by omega
 have huU:m+n-2*K<=U:=by omega
 refine⟨fun w hw=>?_,?_⟩
 ·obtain⟨S,T,hne,hS,hfv,hfw⟩:=JG (v:=v) (w:=w) hv (by omega) (by omega) (m:=m) (n:=n) (k:=K) (by omega) (by omega) (by omega) (by omega) (hp w hw) (hq w hw);obtain⟨f0,c',c0,cl,hd⟩:=h.dvd hv y0 k0 kf e0 ef hst hlt z0 (f:=S*p+T*q) (K:=(K:Int)) rfl hfv (.inr (by omega)) hne (by omega) (by omega);have h3:=dvd_deg f0 (xe hv lz pz cl c0 hd) w;have h4:(m+n - 2*K)*d<=U*d:=Nat.mul_le_mul_right _ huU;omega
 ·obtain⟨Dp,Hp,a1,a2,a3,a4⟩:=ip;obtain⟨Dq,Hq,b1,b2,b3,b4⟩:=iq;have dp0:(Dp:Rat)≠0:=jk a1;have dq0:(Dq:Rat)≠0:=jk b1
  have hap:(c (Dp:Rat)*p).am<=((2 ^ b:Nat):Rat):=by
   rw [rH,bJ (bW _)];exact Rat.le_trans a4.a (zf a3)
  have haq:(c (Dq:Rat)*q).am<=((2 ^ b:Nat):Rat):=by
   rw [rH,bJ (bW _)];exact Rat.le_trans b4.a (zf b3)
  obtain⟨X,hX⟩:∃ X,X=2 ^ xi - 1:=⟨_,rfl⟩;obtain⟨n1,n2⟩:=KS (d:=d) hu huU hR (Nat.le_refl (2 ^ b)) h2 hla hX hc;have lP:(c (Dp:Rat)*p).lo (v+1):=jA p0 (Ch dp0 p).1 lp;have lQ:(c (Dq:Rat)*q).lo (v+1):=jA q0 (Ch dq0 q).1 lq
  obtain⟨S,T,hne,hS,hfv,hfw,hfd,hfa,hfl⟩:=Io hv lP lQ (qE a4.d) (qE b4.d) (m:=m) (n:=n) (k:=K) (d:=d) (by rw [tN dp0 p0];omega) (by rw [tN dq0 q0];omega) (by omega) (by omega)
   (fun w hw=>by rw [tN dp0 p0];exact hp w hw) (fun w hw=>by rw [tN dq0 q0];exact hq w hw) hap haq hR n1
  have hcomb:S*(c (Dp:Rat)*p)+T*(c (Dq:Rat)*q)=(S*c (Dp:Rat))*p+(T*c (Dq:Rat))*q:=by grind
  have hS':(S*c (Dp:Rat)).deg v<=S.deg v:=by
   have h5:(c (Dp:Rat)).deg v<=0:=nN _ v;have:=dI v S (c (Dp:Rat)) (Int.le_refl _) h5 (by have:=deg_ge v S;omega);omega
  have hne':S*c (Dp:Rat)≠0\/T*c (Dq:Rat)≠0:=hne.imp (fun h=>mul_ne h (wI dp0)) fun h=>mul_ne h (wI dq0);obtain⟨f,hf⟩:∃ f,f=S*(c (Dp:Rat)*p)+T*(c (Dq:Rat)*q):=⟨_,rfl⟩;rw [<- hf] at hfv hfw hfd hfa hfl hcomb;obtain⟨f0,c',c0,cl,hd⟩:=h.dvd hv y0 k0 kf e0 ef hst hlt z0 (f:=f) (K:=(K:Int)) hcomb hfv (.inr (by omega)) hne' (by omega) (by omega);have hzf:=xe hv lz pz cl c0 hd
  have hif:In (la+xi) f:=by
   refine⟨1,_,by omega,Nat.one_le_two_pow,n2,hfd,?_⟩;rw [show ((1:Nat):Rat)=1 from rfl,Rat.one_mul];exact hfa
  exact hif.fac (n:=v+1) (by omega) f0 hzf hfl (KP hfl hfw (by omega)) hk
structure rU where
 M:Nat
 d:Nat
 b:Nat
 E:Nat
 br:Nat
 kE:Nat
 k0:Nat
 lM:Nat
 P:Nat
 R:Nat->Nat
 l2:Nat->Nat
 xi:Nat->Nat
 kap:Nat->Nat
namespace rU
def bE (L:rU):Nat:=L.br+L.kE
def cz (L:rU) (v x:Nat):Nat:=if v=0 then 0 else x+L.kE
def b1 (L:rU) (v:Nat):Nat:=if v=0 then L.b else L.b+(L.b+L.k0)
def mu (L:rU) (v U:Nat):Nat:=if U=1 then L.b1 v else L.l2 U+L.b1 v+L.xi U+L.kap U
def U (L:rU) (k:Nat):Nat:=2*L.M+2-2*k
end rU
structure tO (v:Nat) (L:rU):Prop where
 hv:v<4
 hlM:L.M<=2 ^ L.lM
 k0:tC (iB v L.d L.M) (v+1)<=2 ^ L.k0
 kE:tC (iB v L.E 0) v<=2 ^ L.kE
 mono:∀ U,U<2*L.M->1<=U->L.mu v U<=L.mu v (U+1)
 sg:∀ U,U<2*L.M+1->2<=U->0<L.R U/\2*U*L.R U ^ v<=2 ^ L.l2 U/\(L.l2 U+L.b1 v+L.xi U)*((U-1)*(L.R U+L.d) ^ v)<L.xi U*(U*L.R U ^ v)/\tC (iB v (L.R U-1+L.d) L.M) (v+1)<=2 ^ L.kap U
 p1:(L.M+1)*(1*L.d)<=L.P/\(L.M+1)*(L.b1 v+1)+L.lM<LB
 pk:∀ k,k<L.M+1->2<=k->(k+1)*(L.U k*L.d)<=L.P/\(k+1)*(L.mu v (L.U k)+1)+L.lM<LB
 bP:(L.M+1)*(L.P+1) ^ v<=10000
 e1:L.M*(1*L.d)<=L.E/\L.M*(L.b1 v+1)+L.lM<=L.br
 ek:∀ k,k<L.M+1->3<=k->k*(L.U k*L.d)<=L.E/\k*(L.mu v (L.U k)+1)+L.lM<=L.br
 dE:L.d<=L.E/\L.b<=L.br/\L.E<=L.P/\1<=L.M
 x1:L.br+L.mu v (2*L.M)+L.cz v L.br<LB
 x2:L.b1 v+L.cz v L.b<LB
 dv:bx (TL v L.d (Rj v L.d L.M))<=10000/\L.b1 v+L.b1 v+(bx (TL v L.d (Rj v L.d L.M))+1)*(L.b1 v+1)<LB
 fin:L.bE+L.mu v (2*L.M)<LB
 fl:L.M+1<fuel
def OQ (d:Nat->Nat) (b:Nat) (G:List ai->List ai->Option (List ai)):Prop:=∀ x y:MP,Dg d x->Dg d y->In b x->In b y->∃ r,G x.l y.l=some r
theorem MU {g:MP} (h:hd g=1):nrm g=g:=by
 rw [nrm,h,show (1:Rat) / 1=1 by decide +kernel,AQ];grind
theorem Cy {v:Nat} {L:rU} (h:tO v L) {x:Nat} {g f:MP} (hg:hd g=1) (f0:f≠0) (hd:g∣f) (df:Dg (iB v L.E 0) f) (hi:In x f):Dg (iB v L.E 0) g/\In (L.cz v x) g:=by
 have hv:=h.hv;refine⟨df.dvd f0 hd,?_⟩;unfold rU.cz;split
 ·rename_i e;subst e;obtain⟨r,rfl⟩:=mR (jA f0 hd df.lo0);have hr:r≠0:=fun e=>by rw [e,Pv] at hg;cases hg
  have h1:=uw hr 1;have h2:c r*1=c r:=by grind
  rw [h2,hg,KE,Rat.one_mul] at h1;rw [<- h1,AQ];exact In.one 0
 ·have:=hi.fac (n:=v) (by omega) f0 hd df.lo0 df h.kE;rwa [MU hg] at this
theorem Us {v:Nat} {L:rU} {x:Nat} (hx:x<=L.br):L.cz v x<=L.bE:=by
 unfold rU.cz rU.bE;split <;> omega
def X3 (v:Nat) (L:rU) (x:Nat) (l:List ai):Prop:=∃ f:MP,f.l=l/\Dg (iB v L.E 0) f/\In x f
theorem MV {v x:Nat} {L:rU} (h:tO v L) (hx:x<=L.br) {G:List ai->List ai->Option (List ai)} (hG:Mw G) (hX:OQ (iB v L.E 0) L.bE G):∀ (l:List (List ai)) (acc:MP),(∀ c∈l,X3 v L x c) ->
  (acc=0\/(hd acc=1/\∃ f:MP,f≠0/\acc∣f/\Dg (iB v L.E 0) f/\In x f))->∃ r,vg G acc.l l=some r
 | [],acc,_,_=>⟨_,rfl⟩
 | c::l,acc,hl,ha=>by
  obtain⟨f,rfl,df,hf⟩:=hl c (by simp)
  have hacc:Dg (iB v L.E 0) acc/\In L.bE acc:=by
   rcases ha with e|⟨h1,f',f0,h2,h3,h4⟩
   ·rw [e];exact⟨fun w _=>by rw [deg_zero];omega,In.zero _⟩
   ·obtain⟨a1,a2⟩:=Cy h h1 f0 h2 h3 h4;exact⟨a1,a2.mono (Us hx)⟩
  obtain⟨r,hr⟩:=hX acc f hacc.1 df hacc.2 (hf.mono (by unfold rU.bE;omega));obtain⟨g,rfl,hg⟩:=hG acc f r hr;rw [vg,hr];simp only;split
  ·exact⟨_,rfl⟩
  ·refine MV h hx hG hX l g (fun c hc=>hl c (by simp [hc])) ?_;by_cases g0:g=0
   ·exact .inl g0
   ·refine .inr ⟨hg.n g0,?_⟩;by_cases f0:f=0
    ·rcases ha with e|⟨-,f',h0,h2,h3,h4⟩
     ·exact absurd (zero_dvd (hg.i.u 0 (by rw [e];exact dvd_refl 0) (by rw [f0];exact dvd_refl 0))) g0
     ·exact⟨f',h0,dvd_trans hg.i.l h2,h3,h4⟩
    ·exact⟨f,f0,hg.i.r,df,hf⟩
theorem KT {v x:Nat} {L:rU} (h:tO v L) {a:MP} (la:a.lo (v+1)) (ha:∀ w,w<v->a.deg w<=L.E) (ia:In x a) (n:Nat):Dg (iB v L.E 0) (a.co v n)/\In x (a.co v n):=by
 refine⟨fun w hw=>?_,ia.co v n⟩;unfold iB;split
 ·exact xQ v n a hw h.hv (ha w (by assumption))
 ·have h1:(a.co v n).deg w<=0:=GN h.hv la w (by omega) hw;split <;> exact h1
theorem Cz {v x:Nat} {L:rU} (h:tO v L) (hx:x<=L.br) {G:List ai->List ai->Option (List ai)} (hG:Mw G) (hX:OQ (iB v L.E 0) L.bE G) {a:MP} (la:a.lo (v+1)) (ha:∀ w,w<v->a.deg w<=L.E) (ia:In x a) :
  ∃ g:MP,mU G a.l v=some g.l/\xP v g a/\(g≠0->hd g=1)/\(a≠0->Dg (iB v L.E 0) g/\In (L.cz v x) g):=by
 obtain⟨r,hr⟩:=MV h hx hG hX (aB a.l v) 0 (fun c hc=>by
  obtain⟨n,e⟩:=gF hc;obtain⟨h1,h2⟩:=KT h la ha ia n
  exact⟨a.co v n,e.symm,h1,h2⟩) (.inl rfl)
 obtain⟨g,rfl,hg,hn⟩:=qN hG (a:=a) (v:=v) hr;refine⟨g,hr,hg,hn,fun a0=>?_⟩;have g0:=dvd_ne a0 hg.d;obtain⟨h1,h2⟩:=KT h la ha ia (a.deg v).toNat;exact Cy h (hn g0) (lc_ne a0 v) ((dvd_iff_co hg.f a).1 hg.d _) h1 h2
theorem MW {v:Nat} {L:rU} (h:tO v L) {U:Nat} (h1:1<=U):∀ k:Nat,U+k<=2*L.M->L.mu v U<=L.mu v (U+k)
 | 0,_=>Nat.le_refl _
 | k+1,hk=>Nat.le_trans (MW h h1 k (by omega)) (h.mono (U+k) (by omega) (by omega))
theorem Ja {v:Nat} {L:rU} (h:tO v L) {U U':Nat} (h1:1<=U) (h2:U<=U') (h3:U'<=2*L.M):L.mu v U<=L.mu v U':=by
 have:=MW h h1 (U' - U) (by omega);rwa [show U+(U' - U)=U' by omega] at this
theorem Jb {v:Nat} {L:rU} (h:tO v L) {G:List ai->List ai->Option (List ai)} (hG:Mw G) (hX:OQ (iB v L.E 0) L.bE G)
  {p q:MP} (p0:p≠0) (q0:q≠0) (lp:p.lo (v+1)) (lq:q.lo (v+1)) (hp:∀ w,w<v->p.deg w<=L.d) (hq:∀ w,w<v->q.deg w<=L.d) (ip:In (L.b1 v) p) (iq:In (L.b1 v) q) (hm:p.deg v<=L.M) (hn:q.deg v<=L.M) :
  ∀ (n:Nat) (x y:MP) (U:Nat),y.deg v<n->Sq v p q x y->x.prim v->y.prim v->x.lo (v+1)->y.lo (v+1)->(∀ w,w<v->x.deg w<=((U*L.d:Nat):Int))->(∀ w,w<v->y.deg w<=((U*L.d:Nat):Int))->In (L.mu v U) x->In (L.mu v U) y ->
   1<=U->U<=2*L.M->(U=1\/((U:Int)+2*x.deg v=2*(L.M:Int)+2/\y.deg v<x.deg v))->1<=y.deg v->y.deg v<=x.deg v->x.deg v<=L.M->y.deg v<=p.deg v->y.deg v<=q.deg v ->
   ∃ s:MP,qJ G v n x.l y.l=some s.l/\In (L.mu v (2*L.M)) s
 | 0,x,y,U,hlt,_,_,_,_,_,_,_,_,_,_,_,_,h1,_,_,_,_=>by omega
 | n+1,x,y,U,hlt,hS,px,py,lx,ly,dx,dy,ix,iy,hU1,hU2,hUc,hy1,hyx,hxM,hyp,hyq=>by
  have hv:=h.hv;have y0:=dY py;have x0:=dY px;obtain⟨k,hk⟩:∃ k:Nat,x.deg v=k:=⟨(x.deg v).toNat,by omega⟩;obtain⟨j,hj⟩:∃ j:Nat,y.deg v=j:=⟨(y.deg v).toNat,by omega⟩
  have hps:(k-j+1+1)*(U*L.d)<=L.P/\(k-j+1+1)*(L.mu v U+1)+L.lM<LB:=by
   rcases hUc with e|⟨e,hlt'⟩
   ·subst e;have h1:=h.p1;have h2:=Nat.mul_le_mul_right (1*L.d) (show k-j+1+1<=L.M+1 by omega);have h3:=Nat.mul_le_mul_right (L.mu v 1+1) (show k-j+1+1<=L.M+1 by omega);have h4:L.mu v 1=L.b1 v:=if_pos rfl;rw [h4] at h3 ⊢;omega
   ·have h1:=h.pk k (by omega) (by omega);have e2:L.U k=U:=by unfold rU.U;omega
    rw [e2] at h1;have h2:=Nat.mul_le_mul_right (U*L.d) (show k-j+1+1<=k+1 by omega);have h3:=Nat.mul_le_mul_right (L.mu v U+1) (show k-j+1+1<=k+1 by omega);omega
  obtain⟨r1,r2,r3,r4,r5⟩:=Ow (M:=L.M) (s:=k - j+1) (lM:=L.lM) hv y0 lx ly dx dy ix iy (by omega) (by omega) h.hlM
   (Nat.le_trans (Nat.mul_le_mul_left _ (Nat.pow_le_pow_left (by have:=hps.1;omega) v)) h.bP) hps.2
  obtain⟨t,s',est,hrd⟩:=yw (a:=x) y0 v;obtain⟨r,hr⟩:∃ r,r=lX v x y:=⟨_,rfl⟩;rw [<- hr] at r1 r2 r3 r4 r5 est hrd;rw [qJ,r1];have hmuY:L.mu v U<=L.mu v (2*L.M):=Ja h hU1 hU2 (Nat.le_refl _)
  cases er:r.l with
  | nil=>exact⟨y,rfl,iy.mono hmuY⟩
  | cons a l =>
   simp only;have rn0:r≠0:=fun e=>by rw [zero_iff.1 e] at er;cases er
   split
   ·exact⟨1,by rw [uy],In.one _⟩
   ·rename_i hd0
    have hrdeg:1<=r.deg v:=by
     have h1:=deg_pos rn0 v;have h2:r.deg v≠0:=by show aG r.l v≠0;rw [er];exact hd0
     omega
    have hpe:(k-j+1+1)*(U*L.d)<=L.E/\(k-j+1+1)*(L.mu v U+1)+L.lM<=L.br:=by
     rcases hUc with e|⟨e,hlt'⟩
     ·subst e;have h1:=h.e1;have h2:=Nat.mul_le_mul_right (1*L.d) (show k-j+1+1<=L.M by omega);have h3:=Nat.mul_le_mul_right (L.mu v 1+1) (show k-j+1+1<=L.M by omega);have h4:L.mu v 1=L.b1 v:=if_pos rfl;rw [h4] at h3 ⊢;omega
     ·have h1:=h.ek k (by omega) (by omega);have e2:L.U k=U:=by unfold rU.U;omega
      rw [e2] at h1;have h2:=Nat.mul_le_mul_right (U*L.d) (show k-j+1+1<=k by omega);have h3:=Nat.mul_le_mul_right (L.mu v U+1) (show k-j+1+1<=k by omega);omega
    have hrE:∀ w,w<v->r.deg w<=L.E:=fun w hw=>by have:=r3 w hw;have:=hpe.1;omega
    have hrb:In L.br r:=r2.mono hpe.2;obtain⟨g,c1,c2,c3,c4⟩:=Cz h (Nat.le_refl _) hG hX r5 hrE hrb;obtain⟨c5,c6⟩:=c4 rn0;obtain⟨ρ,eρ,pρ,g0⟩:=mr c2 rn0;have ρ0:=dY pρ;have lρ:ρ.lo (v+1):=wW g0 ρ0 eρ r5;have hgd:g.deg v=0:=uQ c2.f g0;have hρd:ρ.deg v=r.deg v:=by rw [eρ,deg_mul g0 ρ0,hgd];omega
    have hj2:2<=j:=by omega
    have hU':2<=L.U j/\L.U j<=2*L.M:=by unfold rU.U;omega
    have hUj:((L.U j:Nat):Int)+2*y.deg v=2*(L.M:Int)+2:=by rw [hj];unfold rU.U;omega
    obtain⟨s1,s2,s3,s4⟩:=h.sg (L.U j) (by omega) hU'.1;have hlc:=yz hv ly s';have hlc0:=FX (lc_ne y0 v) s';have hst:(y.lc v) ^ s'*x=t*y+g*ρ:=by rw [<- eρ];exact est
    obtain⟨m1,m2⟩:=I9 hv hS y0 hlc0 hlc g0 c2.f hst (by omega) ρ0 pρ lρ p0 q0 lp lq hp hq ip iq hm hn hyp hyq (by omega) s1 s2 rfl s3 s4;have emu:L.l2 (L.U j)+L.b1 v+L.xi (L.U j)+L.kap (L.U j)=L.mu v (L.U j):=by rw [rU.mu,if_neg (by omega)]
    rw [emu] at m2;have hmu2:L.mu v (L.U j)<=L.mu v (2*L.M):=Ja h (by omega) hU'.2 (Nat.le_refl _)
    have hiρ:In (L.br+L.mu v (L.U j)) ρ:=by
     have e1:hd r=hd ρ:=by rw [eρ,FY g0 ρ0,c3 g0,Rat.one_mul]
     have h2:=(hrb.hd rn0).mul m2;rwa [e1,<- Ci ρ0] at h2
    have hx1:=h.x1
    have hbE:bx (iB v L.E L.M)<=10000:=by
     rw [Gg hv];exact Nat.le_trans (Nat.mul_le_mul_left _ (Nat.pow_le_pow_left (by have:=h.dE.2.2.1;omega) v)) h.bP
    have mY:Dg (iB v L.E L.M) r:=KP r5 hrE (by omega);have hov:=Ck g0 (eρ.trans (jU g ρ)) mY hbE hiρ c6 (by omega);have hdρ:Dg (iB v L.E L.M) ρ:=mY.dvd rn0 ⟨g,eρ.trans (jU g ρ)⟩;have hno:=qO hdρ hiρ hbE (by omega)
    have hpo:lU G (a::l) v=some ρ.l:=by
     rw [er] at hov c1;rw [lU];simp only [c1];exact hov
    have hNρ:nrm ρ≠0:=FW ρ0
    have hNd:∀ w,(nrm ρ).deg w=ρ.deg w:=fun w=>by
     have h1:=dvd_deg ρ0 (jm ρ0).1 w;have h2:=dvd_deg hNρ (jm ρ0).2 w;omega
    have hhd:=ze ρ0
    have hSn:Sq v p q y (nrm ρ):=by
     refine hS.step y0 hlc0 hlc (e:=g*c (hd ρ)) (mul_ne g0 (wI hhd)) (sJ c2.f (nN _ v)) (t:=t) ?_ (by rw [hNd];omega);rw [hst];have h1:g*c (hd ρ)*nrm ρ=g*(c (hd ρ)*nrm ρ):=by grind
     rw [h1,<- Ci ρ0]
    obtain⟨s,hs1,hs2⟩:=Jb h hG hX p0 q0 lp lq hp hq ip iq hm hn n y (nrm ρ) (L.U j) (by rw [hNd];omega) hSn py (qy pρ (jm ρ0).1) ly (Q4 lρ)
     (fun w hw=>by
      have h1:=dy w hw;have h2:U*L.d<=L.U j*L.d:=Nat.mul_le_mul_right _ (by rcases hUc with e|⟨e,_⟩ <;> omega)
      omega)
     (fun w hw=>by rw [hNd];exact m1 w hw) (iy.mono (Ja h hU1 (by rcases hUc with e|⟨e,_⟩ <;> omega) hU'.2)) m2 (by omega) hU'.2 (.inr ⟨hUj,by rw [hNd];omega⟩) (by rw [hNd];omega) (by rw [hNd];omega) (by omega) (by rw [hNd];omega) (by rw [hNd];omega)
    refine⟨s,?_,hs2⟩;rw [hpo];simp only;rw [hno];exact hs1
end Q
end
section
namespace Q
open MP Go Go.Proofs.YtopclbeomcggiaaGreat
theorem VJ {G:List ai->List ai->Option (List ai)} {a b r:List ai} (h:zy G a b=some r):QB G a b=some r:=by
 unfold zy at h;unfold QB;split at h
 ·rename_i h1;rw [if_pos h1];exact h
 rename_i h1;rw [if_neg h1];split at h
 ·rename_i h2;rw [if_pos h2];exact h
 rename_i h2;rw [if_neg h2];split at h
 ·rename_i h3;rw [if_pos h3];exact h
 rename_i h3;rw [if_neg h3];obtain⟨v,hv,h⟩:=aS h;rw [hv];simp only [eB];split at h
 ·rename_i h4;rw [if_pos h4];exact h
 rename_i h4;rw [if_neg h4];split at h
 ·rename_i h5;rw [if_pos h5];exact h
 rename_i h5;rw [if_neg h5];obtain⟨x,hx,h⟩:=aS h;obtain⟨y,hy,h⟩:=aS h;obtain⟨g,hg,h⟩:=aS h;obtain⟨p,hp,h⟩:=aS h;obtain⟨q,hq,h⟩:=aS h;split at h
 ·cases h
 rw [hx,hy];simp only;rw [hg];simp only;rw [hp,hq];exact h
theorem zU:∀ n,Mw (Dc n)
 | 0=>fun _ _ _ h=>by cases h
 | n+1=>fun a b r h=>TD (zU n) a b r (VJ h)
theorem Jc {v:Nat} {a b:MP} (h:0<a.deg v\/0<b.deg v) (la:a.lo (v+1)) (lb:b.lo (v+1)):∀ n,n<=4->v<n->rP [a.l,b.l] n=some v
 | 0,_,h=>by omega
 | n+1,hn,hv=>by
  rw [rP];rcases Nat.eq_or_lt_of_le (show v<=n by omega) with e|hlt
  ·subst e;rw [if_pos];simp only [List.any_cons,List.any_nil,Bool.or_false,Bool.or_eq_true,decide_eq_true_eq];exact h
  ·rw [if_neg]
   ·exact Jc h la lb n (by omega) hlt
   ·simp only [List.any_cons,List.any_nil,Bool.or_false,Bool.or_eq_true,decide_eq_true_eq,not_or];have h1:a.deg n<=0:=la n (by omega) (by omega);have h2:b.deg n<=0:=lb n (by omega) (by omega);exact⟨by show ¬ 0<a.deg n;omega,by show ¬ 0<b.deg n;omega⟩
theorem ED {v:Nat} {L:rU} (h:tO v L) {a x p:MP} (a0:a≠0) (la:a.lo (v+1)) (da:Dg (iB v L.d L.M) a) (ia:In L.b a) (e:a=x*p) (hx:hd x=1) (hxl:v=0->x=1):In (L.b1 v) p:=by
 unfold rU.b1;split
 ·rename_i hv0;have e1:a=p:=by rw [e,hxl hv0];grind
  rw [<- e1];exact ia
 ·exact ia.quot (n:=v+1) (by have:=h.hv;omega) a0 (e.trans (jU x p)) hx la da h.k0
theorem MX {v:Nat} {L:rU} (h:tO v L) {G:List ai->List ai->Option (List ai)} (hG:Mw G) (hX:OQ (iB v L.E 0) L.bE G)
  {p q:MP} (pp:p.prim v) (pq:q.prim v) (dp:Dg (iB v L.d L.M) p) (dq:Dg (iB v L.d L.M) q) (ip:In (L.b1 v) p) (iq:In (L.b1 v) q) (hqd:1<=q.deg v) (hpq:q.deg v<=p.deg v) :
  ∃ s:MP,zx G p.l q.l v=some s.l/\In (L.mu v (2*L.M)) s:=by
 have hv:=h.hv;have p0:=dY pp;have q0:=dY pq;have hM:=dp.top hv;have hM2:=dq.top hv;have hfl:=h.fl;have e1:aG p.l v=p.deg v:=rfl;have e2:aG q.l v=q.deg v:=rfl;have e3:L.mu v 1=L.b1 v:=if_pos rfl;have hmu:L.b1 v<=L.mu v (2*L.M):=by rw [<- e3];exact Ja h (Nat.le_refl _) (by have:=h.dE.2.2.2;omega) (Nat.le_refl _)
 obtain⟨m,hm⟩:=vD (a:=p.l) (b:=q.l) (v:=v) (by omega) (by omega) [0,1,2];obtain⟨r,hr⟩:=TM hv q0 (dp.low hv) hM (dq.low hv) dp.lo dq.lo ip iq h.dv.1 h.dv.2;unfold zx yf;rw [hm];simp only;split
 ·exact⟨1,by rw [uy],In.one _⟩
 ·rw [hr];simp only;split
  ·exact⟨q,rfl,iq.mono hmu⟩
  ·exact Jb h hG hX p0 q0 dp.lo dq.lo (dp.low hv) (dq.low hv) ip iq hM hM2 fuel p q 1 (by omega) .base pp pq dp.lo dq.lo
    (fun w hw=>by have:=dp.low hv w hw;omega) (fun w hw=>by have:=dq.low hv w hw;omega) (by rw [e3];exact ip) (by rw [e3];exact iq) (Nat.le_refl _) (by have:=h.dE.2.2.2;omega) (.inl rfl) hqd hpq hM hpq (Int.le_refl _)
theorem MZ {v:Nat} {L:rU} (h:tO v L) {G:List ai->List ai->Option (List ai)} (hG:Mw G) (hX:OQ (iB v L.E 0) L.bE G) (hlow:OQ (iB v L.E 0) L.bE (zy G)):OQ (iB v L.d L.M) L.b (zy G):=fun a b da db ia ib=>by
 have hv:=h.hv;have hdE:=h.dE;have hx2:=h.x2
 have hbd:bx (iB v L.d L.M)<=10000:=by
  rw [Gg hv];exact Nat.le_trans (Nat.mul_le_mul_left _ (Nat.pow_le_pow_left (by omega) v)) h.bP
 have hb1:L.b<=L.b1 v:=by unfold rU.b1;split <;> omega
 have hbL:L.b<LB:=by omega
 have hbr:L.b<=L.bE:=by unfold rU.bE;omega
 have low0:∀ p:MP,Dg (iB v L.d L.M) p->p.deg v<=0->Dg (iB v L.E 0) p:=fun p dp hp=>KP dp.lo (fun w hw=>by have:=dp.low hv w hw;omega) hp;by_cases hfr:a.deg v<=0/\b.deg v<=0
 ·exact hlow a b (low0 a da hfr.1) (low0 b db hfr.2) (ia.mono hbr) (ib.mono hbr)
 unfold zy;split
 ·exact⟨_,qO db ib hbd hbL⟩
 rename_i ha;have a0:a≠0:=fun e=>ha (zero_iff.1 e);split
 ·exact⟨_,qO da ia hbd hbL⟩
 rename_i hb;have b0:b≠0:=fun e=>hb (zero_iff.1 e);split
 ·exact⟨_,rfl⟩
 have hhi:QA [a.l,b.l]=some v:=Jc (by omega) da.lo db.lo 4 (by omega) hv;rw [hhi];simp only [eB];have dlE:∀ p:MP,Dg (iB v L.d L.M) p->∀ w,w<v->p.deg w<=L.E:=fun p dp w hw=>by have:=dp.low hv w hw;omega
 obtain⟨x,x1,x2,x3,x4⟩:=Cz h hdE.2.1 hG hX da.lo (dlE a da) ia;obtain⟨y,y1,y2,y3,y4⟩:=Cz h hdE.2.1 hG hX db.lo (dlE b db) ib;obtain⟨x5,x6⟩:=x4 a0;obtain⟨y5,y6⟩:=y4 b0;have hcz:L.cz v L.b<=L.bE:=Us hdE.2.1;split
 ·rename_i h0;rw [x1];exact hX x b x5 (low0 b db (Int.le_of_eq h0)) (x6.mono hcz) (ib.mono hbr)
 rename_i hb1';split
 ·rename_i h0;rw [y1];exact hX a y (low0 a da (Int.le_of_eq h0)) y5 (ia.mono hbr) (y6.mono hcz)
 rename_i ha1';rw [x1,y1];simp only;obtain⟨g',hg'⟩:=hX x y x5 y5 (x6.mono hcz) (y6.mono hcz);obtain⟨g,rfl,hg⟩:=hG x y _ hg';obtain⟨p,ep,pp,x0⟩:=mr x2 a0;obtain⟨q,eq,pq,y0⟩:=mr y2 b0;have p0:=dY pp;have q0:=dY pq
 have hxl:∀ z:MP,v=0->hd z=1->Dg (iB v L.E 0) z->z=1:=fun z e h1 h2=>by
  subst e;obtain⟨r,rfl⟩:=mR h2.lo0;have hr:r≠0:=fun e=>by rw [e,Pv] at h1;cases h1
  have h1':=uw hr 1;have h2':c r*1=c r:=by grind
  rw [h2',h1,KE,Rat.one_mul] at h1';rw [<- h1',AQ]
 have ip:=ED h a0 da.lo da ia ep (x3 x0) (fun e=>hxl x e (x3 x0) x5);have iq:=ED h b0 db.lo db ib eq (y3 y0) (fun e=>hxl y e (y3 y0) y5);have hop:=Ck x0 (ep.trans (jU x p)) da hbd ip x6 hx2;have hoq:=Ck y0 (eq.trans (jU y q)) db hbd iq y6 hx2;have hpn:¬ (p.l=[]\/q.l=[]):=fun e=>e.elim (fun e=>p0 (zero_iff.2 e)) fun e=>q0 (zero_iff.2 e);rw [hg',hop,hoq];simp only;rw [if_neg hpn];have dp:Dg (iB v L.d L.M) p:=da.dvd a0 ⟨x,ep.trans (jU x p)⟩;have dq:Dg (iB v L.d L.M) q:=db.dvd b0 ⟨y,eq.trans (jU y q)⟩;have hpd:p.deg v=a.deg v:=by rw [ep,deg_mul x0 p0,uQ x2.f x0];omega
 have hqd:q.deg v=b.deg v:=by rw [eq,deg_mul y0 q0,uQ y2.f y0];omega
 have ha2:=deg_pos a0 v;have hb2:=deg_pos b0 v;have ha3:a.deg v≠0:=ha1';have hb3:b.deg v≠0:=hb1'
 have hs:∃ s:MP,C9 G p.l q.l v=some s.l/\In (L.mu v (2*L.M)) s:=by
  unfold C9;split
  ·rename_i hlt;have hlt:p.deg v<q.deg v:=hlt;exact MX h hG hX pq pp dq dp iq ip (by omega) (by omega)
  ·rename_i hlt;have hlt:¬ p.deg v<q.deg v:=hlt;exact MX h hG hX pp pq dp dq ip iq (by omega) (by omega)
 obtain⟨s,s1,s2⟩:=hs;rw [s1];simp only;have e3:L.mu v 1=L.b1 v:=if_pos rfl;have hfin:=h.fin;have hmu:L.b1 v<=L.mu v (2*L.M):=by rw [<- e3];exact Ja h (Nat.le_refl _) (by omega) (Nat.le_refl _)
 have wp0:Wp p.l:=jS (rT dp ip hbd (by omega));have wq0:Wp q.l:=jS (rT dq iq hbd (by omega));obtain⟨s',es,hsg⟩:=ME hG hv wp0 wq0 dp.lo dq.lo pp pq s1;have es':s=s':=MP.eq_of es;subst es';have hgs:g*s∣a:=by rw [ep];exact mul_dvd hg.i.l hsg.l
 have g0:=dvd_ne x0 hg.i.l
 have ig:In L.bE g:=by
  obtain⟨h1,h2⟩:=KT h da.lo (dlE a da) ia (a.deg v).toNat;have h3:g∣a.lc v:=dvd_trans hg.i.l ((dvd_iff_co x2.f a).1 x2.d _);exact (Cy h (hg.n g0) (lc_ne a0 v) h3 h1 h2).2.mono hcz
 have im:=ig.mul s2;have dm:Dg (iB v L.d L.M) (g*s):=da.dvd a0 hgs;have hw:=MI (rT dm im hbd hfin);have hw2:g1 (aQ g.l s.l)=some (g*s).l:=hw;rw [hw2];exact⟨_,qO dm im hbd hfin⟩
theorem M4 {b:Nat} (hb:b<LB) {d:Nat->Nat} (hd:∀ w,w<4->d w=0) (n:Nat):OQ d b (Dc (n+1)):=fun x y dx dy ix iy=>by
 have hbx:bx d<=10000:=by unfold bx;rw [hd 0,hd 1,hd 2,hd 3] <;> omega
 have hc:∀ z:MP,Dg d z->z.l≠[]->kL z.l=true:=fun z dz hz=>by
  have hl:z.lo 0:=fun w _ h4=>by have:=dz w h4;rw [hd w h4] at this;exact this
  obtain⟨r,rfl⟩:=mR hl;have e:(c r).l=bX r:=rfl;rw [e] at hz ⊢;unfold bX at hz ⊢;split
  ·rename_i h;rw [if_pos h] at hz;exact absurd rfl hz
  ·rfl
 show ∃ r,zy (Dc n) x.l y.l=some r;unfold zy;split
 ·exact⟨_,qO dy iy hbx hb⟩
 rename_i h1;split
 ·exact⟨_,qO dx ix hbx hb⟩
 rw [if_pos (.inl (hc x dx h1))];exact⟨_,rfl⟩
theorem OQ.mono {d d':Nat->Nat} {b b':Nat} {G:List ai->List ai->Option (List ai)} (h:OQ d b G) (hd:∀ w,d' w<=d w) (hb:b'<=b):OQ d' b' G:=fun x y dx dy ix iy=>h x y (dx.mono hd) (dy.mono hd) (ix.mono hb) (iy.mono hb)
def X4 (L:Nat->rU):Nat->Prop
 | 0=>tO 0 (L 0)
 | v+1=>tO (v+1) (L (v+1))/\(L (v+1)).E<=(L v).d/\(L (v+1)).E<=(L v).M/\(L (v+1)).bE<=(L v).b/\X4 L v
theorem KU {L:Nat->rU}:∀ (v:Nat),X4 L v->∀ n,OQ (iB v (L v).d (L v).M) (L v).b (Dc (n+v+2))
 | 0,h,n=>by
  have h0:tO 0 (L 0):=h;have hz:∀ w,w<4->iB 0 (L 0).E 0 w=0:=fun w _=>by unfold iB;rw [if_neg (by omega)];split <;> rfl
  have hb:(L 0).bE<LB:=by have:=h0.fin;omega
  exact MZ h0 (zU (n+1)) (M4 hb hz n) (M4 hb hz (n+1))
 | v+1,h,n=>by
  obtain⟨h1,h2,h3,h4,h5⟩:=h
  have hd:∀ w,iB (v+1) (L (v+1)).E 0 w<=iB v (L v).d (L v).M w:=fun w=>by
   unfold iB;by_cases a1:w<v
   ·rw [if_pos (by omega),if_pos a1];exact h2
   ·by_cases a2:w=v
    ·rw [if_pos (by omega),if_neg a1,if_pos a2];exact h3
    ·rw [if_neg (by omega),if_neg a1,if_neg a2];split <;> exact Nat.le_refl _
  have g1:=(KU v h5 n).mono hd h4;have g2:=(KU v h5 (n+1)).mono hd h4;have e1:n+(v+1)+2=(n+v+2)+1:=by omega
  have e2:n+1+v+2=(n+v+2)+1:=by omega
  rw [e2] at g2;rw [e1];exact MZ h1 (zU _) g1 g2
end Q
end
section
namespace Q
open MP Go.Proofs.YtopclbeomcggiaaGreat
def Xe (n:Nat):Nat:=n.log2+1
def kb (d:Nat):Nat:=d*(Xe (4*d+3)+Xe (2*d+1))
def X5 (v M d b E br P:Nat):rU where
 M:=M
 d:=d
 b:=b
 E:=E
 br:=br
 kE:=v*kb E
 k0:=v*kb d+kb M
 lM:=Xe M
 P:=P
 R:=fun U=>if v=0 then 1 else 2*U*d+1
 l2:=fun U=>Xe (2*U*(if v=0 then 1 else 2*U*d+1) ^ v)
 xi:=fun U=>(Xe (2*U*(if v=0 then 1 else 2*U*d+1) ^ v)+(if v=0 then b else b+(b+(v*kb d+kb M))))*((U-1)*((if v=0 then 1 else 2*U*d+1)+d) ^ v) / (U*(if v=0 then 1 else 2*U*d+1) ^ v-(U-1)*((if v=0 then 1 else 2*U*d+1)+d) ^ v)+1
 kap:=fun U=>v*kb ((if v=0 then 1 else 2*U*d+1)-1+d)+kb M
def Yh (v:Nat) (L:rU):Bool :=
 decide (v<4) && decide (L.M<=2 ^ L.lM) && decide (tC (iB v L.d L.M) (v+1)<=2 ^ L.k0) && decide (tC (iB v L.E 0) v<=2 ^ L.kE)
 && decide (∀ U,U<2*L.M->1<=U->L.mu v U<=L.mu v (U+1))
 && decide (∀ U,U<2*L.M+1->2<=U->0<L.R U/\2*U*L.R U ^ v<=2 ^ L.l2 U/\(L.l2 U+L.b1 v+L.xi U)*((U-1)*(L.R U+L.d) ^ v)<L.xi U*(U*L.R U ^ v)/\tC (iB v (L.R U-1+L.d) L.M) (v+1)<=2 ^ L.kap U)
 && decide ((L.M+1)*(1*L.d)<=L.P/\(L.M+1)*(L.b1 v+1)+L.lM<LB)
 && decide (∀ k,k<L.M+1->2<=k->(k+1)*(L.U k*L.d)<=L.P/\(k+1)*(L.mu v (L.U k)+1)+L.lM<LB)
 && decide ((L.M+1)*(L.P+1) ^ v<=10000) && decide (L.M*(1*L.d)<=L.E/\L.M*(L.b1 v+1)+L.lM<=L.br)
 && decide (∀ k,k<L.M+1->3<=k->k*(L.U k*L.d)<=L.E/\k*(L.mu v (L.U k)+1)+L.lM<=L.br)
 && decide (L.d<=L.E/\L.b<=L.br/\L.E<=L.P/\1<=L.M) && decide (L.br+L.mu v (2*L.M)+L.cz v L.br<LB) && decide (L.b1 v+L.cz v L.b<LB)
 && decide (bx (TL v L.d (Rj v L.d L.M))<=10000/\L.b1 v+L.b1 v+(bx (TL v L.d (Rj v L.d L.M))+1)*(L.b1 v+1)<LB)
 && decide (L.bE+L.mu v (2*L.M)<LB) && decide (L.M+1<fuel)
theorem KV {v:Nat} {L:rU} (h:Yh v L=true):tO v L:=by
 simp only [Yh,Bool.and_eq_true,decide_eq_true_eq] at h;obtain⟨⟨⟨⟨⟨⟨⟨⟨⟨⟨⟨⟨⟨⟨⟨⟨h1,h2⟩,h3⟩,h4⟩,h5⟩,h6⟩,h7⟩,h8⟩,h9⟩,h10⟩,h11⟩,h12⟩,h13⟩,h14⟩,h15⟩,h16⟩,h17⟩:=h;exact⟨h1,h2,h3,h4,h5,h6,h7,h8,h9,h10,h11,h12,h13,h14,h15,h16,h17⟩
def L8:Nat->rU
 | 0=>X5 0 320 320 136492 16486400 7033665291 16589440
 | 1=>X5 1 8 8 712 320 129772 400
 | _=>X5 2 2 4 90 8 536 24
theorem X6:tO 0 (L8 0):=KV (by decide +kernel)
theorem X7:tO 1 (L8 1):=KV (by decide +kernel)
theorem X8:tO 2 (L8 2):=KV (by decide +kernel)
theorem Xf:X4 L8 2:=⟨X8,by decide +kernel,by decide +kernel,by decide +kernel,X7,by decide +kernel,by decide +kernel,by decide +kernel,X6⟩
def D8:Nat->Nat:=iB 2 4 2
theorem X9 {a b:MP} (da:Dg D8 a) (db:Dg D8 b) (ia:In 90 a) (ib:In 90 b):∃ g:MP,Dc 6 a.l b.l=some g.l/\NG g a b:=by
 obtain⟨r,hr⟩:=KU 2 Xf 2 a b da db ia ib;obtain⟨g,rfl,hg⟩:=zU 6 a b r hr;exact⟨g,hr,hg⟩
structure Dm (p:MP):Prop where
 e:∀ t∈p.l,(0<=t.1.1/\t.1.1<=2)/\(0<=t.1.2.1/\t.1.2.1<=2)/\(0<=t.1.2.2.1/\t.1.2.2.1<=1)/\t.1.2.2.2=0
 i:qw 1 15 p
def VK (L:List uK):MP:=⟨FT L,fD _⟩
theorem Jd (L:List uK):Dm (VK L):=by
 have hb:=(BR L).canon;refine⟨gL (P:=fun e=>(0<=e.1/\e.1<=2)/\(0<=e.2.1/\e.2.1<=2)/\(0<=e.2.2.1/\e.2.2.1<=1)/\e.2.2.2=0) fun t ht=>?_,hb.d,?_⟩
 ·obtain⟨s,hs,rfl⟩:=List.mem_map.1 ht;show (0<=s.1 % 256 % 3/\s.1 % 256 % 3<=2)/\(0<=s.2.1 % 256 % 3/\s.2.1 % 256 % 3<=2)/\(0<=s.2.2.1 % 256 % 2/\s.2.2.1 % 256 % 2<=1)/\(0:Int)=0;omega
 ·rw [show ((1:Nat):Rat)=1 from rfl,Rat.one_mul];exact hb.b
structure Dq (H:Nat) (p:MP):Prop where
 d:Dg D8 p
 i:qw 1 H p
theorem Rl:D8 0=4/\D8 1=4/\D8 2=2/\D8 3=0:=by decide
theorem Dm.dq {p:MP} (h:Dm p):Dq 15 p:=by
 refine⟨MH fun t ht=>⟨(p.v.2 t ht).2,fun w hw=>?_⟩,h.i⟩;have h1:=h.e t ht;obtain⟨e0,e1,e2,e3⟩:=Rl;obtain rfl|rfl|rfl|rfl:w=0\/w=1\/w=2\/w=3:=by omega
 ·rw [e0];show t.1.1<=_;omega
 ·rw [e1];show t.1.2.1<=_;omega
 ·rw [e2];show t.1.2.2.1<=_;omega
 ·rw [e3];show t.1.2.2.2<=_;omega
theorem Xg {p:MP} (h:Dg D8 p):p.lo 3:=h.lo
theorem Xh:tC D8 3<=2 ^ 72:=by decide +kernel
theorem Yi:bx D8=75:=by decide +kernel
theorem Dq.in {H b:Nat} {p:MP} (h:Dq H p) (hb:H<=2 ^ b):In b p:=⟨1,H,by omega,Nat.one_le_two_pow,hb,h.i⟩
theorem TN {x:Rat} (h:Dv 1 x) (h0:x≠0):1<=bH x:=by
 obtain⟨z,rfl⟩:=gH h;exact MP.rabs_int fun e=>h0 (by rw [e];rfl)
theorem VL {H:Nat} {f g q:MP} (h:Dq H f) (f0:f≠0) (e:f=g*q) (hg:hd g=1):∃ z:Nat,0<z/\z<=H/\qw z (2 ^ 72*H) g/\qw 1 (z*(2 ^ 72*H)) q:=by
 have g0:g≠0:=fun h=>f0 (by rw [e,h];grind);have q0:q≠0:=fun h=>f0 (by rw [e,h];grind);obtain⟨r,hr,hp⟩:=Qb g0;have hri:c r*c r⁻¹=1:=by rw [lv,Rat.mul_inv_cancel _ hr];rfl
 have hrv:r⁻¹≠0:=fun h=>by have:=Rat.mul_inv_cancel _ hr;rw [h] at this;grind
 have e2:f=(c r*g)*(c r⁻¹*q):=by rw [e];grind
 have iQ:=J6 h.i.d hp e2;have Q0:c r⁻¹*q≠0:=mul_ne (wI hrv) q0;have G0:c r*g≠0:=mul_ne (wI hr) g0;have ham:f.am<=(H:Rat):=by have:=h.i.a;rwa [show ((1:Nat):Rat)=1 from rfl,Rat.one_mul] at this
 have hk:∀ x y:MP,f=x*y->x.dv 1->y.dv 1->qw 1 (2 ^ 72*H) x:=fun x y e ix iy=>by
  refine⟨ix,?_⟩;have:=MP.fac D8 3 (by omega) _ _ _ e f0 ix iy (Xg h.d) fun w hw=>h.d w (by omega);rw [show ((1:Nat):Rat)=1 from rfl,Rat.one_mul,Rat.natCast_mul];exact Rat.le_trans this (pG (zf Xh) ham (bW _) (bW _))
 have hG:=hk _ _ e2 hp.1 iQ;obtain⟨z,z1,z2,z3,z4⟩:=hG.nrm (by omega) G0;rw [I4 hr,MU hg] at z4;rw [show ((1:Nat):Rat)=1 from rfl,Rat.one_mul] at z2;have ehd:hd f=hd (c r*g)*hd (c r⁻¹*q):=by rw [e2,FY G0 Q0]
 have lY:1<=bH (hd (c r⁻¹*q)):=by
  obtain⟨t,ht,et⟩:=yA Q0;exact TN (by rw [et];exact iQ t ht) (ze Q0)
 have hzH:z<=H:=by
  refine Rat.natCast_le_natCast.1 ?_;rw [z2];have h1:=Rat.mul_le_mul_of_nonneg_left lY (eu (hd (c r*g)));rw [<- jo,<- ehd,Rat.mul_one] at h1;exact Rat.le_trans h1 (Rat.le_trans (MF f0) ham)
 refine⟨z,z1,hzH,z4,?_⟩;have hQ:=hk _ _ (e2.trans (jU _ _)) iQ hp.1;have mY:hd (c r*g)=r:=by rw [uw hr,hg,Rat.one_mul]
 have eq:q=c r*(c r⁻¹*q):=by grind
 have ir:Dv 1 r:=by
  obtain⟨t,ht,et⟩:=yA G0;rw [<- mY,et];exact hp.1 t ht
 have i1:qw 1 z (c r):=⟨NU ir,by rw [Ij,show ((1:Nat):Rat)=1 from rfl,Rat.one_mul,z2,mY];exact Rat.le_refl⟩;have:=i1.mul hQ;rw [<- eq,Nat.one_mul] at this;exact this
def VW (D:Nat):Sz:=⟨D,2 ^ 200,4,75⟩
theorem VM {D H:Nat} {p:MP} (h:qw D H p) (hD:0<D) (hd:Dg D8 p) (hH:H<=2 ^ 200):Bd (VW D) p.l:=by
 refine⟨by have:=hd.len;rw [Yi] at this;exact this,fun t ht=>?_,h.d,?_⟩
 ·have h1:=(hd.inB t ht).2;have h0:=Ex.nat_iff.1 (hd.inB t ht).1;obtain⟨e0,e1,e2,e3⟩:=Rl;have a0:=h1 0 (by omega);have a1:=h1 1 (by omega);have a2:=h1 2 (by omega);have a3:=h1 3 (by omega);rw [e0] at a0;rw [e1] at a1;rw [e2] at a2;rw [e3] at a3;simp only [Ex.get] at a0 a1 a2 a3;simp only [VW];omega
 ·have h1:p.am<=(D:Rat)*p.am:=by
   have h2:(1:Rat)<=(D:Rat):=oJ hD;have:=Rat.mul_le_mul_of_nonneg_right h2 p.am_nonneg;rwa [Rat.one_mul] at this
  exact Rat.le_trans h1 (Rat.le_trans h.a (zf hH))
theorem Rm {D:Nat} (h:0<D) (h':D<65536):(VW D).ok:=⟨h,h',by show 2 ^ 200<2 ^ 1000;exact Vx,by show 4<1000000;omega,by show 75<1000000;omega⟩
theorem Ut {H:Nat} {f g:MP} (h:Dq H f) (hH:H<=225) (f0:f≠0) (hd:g∣f) (hg:Q.hd g=1):∃ z,0<z/\z<=H/\Pk (VW z) g.l:=by
 obtain⟨q,e⟩:=hd;obtain⟨z,z1,z2,z3,-⟩:=VL h f0 e hg;have h1:=Nat.mul_le_mul_left (2 ^ 72) hH;exact⟨z,z1,z2,g.v,VM z3 z1 (h.d.dvd f0 ⟨q,e⟩) (Nat.le_trans h1 (by decide +kernel)),Rm z1 (by omega)⟩
theorem TP:Pk (VW 1) (0:MP).l:=⟨(0:MP).v,Bd.nil _,Rm (by omega) (by omega)⟩
theorem Xi {H:Nat} {a b g:MP} (ha:Dq H a) (hb:Dq H b) (hH:H<=225) (hg:NG g a b):∃ z,0<z/\z<=225/\Pk (VW z) g.l:=by
 by_cases g0:g=0
 ·rw [g0];exact⟨1,by omega,by omega,TP⟩
 ·by_cases a0:a=0
  ·by_cases b0:b=0
   ·exact absurd (zero_dvd (hg.i.u 0 (by rw [a0];exact dvd_refl 0) (by rw [b0];exact dvd_refl 0))) g0
   ·obtain⟨z,z1,z2,z3⟩:=Ut hb hH b0 hg.i.r (hg.n g0);exact⟨z,z1,by omega,z3⟩
  ·obtain⟨z,z1,z2,z3⟩:=Ut ha hH a0 hg.i.l (hg.n g0);exact⟨z,z1,by omega,z3⟩
theorem Yj {p:MP} (hd:Dg D8 p) (hi:In 90 p):Wp p.l:=jS (rT hd hi (by rw [Yi];omega) (by rw [D9];omega))
theorem Dq.in90 {H:Nat} {p:MP} (h:Dq H p) (hH:H<=225):In 90 p:=h.in (Nat.le_trans hH (by decide +kernel))
structure An (a b g:MP):Prop where
 e:Dc 6 a.l b.l=some g.l
 wa:Wp a.l
 wb:Wp b.l
def dR (M:Mx) (k:Nat):Mx:=M.tail.map fun r=>r.take k++r.drop (k+1)
def uG (f:Nat->List ai) (row:List (List ai)):Nat->List ai
 | 0=>[]
 | k+1=>if row.getD k []=[] then uG f row k else lN (uG f row k) (if k % 2=1 then dK [] (aQ (row.getD k []) (f k)) else aQ (row.getD k []) (f k))
def mH:Nat->Mx->List ai
 | 0,_=>nP
 | n+1,M=>uG (fun k=>mH n (dR M k)) (M.getD 0 []) (n+1)
structure Dt (u n:Nat) (M:Mx):Prop where
 len:M.length=n
 rows:∀ r∈M,r.length=n
 el:∀ r∈M,∀ c∈r,En u 15 2 c
theorem Dt.minor {u n k:Nat} {M:Mx} (h:Dt u (n+1) M) (hk:k<n+1):Dt u n (dR M k):=by
 refine⟨by rw [dR,List.length_map,List.length_tail,h.len];omega,fun r hr=>?_,fun r hr c hc=>?_⟩
 ·obtain⟨s,hs,rfl⟩:=List.mem_map.1 hr;have:=h.rows s (List.mem_of_mem_tail hs);rw [List.length_append,List.length_take,List.length_drop,this];omega
 ·obtain⟨s,hs,rfl⟩:=List.mem_map.1 hr;refine h.el s (List.mem_of_mem_tail hs) c ?_;rcases List.mem_append.1 hc with hc|hc
  ·exact List.mem_of_mem_take hc
  ·exact List.mem_of_mem_drop hc
theorem Dt.get {u n:Nat} {M:Mx} (h:Dt u n M) (i j:Nat):En u 15 2 (gI M i j):=by
 unfold gI;rcases Nat.lt_or_ge i M.length with hi|hi
 ·rw [List.getD_eq_getElem?_getD (l:=M),List.getElem?_eq_getElem hi,Option.getD_some];rcases Nat.lt_or_ge j M[i].length with hj|hj
  ·rw [List.getD_eq_getElem?_getD,List.getElem?_eq_getElem hj];exact h.el _ (List.getElem_mem hi) _ (List.getElem_mem hj)
  ·rw [List.getD_eq_getElem?_getD,List.getElem?_eq_none hj];exact En.nil _ _ _
 ·rw [List.getD_eq_getElem?_getD (l:=M),List.getElem?_eq_none hi];simp;exact En.nil _ _ _
theorem Ox {u n k:Nat} {M:Mx} (h:Dt u (n+1) M) (hk:k<n+1) {i j:Nat} (hi:i<n) (hj:j<n):gI (dR M k) i j=gI M (i+1) (qB k j):=by
 have hl:=h.len;have h1:M[i+1]?=some (M[i+1]'(by omega)):=List.getElem?_eq_getElem _;have hr:(M[i+1]'(by omega)).length=n+1:=h.rows _ (List.getElem_mem _);unfold gI dR;rw [List.getD_eq_getElem?_getD (l:=List.map _ _),List.getElem?_map,List.getElem?_tail,h1,List.getD_eq_getElem?_getD (l:=M),h1];simp only [Option.map_some,Option.getD_some];generalize M[i+1]'(by omega)=r at hr;rw [List.getD_eq_getElem?_getD,List.getD_eq_getElem?_getD,List.getElem?_append,List.length_take,hr];unfold qB;by_cases hjk:j<k
 ·rw [if_pos (by omega),if_pos hjk,List.getElem?_take,if_pos hjk]
 ·rw [if_neg (by omega),if_neg hjk,List.getElem?_drop];congr 2;omega
def Xj:Nat->Nat
 | 0=>1
 | n+1=>(n+1)*(15*Xj n)
theorem Gh {u B E N:Nat} (hu:u<4) {f:Nat->List ai} {row:List (List ai)} (hf:∀ k,k<N->En u B E (f k)) (hr:∀ k,En u 15 2 (row.getD k [])):∀ k,k<=N->En u (k*(15*B)) (2+E) (uG f row k)
 | 0,_=>En.nil _ _ _
 | k+1,hk=>by
  have ih:=Gh hu hf hr k (by omega);have hm:=(hr k).mul (hf k (by omega)) hu;rw [uG];split
  ·exact ih.mono (Nat.mul_le_mul_right _ (by omega)) (Nat.le_refl _)
  ·refine (ih.add (B':=15*B) (E':=2+E) ?_ hu).mono (by rw [Nat.add_mul,Nat.one_mul];exact Nat.le_refl _) (by omega);split
   ·exact ((En.nil u 0 (2+E)).sub hm hu).mono (by omega) (by omega)
   ·exact hm
theorem Gi {u:Nat} (hu:u<4):∀ (n:Nat) (M:Mx),Dt u n M->En u (Xj n) (2*n) (mH n M)
 | 0,_,_=>En.one u
 | n+1,M,h=>by
  rw [mH,Xj];exact (Gh (N:=n+1) (row:=M.getD 0 []) hu (fun k hk=>Gi hu n _ (h.minor hk)) (fun k=>h.get 0 k) (n+1) (Nat.le_refl _)).mono (Nat.le_refl _) (by omega)
def xg:Nat->(Nat->Nat->Rat)->Rat
 | 0,_=>1
 | n+1,F=>bf (fun k=>if k % 2=1 then -(F 0 k*xg n (fun i j=>F (i+1) (qB k j))) else F 0 k*xg n (fun i j=>F (i+1) (qB k j))) (n+1)
theorem vI:∀ (n:Nat) {F G:Nat->Nat->Rat},(∀ i j,i<n->j<n->F i j=G i j)->xg n F=xg n G
 | 0,_,_,_=>rfl
 | n+1,F,G,h=>by
  rw [xg,xg];refine dC fun k hk=>?_;have e:=vI n (F:=fun i j=>F (i+1) (qB k j)) (G:=fun i j=>G (i+1) (qB k j)) fun i j hi hj=>h _ _ (by omega) (AX hj);rw [e,h 0 k (by omega) hk]
theorem M5 {u N:Nat} (x:Pt) {f:Nat->List ai} {row:List (List ai)} (hf:∀ k,k<N->aV (f k)) (hr:∀ k,aV (row.getD k [])):∀ k,k<=N->aV (uG f row k)/\ev x (uG f row k)=bf (fun k=>if k % 2=1 then -(ev x (row.getD k [])*ev x (f k)) else ev x (row.getD k [])*ev x (f k)) k
 | 0,_=>⟨aV.nil,rfl⟩
 | k+1,hk=>by
  obtain⟨h1,h2⟩:=M5 (u:=u) x hf hr k (by omega);rw [uG,bf];split
  ·next e=>refine⟨h1,?_⟩;rw [h2,e,di];split <;> grind
  ·refine⟨aV.add _ _,?_⟩;have em:=ev_mul x (hr k).nat (hf k (by omega)).nat;split
   ·rw [ev_add x h1.nat (aV.sub _ _).nat,h2,ev_sub x aV.nil.nat (aV.mul _ _),em,di];grind
   ·rw [ev_add x h1.nat (aV.mul _ _).nat,h2,em]
theorem Rn {u:Nat} (hu:u<4) (x:Pt):∀ (n:Nat) (M:Mx),Dt u n M->ev x (mH n M)=xg n (fun i j=>ev x (gI M i j))
 | 0,_,_=>by show ev x (bX 1)=1;exact lS x 1
 | n+1,M,h=>by
  rw [mH,xg,(M5 (u:=u) (N:=n+1) (row:=M.getD 0 []) x (fun k hk=>(Gi hu n _ (h.minor hk)).v) (fun k=>(h.get 0 k).v) (n+1) (Nat.le_refl _)).2];refine dC fun k hk=>?_
  have e:ev x (mH n (dR M k))=xg n (fun i j=>ev x (gI M (i+1) (qB k j))):=by
   rw [Rn hu x n _ (h.minor hk)];exact vI n fun i j hi hj=>by rw [Ox h hk hi hj]
  rw [e];rfl
def Oy (m n:Nat) (A B:Nat->Rat) (i j:Nat):Rat :=
 if n<=i then (if i-n<=j/\j<=i then B (i-j) else 0) else (if i<=j/\j<=i+m then A (i+m-j) else 0)
def zA (m n:Nat) (A B:Nat->Rat):Rat:=xg (m+n) (Oy m n A B)
theorem Oz {m n:Nat} (hm:m<=2) (hn:n<=2) (A B:Nat->Rat):zA n m B A=if m*n % 2=1 then -(zA m n A B) else zA m n A B:=by
 obtain rfl|rfl|rfl:m=0\/m=1\/m=2:=by omega
 all_goals obtain rfl|rfl|rfl:n=0\/n=1\/n=2:=by omega
 all_goals simp [zA,xg,bf,Oy,qB]
 all_goals grind
theorem Ro {n:Nat} (hn:n<=2) (A B:Nat->Rat):zA 0 n A B=A 0 ^ n:=by
 obtain rfl|rfl|rfl:n=0\/n=1\/n=2:=by omega
 all_goals simp [zA,xg,bf,Oy,qB]
 all_goals grind
theorem Rp {n:Nat} (hn:n<=2) (A B:Nat->Rat) {c:Rat} (h:A 0=-(c*A 1)):zA 1 n A B=A 1 ^ n*bf (fun i=>B i*c ^ i) (n+1):=by
 obtain rfl|rfl|rfl:n=0\/n=1\/n=2:=by omega
 all_goals simp [zA,xg,bf,Oy,qB,h]
 all_goals grind
theorem Rq {n:Nat} (hn:n<=2) (A B:Nat->Rat) {c1 c0:Rat} (h1:A 1=c1*A 2) (h0:A 0=c0*A 2):zA 2 n A B=A 2 ^ n*nu c1 c0 (bf (fun i=>B i*(gq c1 c0 i).1) (n+1)) (bf (fun i=>B i*(gq c1 c0 i).2) (n+1)):=by
 obtain rfl|rfl|rfl:n=0\/n=1\/n=2:=by omega
 all_goals simp [zA,xg,bf,Oy,qB,h1,h0,gq,nu]
 all_goals grind
def oQ (a b:List ai) (v:Nat):List ai :=
 if a=[]\/b=[] then [] else mH ((aG a v).toNat+(aG b v).toNat) (vJ (aB a v) (aB b v))
section
variable {u v:Nat} {a b:List ai}
theorem Rt {B E:Nat} (hu:u<4) (hv:v<4) (huv:u≠v) (hp:vH u v B E a) (i j:Nat):En u B E (iJ (aB a v) i j):=by
 rw [iJ];split
 ·next h =>
  rw [aW] at h;rw [aW,ja (by omega)];exact hp.coeff hu hv huv _
 ·exact En.nil _ _ _
theorem Ru (va:aV a) (vb:aV b) (na:a≠[]) (nb:b≠[]):zP ((aG a v).toNat+(aG b v).toNat) (vJ (aB a v) (aB b v)) (gz (aB a v) (aB b v) (aG b v).toNat) :=
 ML (by rw [aW];have:=kX va na v;omega) (by rw [aW];have:=kX vb nb v;omega)
theorem KW (hu:u<4) (hv:v<4) (huv:u≠v) (ha:vH u v 15 2 a) (hb:vH u v 15 2 b) (na:a≠[]) (nb:b≠[]):Dt u ((aG a v).toNat+(aG b v).toNat) (vJ (aB a v) (aB b v)):=by
 have h:=Ru (v:=v) ha.vl hb.vl na nb;refine⟨h.len,h.rows,fun r hr c hc=>?_⟩;obtain⟨i,hi,rfl⟩:=List.mem_iff_getElem.1 hr;obtain⟨j,hj,rfl⟩:=List.mem_iff_getElem.1 hc;have hi':=hi;have hj':=hj;rw [h.len] at hi';rw [h.rows _ hr] at hj';have e:=h.el i j hi' hj';unfold gI at e;rw [List.getD_eq_getElem?_getD (l:=vJ _ _),List.getElem?_eq_getElem hi,Option.getD_some,List.getD_eq_getElem?_getD,List.getElem?_eq_getElem hj,Option.getD_some] at e;rw [e,gz];split
 ·exact Rt hu hv huv hb _ _
 ·exact Rt hu hv huv ha _ _
theorem M6 (x:Pt) (na:a≠[]) (va:aV a) (i j:Nat):ev x (iJ (aB a v) i j)=if i<=j/\j<=i+(aG a v).toNat then ev x (aD a v ((i+(aG a v).toNat-j:Nat):Int)) else 0:=by
 have hd:=kX va na v;have hl:(aB a v).length=(aG a v).toNat+1:=by rw [aW];omega
 rw [iJ,hl];by_cases h:i<=j/\j<=i+(aG a v).toNat
 ·rw [if_pos h,if_pos ⟨h.1,by omega⟩,show i+((aG a v).toNat+1)-1-j=i+(aG a v).toNat-j by omega,ja (by omega)]
 ·rw [if_neg h,if_neg (by omega),di]
theorem zV (hu:u<4) (hv:v<4) (huv:u≠v) (ha:vH u v 15 2 a) (hb:vH u v 15 2 b) (na:a≠[]) (nb:b≠[]) (x:Pt) :
  ev x (oQ a b v)=zA (aG a v).toNat (aG b v).toNat (fun i=>ev x (aD a v (i:Nat))) (fun i=>ev x (aD b v (i:Nat))):=by
 have h:=Ru (v:=v) ha.vl hb.vl na nb;rw [oQ,if_neg (by rintro (e|e) <;> contradiction),Rn hu x _ _ (KW hu hv huv ha hb na nb),zA];refine vI _ fun i j hi hj=>?_;rw [h.el i j hi hj,gz,Oy];split
 ·next e =>
  rw [M6 x nb hb.vl];by_cases c:i-(aG b v).toNat<=j/\j<=i
  ·rw [if_pos c,if_pos ⟨c.1,by omega⟩];congr 2;omega
  ·rw [if_neg c,if_neg (by omega)]
 ·exact M6 x na ha.vl i j
theorem yG (hu:u<4) (hv:v<4) (huv:u≠v) (ha:vH u v 15 2 a) (hb:vH u v 15 2 b):En u (2 ^ 100) 40 (oQ a b v):=by
 rw [oQ];split
 ·exact En.nil _ _ _
 ·next h =>
  have na:a≠[]:=fun e=>h (.inl e);have nb:b≠[]:=fun e=>h (.inr e);have hm:=ha.deg na;have hn:=hb.deg nb;have hB:∀ k,k<=4->Xj k<=2 ^ 100:=by decide +kernel
  exact (Gi hu _ _ (KW hu hv huv ha hb na nb)).mono (hB _ (by omega)) (by omega)
theorem EE (x:Pt) (g:Nat->Rat) (vb:aV b) (nb:b≠[]):bf (fun i=>ev x (aD b v (i:Nat))*g i) ((aG b v).toNat+1)=Lf (fun e=>kP x (e.put v 0)*g (e.get v).toNat) b:=by
 have:=kX vb nb v;rw [xc x v g ((aG b v).toNat+1) vb.nat fun t ht=>by have:=dU ht v;omega]
theorem Rv (hu:u<4) (hv:v<4) (huv:u≠v) (ha:vH u v 15 2 a) (hb:vH u v 15 2 b):yj a b v=some (oQ a b v):=by
 by_cases h:a=[]\/b=[]
 ·rw [yj,oQ,if_pos h,if_pos h]
 have na:a≠[]:=fun e=>h (.inl e);have nb:b≠[]:=fun e=>h (.inr e);obtain⟨d,h1,h2,h3⟩:=TK hu hv huv ha (hb.mono (by omega) (by omega)) na nb;rw [h1];congr 1;have hm:=ha.deg na;have hn:=hb.deg nb;have da:=kX ha.vl na v;refine Rc h2.v (yG hu hv huv ha hb).v (ha.vl.coeff v (aG a v)) (ha.vl.coeff_ne na v) fun x hx=>?_;obtain⟨p0,p1,p2⟩:=h3 x hx;rw [zV hu hv huv ha hb na nb x];obtain h0|h0|h0:aG a v=0\/aG a v=1\/aG a v=2:=by omega
 ·rw [p0 h0,h0,show (0:Int).toNat=0 from rfl,Ro hn];rfl
 ·rw [h0] at hx;obtain⟨c,e⟩:∃ c,ev x (aD a v 0)=-(c*ev x (aD a v 1)):=⟨-(ev x (aD a v 0) / ev x (aD a v 1)),by grind⟩;rw [p1 h0 c e,h0,show (1:Int).toNat=1 from rfl,Rp hn _ _ (c:=c) e,EE x (fun i=>c ^ i) hb.vl nb,Cu];rfl
 ·rw [h0] at hx;obtain⟨c1,e1⟩:∃ c1,ev x (aD a v 1)=c1*ev x (aD a v 2):=⟨ev x (aD a v 1) / ev x (aD a v 2),by grind⟩;obtain⟨c0,e0⟩:∃ c0,ev x (aD a v 0)=c0*ev x (aD a v 2):=⟨ev x (aD a v 0) / ev x (aD a v 2),by grind⟩;rw [p2 h0 c1 c0 e1 e0,h0,show (2:Int).toNat=2 from rfl,Rq hn _ _ (c1:=c1) (c0:=c0) e1 e0,EE x (fun i=>(gq c1 c0 i).1) hb.vl nb,EE x (fun i=>(gq c1 c0 i).2) hb.vl nb];rfl
theorem Rw (hu:u<4) (hv:v<4) (huv:u≠v) (ha:vH u v 15 2 a) (hb:vH u v 15 2 b) (na:a≠[]) (nb:b≠[]) :
  oQ a b v=if ((aG a v).toNat * (aG b v).toNat) % 2=1 then dK [] (oQ b a v) else oQ b a v:=by
 have v1:=(yG hu hv huv ha hb).v;have v2:=(yG hu hv huv hb ha).v;refine kH v1 (by split;exact aV.sub _ _;exact v2) fun x=>?_;have e:=Oz (hb.deg nb) (ha.deg na) (fun i=>ev x (aD b v (i:Nat))) (fun i=>ev x (aD a v (i:Nat)));rw [<- zV hu hv huv ha hb na nb x,<- zV hu hv huv hb ha nb na x,Nat.mul_comm] at e;rw [e];split
 ·rw [ev_sub x aV.nil.nat v2,di];grind
 ·rfl
end
theorem Rx {v:Nat} {b:MP} (hb:b.fr v):∀ s:Nat,(b ^ s).fr v
 | 0=>by
  have e:b ^ 0=1:=by grind
  rw [e];exact qd v
 | s+1=>by
  have e:b ^ (s+1)=b ^ s*b:=by grind
  rw [e];exact sJ (Rx hb s) hb
theorem Ry {v:Nat}:∀ (N:Nat) (p q:MP),q≠0->(q.deg v).toNat<N->∃ S T h k:MP,S*p+T*q=h/\h≠0/\k≠0/\k.fr v/\h∣k*p/\h∣k*q
 | 0,_,_,_,hN=>by omega
 | N+1,p,q,q0,hN=>by
  by_cases hq:q.fr v
  ·exact⟨0,1,q,q,by grind,q0,q0,hq,dvd_mul_right q p,dvd_mul_right q q⟩
  obtain⟨w,s,e,hd⟩:=yw (a:=p) q0 v;have hc:=Rx (lc_fr v q) s;have c0:=FX (lc_ne q0 v) s;generalize (q.lc v) ^ s=c at e hc c0;by_cases r0:lX v p q=0
  ·exact⟨0,1,q,c,by grind,q0,c0,hc,⟨w,by rw [e,r0];grind⟩,dvd_mul_left q c⟩
  ·have hq':¬ q.deg v<=0:=hq;obtain⟨S,T,h,k,h1,h2,h3,h4,h5,h6⟩:=Ry (v:=v) N q (lX v p q) r0 (by omega);have e2:lX v p q=c*p - w*q:=by grind
   refine⟨T*c,S-T*w,h,k*c,by rw [<- h1,e2];grind,h2,mul_ne h3 c0,sJ h4 hc,?_,?_⟩
   ·have e3:k*c*p=w*(k*q)+k*lX v p q:=by rw [e2];grind
    rw [e3];exact dvd_add (dvd_mul_of' h5 w) h6
   ·have e3:k*c*q=c*(k*q):=by grind
    rw [e3];exact dvd_mul_of' h5 c
theorem Je {v:Nat} {a b g:MP} (b0:b≠0) (hg:NG g a b) (hf:g.deg v<=0):∃ S T d:MP,S*a+T*b=d/\d≠0/\d.deg v<=0:=by
 obtain⟨S,T,h,k,h1,h2,h3,h4,h5,h6⟩:=Ry (v:=v) ((b.deg v).toNat+1) a b b0 (by omega);refine⟨S,T,h,h1,h2,?_⟩;obtain⟨G,-,hG⟩:=AU 4 (Nat.le_refl 4) (a*k) (b*k) (XB _) (XB _);have bk:=mul_ne b0 h3;have G0:G≠0:=dvd_ne bk hG.r;have hn:NG (nrm G) (a*k) (b*k):=⟨Er hG G0,fun _=>Ce G0⟩;have e:=hg.fac hn;have g0:g≠0:=dvd_ne b0 hg.i.r;have hk0:=FW h3
 have hd:h∣nrm k*g:=by
  rw [<- e];exact dvd_trans (hG.u h (by rw [jU];exact h5) (by rw [jU];exact h6)) (jm G0).2
 have d1:=dvd_deg (mul_ne hk0 g0) hd v;rw [deg_mul hk0 g0] at d1;have d2:(nrm k).deg v<=0:=rz h3 (jm h3).1 h4;omega
theorem Jf {p:MP} (h:p≠0):∃ x,p.ev x≠0:=by
 refine Classical.byContradiction fun hn=>h (ext' fun x=>?_);rw [ev_zero];exact Classical.byContradiction fun e=>hn ⟨x,e⟩
theorem zl (x:Pt) (v:Nat) (g:Nat->Rat) (p:MP) {N:Nat} (h:p.deg v<N):Lf (fun e=>kP x (e.put v 0)*g (e.get v).toNat) p.l=bf (fun i=>(p.co v i).ev x*g i) N :=
 xc x v g N p.v.nat fun t ht=>by have h1:=dU ht v;have h2:aG p.l v<N:=h;omega
theorem Rz {v:Nat} (x:Pt) (c:Rat) {p:MP} (h:p.deg v<=0):p.ev (x.put v c)=p.ev x:=by
 have e:=zl x v (fun i=>c ^ i) p (N:=1) (by omega);have e2:(p.co v 0).ev x=p.ev x:=by rw [AP h]
 show ev _ _=_;rw [<- Cu,e,bf,bf,e2,Rat.pow_zero];grind
theorem Xk {v:Nat} (x:Pt) (c1 c0:Rat) {p:MP} (h:p.deg v<=0):lY x v c1 c0 p.l=0/\qR x v c1 c0 p.l=p.ev x:=by
 have e2:(p.co v 0).ev x=p.ev x:=by rw [AP h]
 constructor
 ·show Lf _ _=_;rw [zl x v (fun i=>(gq c1 c0 i).1) p (N:=1) (by omega),bf,bf,e2];simp only [gq];grind
 ·show Lf _ _=_;rw [zl x v (fun i=>(gq c1 c0 i).2) p (N:=1) (by omega),bf,bf,e2];simp only [gq];grind
theorem VN {p1 p2 r s c1 c0:Rat} (h1:p1*s+p2*r-c1*(p1*r)=0) (h2:p2*s-c0*(p1*r)=0) (hn:nu c1 c0 r s≠0):p1=0/\p2=0:=by
 have e1:p1*nu c1 c0 r s=0:=by unfold nu;grind
 have e2:p2*nu c1 c0 r s=0:=by unfold nu;grind
 constructor
 ·rcases Rat.mul_eq_zero.1 e1 with h|h
  ·exact h
  ·exact absurd h hn
 ·rcases Rat.mul_eq_zero.1 e2 with h|h
  ·exact h
  ·exact absurd h hn
theorem zW {c:Rat} (h:c≠0):∀ n:Nat,c ^ n≠0
 | 0=>by rw [Rat.pow_zero];decide
 | n+1=>by rw [Rat.pow_succ];exact je (zW h n) h
theorem RA {u v:Nat} (hu:u<4) (hv:v<4) (huv:u≠v) {a b g:MP} (ha:vH u v 15 2 a.l) (hb:vH u v 15 2 b.l) (a0:a≠0) (b0:b≠0) (hg:NG g a b):oQ a.l b.l v=[]↔0<g.deg v:=by
 have na:a.l≠[]:=fun e=>a0 (zero_iff.2 e);have nb:b.l≠[]:=fun e=>b0 (zero_iff.2 e);have vs:=(yG hu hv huv ha hb).v;have key:=zV hu hv huv ha hb na nb;have hz:∀ x,(⟨oQ a.l b.l v,vs⟩:MP).ev x=ev x (oQ a.l b.l v):=fun _=>rfl;have hm:=ha.deg na;have hn:=hb.deg nb;have da:=kX ha.vl na v;have g0:g≠0:=dvd_ne b0 hg.i.r;have dg:=dvd_deg a0 hg.i.l v;have dge:a.deg v=aG a.l v:=rfl;have lca:=lc_ne a0 v;have lce:∀ x,(a.lc v).ev x=ev x (aD a.l v ((aG a.l v).toNat:Int)):=fun _=>rfl;have ca:∀ x i,(a.co v i).ev x=ev x (aD a.l v (i:Nat)):=fun _ _=>rfl
 -- the value at a point,for each degree
 have val0:∀ x,aG a.l v=0->ev x (oQ a.l b.l v)=(a.lc v).ev x ^ (aG b.l v).toNat:=fun x h0=>by
  rw [key,lce,h0,show (0:Int).toNat=0 from rfl,Ro hn]
 have val1:∀ x c,aG a.l v=1->ev x (aD a.l v (0:Nat))=-(c*ev x (aD a.l v (1:Nat)))->ev x (oQ a.l b.l v)=(a.lc v).ev x ^ (aG b.l v).toNat * b.ev (x.put v c):=fun x c h0 e=>by
  rw [key,lce,h0,show (1:Int).toNat=1 from rfl,Rp hn _ _ (c:=c) e,EE x (fun i=>c ^ i) hb.vl nb,Cu];rfl
 have val2:∀ x c1 c0,aG a.l v=2->ev x (aD a.l v (1:Nat))=c1*ev x (aD a.l v (2:Nat))->ev x (aD a.l v (0:Nat))=c0*ev x (aD a.l v (2:Nat))->ev x (oQ a.l b.l v)=(a.lc v).ev x ^ (aG b.l v).toNat * nu c1 c0 (lY x v c1 c0 b.l) (qR x v c1 c0 b.l):=fun x c1 c0 h0 e1 e0=>by
  rw [key,lce,h0,show (2:Int).toNat=2 from rfl,Rq hn _ _ (c1:=c1) (c0:=c0) e1 e0,EE x (fun i=>(gq c1 c0 i).1) hb.vl nb,EE x (fun i=>(gq c1 c0 i).2) hb.vl nb];rfl
 have root:∀ x,(a.lc v).ev x≠0->aG a.l v=1->∃ c,ev x (aD a.l v (0:Nat))=-(c*ev x (aD a.l v (1:Nat)))/\a.ev (x.put v c)=0:=fun x hx h0=>by
  rw [lce,h0,show (1:Int).toNat=1 from rfl] at hx;obtain⟨c,e⟩:∃ c,ev x (aD a.l v (0:Nat))=-(c*ev x (aD a.l v (1:Nat))):=⟨-(ev x (aD a.l v (0:Nat)) / ev x (aD a.l v (1:Nat))),by grind⟩;refine⟨c,e,?_⟩;show ev _ _=_;rw [<- Cu,zl x v (fun i=>c ^ i) a (N:=2) (by omega),bf,bf,bf,ca,ca,e,Rat.pow_zero,show c ^ 1=c by rw [Rat.pow_succ,Rat.pow_zero];grind];grind
 have roots:∀ x,(a.lc v).ev x≠0->aG a.l v=2->∃ c1 c0,ev x (aD a.l v (1:Nat))=c1*ev x (aD a.l v (2:Nat))/\ev x (aD a.l v (0:Nat))=c0*ev x (aD a.l v (2:Nat))/\lY x v c1 c0 a.l=0/\qR x v c1 c0 a.l=0:=fun x hx h0=>by
  rw [lce,h0,show (2:Int).toNat=2 from rfl] at hx;obtain⟨c1,e1⟩:∃ c1,ev x (aD a.l v (1:Nat))=c1*ev x (aD a.l v (2:Nat)):=⟨ev x (aD a.l v (1:Nat)) / ev x (aD a.l v (2:Nat)),by grind⟩;obtain⟨c0,e0⟩:∃ c0,ev x (aD a.l v (0:Nat))=c0*ev x (aD a.l v (2:Nat)):=⟨ev x (aD a.l v (0:Nat)) / ev x (aD a.l v (2:Nat)),by grind⟩;refine⟨c1,c0,e1,e0,?_,?_⟩
  ·show Lf _ _=_;rw [zl x v (fun i=>(gq c1 c0 i).1) a (N:=3) (by omega),bf,bf,bf,bf,ca,ca,ca,e1,e0];simp only [gq];grind
  ·show Lf _ _=_;rw [zl x v (fun i=>(gq c1 c0 i).2) a (N:=3) (by omega),bf,bf,bf,bf,ca,ca,ca,e1,e0];simp only [gq];grind
 obtain h0|h0|h0:aG a.l v=0\/aG a.l v=1\/aG a.l v=2:=by omega
 ·obtain⟨x,hx⟩:=Jf lca;refine⟨fun e=>?_,fun h=>by omega⟩;have:=val0 x h0;rw [e,di] at this;exact absurd this.symm (zW hx _)
 ·constructor
  ·intro e;refine Classical.byContradiction fun hlt=>?_;obtain⟨S,T,d,e1,d0,dd⟩:=Je (v:=v) b0 hg (by omega);obtain⟨x,hx⟩:=Jf (mul_ne lca d0);rw [MP.ev_mul] at hx;obtain⟨c,hc,hr⟩:=root x (fun h=>hx (by rw [h];grind)) h0;have h1:=val1 x c h0 hc;rw [e,di] at h1
   have hbz:b.ev (x.put v c)=0:=by
    rcases Rat.mul_eq_zero.1 h1.symm with h|h
    ·exact absurd h (zW (fun h=>hx (by rw [h];grind)) _)
    ·exact h
   have h2:=congrArg (MP.ev (x.put v c)) e1;rw [MP.ev_add,MP.ev_mul,MP.ev_mul,hr,hbz,Rz x c dd] at h2;exact hx (by rw [<- h2];grind)
  ·intro hlt;refine Classical.byContradiction fun e=>?_;obtain⟨p,ep⟩:=hg.i.l;obtain⟨q,eq⟩:=hg.i.r;have p0:p≠0:=fun h=>a0 (by rw [ep,h];grind);have s0:(⟨oQ a.l b.l v,vs⟩:MP)≠0:=fun h=>e (zero_iff.1 h);obtain⟨x,hx⟩:=Jf (mul_ne lca (mul_ne p0 s0));rw [MP.ev_mul,MP.ev_mul,hz] at hx;obtain⟨c,hc,hr⟩:=root x (fun h=>hx (by rw [h];grind)) h0;have h1:=val1 x c h0 hc
   have dp:p.deg v<=0:=by
    have:=deg_mul g0 p0 v;rw [<- ep] at this;omega
   have h2:=Rz x c dp;have h3:=congrArg (MP.ev (x.put v c)) ep;rw [hr,MP.ev_mul,h2] at h3;have h4:=congrArg (MP.ev (x.put v c)) eq;rw [MP.ev_mul] at h4;rw [h4] at h1;rcases Rat.mul_eq_zero.1 h3.symm with h|h
   ·rw [h] at h1;exact hx (by rw [h1];grind)
   ·exact hx (by rw [h];grind)
 ·constructor
  ·intro e;refine Classical.byContradiction fun hlt=>?_;obtain⟨S,T,d,e1,d0,dd⟩:=Je (v:=v) b0 hg (by omega);obtain⟨x,hx⟩:=Jf (mul_ne lca d0);rw [MP.ev_mul] at hx;obtain⟨c1,c0,hc1,hc0,r1,r2⟩:=roots x (fun h=>hx (by rw [h];grind)) h0;have h1:=val2 x c1 c0 h0 hc1 hc0;rw [e,di] at h1
   have hbz:nu c1 c0 (lY x v c1 c0 b.l) (qR x v c1 c0 b.l)=0:=by
    rcases Rat.mul_eq_zero.1 h1.symm with h|h
    ·exact absurd h (zW (fun h=>hx (by rw [h];grind)) _)
    ·exact h
   obtain⟨f1,f2⟩:=Xk x c1 c0 dd
   have t1:lY x v c1 c0 (T*b).l=0:=by
    have h2:lY x v c1 c0 (S*a+T*b).l=lY x v c1 c0 (S*a).l+lY x v c1 c0 (T*b).l:=lf_add _ _ _;have h3:lY x v c1 c0 (S*a).l=_:=zS x v c1 c0 S.v.nat a.v.nat;rw [e1,f1,h3,r1,r2] at h2;grind
   have t2:qR x v c1 c0 (T*b).l=d.ev x:=by
    have h2:qR x v c1 c0 (S*a+T*b).l=qR x v c1 c0 (S*a).l+qR x v c1 c0 (T*b).l:=lf_add _ _ _;have h3:qR x v c1 c0 (S*a).l=_:=zT x v c1 c0 S.v.nat a.v.nat;rw [e1,f2,h3,r1,r2] at h2;grind
   have hN:nu c1 c0 (lY x v c1 c0 (T*b).l) (qR x v c1 c0 (T*b).l)=_:=Q8 x v c1 c0 T.v.nat b.v.nat;rw [hbz,t1,t2] at hN;have h5:d.ev x*d.ev x=0:=by unfold nu at hN;grind
   have h6:d.ev x=0:=by rcases Rat.mul_eq_zero.1 h5 with h|h <;> exact h
   exact hx (by rw [h6];grind)
  ·intro hlt;refine Classical.byContradiction fun e=>?_;obtain⟨p,ep⟩:=hg.i.l;obtain⟨q,eq⟩:=hg.i.r;have p0:p≠0:=fun h=>a0 (by rw [ep,h];grind);have s0:(⟨oQ a.l b.l v,vs⟩:MP)≠0:=fun h=>e (zero_iff.1 h);obtain⟨x,hx⟩:=Jf (mul_ne lca (mul_ne (lc_ne p0 v) s0));rw [MP.ev_mul,MP.ev_mul,hz] at hx;obtain⟨c1,c0,hc1,hc0,r1,r2⟩:=roots x (fun h=>hx (by rw [h];grind)) h0;have h1:=val2 x c1 c0 h0 hc1 hc0
   have dp:p.deg v<2:=by
    have:=deg_mul g0 p0 v;rw [<- ep] at this;omega
   have hbn:nu c1 c0 (lY x v c1 c0 b.l) (qR x v c1 c0 b.l)≠0:=fun h=>by rw [h] at h1;exact hx (by rw [h1];grind)
   have epb:p*b=a*q:=by rw [eq,ep];grind
   have m1:lY x v c1 c0 (p*b).l=_:=zS x v c1 c0 p.v.nat b.v.nat;have m2:qR x v c1 c0 (p*b).l=_:=zT x v c1 c0 p.v.nat b.v.nat;have n1:lY x v c1 c0 (a*q).l=_:=zS x v c1 c0 a.v.nat q.v.nat;have n2:qR x v c1 c0 (a*q).l=_:=zT x v c1 c0 a.v.nat q.v.nat;rw [epb,n1,r1,r2] at m1;rw [epb,n2,r1,r2] at m2;obtain⟨z1,z2⟩:=VN (p1:=lY x v c1 c0 p.l) (p2:=qR x v c1 c0 p.l) (by grind) (by grind) hbn
   have w1:lY x v c1 c0 p.l=(p.co v 1).ev x:=by
    show Lf _ _=_;rw [zl x v (fun i=>(gq c1 c0 i).1) p (N:=2) dp,bf,bf,bf];simp only [gq];grind
   have w2:qR x v c1 c0 p.l=(p.co v 0).ev x:=by
    show Lf _ _=_;rw [zl x v (fun i=>(gq c1 c0 i).2) p (N:=2) dp,bf,bf,bf];simp only [gq];grind
   have hp:=deg_pos p0 v
   have hl:(p.lc v).ev x=0:=by
    unfold MP.lc;obtain h|h:(p.deg v).toNat=0\/(p.deg v).toNat=1:=by omega
    ·rw [h,<- w2,z2]
    ·rw [h,<- w1,z1]
   exact hx (by rw [hl];grind)
end Q
end
