/- Pseudo-division, plain: what is left is a multiple. -/
import Derived.Test.YtopclbeomcggiaaGreatW31
set_option linter.unusedVariables false
set_option linter.unusedSimpArgs false
set_option maxHeartbeats 16000000
set_option maxRecDepth 100000
section
namespace Q
open Go Go.Proofs.YtopclbeomcggiaaGreat
def QV (x:Pt) (v:Nat) (L:List (List ai)):Rat:=bf (fun i=>ev x (L.getD i [])*x.get v ^ i) L.length
theorem BV (c:Rat) (f:Nat->Rat):∀ n,bf (fun i=>c*f i) n=c*bf f n
 | 0=>by simp [bf]
 | n+1=>by simp only [bf,BV c f n];grind
theorem BZ (a:Nat) (g:Nat->Rat):∀ n,bf (fun i=>if a<=i then g (i-a) else 0) (a+n)=bf g n
 | 0=>by
  have:∀ k,k<=a->bf (fun i=>if a<=i then g (i-a) else 0) k=0:=by
   intro k
   induction k with
   | zero=>intro _;rfl
   | succ k ih=>intro h;simp only [bf];rw [ih (by omega),if_neg (by omega)];grind
  rw [Nat.add_zero,this a (Nat.le_refl _)];rfl
 | n+1=>by
  rw [<- Nat.add_assoc];simp only [bf];rw [BZ a g n,if_pos (by omega),Nat.add_sub_cancel_left]
def zz (L:List (List ai)):Prop:=∀ c∈L,aV c
theorem zz.get {L:List (List ai)} (h:zz L) (i:Nat):aV (L.getD i []):=by
 rw [List.getD_eq_getElem?_getD]
 cases hi:L[i]? with
 | none=>exact aV.nil
 | some c=>exact h c (List.mem_of_getElem? hi)
theorem KC {D R:List (List ai)} {i:Nat} (h:i<R.length-1):(fE D R).getD i []=if R.length-1-(D.length-1)<=i then dK (aQ (R.getD i []) (D.getD (D.length-1) [])) (aQ (R.getD (R.length-1) []) (D.getD (i-(R.length-1-(D.length-1))) [])) else aQ (R.getD i []) (D.getD (D.length-1) []):=by
 rw [List.getD_eq_getElem?_getD];simp [fE,h]
theorem Ca (D R:List (List ai)):zz (fE D R):=fun c hc=>by
 simp only [fE,List.mem_map] at hc;obtain⟨i,-,rfl⟩:=hc;split
 ·exact aV.sub _ _
 ·exact aV.mul _ _
theorem QW (x:Pt) (v:Nat) {D R:List (List ai)} (hD:zz D) (hR:zz R) (h1:1<=D.length) (h2:D.length-1<R.length) :
  QV x v (fE D R)=ev x (D.getD (D.length-1) [])*QV x v R-ev x (R.getD (R.length-1) [])*x.get v ^ (R.length-1-(D.length-1))*QV x v D:=by
 obtain⟨n,hn⟩:∃ n,D.length=n+1:=⟨D.length - 1,by omega⟩;obtain⟨a,ha⟩:∃ a,R.length=a+n+1:=⟨R.length - 1 - n,by omega⟩;have e1:R.length - 1=a+n:=by omega
 have e2:D.length-1=n:=by omega
 have e3:a+n-n=a:=by omega
 unfold QV;rw [gP,e1,e2,e3]
 have hs:bf (fun i=>ev x ((fE D R).getD i [])*x.get v ^ i) (a+n)=bf (fun i=>ev x (D.getD n [])*(ev x (R.getD i [])*x.get v ^ i)+(if a<=i then (fun j=>(-(ev x (R.getD (a+n) [])*x.get v ^ a))*(ev x (D.getD j [])*x.get v ^ j)) (i-a) else 0)) (a+n):=by
  refine dC fun i hi=>?_;rw [KC (by omega),e1,e2,e3];by_cases hia:a<=i
  ·rw [if_pos hia,if_pos hia,ev_sub x (aV.mul _ _).nat (aV.mul _ _),ev_mul x (hR.get _).nat (hD.get _).nat,ev_mul x (hR.get _).nat (hD.get _).nat];have:x.get v ^ i=x.get v ^ a*x.get v ^ (i-a):=by rw [<- mP];congr 1;omega
   simp only;rw [this];grind
  ·rw [if_neg hia,if_neg hia,ev_mul x (hR.get _).nat (hD.get _).nat];grind
 have hsh:=BZ a (fun j=>(-(ev x (R.getD (a+n) [])*x.get v ^ a))*(ev x (D.getD j [])*x.get v ^ j)) n;rw [hs,vR,hsh,BV,BV,ha,hn];simp only [bf];rw [mP];grind
def zb (v:Nat) (D:List (List ai)):Nat->List (List ai)->List ai
 | 0,_=>[]
 | f+1,R=>if D.length-1<R.length then lN (aQ (aQ (R.getD (R.length-1) []) (mf (GK v) (R.length-1-(D.length-1)))) (mf (D.getD (D.length-1) []) (R.length-1-(D.length-1)))) (zb v D f (fE D R)) else []
theorem Em (v:Nat) (D:List (List ai)):∀ f R,aV (zb v D f R)
 | 0,_=>aV.nil
 | f+1,R=>by unfold zb;split;exact aV.add _ _;exact aV.nil
theorem yt (D:List (List ai)):∀ f R,zz R->zz (fO D f R)
 | 0,_,h=>h
 | f+1,R,h=>by unfold fO;split;exact yt D f _ (Ca D R);exact h
theorem Mv (x:Pt) (v:Nat) {D:List (List ai)} (hD:zz D) (h1:1<=D.length):∀ f R,zz R->R.length<=D.length-1+f ->
  ev x (D.getD (D.length-1) []) ^ (R.length-(D.length-1))*QV x v R-QV x v (fO D f R)=ev x (zb v D f R)*QV x v D
 | 0,R,_,h=>by
  have:R.length-(D.length-1)=0:=by omega
  simp only [fO,zb];rw [this,Rat.pow_zero,di];grind
 | f+1,R,hR,h=>by
  unfold fO zb;by_cases hlt:D.length-1<R.length
  ·rw [if_pos hlt,if_pos hlt];have ih:=Mv x v hD h1 f (fE D R) (Ca D R) (by rw [gP];omega);have hs:=QW x v hD hR h1 hlt;rw [gP] at ih;have e1:R.length-(D.length-1)=(R.length-1-(D.length-1))+1:=by omega
   rw [ev_add x (aV.mul _ _).nat (Em v D f _).nat,ev_mul x (aV.mul _ _).nat (aV.pow _ _).nat,ev_mul x (hR.get _).nat (aV.pow _ _).nat,ev_pow x (hD.get _).nat,ev_pow x (aV.var v).nat,UI,e1,Rat.pow_succ];grind
  ·rw [if_neg hlt,if_neg hlt];have:R.length-(D.length-1)=0:=by omega
   rw [this,Rat.pow_zero,di];grind
end Q
end
section
namespace Q
open MP Go.Proofs.YtopclbeomcggiaaGreat
theorem yu (D:List (List ai)):∀ (f:Nat) (R:List (List ai)),R.length<=D.length-1+f->(fO D f R).length<=max (D.length-1) 0
 | 0,R,h=>by simp only [fO];omega
 | f+1,R,h=>by
  unfold fO;by_cases hlt:D.length-1<R.length
  ·rw [if_pos hlt];exact yu D f _ (by rw [gP];omega)
  ·rw [if_neg hlt];omega
def Tz (v:Nat) (L:List (List ai)):Prop:=∀ c∈L,∀ t∈c,t.1.get v=0
theorem Tz.get {v:Nat} {L:List (List ai)} (h:Tz v L) (i:Nat):∀ t∈L.getD i [],t.1.get v=0:=by
 rw [List.getD_eq_getElem?_getD]
 cases hi:L[i]? with
 | none=>intro t ht;cases ht
 | some c=>exact h c (List.mem_of_getElem? hi)
theorem FV {v:Nat} {p q:List ai} (hp:∀ t∈p,t.1.get v=0) (hq:∀ t∈q,t.1.get v=0):∀ t∈aQ p q,t.1.get v=0 :=
 gL (P:=fun e=>e.get v=0) fun t ht=>by
  obtain⟨a,ha,b,hb,rfl⟩:=jZ ht;show (a.1.add b.1).get v=0;rw [Ex.get_add,hp a ha,hq b hb];rfl
theorem TA {v:Nat} {p q:List ai} (hp:∀ t∈p,t.1.get v=0) (hq:∀ t∈q,t.1.get v=0):∀ t∈dK p q,t.1.get v=0 :=
 gL (P:=fun e=>e.get v=0) fun t ht=>by
  rcases List.mem_append.1 ht with h|h
  ·exact hp t h
  ·obtain⟨s,hs,rfl⟩:=xZ h;exact hq s hs
theorem Om {v:Nat} {D R:List (List ai)} (hD:Tz v D) (hR:Tz v R):Tz v (fE D R):=fun c hc=>by
 simp only [fE,List.mem_map] at hc;obtain⟨i,-,rfl⟩:=hc;split
 ·exact TA (FV (hR.get _) (hD.get _)) (FV (hR.get _) (hD.get _))
 ·exact FV (hR.get _) (hD.get _)
theorem Cb {v:Nat} {D:List (List ai)} (hD:Tz v D):∀ (f:Nat) (R:List (List ai)),Tz v R->Tz v (fO D f R)
 | 0,_,h=>h
 | f+1,R,h=>by unfold fO;split;exact Cb hD f _ (Om hD h);exact h
theorem Eo (p:List ai) (v:Nat):Tz v (aB p v):=fun c hc t ht=>by
 obtain⟨n,rfl⟩:=gF hc;obtain⟨u,_,rfl⟩:=List.mem_map.1 ht;exact Ex.get_put _ _ _
theorem vE {p:List ai} (h:aV p) (v:Nat):zz (aB p v):=fun c hc=>by
 obtain⟨n,rfl⟩:=gF hc;exact h.coeff v n
def lX (v:Nat) (a b:MP):MP:=⟨sG (fO (aB b.l v) (aB a.l v).length (aB a.l v)) v,fD _⟩
theorem QX {a b:MP} {v:Nat} {r:List ai} (h:RP a.l b.l v=some r):r=(lX v a b).l/\b≠0:=by
 unfold RP at h;simp only at h;split at h
 ·rename_i hc;exact⟨(jG h).1,fun e=>hc.1 (by rw [e];rfl)⟩
 ·cases h
theorem KD (x:Pt) (v:Nat) {L:List (List ai)} (h:zz L):ev x (sG L v)=QV x v L:=EW x v fun c hc=>(h c hc).nat
theorem yw {a b:MP} (hb:b≠0) (v:Nat):∃ (q:MP) (s:Nat),(b.lc v) ^ s*a=q*b+lX v a b/\(lX v a b).deg v<=b.deg v-1:=by
 have hD:=vE b.v v;have hR:=vE a.v v;have hbd:=deg_pos hb v;have hlen:(aB b.l v).length=(b.deg v).toNat+1:=by rw [aW];have e:aG b.l v=b.deg v:=rfl;omega
 have nz:(aB a.l v).length<=(aB b.l v).length-1+(aB a.l v).length:=by omega
 refine⟨⟨zb v (aB b.l v) (aB a.l v).length (aB a.l v),Em _ _ _ _⟩,(aB a.l v).length-((aB b.l v).length-1),MP.ext' fun x=>?_,?_⟩
 ·have h:=Mv x v hD (by omega) (aB a.l v).length (aB a.l v) hR nz;have ea:QV x v (aB a.l v)=ev x a.l:=by rw [<- KD x v hR,yN a.v]
  have eb:QV x v (aB b.l v)=ev x b.l:=by rw [<- KD x v hD,yN b.v]
  have er:QV x v (fO (aB b.l v) (aB a.l v).length (aB a.l v))=MP.ev x (lX v a b):=(KD x v (yt _ _ _ hR)).symm
  have el:ev x ((aB b.l v).getD ((aB b.l v).length-1) [])=MP.ev x (b.lc v):=by
   rw [hlen,Nat.add_sub_cancel,ja (by have e:aG b.l v=b.deg v:=rfl;omega)];rfl
  rw [ea,eb,er,el] at h;rw [MP.ev_add,MP.ev_mul,MP.ev_mul,MP.ev_pow];show _*ev x a.l=ev x (zb v (aB b.l v) _ _)*ev x b.l+_;grind
 ·obtain⟨L,hL⟩:∃ L,L=fO (aB b.l v) (aB a.l v).length (aB a.l v):=⟨_,rfl⟩;have hl:=yu (aB b.l v) (aB a.l v).length (aB a.l v) nz;have hf:=Cb (Eo b.l v) (aB a.l v).length (aB a.l v) (Eo a.l v);have hv:=yt (aB b.l v) (aB a.l v).length (aB a.l v) hR
  have e:lX v a b=bZ (fun i=>⟨(fO (aB b.l v) (aB a.l v).length (aB a.l v)).getD i [],hv.get i⟩*xk v i) (fO (aB b.l v) (aB a.l v).length (aB a.l v)).length:=MP.ext' fun x=>by
   rw [EY];show ev x (sG _ v)=_;rw [EW x v fun c hc=>(hv c hc).nat];refine dC fun i _=>?_;rw [MP.ev_mul,ev_xk];rfl
  rw [e];refine oD (by omega) fun i hi=>?_;have h0:(⟨(fO (aB b.l v) (aB a.l v).length (aB a.l v)).getD i [],hv.get i⟩:MP).fr v:=TY (hf.get i);have h1:=dI v _ (xk v i) h0 (Int.le_of_eq (deg_xk v i)) (by omega);omega
theorem yx {b g:List ai} {gt:ai} (hb:aV b) (hg:b=gt::g):∀ {n:Nat} {a out res:List ai},aV a->dh out->qH b gt n a out=some (some res)->dh res/\∀ x,ev x res*ev x b=ev x out*ev x b+ev x a
 | 0,_,_,_,_,_,h=>by simp [qH] at h
 | n+1,[],out,res,_,ho,h=>by
  simp only [qH,Option.some.injEq] at h;subst h;exact⟨ho,fun x=>by rw [di];grind⟩
 | n+1,m::a,out,res,ha,ho,h=>by
  rw [qH] at h;split at h
  ·split at h
   ·rename_i hn;split at h
    ·have hq:dh [ji m gt]:=fun t ht=>by rw [List.mem_singleton.1 ht];exact hn
     obtain⟨h1,h2⟩:=yx hb hg (aV.sub _ _) (ho.append hq) h;refine⟨h1,fun x=>?_⟩;rw [h2 x,nW,Q.ev_sub x ha.nat (aV.mul _ _),Q.ev_mul x hb.nat hq];grind
    ·cases h
   ·cases h
  ·cases h
theorem Ep {b g:List ai} {gt:ai} (hb:aV b) (hg:b=gt::g):∀ {n:Nat} {a out:List ai},aV a->qH b gt n a out=some none->∀ q,aV q->a≠aQ q b
 | 0,_,_,_,h=>by simp [qH] at h
 | n+1,[],out,_,h=>by simp [qH] at h
 | n+1,m::a,out,ha,h=>by
  intro q hq e;subst hg;have hz:=(hb.2 gt (by simp)).1
  cases q with
  | nil=>cases e
  | cons x s =>
   have hx:=hq.2 x (by simp);obtain⟨h1,h2⟩:=Fz hq hb;obtain⟨a',ha'⟩:=Fy (aV.mul _ _) (je hx.1 hz) h1 h2;rw [ha'] at e;have em:m=(x.1.add gt.1,x.2*gt.2):=(List.cons.inj e).1;have hqm:ji m gt=x:=by rw [em];exact Ig hz
   have hnat:(m.1.sub gt.1).nat=true:=by
    have:(ji m gt).1=x.1:=by rw [hqm]
    show (ji m gt).1.nat=true;rw [this];exact hx.2
   rw [qH] at h;split at h
   ·split at h
    ·have h3:=Ih hq hb aV.nil;have e0:lN (aQ (x::s) (gt::g)) []=aQ (x::s) (gt::g):=kH (aV.add _ _) (aV.mul _ _) fun y=>by rw [Q.ev_add y (aV.mul _ _).nat dh.nil,di];grind
     have e1:lN (aQ s (gt::g)) []=aQ s (gt::g):=kH (aV.add _ _) (aV.mul _ _) fun y=>by rw [Q.ev_add y (aV.mul _ _).nat dh.nil,di];grind
     rw [e0,e1] at h3;refine Ep hb rfl (aV.sub _ _) h s hq.tail ?_;rw [hqm,e,<- ha',h3]
    ·cases h
   ·cases h
theorem Cc {a b q:MP} {r:List ai} (hb:b≠0) (e:a=q*b) (h:eD a.l b.l=some r):r=q.l:=by
 obtain⟨t,l,hl⟩:=kW hb;unfold eD wM at h;rw [hl] at h;simp only at h;split at h
 ·rename_i o ho
  cases o with
  | none=>exact absurd (show a.l=aQ q.l (t::l) by rw [<- hl];exact congrArg MP.l e) (Ep (hl ▸ b.v) rfl a.v ho q.l q.v)
  | some res =>
   obtain⟨h1,h2⟩:=yx (hl ▸ b.v) rfl a.v dh.nil ho;obtain⟨h3,h4⟩:=jG h;have h3:r=res:=h3;subst h3;have hv:aV r:=h4.val
   have:(⟨r,hv⟩:MP)*b=q*b:=MP.ext' fun x=>by
    rw [MP.ev_mul,<- e];have:=h2 x;rw [di,<- hl] at this;show ev x r*ev x b.l=ev x a.l;grind
   have h5:b*(⟨r,hv⟩:MP)=b*q:=by grind
   exact congrArg MP.l (MP.cancel hb h5)
 ·cases h
def hd (a:MP):Rat:=match a.l with
 | []=>0
 | t::_=>t.2
def nrm (a:MP):MP:=c (1 / hd a)*a
theorem ze {a:MP} (h:a≠0):hd a≠0:=by
 obtain⟨t,l,e⟩:=kW h;have:=(a.v.2 t (by rw [e];simp)).1;unfold hd;rw [e];exact this
theorem uw {r:Rat} (hr:r≠0) (a:MP):hd (c r*a)=hd a*r:=by
 unfold hd;rw [um];show (match bY a.l r with|[]=>0|t::_=>t.2)=_;unfold bY;rw [if_neg hr]
 cases a.l with
 | nil=>simp
 | cons t l=>rfl
theorem Ce {a:MP} (h:a≠0):hd (nrm a)=1:=by
 have h1:=ze h
 have h2:(1:Rat) / hd a≠0:=fun e=>by
  have:=Rat.div_mul_cancel (a:=1) h1;rw [e] at this;grind
 rw [nrm,uw h2];have:=Rat.div_mul_cancel (a:=1) h1;grind
theorem oO:nrm 0=0:=by rw [nrm];grind
theorem jm {a:MP} (h:a≠0):nrm a∣a/\a∣nrm a:=by
 have h1:=ze h;refine⟨⟨c (hd a),?_⟩,⟨c (1 / hd a),by rw [nrm];grind⟩⟩;have h3:c (1 / hd a)*c (hd a)=1:=by rw [lv,Rat.div_mul_cancel h1];rfl
 rw [nrm];grind
theorem wV {a:MP} {r:List ai} (h:kS a.l=some r):r=(nrm a).l:=by
 cases e:a.l with
 | nil =>
  rw [e] at h;simp only [kS,Option.some.injEq] at h;rw [zero_iff.2 e,oO,<- h];rfl
 | cons t l =>
  rw [e] at h;simp only [kS] at h;rw [(jG h).1,nrm,um];have:hd a=t.2:=by unfold hd;rw [e]
  rw [this];show _=bY a.l (1 / t.2);rw [e]
theorem Vz {a b:MP} (ha:a≠0) (h1:a∣b) (h2:b∣a) (n1:hd a=1) (n2:hd b=1):a=b:=by
 obtain⟨u,rfl⟩:=h1;have hu:=unit_cancel ha h2;obtain⟨r,rfl⟩:=mR (Px hu);have hr:r≠0:=fun e=>E8 hu (by rw [e];rfl);have e:a*c r=c r*a:=by grind
 rw [e,uw hr,n1] at n2;have:r=1:=by grind
 rw [this,AQ];grind
structure NG (g a b:MP):Prop where
 i:pJ g a b
 n:g≠0->hd g=1
theorem uy:nP=(1:MP).l:=by
 show [(e0,(1:Rat))]=bX ((1:Nat):Rat);rw [show ((1:Nat):Rat)=1 from rfl,bX,if_neg (by decide)]
theorem jU (a b:MP):a*b=b*a:=by grind
theorem KE:hd 1=1:=by unfold hd;rw [<- uy];rfl
theorem KF {a b:MP} (h:a.unit\/b.unit):pJ 1 a b :=
 ⟨unit_dvd unit_one a,unit_dvd unit_one b,fun d h1 h2=>h.elim (fun h=>unit_of_dvd h1 h) fun h=>unit_of_dvd h2 h⟩
theorem Er {g a b:MP} (h:pJ g a b) (h0:g≠0):pJ (nrm g) a b:=by
 obtain⟨h1,h2⟩:=jm h0;exact⟨dvd_trans h1 h.l,dvd_trans h1 h.r,fun d x y=>dvd_trans (h.u d x y) h2⟩
theorem FW {g:MP} (h:g≠0):nrm g≠0:=dvd_ne h (jm h).1
theorem QY {g a b:MP} (h:pJ g a b) (h0:a≠0):g≠0:=dvd_ne h0 h.l
theorem tL {g:MP} (h:kL g.l=true):g.unit:=by
 obtain⟨l,v⟩:=g
 cases l with
 | nil=>cases h
 | cons t l =>
  cases l with
  | cons _ _=>cases h
  | nil =>
   have he:t.1=e0:=of_decide_eq_true h
   have:(⟨[t],v⟩:MP)=c t.2:=MP.eq_of (by
    show [t]=bX t.2
    rw [bX,if_neg (v.2 t (by simp)).1,<- he])
   rw [this];exact AR (v.2 t (by simp)).1
def Mw (G:List ai->List ai->Option (List ai)):Prop:=∀ (a b:MP) (r:List ai),G a.l b.l=some r->∃ g:MP,r=g.l/\NG g a b
theorem MB {G:List ai->List ai->Option (List ai)} (hG:Mw G):∀ (L:List (List ai)) (acc:MP) (r:List ai),zz L->(acc≠0->hd acc=1)->vg G acc.l L=some r ->
  ∃ g:MP,r=g.l/\g∣acc/\(∀ (f:MP),f.l∈L->g∣f)/\(∀ d,d∣acc->(∀ f:MP,f.l∈L->d∣f)->d∣g)/\(g≠0->hd g=1)
 | [],acc,r,_,hn,h=>by
  simp only [vg,Option.some.injEq] at h;exact⟨acc,h.symm,dvd_refl _,fun f hf=>(by cases hf),fun d h _=>h,hn⟩
 | a::L,acc,r,hv,hn,h=>by
  rw [vg] at h;have ha:aV a:=hv a (by simp);split at h
  ·cases h
  ·rename_i g0 hg0;obtain⟨g,rfl,hg⟩:=hG acc ⟨a,ha⟩ g0 hg0;have hfa:∀ f:MP,f.l=a->f=⟨a,ha⟩:=fun f e=>MP.eq_of e;split at h
   ·rename_i hc;simp only [Option.some.injEq] at h;have hu:=tL hc;refine⟨g,h.symm,hg.i.l,fun f _=>unit_dvd hu f,fun d h1 h2=>hg.i.u d h1 (h2 ⟨a,ha⟩ (by simp)),hg.n⟩
   ·obtain⟨k,e,k1,k2,k3,k4⟩:=MB hG L g r (fun c hc=>hv c (by simp [hc])) hg.n h;refine⟨k,e,dvd_trans k1 hg.i.l,fun f hf=>?_,fun d h1 h2=>k3 d (hg.i.u d h1 (h2 ⟨a,ha⟩ (by simp))) fun f hf=>h2 f (by simp [hf]),k4⟩;rcases List.mem_cons.1 hf with e|hf
    ·rw [hfa f e];exact dvd_trans k1 hg.i.r
    ·exact k2 f hf
theorem qN {G:List ai->List ai->Option (List ai)} (hG:Mw G) {a:MP} {v:Nat} {r:List ai} (h:mU G a.l v=some r):∃ g:MP,r=g.l/\xP v g a/\(g≠0->hd g=1):=by
 obtain⟨g,e,h1,h2,h3,h4⟩:=MB hG _ (0:MP) r (vE a.v v) (fun h=>absurd rfl h) h
 have hco:∀ n,g∣a.co v n:=fun n=>by
  rcases Nat.lt_or_ge n (aG a.l v+1).toNat with hn|hn
  ·refine h2 _ ?_;show aD a.l v n∈aB a.l v;exact List.mem_map.2 ⟨n,List.mem_range.2 hn,rfl⟩
  ·rw [co_above (by have e:a.deg v=aG a.l v:=rfl;have:=deg_ge v a;omega)];exact dvd_zero g
 have hf:g.fr v:=by
  by_cases ha:a=0
  ·have:g=0:=by
    have h5:=h3 0 (dvd_refl 0) fun f hf=>by
     rw [ha] at hf;cases hf
    exact zero_dvd h5
   rw [this];exact ry v
  ·exact rz (lc_ne ha v) (hco _) (lc_fr v a)
 refine⟨g,e,⟨hf,(dvd_iff_co hf a).2 hco,fun d hd hda=>h3 d (dvd_zero d) fun f hf=>?_⟩,h4⟩;obtain⟨n,hn⟩:=gF hf;have:f=a.co v n:=MP.eq_of hn;rw [this];exact (dvd_iff_co hd a).1 hda n
theorem QZ {G:List ai->List ai->Option (List ai)} (hG:Mw G) {a:MP} {v:Nat} {r:List ai} (h0:a≠0) (h:lU G a.l v=some r):∃ c q:MP,r=q.l/\a=c*q/\c≠0/\c.fr v/\q.prim v:=by
 obtain⟨t,l,hl⟩:=kW h0;unfold lU at h;rw [hl] at h;simp only at h;rw [<- hl] at h;split at h
 ·cases h
 ·rename_i c0 hc;obtain⟨g,rfl,hg,_⟩:=qN hG hc;obtain⟨q,e,hq,hg0⟩:=mr hg h0;exact⟨g,q,Cc (q:=q) hg0 (e.trans (jU g q)) h,e,hg0,hg.f,hq⟩
theorem yz {v:Nat} (hv:v<4) {b:MP} (hb:b.lo (v+1)):∀ s:Nat,((b.lc v) ^ s).lo v
 | 0=>by
  have e:(b.lc v) ^ 0=1:=by grind
  rw [e];exact AO v
 | s+1=>by
  have e:(b.lc v) ^ (s+1)=(b.lc v) ^ s*b.lc v:=by grind
  rw [e];exact kI (yz hv hb s) (yP hv hb)
theorem FX {b:MP} (hb:b≠0):∀ s:Nat,b ^ s≠0
 | 0=>by
  have e:b ^ 0=1:=by grind
  rw [e];exact one_ne
 | s+1=>by
  have e:b ^ (s+1)=b ^ s*b:=by grind
  rw [e];exact mul_ne (FX hb s) hb
theorem wW {n:Nat} {a b c:MP} (hb:b≠0) (hc:c≠0) (e:a=b*c) (h:a.lo n):c.lo n:=jA (by rw [e];exact mul_ne hb hc) (by rw [e];exact dvd_mul_left _ _) h
theorem Q4 {n:Nat} {a:MP} (h:a.lo n):(nrm a).lo n:=by
 by_cases h0:a=0
 ·rw [h0,oO];exact Lj n
 ·exact jA h0 (jm h0).1 h
theorem TB {v:Nat} (hv:v<4) {a b q:MP} {s:Nat} (e:(b.lc v) ^ s*a=q*b+lX v a b) (hb0:b≠0) (ha:a.lo (v+1)) (hb:b.lo (v+1)):(lX v a b).lo (v+1):=fun w h1 h2=>by
 -- the pseudo-remainder is made of the coefficients by ring operations
 have hA:∀ L:List (List ai),(∀ c∈L,∀ t∈c,t.1.get w=0)->∀ D:List (List ai),(∀ c∈D,∀ t∈c,t.1.get w=0)->∀ f,∀ c∈fO D f L,∀ t∈c,t.1.get w=0:=fun L hL D hD f=>Cb (v:=w) hD f L hL
 have hco:∀ p:MP,p.lo (v+1)->∀ c∈aB p.l v,∀ t∈c,t.1.get w=0:=fun p hp c hc t ht=>by
  obtain⟨n,rfl⟩:=gF hc;obtain⟨u,hu,rfl⟩:=List.mem_map.1 ht;show (u.1.put v 0).get w=0;rw [Ex.get_put_ne _ hv h2 (by omega)];exact fr_get (hp w h1 h2) (List.mem_filter.1 hu).1
 have h3:=hA _ (hco a ha) _ (hco b hb) (aB a.l v).length;refine TY ?_
 have hL:∀ (L:List (List ai)) (i:Nat),(∀ c∈L,∀ t∈c,t.1.get w=0)->∀ t∈fromL v i L,t.1.get w=0:=fun L=>by
  induction L with
  | nil=>intro i _ t ht;cases ht
  | cons c L ih =>
   intro i h t ht;simp only [fromL,List.mem_append] at ht;rcases ht with ht|ht
   ·obtain⟨u,hu,rfl⟩:=List.mem_map.1 ht;show (u.1.put v _).get w=0;rw [Ex.get_put_ne _ hv h2 (by omega)];exact h c (by simp) u hu
   ·exact ih (i+1) (fun c hc=>h c (by simp [hc])) t (by simpa using ht)
 exact gL (P:=fun e=>e.get w=0) (hL _ 0 h3)
theorem IY {G:List ai->List ai->Option (List ai)} (hG:Mw G) {v:Nat} (hv:v<4):∀ (n:Nat) (a b:MP) (r:List ai),a.lo (v+1)->b.lo (v+1)->a.prim v->b.prim v->qJ G v n a.l b.l=some r->∃ s:MP,r=s.l/\pJ s a b
 | 0,_,_,_,_,_,_,_,h=>by cases h
 | n+1,a,b,r,la,lb,pa,pb,h=>by
  have HG:=AU v (by omega);have b0:=dY pb;have a0:=dY pa;rw [qJ] at h;obtain⟨q,s,e,hdeg⟩:=yw (a:=a) b0 v;have hls:=yz hv lb s;have hls0:=FX (lc_ne b0 v) s;have hlr:=TB hv e b0 la lb;have hback:∀ d:MP,d.prim v->d∣b->d∣lX v a b->d∣a:=fun d pd h1 h2=>gG HG hv la pd hls hls0 (by rw [e];exact dvd_add (dvd_mul_of' h1 q) h2)
  have hrem:∀ d:MP,d∣a->d∣b->d∣lX v a b:=fun d h1 h2=>by
   have e2:lX v a b=(b.lc v) ^ s*a-q*b:=by rw [e];grind
   rw [e2];exact dvd_sub (dvd_mul_of' h1 _) (dvd_mul_of' h2 _)
  split at h
  ·cases h
  ·rename_i hp;have hz:=(QX hp).1;simp only [Option.some.injEq] at h;have hz0:lX v a b=0:=zero_iff.2 hz.symm;exact⟨b,h.symm,hback b pb (dvd_refl b) (by rw [hz0];exact dvd_zero b),dvd_refl b,fun d _ h=>h⟩
  ·rename_i t l hp;have hz:=(QX hp).1;have hz0:lX v a b≠0:=fun h0=>by rw [zero_iff.1 h0] at hz;cases hz
   split at h
   ·rename_i hd0;simp only [Option.some.injEq] at h;have hfr:(lX v a b).deg v=0:=by show aG (lX v a b).l v=0;rw [<- hz];exact hd0
    refine⟨1,by rw [<- h,uy],unit_dvd unit_one a,unit_dvd unit_one b,fun d h1 h2=>?_⟩;have hd:=dvd_deg hz0 (hrem d h1 h2) v;exact pb d (by show d.deg v<=0;omega) h2
   ·rw [hz] at h;split at h
    ·cases h
    ·rename_i p hpr;obtain⟨c,q',rfl,ec,c0,cf,hq⟩:=QZ hG hz0 hpr;split at h
     ·cases h
     ·rename_i k hk;have hk:=wV hk;subst hk;have q0:=dY hq;have lq:=wW c0 q0 ec hlr;obtain⟨nd1,nd2⟩:=jm q0;obtain⟨x,ex,hx⟩:=IY hG hv n b (nrm q') r lb (Q4 lq) pb (qy hq nd1) h;have lc':c.lo v:=vT (jA hz0 (by rw [ec];exact dvd_mul_right _ _) hlr) cf;refine⟨x,ex,hback x (qy pb hx.l) hx.l ?_,hx.l,fun d h1 h2=>hx.u d h2 (dvd_trans ?_ nd2)⟩
      ·rw [ec];exact dvd_mul_of' (dvd_trans hx.r nd1) c
      ·exact gG HG hv lq (qy pb h2) lc' c0 (by rw [<- ec];exact hrem d h1 h2)
theorem MC {G:List ai->List ai->Option (List ai)} (hG:Mw G) {v:Nat} (hv:v<4) {a b:MP} {r:List ai} (wa:Wp a.l) (wb:Wp b.l) (la:a.lo (v+1)) (lb:b.lo (v+1)) (pa:a.prim v) (pb:b.prim v) (h:zx G a.l b.l v=some r):∃ s:MP,r=s.l/\pJ s a b:=by
 have a0:=dY pa;have b0:=dY pb;have hex:∀ p:MP,Wp p.l->∀ m∈p.l,∀ w,m.1.get w<18446744073709551616:=fun p hp m hm w=>by have:=(hp.exps hm w).2;omega
 unfold zx at h;split at h
 ·cases h
 ·rename_i m hm;have hbd:∀ d:MP,d∣a->d∣b->d.deg v<=m:=fun d h1 h2=>tK hv a0 b0 (hex a wa) (hex b wb) h1 h2 hm;split at h
  ·rename_i hm0;simp only [Option.some.injEq] at h;refine⟨1,by rw [<- h,uy],unit_dvd unit_one a,unit_dvd unit_one b,fun d h1 h2=>pa d (by have:=hbd d h1 h2;show d.deg v<=0;omega) h1⟩
  ·split at h
   ·cases h
   ·rename_i o ho;split at h
    ·rename_i hc;simp only [Option.some.injEq] at h;rw [Bool.and_eq_true] at hc
     cases o with
     | none=>cases hc.1
     | some res =>
      obtain⟨t,l,hl⟩:=kW b0;have ho':=ho;unfold wM at ho';rw [hl] at ho';simp only at ho';obtain⟨h1,h2⟩:=yx (hl ▸ b.v) rfl a.v dh.nil ho'
      have hd:b∣a:=by
       refine⟨⟨canon res,fD _⟩,MP.ext' fun x=>?_⟩;have:=h2 x;rw [di,<- hl] at this;rw [MP.ev_mul];show ev x a.l=ev x b.l*ev x (canon res);rw [mO h1];grind
      exact⟨b,h.symm,hd,dvd_refl b,fun d _ h=>h⟩
    ·exact IY hG hv _ a b r la lb pa pb h
theorem KG {g a b:MP} (h:pJ g a b):pJ g b a:=⟨h.r,h.l,fun d x y=>h.u d y x⟩
theorem ME {G:List ai->List ai->Option (List ai)} (hG:Mw G) {v:Nat} (hv:v<4) {a b:MP} {r:List ai} (wa:Wp a.l) (wb:Wp b.l) (la:a.lo (v+1)) (lb:b.lo (v+1)) (pa:a.prim v) (pb:b.prim v) (h:C9 G a.l b.l v=some r):∃ s:MP,r=s.l/\pJ s a b:=by
 unfold C9 at h;split at h
 ·obtain⟨s,e,hs⟩:=MC hG hv wb wa lb la pb pa h;exact⟨s,e,KG hs⟩
 ·exact MC hG hv wa wb la lb pa pb h
theorem IZ (a b:MP):∀ (n:Nat),n<=4->(∀ w,n<=w->w<4->a.fr w/\b.fr w)->∀ v,rP [a.l,b.l] n=some v->v<4/\a.lo (v+1)/\b.lo (v+1)
 | 0,_,_,v,h=>by cases h
 | n+1,hn,hf,v,h=>by
  rw [rP] at h;split at h
  ·simp only [Option.some.injEq] at h;subst h;exact⟨by omega,fun w h1 h2=>(hf w h1 h2).1,fun w h1 h2=>(hf w h1 h2).2⟩
  ·rename_i hc;refine IZ a b n (by omega) (fun w h1 h2=>?_) v h;rcases Nat.eq_or_lt_of_le h1 with e|hlt
   ·subst e;simp only [List.any_cons,List.any_nil,Bool.or_false,Bool.or_eq_true,decide_eq_true_eq,not_or] at hc;exact⟨by show aG a.l n<=0;omega,by show aG b.l n<=0;omega⟩
   ·exact hf w hlt h2
theorem I1 {a b r:List ai} (h:eD a b=some r):Wp r:=by
 unfold eD at h;split at h
 ·have:=jG h;rw [this.1];exact this.2
 ·cases h
theorem kU {α β:Type} {o:Option α} {f:α->Option β} {y:β} (h:eB o f=some y):∃ x,o=some x/\f x=some y:=by
 cases o with
 | none=>cases h
 | some x=>exact⟨x,rfl,h⟩
theorem TD {G:List ai->List ai->Option (List ai)} (hG:Mw G):Mw (QB G):=fun a b r h=>by
 unfold QB at h;split at h
 ·rename_i ha;have ha:=zero_iff.2 ha;refine⟨nrm b,wV h,?_,fun hne=>Ce fun h0=>hne (by rw [h0,oO])⟩;by_cases hb:b=0
  ·rw [hb,oO,ha];exact⟨dvd_refl _,dvd_refl _,fun d h _=>h⟩
  ·exact⟨by rw [ha];exact dvd_zero _,(jm hb).1,fun d _ h=>dvd_trans h (jm hb).2⟩
 ·rename_i ha;have a0:a≠0:=fun h=>ha (zero_iff.1 h);split at h
  ·rename_i hb;have hb:=zero_iff.2 hb;exact⟨nrm a,wV h,⟨(jm a0).1,by rw [hb];exact dvd_zero _,fun d h _=>dvd_trans h (jm a0).2⟩,fun _=>Ce a0⟩
  ·rename_i hb;have b0:b≠0:=fun h=>hb (zero_iff.1 h);split at h
   ·rename_i hc;simp only [Option.some.injEq] at h;exact⟨1,by rw [<- h,uy],KF (hc.imp tL tL),fun _=>KE⟩
   ·obtain⟨v,hv,h⟩:=kU h;obtain⟨v4,la,lb⟩:=IZ a b 4 (by omega) (fun w h1 h2=>by omega) v hv;have HG:=AU v (by omega);split at h
    ·rename_i hd;obtain⟨c,hc,h⟩:=kU h;obtain⟨k,rfl,hk,_⟩:=qN hG hc;obtain⟨g,e,hg⟩:=hG k b r h;have hbf:b.fr v:=Int.le_of_eq hd;exact⟨g,e,⟨dvd_trans hg.i.l hk.d,hg.i.r,fun d h1 h2=>hg.i.u d (hk.u d (rz b0 h2 hbf) h1) h2⟩,hg.n⟩
    ·split at h
     ·rename_i hd;obtain⟨c,hc,h⟩:=kU h;obtain⟨k,rfl,hk,_⟩:=qN hG hc;obtain⟨g,e,hg⟩:=hG a k r h;have haf:a.fr v:=Int.le_of_eq hd;exact⟨g,e,⟨hg.i.l,dvd_trans hg.i.r hk.d,fun d h1 h2=>hg.i.u d h1 (hk.u d (rz a0 h1 haf) h2)⟩,hg.n⟩
     ·obtain⟨x0,hx,h⟩:=kU h;obtain⟨y0,hy,h⟩:=kU h;obtain⟨g0,hg0,h⟩:=kU h;obtain⟨p0,hp,h⟩:=kU h;obtain⟨q0,hq,h⟩:=kU h;obtain⟨s0,hs,h⟩:=kU h;obtain⟨m0,hm,h⟩:=kU h;obtain⟨x,rfl,ix,_⟩:=qN hG hx;obtain⟨y,rfl,iy,_⟩:=qN hG hy;obtain⟨g,rfl,hg⟩:=hG x y _ hg0;obtain⟨p,ep,pp,x00⟩:=mr ix a0;obtain⟨q,eq,pq,y00⟩:=mr iy b0;have wp0:=I1 hp;have wq0:=I1 hq;have e1:=Cc (q:=p) x00 (ep.trans (jU x p)) hp;have e2:=Cc (q:=q) y00 (eq.trans (jU y q)) hq;subst e1;subst e2;have lp:=wW x00 (dY pp) ep la;have lq:=wW y00 (dY pq) eq lb;obtain⟨s,rfl,hsg⟩:=ME hG v4 wp0 wq0 lp lq pp pq hs;have hm:m0=(g*s).l:=(jG hm).1;subst hm;have lx:x.lo v:=vT (jA a0 (by rw [ep];exact dvd_mul_right _ _) la) ix.f;have ly:y.lo v:=vT (jA b0 (by rw [eq];exact dvd_mul_right _ _) lb) iy.f
      have hall:pJ (g*s) a b:=by
       refine⟨by rw [ep];exact mul_dvd hg.i.l hsg.l,by rw [eq];exact mul_dvd hg.i.r hsg.r,fun d h1 h2=>?_⟩;have d0:=dvd_ne a0 h1;obtain⟨e,z,rfl,he,e0',pz',lz,_⟩:=lu HG v4 (jA a0 h1 la) d0;have hef:e.fr v:=he v (Nat.le_refl _) v4;refine mul_dvd (hg.i.u e ?_ ?_) (hsg.u z ?_ ?_)
       ·exact ix.u e hef (dvd_trans (dvd_mul_right _ _) h1)
       ·exact iy.u e hef (dvd_trans (dvd_mul_right _ _) h2)
       ·exact gG HG v4 lp pz' lx x00 (by rw [<- ep];exact dvd_trans (dvd_mul_left _ _) h1)
       ·exact gG HG v4 lq pz' ly y00 (by rw [<- eq];exact dvd_trans (dvd_mul_left _ _) h2)
      have hne:=QY hall a0;exact⟨nrm (g*s),wV h,Er hall hne,fun _=>Ce hne⟩
end Q
end
section
namespace Q
open MP
theorem Cf {a:MP} {t:ai} {l:List ai} (h:a.l=t::l):hd a=t.2:=by unfold hd;rw [h]
theorem FY {a b:MP} (ha:a≠0) (hb:b≠0):hd (a*b)=hd a*hd b:=by
 obtain⟨s,l,hs⟩:=kW ha;obtain⟨t,r,ht⟩:=kW hb;have va:aV (s::l):=hs ▸ a.v;have vb:aV (t::r):=ht ▸ b.v;obtain⟨h1,h2⟩:=Fz va vb;have hz:=je (va.2 s (by simp)).1 (vb.2 t (by simp)).1;obtain⟨m,hm⟩:=Fy (aV.mul _ _) hz h1 h2;have e:(a*b).l=aQ (s::l) (t::r):=by show aQ a.l b.l=_;rw [hs,ht]
 rw [Cf (e.trans hm),Cf hs,Cf ht]
theorem NG.fac {g k a b d:MP} (h:NG g a b) (hk:NG k (a*d) (b*d)):k=nrm d*g:=by
 by_cases hd0:d=0
 ·have e1:k=0:=by
   have:=hk.i.u 0 (by rw [hd0];exact⟨1,by grind⟩) (by rw [hd0];exact⟨1,by grind⟩);exact zero_dvd this
  rw [e1,hd0,oO];grind
 by_cases hg0:g=0
 ·have ha:a=0:=zero_dvd (hg0 ▸ h.i.l);have hb:b=0:=zero_dvd (hg0 ▸ h.i.r)
  have e1:k=0:=by
   have:=hk.i.u 0 (by rw [ha];exact⟨1,by grind⟩) (by rw [hb];exact⟨1,by grind⟩);exact zero_dvd this
  rw [e1,hg0];grind
 obtain⟨n1,n2⟩:=jm hd0;have e1:nrm d*g∣k:=hk.i.u _ (by rw [jU a d];exact mul_dvd n1 h.i.l) (by rw [jU b d];exact mul_dvd n1 h.i.r);obtain⟨u,hu⟩:=hk.i.u d (dvd_mul_left d a) (dvd_mul_left d b);have hug:u∣g:=h.i.u u (dvd_cancel hd0 (by rw [<- hu,jU d a];exact hk.i.l)) (dvd_cancel hd0 (by rw [<- hu,jU d b];exact hk.i.r));have e2:k∣nrm d*g:=by rw [hu];exact mul_dvd n2 hug
 have hne:nrm d*g≠0:=mul_ne (FW hd0) hg0;have k0:k≠0:=fun e=>hne (by rw [e] at e2;exact zero_dvd e2);exact Vz k0 e2 e1 (hk.n k0) (by rw [FY (FW hd0) hg0,Ce hd0,h.n hg0];exact Rat.mul_one 1)
def NC (v:Nat) (g a:MP):Prop:=xP v g a/\(g≠0->hd g=1)
end Q
end
section
namespace Q
open MP Go.Proofs.YtopclbeomcggiaaGreat
structure qw (D H:Nat) (p:MP):Prop where
 d:p.dv D
 a:(D:Rat)*p.am<=(H:Rat)
def In (b:Nat) (p:MP):Prop:=∃ D H,0<D/\D<=2 ^ b/\H<=2 ^ b/\qw D H p
theorem bW (n:Nat):(0:Rat)<=(n:Rat):=Rat.natCast_nonneg
theorem zf {m n:Nat} (h:m<=n):(m:Rat)<=(n:Rat):=Rat.natCast_le_natCast.2 h
theorem qw.mono {D H H':Nat} {p:MP} (h:qw D H p) (hH:H<=H'):qw D H' p:=⟨h.d,Rat.le_trans h.a (zf hH)⟩
theorem qw.mul {D H D' H':Nat} {p q:MP} (h:qw D H p) (h':qw D' H' q):qw (D*D') (H*H') (p*q):=by
 refine⟨P7 h.d h'.d,?_⟩;have h1:=Rat.mul_le_mul_of_nonneg_left (Bz p q) (bW (D*D'));have h2:=pG h.a h'.a (Rat.mul_nonneg (bW D) p.am_nonneg) (bW H');rw [Rat.natCast_mul] at h1 ⊢;rw [Rat.natCast_mul];grind
theorem qw.sub {D H H':Nat} {p q:MP} (h:qw D H p) (h':qw D H' q):qw D (H+H') (p-q):=by
 refine⟨Bw h.d h'.d,?_⟩;have h1:=Rat.mul_le_mul_of_nonneg_left (JY p q) (bW D);have h2:=h.a;have h3:=h'.a;rw [Rat.natCast_add];grind
theorem qw.up {D H:Nat} {p:MP} (h:qw D H p) (K:Nat):qw (D*K) (H*K) p:=by
 refine⟨SX (Nat.dvd_mul_right _ _) h.d,?_⟩;have:=Rat.mul_le_mul_of_nonneg_right h.a (bW K);rw [Rat.natCast_mul,Rat.natCast_mul];grind
theorem WV (v n:Nat) (p:MP):(p.co v n).am<=p.am:=by
 have e:bD (aD p.l v n)=bD (p.l.filter fun t=>t.1.get v=(n:Int)):=by
  unfold aD;generalize p.l.filter _=l
  induction l with
  | nil=>rfl
  | cons u l ih=>simp only [List.map_cons,bD,ih]
 show bD (aD p.l v n)<=bD p.l;rw [e]
 have h2:∀ l:List ai,bD (l.filter fun t=>t.1.get v=(n:Int))<=bD l:=fun l=>by
  induction l with
  | nil=>exact Rat.le_refl
  | cons t l ih =>
   have:=eu t.2;rw [List.filter_cons];split <;> simp only [bD] <;> grind
 exact h2 p.l
theorem qw.co {D H:Nat} {p:MP} (h:qw D H p) (v n:Nat):qw D H (p.co v n) :=
 ⟨Uo h.d v n,Rat.le_trans (Rat.mul_le_mul_of_nonneg_left (WV v n p) (bW D)) h.a⟩
theorem FZ {l r:List ai} (h:r.Sublist l):bD r<=bD l:=by
 induction h with
 | slnil=>exact Rat.le_refl
 | cons t _ ih=>have:=eu t.2;simp only [bD];grind
 | cons_cons t _ ih=>simp only [bD];grind
theorem qw.part {D H:Nat} {p q:MP} (h:qw D H p) (hs:q.l.Sublist p.l):qw D H q :=
 ⟨fun t ht=>h.d t (hs.subset ht),Rat.le_trans (Rat.mul_le_mul_of_nonneg_left (FZ hs) (bW D)) h.a⟩
theorem qw.zero (D H:Nat):qw D H 0:=⟨FB D,by rw [LX,Rat.mul_zero];exact bW H⟩
namespace In
variable {b c:Nat} {p q:MP}
theorem mono (h:In b p) (hb:b<=c):In c p:=by
 obtain⟨D,H,h1,h2,h3,h4⟩:=h;have:=Nat.pow_le_pow_right (show 0<2 by omega) hb;exact⟨D,H,h1,by omega,by omega,h4⟩
theorem mul (h:In b p) (h':In c q):In (b+c) (p*q):=by
 obtain⟨D,H,h1,h2,h3,h4⟩:=h;obtain⟨D',H',k1,k2,k3,k4⟩:=h';refine⟨D*D',H*H',Nat.mul_pos h1 k1,?_,?_,h4.mul k4⟩
 ·rw [Nat.pow_add];exact Nat.mul_le_mul h2 k2
 ·rw [Nat.pow_add];exact Nat.mul_le_mul h3 k3
theorem co (h:In b p) (v n:Nat):In b (p.co v n):=by
 obtain⟨D,H,h1,h2,h3,h4⟩:=h;exact⟨D,H,h1,h2,h3,h4.co v n⟩
theorem part (h:In b p) (hs:q.l.Sublist p.l):In b q:=by
 obtain⟨D,H,h1,h2,h3,h4⟩:=h;exact⟨D,H,h1,h2,h3,h4.part hs⟩
theorem zero (b:Nat):In b 0:=⟨1,1,by omega,Nat.one_le_two_pow,Nat.one_le_two_pow,qw.zero 1 1⟩
theorem one (b:Nat):In b 1:=⟨1,1,by omega,Nat.one_le_two_pow,Nat.one_le_two_pow,UZ 1,by rw [U1,Rat.mul_one];exact Rat.le_refl⟩
end In
theorem yA {p:MP} (h:p≠0):∃ t∈p.l,hd p=t.2:=by
 obtain⟨t,l,e⟩:=kW h;exact⟨t,by rw [e];simp,Cf e⟩
theorem MF {p:MP} (h:p≠0):bH (hd p)<=p.am:=by
 obtain⟨t,ht,e⟩:=yA h;rw [e];exact sF ht
theorem qw.hd {D H:Nat} {p:MP} (h:qw D H p) (h0:p≠0):qw D H (c (Q.hd p)):=by
 obtain⟨t,ht,e⟩:=yA h0;refine⟨NU (by rw [e];exact h.d t ht),?_⟩;rw [Ij];exact Rat.le_trans (Rat.mul_le_mul_of_nonneg_left (MF h0) (bW D)) h.a
theorem In.hd {b:Nat} {p:MP} (h:In b p) (h0:p≠0):In b (c (Q.hd p)):=by
 obtain⟨D,H,h1,h2,h3,h4⟩:=h;exact⟨D,H,h1,h2,h3,h4.hd h0⟩
theorem F5 {p:MP} (h:p≠0):hd p*(1 / hd p)=1:=by
 have:=Rat.div_mul_cancel (a:=1) (ze h);grind
theorem qw.nrm {D H:Nat} {p:MP} (h4:qw D H p) (h1:0<D) (h0:p≠0):∃ z:Nat,0<z/\(z:Rat)=(D:Rat)*bH (Q.hd p)/\z<=H/\qw z H (Q.nrm p):=by
 obtain⟨z,hz⟩:∃ z:Int,Q.hd p*(D:Rat)=(z:Rat):=by
  obtain⟨t,ht,e⟩:=yA h0;rw [e];exact h4.d t ht
 have hD0:(D:Rat)≠0:=jk h1;have hh:=ze h0;have hd1:=F5 h0
 have hz0:z≠0:=fun e=>by
  rw [e] at hz;exact je hh hD0 hz
 have hrz:((z.natAbs:Nat):Rat)=bH (z:Rat):=(Q.rabs_int z).symm;have e2:bH (z:Rat)=(D:Rat)*bH (Q.hd p):=by rw [<- hz,jo,bJ (bW D)];grind
 have hzH:z.natAbs<=H:=by
  have e1:=Rat.mul_le_mul_of_nonneg_left (MF h0) (bW D);have e3:((z.natAbs:Nat):Rat)<=(H:Rat):=by rw [hrz,e2];exact Rat.le_trans e1 h4.a
  exact Rat.natCast_le_natCast.1 e3
 refine⟨z.natAbs,by omega,by rw [hrz,e2],hzH,?_,?_⟩
 ·intro t ht;obtain⟨s,hs,rfl⟩:=BA ht;obtain⟨k,hk⟩:=h4.d s hs;have e4:s.2*(1 / Q.hd p)*(z:Rat)=(k:Rat):=by rw [<- hz,<- hk];grind
  rcases Int.natAbs_eq z with e|e
  ·refine⟨k,?_⟩;show s.2*(1 / Q.hd p)*((z.natAbs:Nat):Rat)=k;rw [<- Rat.intCast_natCast,<- e];exact e4
  ·refine⟨-k,?_⟩;show s.2*(1 / Q.hd p)*((z.natAbs:Nat):Rat)=_;rw [<- Rat.intCast_natCast,show ((z.natAbs:Nat):Int)=-z by omega,Rat.intCast_neg,Rat.intCast_neg,<- e4];grind
 ·show _*(c (1 / Q.hd p)*p).am<=_;rw [rH,hrz,<- hz,jo,bJ (bW D)];have e5:bH (Q.hd p)*bH (1 / Q.hd p)=1:=by rw [<- jo,hd1];exact qD
  have:bH (Q.hd p)*(D:Rat)*(bH (1 / Q.hd p)*p.am)=(bH (Q.hd p)*bH (1 / Q.hd p))*((D:Rat)*p.am):=by grind
  rw [this,e5,Rat.one_mul];exact h4.a
theorem In.nrm {b:Nat} {p:MP} (h:In b p):In b (Q.nrm p):=by
 by_cases h0:p=0
 ·rw [h0,oO];exact In.zero b
 obtain⟨D,H,h1,h2,h3,h4⟩:=h;obtain⟨z,z1,-,z3,z4⟩:=h4.nrm h1 h0;exact⟨z,H,z1,by omega,h3,z4⟩
theorem I4 {r:Rat} (hr:r≠0) (f:MP):nrm (c r*f)=nrm f:=by
 by_cases h:f=0
 ·have e:c r*f=0:=by rw [h];grind
  rw [e,h]
 have h1:=ze h;have h2:hd f*r≠0:=je h1 hr;rw [nrm,nrm,uw hr]
 have e:(1:Rat) / (hd f*r)*r=1 / hd f:=by
  have e1:=Rat.div_mul_cancel (a:=1) h2;have e2:=Rat.div_mul_cancel (a:=1) h1;have e3:(1:Rat) / (hd f*r)*r*hd f=1 / hd f*hd f:=by grind
  have e4:((1:Rat) / (hd f*r)*r-1 / hd f)*hd f=0:=by grind
  rcases Rat.mul_eq_zero.1 e4 with h|h
  ·grind
  ·exact absurd h h1
 rw [<- e,<- lv];grind
def Dg (d:Nat->Nat) (p:MP):Prop:=∀ w,w<4->p.deg w<=d w
theorem Dg.mono {d e:Nat->Nat} {p:MP} (h:Dg d p) (hd:∀ w,d w<=e w):Dg e p:=fun w hw=>by have:=h w hw;have:=hd w;omega
theorem Dg.dvd {d:Nat->Nat} {p q:MP} (h:Dg d p) (h0:p≠0) (hq:q∣p):Dg d q:=fun w hw=>Int.le_trans (dvd_deg h0 hq w) (h w hw)
theorem tN {r:Rat} (hr:r≠0) {p:MP} (h:p≠0) (w:Nat):(c r*p).deg w=p.deg w:=by
 rw [deg_mul (wI hr) h];have h1:=deg_pos (wI hr) w;have h2:(c r).deg w<=0:=nN r w;omega
theorem Ch {r:Rat} (hr:r≠0) (p:MP):c r*p∣p/\p∣c r*p:=by
 refine⟨⟨c r⁻¹,?_⟩,⟨c r,by grind⟩⟩;have h:c r*c r⁻¹=1:=by rw [lv,Rat.mul_inv_cancel _ hr];rfl
 grind
theorem In.fac {b k n:Nat} {a f:MP} {d:Nat->Nat} (hn:n<=4) (h:In b a) (h0:a≠0) (hf:f∣a) (hl:a.lo n) (hd:Dg d a) (hk:tC d n<=2 ^ k):In (b+k) (Q.nrm f):=by
 obtain⟨D,H,h1,h2,h3,h4⟩:=h;obtain⟨g,eg⟩:=hf;have f0:f≠0:=fun e=>h0 (by rw [eg,e];grind);obtain⟨r,hr,hp⟩:=Qb f0;have hD0:(D:Rat)≠0:=jk h1
 have e:c (D:Rat)*a=(c r*f)*(c ((D:Rat)*r⁻¹)*g):=by
  have h5:c r*c ((D:Rat)*r⁻¹)=c (D:Rat):=by rw [lv];congr 1;have:=Rat.mul_inv_cancel _ hr;grind
  rw [eg,<- h5];grind
 have iP:(c (D:Rat)*a).dv 1:=qE h4.d;have iH:=J6 iP hp e;have hP0:c (D:Rat)*a≠0:=mul_ne (wI hD0) h0;have hf2:=MP.fac d n hn _ _ _ e hP0 hp.1 iH (jA h0 (Ch hD0 a).1 hl) fun w hw=>by rw [tN hD0 h0];exact hd w (by omega)
 rw [rH (D:Rat) a,bJ (bW D)] at hf2
 have h6:In (b+k) (c r*f):=by
  refine⟨1,2 ^ (b+k),by omega,Nat.one_le_two_pow,Nat.le_refl _,hp.1,?_⟩;have e1:((1:Nat):Rat)=1:=rfl;rw [e1,Rat.one_mul]
  have h7:(tC d n:Rat)*((D:Rat)*a.am)<=((2 ^ k:Nat):Rat)*((2 ^ b:Nat):Rat) :=
   pG (zf hk) (Rat.le_trans h4.a (zf h3)) (bW _) (bW _)
  rw [<- Rat.natCast_mul,<- Nat.pow_add,Nat.add_comm] at h7;exact Rat.le_trans hf2 h7
 have:=h6.nrm;rwa [I4 hr] at this
theorem Ci {p:MP} (h:p≠0):p=c (hd p)*nrm p:=by
 have h1:c (hd p)*c (1 / hd p)=1:=by rw [lv,F5 h];rfl
 rw [nrm];grind
theorem In.quot {b k n:Nat} {a q z:MP} {d:Nat->Nat} (hn:n<=4) (h:In b a) (h0:a≠0) (e:a=q*z) (hz:Q.hd z=1) (hl:a.lo n) (hd:Dg d a) (hk:tC d n<=2 ^ k):In (b+(b+k)) q:=by
 have q0:q≠0:=fun h=>h0 (by rw [e,h];grind);have z0:z≠0:=fun h=>h0 (by rw [e,h];grind);have e1:Q.hd a=Q.hd q:=by rw [e,FY q0 z0,hz,Rat.mul_one]
 have h1:=h.fac hn h0 ⟨z,e⟩ hl hd hk;have h2:=(h.hd h0).mul h1;rwa [e1,<- Ci q0] at h2
end Q
end
section
namespace Q
open MP Go.Proofs.YtopclbeomcggiaaGreat
theorem wX:∀ (N:Nat) (L:List Nat),L.Nodup->(∀ x∈L,x<N)->L.length<=N
 | 0,L,_,h=>by
  cases L with
  | nil=>simp
  | cons x L=>have:=h x (by simp);omega
 | N+1,L,hn,h=>by
  by_cases hN:N∈L
  ·have h1:=wX N (L.erase N) (hn.erase N) fun x hx=>by
    have h2:=(hn.mem_erase_iff).1 hx;have:=h x h2.2;have:=h2.1;omega
   rw [List.length_erase_of_mem hN] at h1;omega
  ·have:=wX N L hn fun x hx=>by
    have:=h x hx;have:x≠N:=fun e=>hN (e ▸ hx);omega
   omega
def bx (d:Nat->Nat):Nat:=(d 0+1)*(d 1+1)*(d 2+1)*(d 3+1)
def KH (d:Nat->Nat) (e:Ex):Prop:=e.nat=true/\∀ w,w<4->e.get w<=d w
def MG (d:Nat->Nat) (e:Ex):Nat:=((e.1.toNat * (d 1+1)+e.2.1.toNat)*(d 2+1)+e.2.2.1.toNat)*(d 3+1)+e.2.2.2.toNat
theorem F6 {a b A B:Nat} (ha:a<A) (hb:b<B):a*B+b<A*B:=by
 have:=Nat.mul_le_mul_right B (show a+1<=A by omega);rw [Nat.add_mul] at this;omega
theorem Cj {a b a' b' B:Nat} (hb:b<B) (hb':b' < B) (h:a*B+b=a'*B+b'):a=a'/\b=b':=by
 have h1:(a*B+b) / B=a:=by rw [Nat.mul_comm,Nat.mul_add_div (by omega),Nat.div_eq_of_lt hb,Nat.add_zero]
 have h2:(a'*B+b') / B=a':=by rw [Nat.mul_comm,Nat.mul_add_div (by omega),Nat.div_eq_of_lt hb',Nat.add_zero]
 have h3:a=a':=by rw [<- h1,<- h2,h]
 subst h3;omega
theorem KH.parts {d:Nat->Nat} {e:Ex} (h:KH d e):e.1.toNat<d 0+1/\e.2.1.toNat<d 1+1/\e.2.2.1.toNat<d 2+1/\e.2.2.2.toNat<d 3+1/\0<=e.1/\0<=e.2.1/\0<=e.2.2.1/\0<=e.2.2.2:=by
 have h0:=Ex.nat_iff.1 h.1;have a0:=h.2 0 (by omega);have a1:=h.2 1 (by omega);have a2:=h.2 2 (by omega);have a3:=h.2 3 (by omega);simp only [Ex.get] at a0 a1 a2 a3;omega
theorem TE {d:Nat->Nat} {e:Ex} (h:KH d e):MG d e<bx d:=by
 obtain⟨h0,h1,h2,h3,_⟩:=h.parts;exact F6 (F6 (F6 h0 h1) h2) h3
theorem TF {d:Nat->Nat} {e f:Ex} (h:KH d e) (h':KH d f) (hc:MG d e=MG d f):e=f:=by
 obtain⟨h0,h1,h2,h3,n0,n1,n2,n3⟩:=h.parts;obtain⟨k0,k1,k2,k3,m0,m1,m2,m3⟩:=h'.parts;obtain⟨c1,c2⟩:=Cj h3 k3 hc;obtain⟨c3,c4⟩:=Cj h2 k2 c1;obtain⟨c5,c6⟩:=Cj h1 k1 c3;exact Ex.ext' (by omega) (by omega) (by omega) (by omega)
theorem F7 {d:Nat->Nat} {L:List Ex} (hn:L.Nodup) (h:∀ e∈L,KH d e):L.length<=bx d:=by
 have h1:(L.map (MG d)).Nodup:=by
  induction L with
  | nil=>exact List.nodup_nil
  | cons e L ih =>
   rw [List.nodup_cons] at hn;rw [List.map_cons,List.nodup_cons];refine⟨fun hm=>?_,ih hn.2 fun f hf=>h f (by simp [hf])⟩;obtain⟨f,hf,hc⟩:=List.mem_map.1 hm;exact hn.1 (TF (h e (by simp)) (h f (by simp [hf])) hc.symm ▸ hf)
 have:=wX (bx d) _ h1 fun x hx=>by
  obtain⟨e,he,rfl⟩:=List.mem_map.1 hx;exact TE (h e he)
 rwa [List.length_map] at this
theorem Oo {l:List ai} (h:EP l):(l.map Prod.fst).Nodup:=by
 induction l with
 | nil=>exact List.nodup_nil
 | cons t l ih =>
  have h':=List.pairwise_cons.1 h;rw [List.map_cons,List.nodup_cons];refine⟨fun hm=>?_,ih h'.2⟩;obtain⟨u,hu,e⟩:=List.mem_map.1 hm;exact Ex.gt_ne (h'.1 u hu) e.symm
theorem Dg.inB {d:Nat->Nat} {p:MP} (h:Dg d p):∀ t∈p.l,KH d t.1:=fun t ht=>⟨(p.v.2 t ht).2,fun w hw=>Int.le_trans (dU ht w) (h w hw)⟩
theorem Dg.len {d:Nat->Nat} {p:MP} (h:Dg d p):p.l.length<=bx d:=by
 have:=F7 (Oo p.v.1) (d:=d) fun e he=>by
  obtain⟨t,ht,rfl⟩:=List.mem_map.1 he;exact h.inB t ht
 rwa [List.length_map] at this
theorem MH {d:Nat->Nat} {p:MP} (h:∀ t∈p.l,KH d t.1):Dg d p:=fun w hw=>by
 rcases (gW (fun t=>t.1.get w) p.l (-1)).2.2 with e|⟨t,ht,e⟩
 ·show aG p.l w<=_;unfold aG;rw [e];omega
 ·show aG p.l w<=_;unfold aG;rw [<- e];exact (h t ht).2 w hw
theorem Yr {a b c e:Nat} (ha:0<a) (hb:0<b) (hc:0<c) (he:0<e):a<=a*b*c*e/\b<=a*b*c*e/\c<=a*b*c*e/\e<=a*b*c*e:=by
 have e1:a*b*c*e=a*(b*c*e):=by simp only [Nat.mul_assoc]
 have e2:a*b*c*e=b*(a*c*e):=by simp only [Nat.mul_comm,Nat.mul_left_comm]
 have e3:a*b*c*e=c*(a*b*e):=by simp only [Nat.mul_comm,Nat.mul_left_comm]
 have e4:a*b*c*e=e*(a*b*c):=by simp only [Nat.mul_comm,Nat.mul_left_comm]
 refine⟨?_,?_,?_,?_⟩
 ·rw [e1];exact Nat.le_mul_of_pos_right _ (Nat.mul_pos (Nat.mul_pos hb hc) he)
 ·rw [e2];exact Nat.le_mul_of_pos_right _ (Nat.mul_pos (Nat.mul_pos ha hc) he)
 ·rw [e3];exact Nat.le_mul_of_pos_right _ (Nat.mul_pos (Nat.mul_pos ha hb) he)
 ·rw [e4];exact Nat.le_mul_of_pos_right _ (Nat.mul_pos (Nat.mul_pos ha hb) hc)
theorem WW (d:Nat->Nat):d 0+1<=bx d/\d 1+1<=bx d/\d 2+1<=bx d/\d 3+1<=bx d:=Yr (by omega) (by omega) (by omega) (by omega)
theorem KI {D:Nat} {x:Rat} (hD:0<D) (h:Dv D x):x.den∣D/\bH ((x.num:Int):Rat)<=(D:Rat)*bH x:=by
 obtain⟨k,hk⟩:=h;have hD0:(D:Rat)≠0:=jk hD
 have hc:x=Rat.divInt k D:=by
  rw [Rat.divInt_eq_div,Rat.intCast_natCast,<- hk];grind
 obtain⟨e1,e2⟩:=rf k D (by omega);rw [<- hc] at e1 e2;refine⟨Int.natCast_dvd_natCast.1 ⟨(Int.gcd k D:Int),by rw [e2];exact (Int.ediv_mul_cancel (Int.gcd_dvd_right _ _)).symm⟩,?_⟩;have h4:x.num.natAbs<=k.natAbs:=by rw [e1];exact Int.natAbs_ediv_le_natAbs _ _
 have h5:(D:Rat)*bH x=bH (k:Rat):=by rw [<- hk,jo,bJ (bW D)];grind
 rw [h5,Q.rabs_int,Q.rabs_int];exact zf h4
theorem TG {D:Nat} {x:Rat} (h:Dv D x):Dv D (bH x):=by
 unfold bH;split
 ·exact h.neg
 ·exact h
theorem F8 {D:Nat}:∀ {l:List ai},(∀ t∈l,Dv D t.2)->Dv D (bD l)
 | [],_=>Dv.zero D
 | t::l,h=>(TG (h t (by simp))).add (F8 fun u hu=>h u (by simp [hu]))
theorem I5 {D:Nat}:∀ {l:List ai},(∀ t∈l,t.2.den∣D)->ve l∣D
 | [],_=>Nat.one_dvd D
 | t::l,h=>Nat.lcm_dvd (h t (by simp)) (I5 fun u hu=>h u (by simp [hu]))
theorem F9 {n b:Nat} (h:n<=2 ^ b):aI n<=b+1:=jH (Nat.lt_of_le_of_lt h (Nat.pow_lt_pow_right (by omega) (by omega)))
theorem Q5 {d:Nat->Nat} {b D H:Nat} {l:List ai} (hx:∀ t∈l,KH d t.1) (hd:bx d<=10000) (hl:l.length<=10000) (hD:0<D) (hD2:D<=2 ^ b) (hH:H<=2 ^ b) (hv:∀ t∈l,Dv D t.2) (ha:(D:Rat)*bD l<=(H:Rat)) (hb:b<LB):RO l=true:=by
 simp only [RO,Bool.and_eq_true,decide_eq_true_eq,List.all_eq_true];have hbx:=WW d;refine⟨⟨⟨hl,fun t ht=>?_⟩,?_⟩,?_⟩
 ·obtain⟨h0,h1,h2,h3,n0,n1,n2,n3⟩:=(hx t ht).parts;exact⟨⟨⟨⟨⟨⟨⟨by omega,by omega⟩,by omega⟩,by omega⟩,by omega⟩,by omega⟩,by omega⟩,by omega⟩
 ·have h1:ve l∣D:=I5 fun t ht=>(KI hD (hv t ht)).1;have h2:=iC (Nat.le_trans (Nat.le_of_dvd hD h1) hD2);have h3:=F9 (Nat.le_refl (2 ^ b));omega
 ·have h1:=(KI hD (F8 hv)).2;rw [bJ (jP l),Q.rabs_int] at h1;have h2:N9 l<=H:=Rat.natCast_le_natCast.1 (Rat.le_trans h1 ha);have h3:=F9 (Nat.le_trans h2 hH);omega
theorem rT {d:Nat->Nat} {b:Nat} {p:MP} (h:Dg d p) (hi:In b p) (hd:bx d<=10000) (hb:b<LB):zw p.l=true:=by
 obtain⟨D,H,h1,h2,h3,h4⟩:=hi;rw [zw,Bool.and_eq_true];exact⟨sZ.2 p.v,Q5 h.inB hd (Nat.le_trans h.len hd) h1 h2 h3 h4.d h4.a hb⟩
theorem MI {p:MP} (h:zw p.l=true):g1 p.l=some p.l:=by rw [g1,if_pos h]
theorem qO {d:Nat->Nat} {b:Nat} {p:MP} (h:Dg d p) (hi:In b p) (hd:bx d<=10000) (hb:b<LB):kS p.l=some (nrm p).l:=by
 by_cases h0:p=0
 ·rw [h0,oO];rfl
 ·have h1:=rT (h.dvd h0 (jm h0).1) hi.nrm hd hb;obtain⟨t,l,e⟩:=kW h0;have e2:(nrm p).l=bY p.l (1 / t.2):=by rw [nrm,Cf e,um]
  have h2:=MI h1;rw [e2] at h2 ⊢;rw [e] at h2 ⊢;exact h2
theorem vF {g:ai} {ts:List ai} (hv:aV (g::ts)):∀ (s out:List ai) (n:Nat),aV s->(∀ x r,x::r <:+ s->zw (aQ (x::r) (g::ts))=true/\zw [x]=true)->s.length+1<=n->qH (g::ts) g n (aQ s (g::ts)) out=some (some (out++s))
 | [],out,n,_,_,hn=>by
  obtain⟨n,rfl⟩:∃ m,n=m+1:=⟨n - 1,by simp at hn;omega⟩;rw [show aQ [] (g::ts)=[] from rfl,qH,List.append_nil]
 | x::s,out,n,hs,hw,hn=>by
  obtain⟨n,rfl⟩:∃ m,n=m+1:=⟨n - 1,by simp at hn;omega⟩;have hz:=(hv.2 g (by simp)).1;have hx:=hs.2 x (by simp);obtain⟨h1,h2⟩:=Fz hs hv;obtain⟨a,ha⟩:=Fy (aV.mul _ _) (je hx.1 hz) h1 h2;obtain⟨w1,w2⟩:=hw x s (List.suffix_refl _);have ih:=vF hv s (out++[x]) n hs.tail (fun y r hr=>hw y r (hr.trans (List.suffix_cons x s))) (by simp at hn;omega);have h3:=Ih hs hv aV.nil;rw [Ii (aV.mul _ _),Ii (aV.mul _ _)] at h3;rw [ha] at w1 h3 ⊢;have h4:=Ig (x:=x) hz;have h5:((x.1.add g.1).sub g.1)=x.1:=congrArg Prod.fst h4;rw [qH,if_pos w1,if_pos (by show ((x.1.add g.1).sub g.1).nat=true;rw [h5];exact hx.2),h4,if_pos w2,h3,ih];simp
theorem Ck {d:Nat->Nat} {b k:Nat} {a q z:MP} (z0:z≠0) (e:a=q*z) (hd:Dg d a) (hx:bx d<=10000) (hq:In b q) (hz:In k z) (hb:b+k<LB):eD a.l z.l=some q.l:=by
 obtain⟨g,ts,hl⟩:=kW z0;by_cases q0:q=0
 ·have ha:a=0:=by rw [e,q0];grind
  rw [ha,q0,eD,hl];rfl
 have a0:a≠0:=by rw [e];exact mul_ne q0 z0
 have hdq:Dg d q:=hd.dvd a0 ⟨z,e⟩;have hdz:Dg d z:=hd.dvd a0 ⟨q,by rw [e];grind⟩;have hdeg:∀ w,q.deg w+z.deg w=a.deg w:=fun w=>by rw [e,deg_mul q0 z0]
 have key:=vF (hl ▸ z.v) q.l [] fuel q.v (fun x r hr=>by
  have hv:aV (x::r):=q.v.sublist hr.sublist;have hp:In b (⟨x::r,hv⟩:MP):=hq.part hr.sublist
  have hdp:∀ w,(⟨x::r,hv⟩:MP).deg w<=q.deg w:=fun w=>by
   rcases (gW (fun t=>t.1.get w) (x::r) (-1)).2.2 with e|⟨t,ht,e⟩
   ·show aG (x::r) w<=_;unfold aG;rw [e];exact deg_ge w q
   ·show aG (x::r) w<=_;unfold aG;rw [<- e];exact dU (hr.sublist.subset ht) w
  have hne:(⟨x::r,hv⟩:MP)≠0:=fun h=>by have:=zero_iff.1 h;cases this
  refine⟨?_,?_⟩
  ·have h1:=rT (d:=d) (p:=(⟨x::r,hv⟩:MP)*z) (fun w hw=>by
    rw [deg_mul hne z0];have:=hdeg w;have:=hdp w;have:=hd w hw;omega) (hp.mul hz) hx hb
   rw [<- hl];exact h1
  ·have hvx:aV [x]:=hv.sublist (List.singleton_sublist.2 (by simp))
   exact rT (d:=d) (p:=(⟨[x],hvx⟩:MP)) (fun w hw=>by
    show aG [x] w<=_;have h1:=dU (hr.sublist.subset (show x∈x::r by simp)) w;have h2:=hdq w hw;have h3:q.deg w=aG q.l w:=rfl;show max (-1) (x.1.get w)<=_
    omega) (hp.part (q:=⟨[x],hvx⟩) (List.singleton_sublist.2 (by simp))) hx (by omega))
  (by have:=hdq.len;unfold fuel;omega)
 have e2:a.l=aQ q.l (g::ts):=by rw [e,<- hl];rfl
 rw [eD,hl,e2];simp only [wM,key,List.nil_append,Option.getD_some];exact MI (rT hdq hq hx (by omega))
end Q
end
section
namespace Q
open Go Go.Proofs.YtopclbeomcggiaaGreat
theorem TH {c:Rat} (h:Dv 1 c):c.den=1:=by
 obtain⟨z,rfl⟩:=gH h
 rfl
theorem I6:∀ {l:List ai},(∀ t∈l,Dv 1 t.2)->ve l=1
 | [],_=>rfl
 | t::l,h=>by
  rw [ve,TH (h t (by simp)),I6 fun u hu=>h u (by simp [hu])];rfl
structure Is (s:Sz):Prop where
 d:s.D=1
 b:s.B<=2 ^ 200
 e:s.E<=1000
 n:s.N<=900
theorem VA {s:Sz} {p:List ai} (hb:Bd s p) (h:Is s):RO p=true:=by
 have hd:∀ t∈p,Dv 1 t.2:=fun t ht=>h.d ▸ hb.d t ht;have hn:=hb.n;have hn2:=h.n;have he2:=h.e;simp only [RO,Bool.and_eq_true,decide_eq_true_eq,List.all_eq_true];refine⟨⟨⟨by omega,fun t ht=>?_⟩,by rw [I6 hd];decide +kernel⟩,?_⟩
 ·have:=hb.e t ht;exact⟨⟨⟨⟨⟨⟨⟨by omega,by omega⟩,by omega⟩,by omega⟩,by omega⟩,by omega⟩,by omega⟩,by omega⟩
 ·have h1:=(KI (D:=1) Nat.one_pos (F8 hd)).2;rw [bJ (jP p),Q.rabs_int,show ((1:Nat):Rat)=1 from rfl,Rat.one_mul] at h1;have h2:N9 p<=s.B:=Rat.natCast_le_natCast.1 (Rat.le_trans h1 hb.b);have h3:=F9 (Nat.le_trans h2 h.b);rw [D9];omega
theorem KJ {s:Sz} {p:List ai} (hv:aV p) (hb:Bd s p) (h:Is s):zw p=true:=by
 rw [zw,Bool.and_eq_true];exact⟨sZ.2 hv,VA hb h⟩
theorem KL {sp sb:Sz} {s b:List ai} (hne:b≠[]) (hs:aV s) (hv:aV b) (hS:Bd sp s) (hb:Bd sb b) (k:Is (sp.mul sb)) (kp:Is sp):eD (aQ s b) b=some s:=by
 cases b with
 | nil=>exact absurd rfl hne
 | cons g ts =>
  have hl:=hS.n;have hl2:=kp.n
  have h:=vF hv s [] fuel hs (fun x r hr=>by
   have hW:Bd sp (x::r):=hS.sub hr.sublist;have hvr:aV (x::r):=hs.sublist hr.sublist
   exact⟨KJ (aV.mul _ _) (hW.prods hb).canon k,KJ (hvr.sublist (List.singleton_sublist.2 (by simp))) (hW.sub (List.singleton_sublist.2 (by simp))) kp⟩) (by unfold fuel;omega)
  rw [eD,wM,h];simp only [List.nil_append,Option.getD_some];show g1 s=some s;rw [g1,if_pos (KJ hs hS kp)]
structure zP (N:Nat) (M:Mx) (F:Nat->Nat->List ai):Prop where
 len:M.length=N
 rows:∀ r∈M,r.length=N
 el:∀ i j,i<N->j<N->gI M i j=F i j
theorem Oq {N:Nat} {M:Mx} (hl:M.length=N) (hr:∀ r∈M,r.length=N) {i j:Nat} (hi:i<N) (hj:j<N) (x:List ai) (i' j':Nat):gI (wQ M i j x) i' j'=if i'=i/\j'=j then x else gI M i' j':=by
 have hM:M.getD i []=M[i]'(by omega):=by rw [List.getD_eq_getElem?_getD,List.getElem?_eq_getElem (by omega)];rfl
 have hrl:(M[i]'(by omega)).length=N:=hr _ (List.getElem_mem _);unfold gI wQ;by_cases h1:i'=i
 ·subst h1;rw [List.getD_eq_getElem?_getD (l:=M.set i' _),List.getElem?_set,if_pos rfl,if_pos (by omega),Option.getD_some,hM,List.getD_eq_getElem?_getD,List.getElem?_set];by_cases h2:j=j'
  ·subst h2;rw [if_pos rfl,if_pos (by omega),if_pos ⟨rfl,rfl⟩];rfl
  ·rw [if_neg h2,if_neg (fun h=>h2 h.2.symm),<- List.getD_eq_getElem?_getD]
 ·rw [if_neg (fun h=>h1 h.1),List.getD_eq_getElem?_getD (l:=M.set i _),List.getElem?_set,if_neg (fun h=>h1 h.symm),<- List.getD_eq_getElem?_getD]
theorem zP.set {N:Nat} {M:Mx} {F:Nat->Nat->List ai} (h:zP N M F) {i j:Nat} (hi:i<N) (hj:j<N) (x:List ai):zP N (wQ M i j x) (fun i' j'=>if i'=i/\j'=j then x else F i' j'):=by
 have hM:M.getD i []=M[i]'(by rw [h.len];exact hi):=by rw [List.getD_eq_getElem?_getD,List.getElem?_eq_getElem (by rw [h.len];exact hi)];rfl
 refine⟨by rw [wQ,List.length_set];exact h.len,fun r hr=>?_,fun i' j' h1 h2=>?_⟩
 ·rcases List.mem_or_eq_of_mem_set hr with hr|rfl
  ·exact h.rows r hr
  ·rw [List.length_set,hM];exact h.rows _ (List.getElem_mem _)
 ·rw [Oq h.len h.rows hi hj];split
  ·rfl
  ·exact h.el i' j' h1 h2
theorem zP.congr {N:Nat} {M:Mx} {F G:Nat->Nat->List ai} (h:zP N M F) (e:∀ i j,i<N->j<N->F i j=G i j):zP N M G :=
 ⟨h.len,h.rows,fun i j h1 h2=>(h.el i j h1 h2).trans (e i j h1 h2)⟩
theorem MJ {N k i:Nat} {last:List ai} {X:Nat->List ai} (hk:k<i) (hi:i<N):∀ (f:Nat) {M:Mx} {F:Nat->Nat->List ai},zP N M F->k+f<N ->
  (∀ j,N-f<=j->j<N->eD (dK (aQ (F k k) (F i j)) (aQ (F i k) (F k j))) last=some (X j)) ->
  ∃ M',VS N k i last f M=some M'/\zP N M' (fun i' j'=>if i'=i/\N-f<=j' then X j' else F i' j')
 | 0,M,F,h,_,_=>⟨M,rfl,h.congr fun i' j' h1 h2=>by rw [if_neg (by omega)]⟩
 | f+1,M,F,h,hf,hx=>by
  have hj:N-(f+1)<N:=by omega
  have h1:=hx (N-(f+1)) (Nat.le_refl _) hj;have h2:=h.set hi hj (X (N-(f+1)))
  obtain⟨M',h3,h4⟩:=MJ hk hi f h2 (by omega) (fun j h5 h6=>by
   simp only;rw [if_neg (by omega),if_neg (by omega),if_neg (by omega),if_neg (by omega)]
   exact hx j (by omega) h6)
  refine⟨M',?_,h4.congr fun i' j' h5 h6=>?_⟩
  ·rw [VS,h.el k k (by omega) (by omega),h.el i _ hi hj,h.el i k hi (by omega),h.el k _ (by omega) hj,h1];exact h3
  ·by_cases h7:i'=i
   ·subst h7;by_cases h8:N-f<=j'
    ·rw [if_pos ⟨rfl,h8⟩,if_pos ⟨rfl,by omega⟩]
    ·rw [if_neg (fun h=>h8 h.2)];by_cases h9:j'=N-(f+1)
     ·rw [if_pos ⟨rfl,h9⟩,if_pos ⟨rfl,by omega⟩,h9]
     ·rw [if_neg (fun h=>h9 h.2),if_neg (by omega)]
   ·rw [if_neg (fun h=>h7 h.1),if_neg (fun h=>h7 h.1),if_neg (fun h=>h7 h.1)]
theorem Ga {N k:Nat} {last:List ai} {X:Nat->Nat->List ai} (hkN:k<N):∀ (f:Nat) {M:Mx} {F:Nat->Nat->List ai},zP N M F->k+f<N ->
  (∀ i j,N-f<=i->i<N->k<j->j<N->eD (dK (aQ (F k k) (F i j)) (aQ (F i k) (F k j))) last=some (X i j)) ->
  ∃ M',VT N k last f M=some M'/\zP N M' (fun i' j'=>if N-f<=i'/\k<j' then X i' j' else F i' j')
 | 0,M,F,h,_,_=>⟨M,rfl,h.congr fun i' j' h1 h2=>by rw [if_neg (by omega)]⟩
 | f+1,M,F,h,hf,hx=>by
  have hi:N-(f+1)<N:=by omega
  obtain⟨M1,h1,h2⟩:=MJ (X:=X (N - (f+1))) (k:=k) (last:=last) (by omega) hi (N - (k+1)) h (by omega) (fun j h3 h4=>hx _ j (Nat.le_refl _) hi (by omega) h4)
  obtain⟨M',h3,h4⟩:=Ga hkN f h2 (by omega) (fun i j h5 h6 h7 h8=>by
   rw [if_neg (by omega),if_neg (by omega),if_neg (by omega),if_neg (by omega)]
   exact hx i j (by omega) h6 h7 h8)
  refine⟨M',?_,h4.congr fun i' j' h5 h6=>?_⟩
  ·rw [VT,h1];exact h3
  ·by_cases h7:N-f<=i'/\k<j'
   ·rw [if_pos h7,if_pos ⟨by omega,h7.2⟩]
   ·rw [if_neg h7];by_cases h8:i'=N-(f+1)/\N-(N-(k+1))<=j'
    ·rw [if_pos h8,if_pos ⟨by omega,by omega⟩,h8.1]
    ·rw [if_neg h8,if_neg (by omega)]
theorem vG {N f k:Nat} {M:Mx} {F:Nat->Nat->List ai} {last:List ai} {neg:Bool} (h:zP N M F) (hk:k+(f+1)=N) (hp:F k k≠[]) {X:Nat->Nat->List ai}
  (hx:∀ i j,k<i->i<N->k<j->j<N->eD (dK (aQ (F k k) (F i j)) (aQ (F i k) (F k j))) last=some (X i j)) :
  ∃ M',zP N M' (fun i j=>if k<i/\k<j then X i j else F i j)/\resS N (f+1) M last neg=if f=0 then some (Oe (F k k) neg) else resS N f M' (F k k) neg:=by
 have hNk:N-(f+1)=k:=by omega
 have hfp:rQ N k M (f+1)=some k:=by rw [rQ,hNk,if_neg (by rw [h.el k k (by omega) (by omega)];exact hp)]
 obtain⟨M',h1,h2⟩:=Ga (k:=k) (last:=last) (X:=X) (by omega) f h (by omega) (fun i j h3 h4 h5 h6=>hx i j (by omega) h4 h5 h6)
 have h2':=h2.congr (G:=fun i j=>if k<i/\k<j then X i j else F i j) fun i j h3 h4=>by
  by_cases h5:k<i/\k<j
  ·rw [if_pos h5,if_pos ⟨by omega,h5.2⟩]
  ·rw [if_neg h5,if_neg (by omega)]
 refine⟨M',h2',?_⟩;rw [resS,hNk,hfp];simp only [if_true];split
 ·rw [h.el k k (by omega) (by omega)]
 ·rw [h1];show resS N f M' (gI M' k k) neg=_;rw [h2'.el k k (by omega) (by omega)];simp
theorem Cm {N k:Nat} {M:Mx} {F:Nat->Nat->List ai} (h:zP N M F) (hkN:k<N):∀ (f:Nat),f<=N->(∀ i,N-f<=i->i<N->F i k=[])->rQ N k M f=none
 | 0,_,_=>rfl
 | f+1,hf,hz=>by
  rw [rQ,h.el _ k (by omega) hkN,if_pos (hz _ (Nat.le_refl _) (by omega))];exact Cm h hkN f (by omega) fun i h1 h2=>hz i (by omega) h2
theorem Es {N f k:Nat} {M:Mx} {F:Nat->Nat->List ai} {last:List ai} {neg:Bool} (h:zP N M F) (hk:k+(f+1)=N) (hz:∀ i,k<=i->i<N->F i k=[]):resS N (f+1) M last neg=some []:=by
 have hNk:N-(f+1)=k:=by omega
 rw [resS,hNk,Cm h (by omega) (f+1) (by omega) fun i h1 h2=>hz i (by omega) h2]
theorem yB {N k:Nat} {M:Mx} {F:Nat->Nat->List ai} {last:List ai} {neg:Bool} (h:zP N M F) (hk:k+1=N):resS N 1 M last neg=some (if F k k=[] then [] else Oe (F k k) neg):=by
 by_cases h0:F k k=[]
 ·rw [if_pos h0];exact Es h hk fun i h1 h2=>by rw [show i=k by omega];exact h0
 ·rw [if_neg h0];obtain⟨M',-,h2⟩:=vG (neg:=neg) (last:=last) (X:=fun _ _=>[]) h hk h0 (fun i j h1 h2=>by omega);rw [h2,if_pos rfl]
theorem Cn {N k:Nat} {M:Mx} {F:Nat->Nat->List ai} {last x:List ai} {neg:Bool} (h:zP N M F) (hk:k+1=N) (hx:F k k=x):resS N 1 M last neg=some (if x=[] then [] else Oe x neg):=by
 rw [yB h hk,hx]
theorem uz {α:Type} (l:List α) (i j:Nat) (x d:α) (hi:i<l.length):(l.set i x).getD j d=if j=i then x else l.getD j d:=by
 rw [List.getD_eq_getElem?_getD,List.getElem?_set,List.getD_eq_getElem?_getD];by_cases h:i=j
 ·subst h;rw [if_pos rfl,if_pos hi,if_pos rfl];rfl
 ·rw [if_neg h,if_neg (fun h'=>h h'.symm)]
theorem zP.swap {N:Nat} {M:Mx} {F:Nat->Nat->List ai} (h:zP N M F) {i j:Nat} (hi:i<N) (hj:j<N):zP N (pR M i j) (fun i' j'=>if i'=j then F i j' else if i'=i then F j j' else F i' j'):=by
 have hm:∀ k,k<N->M.getD k []∈M:=fun k hk=>by
  rw [List.getD_eq_getElem?_getD,List.getElem?_eq_getElem (by rw [h.len];exact hk)];exact List.getElem_mem _
 refine⟨by rw [pR,List.length_set,List.length_set];exact h.len,fun r hr=>?_,fun i' j' h1 h2=>?_⟩
 ·rcases List.mem_or_eq_of_mem_set hr with hr|rfl
  ·rcases List.mem_or_eq_of_mem_set hr with hr|rfl
   ·exact h.rows r hr
   ·exact h.rows _ (hm j hj)
  ·exact h.rows _ (hm i hi)
 ·unfold gI pR;rw [uz _ _ _ _ _ (by rw [List.length_set,h.len];exact hj),uz _ _ _ _ _ (by rw [h.len];exact hi)];split
  ·exact h.el i j' hi h2
  ·split
   ·exact h.el j j' hj h2
   ·exact h.el i' j' h1 h2
theorem Ot {N k:Nat} {M:Mx} {F:Nat->Nat->List ai} {last x:List ai} {neg:Bool} (h:zP N M F) (hk:k+2=N) (h0:F k k=[]) (hp:F (k+1) k≠[])
  (hx:eD (dK (aQ (F (k+1) k) (F k (k+1))) (aQ (F k k) (F (k+1) (k+1)))) last=some x):resS N 2 M last neg=some (if x=[] then [] else Oe x (!neg)):=by
 have hNk:N-2=k:=by omega
 have hNk1:N-1=k+1:=by omega
 have hfp:rQ N k M 2=some (k+1):=by
  rw [rQ,hNk,if_pos (by rw [h.el k k (by omega) (by omega)];exact h0),rQ,hNk1,if_neg (by rw [h.el (k+1) k (by omega) (by omega)];exact hp)]
 have hs:=h.swap (i:=k) (j:=k+1) (by omega) (by omega)
 obtain⟨M',h1,h2⟩:=Ga (k:=k) (last:=last) (X:=fun _ _=>x) (by omega) 1 hs (by omega) (fun i j h3 h4 h5 h6=>by
  obtain rfl:i=k+1:=by omega
  obtain rfl:j=k+1:=by omega
  rw [if_neg (by omega),if_pos rfl,if_pos rfl,if_pos rfl,if_neg (by omega),if_pos rfl]
  exact hx)
 rw [resS,hNk,hfp];simp only;rw [if_neg (by omega),if_neg (by omega),if_neg (by omega),h1];show resS N 1 M' _ _=_;exact Cn h2 (k:=k+1) (by omega) (if_pos ⟨by omega,by omega⟩)
theorem Et {d:List ai} (h:aV d):dK [] (dK [] d)=d :=
 kH (aV.sub _ _) h fun y=>by
  rw [ev_sub y aV.nil.nat (aV.sub _ _),ev_sub y aV.nil.nat h,di];grind
theorem KM {N k:Nat} {M:Mx} {F:Nat->Nat->List ai} {last d:List ai} (h:zP N M F) (hk:k+2=N) (hd:aV d)
  (h1:eD (dK (aQ (F k k) (F (k+1) (k+1))) (aQ (F (k+1) k) (F k (k+1)))) last=some d)
  (h2:eD (dK (aQ (F (k+1) k) (F k (k+1))) (aQ (F k k) (F (k+1) (k+1)))) last=some (dK [] d))
  (h3:F k k=[]->F (k+1) k=[]->d=[]):resS N 2 M last false=some d:=by
 by_cases p0:F k k=[]
 ·by_cases r0:F (k+1) k=[]
  ·rw [h3 p0 r0]
   exact Es (f:=1) h hk fun i h4 h5=>by
    obtain rfl|rfl:i=k\/i=k+1:=by omega
    ·exact p0
    ·exact r0
  ·rw [Ot h hk p0 r0 h2];by_cases e:dK [] d=[]
   ·rw [if_pos e,<- Et hd,e];rfl
   ·rw [if_neg e];show some (dK [] (dK [] d))=_;rw [Et hd]
 ·obtain⟨M',h4,h5⟩:=vG (f:=1) (neg:=false) (last:=last) (X:=fun _ _=>d) h hk p0 (fun i j h6 h7 h8 h9=>by
   obtain rfl:i=k+1:=by omega
   obtain rfl:j=k+1:=by omega
   exact h1)
  refine h5.trans ?_;rw [if_neg (by omega),Cn h4 (k:=k+1) (x:=d) (by omega) (if_pos ⟨by omega,by omega⟩)];by_cases e:d=[]
  ·rw [if_pos e,e]
  ·rw [if_neg e];rfl
structure En (u B E:Nat) (p:List ai):Prop where
 v:aV p
 d:∀ t∈p,Dv 1 t.2
 b:bD p<=(B:Rat)
 e:∀ t∈p,t.1.get u<=E
 o:∀ t∈p,∀ x,x<4->x≠u->t.1.get x=0
theorem Ou {e f:Ex} (h:∀ x,x<4->e.get x=f.get x):e=f:=Ex.ext' (h 0 (by omega)) (h 1 (by omega)) (h 2 (by omega)) (h 3 (by omega))
theorem En.len {u B E:Nat} {p:List ai} (h:En u B E p) (hu:u<4):p.length<=E+1:=by
 have h1:(p.map fun t=>(t.1.get u).toNat).Nodup:=by
  rw [List.nodup_iff_pairwise_ne,List.pairwise_map];refine List.Pairwise.imp_of_mem ?_ h.v.1;intro s t hs ht hgt he;refine absurd (Ou fun x hx=>?_) (Ex.gt_ne hgt);by_cases hxu:x=u
  ·subst hxu;have a1:=Ex.nat_get (h.v.nat s hs) x;have a2:=Ex.nat_get (h.v.nat t ht) x;omega
  ·rw [h.o s hs x hx hxu,h.o t ht x hx hxu]
 have h2:=wX (E+1) _ h1 fun x hx=>by
  obtain⟨t,ht,rfl⟩:=List.mem_map.1 hx;have:=h.e t ht;omega
 simpa using h2
theorem En.bd {u B E:Nat} {p:List ai} (h:En u B E p) (hu:u<4):Bd ⟨1,B,E,E+1⟩ p:=by
 refine⟨h.len hu,fun t ht=>?_,h.d,h.b⟩
 have g:∀ x,x<4->0<=t.1.get x/\t.1.get x<=E:=fun x hx=>by
  refine⟨Ex.nat_get (h.v.nat t ht) x,?_⟩;by_cases hxu:x=u
  ·subst hxu;exact h.e t ht
  ·rw [h.o t ht x hx hxu];omega
 have g0:=g 0 (by omega);have g1:=g 1 (by omega);have g2:=g 2 (by omega);have g3:=g 3 (by omega);simp only [Ex.get] at g0 g1 g2 g3;dsimp only;omega
theorem En.nil (u B E:Nat):En u B E []:=⟨aV.nil,fun _ h=>(by cases h),by simp only [bD];exact Rat.natCast_nonneg,fun _ h=>(by cases h),fun _ h=>(by cases h)⟩
theorem En.mono {u B E B' E':Nat} {p:List ai} (h:En u B E p) (hB:B<=B') (hE:E<=E'):En u B' E' p :=
 ⟨h.v,h.d,Rat.le_trans h.b (Rat.natCast_le_natCast.2 hB),fun t ht=>by have:=h.e t ht;omega,h.o⟩
theorem get_add (e f:Ex) (x:Nat):(e.add f).get x=e.get x+f.get x:=by rcases x with _|_|_|x <;> rfl
theorem En.mul {u B E B' E':Nat} {p q:List ai} (h:En u B E p) (h':En u B' E' q) (hu:u<4):En u (B*B') (E+E') (aQ p q):=by
 have hb:=((h.bd hu).prods (h'.bd hu)).canon;refine⟨aV.mul _ _,hb.d,hb.b,?_,?_⟩
 ·exact gL (P:=fun e=>e.get u<=((E+E':Nat):Int)) fun t ht=>by
   obtain⟨a,ha,b,hb',rfl⟩:=jZ ht;show (a.1.add b.1).get u<=_;rw [get_add];have:=h.e a ha;have:=h'.e b hb';omega
 ·exact gL (P:=fun e=>∀ x,x<4->x≠u->e.get x=0) fun t ht x hx hxu=>by
   obtain⟨a,ha,b,hb',rfl⟩:=jZ ht;show (a.1.add b.1).get x=0;rw [get_add,h.o a ha x hx hxu,h'.o b hb' x hx hxu];rfl
theorem En.neg {u B E:Nat} {p:List ai} (h:En u B E p):En u B E (bY p (-1)):=by
 have e:bY p (-1)=p.map fun t=>(t.1,t.2*-1):=by unfold bY;rw [if_neg (by decide +kernel)]
 refine⟨h.v.scale _,?_,?_,?_,?_⟩
 ·intro t ht;rw [e] at ht;obtain⟨s,hs,rfl⟩:=List.mem_map.1 ht;show Dv 1 (s.2*-1);have:=(h.d s hs).neg;rwa [show s.2*-1=-s.2 by grind]
 ·have h1:∀ l:List ai,bD (l.map fun t=>(t.1,t.2*-1))=bD l:=fun l=>by
   induction l with
   | nil=>rfl
   | cons t l ih =>
    simp only [List.map_cons,bD,ih];rw [show t.2*-1=-t.2 by grind,Az]
  rw [e,h1];exact h.b
 ·intro t ht;rw [e] at ht;obtain⟨s,hs,rfl⟩:=List.mem_map.1 ht;exact h.e s hs
 ·intro t ht;rw [e] at ht;obtain⟨s,hs,rfl⟩:=List.mem_map.1 ht;exact h.o s hs
theorem En.add {u B E B' E':Nat} {p q:List ai} (h:En u B E p) (h':En u B' E' q) (hu:u<4):En u (B+B') (max E E') (lN p q):=by
 have hb:=((h.bd hu).append (h'.bd hu)).canon;refine⟨aV.add _ _,fun t ht=>(hb.d t ht).dvd (by show Nat.lcm 1 1∣1;decide),hb.b,?_,?_⟩
 ·exact gL (P:=fun e=>e.get u<=((max E E':Nat):Int)) fun t ht=>by
   rcases List.mem_append.1 ht with ht|ht
   ·have:=h.e t ht;omega
   ·have:=h'.e t ht;omega
 ·exact gL (P:=fun e=>∀ x,x<4->x≠u->e.get x=0) fun t ht=>by
   rcases List.mem_append.1 ht with ht|ht
   ·exact h.o t ht
   ·exact h'.o t ht
theorem En.sub {u B E B' E':Nat} {p q:List ai} (h:En u B E p) (h':En u B' E' q) (hu:u<4):En u (B+B') (max E E') (dK p q):=h.add h'.neg hu
theorem En.one (u:Nat):En u 1 0 nP:=⟨by exact sZ.1 (by decide +kernel),fun t ht=>by rw [List.mem_singleton.1 ht];exact Dv.int 1 1,by decide +kernel,fun t ht=>by
  rw [List.mem_singleton.1 ht]
  rcases u with _|_|_|u <;> simp [Ex.get,e0],fun t ht x _ _=>by
  rw [List.mem_singleton.1 ht]
  rcases x with _|_|_|x <;> rfl⟩
theorem MK {u B E B' E':Nat} {s b:List ai} (hs:En u B E s) (hb:En u B' E' b) (hu:u<4) (hne:b≠[]) (k1:B*B'<=2 ^ 200) (k2:(E+1)*(E'+1)<=900) (k2':E+E'<=1000) (k3:B<=2 ^ 200):eD (aQ s b) b=some s :=
 KL hne hs.v hb.v (hs.bd hu) (hb.bd hu) ⟨rfl,k1,k2',k2⟩ ⟨rfl,k3,by show E<=1000;omega,Nat.le_trans (by show E+1<=(E+1)*(E'+1);exact Nat.le_mul_of_pos_right _ (by omega)) k2⟩
end Q
end
