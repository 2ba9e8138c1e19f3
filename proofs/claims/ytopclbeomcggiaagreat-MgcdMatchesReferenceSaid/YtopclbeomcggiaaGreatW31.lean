/- For MpolyCoefficients: sizes of coefficients and of what From puts together; a list of three polynomials. -/
import Derived.Test.YtopclbeomcggiaaGreatW29
import Derived.Test.YtopclbeomcggiaaGreatW30
set_option linter.unusedVariables false
set_option linter.unusedSimpArgs false
set_option maxHeartbeats 16000000
set_option maxRecDepth 100000
section
namespace Q
open Go Go.RowKit Go.Proofs.YtopclbeomcggiaaGreat
theorem Rh{s:Sz}{p:List ai}(h:Bd s p)(v:Nat)(n:Int):Bd s (aN p v n):=by
 have i:Bd s (p.filter λt=>t.1.get v=n):=h.sub List.filter_sublist;refine⟨by unfold aN;rw[List.length_map];exact i.n,λt j=>?_,λt j=>?_,?_⟩
 ·obtain⟨u,hu,rfl⟩:=List.mem_map.1 j;have:=i.e u hu;rcases v with _|_|_|v<;>simp only[Ex.put]<;>omega
 ·obtain⟨u,hu,rfl⟩:=List.mem_map.1 j;exact i.d u hu
 ·have:bI (aN p v n)=bI (p.filter λt=>t.1.get v=n):=by
   unfold aN;generalize p.filter _=l
   induction l with
   | nil=>rfl
   | cons u l k=>simp only[List.map_cons,bI,k]
  rw[this];exact i.b
end Q
namespace Go.Proofs.YtopclbeomcggiaaGreat
open Go.RowKit Q
variable {w:World} {v u x:Value} {p q r:List ai}
theorem ve{d:Option Addr}{n i j:Nat}{L:List (List ai)}{c:List ai}(h:je w (.slice d n i) L)(l:L[j]?=some c):∃b off v,d=some ⟨b,off,none⟩/\ak w v c/\bS polyT w b (off+j*1) [v]:=by obtain⟨b,off,cs,e,-,⟨v,rfl,hv⟩,k⟩:=h.get l;exact⟨b,off,v,e,hv,k⟩
end Go.Proofs.YtopclbeomcggiaaGreat
end
section
namespace Q
open Go Go.Proofs.YtopclbeomcggiaaGreat
def zq:List ai->Nat
 | []=>1
 | t::l=>Nat.lcm t.2.den (zq l)
theorem qm:∀l,0<zq l
 | []=>Nat.one_pos
 | t::l=>Nat.lcm_pos t.2.den_pos (qm l)
theorem Jk{l:List ai}{t:ai}(h:t∈l):t.2.den∣zq l:=by
 induction l with
 | nil=>cases h
 | cons s l b =>
  rcases List.mem_cons.1 h with rfl|h
  ·exact Nat.dvd_lcm_left _ _
  ·exact Nat.dvd_trans (b h) (Nat.dvd_lcm_right _ _)
theorem GJ(c:Rat):Dv c.den c:=by refine⟨c.num,?_⟩;have d:(c.den:Rat)≠0:=λh=>c.den_nz (by rw[<-iN]at h;have:=Rat.intCast_inj.1 (h.trans Rat.intCast_zero.symm);omega);have b:=Rat.num_divInt_den c;rw[Rat.divInt_eq_div,iN]at b;have e:(c.num:Rat)/(c.den:Rat)*(c.den:Rat)=c.num:=Rat.div_mul_cancel d;rwa[b]at e
def LB:Nat:=17179869184
theorem CW:LB=17179869184:=rfl
def WA (D B:Nat):Sz:=⟨D,B,100000,10000⟩
def Ri (l:List ai):Nat:=(bI l).num.natAbs
def UO (l:List ai):Bool :=
 decide (l.length<=10000)&&l.all (λt=>decide (-100000<=t.1.1)&&decide (t.1.1<=100000)&&decide (-100000<=t.1.2.1)&&decide (t.1.2.1<=100000)&&decide (-100000<=t.1.2.2.1)&&decide (t.1.2.2.1<=100000)&&decide (-100000<=t.1.2.2.2)&&decide (t.1.2.2.2<=100000))&&decide (aF (zq l)<=LB)&&decide (aF (Ri l)<=LB)
theorem VP{c:Rat}(h:0<=c):c<=(c.num.natAbs:Rat):=by
 obtain⟨k,m⟩:=GJ c
 have d:c*(c.den:Rat)=((c.num:Int):Rat):=by have d:(c.den:Rat)≠0:=λh=>c.den_nz (by rw[<-iN]at h;have:=Rat.intCast_inj.1 (h.trans Rat.intCast_zero.symm);omega);have b:=Rat.num_divInt_den c;rw[Rat.divInt_eq_div,iN]at b;have i:(c.num:Rat)/(c.den:Rat)*(c.den:Rat)=c.num:=Rat.div_mul_cancel d;rwa[b]at i
 have b:((c.num.natAbs:Nat):Rat)=((c.num:Int):Rat):=by have l:=Rat.num_nonneg.2 h;rw[<-iN];congr 1;omega
 rw[b,<-d]
 have i:(1:Rat)<=(c.den:Rat):=by have e:(1:Rat)=((1:Nat):Rat):=rfl;rw[e];exact Rat.natCast_le_natCast.2 c.den_pos
 have j:=Rat.mul_le_mul_of_nonneg_left i h;rwa[Rat.mul_one]at j
theorem Rj{l:List ai}(h:UO l=true):Bd (WA (zq l) (Ri l)) l/\aF (zq l)<=LB/\aF (Ri l)<=LB:=by
 simp only[UO,Bool.and_eq_true,decide_eq_true_eq,List.all_eq_true]at h;obtain⟨⟨⟨p,q⟩,r⟩,s⟩:=h;refine⟨⟨p,λt b=>?_,λt b=>?_,VP (mf l)⟩,r,s⟩
 ·obtain⟨⟨⟨⟨⟨⟨⟨d,e⟩,i⟩,j⟩,k⟩,m⟩,n⟩,o⟩:=q t b;exact⟨d,e,i,j,k,m,n,o⟩
 ·exact(GJ t.2).dvd (Jk b)
def CY (l:List ai):Bool:=K7 l&&UO l
structure Wk (s:Sz) (p:List ai):Prop where
 v:bR p
 b:Bd s p
 k:s.okw
def Wp (p:List ai):Prop:=∃D B,0<D/\aF D<=LB/\aF B<=LB/\Wk (WA D B) p
theorem Li{D B:Nat}(h:0<D)(b:aF D<=LB)(d:aF B<=LB):(WA D B).okw :=
 ⟨h,by show aF D<=_;rw[CW]at b;unfold jl;omega,by show aF B<=_;rw[CW]at d;unfold jl;omega,by show 100000<1000000;omega,by show 10000<=100000000;omega⟩
theorem Nj{D b B d:Nat}(h:0<D)(i:aF D<=LB)(k:0<b)(k':aF b<=LB)(hb:aF B<=LB)(kb:aF d<=LB):((WA D B).mul (WA b d)).okw:=by
 have e1:=gB D b;have e:=gB B d;rw[CW]at *;refine⟨Nat.mul_pos h k,?_,?_,by show 100000+100000<1000000;omega,by show 10000*10000<=100000000;omega⟩
 ·show aF (D*b)<=_;unfold jl;omega
 ·show aF (B*d)<=_;unfold jl;omega
theorem kI{l:List ai}(h:CY l=true):Wp l:=by rw[CY,Bool.and_eq_true]at h;obtain⟨e,b,d⟩:=Rj h.2;exact⟨zq l,Ri l,qm l,b,d,CE.1 h.1,e,Li (qm l) b d⟩
theorem TM{l:List ai}(h:UO l=true):Tv l:=by obtain⟨b,d,e⟩:=Rj h;exact b.oklw (Li (qm l) d e)
theorem GK:aF 1<=LB:=by rw[CW];decide
theorem Wp.nil:Wp []:=⟨1,1,oM,GK,GK,bR.nil,Bd.nil _,Li oM GK GK⟩
theorem Wp.val{p:List ai}(h:Wp p):bR p:=by obtain⟨_,_,_,_,_,h⟩:=h;exact h.v
theorem Wp.rk{p:List ai}(h:Wp p):∀t∈p,Rk t.2:=by obtain⟨_,_,_,_,_,h⟩:=h;exact h.b.rkw h.k
theorem Wp.ir{p:List ai}(h:Wp p):∀t∈p,InR t.1/\Rk t.2:=by obtain⟨_,_,_,_,_,h⟩:=h;exact λt d=>⟨h.b.inRw h.k t d,h.b.rkw h.k t d⟩
theorem Wp.len{p:List ai}(h:Wp p):p.length<=10000:=by obtain⟨_,_,_,_,_,h⟩:=h;exact h.b.n
theorem Wp.deg{p:List ai}(h:Wp p)(v:Nat):-1<=aD p v/\aD p v<=100000:=by
 obtain⟨_,_,_,_,_,h⟩:=h;refine⟨rH p v,?_⟩;rcases(fQ (λt=>t.1.get v) p (-1)).2.2 with d|⟨t,i,d⟩
 ·show p.foldl _ _<=_;rw[d];omega
 ·show p.foldl _ _<=_;rw[<-d];have:=h.b.e t i;simp only[WA]at this;rcases v with _|_|_|v<;>simp only[Ex.get]<;>omega
theorem Wp.exps{p:List ai}(h:Wp p){t:ai}(b:t∈p)(v:Nat):0<=t.1.get v/\t.1.get v<=100000 :=
 ⟨Ex.nat_get (h.val.nat t b) v,Int.le_trans (eU b v) (h.deg v).2⟩
theorem Wp.mulOk{p q:List ai}(h:Wp p)(d:Wp q):QW p q:=by have i1:=h.ir;have i2:=d.ir;have l:=h.len;have l2:=d.len;obtain⟨D,B,d1,d2,d3,h⟩:=h;obtain⟨k,j,e1,e,i,d⟩:=d;exact⟨i1,i2,(h.b.prods d.b).oklw (Nj d1 d2 e1 e d3 i),oM,oM⟩
theorem Wp.prod{p q:List ai}(h:Wp p)(d:Wp q):(∀t∈aX p q,Rk t.2)/\(aX p q).length<=100000000:=by obtain⟨D,B,d1,d2,d3,h⟩:=h;obtain⟨l,k,e1,i,j,d⟩:=d;have hb:=(h.b.prods d.b).canon;have e:=Nj d1 d2 e1 i d3 j;exact⟨hb.rkw e,Nat.le_trans hb.n e.2.2.2.2⟩
theorem Wp.coeff{p:List ai}(h:Wp p)(v:Nat)(n:Int):Wp (aN p v n):=by obtain⟨D,B,d1,d2,d3,h⟩:=h;exact⟨D,B,d1,d2,d3,h.v.coeff v n,Rh h.b v n,h.k⟩
theorem Wp.coeffs{p c:List ai}(h:Wp p){v:Nat}(hc:c∈aA p v):Wp c:=by obtain⟨n,rfl⟩:=eu hc;exact h.coeff v n
def g1 (p:List ai):Option (List ai):=if CY p then some p else none
theorem jS{p q:List ai}(h:g1 p=some q):q=p/\Wp p:=by
 unfold g1 at h;split at h
 ·cases h;exact⟨rfl,kI aM⟩
 ·cases h
def rf (b:List ai) (g:ai):Nat->List ai->List ai->Option (Option (List ai))
 | 0,_,_=>none
 | _+1,[],out=>some (some out)
 | n+1,m::a,out =>
  if CY (m::a)then
   if(m.1.sub g.1).nat then
    if CY [gI m g]then rf b g n (gH (m::a) (aX b [gI m g])) (out++[gI m g])else none
   else some none
  else none
theorem TN{m g:ai}(hm:∀v,0<=m.1.get v/\m.1.get v<=100000)(hg:∀v,0<=g.1.get v/\g.1.get v<=100000):InR (m.1.sub g.1):=by have b:=hm 0;have d:=hm 1;have e:=hm 2;have h:=hm 3;have b0:=hg 0;have b1:=hg 1;have i:=hg 2;have j:=hg 3;simp only[Ex.get]at *;exact InR.of (K:=100000) oM (by simp only[Ex.sub];omega)
theorem Rl{b ts:List ai}{g:ai}(hb:Wp b)(hg:b=g::ts):∀{n:Nat}{a out:List ai}{r:Option (List ai)},rf b g n a out=some r->out.length+n<=100000000->∃k,zh b g k a out r:=by
 have d:g∈b:=by rw[hg];simp
 intro n
 induction n with
 | zero=>intro a out r h;simp[rf]at h
 | succ n l =>
  intro a out r h o
  cases a with
  | nil=>simp only[rf,sJ]at h;subst h;exact⟨0,.done⟩
  | cons m a =>
   rw[rf]at h;split at h
   next h1 =>
    have e:=kI h1;have i:Nc b g m a:=⟨TN (λv=>e.exps sM v) (λv=>hb.exps d v),e.rk m sM,hb.rk g d,(hb.val.2 g d).1⟩;split at h
    next h2 =>
     split at h
     next h3 =>
      have hq:=kI h3;obtain⟨k,j⟩:=l h (by simp;omega);exact⟨k+1,.step h2 i ⟨hq.rk (gI m g) sM,⟨hb.ir,by have:=hb.len;omega⟩,(hb.mulOk hq).ko,⟨e.rk,by have:=e.len;omega,e.val⟩,hb.prod hq⟩ oM j⟩
     next=>cases h
    next h2 =>
     simp only[sJ]at h;subst h;exact⟨0,.fail (by simpa using h2) i⟩
   next=>cases h
def fuel:Nat:=10000000
def zu (a b:List ai):Option (Option (List ai)):=match b with
 | []=>some none
 | g::_=>rf b g fuel a []
def iU (a b:List ai):Option (List ai):=match zu a b with
 | some r=>g1 (r.getD [])
 | none=>none
def Lj (D:List (List ai)):Nat->List (List ai)->Bool
 | 0,_=>true
 | f+1,R=>if D.length-1<R.length then R.all CY&&Lj D f (fO D R)else true
theorem Jl{D:List (List ai)}(j:∀c∈D,Wp c):∀{f:Nat}{R:List (List ai)},Lj D f R=true->I9 D f R
 | 0,_,_=>trivial
 | f+1,R,h=>λe=>by
  rw[Lj,if_pos e,Bool.and_eq_true,List.all_eq_true]at h
  have d:∀i,Wp (R.getD i []):=λi=>by
   rcases Nat.lt_or_ge i R.length with hi|hi
   ·rw[jD,gE hi];exact kI (h.1 _ (List.getElem_mem hi))
   ·rw[jD,gN hi];exact Wp.nil
  have b:∀i,Wp (D.getD i []):=λi=>by
   rcases Nat.lt_or_ge i D.length with hi|hi
   ·rw[jD,gE hi];exact j _ (List.getElem_mem hi)
   ·rw[jD,gN hi];exact Wp.nil
  exact⟨λi _=>⟨(d _).mulOk (b _),λ_=>⟨(d _).mulOk (b _),((d _).prod (b _)).1,((d _).prod (b _)).1,⟨((d _).prod (b _)).2,((d _).prod (b _)).2⟩,bR.mul _ _,bR.mul _ _⟩⟩,Jl j h.2⟩
def SH (a b:List ai) (v:Nat):Option (List ai) :=
 let D:=aA b v;let R:=aA a v;let r:=gm D R.length R
 if b≠[]/\Lj D R.length R=true/\UO (fromL v 0 r)=true/\r.all CY=true then g1 (tO r v)else none
def GL:List ai:=[(e0,1)]
def jT (a:List ai):Option (List ai):=match a with
 | []=>some []
 | t::_=>g1 (bN a (1/t.2))
def lu (a:List ai):Bool:=match a with
 | [t]=>decide (t.1=e0)
 | _=>false
def sZ (l:List (List ai)):Nat->Option Nat
 | 0=>none
 | v+1=>if l.any (λa=>decide (0<aD a v))then some v else sZ l v
def Rm (l:List (List ai)):Option Nat:=sZ l 4
def uD (G:List ai->List ai->Option (List ai)):List ai->List (List ai)->Option (List ai)
 | acc,[]=>some acc
 | acc,a::l=>match G acc a with
  | none=>none
  | some g=>if lu g then some g else uD G g l
def mG (G:List ai->List ai->Option (List ai)) (a:List ai) (v:Nat):Option (List ai):=uD G [] (aA a v)
def kW (G:List ai->List ai->Option (List ai)) (a:List ai) (v:Nat):Option (List ai):=match a with
 | []=>some []
 | t::l=>match mG G (t::l) v with
  | none=>none
  | some c=>iU (t::l) c
def sH (m:ai) (v at_:Nat):Nat->Nat
 | 0=>dY m.2.num*jC (dY m.2.den) (pr-2)%pr
 | w+1=>if w=v then sH m v at_ w else sH m v at_ w*jC (at_+w) (m.1.get w).toNat%pr
def Ll (m:ai) (v at_:Nat):Nat:=sH m v at_ 4
def jr (v at_:Nat):List ai->List Nat->Option (List Nat)
 | [],out=>some out
 | m::l,out=>if dY m.2.den=0 then none else jr v at_ l (out.set (m.1.get v).toNat ((out.getD (m.1.get v).toNat 0+Ll m v at_)%pr))
def iZ (a:List ai) (v at_:Nat):Option (List Nat):=jr v at_ a (List.replicate (aD a v+1).toNat 0)
def iw (o:Option (List Nat)):Bool:=match o with
 | none=>false
 | some l=>decide (l.getD (l.length-1) 0≠0)
def strip:List Nat->List Nat
 | []=>[]
 | x::l=>match strip l with
  | []=>if x=0 then []else [x]
  | y::r=>x::y::r
def fC (b rest:List Nat) (f at_:Nat):Nat->List Nat
 | 0=>rest
 | i+1=>(fC b rest f at_ i).set (at_+i) (((fC b rest f at_ i).getD (at_+i) 0+(pr-b.getD i 0)*f)%pr)
def kX (b:List Nat) (inv:Nat):Nat->List Nat->Option (List Nat)
 | 0,_=>none
 | n+1,r=>if b.length<=r.length then kX b inv n (strip (fC b r (r.getD (r.length-1) 0*inv%pr) (r.length-b.length) b.length))else some r
def il:Nat->List Nat->List Nat->Option Nat
 | 0,_,_=>none
 | n+1,a,b=>if b=[]then some a.length else match kX b (jC (b.getD (b.length-1) 0) (pr-2)) fuel a with
  | none=>none
  | some r=>il n b r
def nz (a b:List Nat):Option Nat:=if a.length<b.length then il fuel b a else il fuel a b
def jU (a b:List ai) (v:Nat):List Nat->Option Int
 | []=>some (min (aD a v) (aD b v))
 | k::l=>match iZ a v (17+100*k),iZ b v (17+100*k)with
  | some x,some y=>if iw (some x)&&iw (some y)then(nz x y).map (λn=>(n:Int)-1)else jU a b v l
  | _,_=>jU a b v l
def zw (a b:List ai) (v:Nat):Option Int:=jU a b v [0,1,2]
def ru (G:List ai->List ai->Option (List ai)) (v:Nat):Nat->List ai->List ai->Option (List ai)
 | 0,_,_=>none
 | n+1,a,b=>match SH a b v with
  | none=>none
  | some []=>some b
  | some (t::r)=>if aD (t::r) v=0 then some GL else match kW G (t::r) v with
   | none=>none
   | some p=>match jT p with
    | none=>none
    | some q=>ru G v n b q
def Ay (G:List ai->List ai->Option (List ai)) (a b:List ai) (v:Nat):Option (List ai):=match zw a b v with
 | none=>none
 | some m=>if m=0 then some GL else match zu a b with
  | none=>none
  | some r=>if r.isSome&&decide (m=aD b v)then some b else ru G v fuel a b
def Ep (G:List ai->List ai->Option (List ai)) (a b:List ai) (v:Nat):Option (List ai):=if aD a v<aD b v then Ay G b a v else Ay G a b v
def fD {α β:Type} (a:Option α) (f:α->Option β):Option β:=match a with
 | none=>none
 | some x=>f x
def Rn (G:List ai->List ai->Option (List ai)) (a b:List ai):Option (List ai) :=
 if a=[]then jT b else if b=[]then jT a else if lu a=true\/lu b=true then some GL else
 fD (Rm [a,b]) λv =>
  if aD b v=0 then fD (mG G a v) λc=>G c b
  else if aD a v=0 then fD (mG G b v) λc=>G a c
  else fD (mG G a v) λx=>fD (mG G b v) λy=>fD (G x y) λg=>fD (iU a x) λp=>fD (iU b y) λq=>fD (Ep G p q v) λs=>fD (g1 (aX g s)) jT
def Yv:Nat->List ai->List ai->Option (List ai)
 | 0,_,_=>none
 | n+1,a,b=>Rn (Yv n) a b
def CZ (G:List ai->List ai->Option (List ai)) (v:Nat):Nat->Nat->List ai->List ai->List (List ai × Nat)->Option (List (List ai × Nat))
 | 0,_,_,_,_=>none
 | f+1,n,w,y,out=>if 0<aD w v then
   fD (g1 (dC w v)) λd=>fD (g1 (gH y d)) λz=>fD (G w z) λg=>fD (iU w g) λw'=>fD (iU z g) λy' =>
    CZ G v f (n+1) w' y' (if 0<aD g v then out++[(g,n)]else out)
  else some out
def WZ (G:List ai->List ai->Option (List ai)) (a:List ai) (v:Nat):Option (List (List ai × Nat)) :=
 fD (kW G a v) λp=>if aD p v<1 then some []else
  fD (g1 (dC p v)) λd=>fD (G p d) λg=>fD (iU p g) λw=>fD (iU d g) λy=>CZ G v fuel 1 w y []
end Q
end
section
namespace Q
open Go Go.RowKit Go.Proofs.YtopclbeomcggiaaGreat
def wW:El Nat where
 T:=xQ
 sz:=1
 pos:=by decide
 E _ cs x:=cs=[.int .u64 (x:Int)]/\x<2147483647
 len:=by rintro w c t ⟨rfl,-⟩;rfl
 one:=by rintro w c t ⟨rfl,-⟩ v hv;simp only[List.mem_cons,List.not_mem_nil,or_false]at hv;subst hv;rfl
 on:=λh _=>h
 ok _:=True
 lr:=λh _ _=>h
 self:=trivial
def nc (l:List Nat):List Value:=l.map (λx:Nat=>Value.int .u64 (x:Int))
def Er (l:List Nat):Prop:=∀x∈l,x<2147483647
theorem Lm(l:List Nat):(nc l).length=l.length:=by simp[nc]
theorem Er.nil:Er []:=λ_ h=>by cases h
theorem Er.getD{l:List Nat}(h:Er l)(i:Nat):l.getD i 0<2147483647:=by
 rcases Nat.lt_or_ge i l.length with hi|hi
 ·rw[jD,gE hi];exact h _ (List.getElem_mem hi)
 ·rw[jD,gN hi];decide
theorem Er.set{l:List Nat}(h:Er l)(i:Nat){x:Nat}(d:x<2147483647):Er (l.set i x):=λy b=>by
 rcases List.mem_or_eq_of_mem_set b with b|rfl
 ·exact h y b
 ·exact d
theorem Er.sub{l r:List Nat}(h:Er l)(b:∀x∈r,x∈l):Er r:=λx d=>h x (b x d)
theorem xW{w:World}:∀{l:List Nat}{d:List Value},eO wW.E w d l↔d=nc l/\Er l
 | [],d=>by
  constructor
  ·intro h;exact⟨h,Er.nil⟩
  ·rintro⟨h,-⟩;exact h
 | x::l,d=>by
  constructor
  ·rintro⟨c,r,rfl,⟨rfl,e⟩,h⟩;obtain⟨rfl,i⟩:=xW.1 h
   exact⟨rfl,λy b=>by
    rcases List.mem_cons.1 b with rfl|b
    ·exact e
    ·exact i y b⟩
  ·rintro⟨rfl,h⟩;exact⟨_,_,rfl,⟨rfl,h x sM⟩,xW.2 ⟨rfl,λy b=>h y (by simp[b])⟩⟩
theorem sI{w:World}{v:Value}{l:List Nat}:bU wW w v l↔∃b cap,v=.slice b l.length cap/\l.length<=cap/\At xQ w b (nc l)/\Er l:=by
 constructor
 ·rintro⟨b,cap,j,rfl,d,e,h⟩;obtain⟨rfl,i⟩:=xW.1 h;exact⟨b,cap,rfl,d,e,i⟩
 ·rintro⟨b,cap,rfl,d,e,h⟩;exact⟨b,cap,nc l,rfl,d,e,xW.2 ⟨rfl,h⟩⟩
theorem Lp(l:List Nat)(j:Nat)(b:j<l.length):(nc l)[j]?=some (Value.int .u64 ((l.getD j 0:Nat):Int)):=by rw[nc,List.getElem?_map,gE b,jD,gE b];rfl
theorem _root_.Go.RowKit.Blk.nsl{w:World}{g:Nat}{l:List Nat}(h:Blk w g xQ (nc l))(b:Er l):bU wW w (.slice (some ⟨g,0,none⟩) l.length l.length) l :=
 sI.2 ⟨_,_,rfl,nL _,h.at,b⟩
theorem Blk.ncell{w:World}{g:Nat}{T:TypeId}{l:List Nat}(h:Blk w g T (nc l))(j:Nat)(b:j<l.length):w.cell? ⟨g,j,none⟩=some (.int .u64 ((l.getD j 0:Nat):Int)):=by rw[h.cell,Lp _ _ b]
theorem bS.ncell{T:TypeId}{w:World}{b off:Nat}{l:List Nat}(h:bS T w b off (nc l))(j:Nat)(d:j<l.length):w.cell? ⟨b,off+j,none⟩=some (.int .u64 ((l.getD j 0:Nat):Int)):=by rw[h.cell j (by rw[Lm];exact d),Lp _ _ d]
theorem Blk.nset{w:World}{g:Nat}{T:TypeId}{l:List Nat}(h:Blk w g T (nc l))(j x:Nat):Blk (w.setCell ⟨g,j,none⟩ (.int .u64 (x:Int))) g T (nc (l.set j x)):=by have:=h.set j (.int .u64 (x:Int));rwa[show nc (l.set j x)=(nc l).set j (.int .u64 (x:Int)) by rw[nc,List.map_set];rfl]
theorem Ag(n:Nat):(List.replicate n (Value.int IntKind.u64 0).cells[0]!)=nc (List.replicate n 0):=by simp[nc,Value.cells]
theorem C8(x:Nat):x%pr<2147483647:=Nat.mod_lt _ dM
theorem Jm(n:Nat):Er (List.replicate n 0):=λx b=>by rw[List.eq_of_mem_replicate b];decide
end Q
namespace Go.Proofs.YtopclbeomcggiaaGreat
open Go.RowKit Q
theorem kU:(Tryz.prog.info? 97).map (λi=>(i.zero,i.size,i.bytes))=some (some (.int .u64 0),1,8):=kM
end Go.Proofs.YtopclbeomcggiaaGreat
end
section
namespace Q
open Go Go.RowKit Go.Proofs.YtopclbeomcggiaaGreat
theorem zx{v at_:Nat}:∀{a:List ai}{out o:List Nat},jr v at_ a out=some o->o.length=out.length/\(Er out->Er o)
 | [],out,o,h=>by rw[jr,sJ]at h;subst h;exact⟨rfl,λh=>h⟩
 | m::a,out,o,h=>by
  rw[jr]at h;split at h
  ·cases h
  ·obtain⟨b,d⟩:=zx h;exact⟨by rw[b,List.length_set],λe=>d (e.set _ (C8 _))⟩
theorem kJ{P:Program}{w:World}{ops:Array Oper}{rest:List Oper}{o:Oper}{a:Act}{R:Exit->Act->World->Prop}(d:o.guard=none){t:TypeId}{x i:Operand}(k:o.op=.index t x i){v u r:Value}(l:a.eval x=v)(j:a.eval i=u)
  (b:(Instr.index t v u).run P w=.ok r w) (h:wpList P ops R rest (a.put o.dst r) w):wpList P ops R (o::rest) a w:=by
 refine wpList_plain d λK e=>?_;unfold Oper.wp
 have:(execOp a.eval o).run P w=.ok (.value r) w:=by unfold execOp;rw[k];simp[l,j,b,Result.andThen]
 rw[this];exact e _ _ h
end Q
namespace Go.Proofs.YtopclbeomcggiaaGreat
open Go.RowKit Q Go.WideMaps Go.Maps
theorem W9(a b c d:Int)(w:World):(Instr.index 36 (.agg #[.int .i64 a,.int .i64 b,.int .i64 c,.int .i64 d]) (.int .i64 0)).run Tryz.prog w=.ok (.int .i64 a) w:=kM
theorem Xa(a b c d:Int)(w:World):(Instr.index 36 (.agg #[.int .i64 a,.int .i64 b,.int .i64 c,.int .i64 d]) (.int .i64 1)).run Tryz.prog w=.ok (.int .i64 b) w:=kM
theorem Xb(a b c d:Int)(w:World):(Instr.index 36 (.agg #[.int .i64 a,.int .i64 b,.int .i64 c,.int .i64 d]) (.int .i64 2)).run Tryz.prog w=.ok (.int .i64 c) w:=kM
theorem Xc(a b c d:Int)(w:World):(Instr.index 36 (.agg #[.int .i64 a,.int .i64 b,.int .i64 c,.int .i64 d]) (.int .i64 3)).run Tryz.prog w=.ok (.int .i64 d) w:=kM
def Ro (w:World) (o:Option (List Nat)) (e:Ending) (w':World):Prop:=∃v,e=.returned (.tuple #[v,.bool (iw o)])/\(∀l,o=some l->bU wW w' v l)/\Below w.heap.size w w'
theorem Fp(va:Value)(a:List ai)(v at_:Nat)(w:World)(ha:ak w va a)(ka:Wp a)(hv:v<4)(N:a≠[])(b6:at_<=1000) :
  Calls Tryz.prog 118 #[va,.int .i64 v,.int .u64 at_] w (Ro w (iZ a v at_)):=by
 have Z:=jR va a v w ha hv (by have:=ka.len;omega);have hd2:=(ka.deg v).2
 have a0:∀t∈a,0<=t.1.get v/\(t.1.get v).toNat<(aD a v+1).toNat:=λt ht=>by have h1:=(ka.exps ht v).1;have h2:=eU ht v;omega
 have hd0:0<=aD a v:=by obtain⟨t,ht⟩:=List.exists_mem_of_ne_nil _ N;have:=a0 t ht;omega
 obtain⟨D,hD⟩:∃D:Nat,aD a v=D:=⟨(aD a v).toNat,oM⟩;have a8:iZ a v at_=jr v at_ a (List.replicate (D+1) 0):=by rw[iZ,hD];congr 1
 rw[a8];clear a8;obtain⟨L,hR⟩:∃L,L=jr v at_ a (List.replicate (D+1) 0):=⟨_,rfl⟩;rw[<-hR];rw[hD]at Z a0 hd2;have a9:∀t∈a,0<=t.1.get v/\(t.1.get v).toNat<D+1:=λt ht=>by have:=a0 t ht;omega
 have hD2:D<=100000:=oM;have p:=λt (ht:t∈a) u=>ka.exps ht u;have ap:=ka.rk;have b5:a.length<=10000:=ka.len;obtain⟨aa,ca,rfl,b7⟩:=ha.shape;replace hR:=zH hR;replace a0:=zH a9;replace p:=zH p;replace ap:=zH ap;replace ha:=zH ha;have hv4:(v:Int)<4:=oM;clear a9 N ka hd0 hD
 go_enter Tryz.func118,Tryz.ntmps118
 go_wp2_with (first
  | (go_at_call 53;refine Z.mono ?_;rintro en w1 ⟨rfl,hb1⟩)
  | (at_make;refine bL rfl _ _ _ rfl _ (.int .u64 0) 1 8 Tryz.underlying94 kU rfl rfl .i64 .i64 _ _ (D+1) rfl rfl oM oM oM oM ?_;intro w2 own2 gr2))
 rw[Ag]at own2;have av:=hb1.size;have aw:w.heap.size<=w1.heap.size:=av;generalize hg:w1.heap.size=g at *;have hb12:=hb1.trans (gr2.mono av);have ag:Hid (Blk w2 g xQ (nc (List.replicate (D+1) 0))):=zH own2;clear own2 gr2 hb1 hg
 go_loopw [22] (λi wr=>∃(k:Nat)(out:List Nat),k<=a.length/\i=.int .i64 k/\Hid (Blk wr g xQ (nc out))/\out.length=D+1/\Hid (Er out)/\Hid (L=jr v at_ (a.drop k) out)/\Below w.heap.size w wr) (λi _=>a.length-(intOf i).toNat)
 case atStart=>exact⟨0,_,oM,rfl,ag,sM,zH (Jm _),zH hR.out,hb12⟩
 case round =>
  clear ag hb12 hR;obtain⟨k,out,hk,rfl,hO,ao,al,hR,F⟩:=hrel;by_cases a5:k<a.length
  ·have au:a[k]?=some a[k]:=gE a5;have hR2:=hR.out;rw[List.drop_eq_getElem_cons a5]at hR2;have o:=List.getElem_mem a5;generalize a[k]=t at *;obtain⟨bq,oq,rt,e1,a4,hC⟩:=fB (ha.out.on F) au;have hx0:=p.out t o 0;have hx1:=p.out t o 1;have hx2:=p.out t o 2;have hx3:=p.out t o 3;have a6:=a0.out t o;have a3:=ap.out t o;obtain⟨⟨z0,z1,z2,z3⟩,q⟩:=t;simp only[Ex.get]at hx0 hx1 hx2 hx3;obtain⟨n0,rfl⟩:=Int.eq_ofNat_of_zero_le hx0.1;obtain⟨n1,rfl⟩:=Int.eq_ofNat_of_zero_le hx1.1;obtain⟨n2,rfl⟩:=Int.eq_ofNat_of_zero_le hx2.1;obtain⟨n3,rfl⟩:=Int.eq_ofNat_of_zero_le hx3.1;obtain⟨n,J⟩:∃n:Nat,Ex.get ((n0:Int),(n1:Int),(n2:Int),(n3:Int)) v=(n:Int):=⟨_,(Int.toNat_of_nonneg a6.1).symm⟩;rw[J]at a6;have hnvl:n<D+1:=by simpa using a6.2
   have b2:(k:Int)<(a.length:Int):=oM;have hr:=hC.range;have h8:(bC ((n0:Int),(n1:Int),(n2:Int),(n3:Int))++rt).length=8:=by rw[List.length_append,a4.len];rfl
   have ax:=a4.len;subst e1;replace hR2:=zH hR2;clear hR au o a6 Z
   go_upto_region 5 with (first
    | (refine aj rfl _ _ 27 rfl aJ Tryz.underlying27 _ 8 96 kM _ _ _ rfl .i64 _ rfl k rfl a5 bq oq rfl ?_)
    | (refine wpList_load_mid rfl 43 _ rfl _ _ rfl _ _ hr Tryz.underlying43 rfl (by rw[h8];kernel_rfl) ?_)
    | (refine az rfl _ (.tmp 10) (.tmp 25) rfl _ _ _ _ rfl rfl (Blk.new wr aJ [.int .i64 0,.int .i64 0,.int .i64 0,.int .i64 0,.bool false,.slice none 0 0,.bool false,.slice none 0 0]) (by simp[bC,ax]) (by simp only[List.size_toArray,h8];exact za) (CB a4) ?_;intro W3 R3 gr3))
   have hE:bC ((n0:Int),(n1:Int),(n2:Int),(n3:Int))=[.int .i64 n0,.int .i64 n1,.int .i64 n2,.int .i64 n3]:=rfl;have S:Blk W3 wr.heap.size aJ (bC ((n0:Int),(n1:Int),(n2:Int),(n3:Int))++rt):=by simpa using R3
   have ar:Below wr.heap.size wr (wr.alloc (.cells #[.int .i64 0,.int .i64 0,.int .i64 0,.int .i64 0,.bool false,.slice none 0 0,.bool false,.slice none 0 0] aJ)):=(Below.refl _ _).alloc (nL _) _;have hb3:Below wr.heap.size wr W3:=ar.trans (aH gr3 sM (nL _));have hbr3:=F.trans (hb3.mono F.size);have hO3:=hO.out.on hb3;have hrt3:=a4.on hb3;have b8:g<wr.heap.size:=hO.out.lt;have b9:w.heap.size<=wr.heap.size:=F.size;clear hr R3 gr3 ar hb3 hC a4 F hO h8;generalize wr.heap.size=mb at *;obtain⟨N1,A1,K1,C1,N2,A2,K2,C2,rfl,i1,i2⟩:=hrt3;simp only at i1 i2 a3;rw[hE]at S;have y0:=S.at1 0 _ rfl;have y1:=S.at1 1 _ rfl;have y2:=S.at1 2 _ rfl;have y3:=S.at1 3 _ rfl;have y4:=S.at1 4 _ rfl;have y5:=S.at1 5 _ rfl;have y6:=S.at1 6 _ rfl;have y7:=S.at1 7 _ rfl;have G:=Ae _ _ _ W3 i2 a3.den';have hR3:=hR2.out;rw[jr]at hR3;clear hR2;have hdl9:=qj (q.den:Int);by_cases hz:dY (q.den:Int)=0
   ·rw[if_pos hz]at hR3;rw[hz]at G;replace hR3:=zH hR3;clear hz hdl9
    go_wp2_with (go_at_call 136;refine G.mono ?_;rintro en w4 ⟨rfl,hb4⟩)
    go_ret2;exact⟨_,by rw[hR3.out];rfl,(λl hl=>by rw[hR3.out]at hl;cases hl),hbr3.trans (hb4.mono hbr3.size)⟩
   ·rw[if_neg hz]at hR3;have I:=λW (hb:Below W3.heap.size W3 W)=>Ae _ _ _ W (i1.on hb) a3.num';have a7:=λW=>yT (dY (q.den:Int)) 2147483645 W oM oM;have ay:=qj q.num;have hX0:sH (((n0:Int),(n1:Int),(n2:Int),(n3:Int)),q) v at_ 0=dY q.num*jC (dY (q.den:Int)) 2147483645%pr:=rfl;have a2:=uV (dY (q.den:Int)) 2147483645;rw[jq]at a2;generalize hdd:dY (q.den:Int)=d at *;generalize dY q.num=nn at *;generalize jC d 2147483645=pp at *;have b0:((d:Int)==0)=false:=by simp;omega
    have aE:nn*pp<=2147483647*2147483647:=Nat.mul_le_mul oM oM;obtain⟨X0,hX⟩:∃X0,X0=nn*pp%2147483647:=⟨_,rfl⟩;have aq:((nn:Int)*(pp:Int))%2147483647=(X0:Int):=by rw[hX];simp
    rw[jq,<-hX]at hX0;have B:X0<2147483647:=by rw[hX];exact Nat.mod_lt _ dM
    replace hX0:=zH hX0;replace hR3:=zH hR3;replace I:=zH I;replace a7:=zH a7;clear hX hdd hz ay a2 hdl9
    go_upto_region 8 with (go_at_call 136;refine G.mono ?_;rintro en w4 ⟨rfl,hb4⟩)
    have BB4:=S.on hb4;replace y4:=BB4.at1 4 _ rfl;replace y5:=BB4.at1 5 _ rfl
    go_upto_region 9 with (first
     | (go_at_call 136;refine(I.out _ hb4).mono ?_;rintro en w5 ⟨rfl,hb5⟩)
     | (go_at_call 137;refine(a7.out _).mono ?_;rintro en w6 ⟨rfl,hb6⟩))
    have hb46:=hb4.trans ((hb5.trans (hb6.mono hb5.size)).mono hb4.size);have BB6:=S.on hb46;have hO6:=zH (hO3.on hb46);have hbr6:=hbr3.trans (hb46.mono hbr3.size);replace y0:=BB6.at1 0 _ rfl;replace y1:=BB6.at1 1 _ rfl;replace y2:=BB6.at1 2 _ rfl;replace y3:=BB6.at1 3 _ rfl;have ad:=zH BB6;clear S BB4 BB6 hb4 hb5 hb6 hb46 y4 y5 y6 y7 hO3 hbr3 i1 i2 G I a7;go_wp2
    go_loopw [12,42] (λx i wz=>∃u X:Nat,u<=4/\x=.int .u64 X/\i=.int .i64 u/\X<2147483647/\Hid (sH (((n0:Int),(n1:Int),(n2:Int),(n3:Int)),q) v at_ u=X)/\Hid (Blk wz mb aJ ([.int .i64 n0,.int .i64 n1,.int .i64 n2,.int .i64 n3]++[.bool N1,.slice A1 K1 C1,.bool N2,.slice A2 K2 C2]))/\Hid (Blk wz g xQ (nc out))/\Below w.heap.size w wz) (λ_ i _=>4-(intOf i).toNat)
    case atStart=>exact⟨0,X0,oM,by rw[aq],nM,B,hX0,ad,hO6,hbr6⟩
    case round =>
     clear ad hO6 hbr6 hX0 B aE aq;obtain⟨u,X,hu,rfl,rfl,B,hX,hB,hO,b⟩:=hrel;by_cases hu4:u<4
     ·have s:∀W,Calls Tryz.prog 137 #[.int .u64 ((at_:Int)+(u:Int)),.int .i64 (Ex.get ((n0:Int),(n1:Int),(n2:Int),(n3:Int)) u)] W (rE W (.int .u64 (jC (at_+u) (Ex.get ((n0:Int),(n1:Int),(n2:Int),(n3:Int)) u).toNat))):=λW=>by
       have h1:0<=Ex.get ((n0:Int),(n1:Int),(n2:Int),(n3:Int)) u/\Ex.get ((n0:Int),(n1:Int),(n2:Int),(n3:Int)) u<=100000:=by
        obtain rfl|rfl|rfl|rfl:u=0\/u=1\/u=2\/u=3:=oM
        all_goals (simp only[Ex.get];omega)
       have h2:=yT (at_+u) (Ex.get ((n0:Int),(n1:Int),(n2:Int),(n3:Int)) u).toNat W oM oM;rw[Int.toNat_of_nonneg h1.1,Int.natCast_add]at h2;exact h2
      have a2:=uV (at_+u) (Ex.get ((n0:Int),(n1:Int),(n2:Int),(n3:Int)) u).toNat;rw[jq]at a2;by_cases m:u=v
      ·have z:Hid (sH (((n0:Int),(n1:Int),(n2:Int),(n3:Int)),q) v at_ (u+1)=X):=zH (by rw[sH,if_pos m];exact hX.out);clear s a2 hX;obtain rfl|rfl|rfl|rfl:u=0\/u=1\/u=2\/u=3:=oM
       ·have k1:((0:Int)=(v:Int))=True:=eq_true oM;have k2:((v:Int)=(0:Int))=True:=eq_true oM;have k3:(v=0)=True:=eq_true oM;have k4:((0:Nat)=v)=True:=eq_true oM;have k5:((0:Int)==(v:Int))=true:=by simp only[beq_iff_eq];omega
        clear m
        go_wp2_with (refine kJ rfl rfl rfl rfl (W9 _ _ _ _ _) ?_)
        go_roundw
        case rel=>exact⟨1,X,oM,rfl,nM,B,z,hB,hO,b⟩
        case measure=>simp[intOf]
       ·have k1:((1:Int)=(v:Int))=True:=eq_true oM;have k2:((v:Int)=(1:Int))=True:=eq_true oM;have k3:(v=1)=True:=eq_true oM;have k4:((1:Nat)=v)=True:=eq_true oM;have k5:((1:Int)==(v:Int))=true:=by simp only[beq_iff_eq];omega
        clear m
        go_wp2_with (refine kJ rfl rfl rfl rfl (Xa _ _ _ _ _) ?_)
        go_roundw
        case rel=>exact⟨2,X,oM,rfl,nM,B,z,hB,hO,b⟩
        case measure=>simp[intOf]
       ·have k1:((2:Int)=(v:Int))=True:=eq_true oM;have k2:((v:Int)=(2:Int))=True:=eq_true oM;have k3:(v=2)=True:=eq_true oM;have k4:((2:Nat)=v)=True:=eq_true oM;have k5:((2:Int)==(v:Int))=true:=by simp only[beq_iff_eq];omega
        clear m
        go_wp2_with (refine kJ rfl rfl rfl rfl (Xb _ _ _ _ _) ?_)
        go_roundw
        case rel=>exact⟨3,X,oM,rfl,nM,B,z,hB,hO,b⟩
        case measure=>simp[intOf]
       ·have k1:((3:Int)=(v:Int))=True:=eq_true oM;have k2:((v:Int)=(3:Int))=True:=eq_true oM;have k3:(v=3)=True:=eq_true oM;have k4:((3:Nat)=v)=True:=eq_true oM;have k5:((3:Int)==(v:Int))=true:=by simp only[beq_iff_eq];omega
        clear m
        go_wp2_with (refine kJ rfl rfl rfl rfl (Xc _ _ _ _ _) ?_)
        go_roundw
        case rel=>exact⟨4,X,oM,rfl,nM,B,z,hB,hO,b⟩
        case measure=>simp[intOf]
      ·obtain⟨Y,hY⟩:∃Y,Y=X*jC (at_+u) (Ex.get ((n0:Int),(n1:Int),(n2:Int),(n3:Int)) u).toNat%2147483647:=⟨_,rfl⟩;have z:Hid (sH (((n0:Int),(n1:Int),(n2:Int),(n3:Int)),q) v at_ (u+1)=Y):=zH (by rw[sH,if_neg m,hX.out,hY];rfl);generalize jC (at_+u) (Ex.get ((n0:Int),(n1:Int),(n2:Int),(n3:Int)) u).toNat=pw at *;have M:Y<2147483647:=by rw[hY];exact Nat.mod_lt _ dM
       have C:Hid (((X:Int)*(pw:Int))%2147483647=(Y:Int)):=zH (by rw[hY];simp);have b4:X*pw<=2147483647*2147483647:=Nat.mul_le_mul oM oM;clear hX hY;obtain rfl|rfl|rfl|rfl:u=0\/u=1\/u=2\/u=3:=oM
       ·simp only[Ex.get]at s;have N:¬v=0:=λh=>m h.symm;have hne2:¬(0:Int)=(v:Int):=oM;have hne3:¬(0:Nat)=v:=m
        go_wp2_with (first
         | (refine kJ rfl rfl rfl rfl (W9 _ _ _ _ _) ?_)
         | (go_at_call 137;refine(s _).mono ?_;rintro en w7 ⟨rfl,hb7⟩))
        go_roundw
        case rel=>exact⟨1,Y,oM,by rw[<-C.out],nM,M,z,zH (hB.out.on hb7),zH (hO.out.on hb7),b.trans (hb7.mono b.size)⟩
        case measure=>simp[intOf]
       ·simp only[Ex.get]at s;have N:¬v=1:=λh=>m h.symm;have hne2:¬(1:Int)=(v:Int):=oM;have hne3:¬(1:Nat)=v:=m
        go_wp2_with (first
         | (refine kJ rfl rfl rfl rfl (Xa _ _ _ _ _) ?_)
         | (go_at_call 137;refine(s _).mono ?_;rintro en w7 ⟨rfl,hb7⟩))
        go_roundw
        case rel=>exact⟨2,Y,oM,by rw[<-C.out],nM,M,z,zH (hB.out.on hb7),zH (hO.out.on hb7),b.trans (hb7.mono b.size)⟩
        case measure=>simp[intOf]
       ·simp only[Ex.get]at s;have N:¬v=2:=λh=>m h.symm;have hne2:¬(2:Int)=(v:Int):=oM;have hne3:¬(2:Nat)=v:=m
        go_wp2_with (first
         | (refine kJ rfl rfl rfl rfl (Xb _ _ _ _ _) ?_)
         | (go_at_call 137;refine(s _).mono ?_;rintro en w7 ⟨rfl,hb7⟩))
        go_roundw
        case rel=>exact⟨3,Y,oM,by rw[<-C.out],nM,M,z,zH (hB.out.on hb7),zH (hO.out.on hb7),b.trans (hb7.mono b.size)⟩
        case measure=>simp[intOf]
       ·simp only[Ex.get]at s;have N:¬v=3:=λh=>m h.symm;have hne2:¬(3:Int)=(v:Int):=oM;have hne3:¬(3:Nat)=v:=m
        go_wp2_with (first
         | (refine kJ rfl rfl rfl rfl (Xc _ _ _ _ _) ?_)
         | (go_at_call 137;refine(s _).mono ?_;rintro en w7 ⟨rfl,hb7⟩))
        go_roundw
        case rel=>exact⟨4,Y,oM,by rw[<-C.out],nM,M,z,zH (hB.out.on hb7),zH (hO.out.on hb7),b.trans (hb7.mono b.size)⟩
        case measure=>simp[intOf]
     ·obtain rfl:u=4:=oM;have hB4:=hB.out;have hO4:=hO.out;have hg4:g<wr.heap.size:=hO4.lt;have hmb4:mb<wr.heap.size:=hB4.lt
      have a1:∀W,Below wr.heap.size wr W->W.cell? ⟨mb,v,none⟩=some (.int .i64 n):=λW hb=>by have h1:=Gy ((n0:Int),(n1:Int),(n2:Int),(n3:Int)) v hv;rw[J]at h1;refine(hB4.on hb).at1 v _ ?_;rw[List.getElem?_append_left (by show v<4;exact hv)];exact h1
      have r:∀W,Below wr.heap.size wr W->W.cell? ⟨g,n,none⟩=some (.int .u64 ((out.getD n 0:Nat):Int)):=λW hb=>(hO4.on hb).ncell n oM;have hol2:=al.out.getD n;have ac:(Ex.get ((n0:Int),(n1:Int),(n2:Int),(n3:Int)) v).toNat=n:=by rw[J];rfl
      obtain⟨Y,hY⟩:∃Y,Y=(out.getD n 0+X)%2147483647:=⟨_,rfl⟩
      have hR4:Hid (L=jr v at_ (a.drop (k+1)) (out.set n Y)):=zH (by
       rw[hR3.out,hY];simp only[ac]
       rw[Ll,hX.out];rfl)
      generalize out.getD n 0=y at *;have M:Y<2147483647:=by rw[hY];exact Nat.mod_lt _ dM
      have C:Hid (((y:Int)+(X:Int))%2147483647=(Y:Int)):=zH (by rw[hY];simp);replace a1:=zH a1;replace r:=zH r;have hol3:(out.set n Y).length=D+1:=by rw[List.length_set];exact ao
      have hLo2:=zH (al.out.set n M);clear hX hY ac hR3 J
      go_upto_region 15 with (fail)
      refine aC mixed (none) (0) (fK.none) [.eq (.slice (some ⟨g,0,none⟩) (D+1) (D+1)),.eq (.int .i64 v),.eq (.pointer (some ⟨mb,0,none⟩)),.eq (.pointer (some ⟨mb,v,none⟩)),.eq (.int .i64 n),.eq (.slice (some ⟨g,0,none⟩) (D+1) (D+1)),.eq (.int .i64 v),.eq (.pointer (some ⟨mb,0,none⟩)),.eq (.pointer (some ⟨mb,v,none⟩)),.eq (.int .i64 n),.eq (.pointer (some ⟨g,0+n*1,none⟩)),.eq (.int .u64 y),.eq (.int .u64 X),.eq (.int .u64 ((y:Int)+(X:Int))),.eq (.int .u64 (((y:Int)+(X:Int))%2147483647)),.eq (.pointer (some ⟨g,0+n*1,none⟩))] [59,60,61,62,63,64,65,66,67,68,69,70,71,72,73,74] rfl rfl rfl rfl ⟨λ_ _ a _ _ _=>xM rfl (a 8 rfl),λ_ _ a _ _ _=>xM rfl (a 1 rfl),λA _ hA _ _ _=>have h10:A.eval (.tmp 10)=.pointer (some ⟨mb,0,none⟩):=hA 10 rfl;pZ rfl,λA _ _ _ _ he=>have h61:=eT 61 (he.1 rfl);have h60:=eT 60 (he.2.1 rfl);pZ rfl,?_,λ_ _ a _ _ _=>xM rfl (a 8 rfl),λ_ _ a _ _ _=>xM rfl (a 1 rfl),λA _ hA _ _ _=>have h10:A.eval (.tmp 10)=.pointer (some ⟨mb,0,none⟩):=hA 10 rfl;pZ rfl,λA _ _ _ _ he=>have h66:=eT 66 (he.1 rfl);have h65:=eT 65 (he.2.1 rfl);pZ rfl,?_,λ_ _ _ _ _ e=>pI rfl Tryz.underlying94 g 0 n (hnvl) (e.1 rfl) (e.2.1 rfl),?_,λ_ _ a _ _ _=>xM rfl (a 12 rfl),?_,?_,λ_ _ _ _ _ e=>pI rfl Tryz.underlying94 g 0 n (hnvl) (e.1 rfl) (e.2.1 rfl),trivial⟩ ?_
      ·intro A w1 hA hL hS he;have h62:=eT 62 (he.1 rfl);refine ae rfl ?_;have c0:=a1.out w1 hL.below;exact aB rfl rfl gZ
      ·intro A w1 hA hL hS he;have h67:=eT 67 (he.1 rfl);refine ae rfl ?_;have c0:=a1.out w1 hL.below;exact aB rfl rfl gZ
      ·intro A w1 hA hL hS he;have h69:=eT 69 (he.1 rfl);refine ae rfl ?_;have c0:=r.out w1 hL.below;exact aB rfl rfl gZ
      ·intro A w1 hA hL hS he;have h70:=eT 70 (he.1 rfl);have h71:=eT 71 (he.2.1 rfl);refine ae rfl (aB rfl rfl ?_);generalize A.eval=ev at *;go_simp
       (have hw:=IntKind.wrap_u64 ((y:Int)+(X:Int));omega)
      ·intro A w1 hA hL hS he;have h72:=eT 72 (he.1 rfl);have hc0:=eC A (.int .u64 2147483647);refine ae rfl (aB rfl rfl ?_);generalize A.eval=ev at *;go_simp;exact Int.tmod_eq_emod_of_nonneg oM
      ·intro W5 hL5;have hb5:=hL5.below;simp only[aT,af.eq,lZ];go_frame;have hO5:=hO4.on hb5;have z5:=hO5.ncell n oM;have f5:=hO5.frozen n;have hO6:=zH (hO5.nset n Y);have hb6:=b.trans ((hb5.mono b.size).trans (bF (W:=W5) (g:=g) (j:=n) aw (.int .u64 (Y:Int))));clear a1 r hL5 hB4 hO4 hB hO hO5 hb5;go_wp2;go_roundw
       case rel=>exact⟨k+1,out.set n Y,oM,nM,by rw[C.out];exact hO6,hol3,hLo2,hR4,by rw[C.out];exact hb6⟩
       case measure=>simp[intOf];omega
  ·obtain rfl:k=a.length:=oM;have ab:Hid (L=some out):=zH (by rw[hR.out,List.drop_of_length_le (nL _)];rfl);have hO4:=hO.out;have hg4:g<wr.heap.size:=hO4.lt;have r:∀W,Below wr.heap.size wr W->W.cell? ⟨g,D,none⟩=some (.int .u64 ((out.getD D 0:Nat):Int)):=λW hb=>(hO4.on hb).ncell D oM
   have an:Hid (iw L=decide (¬((out.getD D 0:Nat):Int)=0)):=zH (by
    rw[ab.out];show decide (out.getD (out.length-1) 0≠0)=_;rw[ao,Nat.add_sub_cancel];refine decide_eq_decide.2 ?_;constructor
    ·intro h h';exact h oM
    ·intro h h';exact h oM)
   have b3:((D:Int)+1-1)=D:=oM;have hw1:=lW (x:=(D:Int)+1) oM oM;have hw2:=lW (x:=(D:Int)) oM oM;replace r:=zH r;generalize out.getD D 0=y at *
   go_upto_region 17 with (fail)
   refine aC mixed (none) (0) (fK.none) [.eq (.slice (some ⟨g,0,none⟩) (D+1) (D+1)),.eq (.slice (some ⟨g,0,none⟩) (D+1) (D+1)),.eq (.slice (some ⟨g,0,none⟩) (D+1) (D+1)),.eq (.int .i64 (D+1)),.eq (.int .i64 D),.eq (.pointer (some ⟨g,0+D*1,none⟩)),.eq (.int .u64 y),.eq (.bool (decide (¬(y:Int)=0))),.eq (.slice (some ⟨g,0,none⟩) (D+1) (D+1))] [76,77,78,79,80,81,82,83,6] rfl rfl rfl rfl ⟨λ_ _ a _ _ _=>xM rfl (a 8 rfl),λ_ _ a _ _ _=>xM rfl (a 8 rfl),λ_ _ a _ _ _=>xM rfl (a 8 rfl),λA _ _ _ _ he=>have h78:=eT 78 (he.1 rfl);pZ rfl,λA _ _ _ _ he=>have h79:=eT 79 (he.1 rfl);have hc0:=eC A (.int .i64 1);pZ rfl,λ_ _ _ _ _ e=>pI rfl Tryz.underlying94 g 0 D oM (e.1 rfl) (e.2.1 rfl),?_,?_,λA _ _ _ _ he=>have h76:=eT 76 (he.1 rfl);pZ rfl,trivial⟩ ?_
   ·intro A w1 hA hL hS he;have h81:=eT 81 (he.1 rfl);refine ae rfl ?_;have c0:=r.out w1 hL.below;exact aB rfl rfl gZ
   ·intro A w1 hA hL hS he;have h82:=eT 82 (he.1 rfl);have hc0:=eC A (.int .u64 0);refine ae rfl (aB rfl rfl ?_);generalize A.eval=ev at *;go_simp
    (by_cases h9:y=0<;>simp[h9])
   ·intro W5 hL5;have hb5:=hL5.below;simp only[aT,af.eq,lZ];go_frame;have hO5:=hO4.on hb5;have hS:=Go.RowKit.Blk.nsl hO5 al.out;rw[ao]at hS;clear r hL5 hO4;go_wp2;go_ret2;exact⟨_,by rw[an.out];rfl,λl hl=>by rw[ab.out]at hl;cases hl;exact hS,F.trans (hb5.mono F.size)⟩
end Go.Proofs.YtopclbeomcggiaaGreat
end
section
namespace Q
open Go Go.RowKit Go.Proofs.YtopclbeomcggiaaGreat
def zy (base:Nat) (w:World) (v:Value) (l:List Nat):Prop :=
 ∃ao cap,v=.slice ao l.length cap/\l.length<=cap/\Er l/\(0<l.length->∃g cs,ao=some ⟨g,0,none⟩/\base<=g/\Blk w g xQ cs/\cs.take l.length=nc l)
theorem zy.of{base:Nat}{w:World}{v:Value}{l:List Nat}(h:di wW base w v l):zy base w v l:=by
 obtain⟨q,⟨p,d⟩,hex⟩:=h;obtain⟨rfl,k⟩:=xW.1 hex;rcases d with ⟨rfl,m⟩|⟨g,cap,b,rfl,e,hg,i,n,o,j⟩
 ·obtain rfl:l=[]:=List.eq_nil_of_length_eq_zero m;exact⟨none,0,rfl,nL _,k,λh=>by simp at h⟩
 ·refine⟨_,cap,rfl,i,k,λ_=>⟨g,b.toList,rfl,e,by unfold Blk;rw[Array.toArray_toList];exact hg,?_⟩⟩;have:b.toList.take (l.length*1)=nc l:=j;rwa[nU]at this
theorem zy.on{base:Nat}{w w':World}{v:Value}{l:List Nat}(h:zy base w v l)(hb:Below w.heap.size w w'):zy base w' v l:=by obtain⟨b,cap,d,i,j,k⟩:=h;refine⟨b,cap,d,i,j,λhp=>?_⟩;obtain⟨g,cs,e,hg,m,n⟩:=k hp;exact⟨g,cs,e,hg,m.on hb,n⟩
theorem zy.isSl{base:Nat}{w:World}{v:Value}{l:List Nat}(h:zy base w v l):bU wW w v l:=by obtain⟨b,cap,d,i,j,k⟩:=h;refine sI.2 ⟨b,cap,d,i,λhp=>?_,j⟩;obtain⟨g,cs,e,hg,m,n⟩:=k (by rw[Lm]at hp;exact hp);refine⟨g,0,e,?_⟩;rw[<-n];exact m.cells.take _
theorem zy.open{base:Nat}{w:World}{v:Value}{l:List Nat}(h:zy base w v l)(hp:0<l.length) :
  ∃g cap,v=.slice (some ⟨g,0,none⟩) l.length cap/\l.length<=cap/\base<=g/\g<w.heap.size/\(∀j,j<l.length->w.cell? ⟨g,j,none⟩=some (.int .u64 ((l.getD j 0:Nat):Int)))/\(∀j,w.frozen? ⟨g,j,none⟩=false) /\
   (∀k,k<=l.length->zy base w (.slice (some ⟨g,0,none⟩) k cap) (l.take k)) /\
   ∀(j x:Nat),j<l.length->x<2147483647->zy base (w.setCell ⟨g,j,none⟩ (.int .u64 (x:Int))) v (l.set j x):=by
 obtain⟨u,cap,o,p,q,s⟩:=h;obtain⟨g,cs,rfl,hg,b,m⟩:=s hp
 have e:∀j,j<l.length->cs[j]?=some (.int .u64 ((l.getD j 0:Nat):Int)):=λj d=>by rw[<-Lp l j d,<-m,List.getElem?_take,if_pos d]
 refine⟨g,cap,o,p,hg,b.lt,λj d=>b.at1 j _ (e j d),b.frozen,λk i=>?_,λj x d n=>?_⟩
 ·refine⟨some ⟨g,0,none⟩,cap,by rw[List.length_take,Nat.min_eq_left i],by rw[List.length_take];omega,q.sub λx n=>List.mem_of_mem_take n,λ_=>⟨g,cs,rfl,hg,b,?_⟩⟩;rw[List.length_take,Nat.min_eq_left i,nc,List.map_take];have r:(cs.take l.length).take k=(nc l).take k:=by rw[m]
  rw[List.take_take,Nat.min_eq_left i]at r;exact r
 ·refine⟨some ⟨g,0,none⟩,cap,by rw[List.length_set];exact o,by rw[List.length_set];exact p,q.set j n,λ_=>⟨g,cs.set j (.int .u64 (x:Int)),rfl,hg,b.set j _,?_⟩⟩;rw[List.length_set,List.take_set,m,nc,nc,List.map_set]
theorem C9{r:List Nat}(h:0<r.length)(b:r.getD (r.length-1) 0=0):strip (r.take (r.length-1))=strip r:=by
 have e:r=r.take (r.length-1)++[0]:=by
  have d:r.drop (r.length-1)=[0]:=by rw[List.drop_eq_getElem_cons oM,List.drop_of_length_le oM];rw[jD,gE oM]at b;simpa using b
  rw[<-d,List.take_append_drop]
 generalize r.take (r.length-1)=s at *;subst e;clear h b
 induction s with
 | nil=>rfl
 | cons x s i=>rw[List.cons_append,strip,strip,i]
theorem Dc{r:List Nat}(h:0<r.length)(b:r.getD (r.length-1) 0≠0):strip r=r:=by
 induction r with
 | nil=>rfl
 | cons x r d =>
  cases r with
  | nil=>simp at b;simp[strip,b]
  | cons y r =>
   have:=d sM (by simpa using b);rw[strip,this]
theorem pJ(b r:List Nat)(f at_:Nat):∀i,(fC b r f at_ i).length=r.length
 | 0=>rfl
 | i+1=>by rw[fC,List.length_set,pJ b r f at_ i]
end Q
namespace Go.Proofs.YtopclbeomcggiaaGreat
open Go.RowKit Q
theorem Rp:∃z bytes,(Tryz.prog.info? wW.T).map (λi=>(i.zero,i.size,i.bytes))=some (some z,wW.sz,bytes)/\z.cells.size=wW.sz/\bytes<=100000:=⟨.int .u64 0,8,kU,rfl,dM⟩
def VQ (w:World) (l:List Nat) (e:Ending) (w':World):Prop:=∃v,e=.returned v/\zy w.heap.size w' v l/\Below w.heap.size w w'
theorem Lt(v:Value)(l:List Nat)(w:World)(h:bU wW w v l)(r:l.length<=1000000):Calls Tryz.prog 138 #[v] w (VQ w l):=by
 obtain⟨o,cap,s,rfl,p,i,hex⟩:=id h;have n:=Go.Lib.run_eql_slice_nil (P:=Tryz.prog) w 94 97 o l.length cap 0 0 Tryz.underlying94
 cases o with
 | none =>
  have j:l=[]:=by
   cases l with
   | nil=>rfl
   | cons t l =>
    obtain⟨b,off,e,_⟩:=i (by rw[hex.length];simp[wW]);cases e
  subst j;simp only[List.length_nil,Option.isNone_none]at n ⊢
  go_enter Tryz.func138,Tryz.ntmps138
  go_wp2;go_ret;exact⟨_,rfl,zy.of (di.nil _ _ _),Below.refl _ _⟩
 | some a =>
  have d:Below w.heap.size w (w.alloc (.cells #[] xQ)):=(Below.refl _ _).alloc (nL _) _;have m:di wW w.heap.size (w.alloc (.cells #[] xQ)) (.slice (some ⟨w.heap.size,0,none⟩) 0 0) []:=gX wW w;have h1:=h.on d;clear i
  go_enter Tryz.func138,Tryz.ntmps138
  go_wp2_with (at_builtin;refine fV rfl _ _ 94 rfl Tryz.underlying94 Rp rfl rfl m h1 (by simp;omega) d.size ?_;intro v5 w5 hown5 hl5 hv5)
  go_ret;exact⟨_,rfl,by simpa using zy.of hown5,d.trans (hl5.belowAt d.size (λk q=>by cases q;exact nL _))⟩
end Go.Proofs.YtopclbeomcggiaaGreat
end
section
namespace Q
open Go Go.RowKit Go.Proofs.YtopclbeomcggiaaGreat
theorem zy.mono{b d:Nat}{w:World}{v:Value}{l:List Nat}(h:zy b w v l)(hb:d<=b):zy d w v l:=by obtain⟨i,cap,j,k,m,n⟩:=h;refine⟨i,cap,j,k,m,λhp=>?_⟩;obtain⟨g,cs,e,hg,o⟩:=n hp;exact⟨g,cs,e,oM,o⟩
def af.rst {T:TypeId} (B:Nat) (l:List Nat):af (Lr none T):=af.of (λv w=>zy B w v l) (λ_ _ _ hb h=>h.on hb.below)
theorem Fq{w:World}{v:Value}{l:List Nat}(h:bU wW w v l)(hp:0<l.length):∃b off cap,v=.slice (some ⟨b,off,none⟩) l.length cap/\bS xQ w b off (nc l)/\Er l:=by obtain⟨i,cap,rfl,j,d,e⟩:=sI.1 h;obtain⟨b,off,rfl,hc⟩:=d (by rw[Lm];exact hp);exact⟨b,off,cap,rfl,hc,e⟩
theorem YQ:pr-2=2147483645:=rfl
end Q
namespace Go.Proofs.YtopclbeomcggiaaGreat
open Go.RowKit Q
theorem Lx(vx vy:Value)(x y:List Nat)(R:Nat)(w:World)(hx:bU wW w vx x)(hy:bU wW w vy y)(lx:x.length<=1000000)(ly:y.length<=1000000)(h:nz x y=some R) :
  Calls Tryz.prog 119 #[vx,vy] w (rE w (.int .i64 ((R:Int)-1))):=by
 obtain⟨F,hF⟩:∃F,F=fuel:=⟨_,rfl⟩;unfold nz at h;rw[<-hF]at h;obtain⟨ax,cx,rfl,aw⟩:=hx.shape;obtain⟨ay,cy,rfl,aE⟩:=hy.shape;replace hx:=zH hx;replace hy:=zH hy;replace hF:=zH hF
 go_enter Tryz.func119,Tryz.ntmps119
 go_upto_if 15 with (fail)
 go_cut [0,1,16,17] (λva vb _ _ wc=>∃a b,Hid (bU wW wc va a)/\Hid (bU wW wc vb b)/\Hid (il F a b=some R)/\a.length<=1000000/\b.length<=1000000/\Below w.heap.size w wc)
 case first =>
  by_cases al:x.length<y.length
  ·rw[if_pos al]at h;replace h:=zH h;have an:(x.length:Int)<y.length:=oM;go_wp2;go_meet
   case rel=>exact⟨y,x,hy,hx,h,ly,lx,Below.refl _ _⟩
  ·rw[if_neg al]at h;replace h:=zH h;have an:¬(x.length:Int)<y.length:=oM;go_wp2;go_meet
   case rel=>exact⟨x,y,hx,hy,h,lx,ly,Below.refl _ _⟩
 case rest =>
  clear hx hy h lx ly aw aE;obtain⟨a,b,ha,hb,hs,la,lb,a8⟩:=hcut;go_wp2
  go_loopg [0,1] F (λn va vb wr=>∃a b,Hid (bU wW wr va a)/\Hid (bU wW wr vb b)/\Hid (il n a b=some R)/\a.length<=1000000/\b.length<=1000000/\Below w.heap.size w wr)
  case atStart=>exact⟨a,b,ha,hb,hs,la,lb,a8⟩
  case round =>
   clear ha hb hs la lb a8 a b;obtain⟨a,b,ha,hb,hs,la,lb,z⟩:=hrel
   cases gk with
   | zero=>exact absurd hs.out (by simp[il])
   | succ n =>
   have hs2:=hs.out;rw[il]at hs2;clear hs;by_cases hb0:b=[]
   ·rw[if_pos hb0,sJ]at hs2;subst hb0;obtain⟨aa,ca,rfl,ba⟩:=ha.out.shape;obtain⟨ab,cb,rfl,bc⟩:=hb.out.shape;simp only[List.length_nil];have s:=zH hs2;clear hs2;go_wp2;go_ret;exact⟨by rw[<-s.out];rfl,z⟩
   ·rw[if_neg hb0]at hs2;have b4:0<b.length:=List.length_pos_iff.2 hb0;obtain⟨bb,ob,cb,rfl,a0,a6⟩:=Fq hb.out b4;rw[<-hF.out]at hs2;obtain⟨inv,hinv⟩:∃inv,inv=jC (b.getD (b.length - 1) 0) 2147483645:=⟨_,rfl⟩;rw[YQ,<-hinv]at hs2
    cases hr:kX b inv F a with
    | none=>rw[hr]at hs2;cases hs2
    | some r1 =>
    rw[hr]at hs2;have b3:inv<2147483647:=by rw[hinv];exact uV _ _
    have a9:=zH (λW (hb:Below wr.heap.size wr W)=>Lt _ a W (ha.out.on hb) oM);have a1:=a6.getD (b.length-1);have N:=zH (λW=>yT (b.getD (b.length-1) 0) 2147483645 W oM oM);rw[<-hinv]at N;have p:∀W,Below wr.heap.size wr W->W.cell? ⟨bb,ob+(b.length-1),none⟩=some (.int .u64 ((b.getD (b.length-1) 0:Nat):Int)):=λW hb=>(a0.on hb).ncell _ oM;generalize b.getD (b.length-1) 0=xl at N p;replace hinv:=zH hinv;replace hs2:=zH hs2;replace hr:=zH hr;replace p:=zH p;have b9:(0:Int)<(b.length:Int):=oM;clear a1 hb0
    go_upto_region 4 with (fail)
    refine aC mixed (none) (0) (fK.none) [.eq (u0),.rst wr.heap.size a,.eq (.slice (some ⟨bb,ob,none⟩) b.length cb),.eq (.slice (some ⟨bb,ob,none⟩) b.length cb),.eq (.int .i64 b.length),.eq (.int .i64 ((b.length:Int)-1)),.eq (.pointer (some ⟨bb,ob+(b.length-1)*1,none⟩)),.eq (.int .u64 xl),.ret (.int .u64 inv)] [21,22,23,24,25,26,27,28,29] rfl rfl rfl rfl ⟨λ_ _ a _ _ _=>xM rfl (a 0 rfl),?_,λ_ _ a _ _ _=>xM rfl (a 1 rfl),λ_ _ a _ _ _=>xM rfl (a 1 rfl),λA _ _ _ _ he=>have h24:=eT 24 (he.1 rfl);pZ rfl,?_,λ_ _ _ _ _ e=>pI rfl Tryz.underlying94 bb ob (b.length-1) oM (e.1 rfl) (e.2.1 rfl),?_,λA _ _ _ hS he=>have hb:=hS rfl;have h28:=eT 28 (he.1 rfl);have hf0:=eF A 137;have hc0:=eC A (.int .i64 2147483645);cP (f:=137) (args:=#[.int .u64 xl,(.int .i64 2147483645)]) (N.out _),trivial⟩ ?_
    ·intro A w1 hA hL hS he;have hb:=hS rfl;have h21:=eT 21 (he.1 rfl);have hf0:=eF A 138;refine ae rfl ?_;refine dI (f:=138) (args:=#[u0]) rfl rfl ?_ ?_
     ·exact gZ
     ·refine(a9.out _ hb).mono ?_;rintro e w' ⟨v,rfl,hi,au⟩;exact⟨_,rfl,au,hi.mono hb.size⟩
    ·intro A w1 hA hL hS he;have h25:=eT 25 (he.1 rfl);have hc0:=eC A (.int .i64 1);refine ae rfl (aB rfl rfl ?_);generalize A.eval=ev at *;go_simp;exact lW oM oM
    ·intro A w1 hA hL hS he;have hb:=hL.below;have h27:=eT 27 (he.1 rfl);refine ae rfl ?_;have c0:=p.out w1 hb;exact aB rfl rfl gZ
    ·intro W1 hL1;have hb1:=hL1.below;simp only[aT,af.eq,af.rst,af.ret,af.of,lZ];rintro v22 h22;go_frame;have hbr1:=z.trans (hb1.mono z.size);have J:∀W,Below wr.heap.size wr W->∀k,k<b.length->W.cell? ⟨bb,ob+k,none⟩=some (.int .u64 ((b.getD k 0:Nat):Int)):=λW hb k hk=>(a0.on hb).ncell _ hk;replace J:=zH J;replace h22:=zH h22;clear hL1 a9 N p a0;generalize wr=Wb at *;go_wp2
     go_loopg [5] F (λm v5 wz=>∃r,Hid (zy Wb.heap.size wz v5 r)/\Hid (kX b inv m r=some r1)/\r.length<=1000000/\Below Wb.heap.size Wb wz)
     case atStart=>exact⟨a,h22,hr,la,hb1⟩
     case round =>
      clear h22 hr hb1 hbr1;obtain⟨r,hR,G,lr,l⟩:=hrel;obtain⟨a4,b2⟩:∃a4,a4=gk:=⟨_,rfl⟩
      cases gk with
      | zero=>exact absurd G.out (by simp[kX])
      | succ m =>
      clear b2;have hrun2:=G.out;rw[kX]at hrun2;clear G;by_cases kQ:b.length<=r.length
      ·rw[if_pos kQ]at hrun2;obtain⟨g,cap,rfl,b6,b0,bj,B,-,-,-⟩:=hR.out.open oM;obtain⟨A,hA⟩:∃A,A=r.length - b.length:=⟨_,rfl⟩;have hA2:(r.length:Int) - (b.length:Int)=(A:Int):=oM;have a5:A+b.length=r.length:=oM;rw[<-hA]at hrun2;have Z:=hR.out.isSl;obtain⟨-,-,-,-,-,u⟩:=sI.1 Z;have bd:=B (r.length - 1) oM;have bm:=u.getD (r.length - 1);generalize r.getD (r.length - 1) 0=xt at *;obtain⟨f,hf⟩:∃f,f=xt*inv%pr:=⟨_,rfl⟩;rw[<-hf]at hrun2;have bi:f<2147483647:=by rw[hf];exact C8 _
       have bl:xt*inv<=2147483647*2147483647:=Nat.mul_le_mul oM oM;have bh:((xt:Int)*(inv:Int))%2147483647=(f:Int):=by rw[hf,jq];simp
       have ag:¬(r.length:Int)<(b.length:Int):=oM;replace hrun2:=zH hrun2;have o:Hid (zy Wb.heap.size wr (.slice (some ⟨g,0,none⟩) r.length cap) (fC b r f A 0)):=hR;clear hf hA B Z hR
       go_wp2_with (refine aj rfl (.tmp 35) (.tmp 38) _ rfl _ Tryz.underlying94 _ _ _ kU _ _ _ rfl _ _ rfl (r.length-1) oM oM g 0 rfl ?_;rw[nU,Nat.zero_add])
       go_loopw [51] (λi wy=>∃k:Nat,k<=b.length/\i=.int .i64 k/\Hid (zy Wb.heap.size wy (.slice (some ⟨g,0,none⟩) r.length cap) (fC b r f A k))/\Below Wb.heap.size Wb wy) (λi _=>b.length-(intOf i).toNat)
       case atStart=>exact⟨0,oM,rfl,o,l⟩
       case round =>
        clear o l;obtain⟨k,hk,rfl,hR,l⟩:=hrel;by_cases ad:k<b.length
        ·have b7:(k:Int)<(b.length:Int):=oM;have C:=pJ b r f A k;obtain⟨g',b5,ap,-,-,-,B,ac,-,Y⟩:=hR.out.open oM;simp only[Value.slice.injEq,sJ,Addr.mk.injEq,and_true]at ap;obtain⟨rfl,-,rfl⟩:=ap;have I:fC b r f A (k+1)=(fC b r f A k).set (A+k) (((fC b r f A k).getD (A+k) 0+(pr - b.getD k 0)*f)%pr):=rfl;have u:=hR.out.isSl;obtain⟨-,-,-,-,-,u⟩:=sI.1 u;have h1:=B (A+k) oM;have h2:=J.out wr l k ad;have h3:=ac (A+k);have hx1:=u.getD (A+k);have hc1:=a6.getD k;have hs9:=Y (A+k) (((fC b r f A k).getD (A+k) 0+(pr - b.getD k 0)*f)%pr) oM (C8 _);rw[<-I]at hs9;obtain⟨nx,M⟩:∃nx,nx=fC b r f A (k+1):=⟨_,rfl⟩;rw[<-M]at hs9;replace M:=zH M;clear I;generalize(fC b r f A k).getD (A+k) 0=x at *;generalize b.getD k 0=c at *;obtain⟨d,hd⟩:∃d,d=pr - c:=⟨_,rfl⟩;rw[<-hd]at hs9;rw[jq]at hd hs9;have hd2:(2147483647:Int) - (c:Int)=(d:Int):=oM;have be:d*f<=2147483647*2147483647:=Nat.mul_le_mul oM oM;have hv9:(((x+d*f)%2147483647:Nat):Int)=((x:Int)+(d:Int)*(f:Int))%2147483647:=sM;rw[hv9]at hs9;have hAk2:A+k<r.length:=oM;have hbz9:=l.trans (bF (W:=wr) (g:=g) (j:=A+k) b0 (.int .u64 (((x:Int)+(d:Int)*(f:Int))%2147483647)));replace hs9:=zH hs9;clear B ac Y hv9 hd hR u C
         replace a5:=zH a5
         go_wp2_with (first
          | (refine aj rfl (.tmp 49) (.tmp 51) _ rfl _ Tryz.underlying94 _ _ _ kU _ _ _ rfl _ _ rfl k rfl ad bb ob rfl ?_;rw[nU])
          | (refine aj rfl (.tmp 60) (.tmp 63) _ rfl _ Tryz.underlying94 _ _ _ kU _ _ _ rfl _ _ rfl (A+k) oM hAk2 g 0 rfl ?_;rw[nU,Nat.zero_add])
          | (refine aj rfl (.tmp 56) (.tmp 59) _ rfl _ Tryz.underlying94 _ _ _ kU _ _ _ rfl _ _ rfl (A+k) oM hAk2 g 0 rfl ?_;rw[nU,Nat.zero_add]))
         go_roundw
         case rel=>exact⟨k+1,oM,nM,by rw[<-M.out];exact hs9,hbz9⟩
         case measure=>simp[intOf];omega
        ·obtain rfl:k=b.length:=oM;have C:=pJ b r f A b.length;generalize fC b r f A b.length=r2 at *;obtain⟨S,hS⟩:∃S,S=strip r2:=⟨_,rfl⟩;have o:Hid (strip r2=S):=zH hS.symm;have hrun3:Hid (kX b inv m S=some r1):=zH (by rw[hS];exact hrun2.out);clear hrun2 hS;go_wp2
         go_loopg [5] r.length (λq v5 wy=>∃r3,Hid (zy Wb.heap.size wy v5 r3)/\Hid (strip r3=S)/\r3.length<=q/\q<=1000000/\Below Wb.heap.size Wb wy)
         case atStart=>exact⟨r2,hR,o,oM,oM,l⟩
         case round =>
          clear hR o l C r2;obtain⟨r3,hR,o,lr3,hq,l⟩:=hrel;by_cases hp3:0<r3.length
          ·obtain⟨g3,cap3,rfl,hcap3,hgb3,hgl3,hcr3,-,htk3,-⟩:=hR.out.open hp3;have hct3:=hcr3 (r3.length - 1) oM;have hxl3:=(sI.1 hR.out.isSl);obtain⟨-,-,-,-,-,hLr3⟩:=hxl3;have hx3:=hLr3.getD (r3.length - 1);have hz:=λh=>C9 (r:=r3) hp3 h;have a2:=λh=>Dc (r:=r3) hp3 h;have X:=htk3 (r3.length - 1) oM;have b8:(0:Int)<(r3.length:Int):=oM;generalize r3.getD (r3.length - 1) 0=x3 at *;clear hcr3 htk3 hLr3;by_cases hx0:x3=0
           ·subst hx0;have ao:Hid (strip (r3.take (r3.length-1))=S):=zH (by rw[hz rfl];exact o.out);have L:(r3.take (r3.length-1)).length=r3.length-1:=by rw[List.length_take];omega
            replace X:=zH X;clear hz a2 o hR;obtain⟨q',D⟩:∃q',gk=q'+1:=⟨gk - 1,oM⟩;replace D:=zH D;generalize r3.take (r3.length - 1)=r4 at *;replace L:=zH L
            go_wp2_with (first
             | (refine aj rfl (.tmp 78) (.tmp 81) _ rfl _ Tryz.underlying94 _ _ _ kU _ _ _ rfl _ _ rfl (r3.length-1) oM oM g3 0 rfl ?_;rw[nU,Nat.zero_add])
             | (refine oo rfl _ _ 94 rfl Tryz.underlying94 kM _ _ _ rfl .i64 _ rfl (r3.length-1) oM oM ?_))
            go_roundg q'
            case measure=>have:=D.out;omega
            case rel=>exact⟨r4,by have h1:=X.out;have h2:=L.out;rw[<-h2]at h1;rw[<-h2];exact zH h1,ao,by have:=D.out;have:=L.out;omega,by have:=D.out;omega,l⟩
           ·have s:Hid (S=r3):=zH (by rw[<-o.out];exact a2 hx0);have bk:((x3:Int)==0)=false:=by simp;omega
            clear hz a2 o X hx0
            go_wp2_with (refine aj rfl (.tmp 78) (.tmp 81) _ rfl _ Tryz.underlying94 _ _ _ kU _ _ _ rfl _ _ rfl (r3.length-1) oM oM g3 0 rfl ?_;rw[nU,Nat.zero_add])
            go_roundg m
            case measure=>omega
            case rel=>exact⟨r3,hR,by rw[<-s.out];exact hrun3,oM,l⟩
          ·obtain rfl:r3=[]:=List.eq_nil_of_length_eq_zero oM;have s:Hid (S=[]):=zH (by rw[<-o.out];rfl);obtain⟨a3,c3,rfl,-⟩:=hR.out.isSl.shape;simp only[List.length_nil];clear o;go_wp2;go_roundg m
           case measure=>omega
           case rel=>exact⟨[],hR,by rw[<-s.out];exact hrun3,sM,l⟩
      ·rw[if_neg kQ,sJ]at hrun2;subst hrun2;obtain⟨ar,cr,rfl,-⟩:=hR.out.isSl.shape;have ag:(r.length:Int)<(b.length:Int):=oM;have av:=zH (hb.out.on l);have a7:=z.trans (l.mono z.size);have aq:=zH hR.out.isSl;clear hR hb ha J;go_wp2;go_roundg n
       case measure=>omega
       case rel=>exact⟨b,r,av,aq,hs2,lb,lr,a7⟩
end Go.Proofs.YtopclbeomcggiaaGreat
end
section
namespace Q
theorem Jo{a:List ai}{v at_:Nat}{l:List Nat}(b:Wp a)(h:iZ a v at_=some l):l.length<=1000000:=by rw[(zx h).1,List.length_replicate];have:=(b.deg v).2;omega
theorem GM{a b:List ai}{v k:Nat}{l:List Nat}{m:Int}(h:jU a b v (k::l)=some m) :
  (iw (iZ a v (17+100*k))=true/\iw (iZ b v (17+100*k))=true/\∃x y n,iZ a v (17+100*k)=some x/\iZ b v (17+100*k)=some y/\nz x y=some n/\m=(n:Int)-1) \/
  ((iw (iZ a v (17+100*k))=false\/iw (iZ b v (17+100*k))=false)/\jU a b v l=some m):=by
 rw[jU]at h
 cases hx:iZ a v (17+100*k)with
 | none=>rw[hx]at h;exact .inr ⟨.inl rfl,h⟩
 | some x =>
  cases hy:iZ b v (17+100*k)with
  | none=>rw[hx,hy]at h;exact .inr ⟨.inr rfl,h⟩
  | some y =>
   rw[hx,hy]at h;change(if(iw (some x)&&iw (some y))=true then _ else _)=_ at h;cases h1:iw (some x)
   ·rw[h1]at h;exact .inr ⟨.inl rfl,by simpa using h⟩
   ·cases h2:iw (some y)
    ·rw[h1,h2]at h;exact .inr ⟨.inr rfl,by simpa using h⟩
    ·rw[h1,h2]at h;rw[if_pos (show(true&&true)=true from rfl)]at h
     cases hs:nz x y with
     | none=>rw[hs]at h;cases h
     | some n =>
      rw[hs]at h;have d:some ((n:Int)-1)=some m:=h;exact .inl ⟨rfl,rfl,x,y,n,rfl,rfl,hs,(Option.some.inj d).symm⟩
end Q
namespace Go.Proofs.YtopclbeomcggiaaGreat
open Go.RowKit Q
theorem Pg(F G:Value)(a b:List ai)(v:Nat)(m:Int)(w:World)(ha:ak w F a)(hb:ak w G b)(D:Wp a)(kb:Wp b)(hv:v<4)(z:a≠[])(B:b≠[])(h:zw a b v=some m) :
  Calls Tryz.prog 92 #[F,G,.int .i64 v] w (rE w (.int .i64 m)):=by
 have I:=zH (λk W (N:k<3) (hb:Below w.heap.size w W)=>Fp F a v (17+100*k) W (ha.on hb) D hv z oM);have J:=zH (λk W (N:k<3) (o:Below w.heap.size w W)=>Fp G b v (17+100*k) W (hb.on o) kb hv B oM);have q:=zH (λW (hb:Below w.heap.size w W)=>jR F a v W (ha.on hb) hv (by have:=D.len;omega));have r:=zH (λW (o:Below w.heap.size w W)=>jR G b v W (hb.on o) hv (by have:=kb.len;omega));have L:=zH (λk l (h:iZ a v (17+100*k)=some l)=>Jo D h);have M:=zH (λk l (h:iZ b v (17+100*k)=some l)=>Jo kb h);have C:Hid (jU a b v ([0,1,2].drop 0)=some m):=zH h;obtain⟨aa,ca,rfl,-⟩:=ha.shape;obtain⟨ab,cb,rfl,-⟩:=hb.shape;have a0:=(D.deg v);have a1:=(kb.deg v);clear ha hb D kb z B h
 go_enter Tryz.func92,Tryz.ntmps92
 go_wp2
 go_loopw [12] (λi wr=>∃k:Nat,k<=3/\i=.int .u64 k/\Hid (jU a b v ([0,1,2].drop k)=some m)/\Below w.heap.size w wr) (λi _=>match i with|.int _ x=>3-x.toNat|_=>0)
 case atStart=>exact⟨0,oM,nM,C,Below.refl _ _⟩
 case round =>
  clear C;obtain⟨k,N,rfl,hB,d⟩:=hrel;by_cases hk3:k<3
  ·have S:(k:Int)<3:=oM
   have nY:([0,1,2]:List Nat).drop k=k::([0,1,2]:List Nat).drop (k+1):=by
    obtain rfl|rfl|rfl:k=0\/k=1\/k=2:=oM
    all_goals rfl
   have hB2:=hB.out;rw[nY]at hB2;have h1:=I.out k wr hk3 d;have h2:=J.out k;have u:((17+100*k:Nat):Int)=17+100*(k:Int):=oM;rw[u]at h1 h2;clear u;have hc:=GM hB2;have hla1:=L.out k;have hlb1:=M.out k;clear nY hB hB2;generalize iZ a v (17+100*k)=oa at *;generalize iZ b v (17+100*k)=ob at *;replace hc:=zH hc;replace h2:=zH h2;replace hla1:=zH hla1;replace hlb1:=zH hlb1
   go_upto_region 6 with (first
    | (go_at_call 118;refine(h2.out w3 hk3 (d.trans (hb3.mono d.size))).mono ?_;rintro en w4 ⟨v4,rfl,hv4,hb4⟩)
    | (go_at_call 118;refine h1.mono ?_;rintro en w3 ⟨v3,rfl,hv3,hb3⟩))
   have hb34:=hb3.trans (hb4.mono hb3.size);have hbr4:=d.trans (hb34.mono d.size);rcases hc.out with ⟨f1,f2,x,y,n,rfl,rfl,X,rfl⟩|⟨hf,j⟩
   ·rw[f1,f2];have Y:=(hv3 x rfl).on hb4;have Z:=hv4 y rfl;have p:=Lx v3 v4 x y n w4 Y Z (hla1.out x rfl) (hlb1.out y rfl) X;replace p:=zH p;clear hv3 hv4 h1 h2 f1 f2 Y Z X hc
    go_wp2_with (go_at_call 119;refine p.out.mono ?_;rintro en w5 ⟨rfl,hb5⟩)
    go_ret;exact⟨rfl,hbr4.trans (hb5.mono hbr4.size)⟩
   ·have j:=zH j;clear hv3 hv4 h1 h2 hc;cases f1:iw oa
    ·clear hf f1;go_wp2;go_roundw
     case rel=>exact⟨k+1,oM,nM,j,hbr4⟩
     case measure=>simp;omega
    ·cases f2:iw ob
     ·clear hf f1 f2;go_wp2;go_roundw
      case rel=>exact⟨k+1,oM,nM,j,hbr4⟩
      case measure=>simp;omega
     ·rw[f1,f2]at hf;rcases hf with hf|hf<;>cases hf
  ·obtain rfl:k=3:=oM;have s:Hid (m=min (aD a v) (aD b v)):=zH (Option.some.inj hB.out).symm;have h1:=q.out wr d;have h2:=r.out;clear q r hB;generalize aD a v=da at *;generalize aD b v=db at *
   go_wp2_with (first
    | (go_at_call 53;refine(h2 w3 (d.trans (hb3.mono d.size))).mono ?_;rintro en w4 ⟨rfl,hb4⟩)
    | (go_at_call 53;refine h1.mono ?_;rintro en w3 ⟨rfl,hb3⟩))
   go_ret;exact⟨by rw[s.out];rfl,(d.trans (hb3.mono d.size)).trans (hb4.mono (d.trans (hb3.mono d.size)).size)⟩
end Go.Proofs.YtopclbeomcggiaaGreat
end
section
namespace Go.Proofs.YtopclbeomcggiaaGreat
open Go.RowKit Q Go.WideMaps Go.Maps
theorem Ph(b:Value)(p:List ai)(v:Nat)(w:World)(hp:ak w b p)(hv:v<4)(i:p.length<=100000000):Calls Tryz.prog 97 #[b,.int .i64 v] w (aS w (aN p v (aD p v))):=by
 have hd:=zH (λW (hb:Below w.heap.size w W)=>kH b p v W (hp.on hb) hv i);have hc:=zH (λW (hb:Below w.heap.size w W)=>wI b p v (aD p v) W (hp.on hb) hv i);generalize aD p v=d at *
 go_enter Tryz.func97,Tryz.ntmps97
 go_wp2_with (first
  | (go_at_call 27;refine(hd.out _ (Below.refl _ _)).mono ?_;rintro e w1 ⟨rfl,hb1⟩)
  | (go_at_call 80;refine(hc.out _ hb1).mono ?_;rintro e w2 ⟨v2,rfl,hv2,hb2⟩))
 go_ret;exact⟨_,rfl,hv2,hb1.trans (hb2.mono hb1.size)⟩
theorem Rq(l:Value)(p:List ai)(n:Nat)(w:World)(s:Sz)(t:Nat->Sz)(hP:Pk s p)(b:∀j,j<n->Pk (t j) (qP p j)/\((t j).mul s).ok)(r:n<=100000000)(hp:ak w l p):Calls Tryz.prog 98 #[l,.int .i64 n] w (aS w (qP p n)):=by
 have hw7:=zH (λW=>KX 1 ⟨1,1,0,1⟩ W oM oM (zl dK) dK);have hm:=zH (λj (h:j<n) W u (h1:ak W u (qP p j)) (h2:ak W l p)=>Nf (b j h).1 hP (b j h).2 h1 h2);replace b:=zH b;replace hp:=zH hp;have hn0:¬(n:Int)<0:=oM
 go_enter Tryz.func98,Tryz.ntmps98
 go_wp2_with (go_at_call 79;refine(hw7.out _).mono ?_;rintro e w1 ⟨v1,rfl,hv1,hb1⟩)
 go_loopw [5,6] (λq k wr=>∃i:Nat,k=.int .i64 i/\Hid (ak wr q (qP p i))/\i<=n/\Below w.heap.size w wr) (λ_ k _=>n-(intOf k).toNat)
 case atStart=>exact⟨0,rfl,zH hv1,oM,hb1⟩
 case round =>
  clear hv1 hb1;obtain⟨i,rfl,ha,o,hb⟩:=hrel;by_cases m:i<n
  ·have d:(i:Int)<n:=oM;have hc:=hm.out i m wr _ ha.out (hp.out.on hb)
   go_wp2_with (go_at_call 12;refine hc.mono ?_;rintro e w3 ⟨v3,rfl,hv3,hb3⟩)
   go_roundw
   case measure=>simp[intOf];omega
   case rel=>exact⟨i+1,nM,zH hv3,oM,hb.trans (hb3.mono hb.size)⟩
  ·obtain rfl:i=n:=oM;have d:¬(i:Int)<i:=oM;go_wp2;go_ret;exact⟨_,rfl,ha.out,hb⟩
end Go.Proofs.YtopclbeomcggiaaGreat
end
section
namespace Q
open Go Go.Proofs.YtopclbeomcggiaaGreat
structure xX (p q:List ai):Prop where
 wp:Wr p
 wq:Wr q
 ms:∀k,Wr (aX p (q.take k))
 ti:∀u∈q,Wr (jN p u)/\∀t∈p,InR (t.1.add u.1)
def De (v:Nat) (n:Nat) (rest:List ai) (i:Nat):List ai:=aX (aN rest v ((n+i:Nat):Int)) (qP (rG v) i)
def Df (v n:Nat) (c b rest:List ai) (i:Nat):List ai:=gH (aX c rest) (aX (De v n rest i) b)
def PN (v n:Nat) (c b:List ai):Nat->List ai->List ai
 | 0,rest=>rest
 | i+1,rest=>PN v n c b i (Df v n c b rest i)
def LF (v n:Nat) (c b:List ai):Nat->List ai->Prop
 | 0,rest=>rest.length<=100000000
 | i+1,rest=>i<900000/\xX (aN rest v ((n+i:Nat):Int)) (qP (rG v) i)/\xX c rest/\xX (De v n rest i) b/\Wr (aX c rest)/\Wr (aX (De v n rest i) b)/\LF v n c b i (Df v n c b rest i)
theorem LF.len{v n:Nat}{c b:List ai}:∀{i:Nat}{rest:List ai},LF v n c b i rest->rest.length<=100000000
 | 0,_,h=>h
 | _+1,_,h=>h.2.2.1.wq.len
theorem Fs{v:Nat}(hv:v<4):∀j,j<900000->Pk ⟨1,1,j,1⟩ (qP (rG v) j)
 | 0,_=>VE
 | j+1,h=>by have:=(Fs hv j oM).mul (Pk.var v) (by show(0:Nat)<1*1/\1*1<65536/\1*1<2^1000/\j+1<1000000/\1*1<1000000;exact⟨oM,oM,dK,oM,oM⟩);exact this
end Q
namespace Go.Proofs.YtopclbeomcggiaaGreat
open Go.RowKit Q Go.WideMaps Go.Maps
theorem Jp(b:Value)(v i:Nat)(hv:v<4)(d:i<900000)(w:World)(hp:ak w b (rG v)):Calls Tryz.prog 98 #[b,.int .i64 i] w (aS w (qP (rG v) i)) :=
 Rq b (rG v) i w ⟨1,1,1,1⟩ (λj=>⟨1,1,j,1⟩) (Pk.var v) (λj e=>⟨Fs hv j oM,by show(0:Nat)<1*1/\1*1<65536/\1*1<2^1000/\j+1<1000000/\1*1<1000000;exact⟨oM,oM,dK,oM,oM⟩⟩) oM hp
theorem Jq(z s:Value)(a b:List ai)(v n:Nat)(w:World)(ha:ak w z a)(hb:ak w s b)(hv:v<4)(F:a.length<=100000000)(lb:b.length<=100000000)(q:b≠[])(C:aD b v=(n:Int))(I:aD a v<=900000)(L:n<=900000)
  (l:LF v n (aN b v (n:Int)) b (aD a v-n+1).toNat a) :
  Calls Tryz.prog 60 #[z,s,.int .i64 v] w (CF w (PN v n (aN b v (n:Int)) b (aD a v-n+1).toNat a) 0):=by
 have hD:=zH (λW (h:Below w.heap.size w W)=>kH z a v W (ha.on h) hv F);have hE:=zH (kH s b v w hb hv lb);have hL:=zH (λW (h:Below w.heap.size w W)=>Ph s b v W (hb.on h) hv lb);rw[C]at hE hL;obtain⟨Y,Z,rfl,G⟩:=hb.shape;have N:((b.length:Int)==0)=false:=by have:=List.length_pos_iff.2 q;simp;exact q
 have J:=rH a v;generalize hc:aN b v (n:Int)=c at *;generalize hd:aD a v=d at *;obtain⟨R,hR⟩:∃R,R=PN v n c b (d - n+1).toNat a:=⟨_,rfl⟩;rw[<-hR];replace hR:=zH hR;replace l:=zH l;replace ha:=zH ha;replace hb:=zH hb;clear hc hd C
 go_enter Tryz.func60,Tryz.ntmps60
 go_upto_region 4 with (first
  | (go_at_call 97;refine(hL.out w2 hb2).mono ?_;rintro e w3 ⟨v3,rfl,h3,hb3⟩)
  | (go_at_call 27;refine hE.out.mono ?_;rintro e w2 ⟨rfl,hb2⟩))
 have hb03:=hb2.trans (hb3.mono hb2.size)
 go_wp2_with (go_at_call 27;refine(hD.out w3 hb03).mono ?_;rintro e w4 ⟨rfl,hb4⟩)
 have hb04:=hb03.trans (hb4.mono hb03.size);have x:=zH (h3.on hb4);have hr0:=zH (ha.out.on hb04);have u:=zH (hb.out.on hb04);clear hD hE hL h3 hb2 hb3 hb4 hb03 ha hb
 go_loopw [10,11] (λX B wr=>∃(rest:List ai)(i:Nat)(o:Int),B=.int .i64 o/\Hid (ak wr X rest)/\Hid (LF v n c b i rest)/\Hid (R=PN v n c b i rest)/\(o-n+1).toNat=i/\-1<=o/\o<=d/\rest.length<=100000000/\Below w4.heap.size w4 wr) (λ_ B _=>(intOf B-n+1).toNat)
 case atStart=>exact⟨a,_,d,rfl,hr0,l,hR,rfl,oM,oM,F,Below.refl _ _⟩
 case round =>
  clear hr0 l hR;obtain⟨rest,i,o,rfl,hr,l,hR,hi,hk1,hk2,y,k⟩:=hrel;by_cases M:(n:Int)<=o
  ·obtain⟨j,r⟩:∃j:Nat,o=((n+j:Nat):Int):=⟨(o - n).toNat,oM⟩;obtain rfl:i=j+1:=oM;obtain⟨hj9,m1,m2,m3,p1,p2,m⟩:=l.out;have D:o - (n:Int)=(j:Int):=oM;have p:=hR.out;rw[PN]at p;replace p:=zH p;have hlr2:=m.len;replace r:=zH r;clear l hR
   go_wp2_with (first
    | (go_at_call 35;refine(UM p1 p2 (q5.on z6) q6).mono ?_;rintro e w7 ⟨v7,rfl,q7,z7⟩;have y7:=y6.trans (z7.mono y6.size))
    | (go_at_call 12;refine(Jd m3.wp m3.wq m3.ms m3.ti (q4.on z5) (u.out.on (k.trans (y5.mono k.size)))).mono ?_;rintro e w6 ⟨v6,rfl,q6,z6⟩;have y6:=y5.trans (z6.mono y5.size))
    | (go_at_call 12;refine(Jd m2.wp m2.wq m2.ms m2.ti (x.out.on (k.trans (y4.mono k.size))) (hr.out.on y4)).mono ?_;rintro e w5 ⟨v5,rfl,q5,z5⟩;have y5:=y4.trans (z5.mono y4.size))
    | (go_at_call 12;refine(Jd m1.wp m1.wq m1.ms m1.ti (q1.on (z2.trans (z3.mono z2.size))) q3).mono ?_;rintro e w14 ⟨v4,rfl,q4,z4⟩;have y4:=y3.trans (z4.mono y3.size))
    | (go_at_call 98;refine(Jp _ v j hv hj9 w12 q2).mono ?_;rintro e w13 ⟨S,rfl,q3,z3⟩;have y3:=y2.trans (z3.mono y2.size))
    | (go_at_call 37;refine(Cz v w11 hv).mono ?_;rintro e w12 ⟨v2,rfl,q2,z2⟩;have y2:=z1.trans (z2.mono z1.size))
    | (go_at_call 80;refine(wI _ rest v o wr hr.out hv y).mono ?_;rintro e w11 ⟨v1,rfl,q1,z1⟩;rw[r.out]at q1))
   go_roundw
   case rel=>exact⟨Df v n c b rest j,j,o-1,nM,zH q7,zH m,p,by have:=r.out;omega,oM,oM,hlr2,k.trans (y7.mono k.size)⟩
   case measure=>simp[intOf];omega
  ·obtain rfl:i=0:=oM;have hR0:R=rest:=hR.out;replace hR0:=zH hR0;go_wp2;go_ret2;exact⟨_,rfl,by rw[hR0.out];exact hr.out,hb04.trans (k.mono hb04.size)⟩
end Go.Proofs.YtopclbeomcggiaaGreat
end
