/- For MpolyCoefficients: sizes of coefficients and of what From puts together; a list of three polynomials. -/
import Derived.Test.YtopclbeomcggiaaGreatY27
import Derived.Test.YtopclbeomcggiaaGreatY28
set_option linter.unusedVariables false
set_option linter.unusedSimpArgs false
set_option maxHeartbeats 16000000
set_option maxRecDepth 100000
section
namespace Q
open Go Go.RowKit Go.Proofs.YtopclbeomcggiaaGreat
theorem SL{s:Sz}{p:List aj}(h:Bd s p)(v:Nat)(n:Int):Bd s (aR p v n):=by
 have i:Bd s (p.filter λt=>t.1.get v=n):=h.sub List.filter_sublist;refine⟨by unfold aR;rw[List.length_map];exact i.n,λt j=>?_,λt j=>?_,?_⟩
 ·obtain⟨u,hu,rfl⟩:=List.mem_map.1 j;have:=i.e u hu;rcases v with _|_|_|v<;>simp only[Ex.put]<;>omega
 ·obtain⟨u,hu,rfl⟩:=List.mem_map.1 j;exact i.d u hu
 ·have:bF (aR p v n)=bF (p.filter λt=>t.1.get v=n):=by
   unfold aR;generalize p.filter _=l
   induction l with
   | nil=>rfl
   | cons u l k=>simp only[List.map_cons,bF,k]
  rw[this];exact i.b
end Q
namespace Go.Proofs.YtopclbeomcggiaaGreat
open Go.RowKit Q
variable {w:World} {v u x:Value} {p q r:List aj}
theorem vZ{d:Option Addr}{n i j:Nat}{L:List (List aj)}{c:List aj}(h:jq w (.slice d n i) L)(l:L[j]?=some c):∃b off v,d=some ⟨b,off,none⟩/\ai w v c/\bL polyT w b (off+j*1) [v]:=by obtain⟨b,off,cs,e,-,⟨v,rfl,hv⟩,k⟩:=h.get l;exact⟨b,off,v,e,hv,k⟩
end Go.Proofs.YtopclbeomcggiaaGreat
end
section
namespace Q
open Go Go.Proofs.YtopclbeomcggiaaGreat
def zT:List aj->Nat
 | []=>1
 | t::l=>Nat.lcm t.2.den (zT l)
theorem qE:∀l,0<zT l
 | []=>Nat.one_pos
 | t::l=>Nat.lcm_pos t.2.den_pos (qE l)
theorem J8{l:List aj}{t:aj}(h:t∈l):t.2.den∣zT l:=by
 induction l with
 | nil=>cases h
 | cons s l b =>
  rcases List.mem_cons.1 h with rfl|h
  ·exact Nat.dvd_lcm_left _ _
  ·exact Nat.dvd_trans (b h) (Nat.dvd_lcm_right _ _)
theorem Ip(c:Rat):Dv c.den c:=by refine⟨c.num,?_⟩;have d:(c.den:Rat)≠0:=λh=>c.den_nz (by rw[<-iN]at h;have:=Rat.intCast_inj.1 (h.trans Rat.intCast_zero.symm);omega);have b:=Rat.num_divInt_den c;rw[Rat.divInt_eq_div,iN]at b;have e:(c.num:Rat)/(c.den:Rat)*(c.den:Rat)=c.num:=Rat.div_mul_cancel d;rwa[b]at e
def LB:Nat:=17179869184
theorem uq:LB=17179869184:=rfl
def XF (D B:Nat):Sz:=⟨D,B,100000,10000⟩
def SN (l:List aj):Nat:=(bF l).num.natAbs
def VQ (l:List aj):Bool :=
 decide (l.length<=10000)&&l.all (λt=>decide (-100000<=t.1.1)&&decide (t.1.1<=100000)&&decide (-100000<=t.1.2.1)&&decide (t.1.2.1<=100000)&&decide (-100000<=t.1.2.2.1)&&decide (t.1.2.2.1<=100000)&&decide (-100000<=t.1.2.2.2)&&decide (t.1.2.2.2<=100000))&&decide (aF (zT l)<=LB)&&decide (aF (SN l)<=LB)
theorem Xc{c:Rat}(h:0<=c):c<=(c.num.natAbs:Rat):=by
 obtain⟨k,l⟩:=Ip c
 have d:c*(c.den:Rat)=((c.num:Int):Rat):=by have d:(c.den:Rat)≠0:=λh=>c.den_nz (by rw[<-iN]at h;have:=Rat.intCast_inj.1 (h.trans Rat.intCast_zero.symm);omega);have b:=Rat.num_divInt_den c;rw[Rat.divInt_eq_div,iN]at b;have i:(c.num:Rat)/(c.den:Rat)*(c.den:Rat)=c.num:=Rat.div_mul_cancel d;rwa[b]at i
 have b:((c.num.natAbs:Nat):Rat)=((c.num:Int):Rat):=by have h0:=Rat.num_nonneg.2 h;rw[<-iN];congr 1;omega
 rw[b,<-d]
 have i:(1:Rat)<=(c.den:Rat):=by have e:(1:Rat)=((1:Nat):Rat):=rfl;rw[e];exact Rat.natCast_le_natCast.2 c.den_pos
 have j:=Rat.mul_le_mul_of_nonneg_left i h;rwa[Rat.mul_one]at j
theorem SQ{l:List aj}(h:VQ l=true):Bd (XF (zT l) (SN l)) l/\aF (zT l)<=LB/\aF (SN l)<=LB:=by
 simp only[VQ,Bool.and_eq_true,decide_eq_true_eq,List.all_eq_true]at h;obtain⟨⟨⟨p,q⟩,r⟩,s⟩:=h;refine⟨⟨p,λt b=>?_,λt b=>?_,Xc (mM l)⟩,r,s⟩
 ·obtain⟨⟨⟨⟨⟨⟨⟨d,e⟩,i⟩,j⟩,k⟩,m⟩,n⟩,o⟩:=q t b;exact⟨d,e,i,j,k,m,n,o⟩
 ·exact(Ip t.2).dvd (J8 b)
def DV (l:List aj):Bool:=Mi l&&VQ l
structure Wk (s:Sz) (p:List aj):Prop where
 v:bQ p
 b:Bd s p
 k:s.okw
def Wp (p:List aj):Prop:=∃D B,0<D/\aF D<=LB/\aF B<=LB/\Wk (XF D B) p
theorem MH{D B:Nat}(h:0<D)(b:aF D<=LB)(d:aF B<=LB):(XF D B).okw :=
 ⟨h,by show aF D<=_;rw[uq]at b;unfold jF;omega,by show aF B<=_;rw[uq]at d;unfold jF;omega,by show 100000<1000000;omega,by show 10000<=100000000;omega⟩
theorem Og{D b B d:Nat}(h:0<D)(i:aF D<=LB)(k:0<b)(k':aF b<=LB)(hb:aF B<=LB)(kb:aF d<=LB):((XF D B).mul (XF b d)).okw:=by
 have e1:=gL D b;have e:=gL B d;rw[uq]at *;refine⟨Nat.mul_pos h k,?_,?_,by show 100000+100000<1000000;omega,by show 10000*10000<=100000000;omega⟩
 ·show aF (D*b)<=_;unfold jF;omega
 ·show aF (B*d)<=_;unfold jF;omega
theorem kW{l:List aj}(h:DV l=true):Wp l:=by rw[DV,Bool.and_eq_true]at h;obtain⟨e,b,d⟩:=SQ h.2;exact⟨zT l,SN l,qE l,b,d,Dk.1 h.1,e,MH (qE l) b d⟩
theorem UV{l:List aj}(h:VQ l=true):UA l:=by obtain⟨b,d,e⟩:=SQ h;exact b.oklw (MH (qE l) d e)
theorem Iq:aF 1<=LB:=by rw[uq];decide
theorem Wp.nil:Wp []:=⟨1,1,oM,Iq,Iq,bQ.nil,Bd.nil _,MH oM Iq Iq⟩
theorem Wp.val{p:List aj}(h:Wp p):bQ p:=by obtain⟨_,_,_,_,_,h⟩:=h;exact h.v
theorem Wp.rk{p:List aj}(h:Wp p):∀t∈p,Rk t.2:=by obtain⟨_,_,_,_,_,h⟩:=h;exact h.b.rkw h.k
theorem Wp.ir{p:List aj}(h:Wp p):∀t∈p,InR t.1/\Rk t.2:=by obtain⟨_,_,_,_,_,h⟩:=h;exact λt d=>⟨h.b.inRw h.k t d,h.b.rkw h.k t d⟩
theorem Wp.len{p:List aj}(h:Wp p):p.length<=10000:=by obtain⟨_,_,_,_,_,h⟩:=h;exact h.b.n
theorem Wp.deg{p:List aj}(h:Wp p)(v:Nat):-1<=aD p v/\aD p v<=100000:=by
 obtain⟨_,_,_,_,_,h⟩:=h;refine⟨sG p v,?_⟩;rcases(gz (λt=>t.1.get v) p (-1)).2.2 with d|⟨t,i,d⟩
 ·show p.foldl _ _<=_;rw[d];omega
 ·show p.foldl _ _<=_;rw[<-d];have:=h.b.e t i;simp only[XF]at this;rcases v with _|_|_|v<;>simp only[Ex.get]<;>omega
theorem Wp.exps{p:List aj}(h:Wp p){t:aj}(b:t∈p)(v:Nat):0<=t.1.get v/\t.1.get v<=100000 :=
 ⟨Ex.nat_get (h.val.nat t b) v,Int.le_trans (dR b v) (h.deg v).2⟩
theorem Wp.mulOk{p q:List aj}(h:Wp p)(d:Wp q):RU p q:=by have i1:=h.ir;have i2:=d.ir;have l:=h.len;have l2:=d.len;obtain⟨D,B,d1,d2,d3,h⟩:=h;obtain⟨k,j,e1,e,i,d⟩:=d;exact⟨i1,i2,(h.b.prods d.b).oklw (Og d1 d2 e1 e d3 i),oM,oM⟩
theorem Wp.prod{p q:List aj}(h:Wp p)(d:Wp q):(∀t∈aZ p q,Rk t.2)/\(aZ p q).length<=100000000:=by obtain⟨D,B,d1,d2,d3,h⟩:=h;obtain⟨l,k,e1,i,j,d⟩:=d;have hb:=(h.b.prods d.b).canon;have e:=Og d1 d2 e1 i d3 j;exact⟨hb.rkw e,Nat.le_trans hb.n e.2.2.2.2⟩
theorem Wp.coeff{p:List aj}(h:Wp p)(v:Nat)(n:Int):Wp (aR p v n):=by obtain⟨D,B,d1,d2,d3,h⟩:=h;exact⟨D,B,d1,d2,d3,h.v.coeff v n,SL h.b v n,h.k⟩
theorem Wp.coeffs{p c:List aj}(h:Wp p){v:Nat}(hc:c∈aB p v):Wp c:=by obtain⟨n,rfl⟩:=fH hc;exact h.coeff v n
def g1 (p:List aj):Option (List aj):=if DV p then some p else none
theorem kG{p q:List aj}(h:g1 p=some q):q=p/\Wp p:=by
 unfold g1 at h;split at h
 ·cases h;exact⟨rfl,kW aM⟩
 ·cases h
def rW (b:List aj) (g:aj):Nat->List aj->List aj->Option (Option (List aj))
 | 0,_,_=>none
 | _+1,[],out=>some (some out)
 | n+1,m::a,out =>
  if DV (m::a)then
   if(m.1.sub g.1).nat then
    if DV [gQ m g]then rW b g n (gp (m::a) (aZ b [gQ m g])) (out++[gQ m g])else none
   else some none
  else none
theorem UW{m g:aj}(hm:∀v,0<=m.1.get v/\m.1.get v<=100000)(hg:∀v,0<=g.1.get v/\g.1.get v<=100000):InR (m.1.sub g.1):=by have b:=hm 0;have d:=hm 1;have e:=hm 2;have h:=hm 3;have b0:=hg 0;have b1:=hg 1;have i:=hg 2;have j:=hg 3;simp only[Ex.get]at *;exact InR.of (K:=100000) oM (by simp only[Ex.sub];omega)
theorem SS{b ts:List aj}{g:aj}(hb:Wp b)(hg:b=g::ts):∀{n:Nat}{a out:List aj}{r:Option (List aj)},rW b g n a out=some r->out.length+n<=100000000->∃k,zN b g k a out r:=by
 have d:g∈b:=by rw[hg];simp
 intro n
 induction n with
 | zero=>intro a out r h;simp[rW]at h
 | succ n l =>
  intro a out r h o
  cases a with
  | nil=>simp only[rW,sJ]at h;subst h;exact⟨0,.done⟩
  | cons m a =>
   rw[rW]at h;split at h
   next h1 =>
    have e:=kW h1;have i:NW b g m a:=⟨UW (λv=>e.exps sM v) (λv=>hb.exps d v),e.rk m sM,hb.rk g d,(hb.val.2 g d).1⟩;split at h
    next h2 =>
     split at h
     next h3 =>
      have hq:=kW h3;obtain⟨k,j⟩:=l h (by simp;omega);exact⟨k+1,.step h2 i ⟨hq.rk (gQ m g) sM,⟨hb.ir,by have:=hb.len;omega⟩,(hb.mulOk hq).ko,⟨e.rk,by have:=e.len;omega,e.val⟩,hb.prod hq⟩ oM j⟩
     next=>cases h
    next h2 =>
     simp only[sJ]at h;subst h;exact⟨0,.fail (by simpa using h2) i⟩
   next=>cases h
def fuel:Nat:=10000000
def zU (a b:List aj):Option (Option (List aj)):=match b with
 | []=>some none
 | g::_=>rW b g fuel a []
def gT (a b:List aj):Option (List aj):=match zU a b with
 | some r=>g1 (r.getD [])
 | none=>none
def MI (D:List (List aj)):Nat->List (List aj)->Bool
 | 0,_=>true
 | f+1,R=>if D.length-1<R.length then R.all DV&&MI D f (fZ D R)else true
theorem J9{D:List (List aj)}(j:∀c∈D,Wp c):∀{f:Nat}{R:List (List aj)},MI D f R=true->JU D f R
 | 0,_,_=>trivial
 | f+1,R,h=>λe=>by
  rw[MI,if_pos e,Bool.and_eq_true,List.all_eq_true]at h
  have d:∀i,Wp (R.getD i []):=λi=>by
   rcases Nat.lt_or_ge i R.length with hi|hi
   ·rw[jD,gE hi];exact kW (h.1 _ (List.getElem_mem hi))
   ·rw[jD,gN hi];exact Wp.nil
  have b:∀i,Wp (D.getD i []):=λi=>by
   rcases Nat.lt_or_ge i D.length with hi|hi
   ·rw[jD,gE hi];exact j _ (List.getElem_mem hi)
   ·rw[jD,gN hi];exact Wp.nil
  exact⟨λi _=>⟨(d _).mulOk (b _),λ_=>⟨(d _).mulOk (b _),((d _).prod (b _)).1,((d _).prod (b _)).1,⟨((d _).prod (b _)).2,((d _).prod (b _)).2⟩,bQ.mul _ _,bQ.mul _ _⟩⟩,J9 j h.2⟩
def Ub (a b:List aj) (v:Nat):Option (List aj) :=
 let D:=aB b v;let R:=aB a v;let r:=gH D R.length R
 if b≠[]/\MI D R.length R=true/\VQ (fromL v 0 r)=true/\r.all DV=true then g1 (uD r v)else none
def Ir:List aj:=[(e0,1)]
def mr (a:List aj):Option (List aj):=match a with
 | []=>some []
 | t::_=>g1 (bS a (1/t.2))
def lX (a:List aj):Bool:=match a with
 | [t]=>decide (t.1=e0)
 | _=>false
def ut (l:List (List aj)):Nat->Option Nat
 | 0=>none
 | v+1=>if l.any (λa=>decide (0<aD a v))then some v else ut l v
def SV (l:List (List aj)):Option Nat:=ut l 4
def vB (G:List aj->List aj->Option (List aj)):List aj->List (List aj)->Option (List aj)
 | acc,[]=>some acc
 | acc,a::l=>match G acc a with
  | none=>none
  | some g=>if lX g then some g else vB G g l
def ni (G:List aj->List aj->Option (List aj)) (a:List aj) (v:Nat):Option (List aj):=vB G [] (aB a v)
def lN (G:List aj->List aj->Option (List aj)) (a:List aj) (v:Nat):Option (List aj):=match a with
 | []=>some []
 | t::l=>match ni G (t::l) v with
  | none=>none
  | some c=>gT (t::l) c
def tX (m:aj) (v at_:Nat):Nat->Nat
 | 0=>eZ m.2.num*jN (eZ m.2.den) (pr-2)%pr
 | w+1=>if w=v then tX m v at_ w else tX m v at_ w*jN (at_+w) (m.1.get w).toNat%pr
def MJ (m:aj) (v at_:Nat):Nat:=tX m v at_ 4
def jJ (v at_:Nat):List aj->List Nat->Option (List Nat)
 | [],out=>some out
 | m::l,out=>if eZ m.2.den=0 then none else jJ v at_ l (out.set (m.1.get v).toNat ((out.getD (m.1.get v).toNat 0+MJ m v at_)%pr))
def ji (a:List aj) (v at_:Nat):Option (List Nat):=jJ v at_ a (List.replicate (aD a v+1).toNat 0)
def iQ (o:Option (List Nat)):Bool:=match o with
 | none=>false
 | some l=>decide (l.getD (l.length-1) 0≠0)
def strip:List Nat->List Nat
 | []=>[]
 | x::l=>match strip l with
  | []=>if x=0 then []else [x]
  | y::r=>x::y::r
def fJ (b rest:List Nat) (f at_:Nat):Nat->List Nat
 | 0=>rest
 | i+1=>(fJ b rest f at_ i).set (at_+i) (((fJ b rest f at_ i).getD (at_+i) 0+(pr-b.getD i 0)*f)%pr)
def lS (b:List Nat) (inv:Nat):Nat->List Nat->Option (List Nat)
 | 0,_=>none
 | n+1,r=>if b.length<=r.length then lS b inv n (strip (fJ b r (r.getD (r.length-1) 0*inv%pr) (r.length-b.length) b.length))else some r
def iO:Nat->List Nat->List Nat->Option Nat
 | 0,_,_=>none
 | n+1,a,b=>if b=[]then some a.length else match lS b (jN (b.getD (b.length-1) 0) (pr-2)) fuel a with
  | none=>none
  | some r=>iO n b r
def nQ (a b:List Nat):Option Nat:=if a.length<b.length then iO fuel b a else iO fuel a b
def kH (a b:List aj) (v:Nat):List Nat->Option Int
 | []=>some (min (aD a v) (aD b v))
 | k::l=>match ji a v (17+100*k),ji b v (17+100*k)with
  | some x,some y=>if iQ (some x)&&iQ (some y)then(nQ x y).map (λn=>(n:Int)-1)else kH a b v l
  | _,_=>kH a b v l
def zV (a b:List aj) (v:Nat):Option Int:=kH a b v [0,1,2]
def rX (G:List aj->List aj->Option (List aj)) (v:Nat):Nat->List aj->List aj->Option (List aj)
 | 0,_,_=>none
 | n+1,a,b=>match Ub a b v with
  | none=>none
  | some []=>some b
  | some (t::r)=>if aD (t::r) v=0 then some Ir else match lN G (t::r) v with
   | none=>none
   | some p=>match mr p with
    | none=>none
    | some q=>rX G v n b q
def Bf (G:List aj->List aj->Option (List aj)) (a b:List aj) (v:Nat):Option (List aj):=match zV a b v with
 | none=>none
 | some m=>if m=0 then some Ir else match zU a b with
  | none=>none
  | some r=>if r.isSome&&decide (m=aD b v)then some b else rX G v fuel a b
def EX (G:List aj->List aj->Option (List aj)) (a b:List aj) (v:Nat):Option (List aj):=if aD a v<aD b v then Bf G b a v else Bf G a b v
def dY {α β:Type} (a:Option α) (f:α->Option β):Option β:=match a with
 | none=>none
 | some x=>f x
def SX (G:List aj->List aj->Option (List aj)) (a b:List aj):Option (List aj) :=
 if a=[]then mr b else if b=[]then mr a else if lX a=true\/lX b=true then some Ir else
 dY (SV [a,b]) λv =>
  if aD b v=0 then dY (ni G a v) λc=>G c b
  else if aD a v=0 then dY (ni G b v) λc=>G a c
  else dY (ni G a v) λx=>dY (ni G b v) λy=>dY (G x y) λg=>dY (gT a x) λp=>dY (gT b y) λq=>dY (EX G p q v) λs=>dY (g1 (aZ g s)) mr
def Zv:Nat->List aj->List aj->Option (List aj)
 | 0,_,_=>none
 | n+1,a,b=>SX (Zv n) a b
def yK (G:List aj->List aj->Option (List aj)) (v:Nat):Nat->Nat->List aj->List aj->List (List aj × Nat)->Option (List (List aj × Nat))
 | 0,_,_,_,_=>none
 | f+1,n,w,y,out=>if 0<aD w v then
   dY (g1 (aS w v)) λd=>dY (g1 (gp y d)) λz=>dY (G w z) λg=>dY (gT w g) λw'=>dY (gT z g) λy' =>
    yK G v f (n+1) w' y' (if 0<aD g v then out++[(g,n)]else out)
  else some out
def VR (G:List aj->List aj->Option (List aj)) (a:List aj) (v:Nat):Option (List (List aj × Nat)) :=
 dY (lN G a v) λp=>if aD p v<1 then some []else
  dY (g1 (aS p v)) λd=>dY (G p d) λg=>dY (gT p g) λw=>dY (gT d g) λy=>yK G v fuel 1 w y []
end Q
end
section
namespace Q
open Go Go.RowKit Go.Proofs.YtopclbeomcggiaaGreat
def xN:El Nat where
 T:=yF
 sz:=1
 pos:=by decide
 E _ cs x:=cs=[.int .u64 (x:Int)]/\x<2147483647
 len:=by rintro w c t ⟨rfl,-⟩;rfl
 one:=by rintro w c t ⟨rfl,-⟩ v hv;simp only[List.mem_cons,List.not_mem_nil,or_false]at hv;subst hv;rfl
 on:=λh _=>h
 ok _:=True
 lr:=λh _ _=>h
 self:=trivial
def nc (l:List Nat):List Value:=l.map (λx:Nat=>Value.int .u64 (x:Int))
def EY (l:List Nat):Prop:=∀x∈l,x<2147483647
theorem MK(l:List Nat):(nc l).length=l.length:=by simp[nc]
theorem EY.nil:EY []:=λ_ h=>by cases h
theorem EY.getD{l:List Nat}(h:EY l)(i:Nat):l.getD i 0<2147483647:=by
 rcases Nat.lt_or_ge i l.length with hi|hi
 ·rw[jD,gE hi];exact h _ (List.getElem_mem hi)
 ·rw[jD,gN hi];decide
theorem EY.set{l:List Nat}(h:EY l)(i:Nat){x:Nat}(d:x<2147483647):EY (l.set i x):=λy b=>by
 rcases List.mem_or_eq_of_mem_set b with b|rfl
 ·exact h y b
 ·exact d
theorem EY.sub{l r:List Nat}(h:EY l)(b:∀x∈r,x∈l):EY r:=λx d=>h x (b x d)
theorem yL{w:World}:∀{l:List Nat}{d:List Value},eU xN.E w d l↔d=nc l/\EY l
 | [],d=>by
  constructor
  ·intro h;exact⟨h,EY.nil⟩
  ·rintro⟨h,-⟩;exact h
 | x::l,d=>by
  constructor
  ·rintro⟨c,r,rfl,⟨rfl,e⟩,h⟩;obtain⟨rfl,i⟩:=yL.1 h
   exact⟨rfl,λy b=>by
    rcases List.mem_cons.1 b with rfl|b
    ·exact e
    ·exact i y b⟩
  ·rintro⟨rfl,h⟩;exact⟨_,_,rfl,⟨rfl,h x sM⟩,yL.2 ⟨rfl,λy b=>h y (by simp[b])⟩⟩
theorem tY{w:World}{v:Value}{l:List Nat}:bV xN w v l↔∃b cap,v=.slice b l.length cap/\l.length<=cap/\At yF w b (nc l)/\EY l:=by
 constructor
 ·rintro⟨b,cap,j,rfl,d,e,h⟩;obtain⟨rfl,i⟩:=yL.1 h;exact⟨b,cap,rfl,d,e,i⟩
 ·rintro⟨b,cap,rfl,d,e,h⟩;exact⟨b,cap,nc l,rfl,d,e,yL.2 ⟨rfl,h⟩⟩
theorem ML(l:List Nat)(j:Nat)(b:j<l.length):(nc l)[j]?=some (Value.int .u64 ((l.getD j 0:Nat):Int)):=by rw[nc,List.getElem?_map,gE b,jD,gE b];rfl
theorem _root_.Go.RowKit.Blk.nsl{w:World}{g:Nat}{l:List Nat}(h:Blk w g yF (nc l))(b:EY l):bV xN w (.slice (some ⟨g,0,none⟩) l.length l.length) l :=
 tY.2 ⟨_,_,rfl,nL _,h.at,b⟩
theorem Blk.ncell{w:World}{g:Nat}{T:TypeId}{l:List Nat}(h:Blk w g T (nc l))(j:Nat)(b:j<l.length):w.cell? ⟨g,j,none⟩=some (.int .u64 ((l.getD j 0:Nat):Int)):=by rw[h.cell,ML _ _ b]
theorem bL.ncell{T:TypeId}{w:World}{b off:Nat}{l:List Nat}(h:bL T w b off (nc l))(j:Nat)(d:j<l.length):w.cell? ⟨b,off+j,none⟩=some (.int .u64 ((l.getD j 0:Nat):Int)):=by rw[h.cell j (by rw[MK];exact d),ML _ _ d]
theorem Blk.nset{w:World}{g:Nat}{T:TypeId}{l:List Nat}(h:Blk w g T (nc l))(j x:Nat):Blk (w.setCell ⟨g,j,none⟩ (.int .u64 (x:Int))) g T (nc (l.set j x)):=by have:=h.set j (.int .u64 (x:Int));rwa[show nc (l.set j x)=(nc l).set j (.int .u64 (x:Int)) by rw[nc,List.map_set];rfl]
theorem AQ(n:Nat):(List.replicate n (Value.int IntKind.u64 0).cells[0]!)=nc (List.replicate n 0):=by simp[nc,Value.cells]
theorem DW(x:Nat):x%pr<2147483647:=Nat.mod_lt _ dM
theorem Kc(n:Nat):EY (List.replicate n 0):=λx b=>by rw[List.eq_of_mem_replicate b];decide
end Q
namespace Go.Proofs.YtopclbeomcggiaaGreat
open Go.RowKit Q
theorem lL:(Tryz.prog.info? 97).map (λi=>(i.zero,i.size,i.bytes))=some (some (.int .u64 0),1,8):=kM
end Go.Proofs.YtopclbeomcggiaaGreat
end
section
namespace Q
open Go Go.RowKit Go.Proofs.YtopclbeomcggiaaGreat
theorem zW{v at_:Nat}:∀{a:List aj}{out o:List Nat},jJ v at_ a out=some o->o.length=out.length/\(EY out->EY o)
 | [],out,o,h=>by rw[jJ,sJ]at h;subst h;exact⟨rfl,λh=>h⟩
 | m::a,out,o,h=>by
  rw[jJ]at h;split at h
  ·cases h
  ·obtain⟨b,d⟩:=zW h;exact⟨by rw[b,List.length_set],λe=>d (e.set _ (DW _))⟩
theorem kX{P:Program}{w:World}{ops:Array Oper}{rest:List Oper}{o:Oper}{a:Act}{R:Exit->Act->World->Prop}(d:o.guard=none){t:TypeId}{x i:Operand}(k:o.op=.index t x i){v u r:Value}(l:a.eval x=v)(j:a.eval i=u)
  (b:(Instr.index t v u).run P w=.ok r w) (h:wpList P ops R rest (a.put o.dst r) w):wpList P ops R (o::rest) a w:=by
 refine wpList_plain d λK e=>?_;unfold Oper.wp
 have:(execOp a.eval o).run P w=.ok (.value r) w:=by unfold execOp;rw[k];simp[l,j,b,Result.andThen]
 rw[this];exact e _ _ h
end Q
namespace Go.Proofs.YtopclbeomcggiaaGreat
open Go.RowKit Q Go.WideMaps Go.Maps
theorem Ya(a b c d:Int)(w:World):(Instr.index 36 (.agg #[.int .i64 a,.int .i64 b,.int .i64 c,.int .i64 d]) (.int .i64 0)).run Tryz.prog w=.ok (.int .i64 a) w:=kM
theorem Yb(a b c d:Int)(w:World):(Instr.index 36 (.agg #[.int .i64 a,.int .i64 b,.int .i64 c,.int .i64 d]) (.int .i64 1)).run Tryz.prog w=.ok (.int .i64 b) w:=kM
theorem Yc(a b c d:Int)(w:World):(Instr.index 36 (.agg #[.int .i64 a,.int .i64 b,.int .i64 c,.int .i64 d]) (.int .i64 2)).run Tryz.prog w=.ok (.int .i64 c) w:=kM
theorem Yd(a b c d:Int)(w:World):(Instr.index 36 (.agg #[.int .i64 a,.int .i64 b,.int .i64 c,.int .i64 d]) (.int .i64 3)).run Tryz.prog w=.ok (.int .i64 d) w:=kM
def SY (w:World) (o:Option (List Nat)) (e:Ending) (w':World):Prop:=∃v,e=.returned (.tuple #[v,.bool (iQ o)])/\(∀l,o=some l->bV xN w' v l)/\Below w.heap.size w w'
theorem F7(va:Value)(a:List aj)(v at_:Nat)(w:World)(ha:ai w va a)(ka:Wp a)(hv:v<4)(N:a≠[])(b6:at_<=1000) :
  Calls Tryz.prog 118 #[va,.int .i64 v,.int .u64 at_] w (SY w (ji a v at_)):=by
 have Z:=kD va a v w ha hv (by have:=ka.len;omega);have hd2:=(ka.deg v).2
 have a0:∀t∈a,0<=t.1.get v/\(t.1.get v).toNat<(aD a v+1).toNat:=λt ht=>by have h1:=(ka.exps ht v).1;have h2:=dR ht v;omega
 have hd0:0<=aD a v:=by obtain⟨t,ht⟩:=List.exists_mem_of_ne_nil _ N;have:=a0 t ht;omega
 obtain⟨D,hD⟩:∃D:Nat,aD a v=D:=⟨(aD a v).toNat,oM⟩;have a8:ji a v at_=jJ v at_ a (List.replicate (D+1) 0):=by rw[ji,hD];congr 1
 rw[a8];clear a8;obtain⟨L,hR⟩:∃L,L=jJ v at_ a (List.replicate (D+1) 0):=⟨_,rfl⟩;rw[<-hR];rw[hD]at Z a0 hd2;have a9:∀t∈a,0<=t.1.get v/\(t.1.get v).toNat<D+1:=λt ht=>by have:=a0 t ht;omega
 have hD2:D<=100000:=oM;have p:=λt (ht:t∈a) u=>ka.exps ht u;have ap:=ka.rk;have b5:a.length<=10000:=ka.len;obtain⟨aa,ca,rfl,b7⟩:=ha.shape;replace hR:=zH hR;replace a0:=zH a9;replace p:=zH p;replace ap:=zH ap;replace ha:=zH ha;have hv4:(v:Int)<4:=oM;clear a9 N ka hd0 hD
 go_enter Tryz.func118,Tryz.ntmps118
 go_wp2_with (first
  | (go_at_call 53;refine Z.mono ?_;rintro en w1 ⟨rfl,hb1⟩)
  | (at_make;refine bN rfl _ _ _ rfl _ (.int .u64 0) 1 8 Tryz.underlying94 lL rfl rfl .i64 .i64 _ _ (D+1) rfl rfl oM oM oM oM ?_;intro w2 own2 gr2))
 rw[AQ]at own2;have av:=hb1.size;have aw:w.heap.size<=w1.heap.size:=av;generalize hg:w1.heap.size=g at *;have hb12:=hb1.trans (gr2.mono av);have ag:Hid (Blk w2 g yF (nc (List.replicate (D+1) 0))):=zH own2;clear own2 gr2 hb1 hg
 go_loopw [22] (λi wr=>∃(k:Nat)(out:List Nat),k<=a.length/\i=.int .i64 k/\Hid (Blk wr g yF (nc out))/\out.length=D+1/\Hid (EY out)/\Hid (L=jJ v at_ (a.drop k) out)/\Below w.heap.size w wr) (λi _=>a.length-(intOf i).toNat)
 case atStart=>exact⟨0,_,oM,rfl,ag,sM,zH (Kc _),zH hR.out,hb12⟩
 case round =>
  clear ag hb12 hR;obtain⟨k,out,hk,rfl,hO,ao,al,hR,F⟩:=hrel;by_cases a5:k<a.length
  ·have au:a[k]?=some a[k]:=gE a5;have hR2:=hR.out;rw[List.drop_eq_getElem_cons a5]at hR2;have o:=List.getElem_mem a5;generalize a[k]=t at *;obtain⟨bq,oq,rt,e1,a4,hC⟩:=fI (ha.out.on F) au;have hx0:=p.out t o 0;have hx1:=p.out t o 1;have hx2:=p.out t o 2;have hx3:=p.out t o 3;have a6:=a0.out t o;have a3:=ap.out t o;obtain⟨⟨z0,z1,z2,z3⟩,q⟩:=t;simp only[Ex.get]at hx0 hx1 hx2 hx3;obtain⟨n0,rfl⟩:=Int.eq_ofNat_of_zero_le hx0.1;obtain⟨n1,rfl⟩:=Int.eq_ofNat_of_zero_le hx1.1;obtain⟨n2,rfl⟩:=Int.eq_ofNat_of_zero_le hx2.1;obtain⟨n3,rfl⟩:=Int.eq_ofNat_of_zero_le hx3.1;obtain⟨n,J⟩:∃n:Nat,Ex.get ((n0:Int),(n1:Int),(n2:Int),(n3:Int)) v=(n:Int):=⟨_,(Int.toNat_of_nonneg a6.1).symm⟩;rw[J]at a6;have hnvl:n<D+1:=by simpa using a6.2
   have b2:(k:Int)<(a.length:Int):=oM;have hr:=hC.range;have h8:(bD ((n0:Int),(n1:Int),(n2:Int),(n3:Int))++rt).length=8:=by rw[List.length_append,a4.len];rfl
   have ax:=a4.len;subst e1;replace hR2:=zH hR2;clear hR au o a6 Z
   go_upto_region 5 with (first
    | (refine ak rfl _ _ 27 rfl aJ Tryz.underlying27 _ 8 96 kM _ _ _ rfl .i64 _ rfl k rfl a5 bq oq rfl ?_)
    | (refine wpList_load_mid rfl 43 _ rfl _ _ rfl _ _ hr Tryz.underlying43 rfl (by rw[h8];kernel_rfl) ?_)
    | (refine az rfl _ (.tmp 10) (.tmp 25) rfl _ _ _ _ rfl rfl (Blk.new wr aJ [.int .i64 0,.int .i64 0,.int .i64 0,.int .i64 0,.bool false,.slice none 0 0,.bool false,.slice none 0 0]) (by simp[bD,ax]) (by simp only[List.size_toArray,h8];exact zJ) (Dl a4) ?_;intro W3 R3 gr3))
   have hE:bD ((n0:Int),(n1:Int),(n2:Int),(n3:Int))=[.int .i64 n0,.int .i64 n1,.int .i64 n2,.int .i64 n3]:=rfl;have S:Blk W3 wr.heap.size aJ (bD ((n0:Int),(n1:Int),(n2:Int),(n3:Int))++rt):=by simpa using R3
   have ar:Below wr.heap.size wr (wr.alloc (.cells #[.int .i64 0,.int .i64 0,.int .i64 0,.int .i64 0,.bool false,.slice none 0 0,.bool false,.slice none 0 0] aJ)):=(Below.refl _ _).alloc (nL _) _;have hb3:Below wr.heap.size wr W3:=ar.trans (aH gr3 sM (nL _));have hbr3:=F.trans (hb3.mono F.size);have hO3:=hO.out.on hb3;have hrt3:=a4.on hb3;have b8:g<wr.heap.size:=hO.out.lt;have b9:w.heap.size<=wr.heap.size:=F.size;clear hr R3 gr3 ar hb3 hC a4 F hO h8;generalize wr.heap.size=mb at *;obtain⟨N1,A1,K1,C1,N2,A2,K2,C2,rfl,i1,i2⟩:=hrt3;simp only at i1 i2 a3;rw[hE]at S;have y0:=S.at1 0 _ rfl;have y1:=S.at1 1 _ rfl;have y2:=S.at1 2 _ rfl;have y3:=S.at1 3 _ rfl;have y4:=S.at1 4 _ rfl;have y5:=S.at1 5 _ rfl;have y6:=S.at1 6 _ rfl;have y7:=S.at1 7 _ rfl;have G:=AO _ _ _ W3 i2 a3.den';have hR3:=hR2.out;rw[jJ]at hR3;clear hR2;have hdl9:=qC (q.den:Int);by_cases hz:eZ (q.den:Int)=0
   ·rw[if_pos hz]at hR3;rw[hz]at G;replace hR3:=zH hR3;clear hz hdl9
    go_wp2_with (go_at_call 136;refine G.mono ?_;rintro en w4 ⟨rfl,hb4⟩)
    go_ret2;exact⟨_,by rw[hR3.out];rfl,(λl hl=>by rw[hR3.out]at hl;cases hl),hbr3.trans (hb4.mono hbr3.size)⟩
   ·rw[if_neg hz]at hR3;have I:=λW (hb:Below W3.heap.size W3 W)=>AO _ _ _ W (i1.on hb) a3.num';have a7:=λW=>zF (eZ (q.den:Int)) 2147483645 W oM oM;have ay:=qC q.num;have hX0:tX (((n0:Int),(n1:Int),(n2:Int),(n3:Int)),q) v at_ 0=eZ q.num*jN (eZ (q.den:Int)) 2147483645%pr:=rfl;have a2:=vT (eZ (q.den:Int)) 2147483645;rw[jI]at a2;generalize hdd:eZ (q.den:Int)=d at *;generalize eZ q.num=nn at *;generalize jN d 2147483645=pp at *;have b0:((d:Int)==0)=false:=by simp;omega
    have aE:nn*pp<=2147483647*2147483647:=Nat.mul_le_mul oM oM;obtain⟨X0,hX⟩:∃X0,X0=nn*pp%2147483647:=⟨_,rfl⟩;have aq:((nn:Int)*(pp:Int))%2147483647=(X0:Int):=by rw[hX];simp
    rw[jI,<-hX]at hX0;have B:X0<2147483647:=by rw[hX];exact Nat.mod_lt _ dM
    replace hX0:=zH hX0;replace hR3:=zH hR3;replace I:=zH I;replace a7:=zH a7;clear hX hdd hz ay a2 hdl9
    go_upto_region 8 with (go_at_call 136;refine G.mono ?_;rintro en w4 ⟨rfl,hb4⟩)
    have BB4:=S.on hb4;replace y4:=BB4.at1 4 _ rfl;replace y5:=BB4.at1 5 _ rfl
    go_upto_region 9 with (first
     | (go_at_call 136;refine(I.out _ hb4).mono ?_;rintro en w5 ⟨rfl,hb5⟩)
     | (go_at_call 137;refine(a7.out _).mono ?_;rintro en w6 ⟨rfl,hb6⟩))
    have hb46:=hb4.trans ((hb5.trans (hb6.mono hb5.size)).mono hb4.size);have BB6:=S.on hb46;have hO6:=zH (hO3.on hb46);have hbr6:=hbr3.trans (hb46.mono hbr3.size);replace y0:=BB6.at1 0 _ rfl;replace y1:=BB6.at1 1 _ rfl;replace y2:=BB6.at1 2 _ rfl;replace y3:=BB6.at1 3 _ rfl;have ad:=zH BB6;clear S BB4 BB6 hb4 hb5 hb6 hb46 y4 y5 y6 y7 hO3 hbr3 i1 i2 G I a7;go_wp2
    go_loopw [12,42] (λx i wz=>∃u X:Nat,u<=4/\x=.int .u64 X/\i=.int .i64 u/\X<2147483647/\Hid (tX (((n0:Int),(n1:Int),(n2:Int),(n3:Int)),q) v at_ u=X)/\Hid (Blk wz mb aJ ([.int .i64 n0,.int .i64 n1,.int .i64 n2,.int .i64 n3]++[.bool N1,.slice A1 K1 C1,.bool N2,.slice A2 K2 C2]))/\Hid (Blk wz g yF (nc out))/\Below w.heap.size w wz) (λ_ i _=>4-(intOf i).toNat)
    case atStart=>exact⟨0,X0,oM,by rw[aq],nM,B,hX0,ad,hO6,hbr6⟩
    case round =>
     clear ad hO6 hbr6 hX0 B aE aq;obtain⟨u,X,hu,rfl,rfl,B,hX,hB,hO,b⟩:=hrel;by_cases hu4:u<4
     ·have s:∀W,Calls Tryz.prog 137 #[.int .u64 ((at_:Int)+(u:Int)),.int .i64 (Ex.get ((n0:Int),(n1:Int),(n2:Int),(n3:Int)) u)] W (pX W (.int .u64 (jN (at_+u) (Ex.get ((n0:Int),(n1:Int),(n2:Int),(n3:Int)) u).toNat))):=λW=>by
       have h1:0<=Ex.get ((n0:Int),(n1:Int),(n2:Int),(n3:Int)) u/\Ex.get ((n0:Int),(n1:Int),(n2:Int),(n3:Int)) u<=100000:=by
        obtain rfl|rfl|rfl|rfl:u=0\/u=1\/u=2\/u=3:=oM
        all_goals (simp only[Ex.get];omega)
       have h2:=zF (at_+u) (Ex.get ((n0:Int),(n1:Int),(n2:Int),(n3:Int)) u).toNat W oM oM;rw[Int.toNat_of_nonneg h1.1,Int.natCast_add]at h2;exact h2
      have a2:=vT (at_+u) (Ex.get ((n0:Int),(n1:Int),(n2:Int),(n3:Int)) u).toNat;rw[jI]at a2;by_cases m:u=v
      ·have z:Hid (tX (((n0:Int),(n1:Int),(n2:Int),(n3:Int)),q) v at_ (u+1)=X):=zH (by rw[tX,if_pos m];exact hX.out);clear s a2 hX;obtain rfl|rfl|rfl|rfl:u=0\/u=1\/u=2\/u=3:=oM
       ·have k1:((0:Int)=(v:Int))=True:=eq_true oM;have k2:((v:Int)=(0:Int))=True:=eq_true oM;have k3:(v=0)=True:=eq_true oM;have k4:((0:Nat)=v)=True:=eq_true oM;have k5:((0:Int)==(v:Int))=true:=by simp only[beq_iff_eq];omega
        clear m
        go_wp2_with (refine kX rfl rfl rfl rfl (Ya _ _ _ _ _) ?_)
        go_roundw
        case rel=>exact⟨1,X,oM,rfl,nM,B,z,hB,hO,b⟩
        case measure=>simp[intOf]
       ·have k1:((1:Int)=(v:Int))=True:=eq_true oM;have k2:((v:Int)=(1:Int))=True:=eq_true oM;have k3:(v=1)=True:=eq_true oM;have k4:((1:Nat)=v)=True:=eq_true oM;have k5:((1:Int)==(v:Int))=true:=by simp only[beq_iff_eq];omega
        clear m
        go_wp2_with (refine kX rfl rfl rfl rfl (Yb _ _ _ _ _) ?_)
        go_roundw
        case rel=>exact⟨2,X,oM,rfl,nM,B,z,hB,hO,b⟩
        case measure=>simp[intOf]
       ·have k1:((2:Int)=(v:Int))=True:=eq_true oM;have k2:((v:Int)=(2:Int))=True:=eq_true oM;have k3:(v=2)=True:=eq_true oM;have k4:((2:Nat)=v)=True:=eq_true oM;have k5:((2:Int)==(v:Int))=true:=by simp only[beq_iff_eq];omega
        clear m
        go_wp2_with (refine kX rfl rfl rfl rfl (Yc _ _ _ _ _) ?_)
        go_roundw
        case rel=>exact⟨3,X,oM,rfl,nM,B,z,hB,hO,b⟩
        case measure=>simp[intOf]
       ·have k1:((3:Int)=(v:Int))=True:=eq_true oM;have k2:((v:Int)=(3:Int))=True:=eq_true oM;have k3:(v=3)=True:=eq_true oM;have k4:((3:Nat)=v)=True:=eq_true oM;have k5:((3:Int)==(v:Int))=true:=by simp only[beq_iff_eq];omega
        clear m
        go_wp2_with (refine kX rfl rfl rfl rfl (Yd _ _ _ _ _) ?_)
        go_roundw
        case rel=>exact⟨4,X,oM,rfl,nM,B,z,hB,hO,b⟩
        case measure=>simp[intOf]
      ·obtain⟨Y,hY⟩:∃Y,Y=X*jN (at_+u) (Ex.get ((n0:Int),(n1:Int),(n2:Int),(n3:Int)) u).toNat%2147483647:=⟨_,rfl⟩;have z:Hid (tX (((n0:Int),(n1:Int),(n2:Int),(n3:Int)),q) v at_ (u+1)=Y):=zH (by rw[tX,if_neg m,hX.out,hY];rfl);generalize jN (at_+u) (Ex.get ((n0:Int),(n1:Int),(n2:Int),(n3:Int)) u).toNat=pw at *;have M:Y<2147483647:=by rw[hY];exact Nat.mod_lt _ dM
       have C:Hid (((X:Int)*(pw:Int))%2147483647=(Y:Int)):=zH (by rw[hY];simp);have b4:X*pw<=2147483647*2147483647:=Nat.mul_le_mul oM oM;clear hX hY;obtain rfl|rfl|rfl|rfl:u=0\/u=1\/u=2\/u=3:=oM
       ·simp only[Ex.get]at s;have N:¬v=0:=λh=>m h.symm;have hne2:¬(0:Int)=(v:Int):=oM;have hne3:¬(0:Nat)=v:=m
        go_wp2_with (first
         | (refine kX rfl rfl rfl rfl (Ya _ _ _ _ _) ?_)
         | (go_at_call 137;refine(s _).mono ?_;rintro en w7 ⟨rfl,hb7⟩))
        go_roundw
        case rel=>exact⟨1,Y,oM,by rw[<-C.out],nM,M,z,zH (hB.out.on hb7),zH (hO.out.on hb7),b.trans (hb7.mono b.size)⟩
        case measure=>simp[intOf]
       ·simp only[Ex.get]at s;have N:¬v=1:=λh=>m h.symm;have hne2:¬(1:Int)=(v:Int):=oM;have hne3:¬(1:Nat)=v:=m
        go_wp2_with (first
         | (refine kX rfl rfl rfl rfl (Yb _ _ _ _ _) ?_)
         | (go_at_call 137;refine(s _).mono ?_;rintro en w7 ⟨rfl,hb7⟩))
        go_roundw
        case rel=>exact⟨2,Y,oM,by rw[<-C.out],nM,M,z,zH (hB.out.on hb7),zH (hO.out.on hb7),b.trans (hb7.mono b.size)⟩
        case measure=>simp[intOf]
       ·simp only[Ex.get]at s;have N:¬v=2:=λh=>m h.symm;have hne2:¬(2:Int)=(v:Int):=oM;have hne3:¬(2:Nat)=v:=m
        go_wp2_with (first
         | (refine kX rfl rfl rfl rfl (Yc _ _ _ _ _) ?_)
         | (go_at_call 137;refine(s _).mono ?_;rintro en w7 ⟨rfl,hb7⟩))
        go_roundw
        case rel=>exact⟨3,Y,oM,by rw[<-C.out],nM,M,z,zH (hB.out.on hb7),zH (hO.out.on hb7),b.trans (hb7.mono b.size)⟩
        case measure=>simp[intOf]
       ·simp only[Ex.get]at s;have N:¬v=3:=λh=>m h.symm;have hne2:¬(3:Int)=(v:Int):=oM;have hne3:¬(3:Nat)=v:=m
        go_wp2_with (first
         | (refine kX rfl rfl rfl rfl (Yd _ _ _ _ _) ?_)
         | (go_at_call 137;refine(s _).mono ?_;rintro en w7 ⟨rfl,hb7⟩))
        go_roundw
        case rel=>exact⟨4,Y,oM,by rw[<-C.out],nM,M,z,zH (hB.out.on hb7),zH (hO.out.on hb7),b.trans (hb7.mono b.size)⟩
        case measure=>simp[intOf]
     ·obtain rfl:u=4:=oM;have hB4:=hB.out;have hO4:=hO.out;have hg4:g<wr.heap.size:=hO4.lt;have hmb4:mb<wr.heap.size:=hB4.lt
      have a1:∀W,Below wr.heap.size wr W->W.cell? ⟨mb,v,none⟩=some (.int .i64 n):=λW hb=>by have h1:=H9 ((n0:Int),(n1:Int),(n2:Int),(n3:Int)) v hv;rw[J]at h1;refine(hB4.on hb).at1 v _ ?_;rw[List.getElem?_append_left (by show v<4;exact hv)];exact h1
      have r:∀W,Below wr.heap.size wr W->W.cell? ⟨g,n,none⟩=some (.int .u64 ((out.getD n 0:Nat):Int)):=λW hb=>(hO4.on hb).ncell n oM;have hol2:=al.out.getD n;have ac:(Ex.get ((n0:Int),(n1:Int),(n2:Int),(n3:Int)) v).toNat=n:=by rw[J];rfl
      obtain⟨Y,hY⟩:∃Y,Y=(out.getD n 0+X)%2147483647:=⟨_,rfl⟩
      have hR4:Hid (L=jJ v at_ (a.drop (k+1)) (out.set n Y)):=zH (by
       rw[hR3.out,hY];simp only[ac]
       rw[MJ,hX.out];rfl)
      generalize out.getD n 0=y at *;have M:Y<2147483647:=by rw[hY];exact Nat.mod_lt _ dM
      have C:Hid (((y:Int)+(X:Int))%2147483647=(Y:Int)):=zH (by rw[hY];simp);replace a1:=zH a1;replace r:=zH r;have hol3:(out.set n Y).length=D+1:=by rw[List.length_set];exact ao
      have hLo2:=zH (al.out.set n M);clear hX hY ac hR3 J
      go_upto_region 15 with (fail)
      refine aC mixed (none) (0) (fM.none) [.eq (.slice (some ⟨g,0,none⟩) (D+1) (D+1)),.eq (.int .i64 v),.eq (.pointer (some ⟨mb,0,none⟩)),.eq (.pointer (some ⟨mb,v,none⟩)),.eq (.int .i64 n),.eq (.slice (some ⟨g,0,none⟩) (D+1) (D+1)),.eq (.int .i64 v),.eq (.pointer (some ⟨mb,0,none⟩)),.eq (.pointer (some ⟨mb,v,none⟩)),.eq (.int .i64 n),.eq (.pointer (some ⟨g,0+n*1,none⟩)),.eq (.int .u64 y),.eq (.int .u64 X),.eq (.int .u64 ((y:Int)+(X:Int))),.eq (.int .u64 (((y:Int)+(X:Int))%2147483647)),.eq (.pointer (some ⟨g,0+n*1,none⟩))] [59,60,61,62,63,64,65,66,67,68,69,70,71,72,73,74] rfl rfl rfl rfl ⟨λ_ _ a _ _ _=>xM rfl (a 8 rfl),λ_ _ a _ _ _=>xM rfl (a 1 rfl),λA _ hA _ _ _=>have h10:A.eval (.tmp 10)=.pointer (some ⟨mb,0,none⟩):=hA 10 rfl;pZ rfl,λA _ _ _ _ he=>have h61:=eT 61 (he.1 rfl);have h60:=eT 60 (he.2.1 rfl);pZ rfl,?_,λ_ _ a _ _ _=>xM rfl (a 8 rfl),λ_ _ a _ _ _=>xM rfl (a 1 rfl),λA _ hA _ _ _=>have h10:A.eval (.tmp 10)=.pointer (some ⟨mb,0,none⟩):=hA 10 rfl;pZ rfl,λA _ _ _ _ he=>have h66:=eT 66 (he.1 rfl);have h65:=eT 65 (he.2.1 rfl);pZ rfl,?_,λ_ _ _ _ _ e=>pI rfl Tryz.underlying94 g 0 n (hnvl) (e.1 rfl) (e.2.1 rfl),?_,λ_ _ a _ _ _=>xM rfl (a 12 rfl),?_,?_,λ_ _ _ _ _ e=>pI rfl Tryz.underlying94 g 0 n (hnvl) (e.1 rfl) (e.2.1 rfl),trivial⟩ ?_
      ·intro A w1 hA hL hS he;have h62:=eT 62 (he.1 rfl);refine ae rfl ?_;have c0:=a1.out w1 hL.below;exact aA rfl rfl gZ
      ·intro A w1 hA hL hS he;have h67:=eT 67 (he.1 rfl);refine ae rfl ?_;have c0:=a1.out w1 hL.below;exact aA rfl rfl gZ
      ·intro A w1 hA hL hS he;have h69:=eT 69 (he.1 rfl);refine ae rfl ?_;have c0:=r.out w1 hL.below;exact aA rfl rfl gZ
      ·intro A w1 hA hL hS he;have h70:=eT 70 (he.1 rfl);have h71:=eT 71 (he.2.1 rfl);refine ae rfl (aA rfl rfl ?_);generalize A.eval=ev at *;go_simp
       (have hw:=IntKind.wrap_u64 ((y:Int)+(X:Int));omega)
      ·intro A w1 hA hL hS he;have h72:=eT 72 (he.1 rfl);have hc0:=eC A (.int .u64 2147483647);refine ae rfl (aA rfl rfl ?_);generalize A.eval=ev at *;go_simp;exact Int.tmod_eq_emod_of_nonneg oM
      ·intro W5 hL5;have hb5:=hL5.below;simp only[aU,af.eq,lZ];go_frame;have hO5:=hO4.on hb5;have z5:=hO5.ncell n oM;have f5:=hO5.frozen n;have hO6:=zH (hO5.nset n Y);have hb6:=b.trans ((hb5.mono b.size).trans (bI (W:=W5) (g:=g) (j:=n) aw (.int .u64 (Y:Int))));clear a1 r hL5 hB4 hO4 hB hO hO5 hb5;go_wp2;go_roundw
       case rel=>exact⟨k+1,out.set n Y,oM,nM,by rw[C.out];exact hO6,hol3,hLo2,hR4,by rw[C.out];exact hb6⟩
       case measure=>simp[intOf];omega
  ·obtain rfl:k=a.length:=oM;have ab:Hid (L=some out):=zH (by rw[hR.out,List.drop_of_length_le (nL _)];rfl);have hO4:=hO.out;have hg4:g<wr.heap.size:=hO4.lt;have r:∀W,Below wr.heap.size wr W->W.cell? ⟨g,D,none⟩=some (.int .u64 ((out.getD D 0:Nat):Int)):=λW hb=>(hO4.on hb).ncell D oM
   have an:Hid (iQ L=decide (¬((out.getD D 0:Nat):Int)=0)):=zH (by
    rw[ab.out];show decide (out.getD (out.length-1) 0≠0)=_;rw[ao,Nat.add_sub_cancel];refine decide_eq_decide.2 ?_;constructor
    ·intro h h';exact h oM
    ·intro h h';exact h oM)
   have b3:((D:Int)+1-1)=D:=oM;have hw1:=mJ (x:=(D:Int)+1) oM oM;have hw2:=mJ (x:=(D:Int)) oM oM;replace r:=zH r;generalize out.getD D 0=y at *
   go_upto_region 17 with (fail)
   refine aC mixed (none) (0) (fM.none) [.eq (.slice (some ⟨g,0,none⟩) (D+1) (D+1)),.eq (.slice (some ⟨g,0,none⟩) (D+1) (D+1)),.eq (.slice (some ⟨g,0,none⟩) (D+1) (D+1)),.eq (.int .i64 (D+1)),.eq (.int .i64 D),.eq (.pointer (some ⟨g,0+D*1,none⟩)),.eq (.int .u64 y),.eq (.bool (decide (¬(y:Int)=0))),.eq (.slice (some ⟨g,0,none⟩) (D+1) (D+1))] [76,77,78,79,80,81,82,83,6] rfl rfl rfl rfl ⟨λ_ _ a _ _ _=>xM rfl (a 8 rfl),λ_ _ a _ _ _=>xM rfl (a 8 rfl),λ_ _ a _ _ _=>xM rfl (a 8 rfl),λA _ _ _ _ he=>have h78:=eT 78 (he.1 rfl);pZ rfl,λA _ _ _ _ he=>have h79:=eT 79 (he.1 rfl);have hc0:=eC A (.int .i64 1);pZ rfl,λ_ _ _ _ _ e=>pI rfl Tryz.underlying94 g 0 D oM (e.1 rfl) (e.2.1 rfl),?_,?_,λA _ _ _ _ he=>have h76:=eT 76 (he.1 rfl);pZ rfl,trivial⟩ ?_
   ·intro A w1 hA hL hS he;have h81:=eT 81 (he.1 rfl);refine ae rfl ?_;have c0:=r.out w1 hL.below;exact aA rfl rfl gZ
   ·intro A w1 hA hL hS he;have h82:=eT 82 (he.1 rfl);have hc0:=eC A (.int .u64 0);refine ae rfl (aA rfl rfl ?_);generalize A.eval=ev at *;go_simp
    (by_cases h9:y=0<;>simp[h9])
   ·intro W5 hL5;have hb5:=hL5.below;simp only[aU,af.eq,lZ];go_frame;have hO5:=hO4.on hb5;have hS:=Go.RowKit.Blk.nsl hO5 al.out;rw[ao]at hS;clear r hL5 hO4;go_wp2;go_ret2;exact⟨_,by rw[an.out];rfl,λl hl=>by rw[ab.out]at hl;cases hl;exact hS,F.trans (hb5.mono F.size)⟩
end Go.Proofs.YtopclbeomcggiaaGreat
end
section
namespace Q
open Go Go.RowKit Go.Proofs.YtopclbeomcggiaaGreat
def zX (base:Nat) (w:World) (v:Value) (l:List Nat):Prop :=
 ∃ao cap,v=.slice ao l.length cap/\l.length<=cap/\EY l/\(0<l.length->∃g cs,ao=some ⟨g,0,none⟩/\base<=g/\Blk w g yF cs/\cs.take l.length=nc l)
theorem zX.of{base:Nat}{w:World}{v:Value}{l:List Nat}(h:di xN base w v l):zX base w v l:=by
 obtain⟨p,⟨o,d⟩,hex⟩:=h;obtain⟨rfl,k⟩:=yL.1 hex;rcases d with ⟨rfl,h0⟩|⟨g,cap,b,rfl,e,hg,i,m,n,j⟩
 ·obtain rfl:l=[]:=List.eq_nil_of_length_eq_zero h0;exact⟨none,0,rfl,nL _,k,λh=>by simp at h⟩
 ·refine⟨_,cap,rfl,i,k,λ_=>⟨g,b.toList,rfl,e,by unfold Blk;rw[Array.toArray_toList];exact hg,?_⟩⟩;have:b.toList.take (l.length*1)=nc l:=j;rwa[nU]at this
theorem zX.on{base:Nat}{w w':World}{v:Value}{l:List Nat}(h:zX base w v l)(hb:Below w.heap.size w w'):zX base w' v l:=by obtain⟨b,cap,d,i,j,k⟩:=h;refine⟨b,cap,d,i,j,λhp=>?_⟩;obtain⟨g,cs,e,hg,m,n⟩:=k hp;exact⟨g,cs,e,hg,m.on hb,n⟩
theorem zX.isSl{base:Nat}{w:World}{v:Value}{l:List Nat}(h:zX base w v l):bV xN w v l:=by obtain⟨b,cap,d,i,j,k⟩:=h;refine tY.2 ⟨b,cap,d,i,λhp=>?_,j⟩;obtain⟨g,cs,e,hg,m,n⟩:=k (by rw[MK]at hp;exact hp);refine⟨g,0,e,?_⟩;rw[<-n];exact m.cells.take _
theorem zX.open{base:Nat}{w:World}{v:Value}{l:List Nat}(h:zX base w v l)(hp:0<l.length) :
  ∃g cap,v=.slice (some ⟨g,0,none⟩) l.length cap/\l.length<=cap/\base<=g/\g<w.heap.size/\(∀j,j<l.length->w.cell? ⟨g,j,none⟩=some (.int .u64 ((l.getD j 0:Nat):Int)))/\(∀j,w.frozen? ⟨g,j,none⟩=false) /\
   (∀k,k<=l.length->zX base w (.slice (some ⟨g,0,none⟩) k cap) (l.take k)) /\
   ∀(j x:Nat),j<l.length->x<2147483647->zX base (w.setCell ⟨g,j,none⟩ (.int .u64 (x:Int))) v (l.set j x):=by
 obtain⟨u,cap,o,p,q,s⟩:=h;obtain⟨g,cs,rfl,hg,b,m⟩:=s hp
 have e:∀j,j<l.length->cs[j]?=some (.int .u64 ((l.getD j 0:Nat):Int)):=λj d=>by rw[<-ML l j d,<-m,List.getElem?_take,if_pos d]
 refine⟨g,cap,o,p,hg,b.lt,λj d=>b.at1 j _ (e j d),b.frozen,λk i=>?_,λj x d n=>?_⟩
 ·refine⟨some ⟨g,0,none⟩,cap,by rw[List.length_take,Nat.min_eq_left i],by rw[List.length_take];omega,q.sub λx n=>List.mem_of_mem_take n,λ_=>⟨g,cs,rfl,hg,b,?_⟩⟩;rw[List.length_take,Nat.min_eq_left i,nc,List.map_take];have r:(cs.take l.length).take k=(nc l).take k:=by rw[m]
  rw[List.take_take,Nat.min_eq_left i]at r;exact r
 ·refine⟨some ⟨g,0,none⟩,cap,by rw[List.length_set];exact o,by rw[List.length_set];exact p,q.set j n,λ_=>⟨g,cs.set j (.int .u64 (x:Int)),rfl,hg,b.set j _,?_⟩⟩;rw[List.length_set,List.take_set,m,nc,nc,List.map_set]
theorem DX{r:List Nat}(h:0<r.length)(h0:r.getD (r.length-1) 0=0):strip (r.take (r.length-1))=strip r:=by
 have d:r=r.take (r.length-1)++[0]:=by
  have b:r.drop (r.length-1)=[0]:=by rw[List.drop_eq_getElem_cons oM,List.drop_of_length_le oM];rw[jD,gE oM]at h0;simpa using h0
  rw[<-b,List.take_append_drop]
 generalize r.take (r.length-1)=s at *;subst d;clear h h0
 induction s with
 | nil=>rfl
 | cons x s e=>rw[List.cons_append,strip,strip,e]
theorem DY{r:List Nat}(h:0<r.length)(h0:r.getD (r.length-1) 0≠0):strip r=r:=by
 induction r with
 | nil=>rfl
 | cons x r b =>
  cases r with
  | nil=>simp at h0;simp[strip,h0]
  | cons y r =>
   have:=b sM (by simpa using h0);rw[strip,this]
theorem qc(b r:List Nat)(f at_:Nat):∀i,(fJ b r f at_ i).length=r.length
 | 0=>rfl
 | i+1=>by rw[fJ,List.length_set,qc b r f at_ i]
end Q
namespace Go.Proofs.YtopclbeomcggiaaGreat
open Go.RowKit Q
theorem S9:∃z bytes,(Tryz.prog.info? xN.T).map (λi=>(i.zero,i.size,i.bytes))=some (some z,xN.sz,bytes)/\z.cells.size=xN.sz/\bytes<=100000:=⟨.int .u64 0,8,lL,rfl,dM⟩
def Xd (w:World) (l:List Nat) (e:Ending) (w':World):Prop:=∃v,e=.returned v/\zX w.heap.size w' v l/\Below w.heap.size w w'
theorem MM(v:Value)(l:List Nat)(w:World)(h:bV xN w v l)(r:l.length<=1000000):Calls Tryz.prog 138 #[v] w (Xd w l):=by
 obtain⟨o,cap,s,rfl,p,i,hex⟩:=id h;have n:=Go.Lib.run_eql_slice_nil (P:=Tryz.prog) w 94 97 o l.length cap 0 0 Tryz.underlying94
 cases o with
 | none =>
  have j:l=[]:=by
   cases l with
   | nil=>rfl
   | cons t l =>
    obtain⟨b,off,e,_⟩:=i (by rw[hex.length];simp[xN]);cases e
  subst j;simp only[List.length_nil,Option.isNone_none]at n ⊢
  go_enter Tryz.func138,Tryz.ntmps138
  go_wp2;go_ret;exact⟨_,rfl,zX.of (di.nil _ _ _),Below.refl _ _⟩
 | some a =>
  have d:Below w.heap.size w (w.alloc (.cells #[] yF)):=(Below.refl _ _).alloc (nL _) _;have m:di xN w.heap.size (w.alloc (.cells #[] yF)) (.slice (some ⟨w.heap.size,0,none⟩) 0 0) []:=fQ xN w;have h1:=h.on d;clear i
  go_enter Tryz.func138,Tryz.ntmps138
  go_wp2_with (at_builtin;refine gD rfl _ _ 94 rfl Tryz.underlying94 S9 rfl rfl m h1 (by simp;omega) d.size ?_;intro v5 w5 hown5 hl5 hv5)
  go_ret;exact⟨_,rfl,by simpa using zX.of hown5,d.trans (hl5.belowAt d.size (λk q=>by cases q;exact nL _))⟩
end Go.Proofs.YtopclbeomcggiaaGreat
end
section
namespace Q
open Go Go.RowKit Go.Proofs.YtopclbeomcggiaaGreat
theorem zX.mono{b d:Nat}{w:World}{v:Value}{l:List Nat}(h:zX b w v l)(hb:d<=b):zX d w v l:=by obtain⟨i,cap,j,k,m,n⟩:=h;refine⟨i,cap,j,k,m,λhp=>?_⟩;obtain⟨g,cs,e,hg,o⟩:=n hp;exact⟨g,cs,e,oM,o⟩
def af.rst {T:TypeId} (B:Nat) (l:List Nat):af (Lr none T):=af.of (λv w=>zX B w v l) (λ_ _ _ hb h=>h.on hb.below)
theorem F9{w:World}{v:Value}{l:List Nat}(h:bV xN w v l)(hp:0<l.length):∃b off cap,v=.slice (some ⟨b,off,none⟩) l.length cap/\bL yF w b off (nc l)/\EY l:=by obtain⟨i,cap,rfl,j,d,e⟩:=tY.1 h;obtain⟨b,off,rfl,hc⟩:=d (by rw[MK];exact hp);exact⟨b,off,cap,rfl,hc,e⟩
theorem ZR:pr-2=2147483645:=rfl
end Q
namespace Go.Proofs.YtopclbeomcggiaaGreat
open Go.RowKit Q
theorem MN(vx vy:Value)(x y:List Nat)(R:Nat)(w:World)(hx:bV xN w vx x)(hy:bV xN w vy y)(lx:x.length<=1000000)(ly:y.length<=1000000)(h:nQ x y=some R) :
  Calls Tryz.prog 119 #[vx,vy] w (pX w (.int .i64 ((R:Int)-1))):=by
 obtain⟨F,hF⟩:∃F,F=fuel:=⟨_,rfl⟩;unfold nQ at h;rw[<-hF]at h;obtain⟨ax,cx,rfl,aw⟩:=hx.shape;obtain⟨ay,cy,rfl,aE⟩:=hy.shape;replace hx:=zH hx;replace hy:=zH hy;replace hF:=zH hF
 go_enter Tryz.func119,Tryz.ntmps119
 go_upto_if 15 with (fail)
 go_cut [0,1,16,17] (λva vb _ _ wc=>∃a b,Hid (bV xN wc va a)/\Hid (bV xN wc vb b)/\Hid (iO F a b=some R)/\a.length<=1000000/\b.length<=1000000/\Below w.heap.size w wc)
 case first =>
  by_cases al:x.length<y.length
  ·rw[if_pos al]at h;replace h:=zH h;have an:(x.length:Int)<y.length:=oM;go_wp2;go_meet
   case rel=>exact⟨y,x,hy,hx,h,ly,lx,Below.refl _ _⟩
  ·rw[if_neg al]at h;replace h:=zH h;have an:¬(x.length:Int)<y.length:=oM;go_wp2;go_meet
   case rel=>exact⟨x,y,hx,hy,h,lx,ly,Below.refl _ _⟩
 case rest =>
  clear hx hy h lx ly aw aE;obtain⟨a,b,ha,hb,hs,la,lb,a8⟩:=hcut;go_wp2
  go_loopg [0,1] F (λn va vb wr=>∃a b,Hid (bV xN wr va a)/\Hid (bV xN wr vb b)/\Hid (iO n a b=some R)/\a.length<=1000000/\b.length<=1000000/\Below w.heap.size w wr)
  case atStart=>exact⟨a,b,ha,hb,hs,la,lb,a8⟩
  case round =>
   clear ha hb hs la lb a8 a b;obtain⟨a,b,ha,hb,hs,la,lb,z⟩:=hrel
   cases gk with
   | zero=>exact absurd hs.out (by simp[iO])
   | succ n =>
   have hs2:=hs.out;rw[iO]at hs2;clear hs;by_cases hb0:b=[]
   ·rw[if_pos hb0,sJ]at hs2;subst hb0;obtain⟨aa,ca,rfl,ba⟩:=ha.out.shape;obtain⟨ab,cb,rfl,bc⟩:=hb.out.shape;simp only[List.length_nil];have s:=zH hs2;clear hs2;go_wp2;go_ret;exact⟨by rw[<-s.out];rfl,z⟩
   ·rw[if_neg hb0]at hs2;have b4:0<b.length:=List.length_pos_iff.2 hb0;obtain⟨bb,ob,cb,rfl,a0,a6⟩:=F9 hb.out b4;rw[<-hF.out]at hs2;obtain⟨inv,hinv⟩:∃inv,inv=jN (b.getD (b.length - 1) 0) 2147483645:=⟨_,rfl⟩;rw[ZR,<-hinv]at hs2
    cases hr:lS b inv F a with
    | none=>rw[hr]at hs2;cases hs2
    | some r1 =>
    rw[hr]at hs2;have b3:inv<2147483647:=by rw[hinv];exact vT _ _
    have a9:=zH (λW (hb:Below wr.heap.size wr W)=>MM _ a W (ha.out.on hb) oM);have a1:=a6.getD (b.length-1);have N:=zH (λW=>zF (b.getD (b.length-1) 0) 2147483645 W oM oM);rw[<-hinv]at N;have p:∀W,Below wr.heap.size wr W->W.cell? ⟨bb,ob+(b.length-1),none⟩=some (.int .u64 ((b.getD (b.length-1) 0:Nat):Int)):=λW hb=>(a0.on hb).ncell _ oM;generalize b.getD (b.length-1) 0=xl at N p;replace hinv:=zH hinv;replace hs2:=zH hs2;replace hr:=zH hr;replace p:=zH p;have b9:(0:Int)<(b.length:Int):=oM;clear a1 hb0
    go_upto_region 4 with (fail)
    refine aC mixed (none) (0) (fM.none) [.eq (u0),.rst wr.heap.size a,.eq (.slice (some ⟨bb,ob,none⟩) b.length cb),.eq (.slice (some ⟨bb,ob,none⟩) b.length cb),.eq (.int .i64 b.length),.eq (.int .i64 ((b.length:Int)-1)),.eq (.pointer (some ⟨bb,ob+(b.length-1)*1,none⟩)),.eq (.int .u64 xl),.ret (.int .u64 inv)] [21,22,23,24,25,26,27,28,29] rfl rfl rfl rfl ⟨λ_ _ a _ _ _=>xM rfl (a 0 rfl),?_,λ_ _ a _ _ _=>xM rfl (a 1 rfl),λ_ _ a _ _ _=>xM rfl (a 1 rfl),λA _ _ _ _ he=>have h24:=eT 24 (he.1 rfl);pZ rfl,?_,λ_ _ _ _ _ e=>pI rfl Tryz.underlying94 bb ob (b.length-1) oM (e.1 rfl) (e.2.1 rfl),?_,λA _ _ _ hS he=>have hb:=hS rfl;have h28:=eT 28 (he.1 rfl);have hf0:=eF A 137;have hc0:=eC A (.int .i64 2147483645);cP (f:=137) (args:=#[.int .u64 xl,(.int .i64 2147483645)]) (N.out _),trivial⟩ ?_
    ·intro A w1 hA hL hS he;have hb:=hS rfl;have h21:=eT 21 (he.1 rfl);have hf0:=eF A 138;refine ae rfl ?_;refine dV (f:=138) (args:=#[u0]) rfl rfl ?_ ?_
     ·exact gZ
     ·refine(a9.out _ hb).mono ?_;rintro e w' ⟨v,rfl,hi,au⟩;exact⟨_,rfl,au,hi.mono hb.size⟩
    ·intro A w1 hA hL hS he;have h25:=eT 25 (he.1 rfl);have hc0:=eC A (.int .i64 1);refine ae rfl (aA rfl rfl ?_);generalize A.eval=ev at *;go_simp;exact mJ oM oM
    ·intro A w1 hA hL hS he;have hb:=hL.below;have h27:=eT 27 (he.1 rfl);refine ae rfl ?_;have c0:=p.out w1 hb;exact aA rfl rfl gZ
    ·intro W1 hL1;have hb1:=hL1.below;simp only[aU,af.eq,af.rst,af.ret,af.of,lZ];rintro v22 h22;go_frame;have hbr1:=z.trans (hb1.mono z.size);have J:∀W,Below wr.heap.size wr W->∀k,k<b.length->W.cell? ⟨bb,ob+k,none⟩=some (.int .u64 ((b.getD k 0:Nat):Int)):=λW hb k hk=>(a0.on hb).ncell _ hk;replace J:=zH J;replace h22:=zH h22;clear hL1 a9 N p a0;generalize wr=Wb at *;go_wp2
     go_loopg [5] F (λm v5 wz=>∃r,Hid (zX Wb.heap.size wz v5 r)/\Hid (lS b inv m r=some r1)/\r.length<=1000000/\Below Wb.heap.size Wb wz)
     case atStart=>exact⟨a,h22,hr,la,hb1⟩
     case round =>
      clear h22 hr hb1 hbr1;obtain⟨r,hR,G,lr,l⟩:=hrel;obtain⟨a4,b2⟩:∃a4,a4=gk:=⟨_,rfl⟩
      cases gk with
      | zero=>exact absurd G.out (by simp[lS])
      | succ m =>
      clear b2;have hrun2:=G.out;rw[lS]at hrun2;clear G;by_cases lv:b.length<=r.length
      ·rw[if_pos lv]at hrun2;obtain⟨g,cap,rfl,b6,b0,bj,B,-,-,-⟩:=hR.out.open oM;obtain⟨A,hA⟩:∃A,A=r.length - b.length:=⟨_,rfl⟩;have hA2:(r.length:Int) - (b.length:Int)=(A:Int):=oM;have a5:A+b.length=r.length:=oM;rw[<-hA]at hrun2;have Z:=hR.out.isSl;obtain⟨-,-,-,-,-,u⟩:=tY.1 Z;have bd:=B (r.length - 1) oM;have bm:=u.getD (r.length - 1);generalize r.getD (r.length - 1) 0=xt at *;obtain⟨f,hf⟩:∃f,f=xt*inv%pr:=⟨_,rfl⟩;rw[<-hf]at hrun2;have bi:f<2147483647:=by rw[hf];exact DW _
       have bl:xt*inv<=2147483647*2147483647:=Nat.mul_le_mul oM oM;have bh:((xt:Int)*(inv:Int))%2147483647=(f:Int):=by rw[hf,jI];simp
       have ag:¬(r.length:Int)<(b.length:Int):=oM;replace hrun2:=zH hrun2;have o:Hid (zX Wb.heap.size wr (.slice (some ⟨g,0,none⟩) r.length cap) (fJ b r f A 0)):=hR;clear hf hA B Z hR
       go_wp2_with (refine ak rfl (.tmp 35) (.tmp 38) _ rfl _ Tryz.underlying94 _ _ _ lL _ _ _ rfl _ _ rfl (r.length-1) oM oM g 0 rfl ?_;rw[nU,Nat.zero_add])
       go_loopw [51] (λi wy=>∃k:Nat,k<=b.length/\i=.int .i64 k/\Hid (zX Wb.heap.size wy (.slice (some ⟨g,0,none⟩) r.length cap) (fJ b r f A k))/\Below Wb.heap.size Wb wy) (λi _=>b.length-(intOf i).toNat)
       case atStart=>exact⟨0,oM,rfl,o,l⟩
       case round =>
        clear o l;obtain⟨k,hk,rfl,hR,l⟩:=hrel;by_cases ad:k<b.length
        ·have b7:(k:Int)<(b.length:Int):=oM;have C:=qc b r f A k;obtain⟨g',b5,ap,-,-,-,B,ac,-,Y⟩:=hR.out.open oM;simp only[Value.slice.injEq,sJ,Addr.mk.injEq,and_true]at ap;obtain⟨rfl,-,rfl⟩:=ap;have I:fJ b r f A (k+1)=(fJ b r f A k).set (A+k) (((fJ b r f A k).getD (A+k) 0+(pr - b.getD k 0)*f)%pr):=rfl;have u:=hR.out.isSl;obtain⟨-,-,-,-,-,u⟩:=tY.1 u;have h1:=B (A+k) oM;have h2:=J.out wr l k ad;have h3:=ac (A+k);have hx1:=u.getD (A+k);have hc1:=a6.getD k;have hs9:=Y (A+k) (((fJ b r f A k).getD (A+k) 0+(pr - b.getD k 0)*f)%pr) oM (DW _);rw[<-I]at hs9;obtain⟨nx,M⟩:∃nx,nx=fJ b r f A (k+1):=⟨_,rfl⟩;rw[<-M]at hs9;replace M:=zH M;clear I;generalize(fJ b r f A k).getD (A+k) 0=x at *;generalize b.getD k 0=c at *;obtain⟨d,hd⟩:∃d,d=pr - c:=⟨_,rfl⟩;rw[<-hd]at hs9;rw[jI]at hd hs9;have hd2:(2147483647:Int) - (c:Int)=(d:Int):=oM;have be:d*f<=2147483647*2147483647:=Nat.mul_le_mul oM oM;have hv9:(((x+d*f)%2147483647:Nat):Int)=((x:Int)+(d:Int)*(f:Int))%2147483647:=sM;rw[hv9]at hs9;have hAk2:A+k<r.length:=oM;have hbz9:=l.trans (bI (W:=wr) (g:=g) (j:=A+k) b0 (.int .u64 (((x:Int)+(d:Int)*(f:Int))%2147483647)));replace hs9:=zH hs9;clear B ac Y hv9 hd hR u C
         replace a5:=zH a5
         go_wp2_with (first
          | (refine ak rfl (.tmp 49) (.tmp 51) _ rfl _ Tryz.underlying94 _ _ _ lL _ _ _ rfl _ _ rfl k rfl ad bb ob rfl ?_;rw[nU])
          | (refine ak rfl (.tmp 60) (.tmp 63) _ rfl _ Tryz.underlying94 _ _ _ lL _ _ _ rfl _ _ rfl (A+k) oM hAk2 g 0 rfl ?_;rw[nU,Nat.zero_add])
          | (refine ak rfl (.tmp 56) (.tmp 59) _ rfl _ Tryz.underlying94 _ _ _ lL _ _ _ rfl _ _ rfl (A+k) oM hAk2 g 0 rfl ?_;rw[nU,Nat.zero_add]))
         go_roundw
         case rel=>exact⟨k+1,oM,nM,by rw[<-M.out];exact hs9,hbz9⟩
         case measure=>simp[intOf];omega
        ·obtain rfl:k=b.length:=oM;have C:=qc b r f A b.length;generalize fJ b r f A b.length=r2 at *;obtain⟨S,hS⟩:∃S,S=strip r2:=⟨_,rfl⟩;have o:Hid (strip r2=S):=zH hS.symm;have hrun3:Hid (lS b inv m S=some r1):=zH (by rw[hS];exact hrun2.out);clear hrun2 hS;go_wp2
         go_loopg [5] r.length (λq v5 wy=>∃r3,Hid (zX Wb.heap.size wy v5 r3)/\Hid (strip r3=S)/\r3.length<=q/\q<=1000000/\Below Wb.heap.size Wb wy)
         case atStart=>exact⟨r2,hR,o,oM,oM,l⟩
         case round =>
          clear hR o l C r2;obtain⟨r3,hR,o,lr3,hq,l⟩:=hrel;by_cases hp3:0<r3.length
          ·obtain⟨g3,cap3,rfl,hcap3,hgb3,hgl3,hcr3,-,htk3,-⟩:=hR.out.open hp3;have hct3:=hcr3 (r3.length - 1) oM;have hxl3:=(tY.1 hR.out.isSl);obtain⟨-,-,-,-,-,hLr3⟩:=hxl3;have hx3:=hLr3.getD (r3.length - 1);have hz:=λh=>DX (r:=r3) hp3 h;have a2:=λh=>DY (r:=r3) hp3 h;have X:=htk3 (r3.length - 1) oM;have b8:(0:Int)<(r3.length:Int):=oM;generalize r3.getD (r3.length - 1) 0=x3 at *;clear hcr3 htk3 hLr3;by_cases hx0:x3=0
           ·subst hx0;have ao:Hid (strip (r3.take (r3.length-1))=S):=zH (by rw[hz rfl];exact o.out);have L:(r3.take (r3.length-1)).length=r3.length-1:=by rw[List.length_take];omega
            replace X:=zH X;clear hz a2 o hR;obtain⟨q',D⟩:∃q',gk=q'+1:=⟨gk - 1,oM⟩;replace D:=zH D;generalize r3.take (r3.length - 1)=r4 at *;replace L:=zH L
            go_wp2_with (first
             | (refine ak rfl (.tmp 78) (.tmp 81) _ rfl _ Tryz.underlying94 _ _ _ lL _ _ _ rfl _ _ rfl (r3.length-1) oM oM g3 0 rfl ?_;rw[nU,Nat.zero_add])
             | (refine oL rfl _ _ 94 rfl Tryz.underlying94 kM _ _ _ rfl .i64 _ rfl (r3.length-1) oM oM ?_))
            go_roundg q'
            case measure=>have:=D.out;omega
            case rel=>exact⟨r4,by have h1:=X.out;have h2:=L.out;rw[<-h2]at h1;rw[<-h2];exact zH h1,ao,by have:=D.out;have:=L.out;omega,by have:=D.out;omega,l⟩
           ·have s:Hid (S=r3):=zH (by rw[<-o.out];exact a2 hx0);have bk:((x3:Int)==0)=false:=by simp;omega
            clear hz a2 o X hx0
            go_wp2_with (refine ak rfl (.tmp 78) (.tmp 81) _ rfl _ Tryz.underlying94 _ _ _ lL _ _ _ rfl _ _ rfl (r3.length-1) oM oM g3 0 rfl ?_;rw[nU,Nat.zero_add])
            go_roundg m
            case measure=>omega
            case rel=>exact⟨r3,hR,by rw[<-s.out];exact hrun3,oM,l⟩
          ·obtain rfl:r3=[]:=List.eq_nil_of_length_eq_zero oM;have s:Hid (S=[]):=zH (by rw[<-o.out];rfl);obtain⟨a3,c3,rfl,-⟩:=hR.out.isSl.shape;simp only[List.length_nil];clear o;go_wp2;go_roundg m
           case measure=>omega
           case rel=>exact⟨[],hR,by rw[<-s.out];exact hrun3,sM,l⟩
      ·rw[if_neg lv,sJ]at hrun2;subst hrun2;obtain⟨ar,cr,rfl,-⟩:=hR.out.isSl.shape;have ag:(r.length:Int)<(b.length:Int):=oM;have av:=zH (hb.out.on l);have a7:=z.trans (l.mono z.size);have aq:=zH hR.out.isSl;clear hR hb ha J;go_wp2;go_roundg n
       case measure=>omega
       case rel=>exact⟨b,r,av,aq,hs2,lb,lr,a7⟩
end Go.Proofs.YtopclbeomcggiaaGreat
end
section
namespace Q
theorem Ke{a:List aj}{v at_:Nat}{l:List Nat}(b:Wp a)(h:ji a v at_=some l):l.length<=1000000:=by rw[(zW h).1,List.length_replicate];have:=(b.deg v).2;omega
theorem Iu{a b:List aj}{v k:Nat}{l:List Nat}{m:Int}(h:kH a b v (k::l)=some m) :
  (iQ (ji a v (17+100*k))=true/\iQ (ji b v (17+100*k))=true/\∃x y n,ji a v (17+100*k)=some x/\ji b v (17+100*k)=some y/\nQ x y=some n/\m=(n:Int)-1) \/
  ((iQ (ji a v (17+100*k))=false\/iQ (ji b v (17+100*k))=false)/\kH a b v l=some m):=by
 rw[kH]at h
 cases hx:ji a v (17+100*k)with
 | none=>rw[hx]at h;exact .inr ⟨.inl rfl,h⟩
 | some x =>
  cases hy:ji b v (17+100*k)with
  | none=>rw[hx,hy]at h;exact .inr ⟨.inr rfl,h⟩
  | some y =>
   rw[hx,hy]at h;change(if(iQ (some x)&&iQ (some y))=true then _ else _)=_ at h;cases h1:iQ (some x)
   ·rw[h1]at h;exact .inr ⟨.inl rfl,by simpa using h⟩
   ·cases h2:iQ (some y)
    ·rw[h1,h2]at h;exact .inr ⟨.inr rfl,by simpa using h⟩
    ·rw[h1,h2]at h;rw[if_pos (show(true&&true)=true from rfl)]at h
     cases hs:nQ x y with
     | none=>rw[hs]at h;cases h
     | some n =>
      rw[hs]at h;have d:some ((n:Int)-1)=some m:=h;exact .inl ⟨rfl,rfl,x,y,n,rfl,rfl,hs,(Option.some.inj d).symm⟩
end Q
namespace Go.Proofs.YtopclbeomcggiaaGreat
open Go.RowKit Q
theorem P9(F G:Value)(a b:List aj)(v:Nat)(m:Int)(w:World)(ha:ai w F a)(hb:ai w G b)(D:Wp a)(kb:Wp b)(hv:v<4)(z:a≠[])(B:b≠[])(h:zV a b v=some m) :
  Calls Tryz.prog 92 #[F,G,.int .i64 v] w (pX w (.int .i64 m)):=by
 have I:=zH (λk W (N:k<3) (hb:Below w.heap.size w W)=>F7 F a v (17+100*k) W (ha.on hb) D hv z oM);have J:=zH (λk W (N:k<3) (o:Below w.heap.size w W)=>F7 G b v (17+100*k) W (hb.on o) kb hv B oM);have q:=zH (λW (hb:Below w.heap.size w W)=>kD F a v W (ha.on hb) hv (by have:=D.len;omega));have r:=zH (λW (o:Below w.heap.size w W)=>kD G b v W (hb.on o) hv (by have:=kb.len;omega));have L:=zH (λk l (h:ji a v (17+100*k)=some l)=>Ke D h);have M:=zH (λk l (h:ji b v (17+100*k)=some l)=>Ke kb h);have C:Hid (kH a b v ([0,1,2].drop 0)=some m):=zH h;obtain⟨aa,ca,rfl,-⟩:=ha.shape;obtain⟨ab,cb,rfl,-⟩:=hb.shape;have a0:=(D.deg v);have a1:=(kb.deg v);clear ha hb D kb z B h
 go_enter Tryz.func92,Tryz.ntmps92
 go_wp2
 go_loopw [12] (λi wr=>∃k:Nat,k<=3/\i=.int .u64 k/\Hid (kH a b v ([0,1,2].drop k)=some m)/\Below w.heap.size w wr) (λi _=>match i with|.int _ x=>3-x.toNat|_=>0)
 case atStart=>exact⟨0,oM,nM,C,Below.refl _ _⟩
 case round =>
  clear C;obtain⟨k,N,rfl,hB,d⟩:=hrel;by_cases hk3:k<3
  ·have S:(k:Int)<3:=oM
   have oU:([0,1,2]:List Nat).drop k=k::([0,1,2]:List Nat).drop (k+1):=by
    obtain rfl|rfl|rfl:k=0\/k=1\/k=2:=oM
    all_goals rfl
   have hB2:=hB.out;rw[oU]at hB2;have h1:=I.out k wr hk3 d;have h2:=J.out k;have u:((17+100*k:Nat):Int)=17+100*(k:Int):=oM;rw[u]at h1 h2;clear u;have hc:=Iu hB2;have hla1:=L.out k;have hlb1:=M.out k;clear oU hB hB2;generalize ji a v (17+100*k)=oa at *;generalize ji b v (17+100*k)=ob at *;replace hc:=zH hc;replace h2:=zH h2;replace hla1:=zH hla1;replace hlb1:=zH hlb1
   go_upto_region 6 with (first
    | (go_at_call 118;refine(h2.out w3 hk3 (d.trans (hb3.mono d.size))).mono ?_;rintro en w4 ⟨v4,rfl,hv4,hb4⟩)
    | (go_at_call 118;refine h1.mono ?_;rintro en w3 ⟨v3,rfl,hv3,hb3⟩))
   have hb34:=hb3.trans (hb4.mono hb3.size);have hbr4:=d.trans (hb34.mono d.size);rcases hc.out with ⟨f1,f2,x,y,n,rfl,rfl,X,rfl⟩|⟨hf,j⟩
   ·rw[f1,f2];have Y:=(hv3 x rfl).on hb4;have Z:=hv4 y rfl;have p:=MN v3 v4 x y n w4 Y Z (hla1.out x rfl) (hlb1.out y rfl) X;replace p:=zH p;clear hv3 hv4 h1 h2 f1 f2 Y Z X hc
    go_wp2_with (go_at_call 119;refine p.out.mono ?_;rintro en w5 ⟨rfl,hb5⟩)
    go_ret;exact⟨rfl,hbr4.trans (hb5.mono hbr4.size)⟩
   ·have j:=zH j;clear hv3 hv4 h1 h2 hc;cases f1:iQ oa
    ·clear hf f1;go_wp2;go_roundw
     case rel=>exact⟨k+1,oM,nM,j,hbr4⟩
     case measure=>simp;omega
    ·cases f2:iQ ob
     ·clear hf f1 f2;go_wp2;go_roundw
      case rel=>exact⟨k+1,oM,nM,j,hbr4⟩
      case measure=>simp;omega
     ·rw[f1,f2]at hf;rcases hf with hf|hf<;>cases hf
  ·obtain rfl:k=3:=oM;have s:Hid (m=min (aD a v) (aD b v)):=zH (Option.some.inj hB.out).symm;have h1:=q.out wr d;have h2:=r.out;clear q r hB;generalize aD a v=da at *;generalize aD b v=db at *
   go_wp2_with (first
    | (go_at_call 53;refine(h2 w3 (d.trans (hb3.mono d.size))).mono ?_;rintro en w4 ⟨rfl,hb4⟩)
    | (go_at_call 53;refine h1.mono ?_;rintro en w3 ⟨rfl,hb3⟩))
   go_ret;exact⟨by rw[s.out];rfl,(d.trans (hb3.mono d.size)).trans (hb4.mono (d.trans (hb3.mono d.size)).size)⟩
end Go.Proofs.YtopclbeomcggiaaGreat
end
section
namespace Q
open Go Go.RowKit Go.Proofs.YtopclbeomcggiaaGreat
theorem Qa{b ts:List aj}{g:aj}(hb:Wp b)(hg:b=g::ts){a:List aj}{r:Option (List aj)}(h:zU a b=some r):∃k,zN b g k a [] r:=by subst hg;exact SS hb rfl h (by simp[fuel])
theorem Zw{c:Rat}(hc:c≠0)(h:Rk c):Rk (1/c):=by
 have e:1/c=c⁻¹:=by rw[Rat.div_def,Rat.one_mul]
 rw[e];refine⟨?_,?_⟩
 ·rw[Rat.den_inv,if_neg λh=>hc (Rat.num_eq_zero.1 h)];exact h.2
 ·rw[Rat.num_inv,Int.natAbs_mul,Int.natAbs_natCast];refine Nat.le_trans (jf (n:=c.den) ?_) h.1;have:c.num.sign.natAbs<=1:=by rw[Int.natAbs_sign];split<;>omega
  exact Nat.le_trans (Nat.mul_le_mul_right _ this) oM
theorem ZZ:Rk (((1:Int)):Rat):=by refine⟨dK,?_⟩;have:=jU (n:=(((1:Int)):Rat).num.natAbs) (k:=1) dK;unfold jF;omega
end Q
namespace Go.Proofs.YtopclbeomcggiaaGreat
open Go.RowKit Q Go.WideMaps Go.Maps
theorem yN(w:World):Calls Tryz.prog 51 #[] w (aP w Ir):=by
 go_enter Tryz.func51,Tryz.ntmps51
 go_wp2_with (first
  | (go_at_call 47;refine(tq 1 _ oM oM).mono ?_;rintro e w1 ⟨v1,rfl,h1,hb1⟩)
  | (go_at_call 89;refine(PG _ _ _ h1).mono ?_;rintro e w2 ⟨v2,rfl,h2,hb2⟩))
 go_ret;exact⟨_,rfl,h2,hb1.trans (hb2.mono hb1.size)⟩
theorem Kg(d e:Value)(a b:List aj)(r:Option (List aj))(w:World)(ha:ai w d a)(hb:ai w e b)(kb:Wp b)(h:zU a b=some r):Calls Tryz.prog 93 #[d,e] w (BK w r):=by
 cases b with
 | nil=>simp only[zU,sJ]at h;subst h;exact UI d e a w ha hb
 | cons g b =>
  obtain⟨k,i⟩:=Qa kb rfl h;exact UJ d e a b g k r w ha hb i
theorem qX{a b q:List aj}(h:gT a b=some q):Wp q:=by
 unfold gT at h
 cases hd:zU a b with
 | none=>rw[hd]at h;cases h
 | some r =>
  rw[hd]at h;obtain⟨rfl,hq⟩:=kG h;exact hq
theorem oC(d i:Value)(a b q:List aj)(w:World)(ha:ai w d a)(hb:ai w i b)(kb:Wp b)(h:gT a b=some q):Calls Tryz.prog 56 #[d,i] w (aP w q):=by
 unfold gT at h
 cases hd:zU a b with
 | none=>rw[hd]at h;cases h
 | some r =>
  rw[hd]at h;obtain⟨rfl,hq⟩:=kG h;have hc:=Kg d i a b r w ha hb kb hd;clear hq hd h;obtain⟨l,n,rfl,j⟩:=ha.shape;obtain⟨m,o,rfl,k⟩:=hb.shape
  go_enter Tryz.func56,Tryz.ntmps56
  go_wp2_with (go_at_call 93;refine hc.mono ?_;rintro e w1 ⟨v1,rfl,h1,hb1⟩)
  go_ret;exact⟨_,rfl,h1,hb1⟩
theorem tZ(s:Value)(a:List aj)(w:World)(ha:ai w s a):Calls Tryz.prog 50 #[s] w (pX w (.bool (lX a))):=by
 match a,ha with
 | [],ha =>
  obtain⟨q,m,rfl,l⟩:=ha.shape
  go_enter Tryz.func50,Tryz.ntmps50
  go_wp2;go_ret;exact⟨rfl,Below.refl _ _⟩
 | t::u::r,ha =>
  obtain⟨q,m,rfl,l⟩:=ha.shape;have y:(((t::u::r).length:Int)==1)=false:=by simp;omega
  generalize(t::u::r).length=n at *;have b:lX (t::u::r)=false:=rfl;rw[b]
  go_enter Tryz.func50,Tryz.ntmps50
  go_wp2;go_ret;exact⟨rfl,Below.refl _ _⟩
 | [t],ha =>
  obtain⟨q,m,rfl,l⟩:=ha.shape;obtain⟨d,i,x,rfl,-,o,k⟩:=ha.get (j:=0) (t:=t) rfl;obtain⟨B,rfl,z⟩:=o;change bL aJ w d (i+0*8) _ at k;have b:lX [t]=decide (t.1=e0):=rfl;rw[b];obtain⟨e,c⟩:=t;simp only at *;have p:=RN e e0
  go_enter Tryz.func50,Tryz.ntmps50
  go_upto_region 1 with (fail)
  refine aN trivial (none) (0) (fM.none) [.eq (.slice (some ⟨d,i,none⟩) 1 m),.eq (.int .i64 1),.eq (.bool true),.eq (.bool true),.eq (.slice (some ⟨d,i,none⟩) 1 m),.eq (.pointer (some ⟨d,i+0*8,none⟩)),.eq (.pointer (some ⟨d,i+0*8,none⟩)),.eq (.agg (bD e).toArray),.eq (.agg (bD e0).toArray),.eq (.bool (decide (e=e0))),.eq (.bool (decide (e=e0)))] [3,4,5,6,7,8,9,10,11,12,13] rfl rfl rfl rfl ⟨λ_ _ a _ _ _=>xM rfl (a 0 rfl),λA _ _ _ _ he=>have h3:=eT 3 (he.1 rfl);pZ rfl,λA _ _ _ _ he=>have h4:=eT 4 (he.1 rfl);have hc0:=eC A (.int .i64 1);pZ rfl,λ_ _ _ _ _ e=>xM rfl (e.1 rfl),λ_ _ a _ _ e=>yM (e.1 rfl) rfl (a 0 rfl),λ_ _ _ _ _ e=>aI rfl rfl (e.2.1 rfl) (xI rfl Tryz.underlying27 d i 0 oM (e.1 rfl) rfl),λ_ _ _ _ _ e=>aI rfl rfl (e.2.1 rfl) (xK rfl (e.1 rfl)),λA w1 hA hL hS he=>aI rfl rfl (he.2.1 rfl) (xL rfl (fU (k.on hL.below)) Tryz.underlying36 (show(bD e).length=4 from rfl) (he.1 rfl)),?_,?_,λA _ _ _ _ he=>have h6:=eT 6 (he.1 rfl);have h12:=eT 12 (he.2.1 rfl);have hc0:=eC A (.bool false);pZ rfl,trivial⟩ ?_
  ·intro A w1 hA hL hS he;have h6:=eT 6 (he.1 rfl);refine aI rfl rfl h6 ?_;refine aA rfl rfl ?_;generalize A.eval=ev at *;go_simp
   rfl
  ·intro A w1 hA hL hS he;have h6:=eT 6 (he.2.2.1 rfl);have h10:=eT 10 (he.1 rfl);have h11:=eT 11 (he.2.1 rfl);refine aI rfl rfl h6 ?_;have hq:=p w1;exact aA rfl rfl gZ
  ·intro w2 hL2;simp only[aU,af.eq,lZ];go_frame;go_wp2;go_ret;exact⟨rfl,hL2.below⟩
theorem DZ(b:Value)(w:World)(ha:ai w b []):Calls Tryz.prog 14 #[b] w (aP w []):=by
 obtain⟨i,j,rfl,d⟩:=ha.shape;simp only[List.length_nil]
 go_enter Tryz.func14,Tryz.ntmps14
 go_wp2;go_ret;exact⟨_,rfl,bV.nil _ _,Below.refl _ _⟩
theorem yO{a g:List aj}(h:mr a=some g):Wp g:=by
 cases a with
 | nil=>simp only[mr,sJ]at h;subst h;exact Wp.nil
 | cons t r =>
  simp only[mr]at h;obtain⟨b,d⟩:=kG h;rw[b];exact d
theorem qF(x:Value)(a g:List aj)(w:World)(ha:ai w x a)(l:Wp a)(h:mr a=some g):Calls Tryz.prog 14 #[x] w (aP w g):=by
 match a,ha,l,h with
 | [],ha,l,h =>
  simp only[mr,sJ]at h;subst h;exact DZ x w ha
 | t::r,ha,l,h =>
  simp only[mr]at h;have hg:=kG h;obtain⟨rfl,C⟩:=hg;clear h C;have hz:=(l.val.2 t sM).1;have s:=l.rk t sM;have F:=Zw hz s;have d:=λW v (hb:Below w.heap.size w W) (hv:bO W v (((1:Int):Rat)/t.2))=>FO x v (t::r) (((1:Int):Rat)/t.2) W (ha.on hb) hv F l.rk (by have:=l.len;omega);have q:(1:Rat)=(((1:Int)):Rat):=rfl;rw[q];obtain⟨M,S,rfl,z⟩:=ha.shape;obtain⟨p,u,G,rfl,-,y,b⟩:=ha.get (j:=0) (t:=t) rfl;obtain⟨X,rfl,n⟩:=y;change bL aJ w p (u+0*8) _ at b;have I:=n.len;simp only[List.length_cons]at d ⊢;replace d:=zH d;clear ha l z q;have L:(((r.length+1:Nat):Int)==0)=false:=by simp;omega
  have hp0:0<r.length+1:=oM;generalize r.length+1=N at *
  go_enter Tryz.func14,Tryz.ntmps14
  go_upto_region 3 with (fail)
  obtain⟨N3,A3,K3,C3,N4,A4,K4,C4,rfl,-,-⟩:=id n
  have o:∀W,Below w.heap.size w W->W.cell? ⟨p,u+4,none⟩=some (.bool N3)/\W.cell? ⟨p,u+4+1,none⟩=some (.slice A3 K3 C3)/\W.cell? ⟨p,u+4+2,none⟩=some (.bool N4)/\W.cell? ⟨p,u+4+3,none⟩=some (.slice A4 K4 C4):=λW hb=>by
   have hC:=b.on hb;refine⟨?_,?_,?_,?_⟩
   ·have:=hC.cell 4 (by simp[bD]);simpa[bD]using this
   ·have:=hC.cell 5 (by simp[bD]);simpa[bD,Nat.add_assoc]using this
   ·have:=hC.cell 6 (by simp[bD]);simpa[bD,Nat.add_assoc]using this
   ·have:=hC.cell 7 (by simp[bD]);simpa[bD,Nat.add_assoc]using this
  obtain⟨x1,x2,x3,x4⟩:=o w (Below.refl _ _);have J:=b.lt;have i:=zH (λW v (hb:Below w.heap.size w W) (hv:bO W v (((1:Int)):Rat))=>Jw _ _ _ _ W hv (n.on hb).rat ZZ s hz);obtain⟨x5,x6,x7,x8⟩:=o (w.drew.alloc (.cells #[.bool false,.slice none 0 0,.bool false,.slice none 0 0] 41)) ((pV (Below.refl w.heap.size w) 1).alloc (nL _) _);replace o:=zH o;clear b
  go_cut [9,10,11,12,13,14,8,15,16,3,4] (λ_ _ _ _ _ _ _ _ _ v3 _ wc=>∃bx n5 a5 k5 c5 n6 a6 k6 c6,v3=.pointer (some ⟨bx,0,none⟩)/\Hid (Blk wc bx 41 [.bool n5,.slice a5 k5 c5,.bool n6,.slice a6 k6 c6])/\Hid (bO wc (.agg #[.bool n5,.slice a5 k5 c5,.bool n6,.slice a6 k6 c6]) (((1:Int):Rat)/t.2))/\Below w.heap.size w wc)
  case first =>
   go_region_with (first
    | (go_at_call 47;refine(tq 1 _ oM oM).mono ?_;rintro en w1 ⟨v1,rfl,h1,hb1⟩;have hbw1:Below w.heap.size w w1:=Below.trans (by first|exact pV (Below.refl _ _) _|exact(pV (Below.refl _ _) _).alloc (nL _) _) (hb1.mono (by first|exact nL _|(simp;done)|(simp;omega)));obtain⟨y1,y2,y3,y4⟩:=o.out w1 hbw1;obtain⟨y5,y6,y7,y8⟩:=o.out (w1.alloc (.cells #[.bool false,.slice none 0 0,.bool false,.slice none 0 0] 41)) (hbw1.alloc hbw1.size _);try (have B1:Blk w1 w.heap.size 41 [.bool false,.slice none 0 0,.bool false,.slice none 0 0]:=(Blk.new w.drew 41 [.bool false,.slice none 0 0,.bool false,.slice none 0 0]).on hb1))
    | (go_at_call 46;(first|refine(i.out _ _ hbw1 h1).mono ?_|refine(i.out _ _ (hbw1.alloc hbw1.size _) (h1.on ((Below.refl _ _).alloc (nL _) _))).mono ?_);rintro en w5 ⟨v5,rfl,hv5,hb5⟩;obtain⟨N5,A5,K5,C5,N6,A6,K6,C6,rfl⟩:=fF hv5;have hbw5:Below w.heap.size w w5:=Below.trans (by first|exact hbw1|exact hbw1.alloc hbw1.size _) (hb5.mono (by first|exact hbw1.size|(have:=hbw1.size;simp;omega)));(first|(have B5:=B1.on hb5;have z1:=B5.at1 0 _ rfl;have z2:=B5.at1 1 _ rfl;have z3:=B5.at1 2 _ rfl;have z4:=B5.at1 3 _ rfl;have g1:=B5.frozen 0;have g2:=B5.frozen 1;have g3:=B5.frozen 2;have g4:=B5.frozen 3)|(have B5:Blk w5 w1.heap.size 41 [.bool false,.slice none 0 0,.bool false,.slice none 0 0]:=(Blk.new w1 41 [.bool false,.slice none 0 0,.bool false,.slice none 0 0]).on hb5;have z1:=B5.at1 0 _ rfl;have z2:=B5.at1 1 _ rfl;have z3:=B5.at1 2 _ rfl;have z4:=B5.at1 3 _ rfl;have g1:=B5.frozen 0;have g2:=B5.frozen 1;have g3:=B5.frozen 2;have g4:=B5.frozen 3)|skip);have B6:=Blk.new w5 41 [.bool false,.slice none 0 0,.bool false,.slice none 0 0];have p1:=B6.at1 0 _ rfl;have p2:=B6.at1 1 _ rfl;have p3:=B6.at1 2 _ rfl;have p4:=B6.at1 3 _ rfl;have q1:=B6.frozen 0;have q2:=B6.frozen 1;have q3:=B6.frozen 2;have q4:=B6.frozen 3))
   all_goals first
    | (obtain⟨R5,gr5⟩:=eO [.bool N5,.slice A5 K5 C5,.bool N6,.slice A6 K6 C6] 0 w5 _ B5 sM;have hl5:Lr (some _) 41 w5 _:=⟨gr5,λk D=>by cases D;exact⟨B5.noOther,R5.noOther⟩⟩;have hr5:=hv5.lr hl5 dM;have hbw6:=hbw5.trans (hl5.belowAt hbw5.size (λk D=>by cases D;first|exact nL _|exact hbw1.size));clear hb5 hb1;go_wp2;go_meet;case rel=>exact⟨_,_,_,_,_,_,_,_,_,rfl,zH R5,zH hr5,hbw6⟩)
    | (have R5:=Blk.new w5 41 [.bool N5,.slice A5 K5 C5,.bool N6,.slice A6 K6 C6];have hr5:=hv5.on ((Below.refl _ _).alloc (nL _) (.cells #[.bool N5,.slice A5 K5 C5,.bool N6,.slice A6 K6 C6] 41));have hbw6:=hbw5.alloc hbw5.size (.cells #[.bool N5,.slice A5 K5 C5,.bool N6,.slice A6 K6 C6] 41);clear hb5 hb1;go_wp2;go_meet;case rel=>exact⟨_,_,_,_,_,_,_,_,_,rfl,zH R5,zH hr5,hbw6⟩)
  case rest =>
   obtain⟨bx,n5,a5,k5,c5,n6,a6,k6,c6,rfl,hB,hr,m⟩:=hcut;have y1:=hB.out.at1 0 _ rfl;have y2:=hB.out.at1 1 _ rfl;have y3:=hB.out.at1 2 _ rfl;have y4:=hB.out.at1 3 _ rfl;have B:=d.out _ _ m hr.out;clear x1 x2 x3 x4 x5 x6 x7 x8
   go_wp2_with (go_at_call 48;refine B.mono ?_;rintro e w4 ⟨v4,rfl,h4,hb4⟩)
   go_ret;exact⟨_,rfl,h4,m.trans (hb4.mono m.size)⟩
end Go.Proofs.YtopclbeomcggiaaGreat
end
section
namespace Q
open Go Go.RowKit Go.Proofs.YtopclbeomcggiaaGreat
theorem aX{α b:Type}{a:Option α}{f:α->Option b}{y:b}(h:dY a f=some y):∃x,a=some x/\f x=some y:=by
 cases a with
 | none=>cases h
 | some x=>exact⟨x,rfl,h⟩
theorem Ga{G:List aj->List aj->Option (List aj)}{acc a g:List aj}{l:List (List aj)}(h:vB G acc (a::l)=some g):∃b,G acc a=some b/\(lX b=true->g=b)/\(lX b=false->vB G b l=some g):=by
 rw[vB]at h
 cases hG:G acc a with
 | none=>rw[hG]at h;cases h
 | some b =>
  rw[hG]at h;refine⟨b,rfl,λhc=>?_,λhc=>?_⟩
  ·simp only[hc,if_true,sJ]at h;exact h.symm
  ·simpa[hc]using h
end Q
namespace Go.Proofs.YtopclbeomcggiaaGreat
open Go.RowKit Q Go.WideMaps Go.Maps
def Zx (a b g:List aj):Prop:=∀(va vb:Value)(w:World),ai w va a->ai w vb b->Calls Tryz.prog 16 #[va,vb] w (aP w g)
def D5 (G:List aj->List aj->Option (List aj)):Prop:=∀a b g,Wp a->Wp b->G a b=some g->Zx a b g/\Wp g
theorem UX{G:List aj->List aj->Option (List aj)}(z:D5 G)(J:Value)(l:List (List aj))(g:List aj)(w:World)(y:jq w J l)(Y:l.length<=100000000)(D:∀c∈l,Wp c)(h:vB G [] l=some g) :
  Calls Tryz.prog 61 #[J] w (aP w g):=by
 obtain⟨N,S,rfl,L⟩:=y.shape;replace h:=zH h;replace D:=zH D;replace z:=zH z;replace y:=zH y
 go_enter Tryz.func61,Tryz.ntmps61
 go_wp2
 go_loopw [3,8] (λo i wr=>∃(k:Nat)(n:List aj),k<=l.length/\i=.int .i64 k/\Hid (ai wr o n)/\Hid (Wp n/\vB G n (l.drop k)=some g)/\Below w.heap.size w wr) (λ_ i _=>l.length-(intOf i).toNat)
 case atStart=>exact⟨0,[],oM,rfl,zH (bV.nil _ _),zH ⟨Wp.nil,h.out⟩,Below.refl _ _⟩
 case round =>
  clear h;obtain⟨k,n,X,rfl,hO,hA,m⟩:=hrel;by_cases q:k<l.length
  ·have u:l[k]?=some l[k]:=gE q;have hA2:=hA.out;rw[List.drop_eq_getElem_cons q]at hA2;have F:=D.out l[k] (List.getElem_mem q);generalize l[k]=a at *;obtain⟨b,off,M,rfl,C,hC⟩:=vZ (y.out.on m) u;obtain⟨x,hG,B,hf⟩:=Ga hA2.2;obtain⟨hcall,p⟩:=z.out _ _ _ hA2.1 F hG;have d:=λv W (hv:ai W v x)=>tZ v x W hv;have hcall2:=zH (hcall u3 M wr hO.out C);have I:(k:Int)<l.length:=oM;have r:=hC.cell 0 sM;simp only[List.getElem?_cons_zero,Nat.add_zero,nU]at r;clear hA hA2 hC hcall u hG;cases hcb:lX x
   ·have j:=zH (hf hcb);rw[hcb]at d;replace d:=zH d;replace p:=zH p;clear B hf hcb
    go_wp2_with (first
     | (refine ak rfl _ _ 75 rfl polyT Tryz.underlying75 _ 1 24 kM _ _ _ rfl .i64 _ rfl k rfl q b off rfl ?_;rw[nU])
     | (go_at_call 16;refine hcall2.out.mono ?_;rintro en w3 ⟨v3,rfl,hv3,hb3⟩)
     | (go_at_call 50;refine(d.out _ _ hv3).mono ?_;rintro en w4 ⟨rfl,hb4⟩))
    have hb34:=hb3.trans (hb4.mono hb3.size);go_roundw
    case rel=>exact⟨k+1,x,oM,nM,zH (hv3.on hb4),zH ⟨p.out,j.out⟩,m.trans (hb34.mono m.size)⟩
    case measure=>simp[intOf];omega
   ·have j:=zH (B hcb);rw[hcb]at d;replace d:=zH d;replace p:=zH p;clear B hf hcb
    go_wp2_with (first
     | (refine ak rfl _ _ 75 rfl polyT Tryz.underlying75 _ 1 24 kM _ _ _ rfl .i64 _ rfl k rfl q b off rfl ?_;rw[nU])
     | (go_at_call 16;refine hcall2.out.mono ?_;rintro en w3 ⟨v3,rfl,hv3,hb3⟩)
     | (go_at_call 50;refine(d.out _ _ hv3).mono ?_;rintro en w4 ⟨rfl,hb4⟩))
    go_ret;exact⟨_,rfl,by rw[j.out];exact hv3.on hb4,m.trans ((hb3.trans (hb4.mono hb3.size)).mono m.size)⟩
  ·obtain rfl:k=l.length:=oM
   have s:Hid (g=n):=by have:=hA.out.2;rw[List.drop_of_length_le (nL _),vB]at this;exact zH (Option.some.inj this).symm
   go_wp2;go_ret;exact⟨_,rfl,by rw[s.out];exact hO.out,m⟩
theorem Oh{G:List aj->List aj->Option (List aj)}(d:D5 G):∀{l:List (List aj)}{acc g:List aj},(∀c∈l,Wp c)->Wp acc->vB G acc l=some g->Wp g
 | [],acc,g,_,ha,h=>by rw[vB,sJ]at h;subst h;exact ha
 | a::l,acc,g,hw,ha,h=>by
  obtain⟨e,i,j,hf⟩:=Ga h;have b:=(d _ _ _ ha (hw a sM) i).2;cases hc:lX e
  ·exact Oh d (λc hc=>hw c (by simp[hc])) b (hf hc)
  ·rw[j hc];exact b
theorem uf{G:List aj->List aj->Option (List aj)}(b:D5 G){a g:List aj}{v:Nat}(d:Wp a)(h:ni G a v=some g):Wp g:=Oh b (λ_ hc=>d.coeffs hc) Wp.nil h
theorem mP{G:List aj->List aj->Option (List aj)}(i:D5 G)(d:Value)(a g:List aj)(v:Nat)(w:World)(hv:v<4)(ha:ai w d a)(b:Wp a)(h:ni G a v=some g) :
  Calls Tryz.prog 18 #[d,.int .i64 v] w (aP w g):=by
 have h1:=xh d a v w ha hv b.val.nat (by have:=(b.deg v).2;omega) (by have:=b.len;omega);have h2:=λvl W (k:jq W vl (aB a v))=>UX i vl (aB a v) g W k (by rw[eB];have:=(b.deg v).2;omega) (λc hc=>b.coeffs hc) h;obtain⟨l,m,rfl,j⟩:=ha.shape;replace h2:=zH h2;clear h i b
 go_enter Tryz.func18,Tryz.ntmps18
 go_wp2_with (first
  | (go_at_call 62;refine h1.mono ?_;rintro en w3 ⟨v3,rfl,hv3,hb3⟩)
  | (go_at_call 61;refine(h2.out _ _ hv3).mono ?_;rintro en w4 ⟨v4,rfl,hv4,hb4⟩))
 go_ret;exact⟨_,rfl,hv4,hb3.trans (hb4.mono hb3.size)⟩
theorem Oi{G:List aj->List aj->Option (List aj)}{a p:List aj}{v:Nat}(h:lN G a v=some p):Wp p:=by
 cases a with
 | nil=>simp only[lN,sJ]at h;subst h;exact Wp.nil
 | cons t r =>
  rw[lN]at h
  cases hc:ni G (t::r) v with
  | none=>rw[hc]at h;cases h
  | some c=>rw[hc]at h;exact qX h
theorem rC{G:List aj->List aj->Option (List aj)}(i:D5 G)(d:Value)(a p:List aj)(v:Nat)(w:World)(hv:v<4)(ha:ai w d a)(b:Wp a)(h:lN G a v=some p) :
  Calls Tryz.prog 20 #[d,.int .i64 v] w (aP w p):=by
 match a,ha,b,h with
 | [],ha,b,h =>
  simp only[lN,sJ]at h;subst h;obtain⟨l,m,rfl,j⟩:=ha.shape;simp only[List.length_nil]
  go_enter Tryz.func20,Tryz.ntmps20
  go_wp2;go_ret;exact⟨_,rfl,bV.nil _ _,Below.refl _ _⟩
 | t::r,ha,b,h =>
  rw[lN]at h
  cases hc:ni G (t::r) v with
  | none=>rw[hc]at h;cases h
  | some c =>
   rw[hc]at h;have h1:=mP i d (t::r) c v w hv ha b hc;have k:=uf i b hc;have h2:=λvl W (hb:Below w.heap.size w W) (o:ai W vl c)=>oC d vl (t::r) c p W (ha.on hb) o k h;obtain⟨l,m,rfl,j⟩:=ha.shape;have q:(((t::r).length:Int)==0)=false:=by simp;omega
   replace h2:=zH h2;clear h hc i b k ha;generalize(t::r).length=n at *
   go_enter Tryz.func20,Tryz.ntmps20
   go_wp2_with (first
    | (go_at_call 18;refine h1.mono ?_;rintro en w3 ⟨v3,rfl,hv3,hb3⟩)
    | (go_at_call 56;refine(h2.out _ _ hb3 hv3).mono ?_;rintro en w4 ⟨v4,rfl,hv4,hb4⟩))
   go_ret;exact⟨_,rfl,hv4,hb3.trans (hb4.mono hb3.size)⟩
theorem Oj:∀{l:List (List aj)}{n v:Nat},ut l n=some v->v<n
 | l,n+1,v,h=>by
  rw[ut]at h;split at h
  ·cases h;omega
  ·have:=Oj h;omega
def Ol (o:Option Nat):Int:=match o with
 | none=>-1
 | some v=>v
theorem Kh(I:Value)(l:List (List aj))(w:World)(z:jq w I l)(L:l.length<=100000000)(F:∀c∈l,Wp c):Calls Tryz.prog 52 #[I] w (pX w (.int .i64 (Ol (SV l)))):=by
 obtain⟨N,S,rfl,J⟩:=z.shape;replace F:=zH F;replace z:=zH z;obtain⟨R,hR⟩:∃R,R=Ol (SV l):=⟨_,rfl⟩;rw[<-hR];replace hR:=zH hR
 go_enter Tryz.func52,Tryz.ntmps52
 go_wp2
 go_loopw [3] (λi wr=>∃(n:Nat),n<=4/\i=.int .i64 ((n:Int)-1)/\Hid (R=Ol (ut l n))/\Below w.heap.size w wr) (λi _=>(intOf i+1).toNat)
 case atStart=>exact⟨4,oM,rfl,zH hR.out,Below.refl _ _⟩
 case round =>
  clear hR;obtain⟨n,L,rfl,hR,d⟩:=hrel
  cases n with
  | zero =>
   have j:Hid (R=-1):=zH hR.out;go_wp2;go_ret;exact⟨by rw[j.out];rfl,d⟩
  | succ v =>
   have hv1:(((v+1:Nat):Int)-1)=(v:Int):=oM;have hv4:v<4:=oM;rw[hv1];go_wp2
   go_loopw [12] (λi wr=>∃k:Nat,k<=l.length/\i=.int .i64 k/\Hid (∀c∈l.take k,¬0<aD c v)/\Below w.heap.size w wr) (λi _=>l.length-(intOf i).toNat)
   case atStart=>exact⟨0,oM,rfl,zH (λc hc=>by simp at hc),d⟩
   case round =>
    clear d;obtain⟨k,X,rfl,hA,d⟩:=hrel;by_cases m:k<l.length
    ·have s:l[k]?=some l[k]:=gE m;have y:=F.out l[k] (List.getElem_mem m);have u:l.take (k+1)=l.take k++[l[k]]:=by rw[List.take_add_one,s];rfl
     have o:=List.getElem_mem m;generalize l[k]=a at *;obtain⟨b,off,M,rfl,C,hC⟩:=vZ (z.out.on d) s;have hd:=kD M a v wr C hv4 (by have:=y.len;omega);have G:(k:Int)<l.length:=oM;have r:=hC.cell 0 sM;simp only[List.getElem?_cons_zero,Nat.add_zero,nU]at r;replace hd:=zH hd;replace o:=zH o;replace u:=zH u;clear hC s y;by_cases p:0<aD a v
     ·have q:=zH p;have j:Hid (R=v):=zH (by rw[hR.out,ut,if_pos (List.any_eq_true.2 ⟨a,o.out,by simpa using p⟩)];rfl);generalize aD a v=D at *
      go_wp2_with (first
       | (refine ak rfl _ _ 75 rfl polyT Tryz.underlying75 _ 1 24 kM _ _ _ rfl .i64 _ rfl k rfl m b off rfl ?_;rw[nU])
       | (go_at_call 53;refine hd.out.mono ?_;rintro en w3 ⟨rfl,hb3⟩))
      go_ret;exact⟨by rw[j.out];rfl,d.trans (hb3.mono d.size)⟩
     ·have q:=zH p;generalize aD a v=D at hd p
      go_wp2_with (first
       | (refine ak rfl _ _ 75 rfl polyT Tryz.underlying75 _ 1 24 kM _ _ _ rfl .i64 _ rfl k rfl m b off rfl ?_;rw[nU])
       | (go_at_call 53;refine hd.out.mono ?_;rintro en w3 ⟨rfl,hb3⟩))
      go_roundw
      case rel=>exact⟨k+1,oM,nM,zH (λc hc=>by
       rw[u.out]at hc;rcases List.mem_append.1 hc with hc|hc
       ·exact Int.not_lt.2 (hA.out c hc)
       ·rw[List.mem_singleton.1 hc];exact Int.not_lt.2 q.out),d.trans (hb3.mono d.size)⟩
      case measure=>simp[intOf];omega
    ·obtain rfl:k=l.length:=oM
     have B:Hid (R=Ol (ut l v)):=zH (by
      rw[hR.out,ut,if_neg];intro x;obtain⟨c,hc,hd⟩:=List.any_eq_true.1 x
      exact hA.out c (by rw[tL (nL _)];exact hc) (by simpa using hd))
     go_wp2;go_roundw
     case rel=>exact⟨v,oM,nM,B,d⟩
     case measure=>simp[intOf]
theorem Qb(b:Value)(p:List aj)(v:Nat)(w:World)(hp:ai w b p)(hv:v<4)(i:p.length<=100000000):Calls Tryz.prog 97 #[b,.int .i64 v] w (aP w (aR p v (aD p v))):=by
 have hd:=zH (λW (hb:Below w.heap.size w W)=>gK b p v W (hp.on hb) hv i);have hc:=zH (λW (hb:Below w.heap.size w W)=>xx b p v (aD p v) W (hp.on hb) hv i);generalize aD p v=d at *
 go_enter Tryz.func97,Tryz.ntmps97
 go_wp2_with (first
  | (go_at_call 27;refine(hd.out _ (Below.refl _ _)).mono ?_;rintro e w1 ⟨rfl,hb1⟩)
  | (go_at_call 80;refine(hc.out _ hb1).mono ?_;rintro e w2 ⟨v2,rfl,hv2,hb2⟩))
 go_ret;exact⟨_,rfl,hv2,hb1.trans (hb2.mono hb1.size)⟩
theorem Ta(l:Value)(p:List aj)(n:Nat)(w:World)(s:Sz)(t:Nat->Sz)(hP:Pk s p)(b:∀j,j<n->Pk (t j) (rF p j)/\((t j).mul s).ok)(r:n<=100000000)(hp:ai w l p):Calls Tryz.prog 98 #[l,.int .i64 n] w (aP w (rF p n)):=by
 have hw7:=zH (λW=>Mg 1 ⟨1,1,0,1⟩ W oM oM (zP dK) dK);have hm:=zH (λj (h:j<n) W u (h1:ai W u (rF p j)) (h2:ai W l p)=>NY (b j h).1 hP (b j h).2 h1 h2);replace b:=zH b;replace hp:=zH hp;have hn0:¬(n:Int)<0:=oM
 go_enter Tryz.func98,Tryz.ntmps98
 go_wp2_with (go_at_call 79;refine(hw7.out _).mono ?_;rintro e w1 ⟨v1,rfl,hv1,hb1⟩)
 go_loopw [5,6] (λq k wr=>∃i:Nat,k=.int .i64 i/\Hid (ai wr q (rF p i))/\i<=n/\Below w.heap.size w wr) (λ_ k _=>n-(intOf k).toNat)
 case atStart=>exact⟨0,rfl,zH hv1,oM,hb1⟩
 case round =>
  clear hv1 hb1;obtain⟨i,rfl,ha,o,hb⟩:=hrel;by_cases m:i<n
  ·have d:(i:Int)<n:=oM;have hc:=hm.out i m wr _ ha.out (hp.out.on hb)
   go_wp2_with (go_at_call 12;refine hc.mono ?_;rintro e w3 ⟨v3,rfl,hv3,hb3⟩)
   go_roundw
   case measure=>simp[intOf];omega
   case rel=>exact⟨i+1,nM,zH hv3,oM,hb.trans (hb3.mono hb.size)⟩
  ·obtain rfl:i=n:=oM;have d:¬(i:Int)<i:=oM;go_wp2;go_ret;exact⟨_,rfl,ha.out,hb⟩
end Go.Proofs.YtopclbeomcggiaaGreat
end
