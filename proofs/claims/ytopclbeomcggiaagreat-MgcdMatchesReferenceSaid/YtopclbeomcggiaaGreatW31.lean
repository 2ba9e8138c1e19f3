/- For MpolyCoefficients: sizes of coefficients and of what From puts together; a list of three polynomials. -/
import Derived.Test.YtopclbeomcggiaaGreatW29
import Derived.Test.YtopclbeomcggiaaGreatW30
set_option linter.unusedVariables false
set_option linter.unusedSimpArgs false
set_option maxHeartbeats 16000000
set_option maxRecDepth 100000
section
namespace Q
open Go Go.RowKit Go.Proofs.YtopclbeomcggiaaGreat
theorem Q7{s:Sz}{p:List ai}(h:Bd s p)(v:Nat)(n:Int):Bd s (aN p v n):=by
 have i:Bd s (p.filter λt=>t.1.get v=n):=h.sub List.filter_sublist;refine⟨by unfold aN;rw[List.length_map];exact i.n,λt j=>?_,λt j=>?_,?_⟩
 ·obtain⟨u,hu,rfl⟩:=List.mem_map.1 j;have:=i.e u hu;rcases v with _|_|_|v<;>simp only[Ex.put]<;>omega
 ·obtain⟨u,hu,rfl⟩:=List.mem_map.1 j;exact i.d u hu
 ·have:bI (aN p v n)=bI (p.filter λt=>t.1.get v=n):=by
   unfold aN;generalize p.filter _=l
   induction l with
   | nil=>rfl
   | cons u l k=>simp only[List.map_cons,bI,k]
  rw[this];exact i.b
end Q
namespace Go.Proofs.YtopclbeomcggiaaGreat
open Go.RowKit Q
variable {w:World} {v u x:Value} {p q r:List ai}
theorem uR{d:Option Addr}{n k j:Nat}{L:List (List ai)}{c:List ai}(h:jc w (.slice d n k) L)(i:L[j]?=some c):∃b off v,d=some ⟨b,off,none⟩/\ak w v c/\bS polyT w b (off+j*1) [v]:=by obtain⟨b,off,cs,e,-,⟨v,rfl,hv⟩,l⟩:=h.get i;exact⟨b,off,v,e,hv,l⟩
end Go.Proofs.YtopclbeomcggiaaGreat
end
section
namespace Q
open Go Go.Proofs.YtopclbeomcggiaaGreat
def zb:List ai->Nat
 | []=>1
 | t::l=>Nat.lcm t.2.den (zb l)
theorem qf:∀l,0<zb l
 | []=>Nat.one_pos
 | t::l=>Nat.lcm_pos t.2.den_pos (qf l)
theorem Jc{l:List ai}{t:ai}(h:t∈l):t.2.den∣zb l:=by
 induction l with
 | nil=>cases h
 | cons s l b =>
  rcases List.mem_cons.1 h with rfl|h
  ·exact Nat.dvd_lcm_left _ _
  ·exact Nat.dvd_trans (b h) (Nat.dvd_lcm_right _ _)
theorem Gw(c:Rat):Dv c.den c:=by refine⟨c.num,?_⟩;have e:(c.den:Rat)≠0:=λh=>c.den_nz (by rw[<-Rat.intCast_natCast]at h;have:=Rat.intCast_inj.1 (h.trans Rat.intCast_zero.symm);omega);have b:=Rat.num_divInt_den c;rw[Rat.divInt_eq_div,Rat.intCast_natCast]at b;have d:(c.num:Rat)/(c.den:Rat)*(c.den:Rat)=c.num:=Rat.div_mul_cancel e;rwa[b]at d
def LB:Nat:=17179869184
theorem CK:LB=17179869184:=rfl
def Ws (D B:Nat):Sz:=⟨D,B,100000,10000⟩
def Q8 (l:List ai):Nat:=(bI l).num.natAbs
def UG (l:List ai):Bool :=
 decide (l.length<=10000)&&l.all (λt=>decide (-100000<=t.1.1)&&decide (t.1.1<=100000)&&decide (-100000<=t.1.2.1)&&decide (t.1.2.1<=100000)&&decide (-100000<=t.1.2.2.1)&&decide (t.1.2.2.1<=100000)&&decide (-100000<=t.1.2.2.2)&&decide (t.1.2.2.2<=100000))&&decide (aF (zb l)<=LB)&&decide (aF (Q8 l)<=LB)
theorem VH{c:Rat}(h:0<=c):c<=(c.num.natAbs:Rat):=by
 obtain⟨k,m⟩:=Gw c
 have d:c*(c.den:Rat)=((c.num:Int):Rat):=by have d:(c.den:Rat)≠0:=λh=>c.den_nz (by rw[<-Rat.intCast_natCast]at h;have:=Rat.intCast_inj.1 (h.trans Rat.intCast_zero.symm);omega);have b:=Rat.num_divInt_den c;rw[Rat.divInt_eq_div,Rat.intCast_natCast]at b;have i:(c.num:Rat)/(c.den:Rat)*(c.den:Rat)=c.num:=Rat.div_mul_cancel d;rwa[b]at i
 have b:((c.num.natAbs:Nat):Rat)=((c.num:Int):Rat):=by have l:=Rat.num_nonneg.2 h;rw[<-Rat.intCast_natCast];congr 1;omega
 rw[b,<-d]
 have i:(1:Rat)<=(c.den:Rat):=by have e:(1:Rat)=((1:Nat):Rat):=rfl;rw[e];exact Rat.natCast_le_natCast.2 c.den_pos
 have j:=Rat.mul_le_mul_of_nonneg_left i h;rwa[Rat.mul_one]at j
theorem Q9{l:List ai}(h:UG l=true):Bd (Ws (zb l) (Q8 l)) l/\aF (zb l)<=LB/\aF (Q8 l)<=LB:=by
 simp only[UG,Bool.and_eq_true,decide_eq_true_eq,List.all_eq_true]at h;obtain⟨⟨⟨o,e⟩,k⟩,n⟩:=h;refine⟨⟨o,λt b=>?_,λt b=>?_,VH (lW l)⟩,k,n⟩
 ·obtain⟨⟨⟨⟨⟨⟨⟨s,i⟩,d⟩,r⟩,p⟩,m⟩,q⟩,j⟩:=e t b;exact⟨s,i,d,r,p,m,q,j⟩
 ·exact(Gw t.2).dvd (Jc b)
def CL (l:List ai):Bool:=KS l&&UG l
structure Wk (s:Sz) (p:List ai):Prop where
 v:bR p
 b:Bd s p
 k:s.okw
def Wp (p:List ai):Prop:=∃D B,0<D/\aF D<=LB/\aF B<=LB/\Wk (Ws D B) p
theorem K9{D B:Nat}(h:0<D)(d:aF D<=LB)(b:aF B<=LB):(Ws D B).okw :=
 ⟨h,by show aF D<=_;rw[CK]at d;unfold ji;omega,by show aF B<=_;rw[CK]at b;unfold ji;omega,by show 100000<1000000;omega,by show 10000<=100000000;omega⟩
theorem M9{D b B d:Nat}(h:0<D)(i:aF D<=LB)(k:0<b)(k':aF b<=LB)(hb:aF B<=LB)(kb:aF d<=LB):((Ws D B).mul (Ws b d)).okw:=by
 have e1:=gB D b;have e:=gB B d;rw[CK]at *;refine⟨Nat.mul_pos h k,?_,?_,by show 100000+100000<1000000;omega,by show 10000*10000<=100000000;omega⟩
 ·show aF (D*b)<=_;unfold ji;omega
 ·show aF (B*d)<=_;unfold ji;omega
theorem kF{l:List ai}(h:CL l=true):Wp l:=by rw[CL,Bool.and_eq_true]at h;obtain⟨e,b,d⟩:=Q9 h.2;exact⟨zb l,Q8 l,qf l,b,d,Ct.1 h.1,e,K9 (qf l) b d⟩
theorem TE{l:List ai}(h:UG l=true):Ti l:=by obtain⟨e,b,d⟩:=Q9 h;exact e.oklw (K9 (qf l) b d)
theorem Gx:aF 1<=LB:=by rw[CK];decide
theorem Wp.nil:Wp []:=⟨1,1,oM,Gx,Gx,bR.nil,Bd.nil _,K9 oM Gx Gx⟩
theorem Wp.val{p:List ai}(h:Wp p):bR p:=by obtain⟨_,_,_,_,_,h⟩:=h;exact h.v
theorem Wp.rk{p:List ai}(h:Wp p):∀t∈p,Rk t.2:=by obtain⟨_,_,_,_,_,h⟩:=h;exact h.b.rkw h.k
theorem Wp.ir{p:List ai}(h:Wp p):∀t∈p,InR t.1/\Rk t.2:=by obtain⟨_,_,_,_,_,h⟩:=h;exact λt d=>⟨h.b.inRw h.k t d,h.b.rkw h.k t d⟩
theorem Wp.len{p:List ai}(h:Wp p):p.length<=10000:=by obtain⟨_,_,_,_,_,h⟩:=h;exact h.b.n
theorem Wp.deg{p:List ai}(h:Wp p)(v:Nat):-1<=aD p v/\aD p v<=100000:=by
 obtain⟨_,_,_,_,_,h⟩:=h;refine⟨rA p v,?_⟩;rcases(fQ (λt=>t.1.get v) p (-1)).2.2 with d|⟨t,i,d⟩
 ·show p.foldl _ _<=_;rw[d];omega
 ·show p.foldl _ _<=_;rw[<-d];have:=h.b.e t i;simp only[Ws]at this;rcases v with _|_|_|v<;>simp only[Ex.get]<;>omega
theorem Wp.exps{p:List ai}(h:Wp p){t:ai}(b:t∈p)(v:Nat):0<=t.1.get v/\t.1.get v<=100000 :=
 ⟨Ex.nat_get (h.val.nat t b) v,Int.le_trans (eU b v) (h.deg v).2⟩
theorem Wp.mulOk{p q:List ai}(h:Wp p)(d:Wp q):QN p q:=by have i1:=h.ir;have i2:=d.ir;have j:=h.len;have l2:=d.len;obtain⟨D,B,d1,d2,d3,h⟩:=h;obtain⟨k,l,e1,i,e,d⟩:=d;exact⟨i1,i2,(h.b.prods d.b).oklw (M9 d1 d2 e1 i d3 e),oM,oM⟩
theorem Wp.prod{p q:List ai}(h:Wp p)(d:Wp q):(∀t∈aX p q,Rk t.2)/\(aX p q).length<=100000000:=by obtain⟨D,B,d1,d2,d3,h⟩:=h;obtain⟨k,l,e1,j,i,d⟩:=d;have hb:=(h.b.prods d.b).canon;have e:=M9 d1 d2 e1 j d3 i;exact⟨hb.rkw e,Nat.le_trans hb.n e.2.2.2.2⟩
theorem Wp.coeff{p:List ai}(h:Wp p)(v:Nat)(n:Int):Wp (aN p v n):=by obtain⟨D,B,d1,d2,d3,h⟩:=h;exact⟨D,B,d1,d2,d3,h.v.coeff v n,Q7 h.b v n,h.k⟩
theorem Wp.coeffs{p c:List ai}(h:Wp p){v:Nat}(hc:c∈aA p v):Wp c:=by obtain⟨n,rfl⟩:=eu hc;exact h.coeff v n
def g1 (p:List ai):Option (List ai):=if CL p then some p else none
theorem jP{p q:List ai}(h:g1 p=some q):q=p/\Wp p:=by
 unfold g1 at h;split at h
 ·cases h;exact⟨rfl,kF aM⟩
 ·cases h
def qU (b:List ai) (g:ai):Nat->List ai->List ai->Option (Option (List ai))
 | 0,_,_=>none
 | _+1,[],out=>some (some out)
 | n+1,m::a,out =>
  if CL (m::a)then
   if(m.1.sub g.1).nat then
    if CL [gI m g]then qU b g n (gH (m::a) (aX b [gI m g])) (out++[gI m g])else none
   else some none
  else none
theorem TF{m g:ai}(hm:∀v,0<=m.1.get v/\m.1.get v<=100000)(hg:∀v,0<=g.1.get v/\g.1.get v<=100000):InR (m.1.sub g.1):=by have d:=hm 0;have j:=hm 1;have e:=hm 2;have b:=hm 3;have b0:=hg 0;have b1:=hg 1;have h:=hg 2;have i:=hg 3;simp only[Ex.get]at *;exact InR.of (K:=100000) oM (by simp only[Ex.sub];omega)
theorem Ra{b ts:List ai}{g:ai}(hb:Wp b)(hg:b=g::ts):∀{n:Nat}{a out:List ai}{r:Option (List ai)},qU b g n a out=some r->out.length+n<=100000000->∃k,yU b g k a out r:=by
 have d:g∈b:=by rw[hg];simp
 intro n
 induction n with
 | zero=>intro a out r h;simp[qU]at h
 | succ n j =>
  intro a out r h o
  cases a with
  | nil=>simp only[qU,Option.some.injEq]at h;subst h;exact⟨0,.done⟩
  | cons m a =>
   rw[qU]at h;split at h
   next h1 =>
    have e:=kF h1;have i:M4 b g m a:=⟨TF (λv=>e.exps sM v) (λv=>hb.exps d v),e.rk m sM,hb.rk g d,(hb.val.2 g d).1⟩;split at h
    next h2 =>
     split at h
     next h3 =>
      have hq:=kF h3;obtain⟨k,l⟩:=j h (by simp;omega);exact⟨k+1,.step h2 i ⟨hq.rk (gI m g) sM,⟨hb.ir,by have:=hb.len;omega⟩,(hb.mulOk hq).ko,⟨e.rk,by have:=e.len;omega,e.val⟩,hb.prod hq⟩ oM l⟩
     next=>cases h
    next h2 =>
     simp only[Option.some.injEq]at h;subst h;exact⟨0,.fail (by simpa using h2) i⟩
   next=>cases h
def fuel:Nat:=10000000
def ze (a b:List ai):Option (Option (List ai)):=match b with
 | []=>some none
 | g::_=>qU b g fuel a []
def iO (a b:List ai):Option (List ai):=match ze a b with
 | some r=>g1 (r.getD [])
 | none=>none
def La (D:List (List ai)):Nat->List (List ai)->Bool
 | 0,_=>true
 | f+1,R=>if D.length-1<R.length then R.all CL&&La D f (fO D R)else true
theorem Jd{D:List (List ai)}(j:∀c∈D,Wp c):∀{f:Nat}{R:List (List ai)},La D f R=true->IY D f R
 | 0,_,_=>trivial
 | f+1,R,h=>λe=>by
  rw[La,if_pos e,Bool.and_eq_true,List.all_eq_true]at h
  have d:∀i,Wp (R.getD i []):=λi=>by
   rcases Nat.lt_or_ge i R.length with hi|hi
   ·rw[List.getD_eq_getElem?_getD,List.getElem?_eq_getElem hi];exact kF (h.1 _ (List.getElem_mem hi))
   ·rw[List.getD_eq_getElem?_getD,List.getElem?_eq_none hi];exact Wp.nil
  have b:∀i,Wp (D.getD i []):=λi=>by
   rcases Nat.lt_or_ge i D.length with hi|hi
   ·rw[List.getD_eq_getElem?_getD,List.getElem?_eq_getElem hi];exact j _ (List.getElem_mem hi)
   ·rw[List.getD_eq_getElem?_getD,List.getElem?_eq_none hi];exact Wp.nil
  exact⟨λi _=>⟨(d _).mulOk (b _),λ_=>⟨(d _).mulOk (b _),((d _).prod (b _)).1,((d _).prod (b _)).1,⟨((d _).prod (b _)).2,((d _).prod (b _)).2⟩,bR.mul _ _,bR.mul _ _⟩⟩,Jd j h.2⟩
def Sw (a b:List ai) (v:Nat):Option (List ai) :=
 let D:=aA b v;let R:=aA a v;let r:=gm D R.length R
 if b≠[]/\La D R.length R=true/\UG (fromL v 0 r)=true/\r.all CL=true then g1 (tu r v)else none
def Gy:List ai:=[(e0,1)]
def jQ (a:List ai):Option (List ai):=match a with
 | []=>some []
 | t::_=>g1 (bN a (1/t.2))
def kY (a:List ai):Bool:=match a with
 | [t]=>decide (t.1=e0)
 | _=>false
def sO (l:List (List ai)):Nat->Option Nat
 | 0=>none
 | v+1=>if l.any (λa=>decide (0<aD a v))then some v else sO l v
def Rb (l:List (List ai)):Option Nat:=sO l 4
def ut (G:List ai->List ai->Option (List ai)):List ai->List (List ai)->Option (List ai)
 | acc,[]=>some acc
 | acc,a::l=>match G acc a with
  | none=>none
  | some g=>if kY g then some g else ut G g l
def mD (G:List ai->List ai->Option (List ai)) (a:List ai) (v:Nat):Option (List ai):=ut G [] (aA a v)
def kT (G:List ai->List ai->Option (List ai)) (a:List ai) (v:Nat):Option (List ai):=match a with
 | []=>some []
 | t::l=>match mD G (t::l) v with
  | none=>none
  | some c=>iO (t::l) c
def si (m:ai) (v at_:Nat):Nat->Nat
 | 0=>dY m.2.num*jA (dY m.2.den) (pr-2)%pr
 | w+1=>if w=v then si m v at_ w else si m v at_ w*jA (at_+w) (m.1.get w).toNat%pr
def Lb (m:ai) (v at_:Nat):Nat:=si m v at_ 4
def jo (v at_:Nat):List ai->List Nat->Option (List Nat)
 | [],out=>some out
 | m::l,out=>if dY m.2.den=0 then none else jo v at_ l (out.set (m.1.get v).toNat ((out.getD (m.1.get v).toNat 0+Lb m v at_)%pr))
def iV (a:List ai) (v at_:Nat):Option (List Nat):=jo v at_ a (List.replicate (aD a v+1).toNat 0)
def il (o:Option (List Nat)):Bool:=match o with
 | none=>false
 | some l=>decide (l.getD (l.length-1) 0≠0)
def strip:List Nat->List Nat
 | []=>[]
 | x::l=>match strip l with
  | []=>if x=0 then []else [x]
  | y::r=>x::y::r
def fC (b rest:List Nat) (f at_:Nat):Nat->List Nat
 | 0=>rest
 | i+1=>(fC b rest f at_ i).set (at_+i) (((fC b rest f at_ i).getD (at_+i) 0+(pr-b.getD i 0)*f)%pr)
def kU (b:List Nat) (inv:Nat):Nat->List Nat->Option (List Nat)
 | 0,_=>none
 | n+1,r=>if b.length<=r.length then kU b inv n (strip (fC b r (r.getD (r.length-1) 0*inv%pr) (r.length-b.length) b.length))else some r
def gY:Nat->List Nat->List Nat->Option Nat
 | 0,_,_=>none
 | n+1,a,b=>if b=[]then some a.length else match kU b (jA (b.getD (b.length-1) 0) (pr-2)) fuel a with
  | none=>none
  | some r=>gY n b r
def mZ (a b:List Nat):Option Nat:=if a.length<b.length then gY fuel b a else gY fuel a b
def jR (a b:List ai) (v:Nat):List Nat->Option Int
 | []=>some (min (aD a v) (aD b v))
 | k::l=>match iV a v (17+100*k),iV b v (17+100*k)with
  | some x,some y=>if il (some x)&&il (some y)then(mZ x y).map (λn=>(n:Int)-1)else jR a b v l
  | _,_=>jR a b v l
def zf (a b:List ai) (v:Nat):Option Int:=jR a b v [0,1,2]
def qV (G:List ai->List ai->Option (List ai)) (v:Nat):Nat->List ai->List ai->Option (List ai)
 | 0,_,_=>none
 | n+1,a,b=>match Sw a b v with
  | none=>none
  | some []=>some b
  | some (t::r)=>if aD (t::r) v=0 then some Gy else match kT G (t::r) v with
   | none=>none
   | some p=>match jQ p with
    | none=>none
    | some q=>qV G v n b q
def Am (G:List ai->List ai->Option (List ai)) (a b:List ai) (v:Nat):Option (List ai):=match zf a b v with
 | none=>none
 | some m=>if m=0 then some Gy else match ze a b with
  | none=>none
  | some r=>if r.isSome&&decide (m=aD b v)then some b else qV G v fuel a b
def Ef (G:List ai->List ai->Option (List ai)) (a b:List ai) (v:Nat):Option (List ai):=if aD a v<aD b v then Am G b a v else Am G a b v
def fD {α β:Type} (a:Option α) (f:α->Option β):Option β:=match a with
 | none=>none
 | some x=>f x
def Rc (G:List ai->List ai->Option (List ai)) (a b:List ai):Option (List ai) :=
 if a=[]then jQ b else if b=[]then jQ a else if kY a=true\/kY b=true then some Gy else
 fD (Rb [a,b]) λv =>
  if aD b v=0 then fD (mD G a v) λc=>G c b
  else if aD a v=0 then fD (mD G b v) λc=>G a c
  else fD (mD G a v) λx=>fD (mD G b v) λy=>fD (G x y) λg=>fD (iO a x) λp=>fD (iO b y) λq=>fD (Ef G p q v) λs=>fD (g1 (aX g s)) jQ
def Ym:Nat->List ai->List ai->Option (List ai)
 | 0,_,_=>none
 | n+1,a,b=>Rc (Ym n) a b
def CO (G:List ai->List ai->Option (List ai)) (v:Nat):Nat->Nat->List ai->List ai->List (List ai × Nat)->Option (List (List ai × Nat))
 | 0,_,_,_,_=>none
 | f+1,n,w,y,out=>if 0<aD w v then
   fD (g1 (dC w v)) λd=>fD (g1 (gH y d)) λz=>fD (G w z) λg=>fD (iO w g) λw'=>fD (iO z g) λy' =>
    CO G v f (n+1) w' y' (if 0<aD g v then out++[(g,n)]else out)
  else some out
def WR (G:List ai->List ai->Option (List ai)) (a:List ai) (v:Nat):Option (List (List ai × Nat)) :=
 fD (kT G a v) λp=>if aD p v<1 then some []else
  fD (g1 (dC p v)) λd=>fD (G p d) λg=>fD (iO p g) λw=>fD (iO d g) λy=>CO G v fuel 1 w y []
end Q
end
section
namespace Q
open Go Go.RowKit Go.Proofs.YtopclbeomcggiaaGreat
def wO:El Nat where
 T:=xE
 sz:=1
 pos:=by decide
 E _ cs x:=cs=[.int .u64 (x:Int)]/\x<2147483647
 len:=by rintro w c t ⟨rfl,-⟩;rfl
 one:=by rintro w c t ⟨rfl,-⟩ v hv;simp only[List.mem_cons,List.not_mem_nil,or_false]at hv;subst hv;rfl
 on:=λh _=>h
 ok _:=True
 lr:=λh _ _=>h
 self:=trivial
def nc (l:List Nat):List Value:=l.map (λx:Nat=>Value.int .u64 (x:Int))
def Eg (l:List Nat):Prop:=∀x∈l,x<2147483647
theorem Lc(l:List Nat):(nc l).length=l.length:=by simp[nc]
theorem Eg.nil:Eg []:=λ_ h=>by cases h
theorem Eg.getD{l:List Nat}(h:Eg l)(i:Nat):l.getD i 0<2147483647:=by
 rcases Nat.lt_or_ge i l.length with hi|hi
 ·rw[List.getD_eq_getElem?_getD,List.getElem?_eq_getElem hi];exact h _ (List.getElem_mem hi)
 ·rw[List.getD_eq_getElem?_getD,List.getElem?_eq_none hi];decide
theorem Eg.set{l:List Nat}(h:Eg l)(i:Nat){x:Nat}(d:x<2147483647):Eg (l.set i x):=λy b=>by
 rcases List.mem_or_eq_of_mem_set b with b|rfl
 ·exact h y b
 ·exact d
theorem Eg.sub{l r:List Nat}(h:Eg l)(b:∀x∈r,x∈l):Eg r:=λx d=>h x (b x d)
theorem xN{w:World}:∀{l:List Nat}{d:List Value},eO wO.E w d l↔d=nc l/\Eg l
 | [],d=>by
  constructor
  ·intro h;exact⟨h,Eg.nil⟩
  ·rintro⟨h,-⟩;exact h
 | x::l,d=>by
  constructor
  ·rintro⟨c,r,rfl,⟨rfl,e⟩,h⟩;obtain⟨rfl,i⟩:=xN.1 h
   exact⟨rfl,λy b=>by
    rcases List.mem_cons.1 b with rfl|b
    ·exact e
    ·exact i y b⟩
  ·rintro⟨rfl,h⟩;exact⟨_,_,rfl,⟨rfl,h x sM⟩,xN.2 ⟨rfl,λy b=>h y (by simp[b])⟩⟩
theorem sj{w:World}{v:Value}{l:List Nat}:bU wO w v l↔∃b cap,v=.slice b l.length cap/\l.length<=cap/\At xE w b (nc l)/\Eg l:=by
 constructor
 ·rintro⟨b,cap,j,rfl,e,d,h⟩;obtain⟨rfl,i⟩:=xN.1 h;exact⟨b,cap,rfl,e,d,i⟩
 ·rintro⟨b,cap,rfl,e,d,h⟩;exact⟨b,cap,nc l,rfl,e,d,xN.2 ⟨rfl,h⟩⟩
theorem Ld(l:List Nat)(j:Nat)(b:j<l.length):(nc l)[j]?=some (Value.int .u64 ((l.getD j 0:Nat):Int)):=by rw[nc,List.getElem?_map,List.getElem?_eq_getElem b,List.getD_eq_getElem?_getD,List.getElem?_eq_getElem b];rfl
theorem _root_.Go.RowKit.Blk.nsl{w:World}{g:Nat}{l:List Nat}(h:Blk w g xE (nc l))(b:Eg l):bU wO w (.slice (some ⟨g,0,none⟩) l.length l.length) l :=
 sj.2 ⟨_,_,rfl,Nat.le_refl _,h.at,b⟩
theorem Blk.ncell{w:World}{g:Nat}{T:TypeId}{l:List Nat}(h:Blk w g T (nc l))(j:Nat)(b:j<l.length):w.cell? ⟨g,j,none⟩=some (.int .u64 ((l.getD j 0:Nat):Int)):=by rw[h.cell,Ld _ _ b]
theorem bS.ncell{T:TypeId}{w:World}{b off:Nat}{l:List Nat}(h:bS T w b off (nc l))(j:Nat)(d:j<l.length):w.cell? ⟨b,off+j,none⟩=some (.int .u64 ((l.getD j 0:Nat):Int)):=by rw[h.cell j (by rw[Lc];exact d),Ld _ _ d]
theorem Blk.nset{w:World}{g:Nat}{T:TypeId}{l:List Nat}(h:Blk w g T (nc l))(j x:Nat):Blk (w.setCell ⟨g,j,none⟩ (.int .u64 (x:Int))) g T (nc (l.set j x)):=by have:=h.set j (.int .u64 (x:Int));rwa[show nc (l.set j x)=(nc l).set j (.int .u64 (x:Int)) by rw[nc,List.map_set];rfl]
theorem zY(n:Nat):(List.replicate n (Value.int IntKind.u64 0).cells[0]!)=nc (List.replicate n 0):=by simp[nc,Value.cells]
theorem CP(x:Nat):x%pr<2147483647:=Nat.mod_lt _ dM
theorem Je(n:Nat):Eg (List.replicate n 0):=λx b=>by rw[List.eq_of_mem_replicate b];decide
end Q
namespace Go.Proofs.YtopclbeomcggiaaGreat
open Go.RowKit Q
theorem kR:(Tryz.prog.info? 97).map (λi=>(i.zero,i.size,i.bytes))=some (some (.int .u64 0),1,8):=kM
end Go.Proofs.YtopclbeomcggiaaGreat
end
section
namespace Q
open Go Go.RowKit Go.Proofs.YtopclbeomcggiaaGreat
theorem zh{v at_:Nat}:∀{a:List ai}{out o:List Nat},jo v at_ a out=some o->o.length=out.length/\(Eg out->Eg o)
 | [],out,o,h=>by rw[jo,Option.some.injEq]at h;subst h;exact⟨rfl,λh=>h⟩
 | m::a,out,o,h=>by
  rw[jo]at h;split at h
  ·cases h
  ·obtain⟨b,e⟩:=zh h;exact⟨by rw[b,List.length_set],λd=>e (d.set _ (CP _))⟩
theorem kG{P:Program}{w:World}{ops:Array Oper}{rest:List Oper}{o:Oper}{a:Act}{R:Exit->Act->World->Prop}(d:o.guard=none){t:TypeId}{x i:Operand}(l:o.op=.index t x i){v u r:Value}(e:a.eval x=v)(k:a.eval i=u)
  (b:(Instr.index t v u).run P w=.ok r w) (h:wpList P ops R rest (a.put o.dst r) w):wpList P ops R (o::rest) a w:=by
 refine wpList_plain d λK j=>?_;unfold Oper.wp
 have:(execOp a.eval o).run P w=.ok (.value r) w:=by unfold execOp;rw[l];simp[e,k,b,Result.andThen]
 rw[this];exact j _ _ h
end Q
namespace Go.Proofs.YtopclbeomcggiaaGreat
open Go.RowKit Q Go.WideMaps Go.Maps
theorem WS(a b c d:Int)(w:World):(Instr.index 36 (.agg #[.int .i64 a,.int .i64 b,.int .i64 c,.int .i64 d]) (.int .i64 0)).run Tryz.prog w=.ok (.int .i64 a) w:=kM
theorem WT(a b c d:Int)(w:World):(Instr.index 36 (.agg #[.int .i64 a,.int .i64 b,.int .i64 c,.int .i64 d]) (.int .i64 1)).run Tryz.prog w=.ok (.int .i64 b) w:=kM
theorem WU(a b c d:Int)(w:World):(Instr.index 36 (.agg #[.int .i64 a,.int .i64 b,.int .i64 c,.int .i64 d]) (.int .i64 2)).run Tryz.prog w=.ok (.int .i64 c) w:=kM
theorem WV(a b c d:Int)(w:World):(Instr.index 36 (.agg #[.int .i64 a,.int .i64 b,.int .i64 c,.int .i64 d]) (.int .i64 3)).run Tryz.prog w=.ok (.int .i64 d) w:=kM
def Re (w:World) (o:Option (List Nat)) (e:Ending) (w':World):Prop:=∃v,e=.returned (.tuple #[v,.bool (il o)])/\(∀l,o=some l->bU wO w' v l)/\Below w.heap.size w w'
theorem E9(va:Value)(a:List ai)(v at_:Nat)(w:World)(ha:ak w va a)(ka:Wp a)(hv:v<4)(M:a≠[])(b3:at_<=1000) :
  Calls Tryz.prog 118 #[va,.int .i64 v,.int .u64 at_] w (Re w (iV a v at_)):=by
 have a2:=jO va a v w ha hv (by have:=ka.len;omega);have hd2:=(ka.deg v).2
 have a0:∀t∈a,0<=t.1.get v/\(t.1.get v).toNat<(aD a v+1).toNat:=λt ht=>by have h1:=(ka.exps ht v).1;have h2:=eU ht v;omega
 have hd0:0<=aD a v:=by obtain⟨t,ht⟩:=List.exists_mem_of_ne_nil _ M;have:=a0 t ht;omega
 obtain⟨D,hD⟩:∃D:Nat,aD a v=D:=⟨(aD a v).toNat,oM⟩;have ac:iV a v at_=jo v at_ a (List.replicate (D+1) 0):=by rw[iV,hD];congr 1
 rw[ac];clear ac;obtain⟨L,hR⟩:∃L,L=jo v at_ a (List.replicate (D+1) 0):=⟨_,rfl⟩;rw[<-hR];rw[hD]at a2 a0 hd2;have a8:∀t∈a,0<=t.1.get v/\(t.1.get v).toNat<D+1:=λt ht=>by have:=a0 t ht;omega
 have hD2:D<=100000:=oM;have p:=λt (ht:t∈a) u=>ka.exps ht u;have ao:=ka.rk;have b6:a.length<=10000:=ka.len;obtain⟨aa,ca,rfl,b5⟩:=ha.shape;replace hR:=zH hR;replace a0:=zH a8;replace p:=zH p;replace ao:=zH ao;replace ha:=zH ha;have hv4:(v:Int)<4:=oM;clear a8 M ka hd0 hD
 go_enter Tryz.func118,Tryz.ntmps118
 go_wp2_with (first
  | (go_at_call 53;refine a2.mono ?_;rintro en w1 ⟨rfl,hb1⟩)
  | (at_make;refine bL rfl _ _ _ rfl _ (.int .u64 0) 1 8 Tryz.underlying94 kR rfl rfl .i64 .i64 _ _ (D+1) rfl rfl oM oM oM oM ?_;intro w2 own2 gr2))
 rw[zY]at own2;have au:=hb1.size;have aw:w.heap.size<=w1.heap.size:=au;generalize hg:w1.heap.size=g at *;have hb12:=hb1.trans (gr2.mono au);have a9:Hid (Blk w2 g xE (nc (List.replicate (D+1) 0))):=zH own2;clear own2 gr2 hb1 hg
 go_loopw [22] (λi wr=>∃(k:Nat)(out:List Nat),k<=a.length/\i=.int .i64 k/\Hid (Blk wr g xE (nc out))/\out.length=D+1/\Hid (Eg out)/\Hid (L=jo v at_ (a.drop k) out)/\Below w.heap.size w wr) (λi _=>a.length-(intOf i).toNat)
 case atStart=>exact⟨0,_,oM,rfl,a9,sM,zH (Je _),zH hR.out,hb12⟩
 case round =>
  clear a9 hb12 hR;obtain⟨k,out,hk,rfl,hO,al,ap,hR,B⟩:=hrel;by_cases a5:k<a.length
  ·have av:a[k]?=some a[k]:=List.getElem?_eq_getElem a5;have hR2:=hR.out;rw[List.drop_eq_getElem_cons a5]at hR2;have o:=List.getElem_mem a5;generalize a[k]=t at *;obtain⟨bq,oq,rt,e1,a4,hC⟩:=fB (ha.out.on B) av;have hx0:=p.out t o 0;have hx1:=p.out t o 1;have hx2:=p.out t o 2;have hx3:=p.out t o 3;have a7:=a0.out t o;have Z:=ao.out t o;obtain⟨⟨z0,z1,z2,z3⟩,q⟩:=t;simp only[Ex.get]at hx0 hx1 hx2 hx3;obtain⟨n0,rfl⟩:=Int.eq_ofNat_of_zero_le hx0.1;obtain⟨n1,rfl⟩:=Int.eq_ofNat_of_zero_le hx1.1;obtain⟨n2,rfl⟩:=Int.eq_ofNat_of_zero_le hx2.1;obtain⟨n3,rfl⟩:=Int.eq_ofNat_of_zero_le hx3.1;obtain⟨n,I⟩:∃n:Nat,Ex.get ((n0:Int),(n1:Int),(n2:Int),(n3:Int)) v=(n:Int):=⟨_,(Int.toNat_of_nonneg a7.1).symm⟩;rw[I]at a7;have hnvl:n<D+1:=by simpa using a7.2
   have b2:(k:Int)<(a.length:Int):=oM;have hr:=hC.range;have h8:(bC ((n0:Int),(n1:Int),(n2:Int),(n3:Int))++rt).length=8:=by rw[List.length_append,a4.len];rfl
   have ax:=a4.len;subst e1;replace hR2:=zH hR2;clear hR av o a7 a2
   go_upto_region 5 with (first
    | (refine aj rfl _ _ 27 rfl aJ Tryz.underlying27 _ 8 96 kM _ _ _ rfl .i64 _ rfl k rfl a5 bq oq rfl ?_)
    | (refine wpList_load_mid rfl 43 _ rfl _ _ rfl _ _ hr Tryz.underlying43 rfl (by rw[h8];kernel_rfl) ?_)
    | (refine az rfl _ (.tmp 10) (.tmp 25) rfl _ _ _ _ rfl rfl (Blk.new wr aJ [.int .i64 0,.int .i64 0,.int .i64 0,.int .i64 0,.bool false,.slice none 0 0,.bool false,.slice none 0 0]) (by simp[bC,ax]) (by simp only[List.size_toArray,h8];exact yQ) (Cs a4) ?_;intro W3 R3 gr3))
   have hE:bC ((n0:Int),(n1:Int),(n2:Int),(n3:Int))=[.int .i64 n0,.int .i64 n1,.int .i64 n2,.int .i64 n3]:=rfl;have S:Blk W3 wr.heap.size aJ (bC ((n0:Int),(n1:Int),(n2:Int),(n3:Int))++rt):=by simpa using R3
   have ar:Below wr.heap.size wr (wr.alloc (.cells #[.int .i64 0,.int .i64 0,.int .i64 0,.int .i64 0,.bool false,.slice none 0 0,.bool false,.slice none 0 0] aJ)):=(Below.refl _ _).alloc (Nat.le_refl _) _;have hb3:Below wr.heap.size wr W3:=ar.trans (aH gr3 sM (Nat.le_refl _));have hbr3:=B.trans (hb3.mono B.size);have hO3:=hO.out.on hb3;have hrt3:=a4.on hb3;have b4:g<wr.heap.size:=hO.out.lt;have b8:w.heap.size<=wr.heap.size:=B.size;clear hr R3 gr3 ar hb3 hC a4 B hO h8;generalize wr.heap.size=mb at *;obtain⟨N1,A1,K1,C1,N2,A2,K2,C2,rfl,i1,i2⟩:=hrt3;simp only at i1 i2 Z;rw[hE]at S;have y0:=S.at1 0 _ rfl;have y1:=S.at1 1 _ rfl;have y2:=S.at1 2 _ rfl;have y3:=S.at1 3 _ rfl;have y4:=S.at1 4 _ rfl;have y5:=S.at1 5 _ rfl;have y6:=S.at1 6 _ rfl;have y7:=S.at1 7 _ rfl;have J:=zW _ _ _ W3 i2 Z.den';have hR3:=hR2.out;rw[jo]at hR3;clear hR2;have hdl9:=qc (q.den:Int);by_cases hz:dY (q.den:Int)=0
   ·rw[if_pos hz]at hR3;rw[hz]at J;replace hR3:=zH hR3;clear hz hdl9
    go_wp2_with (go_at_call 136;refine J.mono ?_;rintro en w4 ⟨rfl,hb4⟩)
    go_ret2;exact⟨_,by rw[hR3.out];rfl,(λl hl=>by rw[hR3.out]at hl;cases hl),hbr3.trans (hb4.mono hbr3.size)⟩
   ·rw[if_neg hz]at hR3;have G:=λW (hb:Below W3.heap.size W3 W)=>zW _ _ _ W (i1.on hb) Z.num';have a6:=λW=>yK (dY (q.den:Int)) 2147483645 W oM oM;have aE:=qc q.num;have hX0:si (((n0:Int),(n1:Int),(n2:Int),(n3:Int)),q) v at_ 0=dY q.num*jA (dY (q.den:Int)) 2147483645%pr:=rfl;have a3:=uM (dY (q.den:Int)) 2147483645;rw[jm]at a3;generalize hdd:dY (q.den:Int)=d at *;generalize dY q.num=nn at *;generalize jA d 2147483645=pp at *;have b0:((d:Int)==0)=false:=by simp;omega
    have ay:nn*pp<=2147483647*2147483647:=Nat.mul_le_mul oM oM;obtain⟨X0,hX⟩:∃X0,X0=nn*pp%2147483647:=⟨_,rfl⟩;have aq:((nn:Int)*(pp:Int))%2147483647=(X0:Int):=by rw[hX];simp
    rw[jm,<-hX]at hX0;have F:X0<2147483647:=by rw[hX];exact Nat.mod_lt _ dM
    replace hX0:=zH hX0;replace hR3:=zH hR3;replace G:=zH G;replace a6:=zH a6;clear hX hdd hz aE a3 hdl9
    go_upto_region 8 with (go_at_call 136;refine J.mono ?_;rintro en w4 ⟨rfl,hb4⟩)
    have BB4:=S.on hb4;replace y4:=BB4.at1 4 _ rfl;replace y5:=BB4.at1 5 _ rfl
    go_upto_region 9 with (first
     | (go_at_call 136;refine(G.out _ hb4).mono ?_;rintro en w5 ⟨rfl,hb5⟩)
     | (go_at_call 137;refine(a6.out _).mono ?_;rintro en w6 ⟨rfl,hb6⟩))
    have hb46:=hb4.trans ((hb5.trans (hb6.mono hb5.size)).mono hb4.size);have BB6:=S.on hb46;have hO6:=zH (hO3.on hb46);have hbr6:=hbr3.trans (hb46.mono hbr3.size);replace y0:=BB6.at1 0 _ rfl;replace y1:=BB6.at1 1 _ rfl;replace y2:=BB6.at1 2 _ rfl;replace y3:=BB6.at1 3 _ rfl;have ag:=zH BB6;clear S BB4 BB6 hb4 hb5 hb6 hb46 y4 y5 y6 y7 hO3 hbr3 i1 i2 J G a6;go_wp2
    go_loopw [12,42] (λx i wz=>∃u X:Nat,u<=4/\x=.int .u64 X/\i=.int .i64 u/\X<2147483647/\Hid (si (((n0:Int),(n1:Int),(n2:Int),(n3:Int)),q) v at_ u=X)/\Hid (Blk wz mb aJ ([.int .i64 n0,.int .i64 n1,.int .i64 n2,.int .i64 n3]++[.bool N1,.slice A1 K1 C1,.bool N2,.slice A2 K2 C2]))/\Hid (Blk wz g xE (nc out))/\Below w.heap.size w wz) (λ_ i _=>4-(intOf i).toNat)
    case atStart=>exact⟨0,X0,oM,by rw[aq],nM,F,hX0,ag,hO6,hbr6⟩
    case round =>
     clear ag hO6 hbr6 hX0 F ay aq;obtain⟨u,X,hu,rfl,rfl,F,hX,hB,hO,b⟩:=hrel;by_cases hu4:u<4
     ·have r:∀W,Calls Tryz.prog 137 #[.int .u64 ((at_:Int)+(u:Int)),.int .i64 (Ex.get ((n0:Int),(n1:Int),(n2:Int),(n3:Int)) u)] W (ru W (.int .u64 (jA (at_+u) (Ex.get ((n0:Int),(n1:Int),(n2:Int),(n3:Int)) u).toNat))):=λW=>by
       have h1:0<=Ex.get ((n0:Int),(n1:Int),(n2:Int),(n3:Int)) u/\Ex.get ((n0:Int),(n1:Int),(n2:Int),(n3:Int)) u<=100000:=by
        obtain rfl|rfl|rfl|rfl:u=0\/u=1\/u=2\/u=3:=oM
        all_goals (simp only[Ex.get];omega)
       have h2:=yK (at_+u) (Ex.get ((n0:Int),(n1:Int),(n2:Int),(n3:Int)) u).toNat W oM oM;rw[Int.toNat_of_nonneg h1.1,Int.natCast_add]at h2;exact h2
      have a3:=uM (at_+u) (Ex.get ((n0:Int),(n1:Int),(n2:Int),(n3:Int)) u).toNat;rw[jm]at a3;by_cases m:u=v
      ·have z:Hid (si (((n0:Int),(n1:Int),(n2:Int),(n3:Int)),q) v at_ (u+1)=X):=zH (by rw[si,if_pos m];exact hX.out);clear r a3 hX;obtain rfl|rfl|rfl|rfl:u=0\/u=1\/u=2\/u=3:=oM
       ·have k1:((0:Int)=(v:Int))=True:=eq_true oM;have k2:((v:Int)=(0:Int))=True:=eq_true oM;have k3:(v=0)=True:=eq_true oM;have k4:((0:Nat)=v)=True:=eq_true oM;have k5:((0:Int)==(v:Int))=true:=by simp only[beq_iff_eq];omega
        clear m
        go_wp2_with (refine kG rfl rfl rfl rfl (WS _ _ _ _ _) ?_)
        go_roundw
        case rel=>exact⟨1,X,oM,rfl,nM,F,z,hB,hO,b⟩
        case measure=>simp[intOf]
       ·have k1:((1:Int)=(v:Int))=True:=eq_true oM;have k2:((v:Int)=(1:Int))=True:=eq_true oM;have k3:(v=1)=True:=eq_true oM;have k4:((1:Nat)=v)=True:=eq_true oM;have k5:((1:Int)==(v:Int))=true:=by simp only[beq_iff_eq];omega
        clear m
        go_wp2_with (refine kG rfl rfl rfl rfl (WT _ _ _ _ _) ?_)
        go_roundw
        case rel=>exact⟨2,X,oM,rfl,nM,F,z,hB,hO,b⟩
        case measure=>simp[intOf]
       ·have k1:((2:Int)=(v:Int))=True:=eq_true oM;have k2:((v:Int)=(2:Int))=True:=eq_true oM;have k3:(v=2)=True:=eq_true oM;have k4:((2:Nat)=v)=True:=eq_true oM;have k5:((2:Int)==(v:Int))=true:=by simp only[beq_iff_eq];omega
        clear m
        go_wp2_with (refine kG rfl rfl rfl rfl (WU _ _ _ _ _) ?_)
        go_roundw
        case rel=>exact⟨3,X,oM,rfl,nM,F,z,hB,hO,b⟩
        case measure=>simp[intOf]
       ·have k1:((3:Int)=(v:Int))=True:=eq_true oM;have k2:((v:Int)=(3:Int))=True:=eq_true oM;have k3:(v=3)=True:=eq_true oM;have k4:((3:Nat)=v)=True:=eq_true oM;have k5:((3:Int)==(v:Int))=true:=by simp only[beq_iff_eq];omega
        clear m
        go_wp2_with (refine kG rfl rfl rfl rfl (WV _ _ _ _ _) ?_)
        go_roundw
        case rel=>exact⟨4,X,oM,rfl,nM,F,z,hB,hO,b⟩
        case measure=>simp[intOf]
      ·obtain⟨Y,hY⟩:∃Y,Y=X*jA (at_+u) (Ex.get ((n0:Int),(n1:Int),(n2:Int),(n3:Int)) u).toNat%2147483647:=⟨_,rfl⟩;have z:Hid (si (((n0:Int),(n1:Int),(n2:Int),(n3:Int)),q) v at_ (u+1)=Y):=zH (by rw[si,if_neg m,hX.out,hY];rfl);generalize jA (at_+u) (Ex.get ((n0:Int),(n1:Int),(n2:Int),(n3:Int)) u).toNat=pw at *;have N:Y<2147483647:=by rw[hY];exact Nat.mod_lt _ dM
       have C:Hid (((X:Int)*(pw:Int))%2147483647=(Y:Int)):=zH (by rw[hY];simp);have b7:X*pw<=2147483647*2147483647:=Nat.mul_le_mul oM oM;clear hX hY;obtain rfl|rfl|rfl|rfl:u=0\/u=1\/u=2\/u=3:=oM
       ·simp only[Ex.get]at r;have M:¬v=0:=λh=>m h.symm;have hne2:¬(0:Int)=(v:Int):=oM;have hne3:¬(0:Nat)=v:=m
        go_wp2_with (first
         | (refine kG rfl rfl rfl rfl (WS _ _ _ _ _) ?_)
         | (go_at_call 137;refine(r _).mono ?_;rintro en w7 ⟨rfl,hb7⟩))
        go_roundw
        case rel=>exact⟨1,Y,oM,by rw[<-C.out],nM,N,z,zH (hB.out.on hb7),zH (hO.out.on hb7),b.trans (hb7.mono b.size)⟩
        case measure=>simp[intOf]
       ·simp only[Ex.get]at r;have M:¬v=1:=λh=>m h.symm;have hne2:¬(1:Int)=(v:Int):=oM;have hne3:¬(1:Nat)=v:=m
        go_wp2_with (first
         | (refine kG rfl rfl rfl rfl (WT _ _ _ _ _) ?_)
         | (go_at_call 137;refine(r _).mono ?_;rintro en w7 ⟨rfl,hb7⟩))
        go_roundw
        case rel=>exact⟨2,Y,oM,by rw[<-C.out],nM,N,z,zH (hB.out.on hb7),zH (hO.out.on hb7),b.trans (hb7.mono b.size)⟩
        case measure=>simp[intOf]
       ·simp only[Ex.get]at r;have M:¬v=2:=λh=>m h.symm;have hne2:¬(2:Int)=(v:Int):=oM;have hne3:¬(2:Nat)=v:=m
        go_wp2_with (first
         | (refine kG rfl rfl rfl rfl (WU _ _ _ _ _) ?_)
         | (go_at_call 137;refine(r _).mono ?_;rintro en w7 ⟨rfl,hb7⟩))
        go_roundw
        case rel=>exact⟨3,Y,oM,by rw[<-C.out],nM,N,z,zH (hB.out.on hb7),zH (hO.out.on hb7),b.trans (hb7.mono b.size)⟩
        case measure=>simp[intOf]
       ·simp only[Ex.get]at r;have M:¬v=3:=λh=>m h.symm;have hne2:¬(3:Int)=(v:Int):=oM;have hne3:¬(3:Nat)=v:=m
        go_wp2_with (first
         | (refine kG rfl rfl rfl rfl (WV _ _ _ _ _) ?_)
         | (go_at_call 137;refine(r _).mono ?_;rintro en w7 ⟨rfl,hb7⟩))
        go_roundw
        case rel=>exact⟨4,Y,oM,by rw[<-C.out],nM,N,z,zH (hB.out.on hb7),zH (hO.out.on hb7),b.trans (hb7.mono b.size)⟩
        case measure=>simp[intOf]
     ·obtain rfl:u=4:=oM;have hB4:=hB.out;have hO4:=hO.out;have hg4:g<wr.heap.size:=hO4.lt;have hmb4:mb<wr.heap.size:=hB4.lt
      have a1:∀W,Below wr.heap.size wr W->W.cell? ⟨mb,v,none⟩=some (.int .i64 n):=λW hb=>by have h1:=Gp ((n0:Int),(n1:Int),(n2:Int),(n3:Int)) v hv;rw[I]at h1;refine(hB4.on hb).at1 v _ ?_;rw[List.getElem?_append_left (by show v<4;exact hv)];exact h1
      have s:∀W,Below wr.heap.size wr W->W.cell? ⟨g,n,none⟩=some (.int .u64 ((out.getD n 0:Nat):Int)):=λW hb=>(hO4.on hb).ncell n oM;have hol2:=ap.out.getD n;have ab:(Ex.get ((n0:Int),(n1:Int),(n2:Int),(n3:Int)) v).toNat=n:=by rw[I];rfl
      obtain⟨Y,hY⟩:∃Y,Y=(out.getD n 0+X)%2147483647:=⟨_,rfl⟩
      have hR4:Hid (L=jo v at_ (a.drop (k+1)) (out.set n Y)):=zH (by
       rw[hR3.out,hY];simp only[ab]
       rw[Lb,hX.out];rfl)
      generalize out.getD n 0=y at *;have N:Y<2147483647:=by rw[hY];exact Nat.mod_lt _ dM
      have C:Hid (((y:Int)+(X:Int))%2147483647=(Y:Int)):=zH (by rw[hY];simp);replace a1:=zH a1;replace s:=zH s;have hol3:(out.set n Y).length=D+1:=by rw[List.length_set];exact al
      have hLo2:=zH (ap.out.set n N);clear hX hY ab hR3 I
      go_upto_region 15 with (fail)
      refine aC mixed (none) (0) (fK.none) [.eq (.slice (some ⟨g,0,none⟩) (D+1) (D+1)),.eq (.int .i64 v),.eq (.pointer (some ⟨mb,0,none⟩)),.eq (.pointer (some ⟨mb,v,none⟩)),.eq (.int .i64 n),.eq (.slice (some ⟨g,0,none⟩) (D+1) (D+1)),.eq (.int .i64 v),.eq (.pointer (some ⟨mb,0,none⟩)),.eq (.pointer (some ⟨mb,v,none⟩)),.eq (.int .i64 n),.eq (.pointer (some ⟨g,0+n*1,none⟩)),.eq (.int .u64 y),.eq (.int .u64 X),.eq (.int .u64 ((y:Int)+(X:Int))),.eq (.int .u64 (((y:Int)+(X:Int))%2147483647)),.eq (.pointer (some ⟨g,0+n*1,none⟩))] [59,60,61,62,63,64,65,66,67,68,69,70,71,72,73,74] rfl rfl rfl rfl ⟨λ_ _ a _ _ _=>xM rfl (a 8 rfl),λ_ _ a _ _ _=>xM rfl (a 1 rfl),λA _ hA _ _ _=>have h10:A.eval (.tmp 10)=.pointer (some ⟨mb,0,none⟩):=hA 10 rfl;pZ rfl,λA _ _ _ _ he=>have h61:=eT 61 (he.1 rfl);have h60:=eT 60 (he.2.1 rfl);pZ rfl,?_,λ_ _ a _ _ _=>xM rfl (a 8 rfl),λ_ _ a _ _ _=>xM rfl (a 1 rfl),λA _ hA _ _ _=>have h10:A.eval (.tmp 10)=.pointer (some ⟨mb,0,none⟩):=hA 10 rfl;pZ rfl,λA _ _ _ _ he=>have h66:=eT 66 (he.1 rfl);have h65:=eT 65 (he.2.1 rfl);pZ rfl,?_,λ_ _ _ _ _ e=>pI rfl Tryz.underlying94 g 0 n (hnvl) (e.1 rfl) (e.2.1 rfl),?_,λ_ _ a _ _ _=>xM rfl (a 12 rfl),?_,?_,λ_ _ _ _ _ e=>pI rfl Tryz.underlying94 g 0 n (hnvl) (e.1 rfl) (e.2.1 rfl),trivial⟩ ?_
      ·intro A w1 hA hL hS he;have h62:=eT 62 (he.1 rfl);refine ae rfl ?_;have c0:=a1.out w1 hL.below;exact aB rfl rfl gZ
      ·intro A w1 hA hL hS he;have h67:=eT 67 (he.1 rfl);refine ae rfl ?_;have c0:=a1.out w1 hL.below;exact aB rfl rfl gZ
      ·intro A w1 hA hL hS he;have h69:=eT 69 (he.1 rfl);refine ae rfl ?_;have c0:=s.out w1 hL.below;exact aB rfl rfl gZ
      ·intro A w1 hA hL hS he;have h70:=eT 70 (he.1 rfl);have h71:=eT 71 (he.2.1 rfl);refine ae rfl (aB rfl rfl ?_);generalize A.eval=ev at *;go_simp
       (have hw:=IntKind.wrap_u64 ((y:Int)+(X:Int));omega)
      ·intro A w1 hA hL hS he;have h72:=eT 72 (he.1 rfl);have hc0:=eC A (.int .u64 2147483647);refine ae rfl (aB rfl rfl ?_);generalize A.eval=ev at *;go_simp;exact Int.tmod_eq_emod_of_nonneg oM
      ·intro W5 hL5;have hb5:=hL5.below;simp only[aT,af.eq,lZ];go_frame;have hO5:=hO4.on hb5;have z5:=hO5.ncell n oM;have f5:=hO5.frozen n;have hO6:=zH (hO5.nset n Y);have hb6:=b.trans ((hb5.mono b.size).trans (bF (W:=W5) (g:=g) (j:=n) aw (.int .u64 (Y:Int))));clear a1 s hL5 hB4 hO4 hB hO hO5 hb5;go_wp2;go_roundw
       case rel=>exact⟨k+1,out.set n Y,oM,nM,by rw[C.out];exact hO6,hol3,hLo2,hR4,by rw[C.out];exact hb6⟩
       case measure=>simp[intOf];omega
  ·obtain rfl:k=a.length:=oM;have ad:Hid (L=some out):=zH (by rw[hR.out,List.drop_of_length_le (Nat.le_refl _)];rfl);have hO4:=hO.out;have hg4:g<wr.heap.size:=hO4.lt;have s:∀W,Below wr.heap.size wr W->W.cell? ⟨g,D,none⟩=some (.int .u64 ((out.getD D 0:Nat):Int)):=λW hb=>(hO4.on hb).ncell D oM
   have an:Hid (il L=decide (¬((out.getD D 0:Nat):Int)=0)):=zH (by
    rw[ad.out];show decide (out.getD (out.length-1) 0≠0)=_;rw[al,Nat.add_sub_cancel];refine decide_eq_decide.2 ?_;constructor
    ·intro h h';exact h oM
    ·intro h h';exact h oM)
   have b9:((D:Int)+1-1)=D:=oM;have hw1:=lS (x:=(D:Int)+1) oM oM;have hw2:=lS (x:=(D:Int)) oM oM;replace s:=zH s;generalize out.getD D 0=y at *
   go_upto_region 17 with (fail)
   refine aC mixed (none) (0) (fK.none) [.eq (.slice (some ⟨g,0,none⟩) (D+1) (D+1)),.eq (.slice (some ⟨g,0,none⟩) (D+1) (D+1)),.eq (.slice (some ⟨g,0,none⟩) (D+1) (D+1)),.eq (.int .i64 (D+1)),.eq (.int .i64 D),.eq (.pointer (some ⟨g,0+D*1,none⟩)),.eq (.int .u64 y),.eq (.bool (decide (¬(y:Int)=0))),.eq (.slice (some ⟨g,0,none⟩) (D+1) (D+1))] [76,77,78,79,80,81,82,83,6] rfl rfl rfl rfl ⟨λ_ _ a _ _ _=>xM rfl (a 8 rfl),λ_ _ a _ _ _=>xM rfl (a 8 rfl),λ_ _ a _ _ _=>xM rfl (a 8 rfl),λA _ _ _ _ he=>have h78:=eT 78 (he.1 rfl);pZ rfl,λA _ _ _ _ he=>have h79:=eT 79 (he.1 rfl);have hc0:=eC A (.int .i64 1);pZ rfl,λ_ _ _ _ _ e=>pI rfl Tryz.underlying94 g 0 D oM (e.1 rfl) (e.2.1 rfl),?_,?_,λA _ _ _ _ he=>have h76:=eT 76 (he.1 rfl);pZ rfl,trivial⟩ ?_
   ·intro A w1 hA hL hS he;have h81:=eT 81 (he.1 rfl);refine ae rfl ?_;have c0:=s.out w1 hL.below;exact aB rfl rfl gZ
   ·intro A w1 hA hL hS he;have h82:=eT 82 (he.1 rfl);have hc0:=eC A (.int .u64 0);refine ae rfl (aB rfl rfl ?_);generalize A.eval=ev at *;go_simp
    (by_cases h9:y=0<;>simp[h9])
   ·intro W5 hL5;have hb5:=hL5.below;simp only[aT,af.eq,lZ];go_frame;have hO5:=hO4.on hb5;have hS:=Go.RowKit.Blk.nsl hO5 ap.out;rw[al]at hS;clear s hL5 hO4;go_wp2;go_ret2;exact⟨_,by rw[an.out];rfl,λl hl=>by rw[ad.out]at hl;cases hl;exact hS,B.trans (hb5.mono B.size)⟩
end Go.Proofs.YtopclbeomcggiaaGreat
end
section
namespace Q
open Go Go.RowKit Go.Proofs.YtopclbeomcggiaaGreat
def zi (base:Nat) (w:World) (v:Value) (l:List Nat):Prop :=
 ∃ao cap,v=.slice ao l.length cap/\l.length<=cap/\Eg l/\(0<l.length->∃g cs,ao=some ⟨g,0,none⟩/\base<=g/\Blk w g xE cs/\cs.take l.length=nc l)
theorem zi.of{base:Nat}{w:World}{v:Value}{l:List Nat}(h:di wO base w v l):zi base w v l:=by
 obtain⟨q,⟨p,b⟩,hex⟩:=h;obtain⟨rfl,k⟩:=xN.1 hex;rcases b with ⟨rfl,m⟩|⟨g,cap,d,rfl,j,hg,e,o,n,i⟩
 ·obtain rfl:l=[]:=List.eq_nil_of_length_eq_zero m;exact⟨none,0,rfl,Nat.le_refl _,k,λh=>by simp at h⟩
 ·refine⟨_,cap,rfl,e,k,λ_=>⟨g,d.toList,rfl,j,by unfold Blk;rw[Array.toArray_toList];exact hg,?_⟩⟩;have:d.toList.take (l.length*1)=nc l:=i;rwa[Nat.mul_one]at this
theorem zi.on{base:Nat}{w w':World}{v:Value}{l:List Nat}(h:zi base w v l)(hb:Below w.heap.size w w'):zi base w' v l:=by obtain⟨b,cap,k,d,n,j⟩:=h;refine⟨b,cap,k,d,n,λhp=>?_⟩;obtain⟨g,cs,e,hg,m,i⟩:=j hp;exact⟨g,cs,e,hg,m.on hb,i⟩
theorem zi.isSl{base:Nat}{w:World}{v:Value}{l:List Nat}(h:zi base w v l):bU wO w v l:=by obtain⟨b,cap,k,d,n,j⟩:=h;refine sj.2 ⟨b,cap,k,d,λhp=>?_,n⟩;obtain⟨g,cs,e,hg,m,i⟩:=j (by rw[Lc]at hp;exact hp);refine⟨g,0,e,?_⟩;rw[<-i];exact m.cells.take _
theorem zi.open{base:Nat}{w:World}{v:Value}{l:List Nat}(h:zi base w v l)(hp:0<l.length) :
  ∃g cap,v=.slice (some ⟨g,0,none⟩) l.length cap/\l.length<=cap/\base<=g/\g<w.heap.size/\(∀j,j<l.length->w.cell? ⟨g,j,none⟩=some (.int .u64 ((l.getD j 0:Nat):Int)))/\(∀j,w.frozen? ⟨g,j,none⟩=false) /\
   (∀k,k<=l.length->zi base w (.slice (some ⟨g,0,none⟩) k cap) (l.take k)) /\
   ∀(j x:Nat),j<l.length->x<2147483647->zi base (w.setCell ⟨g,j,none⟩ (.int .u64 (x:Int))) v (l.set j x):=by
 obtain⟨u,cap,q,o,p,s⟩:=h;obtain⟨g,cs,rfl,hg,b,e⟩:=s hp
 have i:∀j,j<l.length->cs[j]?=some (.int .u64 ((l.getD j 0:Nat):Int)):=λj d=>by rw[<-Ld l j d,<-e,List.getElem?_take,if_pos d]
 refine⟨g,cap,q,o,hg,b.lt,λj d=>b.at1 j _ (i j d),b.frozen,λk n=>?_,λj x d m=>?_⟩
 ·refine⟨some ⟨g,0,none⟩,cap,by rw[List.length_take,Nat.min_eq_left n],by rw[List.length_take];omega,p.sub λx m=>List.mem_of_mem_take m,λ_=>⟨g,cs,rfl,hg,b,?_⟩⟩;rw[List.length_take,Nat.min_eq_left n,nc,List.map_take];have r:(cs.take l.length).take k=(nc l).take k:=by rw[e]
  rw[List.take_take,Nat.min_eq_left n]at r;exact r
 ·refine⟨some ⟨g,0,none⟩,cap,by rw[List.length_set];exact q,by rw[List.length_set];exact o,p.set j m,λ_=>⟨g,cs.set j (.int .u64 (x:Int)),rfl,hg,b.set j _,?_⟩⟩;rw[List.length_set,List.take_set,e,nc,nc,List.map_set]
theorem CQ{r:List Nat}(h:0<r.length)(b:r.getD (r.length-1) 0=0):strip (r.take (r.length-1))=strip r:=by
 have e:r=r.take (r.length-1)++[0]:=by
  have i:r.drop (r.length-1)=[0]:=by rw[List.drop_eq_getElem_cons oM,List.drop_of_length_le oM];rw[List.getD_eq_getElem?_getD,List.getElem?_eq_getElem oM]at b;simpa using b
  rw[<-i,List.take_append_drop]
 generalize r.take (r.length-1)=s at *;subst e;clear h b
 induction s with
 | nil=>rfl
 | cons x s d=>rw[List.cons_append,strip,strip,d]
theorem CR{r:List Nat}(h:0<r.length)(b:r.getD (r.length-1) 0≠0):strip r=r:=by
 induction r with
 | nil=>rfl
 | cons x r d =>
  cases r with
  | nil=>simp at b;simp[strip,b]
  | cons y r =>
   have:=d sM (by simpa using b);rw[strip,this]
theorem oV(b r:List Nat)(f at_:Nat):∀i,(fC b r f at_ i).length=r.length
 | 0=>rfl
 | i+1=>by rw[fC,List.length_set,oV b r f at_ i]
end Q
namespace Go.Proofs.YtopclbeomcggiaaGreat
open Go.RowKit Q
theorem Rf:∃z bytes,(Tryz.prog.info? wO.T).map (λi=>(i.zero,i.size,i.bytes))=some (some z,wO.sz,bytes)/\z.cells.size=wO.sz/\bytes<=100000:=⟨.int .u64 0,8,kR,rfl,dM⟩
def VI (w:World) (l:List Nat) (e:Ending) (w':World):Prop:=∃v,e=.returned v/\zi w.heap.size w' v l/\Below w.heap.size w w'
theorem Le(v:Value)(l:List Nat)(w:World)(h:bU wO w v l)(r:l.length<=1000000):Calls Tryz.prog 138 #[v] w (VI w l):=by
 obtain⟨o,cap,s,rfl,p,m,hex⟩:=id h;have n:=Go.Lib.run_eql_slice_nil (P:=Tryz.prog) w 94 97 o l.length cap 0 0 Tryz.underlying94
 cases o with
 | none =>
  have j:l=[]:=by
   cases l with
   | nil=>rfl
   | cons t l =>
    obtain⟨b,off,e,_⟩:=m (by rw[hex.length];simp[wO]);cases e
  subst j;simp only[List.length_nil,Option.isNone_none]at n ⊢
  go_enter Tryz.func138,Tryz.ntmps138
  go_wp2;go_ret;exact⟨_,rfl,zi.of (di.nil _ _ _),Below.refl _ _⟩
 | some a =>
  have d:Below w.heap.size w (w.alloc (.cells #[] xE)):=(Below.refl _ _).alloc (Nat.le_refl _) _;have i:di wO w.heap.size (w.alloc (.cells #[] xE)) (.slice (some ⟨w.heap.size,0,none⟩) 0 0) []:=gW wO w;have h1:=h.on d;clear m
  go_enter Tryz.func138,Tryz.ntmps138
  go_wp2_with (at_builtin;refine fV rfl _ _ 94 rfl Tryz.underlying94 Rf rfl rfl i h1 (by simp;omega) d.size ?_;intro v5 w5 hown5 hl5 hv5)
  go_ret;exact⟨_,rfl,by simpa using zi.of hown5,d.trans (hl5.belowAt d.size (λk q=>by cases q;exact Nat.le_refl _))⟩
end Go.Proofs.YtopclbeomcggiaaGreat
end
section
namespace Q
open Go Go.RowKit Go.Proofs.YtopclbeomcggiaaGreat
theorem zi.mono{b d:Nat}{w:World}{v:Value}{l:List Nat}(h:zi b w v l)(hb:d<=b):zi d w v l:=by obtain⟨i,cap,m,j,o,k⟩:=h;refine⟨i,cap,m,j,o,λhp=>?_⟩;obtain⟨g,cs,e,hg,n⟩:=k hp;exact⟨g,cs,e,oM,n⟩
def af.rst {T:TypeId} (B:Nat) (l:List Nat):af (Lr none T):=af.of (λv w=>zi B w v l) (λ_ _ _ hb h=>h.on hb.below)
theorem Fa{w:World}{v:Value}{l:List Nat}(h:bU wO w v l)(hp:0<l.length):∃b off cap,v=.slice (some ⟨b,off,none⟩) l.length cap/\bS xE w b off (nc l)/\Eg l:=by obtain⟨i,cap,rfl,j,d,e⟩:=sj.1 h;obtain⟨b,off,rfl,hc⟩:=d (by rw[Lc];exact hp);exact⟨b,off,cap,rfl,hc,e⟩
theorem YI:pr-2=2147483645:=rfl
end Q
namespace Go.Proofs.YtopclbeomcggiaaGreat
open Go.RowKit Q
theorem Lg(vx vy:Value)(x y:List Nat)(R:Nat)(w:World)(hx:bU wO w vx x)(hy:bU wO w vy y)(lx:x.length<=1000000)(ly:y.length<=1000000)(h:mZ x y=some R) :
  Calls Tryz.prog 119 #[vx,vy] w (ru w (.int .i64 ((R:Int)-1))):=by
 obtain⟨F,hF⟩:∃F,F=fuel:=⟨_,rfl⟩;unfold mZ at h;rw[<-hF]at h;obtain⟨ax,cx,rfl,av⟩:=hx.shape;obtain⟨ay,cy,rfl,b2⟩:=hy.shape;replace hx:=zH hx;replace hy:=zH hy;replace hF:=zH hF
 go_enter Tryz.func119,Tryz.ntmps119
 go_upto_if 15 with (fail)
 go_cut [0,1,16,17] (λva vb _ _ wc=>∃a b,Hid (bU wO wc va a)/\Hid (bU wO wc vb b)/\Hid (gY F a b=some R)/\a.length<=1000000/\b.length<=1000000/\Below w.heap.size w wc)
 case first =>
  by_cases a6:x.length<y.length
  ·rw[if_pos a6]at h;replace h:=zH h;have a7:(x.length:Int)<y.length:=oM;go_wp2;go_meet
   case rel=>exact⟨y,x,hy,hx,h,ly,lx,Below.refl _ _⟩
  ·rw[if_neg a6]at h;replace h:=zH h;have a7:¬(x.length:Int)<y.length:=oM;go_wp2;go_meet
   case rel=>exact⟨x,y,hx,hy,h,lx,ly,Below.refl _ _⟩
 case rest =>
  clear hx hy h lx ly av b2;obtain⟨a,b,ha,hb,hs,la,lb,a8⟩:=hcut;go_wp2
  go_loopg [0,1] F (λn va vb wr=>∃a b,Hid (bU wO wr va a)/\Hid (bU wO wr vb b)/\Hid (gY n a b=some R)/\a.length<=1000000/\b.length<=1000000/\Below w.heap.size w wr)
  case atStart=>exact⟨a,b,ha,hb,hs,la,lb,a8⟩
  case round =>
   clear ha hb hs la lb a8 a b;obtain⟨a,b,ha,hb,hs,la,lb,B⟩:=hrel
   cases gk with
   | zero=>exact absurd hs.out (by simp[gY])
   | succ n =>
   have hs2:=hs.out;rw[gY]at hs2;clear hs;by_cases hb0:b=[]
   ·rw[if_pos hb0,Option.some.injEq]at hs2;subst hb0;obtain⟨aa,ca,rfl,ba⟩:=ha.out.shape;obtain⟨ab,cb,rfl,bh⟩:=hb.out.shape;simp only[List.length_nil];have s:=zH hs2;clear hs2;go_wp2;go_ret;exact⟨by rw[<-s.out];rfl,B⟩
   ·rw[if_neg hb0]at hs2;have au:0<b.length:=List.length_pos_iff.2 hb0;obtain⟨bb,ob,cb,rfl,a2,ac⟩:=Fa hb.out au;rw[<-hF.out]at hs2;obtain⟨inv,hinv⟩:∃inv,inv=jA (b.getD (b.length - 1) 0) 2147483645:=⟨_,rfl⟩;rw[YI,<-hinv]at hs2
    cases hr:kU b inv F a with
    | none=>rw[hr]at hs2;cases hs2
    | some r1 =>
    rw[hr]at hs2;have b4:inv<2147483647:=by rw[hinv];exact uM _ _
    have ag:=zH (λW (hb:Below wr.heap.size wr W)=>Le _ a W (ha.out.on hb) oM);have a0:=ac.getD (b.length-1);have M:=zH (λW=>yK (b.getD (b.length-1) 0) 2147483645 W oM oM);rw[<-hinv]at M;have p:∀W,Below wr.heap.size wr W->W.cell? ⟨bb,ob+(b.length-1),none⟩=some (.int .u64 ((b.getD (b.length-1) 0:Nat):Int)):=λW hb=>(a2.on hb).ncell _ oM;generalize b.getD (b.length-1) 0=xl at M p;replace hinv:=zH hinv;replace hs2:=zH hs2;replace hr:=zH hr;replace p:=zH p;have b5:(0:Int)<(b.length:Int):=oM;clear a0 hb0
    go_upto_region 4 with (fail)
    refine aC mixed (none) (0) (fK.none) [.eq (u0),.rst wr.heap.size a,.eq (.slice (some ⟨bb,ob,none⟩) b.length cb),.eq (.slice (some ⟨bb,ob,none⟩) b.length cb),.eq (.int .i64 b.length),.eq (.int .i64 ((b.length:Int)-1)),.eq (.pointer (some ⟨bb,ob+(b.length-1)*1,none⟩)),.eq (.int .u64 xl),.ret (.int .u64 inv)] [21,22,23,24,25,26,27,28,29] rfl rfl rfl rfl ⟨λ_ _ a _ _ _=>xM rfl (a 0 rfl),?_,λ_ _ a _ _ _=>xM rfl (a 1 rfl),λ_ _ a _ _ _=>xM rfl (a 1 rfl),λA _ _ _ _ he=>have h24:=eT 24 (he.1 rfl);pZ rfl,?_,λ_ _ _ _ _ e=>pI rfl Tryz.underlying94 bb ob (b.length-1) oM (e.1 rfl) (e.2.1 rfl),?_,λA _ _ _ hS he=>have hb:=hS rfl;have h28:=eT 28 (he.1 rfl);have hf0:=eF A 137;have hc0:=eC A (.int .i64 2147483645);cP (f:=137) (args:=#[.int .u64 xl,(.int .i64 2147483645)]) (M.out _),trivial⟩ ?_
    ·intro A w1 hA hL hS he;have hb:=hS rfl;have h21:=eT 21 (he.1 rfl);have hf0:=eF A 138;refine ae rfl ?_;refine dI (f:=138) (args:=#[u0]) rfl rfl ?_ ?_
     ·exact gZ
     ·refine(ag.out _ hb).mono ?_;rintro e w' ⟨v,rfl,hi,b0⟩;exact⟨_,rfl,b0,hi.mono hb.size⟩
    ·intro A w1 hA hL hS he;have h25:=eT 25 (he.1 rfl);have hc0:=eC A (.int .i64 1);refine ae rfl (aB rfl rfl ?_);generalize A.eval=ev at *;go_simp;exact lS oM oM
    ·intro A w1 hA hL hS he;have hb:=hL.below;have h27:=eT 27 (he.1 rfl);refine ae rfl ?_;have c0:=p.out w1 hb;exact aB rfl rfl gZ
    ·intro W1 hL1;have hb1:=hL1.below;simp only[aT,af.eq,af.rst,af.ret,af.of,lZ];rintro v22 h22;go_frame;have hbr1:=B.trans (hb1.mono B.size);have L:∀W,Below wr.heap.size wr W->∀k,k<b.length->W.cell? ⟨bb,ob+k,none⟩=some (.int .u64 ((b.getD k 0:Nat):Int)):=λW hb k hk=>(a2.on hb).ncell _ hk;replace L:=zH L;replace h22:=zH h22;clear hL1 ag M p a2;generalize wr=Wb at *;go_wp2
     go_loopg [5] F (λm v5 wz=>∃r,Hid (zi Wb.heap.size wz v5 r)/\Hid (kU b inv m r=some r1)/\r.length<=1000000/\Below Wb.heap.size Wb wz)
     case atStart=>exact⟨a,h22,hr,la,hb1⟩
     case round =>
      clear h22 hr hb1 hbr1;obtain⟨r,hR,D,lr,l⟩:=hrel;obtain⟨a9,b3⟩:∃a9,a9=gk:=⟨_,rfl⟩
      cases gk with
      | zero=>exact absurd D.out (by simp[kU])
      | succ m =>
      clear b3;have hrun2:=D.out;rw[kU]at hrun2;clear D;by_cases kL:b.length<=r.length
      ·rw[if_pos kL]at hrun2;obtain⟨g,cap,rfl,b8,aq,bd,G,-,-,-⟩:=hR.out.open oM;obtain⟨A,hA⟩:∃A,A=r.length - b.length:=⟨_,rfl⟩;have hA2:(r.length:Int) - (b.length:Int)=(A:Int):=oM;have ap:A+b.length=r.length:=oM;rw[<-hA]at hrun2;have Y:=hR.out.isSl;obtain⟨-,-,-,-,-,u⟩:=sj.1 Y;have bk:=G (r.length - 1) oM;have bm:=u.getD (r.length - 1);generalize r.getD (r.length - 1) 0=xt at *;obtain⟨f,hf⟩:∃f,f=xt*inv%pr:=⟨_,rfl⟩;rw[<-hf]at hrun2;have bj:f<2147483647:=by rw[hf];exact CP _
       have bl:xt*inv<=2147483647*2147483647:=Nat.mul_le_mul oM oM;have be:((xt:Int)*(inv:Int))%2147483647=(f:Int):=by rw[hf,jm];simp
       have al:¬(r.length:Int)<(b.length:Int):=oM;replace hrun2:=zH hrun2;have o:Hid (zi Wb.heap.size wr (.slice (some ⟨g,0,none⟩) r.length cap) (fC b r f A 0)):=hR;clear hf hA G Y hR
       go_wp2_with (refine aj rfl (.tmp 35) (.tmp 38) _ rfl _ Tryz.underlying94 _ _ _ kR _ _ _ rfl _ _ rfl (r.length-1) oM oM g 0 rfl ?_;rw[Nat.mul_one,Nat.zero_add])
       go_loopw [51] (λi wy=>∃k:Nat,k<=b.length/\i=.int .i64 k/\Hid (zi Wb.heap.size wy (.slice (some ⟨g,0,none⟩) r.length cap) (fC b r f A k))/\Below Wb.heap.size Wb wy) (λi _=>b.length-(intOf i).toNat)
       case atStart=>exact⟨0,oM,rfl,o,l⟩
       case round =>
        clear o l;obtain⟨k,hk,rfl,hR,l⟩:=hrel;by_cases ad:k<b.length
        ·have b9:(k:Int)<(b.length:Int):=oM;have z:=oV b r f A k;obtain⟨g',b7,a4,-,-,-,G,ao,-,Z⟩:=hR.out.open oM;simp only[Value.slice.injEq,Option.some.injEq,Addr.mk.injEq,and_true]at a4;obtain⟨rfl,-,rfl⟩:=a4;have I:fC b r f A (k+1)=(fC b r f A k).set (A+k) (((fC b r f A k).getD (A+k) 0+(pr - b.getD k 0)*f)%pr):=rfl;have u:=hR.out.isSl;obtain⟨-,-,-,-,-,u⟩:=sj.1 u;have h1:=G (A+k) oM;have h2:=L.out wr l k ad;have h3:=ao (A+k);have hx1:=u.getD (A+k);have hc1:=ac.getD k;have hs9:=Z (A+k) (((fC b r f A k).getD (A+k) 0+(pr - b.getD k 0)*f)%pr) oM (CP _);rw[<-I]at hs9;obtain⟨nx,X⟩:∃nx,nx=fC b r f A (k+1):=⟨_,rfl⟩;rw[<-X]at hs9;replace X:=zH X;clear I;generalize(fC b r f A k).getD (A+k) 0=x at *;generalize b.getD k 0=c at *;obtain⟨d,hd⟩:∃d,d=pr - c:=⟨_,rfl⟩;rw[<-hd]at hs9;rw[jm]at hd hs9;have hd2:(2147483647:Int) - (c:Int)=(d:Int):=oM;have bi:d*f<=2147483647*2147483647:=Nat.mul_le_mul oM oM;have hv9:(((x+d*f)%2147483647:Nat):Int)=((x:Int)+(d:Int)*(f:Int))%2147483647:=sM;rw[hv9]at hs9;have hAk2:A+k<r.length:=oM;have hbz9:=l.trans (bF (W:=wr) (g:=g) (j:=A+k) aq (.int .u64 (((x:Int)+(d:Int)*(f:Int))%2147483647)));replace hs9:=zH hs9
         clear G ao Z hv9 hd hR u z;replace ap:=zH ap
         go_wp2_with (first
          | (refine aj rfl (.tmp 49) (.tmp 51) _ rfl _ Tryz.underlying94 _ _ _ kR _ _ _ rfl _ _ rfl k rfl ad bb ob rfl ?_;rw[Nat.mul_one])
          | (refine aj rfl (.tmp 60) (.tmp 63) _ rfl _ Tryz.underlying94 _ _ _ kR _ _ _ rfl _ _ rfl (A+k) oM hAk2 g 0 rfl ?_;rw[Nat.mul_one,Nat.zero_add])
          | (refine aj rfl (.tmp 56) (.tmp 59) _ rfl _ Tryz.underlying94 _ _ _ kR _ _ _ rfl _ _ rfl (A+k) oM hAk2 g 0 rfl ?_;rw[Nat.mul_one,Nat.zero_add]))
         go_roundw
         case rel=>exact⟨k+1,oM,nM,by rw[<-X.out];exact hs9,hbz9⟩
         case measure=>simp[intOf];omega
        ·obtain rfl:k=b.length:=oM;have z:=oV b r f A b.length;generalize fC b r f A b.length=r2 at *;obtain⟨S,hS⟩:∃S,S=strip r2:=⟨_,rfl⟩;have o:Hid (strip r2=S):=zH hS.symm;have hrun3:Hid (kU b inv m S=some r1):=zH (by rw[hS];exact hrun2.out);clear hrun2 hS;go_wp2
         go_loopg [5] r.length (λq v5 wy=>∃r3,Hid (zi Wb.heap.size wy v5 r3)/\Hid (strip r3=S)/\r3.length<=q/\q<=1000000/\Below Wb.heap.size Wb wy)
         case atStart=>exact⟨r2,hR,o,oM,oM,l⟩
         case round =>
          clear hR o l z r2;obtain⟨r3,hR,o,lr3,hq,l⟩:=hrel;by_cases hp3:0<r3.length
          ·obtain⟨g3,cap3,rfl,hcap3,hgb3,hgl3,hcr3,-,htk3,-⟩:=hR.out.open hp3;have hct3:=hcr3 (r3.length - 1) oM;have hxl3:=(sj.1 hR.out.isSl);obtain⟨-,-,-,-,-,hLr3⟩:=hxl3;have hx3:=hLr3.getD (r3.length - 1);have hz:=λh=>CQ (r:=r3) hp3 h;have a1:=λh=>CR (r:=r3) hp3 h;have J:=htk3 (r3.length - 1) oM;have b6:(0:Int)<(r3.length:Int):=oM;generalize r3.getD (r3.length - 1) 0=x3 at *;clear hcr3 htk3 hLr3;by_cases hx0:x3=0
           ·subst hx0;have a5:Hid (strip (r3.take (r3.length-1))=S):=zH (by rw[hz rfl];exact o.out);have N:(r3.take (r3.length-1)).length=r3.length-1:=by rw[List.length_take];omega
            replace J:=zH J;clear hz a1 o hR;obtain⟨q',C⟩:∃q',gk=q'+1:=⟨gk - 1,oM⟩;replace C:=zH C;generalize r3.take (r3.length - 1)=r4 at *;replace N:=zH N
            go_wp2_with (first
             | (refine aj rfl (.tmp 78) (.tmp 81) _ rfl _ Tryz.underlying94 _ _ _ kR _ _ _ rfl _ _ rfl (r3.length-1) oM oM g3 0 rfl ?_;rw[Nat.mul_one,Nat.zero_add])
             | (refine nV rfl _ _ 94 rfl Tryz.underlying94 kM _ _ _ rfl .i64 _ rfl (r3.length-1) oM oM ?_))
            go_roundg q'
            case measure=>have:=C.out;omega
            case rel=>exact⟨r4,by have h1:=J.out;have h2:=N.out;rw[<-h2]at h1;rw[<-h2];exact zH h1,a5,by have:=C.out;have:=N.out;omega,by have:=C.out;omega,l⟩
           ·have s:Hid (S=r3):=zH (by rw[<-o.out];exact a1 hx0);have bc:((x3:Int)==0)=false:=by simp;omega
            clear hz a1 o J hx0
            go_wp2_with (refine aj rfl (.tmp 78) (.tmp 81) _ rfl _ Tryz.underlying94 _ _ _ kR _ _ _ rfl _ _ rfl (r3.length-1) oM oM g3 0 rfl ?_;rw[Nat.mul_one,Nat.zero_add])
            go_roundg m
            case measure=>omega
            case rel=>exact⟨r3,hR,by rw[<-s.out];exact hrun3,oM,l⟩
          ·obtain rfl:r3=[]:=List.eq_nil_of_length_eq_zero oM;have s:Hid (S=[]):=zH (by rw[<-o.out];rfl);obtain⟨a3,c3,rfl,-⟩:=hR.out.isSl.shape;simp only[List.length_nil];clear o;go_wp2;go_roundg m
           case measure=>omega
           case rel=>exact⟨[],hR,by rw[<-s.out];exact hrun3,sM,l⟩
      ·rw[if_neg kL,Option.some.injEq]at hrun2;subst hrun2;obtain⟨ar,cr,rfl,-⟩:=hR.out.isSl.shape;have al:(r.length:Int)<(b.length:Int):=oM;have aE:=zH (hb.out.on l);have an:=B.trans (l.mono B.size);have aw:=zH hR.out.isSl;clear hR hb ha L;go_wp2;go_roundg n
       case measure=>omega
       case rel=>exact⟨b,r,aE,aw,hs2,lb,lr,an⟩
end Go.Proofs.YtopclbeomcggiaaGreat
end
section
namespace Q
theorem Jf{a:List ai}{v at_:Nat}{l:List Nat}(b:Wp a)(h:iV a v at_=some l):l.length<=1000000:=by rw[(zh h).1,List.length_replicate];have:=(b.deg v).2;omega
theorem Gz{a b:List ai}{v k:Nat}{l:List Nat}{m:Int}(h:jR a b v (k::l)=some m) :
  (il (iV a v (17+100*k))=true/\il (iV b v (17+100*k))=true/\∃x y n,iV a v (17+100*k)=some x/\iV b v (17+100*k)=some y/\mZ x y=some n/\m=(n:Int)-1) \/
  ((il (iV a v (17+100*k))=false\/il (iV b v (17+100*k))=false)/\jR a b v l=some m):=by
 rw[jR]at h
 cases hx:iV a v (17+100*k)with
 | none=>rw[hx]at h;exact .inr ⟨.inl rfl,h⟩
 | some x =>
  cases hy:iV b v (17+100*k)with
  | none=>rw[hx,hy]at h;exact .inr ⟨.inr rfl,h⟩
  | some y =>
   rw[hx,hy]at h;change(if(il (some x)&&il (some y))=true then _ else _)=_ at h;cases h1:il (some x)
   ·rw[h1]at h;exact .inr ⟨.inl rfl,by simpa using h⟩
   ·cases h2:il (some y)
    ·rw[h1,h2]at h;exact .inr ⟨.inr rfl,by simpa using h⟩
    ·rw[h1,h2]at h;rw[if_pos (show(true&&true)=true from rfl)]at h
     cases hs:mZ x y with
     | none=>rw[hs]at h;cases h
     | some n =>
      rw[hs]at h;have d:some ((n:Int)-1)=some m:=h;exact .inl ⟨rfl,rfl,x,y,n,rfl,rfl,hs,(Option.some.inj d).symm⟩
end Q
namespace Go.Proofs.YtopclbeomcggiaaGreat
open Go.RowKit Q
theorem O6(F G:Value)(a b:List ai)(v:Nat)(m:Int)(w:World)(ha:ak w F a)(hb:ak w G b)(q:Wp a)(kb:Wp b)(hv:v<4)(z:a≠[])(s:b≠[])(h:zf a b v=some m) :
  Calls Tryz.prog 92 #[F,G,.int .i64 v] w (ru w (.int .i64 m)):=by
 have I:=zH (λk W (Z:k<3) (hb:Below w.heap.size w W)=>E9 F a v (17+100*k) W (ha.on hb) q hv z oM);have M:=zH (λk W (Z:k<3) (p:Below w.heap.size w W)=>E9 G b v (17+100*k) W (hb.on p) kb hv s oM);have r:=zH (λW (hb:Below w.heap.size w W)=>jO F a v W (ha.on hb) hv (by have:=q.len;omega));have D:=zH (λW (p:Below w.heap.size w W)=>jO G b v W (hb.on p) hv (by have:=kb.len;omega));have J:=zH (λk l (h:iV a v (17+100*k)=some l)=>Jf q h);have L:=zH (λk l (h:iV b v (17+100*k)=some l)=>Jf kb h);have B:Hid (jR a b v ([0,1,2].drop 0)=some m):=zH h;obtain⟨aa,ca,rfl,-⟩:=ha.shape;obtain⟨ab,cb,rfl,-⟩:=hb.shape;have a0:=(q.deg v);have a1:=(kb.deg v);clear ha hb q kb z s h
 go_enter Tryz.func92,Tryz.ntmps92
 go_wp2
 go_loopw [12] (λi wr=>∃k:Nat,k<=3/\i=.int .u64 k/\Hid (jR a b v ([0,1,2].drop k)=some m)/\Below w.heap.size w wr) (λi _=>match i with|.int _ x=>3-x.toNat|_=>0)
 case atStart=>exact⟨0,oM,nM,B,Below.refl _ _⟩
 case round =>
  clear B;obtain⟨k,Z,rfl,hB,d⟩:=hrel;by_cases hk3:k<3
  ·have S:(k:Int)<3:=oM
   have nQ:([0,1,2]:List Nat).drop k=k::([0,1,2]:List Nat).drop (k+1):=by
    obtain rfl|rfl|rfl:k=0\/k=1\/k=2:=oM
    all_goals rfl
   have hB2:=hB.out;rw[nQ]at hB2;have h1:=I.out k wr hk3 d;have h2:=M.out k;have C:((17+100*k:Nat):Int)=17+100*(k:Int):=oM;rw[C]at h1 h2;clear C;have hc:=Gz hB2;have hla1:=J.out k;have hlb1:=L.out k;clear nQ hB hB2;generalize iV a v (17+100*k)=oa at *;generalize iV b v (17+100*k)=ob at *;replace hc:=zH hc;replace h2:=zH h2;replace hla1:=zH hla1;replace hlb1:=zH hlb1
   go_upto_region 6 with (first
    | (go_at_call 118;refine(h2.out w3 hk3 (d.trans (hb3.mono d.size))).mono ?_;rintro en w4 ⟨v4,rfl,hv4,hb4⟩)
    | (go_at_call 118;refine h1.mono ?_;rintro en w3 ⟨v3,rfl,hv3,hb3⟩))
   have hb34:=hb3.trans (hb4.mono hb3.size);have hbr4:=d.trans (hb34.mono d.size);rcases hc.out with ⟨f1,f2,x,y,n,rfl,rfl,N,rfl⟩|⟨hf,j⟩
   ·rw[f1,f2];have X:=(hv3 x rfl).on hb4;have Y:=hv4 y rfl;have o:=Lg v3 v4 x y n w4 X Y (hla1.out x rfl) (hlb1.out y rfl) N;replace o:=zH o;clear hv3 hv4 h1 h2 f1 f2 X Y N hc
    go_wp2_with (go_at_call 119;refine o.out.mono ?_;rintro en w5 ⟨rfl,hb5⟩)
    go_ret;exact⟨rfl,hbr4.trans (hb5.mono hbr4.size)⟩
   ·have j:=zH j;clear hv3 hv4 h1 h2 hc;cases f1:il oa
    ·clear hf f1;go_wp2;go_roundw
     case rel=>exact⟨k+1,oM,nM,j,hbr4⟩
     case measure=>simp;omega
    ·cases f2:il ob
     ·clear hf f1 f2;go_wp2;go_roundw
      case rel=>exact⟨k+1,oM,nM,j,hbr4⟩
      case measure=>simp;omega
     ·rw[f1,f2]at hf;rcases hf with hf|hf<;>cases hf
  ·obtain rfl:k=3:=oM;have u:Hid (m=min (aD a v) (aD b v)):=zH (Option.some.inj hB.out).symm;have h1:=r.out wr d;have h2:=D.out;clear r D hB;generalize aD a v=da at *;generalize aD b v=db at *
   go_wp2_with (first
    | (go_at_call 53;refine(h2 w3 (d.trans (hb3.mono d.size))).mono ?_;rintro en w4 ⟨rfl,hb4⟩)
    | (go_at_call 53;refine h1.mono ?_;rintro en w3 ⟨rfl,hb3⟩))
   go_ret;exact⟨by rw[u.out];rfl,(d.trans (hb3.mono d.size)).trans (hb4.mono (d.trans (hb3.mono d.size)).size)⟩
end Go.Proofs.YtopclbeomcggiaaGreat
end
section
namespace Go.Proofs.YtopclbeomcggiaaGreat
open Go.RowKit Q Go.WideMaps Go.Maps
theorem O7(b:Value)(p:List ai)(v:Nat)(w:World)(hp:ak w b p)(hv:v<4)(i:p.length<=100000000):Calls Tryz.prog 97 #[b,.int .i64 v] w (aS w (aN p v (aD p v))):=by
 have hd:=zH (λW (hb:Below w.heap.size w W)=>kD b p v W (hp.on hb) hv i);have hc:=zH (λW (hb:Below w.heap.size w W)=>wh b p v (aD p v) W (hp.on hb) hv i);generalize aD p v=d at *
 go_enter Tryz.func97,Tryz.ntmps97
 go_wp2_with (first
  | (go_at_call 27;refine(hd.out _ (Below.refl _ _)).mono ?_;rintro e w1 ⟨rfl,hb1⟩)
  | (go_at_call 80;refine(hc.out _ hb1).mono ?_;rintro e w2 ⟨v2,rfl,hv2,hb2⟩))
 go_ret;exact⟨_,rfl,hv2,hb1.trans (hb2.mono hb1.size)⟩
theorem Rh(k:Value)(p:List ai)(n:Nat)(w:World)(s:Sz)(t:Nat->Sz)(hP:Pk s p)(b:∀j,j<n->Pk (t j) (qJ p j)/\((t j).mul s).ok)(r:n<=100000000)(hp:ak w k p):Calls Tryz.prog 98 #[k,.int .i64 n] w (aS w (qJ p n)):=by
 have hw7:=zH (λW=>KP 1 ⟨1,1,0,1⟩ W oM oM (yX dK) dK);have hm:=zH (λj (h:j<n) W u (h1:ak W u (qJ p j)) (h2:ak W k p)=>M5 (b j h).1 hP (b j h).2 h1 h2);replace b:=zH b;replace hp:=zH hp;have hn0:¬(n:Int)<0:=oM
 go_enter Tryz.func98,Tryz.ntmps98
 go_wp2_with (go_at_call 79;refine(hw7.out _).mono ?_;rintro e w1 ⟨v1,rfl,hv1,hb1⟩)
 go_loopw [5,6] (λq d wr=>∃i:Nat,d=.int .i64 i/\Hid (ak wr q (qJ p i))/\i<=n/\Below w.heap.size w wr) (λ_ d _=>n-(intOf d).toNat)
 case atStart=>exact⟨0,rfl,zH hv1,oM,hb1⟩
 case round =>
  clear hv1 hb1;obtain⟨i,rfl,ha,m,hb⟩:=hrel;by_cases o:i<n
  ·have l:(i:Int)<n:=oM;have hc:=hm.out i o wr _ ha.out (hp.out.on hb)
   go_wp2_with (go_at_call 12;refine hc.mono ?_;rintro e w3 ⟨v3,rfl,hv3,hb3⟩)
   go_roundw
   case measure=>simp[intOf];omega
   case rel=>exact⟨i+1,nM,zH hv3,oM,hb.trans (hb3.mono hb.size)⟩
  ·obtain rfl:i=n:=oM;have l:¬(i:Int)<i:=oM;go_wp2;go_ret;exact⟨_,rfl,ha.out,hb⟩
end Go.Proofs.YtopclbeomcggiaaGreat
end
section
namespace Q
open Go Go.Proofs.YtopclbeomcggiaaGreat
structure xO (p q:List ai):Prop where
 wp:Wr p
 wq:Wr q
 ms:∀k,Wr (aX p (q.take k))
 ti:∀u∈q,Wr (jK p u)/\∀t∈p,InR (t.1.add u.1)
def CU (v:Nat) (n:Nat) (rest:List ai) (i:Nat):List ai:=aX (aN rest v ((n+i:Nat):Int)) (qJ (rz v) i)
def CV (v n:Nat) (c b rest:List ai) (i:Nat):List ai:=gH (aX c rest) (aX (CU v n rest i) b)
def PD (v n:Nat) (c b:List ai):Nat->List ai->List ai
 | 0,rest=>rest
 | i+1,rest=>PD v n c b i (CV v n c b rest i)
def Lh (v n:Nat) (c b:List ai):Nat->List ai->Prop
 | 0,rest=>rest.length<=100000000
 | i+1,rest=>i<900000/\xO (aN rest v ((n+i:Nat):Int)) (qJ (rz v) i)/\xO c rest/\xO (CU v n rest i) b/\Wr (aX c rest)/\Wr (aX (CU v n rest i) b)/\Lh v n c b i (CV v n c b rest i)
theorem Lh.len{v n:Nat}{c b:List ai}:∀{i:Nat}{rest:List ai},Lh v n c b i rest->rest.length<=100000000
 | 0,_,h=>h
 | _+1,_,h=>h.2.2.1.wq.len
theorem Fb{v:Nat}(hv:v<4):∀j,j<900000->Pk ⟨1,1,j,1⟩ (qJ (rz v) j)
 | 0,_=>Vw
 | j+1,h=>by have:=(Fb hv j oM).mul (Pk.var v) (by show(0:Nat)<1*1/\1*1<65536/\1*1<2^1000/\j+1<1000000/\1*1<1000000;exact⟨oM,oM,dK,oM,oM⟩);exact this
end Q
namespace Go.Proofs.YtopclbeomcggiaaGreat
open Go.RowKit Q Go.WideMaps Go.Maps
theorem Jg(b:Value)(v i:Nat)(hv:v<4)(d:i<900000)(w:World)(hp:ak w b (rz v)):Calls Tryz.prog 98 #[b,.int .i64 i] w (aS w (qJ (rz v) i)) :=
 Rh b (rz v) i w ⟨1,1,1,1⟩ (λj=>⟨1,1,j,1⟩) (Pk.var v) (λj e=>⟨Fb hv j oM,by show(0:Nat)<1*1/\1*1<65536/\1*1<2^1000/\j+1<1000000/\1*1<1000000;exact⟨oM,oM,dK,oM,oM⟩⟩) oM hp
theorem Jh(B s:Value)(a b:List ai)(v n:Nat)(w:World)(ha:ak w B a)(hb:ak w s b)(hv:v<4)(F:a.length<=100000000)(lb:b.length<=100000000)(q:b≠[])(D:aD b v=(n:Int))(I:aD a v<=900000)(G:n<=900000)
  (l:Lh v n (aN b v (n:Int)) b (aD a v-n+1).toNat a) :
  Calls Tryz.prog 60 #[B,s,.int .i64 v] w (Cu w (PD v n (aN b v (n:Int)) b (aD a v-n+1).toNat a) 0):=by
 have hD:=zH (λW (h:Below w.heap.size w W)=>kD B a v W (ha.on h) hv F);have hE:=zH (kD s b v w hb hv lb);have hL:=zH (λW (h:Below w.heap.size w W)=>O7 s b v W (hb.on h) hv lb);rw[D]at hE hL;obtain⟨Y,cb,rfl,M⟩:=hb.shape;have L:((b.length:Int)==0)=false:=by have:=List.length_pos_iff.2 q;simp;exact q
 have S:=rA a v;generalize hc:aN b v (n:Int)=c at *;generalize hd:aD a v=d at *;obtain⟨R,hR⟩:∃R,R=PD v n c b (d - n+1).toNat a:=⟨_,rfl⟩;rw[<-hR];replace hR:=zH hR;replace l:=zH l;replace ha:=zH ha;replace hb:=zH hb;clear hc hd D
 go_enter Tryz.func60,Tryz.ntmps60
 go_upto_region 4 with (first
  | (go_at_call 97;refine(hL.out w2 hb2).mono ?_;rintro e w3 ⟨v3,rfl,h3,hb3⟩)
  | (go_at_call 27;refine hE.out.mono ?_;rintro e w2 ⟨rfl,hb2⟩))
 have hb03:=hb2.trans (hb3.mono hb2.size)
 go_wp2_with (go_at_call 27;refine(hD.out w3 hb03).mono ?_;rintro e w4 ⟨rfl,hb4⟩)
 have hb04:=hb03.trans (hb4.mono hb03.size);have y:=zH (h3.on hb4);have hr0:=zH (ha.out.on hb04);have z:=zH (hb.out.on hb04);clear hD hE hL h3 hb2 hb3 hb4 hb03 ha hb
 go_loopw [10,11] (λJ x wr=>∃(rest:List ai)(i:Nat)(m:Int),x=.int .i64 m/\Hid (ak wr J rest)/\Hid (Lh v n c b i rest)/\Hid (R=PD v n c b i rest)/\(m-n+1).toNat=i/\-1<=m/\m<=d/\rest.length<=100000000/\Below w4.heap.size w4 wr) (λ_ x _=>(intOf x-n+1).toNat)
 case atStart=>exact⟨a,_,d,rfl,hr0,l,hR,rfl,oM,oM,F,Below.refl _ _⟩
 case round =>
  clear hr0 l hR;obtain⟨rest,i,m,rfl,hr,l,hR,Z,hk1,hk2,u,k⟩:=hrel;by_cases N:(n:Int)<=m
  ·obtain⟨j,r⟩:∃j:Nat,m=((n+j:Nat):Int):=⟨(m - n).toNat,oM⟩;obtain rfl:i=j+1:=oM;obtain⟨hj9,m1,m2,m3,p1,p2,o⟩:=l.out;have C:m - (n:Int)=(j:Int):=oM;have p:=hR.out;rw[PD]at p;replace p:=zH p;have hlr2:=o.len;replace r:=zH r;clear l hR
   go_wp2_with (first
    | (go_at_call 35;refine(UE p1 p2 (q5.on z6) q6).mono ?_;rintro e w7 ⟨v7,rfl,q7,z7⟩;have y7:=y6.trans (z7.mono y6.size))
    | (go_at_call 12;refine(I5 m3.wp m3.wq m3.ms m3.ti (q4.on z5) (z.out.on (k.trans (y5.mono k.size)))).mono ?_;rintro e w6 ⟨v6,rfl,q6,z6⟩;have y6:=y5.trans (z6.mono y5.size))
    | (go_at_call 12;refine(I5 m2.wp m2.wq m2.ms m2.ti (y.out.on (k.trans (y4.mono k.size))) (hr.out.on y4)).mono ?_;rintro e w5 ⟨v5,rfl,q5,z5⟩;have y5:=y4.trans (z5.mono y4.size))
    | (go_at_call 12;refine(I5 m1.wp m1.wq m1.ms m1.ti (q1.on (z2.trans (z3.mono z2.size))) q3).mono ?_;rintro e w14 ⟨v4,rfl,q4,z4⟩;have y4:=y3.trans (z4.mono y3.size))
    | (go_at_call 98;refine(Jg _ v j hv hj9 w12 q2).mono ?_;rintro e w13 ⟨X,rfl,q3,z3⟩;have y3:=y2.trans (z3.mono y2.size))
    | (go_at_call 37;refine(Cr v w11 hv).mono ?_;rintro e w12 ⟨v2,rfl,q2,z2⟩;have y2:=z1.trans (z2.mono z1.size))
    | (go_at_call 80;refine(wh _ rest v m wr hr.out hv u).mono ?_;rintro e w11 ⟨v1,rfl,q1,z1⟩;rw[r.out]at q1))
   go_roundw
   case rel=>exact⟨CV v n c b rest j,j,m-1,nM,zH q7,zH o,p,by have:=r.out;omega,oM,oM,hlr2,k.trans (y7.mono k.size)⟩
   case measure=>simp[intOf];omega
  ·obtain rfl:i=0:=oM;have hR0:R=rest:=hR.out;replace hR0:=zH hR0;go_wp2;go_ret2;exact⟨_,rfl,by rw[hR0.out];exact hr.out,hb04.trans (k.mono hb04.size)⟩
end Go.Proofs.YtopclbeomcggiaaGreat
end
