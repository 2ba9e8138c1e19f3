/- Readings: a list of drawn terms of four bytes that came in; three of them in a struct. -/
import Derived.Test.YtopclbeomcggiaaGreatW33
import Derived.Deep.Strs
import Derived.OpenShut
set_option linter.unusedVariables false
set_option linter.unusedSimpArgs false
set_option maxHeartbeats 16000000
set_option maxRecDepth 100000
namespace Go.Proofs.YtopclbeomcggiaaGreat
open Go.RowKit Go.ChangeShapes Go.WideShapes Go.Deep Q
theorem J2{α b:Type}{g:α->List b}{n:Nat}(hg:∀a,(g a).length=n):∀(l:List α)(i q:Nat),q<n->(l.flatMap g)[i*n+q]?=(l[i]?).bind λa=>(g a)[q]?
 | [],i,q,_=>by simp
 | a::l,0,q,hq=>by rw[List.flatMap_cons,Nat.zero_mul,Nat.zero_add,List.getElem?_append_left (by rw[hg];exact hq)];rfl
 | a::l,i+1,q,hq=>by
  rw[List.flatMap_cons,List.getElem?_append_right (by rw[hg,Nat.add_mul];omega),hg,show(i+1)*n+q-n=i*n+q by rw[Nat.add_mul];omega,J2 hg l i q hq]
  rfl
theorem DV{T:TypeId}{w:World}:∀{l:List Ap},(∀t∈l,Rt t)->eO (VX T).E w (l.flatMap sW) l
 | [],_=>rfl
 | t::l,h=>⟨sW t,l.flatMap sW,rfl,⟨rfl,h t (by simp)⟩,DV λs b=>h s (by simp[b])⟩
theorem DW:Tryz.prog.cellsOf 62=4:=kM
theorem Us:Tryz.prog.cellsOf 61=1:=kM
theorem Pw:Tryz.prog.cellsOf 22=1:=kM
section
variable {H:Type} {enc:TypeId × Value->H} {w:World}
theorem Su{T e:TypeId}{n:Nat}{k:IntKind}(s:Tryz.prog.underlying T=some (.array n e))(he:Tryz.prog.underlying e=some (.int k))(hc:Tryz.prog.cellsOf e=1){fuel:Nat}{cs:List Value}{x:DataW H × List MemPlace}
  (h:DataW.trod enc Tryz.prog w 0 (λ_=>true) true fuel T cs=some x) (i:Nat) (v:Value) (r:i<n) (hv:cs[i]?=some v):∃z,v=.int k z/\(Lit.int k z).wf=true:=by
 obtain⟨j,m,-,-,p,u,q⟩:=DataW.trod_array s h;have b:=q i r;rw[hc,Nat.mul_one]at b;obtain⟨y,o⟩:∃y,j[i]?=some y:=⟨j[i],List.getElem?_eq_getElem oM⟩;rw[o]at b;have d:i<cs.length:=(List.getElem?_eq_some_iff.1 hv).1
 have e:(cs.drop i).take 1=[v]:=by rw[List.drop_eq_getElem_cons d,List.take_succ_cons,List.take_zero];rw[List.getElem?_eq_getElem d]at hv;rw[Option.some.inj hv]
 rw[e]at b;obtain⟨z,e1,-,l⟩:=DataW.trod_int he b;simp at e1;exact⟨z,e1,l⟩
theorem Ut{fuel:Nat}{cs:List Value}{x:DataW H × List MemPlace}(h:DataW.trod enc Tryz.prog w 0 (λ_=>true) true fuel 62 cs=some x):∃t:Ap,cs=sW t/\Rt t:=by
 have d:cs.length=4:=by obtain⟨q,m,-,-,i,n,p⟩:=DataW.trod_array Tryz.underlying62 h;have:=i;rw[DW]at this;exact this
 match cs,d with
 | [a,b,c,e],_ =>
  have g:=Su (fuel:=fuel) (cs:=[a,b,c,e]) Tryz.underlying62 Tryz.underlying61 Us h;obtain⟨x,rfl,k⟩:=g 0 a oM rfl;obtain⟨y,rfl,o⟩:=g 1 b oM rfl;obtain⟨z,rfl,j⟩:=g 2 c oM rfl;obtain⟨u,rfl,l⟩:=g 3 e oM rfl;have:=bounds_i8 k;have:=bounds_i8 o;have:=bounds_i8 j;have:=bounds_i8 l;exact⟨(x,y,z,u),rfl,⟨by simp only;omega,by simp only;omega⟩,⟨by simp only;omega,by simp only;omega⟩,⟨by simp only;omega,by simp only;omega⟩,by simp only;omega,by simp only;omega⟩
theorem Sv{fuel:Nat}{v:Value}{x:DataW H × List MemPlace}(h:DataW.trod enc Tryz.prog w 0 (λ_=>true) true fuel 22 [v]=some x):∃L,wE w v L:=by
 rcases open_slice Tryz.underlying22 h with ⟨k,-⟩|⟨a,len,cap,m,n,D,M,k,-,I,-,hm,-,G⟩
 ·obtain rfl:v=.slice none 0 0:=by simpa using k
  exact⟨[],0,bU.nil _ _⟩
 ·obtain rfl:v=.slice (some a) len cap:=by simpa using k
  simp only[if_true]at hm;rw[DW]at G
  obtain⟨f,hf⟩:=choose_lt (α:=Ap) (n:=len) (p:=λi t=>Rt t/\∀j,j<4->w.cell? ((a.add (i*4)).add j)=(sW t)[j]?) (λi r=>by
   obtain⟨J,s,z⟩:=G i oM;obtain⟨t,rfl,E⟩:=Ut z
   exact⟨t,E,(World.cells?_some s).2.2⟩)
  rcases Nat.eq_zero_or_pos len with h0|hpos
  ·subst h0;exact⟨[],0,some a,cap,[],rfl,sM,At.nil,rfl⟩
  have d:w.cell? a=(sW (f 0))[0]?:=by have:=(hf 0 hpos).2 0 oM;simpa[Addr.add]using this
  obtain⟨b,off,spot⟩:=a;have q:spot=none:=by simpa using World.cell?_spot d
  subst q
  have y:∃C T fr,w.heap[b]?=some (.cells C T fr):=by
   cases hh:w.heap[b]? with
   | none=>simp[World.cell?,hh,sW]at d
   | some o=>cases o with
    | cells C T fr=>exact⟨C,T,fr,rfl⟩
    | _=>simp[World.cell?,hh,sW]at d
  obtain⟨C,T,fr,F⟩:=y;refine⟨(List.range len).map f,T,some ⟨b,off,none⟩,cap,((List.range len).map f).flatMap sW,sM,by simpa using I,λ_=>⟨b,off,rfl,C,fr,F,?_⟩,?_⟩
  ·intro j N;have u:∀t:Ap,(sW t).length=4:=λ_=>rfl
   have K:j<len*4:=by
    have:(((List.range len).map f).flatMap sW).length=len*4:=(DV (T:=T) (w:=w) (l:=(List.range len).map f) (λt B=>by
     obtain⟨i,r,rfl⟩:=List.mem_map.1 B
     exact(hf i (List.mem_range.1 r)).1)).length.trans (by simp[VX])
    omega
   have e:j=j/4*4+j%4:=oM;have r:j/4<len:=oM;have s:=(hf (j/4) r).2 (j%4) oM;rw[Go.Deep.add_add]at s
   have z:w.cell? ((⟨b,off,none⟩:Addr).add j)=C[off+j]?:=by rw[Addr.add_mid];simp[World.cell?,F]
   rw[<-e,z]at s;rw[s]
   conv=>rhs;rw[e,J2 u _ _ _ (oM:j%4<4)]
   simp[r]
  ·exact DV λt B=>by obtain⟨i,r,rfl⟩:=List.mem_map.1 B;exact(hf i (List.mem_range.1 r)).1
theorem Wq{v:Value}{d:DataW H}{q:List MemPlace}{b0:Nat}(hv:Value.okWide Tryz.prog w .any b0 24 v)(h:DataW.Trod enc Tryz.prog w 0 (λ_=>true) true 24 v d q) :
  ∃m o l A B C,v=.agg #[m,o,l]/\wE w m A/\wE w o B/\wE w l C:=by
 simp only[Value.okWide,Tryz.underlying24]at hv;obtain⟨⟨cs⟩,rfl,p,-⟩:=hv;have j:cs.length=3:=p.trans (kM:Tryz.prog.cellsOf 24=3);obtain⟨fuel,hf⟩:=h
 match cs,j with
 | [a,b,c],_ =>
  obtain⟨r,u,s,n,-,-,e,k,i⟩:=trod_struct3 Tryz.underlying24 hf;change DataW.trod enc Tryz.prog w 0 (λ_=>true) true n 22 (([a,b,c].drop 0).take (Tryz.prog.cellsOf 22))=some r at e;change DataW.trod enc Tryz.prog w 0 (λ_=>true) true n 22 (([a,b,c].drop 1).take (Tryz.prog.cellsOf 22))=some u at k;change DataW.trod enc Tryz.prog w 0 (λ_=>true) true n 22 (([a,b,c].drop 2).take (Tryz.prog.cellsOf 22))=some s at i;rw[Pw]at e k i;obtain⟨A,x⟩:=Sv (v:=a) e;obtain⟨B,y⟩:=Sv (v:=b) k;obtain⟨C,z⟩:=Sv (v:=c) i;exact⟨a,b,c,A,B,C,rfl,x,y,z⟩
end
end Go.Proofs.YtopclbeomcggiaaGreat
