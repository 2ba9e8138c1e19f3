/- Readings: a list of drawn terms of four bytes that came in; three of them in a struct. -/
import Derived.Test.YtopclbeomcggiaaGreatW33
import Derived.Deep.Strs
import Derived.OpenShut
set_option linter.unusedVariables false
set_option linter.unusedSimpArgs false
set_option maxHeartbeats 16000000
set_option maxRecDepth 100000
namespace Go.Proofs.YtopclbeomcggiaaGreat
open Go.RowKit Go.ChangeShapes Go.WideShapes Go.Deep Q
theorem Ke{α b:Type}{g:α->List b}{n:Nat}(hg:∀a,(g a).length=n):∀(l:List α)(i q:Nat),q<n->(l.flatMap g)[i*n+q]?=(l[i]?).bind λa=>(g a)[q]?
 | [],i,q,_=>by simp
 | a::l,0,q,hq=>by rw[List.flatMap_cons,Nat.zero_mul,Nat.zero_add,List.getElem?_append_left (by rw[hg];exact hq)];rfl
 | a::l,i+1,q,hq=>by
  rw[List.flatMap_cons,List.getElem?_append_right (by rw[hg,Nat.add_mul];omega),hg,show(i+1)*n+q-n=i*n+q by rw[Nat.add_mul];omega,Ke hg l i q hq]
  rfl
theorem D9{T:TypeId}{w:World}:∀{l:List AA},(∀t∈l,RB t)->eO (V8 T).E w (l.flatMap tJ) l
 | [],_=>rfl
 | t::l,h=>⟨tJ t,l.flatMap tJ,rfl,⟨rfl,h t (by simp)⟩,D9 λs b=>h s (by simp[b])⟩
theorem Ea:Tryz.prog.cellsOf 62=4:=kM
theorem UA:Tryz.prog.cellsOf 61=1:=kM
theorem PI:Tryz.prog.cellsOf 22=1:=kM
section
variable {H:Type} {enc:TypeId × Value->H} {w:World}
theorem SF{T e:TypeId}{n:Nat}{k:IntKind}(l:Tryz.prog.underlying T=some (.array n e))(he:Tryz.prog.underlying e=some (.int k))(hc:Tryz.prog.cellsOf e=1){fuel:Nat}{cs:List Value}{x:DataW H × List MemPlace}
  (h:DataW.trod enc Tryz.prog w 0 (λ_=>true) true fuel T cs=some x) (i:Nat) (v:Value) (o:i<n) (hv:cs[i]?=some v):∃z,v=.int k z/\(Lit.int k z).wf=true:=by
 obtain⟨j,m,-,-,p,r,q⟩:=DataW.trod_array l h;have b:=q i o;rw[hc,nU]at b;obtain⟨y,s⟩:∃y,j[i]?=some y:=⟨j[i],gE oM⟩;rw[s]at b;have d:i<cs.length:=(gS.1 hv).1
 have e:(cs.drop i).take 1=[v]:=by rw[List.drop_eq_getElem_cons d,List.take_succ_cons,List.take_zero];rw[gE d]at hv;rw[Option.some.inj hv]
 rw[e]at b;obtain⟨z,e1,-,u⟩:=DataW.trod_int he b;simp at e1;exact⟨z,e1,u⟩
theorem UB{fuel:Nat}{cs:List Value}{x:DataW H × List MemPlace}(h:DataW.trod enc Tryz.prog w 0 (λ_=>true) true fuel 62 cs=some x):∃t:AA,cs=tJ t/\RB t:=by
 have d:cs.length=4:=by obtain⟨q,m,-,-,i,j,p⟩:=DataW.trod_array Tryz.underlying62 h;have:=i;rw[Ea]at this;exact this
 match cs,d with
 | [a,b,c,e],_ =>
  have g:=SF (fuel:=fuel) (cs:=[a,b,c,e]) Tryz.underlying62 Tryz.underlying61 UA h;obtain⟨x,rfl,l⟩:=g 0 a oM rfl;obtain⟨y,rfl,n⟩:=g 1 b oM rfl;obtain⟨z,rfl,o⟩:=g 2 c oM rfl;obtain⟨u,rfl,k⟩:=g 3 e oM rfl;have:=bounds_i8 l;have:=bounds_i8 n;have:=bounds_i8 o;have:=bounds_i8 k;exact⟨(x,y,z,u),rfl,⟨by simp only;omega,by simp only;omega⟩,⟨by simp only;omega,by simp only;omega⟩,⟨by simp only;omega,by simp only;omega⟩,by simp only;omega,by simp only;omega⟩
theorem SG{fuel:Nat}{v:Value}{x:DataW H × List MemPlace}(h:DataW.trod enc Tryz.prog w 0 (λ_=>true) true fuel 22 [v]=some x):∃L,wM w v L:=by
 rcases open_slice Tryz.underlying22 h with ⟨k,-⟩|⟨a,len,cap,m,n,D,M,k,-,K,-,hm,-,G⟩
 ·obtain rfl:v=.slice none 0 0:=by simpa using k
  exact⟨[],0,bU.nil _ _⟩
 ·obtain rfl:v=.slice (some a) len cap:=by simpa using k
  simp only[if_true]at hm;rw[Ea]at G
  obtain⟨f,hf⟩:=choose_lt (α:=AA) (n:=len) (p:=λi t=>RB t/\∀j,j<4->w.cell? ((a.add (i*4)).add j)=(tJ t)[j]?) (λi q=>by
   obtain⟨I,s,z⟩:=G i oM;obtain⟨t,rfl,B⟩:=UB z
   exact⟨t,B,(World.cells?_some s).2.2⟩)
  rcases Nat.eq_zero_or_pos len with h0|hpos
  ·subst h0;exact⟨[],0,some a,cap,[],rfl,sM,At.nil,rfl⟩
  have d:w.cell? a=(tJ (f 0))[0]?:=by have:=(hf 0 hpos).2 0 oM;simpa[Addr.add]using this
  obtain⟨b,off,spot⟩:=a;have r:spot=none:=by simpa using World.cell?_spot d
  subst r
  have u:∃C T fr,w.heap[b]?=some (.cells C T fr):=by
   cases hh:w.heap[b]? with
   | none=>simp[World.cell?,hh,tJ]at d
   | some o=>cases o with
    | cells C T fr=>exact⟨C,T,fr,rfl⟩
    | _=>simp[World.cell?,hh,tJ]at d
  obtain⟨C,T,fr,F⟩:=u;refine⟨(List.range len).map f,T,some ⟨b,off,none⟩,cap,((List.range len).map f).flatMap tJ,sM,by simpa using K,λ_=>⟨b,off,rfl,C,fr,F,?_⟩,?_⟩
  ·intro j N;have y:∀t:AA,(tJ t).length=4:=λ_=>rfl
   have J:j<len*4:=by
    have:(((List.range len).map f).flatMap tJ).length=len*4:=(D9 (T:=T) (w:=w) (l:=(List.range len).map f) (λt E=>by
     obtain⟨i,q,rfl⟩:=List.mem_map.1 E
     exact(hf i (List.mem_range.1 q)).1)).length.trans (by simp[V8])
    omega
   have e:j=j/4*4+j%4:=oM;have q:j/4<len:=oM;have s:=(hf (j/4) q).2 (j%4) oM;rw[Go.Deep.add_add]at s
   have z:w.cell? ((⟨b,off,none⟩:Addr).add j)=C[off+j]?:=by rw[Addr.add_mid];simp[World.cell?,F]
   rw[<-e,z]at s;rw[s]
   conv=>rhs;rw[e,Ke y _ _ _ (oM:j%4<4)]
   simp[q]
  ·exact D9 λt E=>by obtain⟨i,q,rfl⟩:=List.mem_map.1 E;exact(hf i (List.mem_range.1 q)).1
theorem Wz{v:Value}{d:DataW H}{u:List MemPlace}{b0:Nat}(hv:Value.okWide Tryz.prog w .any b0 24 v)(h:DataW.Trod enc Tryz.prog w 0 (λ_=>true) true 24 v d u) :
  ∃l m o A B C,v=.agg #[l,m,o]/\wM w l A/\wM w m B/\wM w o C:=by
 simp only[Value.okWide,Tryz.underlying24]at hv;obtain⟨⟨cs⟩,rfl,p,-⟩:=hv;have j:cs.length=3:=p.trans (kM:Tryz.prog.cellsOf 24=3);obtain⟨fuel,hf⟩:=h
 match cs,j with
 | [a,b,c],_ =>
  obtain⟨x,y,z,n,-,-,e,i,k⟩:=trod_struct3 Tryz.underlying24 hf;change DataW.trod enc Tryz.prog w 0 (λ_=>true) true n 22 (([a,b,c].drop 0).take (Tryz.prog.cellsOf 22))=some x at e;change DataW.trod enc Tryz.prog w 0 (λ_=>true) true n 22 (([a,b,c].drop 1).take (Tryz.prog.cellsOf 22))=some y at i;change DataW.trod enc Tryz.prog w 0 (λ_=>true) true n 22 (([a,b,c].drop 2).take (Tryz.prog.cellsOf 22))=some z at k;rw[PI]at e i k;obtain⟨A,q⟩:=SG (v:=a) e;obtain⟨B,r⟩:=SG (v:=b) i;obtain⟨C,s⟩:=SG (v:=c) k;exact⟨a,b,c,A,B,C,rfl,q,r,s⟩
end
end Go.Proofs.YtopclbeomcggiaaGreat
