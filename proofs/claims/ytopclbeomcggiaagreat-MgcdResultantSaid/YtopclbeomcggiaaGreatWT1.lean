/- Readings: a list of drawn terms of four bytes that came in; three of them in a struct. -/
import Derived.Test.YtopclbeomcggiaaGreatW31
import Derived.Deep.Strs
import Derived.OpenShut
set_option linter.unusedVariables false
set_option linter.unusedSimpArgs false
set_option maxHeartbeats 16000000
set_option maxRecDepth 100000
namespace Go.Proofs.YtopclbeomcggiaaGreat
open Go.RowKit Go.ChangeShapes Go.WideShapes Go.Deep Q
theorem Ji {α β:Type} {g:α->List β} {n:Nat} (hg:∀ a,(g a).length=n):∀ (l:List α) (i q:Nat),q<n->(l.flatMap g)[i*n+q]?=(l[i]?).bind fun a=>(g a)[q]?
 | [],i,q,_=>by simp
 | a::l,0,q,hq=>by
  rw [List.flatMap_cons,Nat.zero_mul,Nat.zero_add,List.getElem?_append_left (by rw [hg];exact hq)];rfl
 | a::l,i+1,q,hq=>by
  rw [List.flatMap_cons,List.getElem?_append_right (by rw [hg,Nat.add_mul];omega),hg,show (i+1)*n+q-n=i*n+q by rw [Nat.add_mul];omega,Ji hg l i q hq]
  rfl
theorem CG {T:TypeId} {w:World}:∀ {l:List uK},(∀ t∈l,Ky t)->dS (Df T).E w (l.flatMap oN) l
 | [],_=>rfl
 | t::l,h=>⟨oN t,l.flatMap oN,rfl,⟨rfl,h t (by simp)⟩,CG fun s hs=>h s (by simp [hs])⟩
theorem CJ:Tryz.prog.cellsOf 62=4:=by kernel_rfl
theorem TS:Tryz.prog.cellsOf 61=1:=by kernel_rfl
theorem OH:Tryz.prog.cellsOf 22=1:=by kernel_rfl
section
variable {H:Type} {enc:TypeId × Value->H} {w:World}
theorem RJ {T e:TypeId} {n:Nat} {k:IntKind} (hT:Tryz.prog.underlying T=some (.array n e)) (he:Tryz.prog.underlying e=some (.int k)) (hc:Tryz.prog.cellsOf e=1) {fuel:Nat} {cs:List Value} {x:DataW H × List MemPlace}
  (h:DataW.trod enc Tryz.prog w 0 (fun _=>true) true fuel T cs=some x) (i:Nat) (v:Value) (hi:i<n) (hv:cs[i]?=some v):∃ z,v=.int k z/\(Lit.int k z).wf=true:=by
 obtain⟨xs,m,-,-,hla,hxl,hx⟩:=DataW.trod_array hT h;have hxi:=hx i hi;rw [hc,Nat.mul_one] at hxi;obtain⟨y,hy⟩:∃ y,xs[i]?=some y:=⟨xs[i],List.getElem?_eq_getElem (by omega)⟩;rw [hy] at hxi;have hil:i<cs.length:=(List.getElem?_eq_some_iff.1 hv).1
 have e:(cs.drop i).take 1=[v]:=by
  rw [List.drop_eq_getElem_cons hil,List.take_succ_cons,List.take_zero];rw [List.getElem?_eq_getElem hil] at hv;rw [Option.some.inj hv]
 rw [e] at hxi;obtain⟨z,e1,-,wz⟩:=DataW.trod_int he hxi;simp at e1;exact⟨z,e1,wz⟩
theorem TT {fuel:Nat} {cs:List Value} {x:DataW H × List MemPlace} (h:DataW.trod enc Tryz.prog w 0 (fun _=>true) true fuel 62 cs=some x):∃ t:uK,cs=oN t/\Ky t:=by
 have hlen:cs.length=4:=by
  obtain⟨xs,m,-,-,hla,hxl,hx⟩:=DataW.trod_array Tryz.underlying62 h;have:=hla;rw [CJ] at this;exact this
 match cs,hlen with
 | [a,b,c,e],_ =>
  have g:=RJ (fuel:=fuel) (cs:=[a,b,c,e]) Tryz.underlying62 Tryz.underlying61 TS h;obtain⟨x,rfl,wx⟩:=g 0 a (by omega) rfl;obtain⟨y,rfl,wy⟩:=g 1 b (by omega) rfl;obtain⟨z,rfl,wz⟩:=g 2 c (by omega) rfl;obtain⟨u,rfl,wu⟩:=g 3 e (by omega) rfl;have:=bounds_i8 wx;have:=bounds_i8 wy;have:=bounds_i8 wz;have:=bounds_i8 wu;exact⟨(x,y,z,u),rfl,⟨by simp only;omega,by simp only;omega⟩,⟨by simp only;omega,by simp only;omega⟩,⟨by simp only;omega,by simp only;omega⟩,by simp only;omega,by simp only;omega⟩
theorem RL {fuel:Nat} {v:Value} {x:DataW H × List MemPlace} (h:DataW.trod enc Tryz.prog w 0 (fun _=>true) true fuel 22 [v]=some x):∃ L,tH w v L:=by
 rcases open_slice Tryz.underlying22 h with ⟨hcs,-⟩|⟨a,len,cap,m,n,D,Pl,hcs,-,hl,-,hm,-,hx⟩
 ·obtain rfl:v=.slice none 0 0:=by simpa using hcs
  exact⟨[],0,bS.nil _ _⟩
 ·obtain rfl:v=.slice (some a) len cap:=by simpa using hcs
  simp only [if_true] at hm;rw [CJ] at hx
  obtain⟨f,hf⟩:=choose_lt (α:=uK) (n:=len) (p:=fun i t=>Ky t/\∀ j,j<4->w.cell? ((a.add (i*4)).add j)=(oN t)[j]?) (fun i hi=>by
   obtain⟨cs',h1,h2⟩:=hx i (by omega);obtain⟨t,rfl,hok⟩:=TT h2
   exact⟨t,hok,(World.cells?_some h1).2.2⟩)
  rcases Nat.eq_zero_or_pos len with h0|hpos
  ·subst h0;exact⟨[],0,some a,cap,[],rfl,by simp,At.nil,rfl⟩
  have hcell0:w.cell? a=(oN (f 0))[0]?:=by
   have:=(hf 0 hpos).2 0 (by omega);simpa [Addr.add] using this
  obtain⟨b,off,spot⟩:=a;have hspot:spot=none:=by simpa using World.cell?_spot hcell0
  subst hspot
  have hblk:∃ C T fr,w.heap[b]?=some (.cells C T fr):=by
   cases hh:w.heap[b]? with
   | none=>simp [World.cell?,hh,oN] at hcell0
   | some o=>cases o with
    | cells C T fr=>exact⟨C,T,fr,rfl⟩
    | _=>simp [World.cell?,hh,oN] at hcell0
  obtain⟨C,T,fr,hC⟩:=hblk;refine⟨(List.range len).map f,T,some ⟨b,off,none⟩,cap,((List.range len).map f).flatMap oN,by simp,by simpa using hl,fun _=>⟨b,off,rfl,C,fr,hC,?_⟩,?_⟩
  ·intro j hj;have hlen:∀ t:uK,(oN t).length=4:=fun _=>rfl
   have hj5:j<len*4:=by
    have:(((List.range len).map f).flatMap oN).length=len*4:=(CG (T:=T) (w:=w) (l:=(List.range len).map f) (fun t ht=>by
     obtain⟨i,hi,rfl⟩:=List.mem_map.1 ht
     exact (hf i (List.mem_range.1 hi)).1)).length.trans (by simp [Df])
    omega
   have e:j=j / 4*4+j % 4:=by omega
   have hi:j / 4<len:=by omega
   have h1:=(hf (j / 4) hi).2 (j % 4) (by omega);rw [Go.Deep.add_add] at h1
   have h2:w.cell? ((⟨b,off,none⟩:Addr).add j)=C[off+j]?:=by
    rw [Addr.add_mid];simp [World.cell?,hC]
   rw [<- e,h2] at h1;rw [h1]
   conv=>rhs;rw [e,Ji hlen _ _ _ (show j % 4<4 by omega)]
   simp [hi]
  ·exact CG fun t ht=>by
    obtain⟨i,hi,rfl⟩:=List.mem_map.1 ht;exact (hf i (List.mem_range.1 hi)).1
theorem VP {v:Value} {d:DataW H} {ps:List MemPlace} {b0:Nat} (hv:Value.okWide Tryz.prog w .any b0 24 v) (h:DataW.Trod enc Tryz.prog w 0 (fun _=>true) true 24 v d ps) :
  ∃ sA sB sC A B C,v=.agg #[sA,sB,sC]/\tH w sA A/\tH w sB B/\tH w sC C:=by
 simp only [Value.okWide,Tryz.underlying24] at hv;obtain⟨⟨cs⟩,rfl,h2,-⟩:=hv;have h2':cs.length=3:=h2.trans (show Tryz.prog.cellsOf 24=3 by kernel_rfl);obtain⟨fuel,hf⟩:=h
 match cs,h2' with
 | [a,b,c],_ =>
  obtain⟨y0,y1,y2,n,-,-,h0,h1,h3⟩:=trod_struct3 Tryz.underlying24 hf;change DataW.trod enc Tryz.prog w 0 (fun _=>true) true n 22 (([a,b,c].drop 0).take (Tryz.prog.cellsOf 22))=some y0 at h0;change DataW.trod enc Tryz.prog w 0 (fun _=>true) true n 22 (([a,b,c].drop 1).take (Tryz.prog.cellsOf 22))=some y1 at h1;change DataW.trod enc Tryz.prog w 0 (fun _=>true) true n 22 (([a,b,c].drop 2).take (Tryz.prog.cellsOf 22))=some y2 at h3;rw [OH] at h0 h1 h3;obtain⟨A,hA⟩:=RL (v:=a) h0;obtain⟨B,hB⟩:=RL (v:=b) h1;obtain⟨C,hC⟩:=RL (v:=c) h3;exact⟨a,b,c,A,B,C,rfl,hA,hB,hC⟩
end
end Go.Proofs.YtopclbeomcggiaaGreat
