/- More laws for regions: fields of terms, literals of terms. -/
import Derived.Test.YtopclbeomcggiaaGreatWK1
set_option linter.unusedVariables false
set_option linter.unusedSimpArgs false
set_option maxHeartbeats 16000000
set_option maxRecDepth 100000
namespace Q
open Go Go.RowKit Go.Proofs.YtopclbeomcggiaaGreat
theorem gW{ops:List Oper}{o:Oper}{A:Act}{X Y:Prop}{j d:Nat}{b:Bool}(hg:o.guard=some (j,b))(hd:bg ops j=some d)(hv:A.eval (.tmp d)=undef)(h:Y):H9 ops o A X Y:=by
 refine⟨λi=>?_,λ_=>h⟩;exfalso;have e:A.tmps.getD d undef=undef:=hv;unfold bg at hd;simp only[Region.wanted,hg,yielded,List.getElem?_toArray,hd,Option.bind_some]at i;rw[Array.getD_eq_getD_getElem?]at e
 cases hq:A.tmps[d]? with
 | none=>rw[hq]at i;cases i
 | some y =>
  rw[hq]at e i;simp only[Option.getD_some]at e;subst e;cases i
section
variable {P:Program} {ev:Operand->Value} {o:Oper} {w w':World} {c:Value}
theorem xx{t:TypeId}{x:Operand}{n:Nat}(b:o.op=.fieldAddr t x n)(h:(Instr.fieldAt t (ev x) n).run P w=.ok c w'):(execOp ev o).run P w=.ok (.value c) w':=by unfold execOp;rw[b];simp[h,Result.andThen]
theorem bu{t:TypeId}{n:Nat}{d:Array (Nat × Operand)}(b:o.op=.buildSlice t n d)(h:(Instr.buildSlice t n (d.map λ(i,x)=>(i,ev x))).run P w=.ok c w'):(execOp ev o).run P w=.ok (.value c) w':=by unfold execOp;rw[b];simp only[Sem.run_bind,h];rfl
theorem oK{t:TypeId}{d:Array (Nat × Operand)}(b:o.op=.build t d)(h:(Instr.build t (d.map λ(i,x)=>(i,ev x))).run P w=.ok c w'):(execOp ev o).run P w=.ok (.value c) w':=by unfold execOp;rw[b];simp only[Sem.run_bind,h];rfl
end
end Q
namespace Go.Proofs.YtopclbeomcggiaaGreat
open Go.RowKit Q
theorem Ed(w:World)(b o:Nat):(Instr.fieldAt 43 (.pointer (some ⟨b,o,none⟩)) 0).run Tryz.prog w=.ok (.pointer (some ⟨b,o,none⟩)) w:=by go_simp
theorem Ee(w:World)(b o:Nat):(Instr.fieldAt 43 (.pointer (some ⟨b,o,none⟩)) 1).run Tryz.prog w=.ok (.pointer (some ⟨b,o+4,none⟩)) w:=by go_simp
theorem Ar(w:World)(cs:List Value)(h:cs.length=8):(Instr.buildSlice 26 1 #[(0,.agg cs.toArray)]).run Tryz.prog w=.ok (.slice (some ⟨w.heap.size,0,none⟩) 1 1) (w.alloc (.cells cs.toArray aO.T)):=by
 match cs,h with
 | [a,b,c,d,e,f,g,i],_ =>
  show _=Result.ok _ (w.alloc (.cells _ 43));go_simp
theorem bK(w:World)(cs:List Value)(h:cs.length=8):(Instr.buildSlice 27 1 #[(0,.agg cs.toArray)]).run Tryz.prog w=.ok (.slice (some ⟨w.heap.size,0,none⟩) 1 1) (w.alloc (.cells cs.toArray aO.T)):=by
 match cs,h with
 | [a,b,c,d,e,f,g,i],_ =>
  show _=Result.ok _ (w.alloc (.cells _ 43));go_simp
theorem bG:∃z bytes,(Tryz.prog.info? aO.T).map (λi=>(i.zero,i.size,i.bytes))=some (some z,aO.sz,bytes)/\z.cells.size=aO.sz/\bytes<=100000:=Tk
theorem IC:∃z bytes,(Tryz.prog.info? uq.T).map (λi=>(i.zero,i.size,i.bytes))=some (some z,uq.sz,bytes)/\z.cells.size=uq.sz/\bytes<=100000:=Tm
end Go.Proofs.YtopclbeomcggiaaGreat
