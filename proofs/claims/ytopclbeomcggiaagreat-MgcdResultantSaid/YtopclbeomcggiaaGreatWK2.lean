/- More laws for regions: fields of terms, literals of terms. -/
import Derived.Test.YtopclbeomcggiaaGreatWK1
set_option linter.unusedVariables false
set_option linter.unusedSimpArgs false
set_option maxHeartbeats 16000000
set_option maxRecDepth 100000
namespace Q
open Go Go.RowKit Go.Proofs.YtopclbeomcggiaaGreat
theorem gN {ops:List Oper} {o:Oper} {A:Act} {X Y:Prop} {j d:Nat} {b:Bool} (hg:o.guard=some (j,b)) (hd:bF ops j=some d) (hv:A.eval (.tmp d)=undef) (h:Y):Gp ops o A X Y:=by
 refine⟨fun h'=>?_,fun _=>h⟩;exfalso;have hv':A.tmps.getD d undef=undef:=hv;unfold bF at hd;simp only [Region.wanted,hg,yielded,List.getElem?_toArray,hd,Option.bind_some] at h';rw [Array.getD_eq_getD_getElem?] at hv'
 cases hq:A.tmps[d]? with
 | none=>rw [hq] at h';cases h'
 | some y =>
  rw [hq] at hv' h';simp only [Option.getD_some] at hv';subst hv';cases h'
section
variable {P:Program} {ev:Operand->Value} {o:Oper} {w w':World} {c:Value}
theorem vW {t:TypeId} {x:Operand} {n:Nat} (hop:o.op=.fieldAddr t x n) (h:(Instr.fieldAt t (ev x) n).run P w=.ok c w'):(execOp ev o).run P w=.ok (.value c) w':=by
 unfold execOp;rw [hop];simp [h,Result.andThen]
theorem bC {t:TypeId} {n:Nat} {ps:Array (Nat × Operand)} (hop:o.op=.buildSlice t n ps) (h:(Instr.buildSlice t n (ps.map fun (i,x)=>(i,ev x))).run P w=.ok c w'):(execOp ev o).run P w=.ok (.value c) w':=by
 unfold execOp;rw [hop];simp only [Sem.run_bind,h];rfl
theorem nI {t:TypeId} {ps:Array (Nat × Operand)} (hop:o.op=.build t ps) (h:(Instr.build t (ps.map fun (i,x)=>(i,ev x))).run P w=.ok c w'):(execOp ev o).run P w=.ok (.value c) w':=by
 unfold execOp;rw [hop];simp only [Sem.run_bind,h];rfl
end
end Q
namespace Go.Proofs.YtopclbeomcggiaaGreat
open Go.RowKit Q
theorem CP (w:World) (b o:Nat):(Instr.fieldAt 43 (.pointer (some ⟨b,o,none⟩)) 0).run Tryz.prog w=.ok (.pointer (some ⟨b,o,none⟩)) w:=by
 go_simp
theorem CQ (w:World) (b o:Nat):(Instr.fieldAt 43 (.pointer (some ⟨b,o,none⟩)) 1).run Tryz.prog w=.ok (.pointer (some ⟨b,o+4,none⟩)) w:=by
 go_simp
theorem zq (w:World) (cs:List Value) (h:cs.length=8):(Instr.buildSlice 26 1 #[(0,.agg cs.toArray)]).run Tryz.prog w=.ok (.slice (some ⟨w.heap.size,0,none⟩) 1 1) (w.alloc (.cells cs.toArray aO.T)):=by
 match cs,h with
 | [a,b,c,d,e,f,g,i],_ =>
  show _=Result.ok _ (w.alloc (.cells _ 43));go_simp
theorem bN (w:World) (cs:List Value) (h:cs.length=8):(Instr.buildSlice 27 1 #[(0,.agg cs.toArray)]).run Tryz.prog w=.ok (.slice (some ⟨w.heap.size,0,none⟩) 1 1) (w.alloc (.cells cs.toArray aO.T)):=by
 match cs,h with
 | [a,b,c,d,e,f,g,i],_ =>
  show _=Result.ok _ (w.alloc (.cells _ 43));go_simp
theorem bK:∃ z bytes,(Tryz.prog.info? aO.T).map (fun i=>(i.zero,i.size,i.bytes))=some (some z,aO.sz,bytes)/\z.cells.size=aO.sz/\bytes<=100000:=Sn
theorem sK:∃ z bytes,(Tryz.prog.info? oF.T).map (fun i=>(i.zero,i.size,i.bytes))=some (some z,oF.sz,bytes)/\z.cells.size=oF.sz/\bytes<=100000:=Sr
end Go.Proofs.YtopclbeomcggiaaGreat
