/-  -/
import Derived.Test.YtopclbeomcggiaaGreatY01
import Derived.WalkKit
set_option linter.unusedVariables false
set_option linter.unusedSimpArgs false
set_option maxHeartbeats 16000000
set_option maxRecDepth 100000
namespace Q
def bC:Int:=4294967296
theorem dZ:0<bC:=dM
theorem aT:bC=4294967296:=rfl
def ah:List Int->Int
 | []=>0
 | x::r=>x+bC*ah r
def aG (l:List Int):Prop:=∀x∈l,0<=x/\x<bC
theorem aG.nil:aG []:=λ_ h=>by cases h
theorem aG.cons{x:Int}{l:List Int}(d:0<=x/\x<bC)(h:aG l):aG (x::l):=λy b=>by
 rcases List.mem_cons.1 b with rfl|b
 ·exact d
 ·exact h y b
theorem aG.append{l r:List Int}(h:aG l)(d:aG r):aG (l++r):=λy b=>by
 rcases List.mem_append.1 b with b|b
 ·exact h y b
 ·exact d y b
theorem aG.take{l:List Int}(h:aG l)(k:Nat):aG (l.take k):=λy b=>h y (List.mem_of_mem_take b)
theorem aG.drop{l:List Int}(h:aG l)(k:Nat):aG (l.drop k):=λy b=>h y (List.mem_of_mem_drop b)
theorem aG.getD{l:List Int}(h:aG l)(j:Nat):0<=l.getD j 0/\l.getD j 0<bC:=by
 by_cases b:j<l.length
 ·rw[jD,gE b];exact h _ (List.getElem_mem b)
 ·rw[jD,gN oM];exact⟨Int.le_refl _,dZ⟩
theorem il(l r:List Int):ah (l++r)=ah l+bC^l.length*ah r:=by
 induction l with
 | nil=>simp[ah]
 | cons x l b=>simp only[List.cons_append,ah,b,List.length_cons,Int.pow_succ];grind
theorem aW{l:List Int}(h:aG l):0<=ah l:=by
 induction l with
 | nil=>exact Int.le_refl _
 | cons x l e =>
  have b:=e (λy d=>h y (by simp[d]));have i:=h x sM;have:=Int.mul_nonneg (Int.le_of_lt dZ) b;simp only[ah];omega
theorem gW{l:List Int}(h:aG l):ah l<bC^l.length:=by
 induction l with
 | nil=>simp[ah]
 | cons x l d =>
  have e:=d (λy b=>h y (by simp[b]));have i:=h x sM;have j:bC*ah l<=bC*(bC^l.length-1):=mZ oM (Int.le_of_lt dZ);simp only[ah,List.length_cons,Int.pow_succ];have:bC*(bC^l.length-1)=bC^l.length*bC-bC:=gR;omega
theorem nE(n:Nat):ah (List.replicate n 0)=0:=by
 induction n with
 | zero=>rfl
 | succ n b=>simp[List.replicate_succ,ah,b]
theorem Cn(l:List Int)(k:Nat)(h:k<l.length):l.take (k+1)=l.take k++[l.getD k 0]:=by rw[List.take_succ_eq_append_getElem h,jD,gE h];rfl
theorem Co(l:List Int)(k:Nat)(h:k<l.length):ah (l.take (k+1))=ah (l.take k)+bC^k*l.getD k 0:=by rw[Cn l k h,il];simp[ah,Nat.min_eq_left (Nat.le_of_lt h)]
theorem aK(l:List Int)(k:Nat):ah (l.take (k+1))=ah (l.take k)+bC^k*l.getD k 0:=by
 by_cases h:k<l.length
 ·exact Co l k h
 ·rw[tL oM,tL oM,jD,gN oM];simp
end Q
