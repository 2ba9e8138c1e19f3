/-  -/
import Derived.Test.YtopclbeomcggiaaGreatW01
import Derived.WalkKit
set_option linter.unusedVariables false
set_option linter.unusedSimpArgs false
set_option maxHeartbeats 16000000
set_option maxRecDepth 100000
namespace Q
def bv:Int:=4294967296
theorem dR:0<bv:=dM
theorem aP:bv=4294967296:=rfl
def ah:List Int->Int
 | []=>0
 | x::r=>x+bv*ah r
def aG (l:List Int):Prop:=∀x∈l,0<=x/\x<bv
theorem aG.nil:aG []:=λ_ h=>by cases h
theorem aG.cons{x:Int}{l:List Int}(d:0<=x/\x<bv)(h:aG l):aG (x::l):=λy b=>by
 rcases List.mem_cons.1 b with rfl|b
 ·exact d
 ·exact h y b
theorem aG.append{l r:List Int}(h:aG l)(d:aG r):aG (l++r):=λy b=>by
 rcases List.mem_append.1 b with b|b
 ·exact h y b
 ·exact d y b
theorem aG.take{l:List Int}(h:aG l)(k:Nat):aG (l.take k):=λy b=>h y (List.mem_of_mem_take b)
theorem aG.drop{l:List Int}(h:aG l)(k:Nat):aG (l.drop k):=λy b=>h y (List.mem_of_mem_drop b)
theorem aG.getD{l:List Int}(h:aG l)(j:Nat):0<=l.getD j 0/\l.getD j 0<bv:=by
 by_cases b:j<l.length
 ·rw[jD,gE b];exact h _ (List.getElem_mem b)
 ·rw[jD,gN oM];exact⟨Int.le_refl _,dR⟩
theorem gP(l r:List Int):ah (l++r)=ah l+bv^l.length*ah r:=by
 induction l with
 | nil=>simp[ah]
 | cons x l b=>simp only[List.cons_append,ah,b,List.length_cons,Int.pow_succ];grind
theorem aU{l:List Int}(h:aG l):0<=ah l:=by
 induction l with
 | nil=>exact Int.le_refl _
 | cons x l e =>
  have b:=e (λy d=>h y (by simp[d]));have i:=h x sM;have:=Int.mul_nonneg (Int.le_of_lt dR) b;simp only[ah];omega
theorem gK{l:List Int}(h:aG l):ah l<bv^l.length:=by
 induction l with
 | nil=>simp[ah]
 | cons x l d =>
  have e:=d (λy b=>h y (by simp[b]));have i:=h x sM;have j:bv*ah l<=bv*(bv^l.length-1):=mZ oM (Int.le_of_lt dR);simp only[ah,List.length_cons,Int.pow_succ];have:bv*(bv^l.length-1)=bv^l.length*bv-bv:=gR;omega
theorem mR(n:Nat):ah (List.replicate n 0)=0:=by
 induction n with
 | zero=>rfl
 | succ n b=>simp[List.replicate_succ,ah,b]
theorem BG(l:List Int)(k:Nat)(h:k<l.length):l.take (k+1)=l.take k++[l.getD k 0]:=by rw[List.take_succ_eq_append_getElem h,jD,gE h];rfl
theorem BH(l:List Int)(k:Nat)(h:k<l.length):ah (l.take (k+1))=ah (l.take k)+bv^k*l.getD k 0:=by rw[BG l k h,gP];simp[ah,Nat.min_eq_left (Nat.le_of_lt h)]
theorem aI(l:List Int)(k:Nat):ah (l.take (k+1))=ah (l.take k)+bv^k*l.getD k 0:=by
 by_cases h:k<l.length
 ·exact BH l k h
 ·rw[tL oM,tL oM,jD,gN oM];simp
end Q
