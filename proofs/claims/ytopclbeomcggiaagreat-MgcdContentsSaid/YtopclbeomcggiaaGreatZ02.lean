/-  -/
import Derived.Test.YtopclbeomcggiaaGreatZ01
import Derived.WalkKit
set_option linter.unusedVariables false
set_option linter.unusedSimpArgs false
set_option maxHeartbeats 16000000
set_option maxRecDepth 100000
namespace Q
def bJ:Int:=4294967296
theorem eu:0<bJ:=dM
theorem aV:bJ=4294967296:=rfl
def ah:List Int->Int
 | []=>0
 | x::r=>x+bJ*ah r
def aK (l:List Int):Prop:=∀x∈l,0<=x/\x<bJ
theorem aK.nil:aK []:=λ_ h=>by cases h
theorem aK.cons{x:Int}{l:List Int}(d:0<=x/\x<bJ)(h:aK l):aK (x::l):=λy b=>by
 rcases List.mem_cons.1 b with rfl|b
 ·exact d
 ·exact h y b
theorem aK.append{l r:List Int}(h:aK l)(d:aK r):aK (l++r):=λy b=>by
 rcases List.mem_append.1 b with b|b
 ·exact h y b
 ·exact d y b
theorem aK.take{l:List Int}(h:aK l)(k:Nat):aK (l.take k):=λy b=>h y (List.mem_of_mem_take b)
theorem aK.drop{l:List Int}(h:aK l)(k:Nat):aK (l.drop k):=λy b=>h y (List.mem_of_mem_drop b)
theorem aK.getD{l:List Int}(h:aK l)(j:Nat):0<=l.getD j 0/\l.getD j 0<bJ:=by
 by_cases b:j<l.length
 ·rw[jD,gE b];exact h _ (List.getElem_mem b)
 ·rw[jD,gN oM];exact⟨Int.le_refl _,eu⟩
theorem iI(l r:List Int):ah (l++r)=ah l+bJ^l.length*ah r:=by
 induction l with
 | nil=>simp[ah]
 | cons x l b=>simp only[List.cons_append,ah,b,List.length_cons,Int.pow_succ];grind
theorem aW{l:List Int}(h:aK l):0<=ah l:=by
 induction l with
 | nil=>exact Int.le_refl _
 | cons x l e =>
  have b:=e (λy d=>h y (by simp[d]));have i:=h x sM;have:=Int.mul_nonneg (Int.le_of_lt eu) b;simp only[ah];omega
theorem iA{l:List Int}(h:aK l):ah l<bJ^l.length:=by
 induction l with
 | nil=>simp[ah]
 | cons x l d =>
  have e:=d (λy b=>h y (by simp[b]));have i:=h x sM;have j:bJ*ah l<=bJ*(bJ^l.length-1):=mZ oM (Int.le_of_lt eu);simp only[ah,List.length_cons,Int.pow_succ];have:bJ*(bJ^l.length-1)=bJ^l.length*bJ-bJ:=gR;omega
theorem nG(n:Nat):ah (List.replicate n 0)=0:=by
 induction n with
 | zero=>rfl
 | succ n b=>simp[List.replicate_succ,ah,b]
theorem CR(l:List Int)(k:Nat)(h:k<l.length):l.take (k+1)=l.take k++[l.getD k 0]:=by rw[List.take_succ_eq_append_getElem h,jD,gE h];rfl
theorem CU(l:List Int)(k:Nat)(h:k<l.length):ah (l.take (k+1))=ah (l.take k)+bJ^k*l.getD k 0:=by rw[CR l k h,iI];simp[ah,Nat.min_eq_left (Nat.le_of_lt h)]
theorem aP(l:List Int)(k:Nat):ah (l.take (k+1))=ah (l.take k)+bJ^k*l.getD k 0:=by
 by_cases h:k<l.length
 ·exact CU l k h
 ·rw[tL oM,tL oM,jD,gN oM];simp
end Q
