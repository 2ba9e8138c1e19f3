/-  -/
import Derived.WalkKit
set_option linter.unusedVariables false
set_option linter.unusedSimpArgs false
set_option maxHeartbeats 16000000
set_option maxRecDepth 100000
namespace Q
def bL:Int:=4294967296
theorem eO:0<bL:=by decide
theorem aT:bL=4294967296:=rfl
def ah:List Int->Int
 | []=>0
 | x::r=>x+bL*ah r
def aH (l:List Int):Prop:=∀ x∈l,0<=x/\x<bL
theorem aH.nil:aH []:=fun _ h=>by cases h
theorem aH.cons {x:Int} {l:List Int} (hx:0<=x/\x<bL) (h:aH l):aH (x::l):=fun y hy=>by
 rcases List.mem_cons.1 hy with rfl|hy
 ·exact hx
 ·exact h y hy
theorem aH.append {l r:List Int} (h:aH l) (h':aH r):aH (l++r):=fun y hy=>by
 rcases List.mem_append.1 hy with hy|hy
 ·exact h y hy
 ·exact h' y hy
theorem aH.take {l:List Int} (h:aH l) (k:Nat):aH (l.take k):=fun y hy=>h y (List.mem_of_mem_take hy)
theorem aH.drop {l:List Int} (h:aH l) (k:Nat):aH (l.drop k):=fun y hy=>h y (List.mem_of_mem_drop hy)
theorem aH.getD {l:List Int} (h:aH l) (j:Nat):0<=l.getD j 0/\l.getD j 0<bL:=by
 by_cases hj:j<l.length
 ·rw [List.getD_eq_getElem?_getD,List.getElem?_eq_getElem hj];exact h _ (List.getElem_mem hj)
 ·rw [List.getD_eq_getElem?_getD,List.getElem?_eq_none (by omega)];exact⟨Int.le_refl _,eO⟩
theorem ik (l r:List Int):ah (l++r)=ah l+bL ^ l.length*ah r:=by
 induction l with
 | nil=>simp [ah]
 | cons x l ih=>simp only [List.cons_append,ah,ih,List.length_cons,Int.pow_succ];grind
theorem bg {l:List Int} (h:aH l):0<=ah l:=by
 induction l with
 | nil=>exact Int.le_refl _
 | cons x l ih =>
  have h1:=ih (fun y hy=>h y (by simp [hy]));have h2:=h x (by simp);have:=Int.mul_nonneg (Int.le_of_lt eO) h1;simp only [ah];omega
theorem il {l:List Int} (h:aH l):ah l<bL ^ l.length:=by
 induction l with
 | nil=>simp [ah]
 | cons x l ih =>
  have h1:=ih (fun y hy=>h y (by simp [hy]));have h2:=h x (by simp);have h3:bL*ah l<=bL*(bL ^ l.length-1):=Int.mul_le_mul_of_nonneg_left (by omega) (Int.le_of_lt eO);simp only [ah,List.length_cons,Int.pow_succ];have:bL*(bL ^ l.length-1)=bL ^ l.length*bL-bL:=by grind
  omega
theorem nZ (n:Nat):ah (List.replicate n 0)=0:=by
 induction n with
 | zero=>rfl
 | succ n ih=>simp [List.replicate_succ,ah,ih]
theorem zX (l:List Int) (k:Nat) (h:k<l.length):l.take (k+1)=l.take k++[l.getD k 0]:=by
 rw [List.take_succ_eq_append_getElem h,List.getD_eq_getElem?_getD,List.getElem?_eq_getElem h];rfl
theorem zY (l:List Int) (k:Nat) (h:k<l.length):ah (l.take (k+1))=ah (l.take k)+bL ^ k*l.getD k 0:=by
 rw [zX l k h,ik];simp [ah,Nat.min_eq_left (Nat.le_of_lt h)]
theorem aL (l:List Int) (k:Nat):ah (l.take (k+1))=ah (l.take k)+bL ^ k*l.getD k 0:=by
 by_cases h:k<l.length
 ·exact zY l k h
 ·rw [List.take_of_length_le (by omega),List.take_of_length_le (by omega),List.getD_eq_getElem?_getD,List.getElem?_eq_none (by omega)];simp
end Q
