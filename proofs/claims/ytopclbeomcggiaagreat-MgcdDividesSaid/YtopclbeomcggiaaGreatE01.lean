/-  -/
import Derived.WalkKit
set_option linter.unusedVariables false
set_option linter.unusedSimpArgs false
set_option maxHeartbeats 16000000
set_option maxRecDepth 100000
namespace Q
def B32:Int:=4294967296
theorem B32_pos:0<B32:=by decide
theorem B32_eq:B32=4294967296:=rfl
def lval:List Int->Int
|[]=>0
|x::r=>x+B32*lval r
def Limbs (l:List Int):Prop:=∀ x∈l,0<=x/\x<B32
theorem Limbs.nil:Limbs []:=fun _ h=>by cases h
theorem Limbs.cons {x:Int} {l:List Int} (hx:0<=x/\x<B32) (h:Limbs l):Limbs (x::l):=fun y hy=>by
 rcases List.mem_cons.1 hy with rfl|hy
 ·exact hx
 ·exact h y hy
theorem Limbs.append {l r:List Int} (h:Limbs l) (h':Limbs r):Limbs (l++r):=fun y hy=>by
 rcases List.mem_append.1 hy with hy|hy
 ·exact h y hy
 ·exact h' y hy
theorem Limbs.take {l:List Int} (h:Limbs l) (k:Nat):Limbs (l.take k):=fun y hy=>h y (List.mem_of_mem_take hy)
theorem Limbs.drop {l:List Int} (h:Limbs l) (k:Nat):Limbs (l.drop k):=fun y hy=>h y (List.mem_of_mem_drop hy)
theorem Limbs.getD {l:List Int} (h:Limbs l) (j:Nat):0<=l.getD j 0/\l.getD j 0<B32:=by
 by_cases hj:j<l.length
 ·rw [List.getD_eq_getElem?_getD,List.getElem?_eq_getElem hj];exact h _ (List.getElem_mem hj)
 ·rw [List.getD_eq_getElem?_getD,List.getElem?_eq_none (by omega)];exact⟨Int.le_refl _,B32_pos⟩
theorem lval_append (l r:List Int):lval (l++r)=lval l+B32 ^ l.length*lval r:=by
 induction l with
|nil=>simp [lval]
|cons x l ih=>simp only [List.cons_append,lval,ih,List.length_cons,Int.pow_succ];grind
theorem lval_nonneg {l:List Int} (h:Limbs l):0<=lval l:=by
 induction l with
|nil=>exact Int.le_refl _
|cons x l ih =>
  have h1:=ih (fun y hy=>h y (by simp [hy]));have h2:=h x (by simp);have:=Int.mul_nonneg (Int.le_of_lt B32_pos) h1;simp only [lval];omega
theorem lval_lt {l:List Int} (h:Limbs l):lval l<B32 ^ l.length:=by
 induction l with
|nil=>simp [lval]
|cons x l ih =>
  have h1:=ih (fun y hy=>h y (by simp [hy]));have h2:=h x (by simp);have h3:B32*lval l<=B32*(B32 ^ l.length-1):=Int.mul_le_mul_of_nonneg_left (by omega) (Int.le_of_lt B32_pos);simp only [lval,List.length_cons,Int.pow_succ];have:B32*(B32 ^ l.length-1)=B32 ^ l.length*B32-B32:=by grind
  omega
theorem lval_zeros (n:Nat):lval (List.replicate n 0)=0:=by
 induction n with
|zero=>rfl
|succ n ih=>simp [List.replicate_succ,lval,ih]
theorem take_succ_getD (l:List Int) (k:Nat) (h:k<l.length):l.take (k+1)=l.take k++[l.getD k 0]:=by
 rw [List.take_succ_eq_append_getElem h,List.getD_eq_getElem?_getD,List.getElem?_eq_getElem h];rfl
theorem lval_take_succ (l:List Int) (k:Nat) (h:k<l.length):lval (l.take (k+1))=lval (l.take k)+B32 ^ k*l.getD k 0:=by
 rw [take_succ_getD l k h,lval_append];simp [lval,Nat.min_eq_left (Nat.le_of_lt h)]
theorem lval_take_succ' (l:List Int) (k:Nat):lval (l.take (k+1))=lval (l.take k)+B32 ^ k*l.getD k 0:=by
 by_cases h:k<l.length
 ·exact lval_take_succ l k h
 ·rw [List.take_of_length_le (by omega),List.take_of_length_le (by omega),List.getD_eq_getElem?_getD,List.getElem?_eq_none (by omega)];simp
end Q
