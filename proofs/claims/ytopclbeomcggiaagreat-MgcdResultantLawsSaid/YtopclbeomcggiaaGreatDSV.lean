/- The resultant for a first polynomial of degree at most 2: what the elimination answers. No program in sight. -/
import Derived.Test.YtopclbeomcggiaaGreatDSU
set_option linter.unusedVariables false
set_option linter.unusedSimpArgs false
namespace Q
open Go Go.Proofs.YtopclbeomcggiaaGreat
theorem ev_off {p q r : List Trm} (hp : Vld p) (hq : Vld q) (hr : Vld r) (hne : r ≠ []) (h : ∀ x,ev x r ≠ 0 → ev x p=ev x q) : p=q:=by
 have h1 : mulP r (subP p q)=[]:=ev_inj (Vld.mul _ _) Vld.nil fun x=>by
  rw [ev_mul x hr.nat (Vld.sub _ _).nat,ev_sub x hp.nat hq,ev_nil]
  by_cases e : ev x r=0
  ·rw [e]; grind
  ·rw [h x e]; grind
 rcases (mulP_nil_iff hr (Vld.sub _ _)).1 h1 with h2 | h2
 ·exact absurd h2 hne
 ·refine ev_inj hp hq fun x=>?_
  have h3:=ev_sub x hp.nat hq
  rw [h2,ev_nil] at h3
  grind
def RV : Nat → Rat → Rat → Rat → List Trm → List (List Trm) → Pt → Rat
 | 0,_,_,_,_,_,_=>1
 | 1,_,c0,_,_,b,x=>sL x (fun i=>c0 ^ i) b
 | _,c1,c0,_,_,b,x=>nrm c1 c0 (sL x (fun i=>(gq c1 c0 i).1) b) (sL x (fun i=>(gq c1 c0 i).2) b)
section
variable {u m n : Nat} {a b : List (List Trm)} {am : List Trm}
theorem el_en {l : List (List Trm)} {u B E : Nat} (h : ∀ j,En u B E (rowE l 0 j)) : ∀ c ∈ l,En u B E c:=fun c hc=>by
 obtain ⟨i,hi,rfl⟩:=List.mem_iff_getElem.1 hc
 have:=h (l.length - 1 - i)
 rw [rowE,if_pos ⟨by omega,by omega⟩,show 0 + l.length - 1 - (l.length - 1 - i)=i by omega,List.getD_eq_getElem?_getD,List.getElem?_eq_getElem hi] at this
 exact this
theorem row_at {l : List (List Trm)} {k i : Nat} (h : i < l.length) : rowE l k (k + (l.length - 1 - i))=l.getD i []:=by
 rw [rowE,if_pos ⟨by omega,by omega⟩]; congr 1; omega
theorem row_out {l : List (List Trm)} {k j : Nat} (h : k + l.length ≤ j) : rowE l k j=[]:=by rw [rowE,if_neg (by omega)]
theorem row_b {k n j : Nat} (h : n ≤ k) : sylF a b n k j=rowE b (k - n) j:=by rw [sylF,if_pos h]
theorem res_deg0 (h : Sy u 15 225 4 0 n a b am) (hn : n ≤ 4) : ∃ d,resS (0 + n) (0 + n) (syl a b) oneP false=some d ∧ En u (2 ^ 100) 40 d ∧ ∀ x,ev x am ≠ 0 → ev x d=ev x am ^ n:=by
 refine ⟨powP am n,res_m0 h hn (by omega) (by omega) (by omega),(powP_en h.em h.u4 n).mono ?_ (by omega),fun x _=>ev_pow x h.em.v.nat n⟩
 exact Nat.le_trans (Nat.pow_le_pow_right (by omega) hn) (by decide +kernel)
theorem res_deg1 (h : Sy u 15 225 4 1 n a b am) (hn : n ≤ 4) : ∃ d,resS (1 + n) (1 + n) (syl a b) oneP false=some d ∧ En u (2 ^ 100) 40 d ∧ ∀ x c,ev x am ≠ 0 → ev x (a.getD 0 [])=-(c * ev x am) → ev x d=ev x am ^ n * sL x (fun i=>c ^ i) b:=by
 refine ⟨_,res_m1 h hn (by omega) (by omega) (by omega),(ff_en h n n n).mono ?_ (by omega),fun x c _ hc=>?_⟩
 ·exact Nat.le_trans (Nat.mul_le_mul (Nat.pow_le_pow_right (by omega) hn) (Nat.le_refl _)) (by decide +kernel)
 ·have la:=h.la
  rw [ff_ev h x,(gg_row1 (fun k=>by rw [rowE_diag h]) (fun k=>by
   have:=row_at (l:=a) (k:=k) (i:=0) (by omega)
   rw [la] at this
   rw [show k + 1=k + (1 + 1 - 1 - 0) by omega,this,hc]) (fun k j hj=>by rw [row_out (by omega),ev_nil]) n n (Nat.le_refl _)).1]
  rw [rsum_congr (n:=n + 1) (g:=fun j=>ev x (rowE b 0 j) * (fun i=>c ^ i) (n - j)) fun j _=>by
   rw [row_b (Nat.le_refl n),Nat.sub_self],sum_row x h.lb,sL,h.lb]
theorem res_deg2 (h : Sy u 15 225 4 2 n a b am) (hn : n ≤ 4) : ∃ d,resS (2 + n) (2 + n) (syl a b) oneP false=some d ∧ En u (2 ^ 100) 40 d ∧ ∀ x c1 c0,ev x am ≠ 0 → ev x (a.getD 1 [])=c1 * ev x am → ev x (a.getD 0 [])=c0 * ev x am →
  ev x d=ev x am ^ n * nrm c1 c0 (sL x (fun i=>(gq c1 c0 i).1) b) (sL x (fun i=>(gq c1 c0 i).2) b):=by
 have la:=h.la
 have ea:=el_en (fun j=>h.ea 0 j)
 have eb:=el_en (fun j=>h.eb 0 j)
 have g1 : En u 15 2 (a.getD 1 []):=by have:=row_at (l:=a) (k:=0) (i:=1) (by omega); rw [← this]; exact h.ea _ _
 have g0 : En u 15 2 (a.getD 0 []):=by have:=row_at (l:=a) (k:=0) (i:=0) (by omega); rw [← this]; exact h.ea _ _
 have hd:=d_en h.u4 g0 g1 h.em b eb
 have hB : dB b.length ≤ 2 ^ 100:=by
  rw [h.lb]
  have : ∀ k,k ≤ 4 → dB (k + 1) ≤ 2 ^ 100:=by decide +kernel
  exact this n hn
 have key : ∀ x c1 c0,ev x am ≠ 0 → ev x (a.getD 1 [])=c1 * ev x am → ev x (a.getD 0 [])=c0 * ev x am →
   ev x (dP (a.getD 0 []) (a.getD 1 []) am b)=ev x am ^ n * nrm c1 c0 (sL x (fun i=>(gq c1 c0 i).1) b) (sL x (fun i=>(gq c1 c0 i).2) b):=fun x c1 c0 hne e1 e0=>by
  have:=(d_ev h.u4 g0 g1 h.em x e1 e0 b fun c hc=>(eb c hc).v).2
  rw [h.lb,show ev x am ^ (n + 1)=ev x am ^ n * ev x am from Rat.pow_succ _ _] at this
  grind
 refine ⟨dP (a.getD 0 []) (a.getD 1 []) am b,res_m2 h hn (by omega) (by omega) (by omega) hd hB (by have:=h.lb; omega) ?_,hd.mono hB (by have:=h.lb; omega),key⟩
 have en:=ff_en h n
 have eq : mulP (dP (a.getD 0 []) (a.getD 1 []) am b) (powP am n)=subP (mulP (FF a am (sylF a b n) n n n) (FF a am (sylF a b n) n (n + 1) (n + 1))) (mulP (FF a am (sylF a b n) n (n + 1) n) (FF a am (sylF a b n) n n (n + 1))):=by
  refine ev_off (Vld.mul _ _) (Vld.sub _ _) h.em.v h.ne fun x hne=>?_
  obtain ⟨c1,e1⟩ : ∃ c1,ev x (a.getD 1 [])=c1 * ev x am:=⟨ev x (a.getD 1 []) / ev x am,by grind⟩
  obtain ⟨c0,e0⟩ : ∃ c0,ev x (a.getD 0 [])=c0 * ev x am:=⟨ev x (a.getD 0 []) / ev x am,by grind⟩
  rw [ev_mul x hd.v.nat (Vld.pow _ _).nat,ev_pow x h.em.v.nat,key x c1 c0 hne e1 e0,ev_sub x (Vld.mul _ _).nat (Vld.mul _ _),ev_mul x (en _ _).v.nat (en _ _).v.nat,ev_mul x (en _ _).v.nat (en _ _).v.nat,ff_ev h x,ff_ev h x,ff_ev h x,ff_ev h x]
  have hr:=fun i hi=>gg_row2 (A:=fun k j=>ev x (rowE a k j)) (F:=fun i j=>ev x (sylF a b n i j)) (am:=ev x am) (c1:=c1) (c0:=c0) (fun k=>by rw [rowE_diag h]) (fun k=>by
   have:=row_at (l:=a) (k:=k) (i:=1) (by omega)
   rw [la] at this
   rw [show k + 1=k + (2 + 1 - 1 - 1) by omega,this,e1]) (fun k=>by
   have:=row_at (l:=a) (k:=k) (i:=0) (by omega)
   rw [la] at this
   rw [show k + 2=k + (2 + 1 - 1 - 0) by omega,this,e0]) (fun k j hj=>by rw [row_out (by omega),ev_nil]) i n hi
  obtain ⟨r1,r2,-⟩:=hr n (Nat.le_refl _)
  obtain ⟨r3,r4,-⟩:=hr (n + 1) (by omega)
  rw [r1,r2,r3,r4]
  have s0 : ∀ g : Nat → Rat,rsum (fun j=>ev x (sylF a b n n j) * g (n + 1 - j)) (n + 2)=sL x (fun i=>g (i + 1)) b:=fun g=>by
   rw [rsum_congr (n:=n + 2) (g:=fun j=>ev x (rowE b 0 j) * g (n + 1 - j)) fun j _=>by rw [row_b (Nat.le_refl n),Nat.sub_self],sum_row0 x h.lb,sL,h.lb]
  have s1 : ∀ g : Nat → Rat,rsum (fun j=>ev x (sylF a b n (n + 1) j) * g (n + 1 - j)) (n + 2)=sL x g b:=fun g=>by
   rw [rsum_congr (n:=n + 2) (g:=fun j=>ev x (rowE b 1 j) * g (n + 1 - j)) fun j _=>by rw [row_b (by omega),show n + 1 - n=1 by omega],sum_row1 x h.lb,sL,h.lb]
  rw [s0 (fun i=>(gq c1 c0 i).1),s0 (fun i=>(gq c1 c0 i).2),s1 (fun i=>(gq c1 c0 i).1),s1 (fun i=>(gq c1 c0 i).2)]
  rw [sL_congr x (g:=fun i=>(gq c1 c0 (i + 1)).1) (h:=fun i=>(-c1) * (gq c1 c0 i).1 + 1 * (gq c1 c0 i).2) fun i=>by simp only [gq]; grind]
  rw [sL_congr x (g:=fun i=>(gq c1 c0 (i + 1)).2) (h:=fun i=>(-c0) * (gq c1 c0 i).1 + 0 * (gq c1 c0 i).2) fun i=>by simp only [gq]; grind]
  rw [sL_lin,sL_lin]
  generalize sL x (fun i=>(gq c1 c0 i).1) b=P
  generalize sL x (fun i=>(gq c1 c0 i).2) b=S
  generalize ev x am ^ n=W
  unfold nrm
  grind
 intro x
 have:=congrArg (ev x) eq
 rw [ev_mul x hd.v.nat (Vld.pow _ _).nat,ev_pow x h.em.v.nat,ev_sub x (Vld.mul _ _).nat (Vld.mul _ _),ev_mul x (en _ _).v.nat (en _ _).v.nat,ev_mul x (en _ _).v.nat (en _ _).v.nat] at this
 exact this
end
end Q
