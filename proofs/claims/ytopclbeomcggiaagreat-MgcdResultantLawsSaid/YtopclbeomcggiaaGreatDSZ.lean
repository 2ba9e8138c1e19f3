/- law08.MgcdResultantLaws returns true for all drawn lists. -/
import Derived.Test.YtopclbeomcggiaaGreatDSY
set_option linter.unusedVariables false
set_option linter.unusedSimpArgs false
namespace Q
open Go Go.Proofs.YtopclbeomcggiaaGreat
theorem en_pk {u : Nat} {p : List Trm} (h : En u (2 ^ 100) 40 p) (hu : u < 4) : Pk szR p:=⟨h.v,h.bd hu,szR_ok.1⟩
theorem wp8 {p : List Trm} (h : Pk sz8 p) : Wp p:=wpB_wp (wpB_of h.v h.b sz8_is)
end Q
namespace Go.Proofs.YtopclbeomcggiaaGreat
open Go.RowKit Q Go.WideMaps Go.Maps
theorem reslaws_any (sA sB sC : Value) (z : Int) (A B C : List Dr4) (w : World) (hA : IsR4 w sA A) (hB : IsR4 w sB B) (hC : IsR4 w sC C) (z0 : 0 ≤ z) (z1 : z < 256) :
  Calls Tryz.prog 9 #[.agg #[sA,sB,sC],.int .u8 z] w (Ret w (.bool true)):=by
 obtain ⟨k,hk,hk2⟩ : ∃ k : Nat,z.tmod 2=(k : Int) ∧ k < 2:=⟨(z.tmod 2).toNat,by rw [Int.tmod_eq_emod_of_nonneg z0]; omega,by rw [Int.tmod_eq_emod_of_nonneg z0]; omega⟩
 obtain ⟨u,hu⟩ : ∃ u,u=1 - k:=⟨_,rfl⟩
 have huv : u=0 ∧ k=1 ∨ u=1 ∧ k=0:=by omega
 have u4 : u < 4:=by omega
 have k4 : k < 4:=by omega
 have ne : u ≠ k:=by omega
 have ia:=plane_in A huv
 have ib:=plane_in B huv
 have ic:=plane_in C huv
 have Ka:=plane8_pk A
 have Kb:=plane8_pk B
 have Kc:=plane8_pk C
 have hl:=line_en B huv
 obtain ⟨p,q,e1,e2,e3,np,nq,nr⟩:=res_mul u4 k4 ne ia ib ic
 obtain ⟨s,e4,e5,ns⟩:=res_line u4 k4 ne ia hl
 have m1:=fun W (h : Below w.heap.size w W)=>plane8_any sA A W (hA.on h)
 have m2:=fun W (h : Below w.heap.size w W)=>plane8_any sB B W (hB.on h)
 have m3:=fun W (h : Below w.heap.size w W)=>plane8_any sC C W (hC.on h)
 have dg:=(Ka.deg k)
 have dg2 : degP (plane8P A) k ≤ 2:=dg.2
 have Kbc:=(Kb.b.prods Kc.b).canon
 have Kvl : Bd _ (subP (varP k) (substP (plane8P B) k (constP 1))):=((Pk.var k).b.append (hl.neg.bd u4)).canon
 have Kl : Pk sz8 (substP (plane8P B) k (constP 1)):=⟨hl.v,hl.bd u4,sz8_ok⟩
 have d1:=fun W vb vq (h1 : IsPoly W vb (plane8P B)) (h2 : IsRat W vq 1)=>eval7_any vb vq _ k W k4 Kb h1 h2
 generalize substP (plane8P B) k (constP 1)=l at *
 have d2:=fun W va vb (h1 : IsPoly W va (plane8P A)) (h2 : IsPoly W vb l)=>subst7_any va vb _ l k W k4 Ka Kl h1 h2
 have d3:=fun W va (h1 : IsPoly W va (plane8P A))=>deg7K (v:=k) Ka k4 h1
 have wb : Wp (mulP (plane8P B) (plane8P C)):=wpB_wp (wpB_of (Vld.mul _ _) Kbc ⟨rfl,by decide +kernel,by decide,by decide⟩)
 have wl : Wp (subP (varP k) l):=wpB_wp (wpB_of (Vld.sub _ _) Kvl ⟨rfl,by decide +kernel,by decide,by decide⟩)
 have vt : Vld (substP (plane8P A) k l):=Vld.subst _ _ _
 generalize substP (plane8P A) k l=t at *
 have wa:=wp8 Ka
 have wbb:=wp8 Kb
 have wc:=wp8 Kc
 have nt : En u (2 ^ 100) 40 t:=by
  by_cases h : degP (plane8P A) k=1
  ·rw [if_pos h] at e5
   have e6 : subP [] s=t:=by rw [e5]; exact sub_back2 vt
   rw [← e6]
   exact ((En.nil u 0 0).sub ns u4).mono (by omega) (by omega)
  ·rw [if_neg h] at e5
   rw [← e5]; exact ns
 refine reslaws_main sA sB sC z k (plane8P A) (plane8P B) (plane8P C) l p q s t (degP (plane8P A) k) w Ka Kb Kc Kl (en_pk np u4) (en_pk nq u4) (en_pk ns u4) (en_pk nt u4) k4 (wrap_id (by omega)) hk (Lib.hid ?_) (Lib.hid m1) (Lib.hid m2) (Lib.hid m3)
  (Lib.hid fun W va vb h1 h2=>resultant_any va vb _ _ p k W h1 h2 wa wbb k4 e1) (Lib.hid fun W va vb h1 h2=>resultant_any va vb _ _ q k W h1 h2 wa wc k4 e2)
  (Lib.hid fun W va vb h1 h2=>resultant_any va vb _ _ s k W h1 h2 wa wl k4 e4) (Lib.hid fun W va vb h1 h2=>resultant_any va vb _ _ _ k W h1 h2 wa wb k4 e3) (Lib.hid d1) (Lib.hid d2) (Lib.hid d3)
 by_cases h : degP (plane8P A) k=1
 ·rw [if_pos h] at e5; exact .inl ⟨h,e5⟩
 ·rw [if_neg h] at e5
  refine .inr ⟨?_,e5⟩
  have h1 : degP (plane8P A) k=-1 ∨ degP (plane8P A) k=0 ∨ degP (plane8P A) k=2:=by omega
  rcases h1 with h1 | h1 | h1 <;> rw [h1] <;> decide
end Go.Proofs.YtopclbeomcggiaaGreat
