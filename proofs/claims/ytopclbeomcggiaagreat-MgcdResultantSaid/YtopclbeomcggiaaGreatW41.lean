/- law08.MgcdResultant returns true for all drawn lists. -/
import Derived.Test.YtopclbeomcggiaaGreatWTO
set_option linter.unusedVariables false
set_option linter.unusedSimpArgs false
set_option maxHeartbeats 16000000
set_option maxRecDepth 100000
namespace Q
open Go Go.Proofs.YtopclbeomcggiaaGreat MP
def xh (L:List uK):MP:=⟨fC L,(uq L).v⟩
theorem OG {x y:Int} (hx:0<=x/\x<=2) (hy:0<=y/\y<=2):(x*y).tmod 2=1↔(x.toNat * y.toNat) % 2=1:=by
 obtain rfl|rfl|rfl:x=0\/x=1\/x=2:=by omega
 all_goals obtain rfl|rfl|rfl:y=0\/y=1\/y=2:=by omega
 all_goals decide
theorem KY {u v:Nat} {p:List ai} (hp:vH u v 15 2 p) (hne:p≠[]):0<=aG p v/\aG p v<=2:=by
 have h1:=hp.deg hne;obtain⟨t,ht,e⟩:=kQ hne hp.vl.nat v;have:=Ex.nat_get (hp.vl.nat t ht) v;omega
end Q
namespace Go.Proofs.YtopclbeomcggiaaGreat
open Go.RowKit Q Go.WideMaps Go.Maps MP
theorem RI (sA sB sC:Value) (z:Int) (A B C:List uK) (w:World) (hA:tH w sA A) (hB:tH w sB B) (hC:tH w sC C) (z0:0<=z) (z1:z<256) :
  Calls Tryz.prog 8 #[.agg #[sA,sB,sC],.int .u8 z] w (rO w (.bool true)):=by
 obtain⟨k,hk,hk2⟩:∃ k:Nat,z.tmod 2=(k:Int)/\k<2:=⟨(z.tmod 2).toNat,by rw [Int.tmod_eq_emod_of_nonneg z0];omega,by rw [Int.tmod_eq_emod_of_nonneg z0];omega⟩;obtain⟨u,hu⟩:∃ u,u=1 - k:=⟨_,rfl⟩;have huv:u=0/\k=1\/u=1/\k=0:=by omega
 have u4:u<4:=by omega
 have k4:k<4:=by omega
 have ne:u≠k:=by omega
 have ia:=Cv A huv;have ib:=Cv B huv;have Ka:=uq A;have Kb:=uq B;have m1:=fun W (h:Below w.heap.size w W)=>CF sA A W (hA.on h);have m2:=fun W (h:Below w.heap.size w W)=>CF sB B W (hB.on h);have da:Dm (xh A):=Jd _;have db:Dm (xh B):=Jd _;have qa:=da.dq;have qb:=db.dq;have wa:=Yj qa.d (qa.in90 (by omega));have wb:=Yj qb.d (qb.in90 (by omega));obtain⟨g,eg,hg⟩:=X9 qa.d qb.d (qa.in90 (by omega)) (qb.in90 (by omega));obtain⟨zg,-,-,Kg⟩:=Xi qa qb (by omega) hg;have hz:=fun h1 h2=>RA (a:=xh A) (b:=xh B) u4 k4 ne ia ib h1 h2 hg;have hne:∀ L,fC L≠[]->xh L≠0:=fun L h e=>h (zero_iff.1 e);have es:=Rv u4 k4 ne ia ib;have et:=Rv u4 k4 ne ib ia;have ns:=yG u4 k4 ne ia ib;have nt:=yG u4 k4 ne ib ia;have hsw:=Rw u4 k4 ne ia ib
 have dn:∀ L,aG (fC L) k<=2/\-1<=aG (fC L) k:=fun L=>by
  by_cases h:fC L=[]
  ·rw [h];exact⟨(by decide:(-1:Int)<=2),(by decide:(-1:Int)<=-1)⟩
  ·have:=KY (Cv L huv) h;omega
 have hr1:=fun W va vb h1 h2=>qp va vb _ _ _ k W h1 h2 wa wb k4 es;have hr2:=fun W va vb h1 h2=>qp va vb _ _ _ k W h1 h2 wb wa k4 et;have lY:=fun W va vb h1 h2=>tQ va vb _ _ W h1 h2 u4 k4 ne ia ib Ka.len Kb.len;have qR:=fun W va vb h1 h2=>tQ va vb _ _ W h1 h2 u4 k4 ne ib ia Kb.len Ka.len;have da2:=dn A;have db2:=dn B
 refine OE sA sB sC z k (fC A) (fC B) (oQ (fC A) (fC B) k) (oQ (fC B) (fC A) k) g.l (aG (fC A) k) (aG (fC B) k) (aG g.l k) Ul Ul w Ka Kb (ns.pk u4 (Nat.le_refl _) (Nat.le_refl _)) (nt.pk u4 (Nat.le_refl _) (Nat.le_refl _))
  (mJ (by omega)) hk (zH fun h=>by rw [oQ,if_pos h]) ?_ (zH fun h=>?_) (zH fun h=>?_) (zH m1) (zH m2) (zH hr1) (zH hr2) (zH lY) (zH qR)
  (zH fun W va vb h1 h2=>(qK 6 _ _ _ wa wb eg).1 va vb W h1 h2) (zH fun W va h1=>Qx (v:=k) Ka k4 h1) (zH fun W va h1=>Qx (v:=k) Kb k4 h1) (zH fun W va h1=>Qx (v:=k) Kg k4 h1)
 ·generalize aG (fC A) k=x at *;generalize aG (fC B) k=y at *;obtain rfl|rfl|rfl|rfl:x=-1\/x=0\/x=1\/x=2:=by omega
  all_goals obtain rfl|rfl|rfl|rfl:y=-1\/y=0\/y=1\/y=2:=by omega
  all_goals decide
 ·have hna:fC A≠[]:=fun e=>h (.inl e);have hnb:fC B≠[]:=fun e=>h (.inr e);have hp:=OG (KY ia hna) (KY ib hnb);have hs:=hsw hna hnb;by_cases ho:((aG (fC A) k).toNat * (aG (fC B) k).toNat) % 2=1
  ·rw [if_pos ho] at hs;exact .inl ⟨hp.2 ho,hs⟩
  ·rw [if_neg ho] at hs;exact .inr ⟨fun e=>ho (hp.1 e),hs⟩
 ·exact hz (hne A fun e=>h (.inl e)) (hne B fun e=>h (.inr e))
end Go.Proofs.YtopclbeomcggiaaGreat
