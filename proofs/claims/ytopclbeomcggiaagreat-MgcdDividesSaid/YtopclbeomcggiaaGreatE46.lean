/- law08.MgcdDivides: joined. -/
import Derived.Test.YtopclbeomcggiaaGreatE02
import Derived.Test.YtopclbeomcggiaaGreatE43
import Derived.Test.YtopclbeomcggiaaGreatETD
import Derived.Test.YtopclbeomcggiaaGreatEUO
set_option linter.unusedVariables false
set_option linter.unusedSimpArgs false
set_option maxHeartbeats 16000000
set_option maxRecDepth 100000
namespace Go.Proofs.YtopclbeomcggiaaGreat
open Go.RowKit Q MP
theorem div7_exact {Dq Dz:Nat} {q z f:MP} {t:Trm} {r:List Trm} (hz:z.l=t::r) (e:f=q*z) (Kq:Pk (szN Dq) q.l) (Kz:Pk (szN Dz) z.l) (hD:Dq*Dz<65536) (hD2:Dz*Dq<65536) (hgs:Dq*Dz*t.2.num.natAbs<4294967296) (W:World) (u v:Value) (h1:IsPoly W u f.l) (h2:IsPoly W v (t::r)) :
  Calls Tryz.prog 25 #[u,v] W (RetDivT W q.l true):=by
 obtain⟨hB,hR⟩:=runB_ex hz Kq Kz hD hD2 hgs;have ef:f.l=mulP q.l (t::r):=by rw [e,<- hz];rfl
 rw [ef] at h1;exact div7_any u v _ r t _ (some q.l) _ _ _ W h1 h2 hB hR
theorem gcddiv_any (sA sB sC:Value) (LA LB LC:List Dr4) (w:World) (hA:IsR4 w sA LA) (hB:IsR4 w sB LB) (hC:IsR4 w sC LC):Calls Tryz.prog 4 #[.agg #[sA,sB,sC]] w (Ret w (.bool true)):=by
 have da:=made8_dm LA;have db:=made8_dm LB;have dc:=made8_dm LC;have oo:(sz8.mul sz8).ok:=by decide +kernel
 have m1:=zH (fun W (hb:Below w.heap.size w W)=>made8_any sA LA W (hA.on hb));have m2:=zH (fun W (hb:Below w.heap.size w W)=>made8_any sB LB W (hB.on hb));have m3:=zH (fun W (hb:Below w.heap.size w W)=>made8_any sC LC W (hC.on hb));have Ka:=made8_pk LA;have Kb:=made8_pk LB;have Kc:=made8_pk LC;by_cases hne:made8M LA*made8M LC≠0\/made8M LB*made8M LC≠0
 ·obtain⟨g,x,y,s,t,r,z,zs,ha,hl,ht,ex,ey,es,hxy,z1,z2,Kg,Kx,Ky,s1,s2,Ks⟩:=div_ex da db dc hne
  have c0:made8M LC≠0:=fun h=>by
   rcases hne with h1|h1
   ·exact h1 (by rw [h];grind)
   ·exact h1 (by rw [h];grind)
  obtain⟨t',r',hl'⟩:=head_ex c0;have hnum:t.2.num.natAbs=1:=by rw [ht];rfl
  have hnum':t'.2.num.natAbs<=15:=by
   have hm:t'∈(made8M LC).l:=by rw [hl'];simp
   obtain⟨k,hk⟩:=int_of_dv (dc.i.d t' hm);have h1:=asum_mem hm;have h2:=dc.i.a;rw [show ((1:Nat):Rat)=1 from rfl,Rat.one_mul] at h2;have h3:t'.2.num=k:=by rw [hk];rfl
   rw [h3];refine int_le (n:=15) ?_;rw [<- hk];exact Rat.le_trans h1 h2
  have e1:(1:MP).l=[(e0,(1:Rat))]:=oneP_eq.symm;have hpl:∀ {f h:MP},f*h≠0->(mulP f.l h.l).length≠0:=fun h0 h1=>h0 (zero_iff.2 (List.length_eq_zero_iff.1 h1))
  refine gcddiv_main sA sB sC (made8P LA) (made8P LB) (made8P LC) r x.l y.l s.l t sz8 (szN z) w Ka Kb Kc oo (hl ▸ Kg) (zH ht) (zH ?_) m1 m2 m3
   (zH fun W u v h1 h2=>hl ▸ anCalls ha W u v h1 h2)
   (zH fun W u v h1 h2=>div7_exact hl ex Kx Kg (by omega) (by omega) (by rw [hnum];omega) W u v h1 h2)
   (zH fun W u v h1 h2=>div7_exact hl ey Ky Kg (by omega) (by omega) (by rw [hnum];omega) W u v h1 h2)
   (zH fun W u v h1 h2=>?_) (zH fun W u v h1 h2=>e1 ▸ anCalls hxy W u v h1 h2)
  ·by_cases h0:made8M LA*made8M LC=0
   ·have h1:=hne.resolve_left fun h=>h h0;exact .inr ⟨List.length_eq_zero_iff.2 (zero_iff.1 h0),hpl h1⟩
   ·exact .inl (hpl h0)
  ·have h3:=Nat.mul_le_mul s2 hnum';have h2':IsPoly W v (t'::r'):=hl' ▸ h2;have h1':IsPoly W u g.l:=hl ▸ h1;exact div7_exact hl' es Ks (dc.dq.pk (by decide +kernel)) (by omega) (by omega) (by rw [Nat.mul_one];omega) W u v h1' h2'
 ·have h1:made8M LA*made8M LC=0:=Classical.byContradiction fun h=>hne (.inl h);have h2:made8M LB*made8M LC=0:=Classical.byContradiction fun h=>hne (.inr h)
  exact gcddiv_zero sA sB sC (made8P LA) (made8P LB) (made8P LC) sz8 w Ka Kb Kc oo (zH (zero_iff.1 h1)) (zH (zero_iff.1 h2)) m1 m2 m3
   (zH fun W u v h1 h2=>(gcdN_any 6 [] [] [] Wp.nil Wp.nil sw_g5).1 u v W h1 h2)
end Go.Proofs.YtopclbeomcggiaaGreat
