/- law08.MgcdDivides: joined. -/
import Derived.Test.YtopclbeomcggiaaGreatZTD
set_option linter.unusedVariables false
set_option linter.unusedSimpArgs false
set_option maxHeartbeats 16000000
set_option maxRecDepth 100000
namespace Go.Proofs.YtopclbeomcggiaaGreat
open Go.RowKit Q MP
theorem xX{Dq b:Nat}{q z f:MP}{t:ai}{r:List ai}(hz:z.l=t::r)(e:f=q*z)(j:Pk (mM Dq) q.l)(k:Pk (mM b) z.l)(p:Dq*b<65536)(d:b*Dq<65536)(h:Dq*b*t.2.num.natAbs<4294967296)(W:World)(u v:Value)(i:aj W u f.l)(n:aj W v (t::r)) :
  Calls Tryz.prog 25 #[u,v] W (Cs W q.l true):=by
 obtain⟨o,s⟩:=WV hz j k p d h;have m:f.l=aO q.l (t::r):=by rw[e,<-hz];rfl
 rw[m]at i;exact UR u v _ r t _ (some q.l) _ _ _ W i n o s
theorem Ot(F G H:Value)(o LB j:List vH)(w:World)(hA:oL w F o)(hB:oL w G LB)(hC:oL w H j):Calls Tryz.prog 4 #[.agg #[F,G,H]] w (oP w (.bool true)):=by
 have da:=mi o;have db:=mi LB;have J:=mi j;have oo:(Ju.mul Ju).ok:=dK;have m1:=zH (λW (hb:Below w.heap.size w W)=>lv F o W (hA.on hb));have Z:=zH (λW (hb:Below w.heap.size w W)=>lv G LB W (hB.on hb));have m3:=zH (λW (hb:Below w.heap.size w W)=>lv H j W (hC.on hb));have O:=nk o;have Kb:=nk LB;have R:=nk j;by_cases m:jX o*jX j≠0\/jX LB*jX j≠0
 ·obtain⟨g,x,y,s,t,r,z,zs,ha,D,Y,ex,ey,es,N,z1,z2,K,Kx,Ky,s1,s2,Ks⟩:=YX da db J m
  have c0:jX j≠0:=λh=>by
   rcases m with b|b
   ·exact b (by rw[h];grind)
   ·exact b (by rw[h];grind)
  obtain⟨I,r',q⟩:=jR c0;have p:t.2.num.natAbs=1:=by rw[Y];rfl
  have B:I.2.num.natAbs<=15:=by
   have hm:I∈(jX j).l:=by rw[q];simp
   obtain⟨k,X⟩:=gJ (J.i.d I hm);have b:=rZ hm;have e:=J.i.a;rw[show((1:Nat):Rat)=1 from rfl,Rat.one_mul]at e;have S:I.2.num=k:=by rw[X];rfl
   rw[S];refine Ui (n:=15) ?_;rw[<-X];exact Rat.le_trans b e
  have e1:(1:MP).l=[(e0,(1:Rat))]:=rH.symm;have E:∀{f h:MP},f*h≠0->(aO f.l h.l).length≠0:=λC b=>C (zero_iff.2 (List.length_eq_zero_iff.1 b))
  refine Mk F G H (mJ o) (mJ LB) (mJ j) r x.l y.l s.l t Ju (mM z) w O Kb R oo (D▸K) (zH Y) (zH ?_) m1 Z m3
   (zH λW u v b e=>D▸qg ha W u v b e)
   (zH λW u v b e=>xX D ex Kx K oM oM (by rw[p];omega) W u v b e)
   (zH λW u v b e=>xX D ey Ky K oM oM (by rw[p];omega) W u v b e)
   (zH λW u v b e=>?_) (zH λW u v b e=>e1▸qg N W u v b e)
  ·by_cases C:jX o*jX j=0
   ·have b:=m.resolve_left λh=>h C;exact .inr ⟨List.length_eq_zero_iff.2 (zero_iff.1 C),E b⟩
   ·exact .inl (E C)
  ·have S:=Nat.mul_le_mul s2 B;have M:aj W v (I::r'):=q▸e;have L:aj W u g.l:=D▸b;exact xX q es Ks (J.dq.pk dK) oM oM (by rw[nU];omega) W u v L M
 ·have b:jX o*jX j=0:=Classical.byContradiction λh=>m (.inl h);have e:jX LB*jX j=0:=Classical.byContradiction λh=>m (.inr h)
  exact Mj F G H (mJ o) (mJ LB) (mJ j) Ju w O Kb R oo (zH (zero_iff.1 b)) (zH (zero_iff.1 e)) m1 Z m3
   (zH λW u v b e=>(jF 6 [] [] [] Wp.nil Wp.nil Xu).1 u v W b e)
end Go.Proofs.YtopclbeomcggiaaGreat
