/- law08.MgcdMatchesReference: joined. -/
import Derived.Test.YtopclbeomcggiaaGreatW37
import Derived.Test.YtopclbeomcggiaaGreatWTR
set_option linter.unusedVariables false
set_option linter.unusedSimpArgs false
set_option maxHeartbeats 16000000
set_option maxRecDepth 100000
namespace Go.Proofs.YtopclbeomcggiaaGreat
open Go.RowKit Q MP
theorem Mr(m o q:Value)(z:Int)(e LB b:List AA)(w:World)(D:wM w m e)(E:wM w o LB)(F:wM w q b)(C:0<=z)(O:z<256):Calls Tryz.prog 3 #[.agg #[m,o,q],.int .u8 z] w (rE w (.bool true)):=by
 obtain⟨k,G,i⟩:∃k:Nat,z.tmod 4=k/\k<4:=⟨(z%4).toNat,by rw[Int.tmod_eq_emod_of_nonneg C];omega,oM⟩;have j:=(yB e).mul (yB b);have K:=(yB LB).mul (yB b);have wa:=Yh j.d (j.in90 (nL _));obtain⟨n,g,t,p,M,L,N,⟨n1,n2,H⟩,⟨g1,y,B⟩,⟨t1,t2,t3⟩,p1,I,J⟩:=PG j K i;have r:=mq j.d (j.in90 (nL _)) (by rw[XM];omega) oM;have x:=FP 6
 exact J9 m o q z k (wL e) (wL LB) (wL b) n.l g.l t.l p.l WE (JS M) (JS L) (JS N) (JS 1) w (Dt e) (Dt LB) (Dt b) dK H B t3 J (mE oM) G
  (zH λW hb=>zO m e W (D.on hb)) (zH λW hb=>zO o LB W (E.on hb)) (zH λW hb=>zO q b W (F.on hb))
  (zH λW u h=>nA u _ _ W h wa n1) (zH λW u h=>mK h n2)
  (zH λW u v h s=>Uq g1 W u v h s) (zH λW u v h s=>x u v _ _ _ W h s y)
  (zH λW u h=>kK (nV 6) u _ _ k W i h wa t1) (zH λW u h=>oP x u _ _ k W h i (r.deg k) r.w.len t2)
  (zH λW u h=>nH (nV 6) u _ _ k W i h wa p1) (zH λW u h=>mJ x u _ _ k W h i (r.deg k) r.w.len I)
end Go.Proofs.YtopclbeomcggiaaGreat
