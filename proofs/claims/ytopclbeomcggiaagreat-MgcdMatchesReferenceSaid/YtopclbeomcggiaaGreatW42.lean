/- law08.MgcdMatchesReference: joined. -/
import Derived.Test.YtopclbeomcggiaaGreatW37
import Derived.Test.YtopclbeomcggiaaGreatWTR
set_option linter.unusedVariables false
set_option linter.unusedSimpArgs false
set_option maxHeartbeats 16000000
set_option maxRecDepth 100000
namespace Go.Proofs.YtopclbeomcggiaaGreat
open Go.RowKit Q MP
theorem Mh(m r q:Value)(z:Int)(i LB b:List Ap)(w:World)(L:wE w m i)(D:wE w r LB)(F:wE w q b)(H:0<=z)(O:z<256):Calls Tryz.prog 3 #[.agg #[m,r,q],.int .u8 z] w (ru w (.bool true)):=by
 obtain⟨k,N,e⟩:∃k:Nat,z.tmod 4=k/\k<4:=⟨(z%4).toNat,by rw[Int.tmod_eq_emod_of_nonneg H];omega,oM⟩;have j:=(ym i).mul (ym b);have C:=(ym LB).mul (ym b);have wa:=X9 j.d (j.in90 (Nat.le_refl _));obtain⟨n,g,t,p,M,I,K,⟨n1,n2,E⟩,⟨g1,G,J⟩,⟨t1,t2,t3⟩,p1,B,y⟩:=Ps j C e;have o:=mg j.d (j.in90 (Nat.le_refl _)) (by rw[XE];omega) oM;have x:=FH 6
 exact JZ m r q z k (wD i) (wD LB) (wD b) n.l g.l t.l p.l Wv (JK M) (JK I) (JK K) (JK 1) w (De i) (De LB) (De b) dK E J t3 y (mq oM) N
  (zH λW hb=>zD m i W (L.on hb)) (zH λW hb=>zD r LB W (D.on hb)) (zH λW hb=>zD q b W (F.on hb))
  (zH λW u h=>ni u _ _ W h wa n1) (zH λW u h=>mH h n2)
  (zH λW u v h s=>Uh g1 W u v h s) (zH λW u v h s=>x u v _ _ _ W h s G)
  (zH λW u h=>kH (nL 6) u _ _ k W e h wa t1) (zH λW u h=>oI x u _ _ k W h e (o.deg k) o.w.len t2)
  (zH λW u h=>nC (nL 6) u _ _ k W e h wa p1) (zH λW u h=>mG x u _ _ k W h e (o.deg k) o.w.len B)
end Go.Proofs.YtopclbeomcggiaaGreat
