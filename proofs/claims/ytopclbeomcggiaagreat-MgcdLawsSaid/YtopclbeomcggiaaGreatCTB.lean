/- law08.MgcdLaws: joined. -/
import Derived.Test.YtopclbeomcggiaaGreatC02
import Derived.Test.YtopclbeomcggiaaGreatC38
import Derived.Test.YtopclbeomcggiaaGreatCTA
set_option linter.unusedVariables false
set_option linter.unusedSimpArgs false
set_option maxHeartbeats 16000000
set_option maxRecDepth 100000
namespace Go.Proofs.YtopclbeomcggiaaGreat
open Go.RowKit Q
theorem anCalls {a b g:MP} (h:An a b g) (W:World) (u v:Value) (h1:IsPoly W u a.l) (h2:IsPoly W v b.l):Calls Tryz.prog 16 #[u,v] W (RetPoly W g.l) :=
 (gcdN_any 6 _ _ _ h.wa h.wb h.e).1 u v W h1 h2
theorem gcdlaws_any (sA sB sC:Value) (A B C:List Dr4) (w:World) (hA:IsR4 w sA A) (hB:IsR4 w sB B) (hC:IsR4 w sC C):Calls Tryz.prog 5 #[.agg #[sA,sB,sC]] w (Ret w (.bool true)):=by
 obtain⟨g,h,k,n,m,zg,zh,zk,zn,zm,x1,x2,x3,x4,x5,x6,x7,x8,x9,wc,wa,Kg,Kh,Kk,Kn,Km,o2⟩:=laws_ex (made8_dm A) (made8_dm B) (made8_dm C);have oo:(sz8.mul sz8).ok:=by decide +kernel
 exact gcdlaws_main sA sB sC (made8P A) (made8P B) (made8P C) g.l h.l k.l n.l m.l (szN zg) (szN zh) (szN zk) (szN zn) (szN zm) sz8 w (made8_pk A) (made8_pk B) (made8_pk C) oo Kg Kh Kk Kn Km o2
  (zH fun W hb=>made8_any sA A W (hA.on hb)) (zH fun W hb=>made8_any sB B W (hB.on hb)) (zH fun W hb=>made8_any sC C W (hC.on hb))
  (zH fun W u v=>anCalls x1 W u v) (zH fun W u v=>anCalls x2 W u v) (zH fun W u v=>anCalls x3 W u v) (zH fun W u v=>anCalls x4 W u v) (zH fun W u v=>anCalls x5 W u v) (zH fun W u v=>anCalls x6 W u v) (zH fun W u v=>anCalls x7 W u v)
  (zH fun W u h1=>normal_any u _ _ W h1 wc x8) (zH fun W u h1=>normal_any u _ _ W h1 wa x9)
end Go.Proofs.YtopclbeomcggiaaGreat
