/- law08.MgcdLaws: joined. -/
import Derived.Test.YtopclbeomcggiaaGreatZTA
set_option linter.unusedVariables false
set_option linter.unusedSimpArgs false
set_option maxHeartbeats 16000000
set_option maxRecDepth 100000
namespace Go.Proofs.YtopclbeomcggiaaGreat
open Go.RowKit Q
theorem Mh(b d e:Value)(A B C:List vH)(w:World)(s:oL w b A)(x:oL w d B)(y:oL w e C):Calls Tryz.prog 5 #[.agg #[b,d,e]] w (oP w (.bool true)):=by
 obtain⟨g,h,k,n,m,M,N,O,S,R,x1,x2,F,G,H,I,J,K,L,E,wa,j,o,p,r,q,z⟩:=WT (mi A) (mi B) (mi C);have D:(Ju.mul Ju).ok:=dK
 exact Jo b d e (mJ A) (mJ B) (mJ C) g.l h.l k.l n.l m.l (mM M) (mM N) (mM O) (mM S) (mM R) Ju w (nk A) (nk B) (nk C) D j o p r q z
  (zH λW hb=>lv b A W (s.on hb)) (zH λW hb=>lv d B W (x.on hb)) (zH λW hb=>lv e C W (y.on hb))
  (zH λW u v=>qg x1 W u v) (zH λW u v=>qg x2 W u v) (zH λW u v=>qg F W u v) (zH λW u v=>qg G W u v) (zH λW u v=>qg H W u v) (zH λW u v=>qg I W u v) (zH λW u v=>qg J W u v)
  (zH λW u i=>mI u _ _ W i E K) (zH λW u i=>mI u _ _ W i wa L)
end Go.Proofs.YtopclbeomcggiaaGreat
