/- law08.MgcdContents: joined. -/
import Derived.Test.YtopclbeomcggiaaGreatZ37
import Derived.Test.YtopclbeomcggiaaGreatZTH
set_option linter.unusedVariables false
set_option linter.unusedSimpArgs false
set_option maxHeartbeats 16000000
set_option maxRecDepth 100000
namespace Go.Proofs.YtopclbeomcggiaaGreat
open Go.RowKit Q MP
theorem Jt(m n q:Value)(z:Int)(b LB y:List vH)(w:World)(G:oL w m b)(H:oL w n LB)(Y:oL w q y)(F:0<=z)(d:z<256):Calls Tryz.prog 6 #[.agg #[m,n,q],.int .u8 z] w (oP w (.bool true)):=by
 obtain⟨k,I,j⟩:∃k:Nat,z.tmod 4=k/\k<4:=⟨(z%4).toNat,by rw[Int.tmod_eq_emod_of_nonneg F];omega,oM⟩;obtain⟨g,h,p,r,x,e1,e2,B,wa,wb,g1,D,E,d1,d2,d3,p1,hz,o⟩:=Mc (mi b) (mi LB) j;have L:(Ju.mul Ju).ok:=dK;have K:((mM r).mul (mM x)).ok:=zw g1 d1 (by have:=Nat.mul_le_mul D d2;omega);have J:((mM r).mul (mM 1)).ok:=zw g1 oM oM;have s:∀{f:MP},f.l.length≠0->f≠0:=λh e=>h (by rw[e];rfl);have C:(1:MP).l=[(e0,(1:Rat))]:=rH.symm
 refine FQ m n q z k (mJ b) (mJ LB) g.l h.l p.l Ju (mM r) (mM x) (mM 1) w (nk b) (nk LB) L E d3 p1 J K j (kD oM) I (zH ?_)
  (zH λW hb=>lv m b W (G.on hb)) (zH λW hb=>lv n LB W (H.on hb))
  (zH λW u d=>iM (jF 6) u _ _ k W j d wa e1) (zH λW u d=>iM (jF 6) u _ _ k W j d wb e2) (zH λW u d=>nZ (jF 6) u _ _ k W j d wa B)
  (zH λi W u d=>?_) (zH λi W u d=>?_)
 ·by_cases a0:jX b=0
  ·obtain⟨x1,x2⟩:=hz a0;exact .inl ⟨by have:=zero_iff.1 a0;show(jX b).l.length=0;rw[this];rfl,by rw[x1];rfl,by rw[x2];rfl⟩
  ·obtain⟨M,N,-⟩:=o a0;refine .inr ⟨λh=>a0 (zero_iff.2 (List.length_eq_zero_iff.1 h)),?_,N⟩;show(g*p).l=(jX b).l;rw[<-M]
 ·obtain⟨-,-,O,R,-⟩:=o (s (f:=jX b) i);rw[<-C];exact iM (jF 6) u _ _ k W j d O R
 ·obtain⟨-,-,-,-,S,X⟩:=o (s (f:=jX b) i);exact iM (jF 6) u _ _ k W j d S X
end Go.Proofs.YtopclbeomcggiaaGreat
