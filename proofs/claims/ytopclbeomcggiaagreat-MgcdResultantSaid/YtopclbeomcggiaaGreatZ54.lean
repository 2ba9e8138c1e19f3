/- R8.Resultant. -/
import Derived.Test.YtopclbeomcggiaaGreatZTM
set_option linter.unusedVariables false
set_option linter.unusedSimpArgs false
set_option maxHeartbeats 16000000
set_option maxRecDepth 100000
namespace Go.Proofs.YtopclbeomcggiaaGreat
open Go.RowKit Q Go.WideMaps Go.Maps
theorem Fs(d i:Value)(a b:List ai)(v:Int)(w:World)(ha:aj w d a)(hb:aj w i b)(h:a=[]\/b=[]):Calls Tryz.prog 34 #[d,i,.int .i64 v] w (aN w []):=by
 obtain⟨k,m,rfl,-⟩:=ha.shape;obtain⟨l,o,rfl,-⟩:=hb.shape;by_cases h0:a=[]
 ·subst h0;simp only[List.length_nil]
  go_enter Tryz.func34,Tryz.ntmps34
  go_wp2;go_ret;exact⟨_,rfl,bZ.nil _ _,Below.refl _ _⟩
 ·have h1:b=[]:=h.resolve_left h0;subst h1;have j:((a.length:Int)==0)=false:=by have:=List.length_pos_iff.2 h0;simp;omega
  simp only[List.length_nil];generalize a.length=n at *;clear h
  go_enter Tryz.func34,Tryz.ntmps34
  go_wp2;go_ret;exact⟨_,rfl,bZ.nil _ _,Below.refl _ _⟩
theorem vP{u v:Nat}(m n:Value)(a b:List ai)(w:World)(ha:aj w m a)(hb:aj w n b)(hu:u<4)(hv:v<4)(q:u≠v)(k:xV u v 15 2 a)(l:xV u v 15 2 b)(la:a.length<=100000000)(lb:b.length<=100000000) :
  Calls Tryz.prog 34 #[m,n,.int .i64 v] w (aN w (qV a b v)):=by
 by_cases d:a=[]\/b=[]
 ·rw[qV,if_pos d];exact Fs m n a b v w ha hb d
 have i:a≠[]:=λh=>d (.inl h);have j:b≠[]:=λh=>d (.inr h);rw[qV,if_neg d];have da:=k.deg i;have x:=l.deg j;have p:=zH (E8 m n a b v w ha hb hv k.vl l.vl i j oM oM la lb);have o:=zH (λW u (h:AP W u (xY (aB a v) (aB b v)))=>Vt hu ((aH a v).toNat+(aH b v).toNat) u _ W oM (Oo hu hv q k l i j) h);have r:((a.length:Int)==0)=false:=by have:=List.length_pos_iff.2 i;simp;omega
 have s:((b.length:Int)==0)=false:=by have:=List.length_pos_iff.2 j;simp;omega
 obtain⟨y,B,rfl,-⟩:=ha.shape;obtain⟨z,C,rfl,-⟩:=hb.shape;generalize nW _ (xY (aB a v) (aB b v))=R at *;generalize xY (aB a v) (aB b v)=M at *;generalize a.length=na at *;generalize b.length=nb at *;clear ha hb k l d i j la lb da x
 go_enter Tryz.func34,Tryz.ntmps34
 go_wp2_with (first
  | (go_at_call 77;refine(o.out _ _ h3).mono ?_;rintro e w4 ⟨v4,rfl,h4,hb4⟩)
  | (go_at_call 78;refine p.out.mono ?_;rintro e w3 ⟨v3,rfl,h3,hb3⟩))
 go_ret;exact⟨_,rfl,h4,hb3.trans (hb4.mono hb3.size)⟩
end Go.Proofs.YtopclbeomcggiaaGreat
