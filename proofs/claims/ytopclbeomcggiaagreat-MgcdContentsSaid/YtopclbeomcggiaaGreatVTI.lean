/- law08.MgcdContents: joined. -/
import Derived.Test.YtopclbeomcggiaaGreatC02
import Derived.Test.YtopclbeomcggiaaGreatVTH
import Derived.Test.YtopclbeomcggiaaGreatVUP
set_option linter.unusedVariables false
namespace Go.Proofs.YtopclbeomcggiaaGreat
open Go.RowKit Q MP
theorem c_any (sA sB sC:Value) (z:Int) (LA LB LC:List Dr4) (w:World) (hA:IsR4 w sA LA) (hB:IsR4 w sB LB) (hC:IsR4 w sC LC) (h0:0<=z) (h1:z<256):Calls Tryz.prog 6 #[.agg #[sA,sB,sC],.int .u8 z] w (Ret w (.bool true)):=by
 obtain⟨k,hk,k4⟩:∃ k:Nat,z.tmod 4=k/\k<4:=⟨(z % 4).toNat,by rw [Int.tmod_eq_emod_of_nonneg h0];omega,by omega⟩;obtain⟨g,h,p,zg,zh,e1,e2,e3,wa,wb,g1,g2,g3,d1,d2,d3,p1,hz,hn⟩:=c_ex (made8_dm LA) (made8_dm LB) k4;have oo:(sz8.mul sz8).ok:=by decide +kernel
 have o3:((szN zg).mul (szN zh)).ok:=szN_mul g1 d1 (by have:=Nat.mul_le_mul g2 d2;omega);have o2:((szN zg).mul (szN 1)).ok:=szN_mul g1 (by omega) (by omega);have hl:∀ {f:MP},f.l.length≠0->f≠0:=fun h e=>h (by rw [e];rfl);have e4:(1:MP).l=[(e0,(1:Rat))]:=oneP_eq.symm
 refine c_main sA sB sC z k (made8P LA) (made8P LB) g.l h.l p.l sz8 (szN zg) (szN zh) (szN 1) w (made8_pk LA) (made8_pk LB) oo g3 d3 p1 o2 o3 k4 (wrap_id (by omega)) hk (zH ?_)
  (zH fun W hb=>made8_any sA LA W (hA.on hb)) (zH fun W hb=>made8_any sB LB W (hB.on hb))
  (zH fun W u h1=>content_any (gcdN_any 6) u _ _ k W k4 h1 wa e1) (zH fun W u h1=>content_any (gcdN_any 6) u _ _ k W k4 h1 wb e2) (zH fun W u h1=>primitive_any (gcdN_any 6) u _ _ k W k4 h1 wa e3)
  (zH fun hne W u h1=>?_) (zH fun hne W u h1=>?_)
 ·by_cases a0:made8M LA=0
  ·obtain⟨x1,x2⟩:=hz a0;exact .inl ⟨by have:=zero_iff.1 a0;show (made8M LA).l.length=0;rw [this];rfl,by rw [x1];rfl,by rw [x2];rfl⟩
  ·obtain⟨y1,y2,-⟩:=hn a0;refine .inr ⟨fun h=>a0 (zero_iff.2 (List.length_eq_zero_iff.1 h)),?_,y2⟩;show (g*p).l=(made8M LA).l;rw [<- y1]
 ·obtain⟨-,-,y3,y4,-⟩:=hn (hl (f:=made8M LA) hne);rw [<- e4];exact content_any (gcdN_any 6) u _ _ k W k4 h1 y3 y4
 ·obtain⟨-,-,-,-,y5,y6⟩:=hn (hl (f:=made8M LA) hne);exact content_any (gcdN_any 6) u _ _ k W k4 h1 y5 y6
end Go.Proofs.YtopclbeomcggiaaGreat
