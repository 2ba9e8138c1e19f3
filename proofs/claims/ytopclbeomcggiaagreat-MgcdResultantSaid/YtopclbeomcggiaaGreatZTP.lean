/- law08.MgcdResultant returns true for all drawn lists. -/
import Derived.Test.YtopclbeomcggiaaGreatZTO
set_option linter.unusedVariables false
set_option linter.unusedSimpArgs false
set_option maxHeartbeats 16000000
set_option maxRecDepth 100000
namespace Q
open Go Go.Proofs.YtopclbeomcggiaaGreat MP
def zF (L:List vH):MP:=⟨fV L,(wG L).v⟩
theorem RI{x y:Int}(b:0<=x/\x<=2)(d:0<=y/\y<=2):(x*y).tmod 2=1↔(x.toNat * y.toNat)%2=1:=by
 obtain rfl|rfl|rfl:x=0\/x=1\/x=2:=oM
 all_goals obtain rfl|rfl|rfl:y=0\/y=1\/y=2:=oM
 all_goals decide
theorem Ou{u v:Nat}{p:List ai}(hp:xV u v 15 2 p)(b:p≠[]):0<=aH p v/\aH p v<=2:=by have h:=hp.deg b;obtain⟨t,d,e⟩:=lU b hp.vl.nat v;have:=Ex.nat_get (hp.vl.nat t d) v;omega
end Q
namespace Go.Proofs.YtopclbeomcggiaaGreat
open Go.RowKit Q Go.WideMaps Go.Maps MP
theorem Vu(K M S:Value)(z:Int)(A B C:List vH)(w:World)(hA:oL w K A)(hB:oL w M B)(hC:oL w S C)(Y:0<=z)(z1:z<256) :
  Calls Tryz.prog 8 #[.agg #[K,M,S],.int .u8 z] w (oP w (.bool true)):=by
 obtain⟨k,hk,a2⟩:∃k:Nat,z.tmod 2=(k:Int)/\k<2:=⟨(z.tmod 2).toNat,by rw[Int.tmod_eq_emod_of_nonneg Y];omega,by rw[Int.tmod_eq_emod_of_nonneg Y];omega⟩;obtain⟨u,hu⟩:∃u,u=1 - k:=⟨_,rfl⟩;have r:u=0/\k=1\/u=1/\k=0:=oM;have u4:u<4:=oM;have j:k<4:=oM;have ne:u≠k:=oM;have o:=Ff A r;have p:=Ff B r;have H:=wG A;have Kb:=wG B;have m1:=λW (h:Below w.heap.size w W)=>Fg K A W (hA.on h);have m2:=λW (h:Below w.heap.size w W)=>Fg M B W (hB.on h);have da:Dm (zF A):=mi _;have db:Dm (zF B):=mi _;have F:=da.dq;have G:=db.dq;have wa:=VA F.d (F.in90 oM);have wb:=VA G.d (G.in90 oM);obtain⟨g,eg,hg⟩:=Je F.d G.d (F.in90 oM) (G.in90 oM);obtain⟨zg,-,-,Z⟩:=XE F G oM hg;have hz:=λi n=>Vm (a:=zF A) (b:=zF B) u4 j ne o p i n hg;have E:∀L,fV L≠[]->zF L≠0:=λL h e=>h (zero_iff.1 e);have es:=Vg u4 j ne o p;have et:=Vg u4 j ne p o;have ns:=AR u4 j ne o p;have nt:=AR u4 j ne p o;have R:=Vh u4 j ne o p
 have X:∀L,aH (fV L) k<=2/\-1<=aH (fV L) k:=λL=>by
  by_cases h:fV L=[]
  ·rw[h];exact⟨(by decide:(-1:Int)<=2),(by decide:(-1:Int)<=-1)⟩
  ·have:=Ou (Ff L r) h;omega
 have N:=λW m q i n=>rY m q _ _ _ k W i n wa wb j es;have O:=λW m q i n=>rY m q _ _ _ k W i n wb wa j et;have mr:=λW m q i n=>vP m q _ _ W i n u4 j ne o p H.len Kb.len;have tC:=λW m q i n=>vP m q _ _ W i n u4 j ne p o Kb.len H.len;have a0:=X A;have a1:=X B
 refine RH K M S z k (fV A) (fV B) (qV (fV A) (fV B) k) (qV (fV B) (fV A) k) g.l (aH (fV A) k) (aH (fV B) k) (aH g.l k) Ju Ju w H Kb (ns.pk u4 (nL _) (nL _)) (nt.pk u4 (nL _) (nL _))
  (kD oM) hk (zH λh=>by rw[qV,if_pos h]) ?_ (zH λh=>?_) (zH λh=>?_) (zH m1) (zH m2) (zH N) (zH O) (zH mr) (zH tC)
  (zH λW m q i n=>(jF 6 _ _ _ wa wb eg).1 m q W i n) (zH λW m i=>TQ (v:=k) H j i) (zH λW m i=>TQ (v:=k) Kb j i) (zH λW m i=>TQ (v:=k) Z j i)
 ·generalize aH (fV A) k=x at *;generalize aH (fV B) k=y at *;obtain rfl|rfl|rfl|rfl:x=-1\/x=0\/x=1\/x=2:=oM
  all_goals obtain rfl|rfl|rfl|rfl:y=-1\/y=0\/y=1\/y=2:=oM
  all_goals decide
 ·have s:fV A≠[]:=λe=>h (.inl e);have D:fV B≠[]:=λe=>h (.inr e);have hp:=RI (Ou o s) (Ou p D);have J:=R s D;by_cases I:((aH (fV A) k).toNat * (aH (fV B) k).toNat)%2=1
  ·rw[if_pos I]at J;exact .inl ⟨hp.2 I,J⟩
  ·rw[if_neg I]at J;exact .inr ⟨λe=>I (hp.1 e),J⟩
 ·exact hz (E A λe=>h (.inl e)) (E B λe=>h (.inr e))
end Go.Proofs.YtopclbeomcggiaaGreat
