/- The fixed examples: plain values. The fixed examples: what the contracts ask, by tests. The fixed examples: the contracts at known values. MpolyMakes: plain facts on the drawn terms. R7.Made, plain: the terms that it lays for drawn ones. R7.Made: for every list of drawn terms the polynomial of its first terms. Contracts in terms of sizes: a polynomial that is valid and of a size. The reference's polynomials: Mul, Scale, Sub, in terms of sizes. Contracts in terms of sizes, more: powers, derivatives; a drawn variable; a pair of bytes. For MpolyCoefficients: sizes of coefficients and of what From puts together; a list of three polynomials. Greatest common divisors: what the program computes, in plain words, with the sizes that its steps ask. No program in sight. Slices of numbers modulo the prime. mgcd.image. mgcd.shared. Exact divisions, plain: the first term of a product. No program in sight. -/
import Derived.Test.YtopclbeomcggiaaGreatE02
import Derived.Test.YtopclbeomcggiaaGreatE04
import Derived.Test.YtopclbeomcggiaaGreatE16
import Derived.Test.YtopclbeomcggiaaGreatE20
import Derived.Test.YtopclbeomcggiaaGreatE24
import Derived.Test.YtopclbeomcggiaaGreatE26
import Derived.Test.YtopclbeomcggiaaGreatE27
import Derived.Test.YtopclbeomcggiaaGreatE28
import Derived.Test.YtopclbeomcggiaaGreatE29
import Derived.Test.YtopclbeomcggiaaGreatE30
set_option linter.unusedVariables false
set_option linter.unusedSimpArgs false
set_option maxHeartbeats 16000000
set_option maxRecDepth 100000
section
namespace Q
open Go.Proofs.YtopclbeomcggiaaGreat
def tm (c i k:Int):Trm:=((i,k,0,0),(c:Rat))
theorem sv_x:varP 0=[tm 1 1 0]:=by decide +kernel
theorem sv_y:varP 1=[tm 1 0 1]:=by decide +kernel
end Q
end
section
namespace Q
open Go Go.Proofs.YtopclbeomcggiaaGreat
def smB (B E N:Nat) (l:List Trm):Bool :=
 decide (l.length<=N) && l.all (fun t=>decide (-(E:Int)<=t.1.1) && decide (t.1.1<=E) && decide (-(E:Int)<=t.1.2.1) && decide (t.1.2.1<=E) && decide (-(E:Int)<=t.1.2.2.1) && decide (t.1.2.2.1<=E) && decide (-(E:Int)<=t.1.2.2.2) && decide (t.1.2.2.2<=E) && decide (t.2.den=1)) && decide (asum l<=(B:Rat))
theorem smB_bd {B E N:Nat} {l:List Trm} (h:smB B E N l=true):Bd ⟨1,B,E,N⟩ l:=by
 simp only [smB,Bool.and_eq_true,decide_eq_true_eq,List.all_eq_true] at h;obtain⟨⟨h1,h2⟩,h3⟩:=h;refine⟨h1,fun t ht=>?_,fun t ht=>?_,h3⟩
 ·obtain⟨⟨⟨⟨⟨⟨⟨⟨a1,a2⟩,a3⟩,a4⟩,a5⟩,a6⟩,a7⟩,a8⟩,-⟩:=h2 t ht;exact⟨a1,a2,a3,a4,a5,a6,a7,a8⟩
 ·obtain⟨-,hd⟩:=h2 t ht;refine⟨t.2.num,?_⟩
  have:(t.2.num:Rat)=t.2:=by
   refine Rat.ext rfl ?_;rw [hd];rfl
  rw [this];show t.2*((1:Nat):Rat)=t.2;rw [show ((1:Nat):Rat)=1 from rfl,Rat.mul_one]
def S1:Sz:=⟨1,100,10,10⟩
def sm (l:List Trm):Bool:=smB 100 10 10 l
def psB (D R:List (List Trm)):Bool:=(List.range (R.length-1)).all fun i =>
 (sm (R.getD i []) && sm (D.getD (D.length-1) [])) &&
 (!decide (R.length-1-(D.length-1)<=i) ||
  ((sm (R.getD (R.length-1) []) && sm (D.getD (i-(R.length-1-(D.length-1))) [])) &&
  (sm (mulP (R.getD i []) (D.getD (D.length-1) [])) && sm (mulP (R.getD (R.length-1) []) (D.getD (i-(R.length-1-(D.length-1))) [])) && vldB (mulP (R.getD i []) (D.getD (D.length-1) [])) && vldB (mulP (R.getD (R.length-1) []) (D.getD (i-(R.length-1-(D.length-1))) [])))))
def psAB (D:List (List Trm)):Nat->List (List Trm)->Bool
|0,_=>true
|f+1,R=>!decide (D.length-1<R.length) || (psB D R && psAB D f (psStep D R))
def szH (k:Nat):Sz:=⟨1,2 ^ (k+1)-1,k+1,2 ^ (k+1)-1⟩
end Q
end
section
namespace Q
open Go Go.RowKit Go.Proofs.YtopclbeomcggiaaGreat
def FactL.polyT {g:Option Nat} {T:TypeId} (hT:uT≠T) (hT':monoT≠T) (l:List Trm) (x:Value):FactL (Lr g T):=FactL.of (fun v w=>∃ u,v=.tuple #[u,x]/\IsPoly w u l) (fun _ _ _ hb=>fun⟨u,e,h⟩=>⟨u,e,h.lr hb hT hT'⟩)
def FactL.polys {g:Option Nat} {T:TypeId} (hT:uT≠T) (hT':monoT≠T) (h3:Go.Proofs.YtopclbeomcggiaaGreat.polyT≠T) (L:List (List Trm)):FactL (Lr g T):=FactL.of (fun v w=>IsPolys w v L) (fun _ _ _ hb h=>IsSl.lr h hb ⟨hT,hT'⟩ h3)
end Q
namespace Go.Proofs.YtopclbeomcggiaaGreat
open Go.RowKit Q
variable {w:World} {v u:Value} {l p q r:List Trm}
end Go.Proofs.YtopclbeomcggiaaGreat
end
section
namespace Q
open Go Go.Proofs.YtopclbeomcggiaaGreat
def rawT (t:Int × Int × Int × Int × Int):Trm:=((t.1 % 3,t.2.1 % 4-1,t.2.2.1 % 2,t.2.2.2.1 % 2),((t.2.2.2.2.tmod 4:Int):Rat))
abbrev Drw:=Int × Int × Int × Int × Int
def RawOk (t:Drw):Prop:=(0<=t.1/\t.1<256)/\(0<=t.2.1/\t.2.1<256)/\(0<=t.2.2.1/\t.2.2.1<256)/\(0<=t.2.2.2.1/\t.2.2.2.1<256)/\-128<=t.2.2.2.2/\t.2.2.2.2<128
end Q
namespace Go.Proofs.YtopclbeomcggiaaGreat
open Go.RowKit Q
def drawC (t:Int × Int × Int × Int × Int):List Value:=[.int .u8 t.1,.int .u8 t.2.1,.int .u8 t.2.2.1,.int .u8 t.2.2.2.1,.int .i8 t.2.2.2.2]
def elDraw (T:TypeId):El Drw where
 T:=T
 sz:=5
 pos:=by decide
 E _ cs t:=cs=drawC t/\RawOk t
 len:=by rintro w c t ⟨rfl,h⟩;rfl
 one:=by
  rintro w c t ⟨rfl,h⟩ v hv;simp only [drawC,List.mem_cons,List.not_mem_nil,or_false] at hv;rcases hv with rfl|rfl|rfl|rfl|rfl <;> rfl
 on:=fun h _=>h
 ok _:=True
 lr:=fun h _ _=>h
 self:=trivial
def IsDraw (w:World) (v:Value) (l:List Drw):Prop:=∃ T,IsSl (elDraw T) w v l
end Go.Proofs.YtopclbeomcggiaaGreat
end
section
namespace Q
open Go Go.Proofs.YtopclbeomcggiaaGreat
def Drw.get (t:Drw) (v:Nat):Int:=match v with|0=>t.1|1=>t.2.1|2=>t.2.2.1|_=>t.2.2.2.1
def madeTo (t:Drw) (k:Nat):Ex:=(if 0<k then t.1 % 3 else 0,if 1<k then t.2.1 % 3 else 0,if 2<k then t.2.2.1 % 3 else 0,if 3<k then t.2.2.2.1 % 3 else 0)
def madeT (vs:Nat) (t:Drw):Trm:=(madeTo t vs,((t.2.2.2.2.tmod 10:Int):Rat))
def madeL (L:List Drw) (n vs:Nat):List Trm:=(L.take n).map (madeT vs)
def madeP (L:List Drw) (n vs:Nat):List Trm:=canon (madeL L n vs)
end Q
namespace Go.Proofs.YtopclbeomcggiaaGreat
open Go.RowKit Q
end Go.Proofs.YtopclbeomcggiaaGreat
namespace Q
open Go Go.RowKit Q Go.Proofs.YtopclbeomcggiaaGreat
end Q
namespace Go.Proofs.YtopclbeomcggiaaGreat
open Go.RowKit Q
end Go.Proofs.YtopclbeomcggiaaGreat
end
section
namespace Go.Proofs.YtopclbeomcggiaaGreat
open Go.RowKit Q Go.WideMaps Go.Maps
end Go.Proofs.YtopclbeomcggiaaGreat
end
section
namespace Q
open Go Go.Proofs.YtopclbeomcggiaaGreat
structure Pk (s:Sz) (p:List Trm):Prop where
 v:Vld p
 b:Bd s p
 k:s.ok
namespace Pk
variable {s t:Sz} {p q:List Trm}
theorem mul (h:Pk s p) (h':Pk t q) (k:(s.mul t).ok):Pk (s.mul t) (mulP p q):=⟨Vld.mul _ _,(h.b.prods h'.b).canon,k⟩
theorem rs (h:Pk s p):∀ t∈p,Rs t.2:=h.b.rs h.k
theorem rk (h:Pk s p):∀ t∈p,Rk t.2:=fun t ht=>(h.rs t ht).rk
theorem ir (h:Pk s p):∀ t∈p,InR t.1/\Rk t.2:=fun t ht=>⟨h.b.inR h.k t ht,h.rk t ht⟩
theorem len (h:Pk s p):p.length<=100000000:=h.b.len h.k
end Pk
end Q
namespace Go.Proofs.YtopclbeomcggiaaGreat
open Go.RowKit Q
variable {w:World} {v u:Value} {s t:Sz} {p q:List Trm}
theorem sameK (hP:Pk s p) (hQ:Pk t q) (e:p=q) (hp:IsPoly w v p) (hq:IsPoly w u q):Calls Tryz.prog 13 #[v,u] w (Ret w (.bool true)) :=
 (decide_eq_true e) ▸ same7_any v u p q w hp hq hP.rk hQ.rk hP.len
theorem valid7K (hP:Pk s p) (hp:IsPoly w v p):Calls Tryz.prog 22 #[v] w (Ret w (.bool true)) :=
 (vldB_vld.2 hP.v) ▸ valid7_any v p w hp hP.rs hP.len
end Go.Proofs.YtopclbeomcggiaaGreat
end
section
namespace Q
theorem timesP_prods {p:List Trm} {m:Trm} (h:m.2≠0):timesP p m=prods p [m]:=by
 rw [timesP,if_neg h]
 induction p with
|nil=>rfl
|cons s p ih=>rw [List.map_cons,ih];rfl
theorem ev_single (x:Pt) (t:Trm):ev x [t]=t.2*mon x t.1:=by rw [ev_cons,ev_nil];grind
theorem mul_snoc {p q:List Trm} {k:Nat} {t:Trm} (hp:Vld p) (hq:Vld q) (h:q[k]?=some t):mergeP (mulP p (q.take k)) (timesP p t)=mulP p (q.take (k+1)):=by
 have ht:t.1.nat=true:=(hq.2 t (List.mem_of_getElem? h)).2;have h1:=(hq.sublist (List.take_sublist k q)).nat;have h2:=(hq.sublist (List.take_sublist (k+1) q)).nat;rw [mergeP_eq (Vld.mul _ _) (hp.times ht)];refine ev_inj (Vld.add _ _) (Vld.mul _ _) fun x=>?_;rw [ev_add x (Vld.mul _ _).nat (hp.times ht).nat,ev_mul x hp.nat h1,ev_times x hp.nat ht,ev_mul x hp.nat h2,List.take_add_one,h];simp only [Option.toList_some];rw [ev_append,ev_single,Rat.mul_add]
theorem add_e0 (e:Ex):e.add e0=e:=by simp [Ex.add,e0]
theorem timesP_scale (p:List Trm) (c:Rat):timesP p (e0,c)=scaleP p c:=by
 unfold timesP scaleP;split
 ·rfl
 ·refine List.map_congr_left fun t _=>?_;simp only [mulT,add_e0]
namespace Pk
variable {s t:Sz} {p q:List Trm}
theorem times (h:Pk s p) (h':Pk t q) (k:(s.mul t).ok) {u:Trm} (hu:u∈q):Bd (s.mul t) (timesP p u)/\∀ a∈p,Go.Proofs.YtopclbeomcggiaaGreat.InR (a.1.add u.1):=by
 have hz:u.2≠0:=(h'.v.2 u hu).1;have hb:Bd t [u]:=h'.b.sub (List.singleton_sublist.2 hu);have hp:=h.b.prods hb;refine⟨by rw [timesP_prods hz];exact hp,fun a ha=>?_⟩;exact hp.inR k (mulT a u) (List.mem_flatMap.2 ⟨a,ha,by simp⟩)
theorem take (h:Pk s p) (k:Nat):Pk s (p.take k):=⟨h.v.sublist (List.take_sublist _ _),h.b.take k,h.k⟩
theorem scale (h:Pk s p) {c:Rat} (hb:Bd ⟨1,1,0,1⟩ [(e0,c)]) (k:(s.mul ⟨1,1,0,1⟩).ok):Pk (s.mul ⟨1,1,0,1⟩) (scaleP p c):=by
 refine⟨h.v.scale c,?_,k⟩;rw [<- timesP_scale];by_cases hc:c=0
 ·rw [timesP,if_pos hc];exact Bd.nil _
 ·rw [timesP_prods hc];exact h.b.prods hb
end Pk
end Q
namespace Go.Proofs.YtopclbeomcggiaaGreat
open Go.RowKit Q Go.WideMaps Go.Maps
theorem mul7K {s t:Sz} {vp vq:Value} {p q:List Trm} {w:World} (hP:Pk s p) (hQ:Pk t q) (kk:(s.mul t).ok) (hp:IsPoly w vp p) (hq:IsPoly w vq q):Calls Tryz.prog 12 #[vp,vq] w (RetPoly w (mulP p q)):=by
 obtain⟨ap,cp,rfl,hcp⟩:=hp.shape;obtain⟨aq,cq,rfl,hcq⟩:=hq.shape;have hlen:=hQ.len;have hmk:=zH (fun k=>hP.mul (hQ.take k) kk);have hti:=zH (fun u (hu:u∈q)=>hP.times hQ kk hu);have hsn:=zH (fun k t (h:q[k]?=some t)=>mul_snoc hP.v hQ.v h)
 go_enter Tryz.func12,Tryz.ntmps12
 go_wp2;have hb0:Below w.heap.size w (w.alloc (.cells #[] monoT)):=(Below.refl _ _).alloc (Nat.le_refl _) _;have hst:IsPoly (w.alloc (.cells #[] monoT)) (.slice (some ⟨w.heap.size,0,none⟩) 0 0) []:=(own_lit0 elTerm w).isSl;change Below w.heap.size w (w.alloc (.cells #[] 43)) at hb0;change IsPoly (w.alloc (.cells #[] 43)) _ _ at hst;replace hp:=zH hp;replace hq:=zH hq
 go_loopw [5,6] (fun o i wr=>∃ k:Nat,k<=q.length/\i=.int .i64 k/\Hid (IsPoly wr o (mulP p (q.take k)))/\Below w.heap.size w wr) (fun _ i _=>q.length-(intOf i).toNat)
 case atStart=>exact⟨0,by omega,rfl,zH (by rw [List.take_zero,mulP_nil_right];exact hst),hb0⟩
 case round =>
  clear hst hb0;obtain⟨k,hk,rfl,hO,hbr⟩:=hrel;by_cases hkl:k<q.length
  ·have hjq:q[k]?=some q[k]:=List.getElem?_eq_getElem hkl;generalize q[k]=t at hjq;obtain⟨bq,oq,rt,rfl,hrt,hC⟩:=cell_term (hq.out.on hbr) hjq;have hkl':(k:Int)<q.length:=by omega
   have hr:=hC.range;have h8:(exC t.1++rt).length=8:=by rw [List.length_append,hrt.len];rfl
   have hmem:=List.mem_of_getElem? hjq;have htm:=times7_any _ p _ t wr (hp.out.on hbr) ⟨rt,rfl,hrt⟩ hP.rs (hQ.rs t hmem) (hti.out t hmem).2 hP.len;have had:=fun W u (hb:Below wr.heap.size wr W) (hu:IsPoly W u (timesP p t))=>add7_any u5 u _ _ W (hO.out.on hb) hu (hmk.out k).rs ((hti.out t hmem).1.rs kk) (hmk.out k).len ((hti.out t hmem).1.len kk);rw [hsn.out k t hjq] at had;clear hC hmem hrt;replace htm:=zH htm;replace had:=zH had
   go_wp2_with (first
   |(refine wpList_index_at rfl _ _ 27 rfl monoT Tryz.underlying27 _ 8 96 (by kernel_rfl) _ _ _ rfl .i64 _ rfl k rfl hkl bq oq rfl ?_)
   |(refine wpList_load_mid rfl 43 _ rfl _ _ rfl _ _ hr Tryz.underlying43 rfl (by rw [h8];kernel_rfl) ?_)
   |(go_at_call 44;refine htm.out.mono ?_;rintro en w3 ⟨v3,rfl,hv3,hb3⟩)
   |(go_at_call 39;refine (had.out _ _ hb3 hv3).mono ?_;rintro en w4 ⟨v4,rfl,hv4,hb4⟩))
   have hb34:=hb3.trans (hb4.mono hb3.size);go_roundw
   case rel=>exact⟨k+1,by omega,by go_num,zH hv4,hbr.trans (hb34.mono hbr.size)⟩
   case measure=>simp [intOf];omega
  ·obtain rfl:k=q.length:=by omega
   rw [List.take_of_length_le (Nat.le_refl _)] at hO;go_wp2;go_ret;exact⟨_,rfl,hO.out,hbr⟩
theorem scale7_any (vp vc:Value) (p:List Trm) (c:Rat) (w:World) (hp:IsPoly w vp p) (hc:IsRat w vc c) (rp:∀ t∈p,Rs t.2) (rc:Rs c) (hin:∀ t∈p,InR t.1) (lp:p.length<=100000000) :
  Calls Tryz.prog 42 #[vp,vc] w (RetPoly w (scaleP p c)):=by
 obtain⟨n5,a5,k5,c5,n6,a6,k6,c6,rfl⟩:=rat_agg hc;have htm:=zH (fun W (hb:Below w.heap.size w W)=>times7_any vp p (exC e0++[.bool n5,.slice a5 k5 c5,.bool n6,.slice a6 k6 c6]) (e0,c) W (hp.on hb) ⟨_,rfl,(hc.on hb).cellsC⟩ rp rc (fun t ht=>by rw [add_e0];exact hin t ht) lp);rw [timesP_scale] at htm;replace hp:=zH hp;replace hc:=zH hc;clear rp rc hin
 go_enter Tryz.func42,Tryz.ntmps42
 go_upto_region 1 with (fail)
 refine abs1 fun W hb0 B hsz=>?_;have y1:=B.at1 0 _ rfl;have y2:=B.at1 1 _ rfl;have y3:=B.at1 2 _ rfl;have y4:=B.at1 3 _ rfl
 go_wp2_with (go_at_call 44;refine (htm.out _ hb0).mono ?_;rintro en w3 ⟨v3,rfl,hv3,hb3⟩)
 go_ret;exact⟨_,rfl,hv3,hb0.trans (hb3.mono hb0.size)⟩
theorem rs_neg:Rs (-1:Rat):=rs_of_dv (s:=⟨1,1,0,1⟩) (by decide +kernel) (Dv.int 1 (-1)) (show rabs (((-1:Int)):Rat)<=((1:Nat):Rat) by rw [rabs_int];exact Rat.natCast_le_natCast.2 (by decide))
theorem neg_pk:Bd ⟨1,1,0,1⟩ [(e0,(-1:Rat))]:=smB_bd (by decide +kernel)
theorem scaleK {s:Sz} {vp vc:Value} {p:List Trm} {c:Rat} {w:World} (hP:Pk s p) (rc:Rs c) (hp:IsPoly w vp p) (hc:IsRat w vc c):Calls Tryz.prog 42 #[vp,vc] w (RetPoly w (scaleP p c)) :=
 scale7_any vp vc p c w hp hc hP.rs rc (fun t ht=>(hP.ir t ht).1) hP.len
theorem add7K {s t:Sz} {v u:Value} {p q:List Trm} {w:World} (hP:Pk s p) (hQ:Pk t q) (hp:IsPoly w v p) (hq:IsPoly w u q):Calls Tryz.prog 39 #[v,u] w (RetPoly w (addP p q)) :=
 mergeP_eq hP.v hQ.v ▸ add7_any v u p q w hp hq hP.rs hQ.rs hP.len hQ.len
theorem sub7K {s t:Sz} {vp vq:Value} {p q:List Trm} {w:World} (hP:Pk s p) (hQ:Pk t q) (k:(t.mul ⟨1,1,0,1⟩).ok) (hp:IsPoly w vp p) (hq:IsPoly w vq q):Calls Tryz.prog 35 #[vp,vq] w (RetPoly w (subP p q)):=by
 have hs:=zH (fun W u (hb:Below w.heap.size w W) (hu:IsRat W u (((-1:Int)):Rat))=>scaleK (w:=W) (vc:=u) (c:=-1) hQ rs_neg (hq.on hb) hu);have ha:=zH (fun W u (hb:Below w.heap.size w W) (hu:IsPoly W u (scaleP q (-1)))=>add7K (w:=W) (u:=u) hP (hQ.scale neg_pk k) (hp.on hb) hu);replace hp:=zH hp;replace hq:=zH hq
 go_enter Tryz.func35,Tryz.ntmps35
 go_wp2_with (first
 |(go_at_call 24;refine (whole2_any (-1) _ (by omega) (by omega)).mono ?_;rintro en w3 ⟨v3,rfl,hv3,hb3⟩)
 |(go_at_call 42;refine (hs.out _ _ hb3 hv3).mono ?_;rintro en w4 ⟨v4,rfl,hv4,hb4⟩)
 |(go_at_call 39;refine (ha.out _ _ (hb3.trans (hb4.mono hb3.size)) hv4).mono ?_;rintro en w5 ⟨v5,rfl,hv5,hb5⟩))
 have hb34:=hb3.trans (hb4.mono hb3.size);go_ret;exact⟨_,rfl,hv5,hb34.trans (hb5.mono hb34.size)⟩
end Go.Proofs.YtopclbeomcggiaaGreat
end
section
namespace Q
open Go Go.Proofs.YtopclbeomcggiaaGreat
def szp (s:Sz) (n:Nat):Sz:=⟨s.D ^ n,s.B ^ n,s.E*n,s.N ^ n⟩
theorem one_bd:Bd ⟨1,1,0,1⟩ (constP 1):=smB_bd (by decide +kernel)
theorem one_pk:Pk ⟨1,1,0,1⟩ (constP 1):=⟨Vld.const 1,one_bd,by decide +kernel⟩
namespace Pk
variable {s t:Sz} {p q:List Trm}
end Pk
end Q
namespace Go.Proofs.YtopclbeomcggiaaGreat
open Go.RowKit Q
end Go.Proofs.YtopclbeomcggiaaGreat
end
section
namespace Q
open Go Go.RowKit Go.Proofs.YtopclbeomcggiaaGreat
theorem bd_coeff {s:Sz} {p:List Trm} (h:Bd s p) (v:Nat) (n:Int):Bd s (coeffP p v n):=by
 have h':Bd s (p.filter fun t=>t.1.get v=n):=h.sub List.filter_sublist;refine⟨by unfold coeffP;rw [List.length_map];exact h'.n,fun t ht=>?_,fun t ht=>?_,?_⟩
 ·obtain⟨u,hu,rfl⟩:=List.mem_map.1 ht;have:=h'.e u hu;rcases v with _|_|_|v <;> simp only [Ex.put] <;> omega
 ·obtain⟨u,hu,rfl⟩:=List.mem_map.1 ht;exact h'.d u hu
 ·have:asum (coeffP p v n)=asum (p.filter fun t=>t.1.get v=n):=by
   unfold coeffP;generalize p.filter _=l
   induction l with
  |nil=>rfl
  |cons u l ih=>simp only [List.map_cons,asum,ih]
  rw [this];exact h'.b
end Q
namespace Go.Proofs.YtopclbeomcggiaaGreat
open Go.RowKit Q
variable {w:World} {v u x:Value} {p q r:List Trm}
theorem cell_poly {al:Option Addr} {n cl j:Nat} {L:List (List Trm)} {c:List Trm} (h:IsPolys w (.slice al n cl) L) (hj:L[j]?=some c):∃ b off v,al=some ⟨b,off,none⟩/\IsPoly w v c/\Cells polyT w b (off+j*1) [v]:=by
 obtain⟨b,off,cs,e,-,⟨v,rfl,hv⟩,hC⟩:=h.get hj;exact⟨b,off,v,e,hv,hC⟩
end Go.Proofs.YtopclbeomcggiaaGreat
end
section
namespace Q
open Go Go.Proofs.YtopclbeomcggiaaGreat
def lcmD:List Trm->Nat
|[]=>1
|t::l=>Nat.lcm t.2.den (lcmD l)
theorem lcmD_pos:∀ l,0<lcmD l
|[]=>Nat.one_pos
|t::l=>Nat.lcm_pos t.2.den_pos (lcmD_pos l)
theorem den_lcmD {l:List Trm} {t:Trm} (h:t∈l):t.2.den∣lcmD l:=by
 induction l with
|nil=>cases h
|cons s l ih =>
  rcases List.mem_cons.1 h with rfl|h
  ·exact Nat.dvd_lcm_left _ _
  ·exact Nat.dvd_trans (ih h) (Nat.dvd_lcm_right _ _)
theorem dv_den (c:Rat):Dv c.den c:=by
 refine⟨c.num,?_⟩;have h1:(c.den:Rat)≠0:=fun h=>c.den_nz (by rw [<- Rat.intCast_natCast] at h;have:=Rat.intCast_inj.1 (h.trans Rat.intCast_zero.symm);omega);have h2:=Rat.num_divInt_den c;rw [Rat.divInt_eq_div,Rat.intCast_natCast] at h2;have h3:(c.num:Rat) / (c.den:Rat)*(c.den:Rat)=c.num:=Rat.div_mul_cancel h1;rwa [h2] at h3
def LB:Nat:=17179869184
theorem LB_eq:LB=17179869184:=rfl
def szW (D B:Nat):Sz:=⟨D,B,100000,10000⟩
def numB (l:List Trm):Nat:=(asum l).num.natAbs
def bdB (l:List Trm):Bool :=
 decide (l.length<=10000) && l.all (fun t=>decide (-100000<=t.1.1) && decide (t.1.1<=100000) && decide (-100000<=t.1.2.1) && decide (t.1.2.1<=100000) && decide (-100000<=t.1.2.2.1) && decide (t.1.2.2.1<=100000) && decide (-100000<=t.1.2.2.2) && decide (t.1.2.2.2<=100000)) && decide (nbits (lcmD l)<=LB) && decide (nbits (numB l)<=LB)
theorem le_num {c:Rat} (h:0<=c):c<=(c.num.natAbs:Rat):=by
 obtain⟨k,hk⟩:=dv_den c
 have h1:c*(c.den:Rat)=((c.num:Int):Rat):=by
  have h1:(c.den:Rat)≠0:=fun h=>c.den_nz (by rw [<- Rat.intCast_natCast] at h;have:=Rat.intCast_inj.1 (h.trans Rat.intCast_zero.symm);omega);have h2:=Rat.num_divInt_den c;rw [Rat.divInt_eq_div,Rat.intCast_natCast] at h2;have h3:(c.num:Rat) / (c.den:Rat)*(c.den:Rat)=c.num:=Rat.div_mul_cancel h1;rwa [h2] at h3
 have h2:((c.num.natAbs:Nat):Rat)=((c.num:Int):Rat):=by
  have h0:=Rat.num_nonneg.2 h;rw [<- Rat.intCast_natCast];congr 1;omega
 rw [h2,<- h1]
 have h3:(1:Rat)<=(c.den:Rat):=by
  have e:(1:Rat)=((1:Nat):Rat):=rfl;rw [e];exact Rat.natCast_le_natCast.2 c.den_pos
 have h4:=Rat.mul_le_mul_of_nonneg_left h3 h;rwa [Rat.mul_one] at h4
theorem bdB_bd {l:List Trm} (h:bdB l=true):Bd (szW (lcmD l) (numB l)) l/\nbits (lcmD l)<=LB/\nbits (numB l)<=LB:=by
 simp only [bdB,Bool.and_eq_true,decide_eq_true_eq,List.all_eq_true] at h;obtain⟨⟨⟨h1,h2⟩,h3⟩,h4⟩:=h;refine⟨⟨h1,fun t ht=>?_,fun t ht=>?_,le_num (asum_nonneg l)⟩,h3,h4⟩
 ·obtain⟨⟨⟨⟨⟨⟨⟨a1,a2⟩,a3⟩,a4⟩,a5⟩,a6⟩,a7⟩,a8⟩:=h2 t ht;exact⟨a1,a2,a3,a4,a5,a6,a7,a8⟩
 ·exact (dv_den t.2).dvd (den_lcmD ht)
def wpB (l:List Trm):Bool:=vldB l && bdB l
structure Wk (s:Sz) (p:List Trm):Prop where
 v:Vld p
 b:Bd s p
 k:s.okw
def Wp (p:List Trm):Prop:=∃ D B,0<D/\nbits D<=LB/\nbits B<=LB/\Wk (szW D B) p
theorem szW_ok {D B:Nat} (h:0<D) (h':nbits D<=LB) (h2:nbits B<=LB):(szW D B).okw :=
 ⟨h,by show nbits D<=_;rw [LB_eq] at h';unfold CAP;omega,by show nbits B<=_;rw [LB_eq] at h2;unfold CAP;omega,by show 100000<1000000;omega,by show 10000<=100000000;omega⟩
theorem szW_mul {D D' B B':Nat} (h:0<D) (h':nbits D<=LB) (k:0<D') (k':nbits D'<=LB) (hb:nbits B<=LB) (kb:nbits B'<=LB):((szW D B).mul (szW D' B')).okw:=by
 have e1:=nbits_mul D D';have e2:=nbits_mul B B';rw [LB_eq] at *;refine⟨Nat.mul_pos h k,?_,?_,by show 100000+100000<1000000;omega,by show 10000*10000<=100000000;omega⟩
 ·show nbits (D*D')<=_;unfold CAP;omega
 ·show nbits (B*B')<=_;unfold CAP;omega
theorem wpB_wp {l:List Trm} (h:wpB l=true):Wp l:=by
 rw [wpB,Bool.and_eq_true] at h;obtain⟨h1,h2,h3⟩:=bdB_bd h.2;exact⟨lcmD l,numB l,lcmD_pos l,h2,h3,vldB_vld.1 h.1,h1,szW_ok (lcmD_pos l) h2 h3⟩
theorem bdB_okl {l:List Trm} (h:bdB l=true):Okl l:=by
 obtain⟨h1,h2,h3⟩:=bdB_bd h;exact h1.oklw (szW_ok (lcmD_pos l) h2 h3)
theorem nbits1:nbits 1<=LB:=by rw [LB_eq];decide
theorem Wp.nil:Wp []:=⟨1,1,by omega,nbits1,nbits1,Vld.nil,Bd.nil _,szW_ok (by omega) nbits1 nbits1⟩
theorem Wp.val {p:List Trm} (h:Wp p):Vld p:=by obtain⟨_,_,_,_,_,h⟩:=h;exact h.v
theorem Wp.rk {p:List Trm} (h:Wp p):∀ t∈p,Rk t.2:=by obtain⟨_,_,_,_,_,h⟩:=h;exact h.b.rkw h.k
theorem Wp.ir {p:List Trm} (h:Wp p):∀ t∈p,InR t.1/\Rk t.2:=by obtain⟨_,_,_,_,_,h⟩:=h;exact fun t ht=>⟨h.b.inRw h.k t ht,h.b.rkw h.k t ht⟩
theorem Wp.len {p:List Trm} (h:Wp p):p.length<=10000:=by obtain⟨_,_,_,_,_,h⟩:=h;exact h.b.n
theorem Wp.deg {p:List Trm} (h:Wp p) (v:Nat):-1<=degP p v/\degP p v<=100000:=by
 obtain⟨_,_,_,_,_,h⟩:=h;refine⟨degP_ge p v,?_⟩;rcases (foldl_max (fun t=>t.1.get v) p (-1)).2.2 with h1|⟨t,ht,h1⟩
 ·show p.foldl _ _<=_;rw [h1];omega
 ·show p.foldl _ _<=_;rw [<- h1];have:=h.b.e t ht;simp only [szW] at this;rcases v with _|_|_|v <;> simp only [Ex.get] <;> omega
theorem Wp.exps {p:List Trm} (h:Wp p) {t:Trm} (ht:t∈p) (v:Nat):0<=t.1.get v/\t.1.get v<=100000 :=
 ⟨Ex.nat_get (h.val.nat t ht) v,Int.le_trans (degP_le ht v) (h.deg v).2⟩
theorem Wp.mulOk {p q:List Trm} (h:Wp p) (h':Wp q):MulOk p q:=by
 have i1:=h.ir;have i2:=h'.ir;have l1:=h.len;have l2:=h'.len;obtain⟨D,B,d1,d2,d3,h⟩:=h;obtain⟨D',B',e1,e2,e3,h'⟩:=h';exact⟨i1,i2,(h.b.prods h'.b).oklw (szW_mul d1 d2 e1 e2 d3 e3),by omega,by omega⟩
theorem Wp.prod {p q:List Trm} (h:Wp p) (h':Wp q):(∀ t∈mulP p q,Rk t.2)/\(mulP p q).length<=100000000:=by
 obtain⟨D,B,d1,d2,d3,h⟩:=h;obtain⟨D',B',e1,e2,e3,h'⟩:=h';have hb:=(h.b.prods h'.b).canon;have hk:=szW_mul d1 d2 e1 e2 d3 e3;exact⟨hb.rkw hk,Nat.le_trans hb.n hk.2.2.2.2⟩
theorem Wp.coeff {p:List Trm} (h:Wp p) (v:Nat) (n:Int):Wp (coeffP p v n):=by
 obtain⟨D,B,d1,d2,d3,h⟩:=h;exact⟨D,B,d1,d2,d3,h.v.coeff v n,bd_coeff h.b v n,h.k⟩
theorem Wp.coeffs {p c:List Trm} (h:Wp p) {v:Nat} (hc:c∈coeffsP p v):Wp c:=by
 obtain⟨n,rfl⟩:=mem_coeffsP hc;exact h.coeff v n
def g1 (p:List Trm):Option (List Trm):=if wpB p then some p else none
theorem g1_some {p q:List Trm} (h:g1 p=some q):q=p/\Wp p:=by
 unfold g1 at h;split at h
 ·cases h;exact⟨rfl,wpB_wp (by assumption)⟩
 ·cases h
def divO (b:List Trm) (g:Trm):Nat->List Trm->List Trm->Option (Option (List Trm))
|0,_,_=>none
|_+1,[],out=>some (some out)
|n+1,m::a,out =>
  if wpB (m::a) then
   if (m.1.sub g.1).nat then
    if wpB [quoT m g] then divO b g n (subP (m::a) (mulP b [quoT m g])) (out++[quoT m g]) else none
   else some none
  else none
theorem ir_sub' {m g:Trm} (hm:∀ v,0<=m.1.get v/\m.1.get v<=100000) (hg:∀ v,0<=g.1.get v/\g.1.get v<=100000):InR (m.1.sub g.1):=by
 have a0:=hm 0;have a1:=hm 1;have a2:=hm 2;have a3:=hm 3;have b0:=hg 0;have b1:=hg 1;have b2:=hg 2;have b3:=hg 3;simp only [Ex.get] at *;exact InR.of (K:=100000) (by omega) (by simp only [Ex.sub];omega)
theorem divO_run {b ts:List Trm} {g:Trm} (hb:Wp b) (hg:b=g::ts):∀ {n:Nat} {a out:List Trm} {r:Option (List Trm)},divO b g n a out=some r->out.length+n<=100000000->∃ k,DivR b g k a out r:=by
 have hgm:g∈b:=by rw [hg];simp
 intro n
 induction n with
|zero=>intro a out r h;simp [divO] at h
|succ n ih =>
  intro a out r h hl
  cases a with
 |nil=>simp only [divO,Option.some.injEq] at h;subst h;exact⟨0,.done⟩
 |cons m a =>
   rw [divO] at h;split at h
   next h1 =>
    have hW:=wpB_wp h1;have hok:DivOk b g m a:=⟨ir_sub' (fun v=>hW.exps (by simp) v) (fun v=>hb.exps hgm v),hW.rk m (by simp),hb.rk g hgm,(hb.val.2 g hgm).1⟩;split at h
    next h2 =>
     split at h
     next h3 =>
      have hq:=wpB_wp h3;obtain⟨k,hk⟩:=ih h (by simp;omega);exact⟨k+1,.step h2 hok ⟨hq.rk (quoT m g) (by simp),⟨hb.ir,by have:=hb.len;omega⟩,(hb.mulOk hq).ko,⟨hW.rk,by have:=hW.len;omega,hW.val⟩,hb.prod hq⟩ (by omega) hk⟩
     next=>cases h
    next h2 =>
     simp only [Option.some.injEq] at h;subst h;exact⟨0,.fail (by simpa using h2) hok⟩
   next=>cases h
def fuel:Nat:=10000000
def divW (a b:List Trm):Option (Option (List Trm)):=match b with
|[]=>some none
|g::_=>divO b g fuel a []
def overO (a b:List Trm):Option (List Trm):=match divW a b with
|some r=>g1 (r.getD [])
|none=>none
def psBW (D:List (List Trm)):Nat->List (List Trm)->Bool
|0,_=>true
|f+1,R=>if D.length-1<R.length then R.all wpB && psBW D f (psStep D R) else true
theorem psBW_all {D:List (List Trm)} (hD:∀ c∈D,Wp c):∀ {f:Nat} {R:List (List Trm)},psBW D f R=true->PsAll D f R
|0,_,_=>trivial
|f+1,R,h=>fun hlt=>by
  rw [psBW,if_pos hlt,Bool.and_eq_true,List.all_eq_true] at h
  have hR:∀ i,Wp (R.getD i []):=fun i=>by
   rcases Nat.lt_or_ge i R.length with hi|hi
   ·rw [List.getD_eq_getElem?_getD,List.getElem?_eq_getElem hi];exact wpB_wp (h.1 _ (List.getElem_mem hi))
   ·rw [List.getD_eq_getElem?_getD,List.getElem?_eq_none hi];exact Wp.nil
  have hD':∀ i,Wp (D.getD i []):=fun i=>by
   rcases Nat.lt_or_ge i D.length with hi|hi
   ·rw [List.getD_eq_getElem?_getD,List.getElem?_eq_getElem hi];exact hD _ (List.getElem_mem hi)
   ·rw [List.getD_eq_getElem?_getD,List.getElem?_eq_none hi];exact Wp.nil
  exact⟨fun i _=>⟨(hR _).mulOk (hD' _),fun _=>⟨(hR _).mulOk (hD' _),((hR _).prod (hD' _)).1,((hR _).prod (hD' _)).1,⟨((hR _).prod (hD' _)).2,((hR _).prod (hD' _)).2⟩,Vld.mul _ _,Vld.mul _ _⟩⟩,psBW_all hD h.2⟩
def psO (a b:List Trm) (v:Nat):Option (List Trm) :=
 let D:=coeffsP b v;let R:=coeffsP a v;let r:=psRun D R.length R
 if b≠[]/\psBW D R.length R=true/\bdB (fromL v 0 r)=true/\r.all wpB=true then g1 (fromP r v) else none
def oneP:List Trm:=[(e0,1)]
def normO (a:List Trm):Option (List Trm):=match a with
|[]=>some []
|t::_=>g1 (scaleP a (1 / t.2))
def constB (a:List Trm):Bool:=match a with
|[t]=>decide (t.1=e0)
|_=>false
def highN (l:List (List Trm)):Nat->Option Nat
|0=>none
|v+1=>if l.any (fun a=>decide (0<degP a v)) then some v else highN l v
def high (l:List (List Trm)):Option Nat:=highN l 4
def allO (G:List Trm->List Trm->Option (List Trm)):List Trm->List (List Trm)->Option (List Trm)
|acc,[]=>some acc
|acc,a::l=>match G acc a with
 |none=>none
 |some g=>if constB g then some g else allO G g l
def contO (G:List Trm->List Trm->Option (List Trm)) (a:List Trm) (v:Nat):Option (List Trm):=allO G [] (coeffsP a v)
def primO (G:List Trm->List Trm->Option (List Trm)) (a:List Trm) (v:Nat):Option (List Trm):=match a with
|[]=>some []
|t::l=>match contO G (t::l) v with
 |none=>none
 |some c=>overO (t::l) c
def imgX (m:Trm) (v at_:Nat):Nat->Nat
|0=>resid m.2.num*powm (resid m.2.den) (pr-2) % pr
|w+1=>if w=v then imgX m v at_ w else imgX m v at_ w*powm (at_+w) (m.1.get w).toNat % pr
def imgT (m:Trm) (v at_:Nat):Nat:=imgX m v at_ 4
def imgGo (v at_:Nat):List Trm->List Nat->Option (List Nat)
|[],out=>some out
|m::l,out=>if resid m.2.den=0 then none else imgGo v at_ l (out.set (m.1.get v).toNat ((out.getD (m.1.get v).toNat 0+imgT m v at_) % pr))
def imgO (a:List Trm) (v at_:Nat):Option (List Nat):=imgGo v at_ a (List.replicate (degP a v+1).toNat 0)
def fineB (o:Option (List Nat)):Bool:=match o with
|none=>false
|some l=>decide (l.getD (l.length-1) 0≠0)
def strip:List Nat->List Nat
|[]=>[]
|x::l=>match strip l with
 |[]=>if x=0 then [] else [x]
 |y::r=>x::y::r
def redTo (b rest:List Nat) (f at_:Nat):Nat->List Nat
|0=>rest
|i+1=>(redTo b rest f at_ i).set (at_+i) (((redTo b rest f at_ i).getD (at_+i) 0+(pr-b.getD i 0)*f) % pr)
def restO (b:List Nat) (inv:Nat):Nat->List Nat->Option (List Nat)
|0,_=>none
|n+1,r=>if b.length<=r.length then restO b inv n (strip (redTo b r (r.getD (r.length-1) 0*inv % pr) (r.length-b.length) b.length)) else some r
def shareGo:Nat->List Nat->List Nat->Option Nat
|0,_,_=>none
|n+1,a,b=>if b=[] then some a.length else match restO b (powm (b.getD (b.length-1) 0) (pr-2)) fuel a with
 |none=>none
 |some r=>shareGo n b r
def shareO (a b:List Nat):Option Nat:=if a.length<b.length then shareGo fuel b a else shareGo fuel a b
def boundGo (a b:List Trm) (v:Nat):List Nat->Option Int
|[]=>some (min (degP a v) (degP b v))
|k::l=>match imgO a v (17+100*k),imgO b v (17+100*k) with
 |some x,some y=>if fineB (some x) && fineB (some y) then (shareO x y).map (fun n=>(n:Int)-1) else boundGo a b v l
 |_,_=>boundGo a b v l
def boundO (a b:List Trm) (v:Nat):Option Int:=boundGo a b v [0,1,2]
def seqGo (G:List Trm->List Trm->Option (List Trm)) (v:Nat):Nat->List Trm->List Trm->Option (List Trm)
|0,_,_=>none
|n+1,a,b=>match psO a b v with
 |none=>none
 |some []=>some b
 |some (t::r)=>if degP (t::r) v=0 then some oneP else match primO G (t::r) v with
  |none=>none
  |some p=>match normO p with
   |none=>none
   |some q=>seqGo G v n b q
def seqS (G:List Trm->List Trm->Option (List Trm)) (a b:List Trm) (v:Nat):Option (List Trm):=match boundO a b v with
|none=>none
|some m=>if m=0 then some oneP else match divW a b with
 |none=>none
 |some r=>if r.isSome && decide (m=degP b v) then some b else seqGo G v fuel a b
def seqO (G:List Trm->List Trm->Option (List Trm)) (a b:List Trm) (v:Nat):Option (List Trm):=if degP a v<degP b v then seqS G b a v else seqS G a b v
def bind2 {α β:Type} (a:Option α) (f:α->Option β):Option β:=match a with
|none=>none
|some x=>f x
def gcdS (G:List Trm->List Trm->Option (List Trm)) (a b:List Trm):Option (List Trm) :=
 if a=[] then normO b else if b=[] then normO a else if constB a=true\/constB b=true then some oneP else
 bind2 (high [a,b]) fun v =>
  if degP b v=0 then bind2 (contO G a v) fun c=>G c b
  else if degP a v=0 then bind2 (contO G b v) fun c=>G a c
  else bind2 (contO G a v) fun x=>bind2 (contO G b v) fun y=>bind2 (G x y) fun g=>bind2 (overO a x) fun p=>bind2 (overO b y) fun q=>bind2 (seqO G p q v) fun s=>bind2 (g1 (mulP g s)) normO
def gcdO:Nat->List Trm->List Trm->Option (List Trm)
|0,_,_=>none
|n+1,a,b=>gcdS (gcdO n) a b
def sqGo (G:List Trm->List Trm->Option (List Trm)) (v:Nat):Nat->Nat->List Trm->List Trm->List (List Trm × Nat)->Option (List (List Trm × Nat))
|0,_,_,_,_=>none
|f+1,n,w,y,out=>if 0<degP w v then
   bind2 (g1 (partialP w v)) fun d=>bind2 (g1 (subP y d)) fun z=>bind2 (G w z) fun g=>bind2 (overO w g) fun w'=>bind2 (overO z g) fun y' =>
    sqGo G v f (n+1) w' y' (if 0<degP g v then out++[(g,n)] else out)
  else some out
def sqO (G:List Trm->List Trm->Option (List Trm)) (a:List Trm) (v:Nat):Option (List (List Trm × Nat)) :=
 bind2 (primO G a v) fun p=>if degP p v<1 then some [] else
  bind2 (g1 (partialP p v)) fun d=>bind2 (G p d) fun g=>bind2 (overO p g) fun w=>bind2 (overO d g) fun y=>sqGo G v fuel 1 w y []
end Q
end
section
namespace Q
open Go Go.RowKit Go.Proofs.YtopclbeomcggiaaGreat
def elN:El Nat where
 T:=u64T
 sz:=1
 pos:=by decide
 E _ cs x:=cs=[.int .u64 (x:Int)]/\x<2147483647
 len:=by rintro w c t ⟨rfl,-⟩;rfl
 one:=by
  rintro w c t ⟨rfl,-⟩ v hv;simp only [List.mem_cons,List.not_mem_nil,or_false] at hv;subst hv;rfl
 on:=fun h _=>h
 ok _:=True
 lr:=fun h _ _=>h
 self:=trivial
def nc (l:List Nat):List Value:=l.map (fun x:Nat=>Value.int .u64 (x:Int))
def Lim (l:List Nat):Prop:=∀ x∈l,x<2147483647
theorem nc_len (l:List Nat):(nc l).length=l.length:=by simp [nc]
theorem Lim.nil:Lim []:=fun _ h=>by cases h
theorem Lim.getD {l:List Nat} (h:Lim l) (i:Nat):l.getD i 0<2147483647:=by
 rcases Nat.lt_or_ge i l.length with hi|hi
 ·rw [List.getD_eq_getElem?_getD,List.getElem?_eq_getElem hi];exact h _ (List.getElem_mem hi)
 ·rw [List.getD_eq_getElem?_getD,List.getElem?_eq_none hi];decide
theorem Lim.set {l:List Nat} (h:Lim l) (i:Nat) {x:Nat} (hx:x<2147483647):Lim (l.set i x):=fun y hy=>by
 rcases List.mem_or_eq_of_mem_set hy with hy|rfl
 ·exact h y hy
 ·exact hx
theorem Lim.sub {l r:List Nat} (h:Lim l) (hr:∀ x∈r,x∈l):Lim r:=fun x hx=>h x (hr x hx)
theorem elems_n {w:World}:∀ {l:List Nat} {xs:List Value},Elems elN.E w xs l↔xs=nc l/\Lim l
|[],xs=>by
  constructor
  ·intro h;exact⟨h,Lim.nil⟩
  ·rintro⟨h,-⟩;exact h
|x::l,xs=>by
  constructor
  ·rintro⟨c,r,rfl,⟨rfl,h1⟩,h⟩;obtain⟨rfl,h3⟩:=elems_n.1 h
   exact⟨rfl,fun y hy=>by
    rcases List.mem_cons.1 hy with rfl|hy
    ·exact h1
    ·exact h3 y hy⟩
  ·rintro⟨rfl,h⟩;exact⟨_,_,rfl,⟨rfl,h x (by simp)⟩,elems_n.2 ⟨rfl,fun y hy=>h y (by simp [hy])⟩⟩
theorem isSl_n {w:World} {v:Value} {l:List Nat}:IsSl elN w v l↔∃ ao cap,v=.slice ao l.length cap/\l.length<=cap/\At u64T w ao (nc l)/\Lim l:=by
 constructor
 ·rintro⟨ao,cap,xs,rfl,h1,h2,h3⟩;obtain⟨rfl,hl⟩:=elems_n.1 h3;exact⟨ao,cap,rfl,h1,h2,hl⟩
 ·rintro⟨ao,cap,rfl,h1,h2,h3⟩;exact⟨ao,cap,nc l,rfl,h1,h2,elems_n.2 ⟨rfl,h3⟩⟩
theorem nc_get (l:List Nat) (j:Nat) (hj:j<l.length):(nc l)[j]?=some (Value.int .u64 ((l.getD j 0:Nat):Int)):=by
 rw [nc,List.getElem?_map,List.getElem?_eq_getElem hj,List.getD_eq_getElem?_getD,List.getElem?_eq_getElem hj];rfl
theorem _root_.Go.RowKit.Blk.nsl {w:World} {g:Nat} {l:List Nat} (h:Blk w g u64T (nc l)) (hl:Lim l):IsSl elN w (.slice (some ⟨g,0,none⟩) l.length l.length) l :=
 isSl_n.2 ⟨_,_,rfl,Nat.le_refl _,h.at,hl⟩
theorem Blk.ncell {w:World} {g:Nat} {T:TypeId} {l:List Nat} (h:Blk w g T (nc l)) (j:Nat) (hj:j<l.length):w.cell? ⟨g,j,none⟩=some (.int .u64 ((l.getD j 0:Nat):Int)):=by
 rw [h.cell,nc_get _ _ hj]
theorem Cells.ncell {T:TypeId} {w:World} {b off:Nat} {l:List Nat} (h:Cells T w b off (nc l)) (j:Nat) (hj:j<l.length):w.cell? ⟨b,off+j,none⟩=some (.int .u64 ((l.getD j 0:Nat):Int)):=by
 rw [h.cell j (by rw [nc_len];exact hj),nc_get _ _ hj]
theorem Blk.nset {w:World} {g:Nat} {T:TypeId} {l:List Nat} (h:Blk w g T (nc l)) (j x:Nat):Blk (w.setCell ⟨g,j,none⟩ (.int .u64 (x:Int))) g T (nc (l.set j x)):=by
 have:=h.set j (.int .u64 (x:Int));rwa [show nc (l.set j x)=(nc l).set j (.int .u64 (x:Int)) by rw [nc,List.map_set];rfl]
theorem ncells_make (n:Nat):(List.replicate n (Value.int IntKind.u64 0).cells[0]!)=nc (List.replicate n 0):=by simp [nc,Value.cells]
theorem mod_pr (x:Nat):x % pr<2147483647:=Nat.mod_lt _ (by decide)
theorem lim_zero (n:Nat):Lim (List.replicate n 0):=fun x hx=>by rw [List.eq_of_mem_replicate hx];decide
end Q
namespace Go.Proofs.YtopclbeomcggiaaGreat
open Go.RowKit Q
theorem infoU64:(Tryz.prog.info? 97).map (fun i=>(i.zero,i.size,i.bytes))=some (some (.int .u64 0),1,8):=by kernel_rfl
end Go.Proofs.YtopclbeomcggiaaGreat
end
section
namespace Q
open Go Go.RowKit Go.Proofs.YtopclbeomcggiaaGreat
theorem imgGo_len {v at_:Nat}:∀ {a:List Trm} {out o:List Nat},imgGo v at_ a out=some o->o.length=out.length/\(Lim out->Lim o)
|[],out,o,h=>by rw [imgGo,Option.some.injEq] at h;subst h;exact⟨rfl,fun h=>h⟩
|m::a,out,o,h=>by
  rw [imgGo] at h;split at h
  ·cases h
  ·obtain⟨h1,h2⟩:=imgGo_len h;exact⟨by rw [h1,List.length_set],fun hl=>h2 (hl.set _ (mod_pr _))⟩
theorem wpList_idx {P:Program} {w:World} {ops:Array Oper} {rest:List Oper} {o:Oper} {a:Act} {R:Exit->Act->World->Prop} (hgd:o.guard=none) {t:TypeId} {x i:Operand} (ho:o.op=.index t x i) {v u r:Value} (hx:a.eval x=v) (hi:a.eval i=u)
  (hrun:(Instr.index t v u).run P w=.ok r w) (h:wpList P ops R rest (a.put o.dst r) w):wpList P ops R (o::rest) a w:=by
 refine wpList_plain hgd fun K hK=>?_;unfold Oper.wp
 have:(execOp a.eval o).run P w=.ok (.value r) w:=by
  unfold execOp;rw [ho];simp [hx,hi,hrun,Result.andThen]
 rw [this];exact hK _ _ h
end Q
namespace Go.Proofs.YtopclbeomcggiaaGreat
open Go.RowKit Q Go.WideMaps Go.Maps
theorem idx0 (a b c d:Int) (w:World):(Instr.index 36 (.agg #[.int .i64 a,.int .i64 b,.int .i64 c,.int .i64 d]) (.int .i64 0)).run Tryz.prog w=.ok (.int .i64 a) w:=by kernel_rfl
theorem idx1 (a b c d:Int) (w:World):(Instr.index 36 (.agg #[.int .i64 a,.int .i64 b,.int .i64 c,.int .i64 d]) (.int .i64 1)).run Tryz.prog w=.ok (.int .i64 b) w:=by kernel_rfl
theorem idx2 (a b c d:Int) (w:World):(Instr.index 36 (.agg #[.int .i64 a,.int .i64 b,.int .i64 c,.int .i64 d]) (.int .i64 2)).run Tryz.prog w=.ok (.int .i64 c) w:=by kernel_rfl
theorem idx3 (a b c d:Int) (w:World):(Instr.index 36 (.agg #[.int .i64 a,.int .i64 b,.int .i64 c,.int .i64 d]) (.int .i64 3)).run Tryz.prog w=.ok (.int .i64 d) w:=by kernel_rfl
def RetImg (w:World) (o:Option (List Nat)) (e:Ending) (w':World):Prop:=∃ v,e=.returned (.tuple #[v,.bool (fineB o)])/\(∀ l,o=some l->IsSl elN w' v l)/\Below w.heap.size w w'
theorem image_any (va:Value) (a:List Trm) (v at_:Nat) (w:World) (ha:IsPoly w va a) (ka:Wp a) (hv:v<4) (hne:a≠[]) (hat:at_<=1000) :
  Calls Tryz.prog 118 #[va,.int .i64 v,.int .u64 at_] w (RetImg w (imgO a v at_)):=by
 have hdeg:=deg_any va a v w ha hv (by have:=ka.len;omega);have hd2:=(ka.deg v).2
 have hdl:∀ t∈a,0<=t.1.get v/\(t.1.get v).toNat<(degP a v+1).toNat:=fun t ht=>by
  have h1:=(ka.exps ht v).1;have h2:=degP_le ht v;omega
 have hd0:0<=degP a v:=by
  obtain⟨t,ht⟩:=List.exists_mem_of_ne_nil _ hne;have:=hdl t ht;omega
 obtain⟨D,hD⟩:∃ D:Nat,degP a v=D:=⟨(degP a v).toNat,by omega⟩;have hRES:imgO a v at_=imgGo v at_ a (List.replicate (D+1) 0):=by rw [imgO,hD];congr 1
 rw [hRES];clear hRES;obtain⟨RES,hR⟩:∃ RES,RES=imgGo v at_ a (List.replicate (D+1) 0):=⟨_,rfl⟩;rw [<- hR];rw [hD] at hdeg hdl hd2;have hdl':∀ t∈a,0<=t.1.get v/\(t.1.get v).toNat<D+1:=fun t ht=>by have:=hdl t ht;omega
 have hD2:D<=100000:=by omega
 have hexp:=fun t (ht:t∈a) u=>ka.exps ht u;have hrk:=ka.rk;have hal:a.length<=10000:=ka.len;obtain⟨aa,ca,rfl,hca⟩:=ha.shape;replace hR:=zH hR;replace hdl:=zH hdl';replace hexp:=zH hexp;replace hrk:=zH hrk;replace ha:=zH ha;have hv4:(v:Int)<4:=by omega
 clear hdl' hne ka hd0 hD
 go_enter Tryz.func118,Tryz.ntmps118
 go_wp2_with (first
 |(go_at_call 53;refine hdeg.mono ?_;rintro en w1 ⟨rfl,hb1⟩)
 |(at_make;refine wpList_make_blk rfl _ _ _ rfl _ (.int .u64 0) 1 8 Tryz.underlying94 infoU64 rfl rfl .i64 .i64 _ _ (D+1) rfl rfl (by omega) (by omega) (by omega) (by omega) ?_;intro w2 own2 gr2))
 rw [ncells_make] at own2;have hsz:=hb1.size;have hgw:w.heap.size<=w1.heap.size:=hsz;generalize hg:w1.heap.size=g at *;have hb12:=hb1.trans (gr2.mono hsz);have hstO:Hid (Blk w2 g u64T (nc (List.replicate (D+1) 0))):=zH own2;clear own2 gr2 hb1 hg
 go_loopw [22] (fun i wr=>∃ (k:Nat) (out:List Nat),k<=a.length/\i=.int .i64 k/\Hid (Blk wr g u64T (nc out))/\out.length=D+1/\Hid (Lim out)/\Hid (RES=imgGo v at_ (a.drop k) out)/\Below w.heap.size w wr) (fun i _=>a.length-(intOf i).toNat)
 case atStart=>exact⟨0,_,by omega,rfl,hstO,by simp,zH (lim_zero _),zH hR.out,hb12⟩
 case round =>
  clear hstO hb12 hR;obtain⟨k,out,hk,rfl,hO,hol,hLo,hR,hbr⟩:=hrel;by_cases hkl:k<a.length
  ·have hjq:a[k]?=some a[k]:=List.getElem?_eq_getElem hkl;have hR2:=hR.out;rw [List.drop_eq_getElem_cons hkl] at hR2;have hmem:=List.getElem_mem hkl;generalize a[k]=t at *;obtain⟨bq,oq,rt,e1,hrt,hC⟩:=cell_term (ha.out.on hbr) hjq;have hx0:=hexp.out t hmem 0;have hx1:=hexp.out t hmem 1;have hx2:=hexp.out t hmem 2;have hx3:=hexp.out t hmem 3;have hnv:=hdl.out t hmem;have hrkt:=hrk.out t hmem;obtain⟨⟨z0,z1,z2,z3⟩,q⟩:=t;simp only [Ex.get] at hx0 hx1 hx2 hx3;obtain⟨n0,rfl⟩:=Int.eq_ofNat_of_zero_le hx0.1;obtain⟨n1,rfl⟩:=Int.eq_ofNat_of_zero_le hx1.1;obtain⟨n2,rfl⟩:=Int.eq_ofNat_of_zero_le hx2.1;obtain⟨n3,rfl⟩:=Int.eq_ofNat_of_zero_le hx3.1;obtain⟨nv,hnve⟩:∃ nv:Nat,Ex.get ((n0:Int),(n1:Int),(n2:Int),(n3:Int)) v=(nv:Int):=⟨_,(Int.toNat_of_nonneg hnv.1).symm⟩;rw [hnve] at hnv;have hnvl:nv<D+1:=by simpa using hnv.2
   have hkl':(k:Int)<(a.length:Int):=by omega
   have hr:=hC.range;have h8:(exC ((n0:Int),(n1:Int),(n2:Int),(n3:Int))++rt).length=8:=by rw [List.length_append,hrt.len];rfl
   have hlr:=hrt.len;subst e1;replace hR2:=zH hR2;clear hR hjq hmem hnv hdeg
   go_upto_region 5 with (first
   |(refine wpList_index_at rfl _ _ 27 rfl monoT Tryz.underlying27 _ 8 96 (by kernel_rfl) _ _ _ rfl .i64 _ rfl k rfl hkl bq oq rfl ?_)
   |(refine wpList_load_mid rfl 43 _ rfl _ _ rfl _ _ hr Tryz.underlying43 rfl (by rw [h8];kernel_rfl) ?_)
   |(refine wpList_store_blk rfl _ (.tmp 10) (.tmp 25) rfl _ _ _ _ rfl rfl (Blk.new wr monoT [.int .i64 0,.int .i64 0,.int .i64 0,.int .i64 0,.bool false,.slice none 0 0,.bool false,.slice none 0 0]) (by simp [exC,hlr]) (by simp only [List.size_toArray,h8];exact info37) (term_ones' hrt) ?_;intro W3 R3 gr3))
   have hE:exC ((n0:Int),(n1:Int),(n2:Int),(n3:Int))=[.int .i64 n0,.int .i64 n1,.int .i64 n2,.int .i64 n3]:=rfl;have BB:Blk W3 wr.heap.size monoT (exC ((n0:Int),(n1:Int),(n2:Int),(n3:Int))++rt):=by simpa using R3
   have hba:Below wr.heap.size wr (wr.alloc (.cells #[.int .i64 0,.int .i64 0,.int .i64 0,.int .i64 0,.bool false,.slice none 0 0,.bool false,.slice none 0 0] monoT)):=(Below.refl _ _).alloc (Nat.le_refl _) _;have hb3:Below wr.heap.size wr W3:=hba.trans (grown_below gr3 (by simp) (Nat.le_refl _));have hbr3:=hbr.trans (hb3.mono hbr.size);have hO3:=hO.out.on hb3;have hrt3:=hrt.on hb3;have hgm:g<wr.heap.size:=hO.out.lt;have hwm:w.heap.size<=wr.heap.size:=hbr.size;clear hr R3 gr3 hba hb3 hC hrt hbr hO h8;generalize wr.heap.size=mb at *;obtain⟨N1,A1,K1,C1,N2,A2,K2,C2,rfl,i1,i2⟩:=hrt3;simp only at i1 i2 hrkt;rw [hE] at BB;have y0:=BB.at1 0 _ rfl;have y1:=BB.at1 1 _ rfl;have y2:=BB.at1 2 _ rfl;have y3:=BB.at1 3 _ rfl;have y4:=BB.at1 4 _ rfl;have y5:=BB.at1 5 _ rfl;have y6:=BB.at1 6 _ rfl;have y7:=BB.at1 7 _ rfl;have hden:=residue_any _ _ _ W3 i2 hrkt.den';have hR3:=hR2.out;rw [imgGo] at hR3;clear hR2;have hdl9:=resid_lt (q.den:Int);by_cases hz:resid (q.den:Int)=0
   ·rw [if_pos hz] at hR3;rw [hz] at hden;replace hR3:=zH hR3;clear hz hdl9
    go_wp2_with (go_at_call 136;refine hden.mono ?_;rintro en w4 ⟨rfl,hb4⟩)
    go_ret2;exact⟨_,by rw [hR3.out];rfl,(fun l hl=>by rw [hR3.out] at hl;cases hl),hbr3.trans (hb4.mono hbr3.size)⟩
   ·rw [if_neg hz] at hR3;have hnum:=fun W (hb:Below W3.heap.size W3 W)=>residue_any _ _ _ W (i1.on hb) hrkt.num';have hpw:=fun W=>power_any (resid (q.den:Int)) 2147483645 W (by omega) (by omega);have hnl:=resid_lt q.num;have hX0:imgX (((n0:Int),(n1:Int),(n2:Int),(n3:Int)),q) v at_ 0=resid q.num*powm (resid (q.den:Int)) 2147483645 % pr:=rfl;have hpl:=powm_lt (resid (q.den:Int)) 2147483645;rw [pr_eq] at hpl;generalize hdd:resid (q.den:Int)=d at *;generalize resid q.num=nn at *;generalize powm d 2147483645=pp at *;have hdne:((d:Int) == 0)=false:=by simp;omega
    have hnp:nn*pp<=2147483647*2147483647:=Nat.mul_le_mul (by omega) (by omega);obtain⟨X0,hX⟩:∃ X0,X0=nn*pp % 2147483647:=⟨_,rfl⟩;have hXi:((nn:Int)*(pp:Int)) % 2147483647=(X0:Int):=by rw [hX];simp
    rw [pr_eq,<- hX] at hX0;have hXl:X0<2147483647:=by rw [hX];exact Nat.mod_lt _ (by decide)
    replace hX0:=zH hX0;replace hR3:=zH hR3;replace hnum:=zH hnum;replace hpw:=zH hpw;clear hX hdd hz hnl hpl hdl9
    go_upto_region 8 with (go_at_call 136;refine hden.mono ?_;rintro en w4 ⟨rfl,hb4⟩)
    have BB4:=BB.on hb4;replace y4:=BB4.at1 4 _ rfl;replace y5:=BB4.at1 5 _ rfl
    go_upto_region 9 with (first
    |(go_at_call 136;refine (hnum.out _ hb4).mono ?_;rintro en w5 ⟨rfl,hb5⟩)
    |(go_at_call 137;refine (hpw.out _).mono ?_;rintro en w6 ⟨rfl,hb6⟩))
    have hb46:=hb4.trans ((hb5.trans (hb6.mono hb5.size)).mono hb4.size);have BB6:=BB.on hb46;have hO6:=zH (hO3.on hb46);have hbr6:=hbr3.trans (hb46.mono hbr3.size);replace y0:=BB6.at1 0 _ rfl;replace y1:=BB6.at1 1 _ rfl;replace y2:=BB6.at1 2 _ rfl;replace y3:=BB6.at1 3 _ rfl;have hstB:=zH BB6;clear BB BB4 BB6 hb4 hb5 hb6 hb46 y4 y5 y6 y7 hO3 hbr3 i1 i2 hden hnum hpw;go_wp2
    go_loopw [12,42] (fun x i wz=>∃ u X:Nat,u<=4/\x=.int .u64 X/\i=.int .i64 u/\X<2147483647/\Hid (imgX (((n0:Int),(n1:Int),(n2:Int),(n3:Int)),q) v at_ u=X)/\Hid (Blk wz mb monoT ([.int .i64 n0,.int .i64 n1,.int .i64 n2,.int .i64 n3]++[.bool N1,.slice A1 K1 C1,.bool N2,.slice A2 K2 C2]))/\Hid (Blk wz g u64T (nc out))/\Below w.heap.size w wz) (fun _ i _=>4-(intOf i).toNat)
    case atStart=>exact⟨0,X0,by omega,by rw [hXi],by go_num,hXl,hX0,hstB,hO6,hbr6⟩
    case round =>
     clear hstB hO6 hbr6 hX0 hXl hnp hXi;obtain⟨u,X,hu,rfl,rfl,hXl,hX,hB,hO,hbz⟩:=hrel;by_cases hu4:u<4
     ·have hpu:∀ W,Calls Tryz.prog 137 #[.int .u64 ((at_:Int)+(u:Int)),.int .i64 (Ex.get ((n0:Int),(n1:Int),(n2:Int),(n3:Int)) u)] W (Ret W (.int .u64 (powm (at_+u) (Ex.get ((n0:Int),(n1:Int),(n2:Int),(n3:Int)) u).toNat))):=fun W=>by
       have h1:0<=Ex.get ((n0:Int),(n1:Int),(n2:Int),(n3:Int)) u/\Ex.get ((n0:Int),(n1:Int),(n2:Int),(n3:Int)) u<=100000:=by
        obtain rfl|rfl|rfl|rfl:u=0\/u=1\/u=2\/u=3:=by omega
        all_goals (simp only [Ex.get];omega)
       have h2:=power_any (at_+u) (Ex.get ((n0:Int),(n1:Int),(n2:Int),(n3:Int)) u).toNat W (by omega) (by omega);rw [Int.toNat_of_nonneg h1.1,Int.natCast_add] at h2;exact h2
      have hpl:=powm_lt (at_+u) (Ex.get ((n0:Int),(n1:Int),(n2:Int),(n3:Int)) u).toNat;rw [pr_eq] at hpl;by_cases huv:u=v
      ·have hsx:Hid (imgX (((n0:Int),(n1:Int),(n2:Int),(n3:Int)),q) v at_ (u+1)=X):=zH (by rw [imgX,if_pos huv];exact hX.out);clear hpu hpl hX;obtain rfl|rfl|rfl|rfl:u=0\/u=1\/u=2\/u=3:=by omega
       ·have k1:((0:Int)=(v:Int))=True:=eq_true (by omega);have k2:((v:Int)=(0:Int))=True:=eq_true (by omega);have k3:(v=0)=True:=eq_true (by omega);have k4:((0:Nat)=v)=True:=eq_true (by omega);have k5:((0:Int) == (v:Int))=true:=by simp only [beq_iff_eq];omega
        clear huv
        go_wp2_with (refine wpList_idx rfl rfl rfl rfl (idx0 _ _ _ _ _) ?_)
        go_roundw
        case rel=>exact⟨1,X,by omega,rfl,by go_num,hXl,hsx,hB,hO,hbz⟩
        case measure=>simp [intOf]
       ·have k1:((1:Int)=(v:Int))=True:=eq_true (by omega);have k2:((v:Int)=(1:Int))=True:=eq_true (by omega);have k3:(v=1)=True:=eq_true (by omega);have k4:((1:Nat)=v)=True:=eq_true (by omega);have k5:((1:Int) == (v:Int))=true:=by simp only [beq_iff_eq];omega
        clear huv
        go_wp2_with (refine wpList_idx rfl rfl rfl rfl (idx1 _ _ _ _ _) ?_)
        go_roundw
        case rel=>exact⟨2,X,by omega,rfl,by go_num,hXl,hsx,hB,hO,hbz⟩
        case measure=>simp [intOf]
       ·have k1:((2:Int)=(v:Int))=True:=eq_true (by omega);have k2:((v:Int)=(2:Int))=True:=eq_true (by omega);have k3:(v=2)=True:=eq_true (by omega);have k4:((2:Nat)=v)=True:=eq_true (by omega);have k5:((2:Int) == (v:Int))=true:=by simp only [beq_iff_eq];omega
        clear huv
        go_wp2_with (refine wpList_idx rfl rfl rfl rfl (idx2 _ _ _ _ _) ?_)
        go_roundw
        case rel=>exact⟨3,X,by omega,rfl,by go_num,hXl,hsx,hB,hO,hbz⟩
        case measure=>simp [intOf]
       ·have k1:((3:Int)=(v:Int))=True:=eq_true (by omega);have k2:((v:Int)=(3:Int))=True:=eq_true (by omega);have k3:(v=3)=True:=eq_true (by omega);have k4:((3:Nat)=v)=True:=eq_true (by omega);have k5:((3:Int) == (v:Int))=true:=by simp only [beq_iff_eq];omega
        clear huv
        go_wp2_with (refine wpList_idx rfl rfl rfl rfl (idx3 _ _ _ _ _) ?_)
        go_roundw
        case rel=>exact⟨4,X,by omega,rfl,by go_num,hXl,hsx,hB,hO,hbz⟩
        case measure=>simp [intOf]
      ·obtain⟨Y,hY⟩:∃ Y,Y=X*powm (at_+u) (Ex.get ((n0:Int),(n1:Int),(n2:Int),(n3:Int)) u).toNat % 2147483647:=⟨_,rfl⟩;have hsx:Hid (imgX (((n0:Int),(n1:Int),(n2:Int),(n3:Int)),q) v at_ (u+1)=Y):=zH (by rw [imgX,if_neg huv,hX.out,hY];rfl);generalize powm (at_+u) (Ex.get ((n0:Int),(n1:Int),(n2:Int),(n3:Int)) u).toNat=pw at *;have hYl:Y<2147483647:=by rw [hY];exact Nat.mod_lt _ (by decide)
       have hYi:Hid (((X:Int)*(pw:Int)) % 2147483647=(Y:Int)):=zH (by rw [hY];simp);have hXp:X*pw<=2147483647*2147483647:=Nat.mul_le_mul (by omega) (by omega);clear hX hY;obtain rfl|rfl|rfl|rfl:u=0\/u=1\/u=2\/u=3:=by omega
       ·simp only [Ex.get] at hpu;have hne:¬ v=0:=fun h=>huv h.symm;have hne2:¬ (0:Int)=(v:Int):=by omega
        have hne3:¬ (0:Nat)=v:=huv
        go_wp2_with (first
        |(refine wpList_idx rfl rfl rfl rfl (idx0 _ _ _ _ _) ?_)
        |(go_at_call 137;refine (hpu _).mono ?_;rintro en w7 ⟨rfl,hb7⟩))
        go_roundw
        case rel=>exact⟨1,Y,by omega,by rw [<- hYi.out],by go_num,hYl,hsx,zH (hB.out.on hb7),zH (hO.out.on hb7),hbz.trans (hb7.mono hbz.size)⟩
        case measure=>simp [intOf]
       ·simp only [Ex.get] at hpu;have hne:¬ v=1:=fun h=>huv h.symm;have hne2:¬ (1:Int)=(v:Int):=by omega
        have hne3:¬ (1:Nat)=v:=huv
        go_wp2_with (first
        |(refine wpList_idx rfl rfl rfl rfl (idx1 _ _ _ _ _) ?_)
        |(go_at_call 137;refine (hpu _).mono ?_;rintro en w7 ⟨rfl,hb7⟩))
        go_roundw
        case rel=>exact⟨2,Y,by omega,by rw [<- hYi.out],by go_num,hYl,hsx,zH (hB.out.on hb7),zH (hO.out.on hb7),hbz.trans (hb7.mono hbz.size)⟩
        case measure=>simp [intOf]
       ·simp only [Ex.get] at hpu;have hne:¬ v=2:=fun h=>huv h.symm;have hne2:¬ (2:Int)=(v:Int):=by omega
        have hne3:¬ (2:Nat)=v:=huv
        go_wp2_with (first
        |(refine wpList_idx rfl rfl rfl rfl (idx2 _ _ _ _ _) ?_)
        |(go_at_call 137;refine (hpu _).mono ?_;rintro en w7 ⟨rfl,hb7⟩))
        go_roundw
        case rel=>exact⟨3,Y,by omega,by rw [<- hYi.out],by go_num,hYl,hsx,zH (hB.out.on hb7),zH (hO.out.on hb7),hbz.trans (hb7.mono hbz.size)⟩
        case measure=>simp [intOf]
       ·simp only [Ex.get] at hpu;have hne:¬ v=3:=fun h=>huv h.symm;have hne2:¬ (3:Int)=(v:Int):=by omega
        have hne3:¬ (3:Nat)=v:=huv
        go_wp2_with (first
        |(refine wpList_idx rfl rfl rfl rfl (idx3 _ _ _ _ _) ?_)
        |(go_at_call 137;refine (hpu _).mono ?_;rintro en w7 ⟨rfl,hb7⟩))
        go_roundw
        case rel=>exact⟨4,Y,by omega,by rw [<- hYi.out],by go_num,hYl,hsx,zH (hB.out.on hb7),zH (hO.out.on hb7),hbz.trans (hb7.mono hbz.size)⟩
        case measure=>simp [intOf]
     ·obtain rfl:u=4:=by omega
      have hB4:=hB.out;have hO4:=hO.out;have hg4:g<wr.heap.size:=hO4.lt;have hmb4:mb<wr.heap.size:=hB4.lt
      have hee:∀ W,Below wr.heap.size wr W->W.cell? ⟨mb,v,none⟩=some (.int .i64 nv):=fun W hb=>by
       have h1:=exC_at' ((n0:Int),(n1:Int),(n2:Int),(n3:Int)) v hv;rw [hnve] at h1;refine (hB4.on hb).at1 v _ ?_;rw [List.getElem?_append_left (by show v<4;exact hv)];exact h1
      have hoc:∀ W,Below wr.heap.size wr W->W.cell? ⟨g,nv,none⟩=some (.int .u64 ((out.getD nv 0:Nat):Int)):=fun W hb=>(hO4.on hb).ncell nv (by omega);have hol2:=hLo.out.getD nv;have hnvn:(Ex.get ((n0:Int),(n1:Int),(n2:Int),(n3:Int)) v).toNat=nv:=by rw [hnve];rfl
      obtain⟨Y,hY⟩:∃ Y,Y=(out.getD nv 0+X) % 2147483647:=⟨_,rfl⟩
      have hR4:Hid (RES=imgGo v at_ (a.drop (k+1)) (out.set nv Y)):=zH (by
       rw [hR3.out,hY];simp only [hnvn]
       rw [imgT,hX.out];rfl)
      generalize out.getD nv 0=y at *;have hYl:Y<2147483647:=by rw [hY];exact Nat.mod_lt _ (by decide)
      have hYi:Hid (((y:Int)+(X:Int)) % 2147483647=(Y:Int)):=zH (by rw [hY];simp);replace hee:=zH hee;replace hoc:=zH hoc;have hol3:(out.set nv Y).length=D+1:=by rw [List.length_set];exact hol
      have hLo2:=zH (hLo.out.set nv hYl);clear hX hY hnvn hR3 hnve
      go_upto_region 15 with (fail)
      refine wp_region_L mixed (none) (0) (Okr.none) [.eq (.slice (some ⟨g,0,none⟩) (D+1) (D+1)),.eq (.int .i64 v),.eq (.pointer (some ⟨mb,0,none⟩)),.eq (.pointer (some ⟨mb,v,none⟩)),.eq (.int .i64 nv),.eq (.slice (some ⟨g,0,none⟩) (D+1) (D+1)),.eq (.int .i64 v),.eq (.pointer (some ⟨mb,0,none⟩)),.eq (.pointer (some ⟨mb,v,none⟩)),.eq (.int .i64 nv),.eq (.pointer (some ⟨g,0+nv*1,none⟩)),.eq (.int .u64 y),.eq (.int .u64 X),.eq (.int .u64 ((y:Int)+(X:Int))),.eq (.int .u64 (((y:Int)+(X:Int)) % 2147483647)),.eq (.pointer (some ⟨g,0+nv*1,none⟩))] [59,60,61,62,63,64,65,66,67,68,69,70,71,72,73,74] rfl rfl rfl rfl ⟨?_,?_,?_,?_,?_,?_,?_,?_,?_,?_,?_,?_,?_,?_,?_,?_,trivial⟩ ?_
      ·exact fun _ _ a _ _ _=>xM rfl (a 8 rfl)
      ·exact fun _ _ a _ _ _=>xM rfl (a 1 rfl)
      ·intro A w1 hA hL hS he;have h10:A.eval (.tmp 10)=.pointer (some ⟨mb,0,none⟩):=hA 10 rfl;exact pZ rfl
      ·intro A w1 hA hL hS he;have h61:=eT 61 (he.1 rfl);have h60:=eT 60 (he.2.1 rfl);exact pZ rfl
      ·intro A w1 hA hL hS he;have h62:=eT 62 (he.1 rfl);refine goOn_plain rfl ?_;have c0:=hee.out w1 hL.below;exact stepG_pure rfl rfl gZ
      ·exact fun _ _ a _ _ _=>xM rfl (a 8 rfl)
      ·exact fun _ _ a _ _ _=>xM rfl (a 1 rfl)
      ·intro A w1 hA hL hS he;have h10:A.eval (.tmp 10)=.pointer (some ⟨mb,0,none⟩):=hA 10 rfl;exact pZ rfl
      ·intro A w1 hA hL hS he;have h66:=eT 66 (he.1 rfl);have h65:=eT 65 (he.2.1 rfl);exact pZ rfl
      ·intro A w1 hA hL hS he;have h67:=eT 67 (he.1 rfl);refine goOn_plain rfl ?_;have c0:=hee.out w1 hL.below;exact stepG_pure rfl rfl gZ
      ·exact fun _ _ _ _ _ e=>pI rfl Tryz.underlying94 g 0 nv (hnvl) (e.1 rfl) (e.2.1 rfl)
      ·intro A w1 hA hL hS he;have h69:=eT 69 (he.1 rfl);refine goOn_plain rfl ?_;have c0:=hoc.out w1 hL.below;exact stepG_pure rfl rfl gZ
      ·exact fun _ _ a _ _ _=>xM rfl (a 12 rfl)
      ·intro A w1 hA hL hS he;have h70:=eT 70 (he.1 rfl);have h71:=eT 71 (he.2.1 rfl);refine goOn_plain rfl (stepG_pure rfl rfl ?_);generalize A.eval=ev at *;go_simp
       (have hw:=IntKind.wrap_u64 ((y:Int)+(X:Int));omega)
      ·intro A w1 hA hL hS he;have h72:=eT 72 (he.1 rfl);have hc0:=eC A (.int .u64 2147483647);refine goOn_plain rfl (stepG_pure rfl rfl ?_);generalize A.eval=ev at *;go_simp;exact Int.tmod_eq_emod_of_nonneg (by omega)
      ·exact fun _ _ _ _ _ e=>pI rfl Tryz.underlying94 g 0 nv (hnvl) (e.1 rfl) (e.2.1 rfl)
      ·intro W5 hL5;have hb5:=hL5.below;simp only [TailL,FactL.eq,lZ];go_frame;have hO5:=hO4.on hb5;have z5:=hO5.ncell nv (by omega);have f5:=hO5.frozen nv;have hO6:=zH (hO5.nset nv Y);have hb6:=hbz.trans ((hb5.mono hbz.size).trans (setCell_below (W:=W5) (g:=g) (j:=nv) hgw (.int .u64 (Y:Int))));clear hee hoc hL5 hB4 hO4 hB hO hO5 hb5;go_wp2;go_roundw
       case rel=>exact⟨k+1,out.set nv Y,by omega,by go_num,by rw [hYi.out];exact hO6,hol3,hLo2,hR4,by rw [hYi.out];exact hb6⟩
       case measure=>simp [intOf];omega
  ·obtain rfl:k=a.length:=by omega
   have hfin:Hid (RES=some out):=zH (by rw [hR.out,List.drop_of_length_le (Nat.le_refl _)];rfl);have hO4:=hO.out;have hg4:g<wr.heap.size:=hO4.lt;have hoc:∀ W,Below wr.heap.size wr W->W.cell? ⟨g,D,none⟩=some (.int .u64 ((out.getD D 0:Nat):Int)):=fun W hb=>(hO4.on hb).ncell D (by omega)
   have hfine:Hid (fineB RES=decide (¬ ((out.getD D 0:Nat):Int)=0)):=zH (by
    rw [hfin.out];show decide (out.getD (out.length-1) 0≠0)=_;rw [hol,Nat.add_sub_cancel];refine decide_eq_decide.2 ?_;constructor
    ·intro h h';exact h (by omega)
    ·intro h h';exact h (by omega))
   have hDD:((D:Int)+1-1)=D:=by omega
   have hw1:=wrap64 (x:=(D:Int)+1) (by omega) (by omega);have hw2:=wrap64 (x:=(D:Int)) (by omega) (by omega);replace hoc:=zH hoc;generalize out.getD D 0=y at *
   go_upto_region 17 with (fail)
   refine wp_region_L mixed (none) (0) (Okr.none) [.eq (.slice (some ⟨g,0,none⟩) (D+1) (D+1)),.eq (.slice (some ⟨g,0,none⟩) (D+1) (D+1)),.eq (.slice (some ⟨g,0,none⟩) (D+1) (D+1)),.eq (.int .i64 (D+1)),.eq (.int .i64 D),.eq (.pointer (some ⟨g,0+D*1,none⟩)),.eq (.int .u64 y),.eq (.bool (decide (¬ (y:Int)=0))),.eq (.slice (some ⟨g,0,none⟩) (D+1) (D+1))] [76,77,78,79,80,81,82,83,6] rfl rfl rfl rfl ⟨?_,?_,?_,?_,?_,?_,?_,?_,?_,trivial⟩ ?_
   ·exact fun _ _ a _ _ _=>xM rfl (a 8 rfl)
   ·exact fun _ _ a _ _ _=>xM rfl (a 8 rfl)
   ·exact fun _ _ a _ _ _=>xM rfl (a 8 rfl)
   ·intro A w1 hA hL hS he;have h78:=eT 78 (he.1 rfl);exact pZ rfl
   ·intro A w1 hA hL hS he;have h79:=eT 79 (he.1 rfl);have hc0:=eC A (.int .i64 1);exact pZ rfl
   ·exact fun _ _ _ _ _ e=>pI rfl Tryz.underlying94 g 0 D (by omega) (e.1 rfl) (e.2.1 rfl)
   ·intro A w1 hA hL hS he;have h81:=eT 81 (he.1 rfl);refine goOn_plain rfl ?_;have c0:=hoc.out w1 hL.below;exact stepG_pure rfl rfl gZ
   ·intro A w1 hA hL hS he;have h82:=eT 82 (he.1 rfl);have hc0:=eC A (.int .u64 0);refine goOn_plain rfl (stepG_pure rfl rfl ?_);generalize A.eval=ev at *;go_simp
    (by_cases h9:y=0 <;> simp [h9])
   ·intro A w1 hA hL hS he;have h76:=eT 76 (he.1 rfl);exact pZ rfl
   ·intro W5 hL5;have hb5:=hL5.below;simp only [TailL,FactL.eq,lZ];go_frame;have hO5:=hO4.on hb5;have hS:=Go.RowKit.Blk.nsl hO5 hLo.out;rw [hol] at hS;clear hoc hL5 hO4;go_wp2;go_ret2;exact⟨_,by rw [hfine.out];rfl,fun l hl=>by rw [hfin.out] at hl;cases hl;exact hS,hbr.trans (hb5.mono hbr.size)⟩
end Go.Proofs.YtopclbeomcggiaaGreat
end
section
namespace Q
open Go Go.RowKit Go.Proofs.YtopclbeomcggiaaGreat
def Rst (base:Nat) (w:World) (v:Value) (l:List Nat):Prop :=
 ∃ ao cap,v=.slice ao l.length cap/\l.length<=cap/\Lim l/\(0<l.length->∃ g cs,ao=some ⟨g,0,none⟩/\base<=g/\Blk w g u64T cs/\cs.take l.length=nc l)
theorem Rst.of {base:Nat} {w:World} {v:Value} {l:List Nat} (h:OwnSl elN base w v l):Rst base w v l:=by
 obtain⟨xs,⟨hxl,hrow⟩,hex⟩:=h;obtain⟨rfl,hl⟩:=elems_n.1 hex;rcases hrow with ⟨rfl,h0⟩|⟨g,cap,cur,rfl,hbg,hg,hnc,hcm,hcs,htk⟩
 ·obtain rfl:l=[]:=List.eq_nil_of_length_eq_zero h0;exact⟨none,0,rfl,Nat.le_refl _,hl,fun h=>by simp at h⟩
 ·refine⟨_,cap,rfl,hnc,hl,fun _=>⟨g,cur.toList,rfl,hbg,by unfold Blk;rw [Array.toArray_toList];exact hg,?_⟩⟩;have:cur.toList.take (l.length*1)=nc l:=htk;rwa [Nat.mul_one] at this
theorem Rst.on {base:Nat} {w w':World} {v:Value} {l:List Nat} (h:Rst base w v l) (hb:Below w.heap.size w w'):Rst base w' v l:=by
 obtain⟨ao,cap,h1,h2,h3,h4⟩:=h;refine⟨ao,cap,h1,h2,h3,fun hp=>?_⟩;obtain⟨g,cs,e,hg,hB,ht⟩:=h4 hp;exact⟨g,cs,e,hg,hB.on hb,ht⟩
theorem Rst.isSl {base:Nat} {w:World} {v:Value} {l:List Nat} (h:Rst base w v l):IsSl elN w v l:=by
 obtain⟨ao,cap,h1,h2,h3,h4⟩:=h;refine isSl_n.2 ⟨ao,cap,h1,h2,fun hp=>?_,h3⟩;obtain⟨g,cs,e,hg,hB,ht⟩:=h4 (by rw [nc_len] at hp;exact hp);refine⟨g,0,e,?_⟩;rw [<- ht];exact hB.cells.take _
theorem Rst.open {base:Nat} {w:World} {v:Value} {l:List Nat} (h:Rst base w v l) (hp:0<l.length) :
  ∃ g cap,v=.slice (some ⟨g,0,none⟩) l.length cap/\l.length<=cap/\base<=g/\g<w.heap.size/\(∀ j,j<l.length->w.cell? ⟨g,j,none⟩=some (.int .u64 ((l.getD j 0:Nat):Int)))/\(∀ j,w.frozen? ⟨g,j,none⟩=false) /\
   (∀ k,k<=l.length->Rst base w (.slice (some ⟨g,0,none⟩) k cap) (l.take k)) /\
   ∀ (j x:Nat),j<l.length->x<2147483647->Rst base (w.setCell ⟨g,j,none⟩ (.int .u64 (x:Int))) v (l.set j x):=by
 obtain⟨ao,cap,h1,h2,h3,h4⟩:=h;obtain⟨g,cs,rfl,hg,hB,ht⟩:=h4 hp
 have hcs:∀ j,j<l.length->cs[j]?=some (.int .u64 ((l.getD j 0:Nat):Int)):=fun j hj=>by
  rw [<- nc_get l j hj,<- ht,List.getElem?_take,if_pos hj]
 refine⟨g,cap,h1,h2,hg,hB.lt,fun j hj=>hB.at1 j _ (hcs j hj),hB.frozen,fun k hk=>?_,fun j x hj hx=>?_⟩
 ·refine⟨some ⟨g,0,none⟩,cap,by rw [List.length_take,Nat.min_eq_left hk],by rw [List.length_take];omega,h3.sub fun x hx=>List.mem_of_mem_take hx,fun _=>⟨g,cs,rfl,hg,hB,?_⟩⟩;rw [List.length_take,Nat.min_eq_left hk,nc,List.map_take];have h5:(cs.take l.length).take k=(nc l).take k:=by rw [ht]
  rw [List.take_take,Nat.min_eq_left hk] at h5;exact h5
 ·refine⟨some ⟨g,0,none⟩,cap,by rw [List.length_set];exact h1,by rw [List.length_set];exact h2,h3.set j hx,fun _=>⟨g,cs.set j (.int .u64 (x:Int)),rfl,hg,hB.set j _,?_⟩⟩;rw [List.length_set,List.take_set,ht,nc,nc,List.map_set]
theorem strip_zero {r:List Nat} (h:0<r.length) (h0:r.getD (r.length-1) 0=0):strip (r.take (r.length-1))=strip r:=by
 have hr:r=r.take (r.length-1)++[0]:=by
  have h1:r.drop (r.length-1)=[0]:=by
   rw [List.drop_eq_getElem_cons (by omega),List.drop_of_length_le (by omega)];rw [List.getD_eq_getElem?_getD,List.getElem?_eq_getElem (by omega)] at h0;simpa using h0
  rw [<- h1,List.take_append_drop]
 generalize r.take (r.length-1)=s at *;subst hr;clear h h0
 induction s with
|nil=>rfl
|cons x s ih=>rw [List.cons_append,strip,strip,ih]
theorem strip_last {r:List Nat} (h:0<r.length) (h0:r.getD (r.length-1) 0≠0):strip r=r:=by
 induction r with
|nil=>rfl
|cons x r ih =>
  cases r with
 |nil=>simp at h0;simp [strip,h0]
 |cons y r =>
   have:=ih (by simp) (by simpa using h0);rw [strip,this]
theorem redTo_len (b r:List Nat) (f at_:Nat):∀ i,(redTo b r f at_ i).length=r.length
|0=>rfl
|i+1=>by rw [redTo,List.length_set,redTo_len b r f at_ i]
end Q
namespace Go.Proofs.YtopclbeomcggiaaGreat
open Go.RowKit Q
theorem info_elN:∃ z bytes,(Tryz.prog.info? elN.T).map (fun i=>(i.zero,i.size,i.bytes))=some (some z,elN.sz,bytes)/\z.cells.size=elN.sz/\bytes<=100000:=⟨.int .u64 0,8,infoU64,rfl,by decide⟩
def RetRst (w:World) (l:List Nat) (e:Ending) (w':World):Prop:=∃ v,e=.returned v/\Rst w.heap.size w' v l/\Below w.heap.size w w'
theorem cloneN_any (v:Value) (l:List Nat) (w:World) (h:IsSl elN w v l) (hl:l.length<=1000000):Calls Tryz.prog 138 #[v] w (RetRst w l):=by
 obtain⟨ao,cap,xs,rfl,hcap,hat,hex⟩:=id h;have heq:=Go.Lib.run_eql_slice_nil (P:=Tryz.prog) w 94 97 ao l.length cap 0 0 Tryz.underlying94
 cases ao with
|none =>
  have hnil:l=[]:=by
   cases l with
  |nil=>rfl
  |cons t l =>
    obtain⟨b,off,e,_⟩:=hat (by rw [hex.length];simp [elN]);cases e
  subst hnil;simp only [List.length_nil,Option.isNone_none] at heq ⊢
  go_enter Tryz.func138,Tryz.ntmps138
  go_wp2;go_ret;exact⟨_,rfl,Rst.of (OwnSl.nil _ _ _),Below.refl _ _⟩
|some a =>
  have hbe:Below w.heap.size w (w.alloc (.cells #[] u64T)):=(Below.refl _ _).alloc (Nat.le_refl _) _;have hown:OwnSl elN w.heap.size (w.alloc (.cells #[] u64T)) (.slice (some ⟨w.heap.size,0,none⟩) 0 0) []:=own_lit0 elN w;have h1:=h.on hbe;clear hat
  go_enter Tryz.func138,Tryz.ntmps138
  go_wp2_with (at_builtin;refine wpList_append_sl rfl _ _ 94 rfl Tryz.underlying94 info_elN rfl rfl hown h1 (by simp;omega) hbe.size ?_;intro v5 w5 hown5 hl5 hv5)
  go_ret;exact⟨_,rfl,by simpa using Rst.of hown5,hbe.trans (hl5.belowAt hbe.size (fun k hk=>by cases hk;exact Nat.le_refl _))⟩
end Go.Proofs.YtopclbeomcggiaaGreat
end
section
namespace Q
open Go Go.Proofs.YtopclbeomcggiaaGreat
theorem quoT_val {m g:Trm} {a:List Trm} (ha:Vld (m::a)) (hz:g.2≠0) (hn:(m.1.sub g.1).nat=true):Vld [quoT m g] :=
 vld_one hn (by
  show m.2 / g.2≠0;have:=(ha.2 m (by simp)).1;intro h;rw [Rat.div_def] at h
  exact rmul_ne this (fun h'=>hz (by rw [<- Rat.inv_inv g.2,h',Rat.inv_zero])) h)
theorem head_is {a:List Trm} (hv:Vld a) {E:Ex} {c:Rat} (hc:c≠0) (h1:∀ t∈a,E=t.1\/E.gt t.1=true) (h2:cf a E=c):∃ a',a=(E,c)::a':=by
 obtain⟨t,ht,he⟩:=cf_in (l:=a) (e:=E) (by rw [h2];exact hc)
 cases a with
|nil=>cases ht
|cons m a =>
  have h3:m.1=E:=by
   rcases h1 m (by simp) with h|h
   ·exact h.symm
   ·rcases List.mem_cons.1 ht with rfl|ht
    ·exact he
    ·have h4:=hv.1.head t ht;rw [he] at h4;rw [Ex.gt_asymm h] at h4;cases h4
  have h4:=hv.cf_head;rw [h3,h2] at h4;exact⟨a,by rw [<- h3,h4]⟩
theorem mul_top {x g:Trm} {s ts:List Trm} (hs:Vld (x::s)) (hb:Vld (g::ts)):(∀ t∈mulP (x::s) (g::ts),x.1.add g.1=t.1\/(x.1.add g.1).gt t.1=true)/\cf (mulP (x::s) (g::ts)) (x.1.add g.1)=x.2*g.2:=by
 refine⟨canon_ex (P:=fun e=>x.1.add g.1=e\/(x.1.add g.1).gt e=true) fun t ht=>?_,?_⟩
 ·obtain⟨a,ha,b,hb',rfl⟩:=mem_prods ht;by_cases h:x.1=a.1/\g.1=b.1
  ·exact .inl (by simp only [mulT,h.1,h.2])
  ·exact .inr (gt_add_both (hs.1.head_or a ha) (hb.1.head_or b hb') h)
 ·rw [mulP,cf_canon,if_pos (Ex.nat_add hs.nat.head hb.nat.head),cf_prods_head hs.1 hb.1]
theorem quo_back {x g:Trm} (hz:g.2≠0):quoT (x.1.add g.1,x.2*g.2) g=x:=by
 obtain⟨e,c⟩:=x;unfold quoT;refine Prod.ext ?_ ?_
 ·show (e.add g.1).sub g.1=e;simp only [Ex.add,Ex.sub];refine Ex.ext' ?_ ?_ ?_ ?_ <;> simp only <;> omega
 ·show c*g.2 / g.2=c;exact Rat.mul_div_cancel hz
theorem sub_back {x:Trm} {s b d:List Trm} (hs:Vld (x::s)) (hb:Vld b) (hd:Vld d):subP (addP (mulP (x::s) b) d) (mulP b [x])=addP (mulP s b) d :=
 ev_inj (Vld.sub _ _) (Vld.add _ _) fun y=>by
  have hx:Vld [x]:=⟨List.pairwise_singleton _ _,fun t ht=>hs.2 t (by simp at ht;simp [ht])⟩;rw [ev_sub y (Vld.add _ _).nat (Vld.mul _ _),ev_add y (Vld.mul _ _).nat hd.nat,ev_mul y hs.nat hb.nat,ev_mul y hb.nat hx.nat,ev_add y (Vld.mul _ _).nat hd.nat,ev_mul y hs.tail.nat hb.nat,ev_cons,ev_cons,ev_nil];grind
theorem addP_nil {p:List Trm} (hp:Vld p):addP p []=p:=by rw [addP,List.append_nil,canon_id hp]
theorem int_of_dv {c:Rat} (h:Dv 1 c):∃ z:Int,c=(z:Rat):=by
 obtain⟨k,hk⟩:=h;exact⟨k,by rw [<- hk,show ((1:Nat):Rat)=1 from rfl,Rat.mul_one]⟩
theorem int_le {z:Int} {n:Nat} (h:rabs (z:Rat)<=(n:Rat)):z.natAbs<=n:=by
 rw [rabs_int] at h;exact Rat.natCast_le_natCast.1 h
end Q
end
