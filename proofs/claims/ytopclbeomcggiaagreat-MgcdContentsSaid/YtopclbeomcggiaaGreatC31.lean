/- mpoly.Subst: the range over slices.Backward. mpoly.Subst. The fixed examples: plain values. The fixed examples: what the contracts ask, by tests. The fixed examples: the contracts at known values. MpolyMakes: plain facts on the drawn terms. R7.Made, plain: the terms that it lays for drawn ones. R7.Made: for every list of drawn terms the polynomial of its first terms. Contracts in terms of sizes: a polynomial that is valid and of a size. The reference's polynomials: Mul, Scale, Sub, in terms of sizes. Contracts in terms of sizes, more: powers, derivatives; a drawn variable; a pair of bytes. The reference's Div of rational numbers. The reference's Div of polynomials: what a run asks; the contract. Exact divisions: their runs. mgcd.residue: an integer modulo the prime. For MpolyCoefficients: sizes of coefficients and of what From puts together; a list of three polynomials. Greatest common divisors: what the program computes, in plain words, with the sizes that its steps ask. No program in sight. Slices of numbers modulo the prime. mgcd.shared. Divisions of small polynomials: the runs, plain. -/
import Derived.Test.YtopclbeomcggiaaGreatC02
import Derived.Test.YtopclbeomcggiaaGreatC09
import Derived.Test.YtopclbeomcggiaaGreatC16
import Derived.Test.YtopclbeomcggiaaGreatC20
import Derived.Test.YtopclbeomcggiaaGreatC26
import Derived.Test.YtopclbeomcggiaaGreatC28
import Derived.Test.YtopclbeomcggiaaGreatC29
import Derived.Test.YtopclbeomcggiaaGreatC30
import Derived.LoopIn
import Derived.LoopNIn
import Derived.OwnWalkIn
import Derived.RangeFuncBound
import Derived.RangeFuncBox
import Derived.RangeFuncCalls
import Derived.RangeFuncLeaves
import Derived.RangeFuncNested
import Derived.Shelf.Abstract
import Derived.Shelf.RegionOpen
import Derived.TacticsInMore
set_option linter.unusedVariables false
set_option linter.unusedSimpArgs false
set_option maxHeartbeats 16000000
set_option maxRecDepth 100000
section
namespace Q
open Go Go.RowKit Go.Proofs.YtopclbeomcggiaaGreat
def Kept (w w':World) (row:Option Nat):Prop:=w.grownBy w' row/\∀ r,row=some r->∃ o:Obj,w.heap[r]?=some o/\o.isCells=false
end Q
namespace Go.Proofs.YtopclbeomcggiaaGreat
open Go.RowKit Go.Shelf Q
attribute [local go_sem] Oper.semAt_some
def Kb (Bs g:Nat) (W W':World):Prop:=W'.heap[Bs]?=W.heap[Bs]?/\W'.heap[g]?=W.heap[g]?
theorem Kb.refl (Bs g:Nat) (W:World):Kb Bs g W W:=⟨rfl,rfl⟩
theorem Kb.trans {Bs g:Nat} {A B C:World} (h:Kb Bs g A B) (h':Kb Bs g B C):Kb Bs g A C:=⟨h'.1.trans h.1,h'.2.trans h.2⟩
theorem cell_heap {W W':World} {a:Addr} (h:W'.heap[a.block]?=W.heap[a.block]?):W'.cell? a=W.cell? a:=by unfold World.cell?;rw [h]
theorem Kb.putObj {Bs g:Nat} {w:World} (hB:Bs<w.heap.size) (hg:g<w.heap.size) (W:World) (l:Nat) (o o':Obj) (hl:w.heap.size<=l) (_:W.heap[l]?=some o) (_:o.isCells=false) (_:o.isWalk=false):Kb Bs g W (W.putObj l o') :=
 ⟨World.putObj_heap_other (by omega),World.putObj_heap_other (by omega)⟩
def upto {α:Type} (f:Nat->α) (k:Nat):List α:=(List.range k).map f
theorem upto_succ {α:Type} (f:Nat->α) (k:Nat):upto f (k+1)=upto f k++[f k]:=by simp [upto,List.range_succ]
theorem upto_length {α:Type} (f:Nat->α) (k:Nat):(upto f k).length=k:=by simp [upto]
structure HornOk (sb sc:Sz) (sz:Nat->Sz) (N:Nat):Prop where
 b:sb.ok
 c:sc.ok
 z:∀ k,k<=N->(sz k).ok
 m:∀ k,k<N->((sz k).mul sb).ok
 s:∀ k,k<N->(((sz k).mul sb).add sc).le (sz (k+1))
def hornS (b:List Trm) (out c:List Trm):List Trm:=addP (mulP out b) c
end Go.Proofs.YtopclbeomcggiaaGreat
end
section
namespace Go.Proofs.YtopclbeomcggiaaGreat
open Go.RowKit Go.Shelf Q
end Go.Proofs.YtopclbeomcggiaaGreat
namespace Q
open Go Go.RowKit Q Go.Proofs.YtopclbeomcggiaaGreat
theorem Kept.blk {w w':World} {row:Option Nat} (h:Kept w w' row) {g:Nat} {T:TypeId} {cs:List Value} (hc:Blk w g T cs):Blk w' g T cs:=by
 have hl:=hc.lt;unfold Blk at *;rw [h.1.block g hl (fun e=>?_)]
 ·exact hc
 ·obtain⟨o,h3,h4⟩:=h.2 g e.symm;rw [hc] at h3;cases h3;cases h4
end Q
namespace Go.Proofs.YtopclbeomcggiaaGreat
open Go.RowKit Go.Shelf Q
attribute [local go_sem] Oper.semAt_some
end Go.Proofs.YtopclbeomcggiaaGreat
end
section
namespace Q
open Go.Proofs.YtopclbeomcggiaaGreat
def tm (c i k:Int):Trm:=((i,k,0,0),(c:Rat))
theorem sv_x:varP 0=[tm 1 1 0]:=by decide +kernel
theorem sv_y:varP 1=[tm 1 0 1]:=by decide +kernel
end Q
end
section
namespace Q
open Go Go.Proofs.YtopclbeomcggiaaGreat
def smB (B E N:Nat) (l:List Trm):Bool :=
 decide (l.length<=N) && l.all (fun t=>decide (-(E:Int)<=t.1.1) && decide (t.1.1<=E) && decide (-(E:Int)<=t.1.2.1) && decide (t.1.2.1<=E) && decide (-(E:Int)<=t.1.2.2.1) && decide (t.1.2.2.1<=E) && decide (-(E:Int)<=t.1.2.2.2) && decide (t.1.2.2.2<=E) && decide (t.2.den=1)) && decide (asum l<=(B:Rat))
theorem smB_bd {B E N:Nat} {l:List Trm} (h:smB B E N l=true):Bd ⟨1,B,E,N⟩ l:=by
 simp only [smB,Bool.and_eq_true,decide_eq_true_eq,List.all_eq_true] at h;obtain⟨⟨h1,h2⟩,h3⟩:=h;refine⟨h1,fun t ht=>?_,fun t ht=>?_,h3⟩
 ·obtain⟨⟨⟨⟨⟨⟨⟨⟨a1,a2⟩,a3⟩,a4⟩,a5⟩,a6⟩,a7⟩,a8⟩,-⟩:=h2 t ht;exact⟨a1,a2,a3,a4,a5,a6,a7,a8⟩
 ·obtain⟨-,hd⟩:=h2 t ht;refine⟨t.2.num,?_⟩
  have:(t.2.num:Rat)=t.2:=by
   refine Rat.ext rfl ?_;rw [hd];rfl
  rw [this];show t.2*((1:Nat):Rat)=t.2;rw [show ((1:Nat):Rat)=1 from rfl,Rat.mul_one]
def S1:Sz:=⟨1,100,10,10⟩
def sm (l:List Trm):Bool:=smB 100 10 10 l
def psB (D R:List (List Trm)):Bool:=(List.range (R.length-1)).all fun i =>
 (sm (R.getD i []) && sm (D.getD (D.length-1) [])) &&
 (!decide (R.length-1-(D.length-1)<=i) ||
  ((sm (R.getD (R.length-1) []) && sm (D.getD (i-(R.length-1-(D.length-1))) [])) &&
  (sm (mulP (R.getD i []) (D.getD (D.length-1) [])) && sm (mulP (R.getD (R.length-1) []) (D.getD (i-(R.length-1-(D.length-1))) [])) && vldB (mulP (R.getD i []) (D.getD (D.length-1) [])) && vldB (mulP (R.getD (R.length-1) []) (D.getD (i-(R.length-1-(D.length-1))) [])))))
def psAB (D:List (List Trm)):Nat->List (List Trm)->Bool
|0,_=>true
|f+1,R=>!decide (D.length-1<R.length) || (psB D R && psAB D f (psStep D R))
def szH (k:Nat):Sz:=⟨1,2 ^ (k+1)-1,k+1,2 ^ (k+1)-1⟩
end Q
end
section
namespace Q
open Go Go.RowKit Go.Proofs.YtopclbeomcggiaaGreat
def FactL.polyT {g:Option Nat} {T:TypeId} (hT:uT≠T) (hT':monoT≠T) (l:List Trm) (x:Value):FactL (Lr g T):=FactL.of (fun v w=>∃ u,v=.tuple #[u,x]/\IsPoly w u l) (fun _ _ _ hb=>fun⟨u,e,h⟩=>⟨u,e,h.lr hb hT hT'⟩)
def FactL.polys {g:Option Nat} {T:TypeId} (hT:uT≠T) (hT':monoT≠T) (h3:Go.Proofs.YtopclbeomcggiaaGreat.polyT≠T) (L:List (List Trm)):FactL (Lr g T):=FactL.of (fun v w=>IsPolys w v L) (fun _ _ _ hb h=>IsSl.lr h hb ⟨hT,hT'⟩ h3)
end Q
namespace Go.Proofs.YtopclbeomcggiaaGreat
open Go.RowKit Q
variable {w:World} {v u:Value} {l p q r:List Trm}
end Go.Proofs.YtopclbeomcggiaaGreat
end
section
namespace Q
open Go Go.Proofs.YtopclbeomcggiaaGreat
def rawT (t:Int × Int × Int × Int × Int):Trm:=((t.1 % 3,t.2.1 % 4-1,t.2.2.1 % 2,t.2.2.2.1 % 2),((t.2.2.2.2.tmod 4:Int):Rat))
abbrev Drw:=Int × Int × Int × Int × Int
def RawOk (t:Drw):Prop:=(0<=t.1/\t.1<256)/\(0<=t.2.1/\t.2.1<256)/\(0<=t.2.2.1/\t.2.2.1<256)/\(0<=t.2.2.2.1/\t.2.2.2.1<256)/\-128<=t.2.2.2.2/\t.2.2.2.2<128
end Q
namespace Go.Proofs.YtopclbeomcggiaaGreat
open Go.RowKit Q
def drawC (t:Int × Int × Int × Int × Int):List Value:=[.int .u8 t.1,.int .u8 t.2.1,.int .u8 t.2.2.1,.int .u8 t.2.2.2.1,.int .i8 t.2.2.2.2]
def elDraw (T:TypeId):El Drw where
 T:=T
 sz:=5
 pos:=by decide
 E _ cs t:=cs=drawC t/\RawOk t
 len:=by rintro w c t ⟨rfl,h⟩;rfl
 one:=by
  rintro w c t ⟨rfl,h⟩ v hv;simp only [drawC,List.mem_cons,List.not_mem_nil,or_false] at hv;rcases hv with rfl|rfl|rfl|rfl|rfl <;> rfl
 on:=fun h _=>h
 ok _:=True
 lr:=fun h _ _=>h
 self:=trivial
def IsDraw (w:World) (v:Value) (l:List Drw):Prop:=∃ T,IsSl (elDraw T) w v l
end Go.Proofs.YtopclbeomcggiaaGreat
end
section
namespace Q
open Go Go.Proofs.YtopclbeomcggiaaGreat
def Drw.get (t:Drw) (v:Nat):Int:=match v with|0=>t.1|1=>t.2.1|2=>t.2.2.1|_=>t.2.2.2.1
def madeTo (t:Drw) (k:Nat):Ex:=(if 0<k then t.1 % 3 else 0,if 1<k then t.2.1 % 3 else 0,if 2<k then t.2.2.1 % 3 else 0,if 3<k then t.2.2.2.1 % 3 else 0)
def madeT (vs:Nat) (t:Drw):Trm:=(madeTo t vs,((t.2.2.2.2.tmod 10:Int):Rat))
def madeL (L:List Drw) (n vs:Nat):List Trm:=(L.take n).map (madeT vs)
def madeP (L:List Drw) (n vs:Nat):List Trm:=canon (madeL L n vs)
end Q
namespace Go.Proofs.YtopclbeomcggiaaGreat
open Go.RowKit Q
end Go.Proofs.YtopclbeomcggiaaGreat
namespace Q
open Go Go.RowKit Q Go.Proofs.YtopclbeomcggiaaGreat
end Q
namespace Go.Proofs.YtopclbeomcggiaaGreat
open Go.RowKit Q
end Go.Proofs.YtopclbeomcggiaaGreat
end
section
namespace Go.Proofs.YtopclbeomcggiaaGreat
open Go.RowKit Q Go.WideMaps Go.Maps
end Go.Proofs.YtopclbeomcggiaaGreat
end
section
namespace Q
open Go Go.Proofs.YtopclbeomcggiaaGreat
structure Pk (s:Sz) (p:List Trm):Prop where
 v:Vld p
 b:Bd s p
 k:s.ok
namespace Pk
variable {s t:Sz} {p q:List Trm}
theorem mul (h:Pk s p) (h':Pk t q) (k:(s.mul t).ok):Pk (s.mul t) (mulP p q):=⟨Vld.mul _ _,(h.b.prods h'.b).canon,k⟩
theorem rs (h:Pk s p):∀ t∈p,Rs t.2:=h.b.rs h.k
theorem rk (h:Pk s p):∀ t∈p,Rk t.2:=fun t ht=>(h.rs t ht).rk
theorem ir (h:Pk s p):∀ t∈p,InR t.1/\Rk t.2:=fun t ht=>⟨h.b.inR h.k t ht,h.rk t ht⟩
theorem len (h:Pk s p):p.length<=100000000:=h.b.len h.k
end Pk
end Q
namespace Go.Proofs.YtopclbeomcggiaaGreat
open Go.RowKit Q
variable {w:World} {v u:Value} {s t:Sz} {p q:List Trm}
theorem sameK (hP:Pk s p) (hQ:Pk t q) (e:p=q) (hp:IsPoly w v p) (hq:IsPoly w u q):Calls Tryz.prog 13 #[v,u] w (Ret w (.bool true)) :=
 (decide_eq_true e) ▸ same7_any v u p q w hp hq hP.rk hQ.rk hP.len
theorem valid7K (hP:Pk s p) (hp:IsPoly w v p):Calls Tryz.prog 22 #[v] w (Ret w (.bool true)) :=
 (vldB_vld.2 hP.v) ▸ valid7_any v p w hp hP.rs hP.len
end Go.Proofs.YtopclbeomcggiaaGreat
end
section
namespace Q
theorem timesP_prods {p:List Trm} {m:Trm} (h:m.2≠0):timesP p m=prods p [m]:=by
 rw [timesP,if_neg h]
 induction p with
|nil=>rfl
|cons s p ih=>rw [List.map_cons,ih];rfl
theorem ev_single (x:Pt) (t:Trm):ev x [t]=t.2*mon x t.1:=by rw [ev_cons,ev_nil];grind
theorem mul_snoc {p q:List Trm} {k:Nat} {t:Trm} (hp:Vld p) (hq:Vld q) (h:q[k]?=some t):mergeP (mulP p (q.take k)) (timesP p t)=mulP p (q.take (k+1)):=by
 have ht:t.1.nat=true:=(hq.2 t (List.mem_of_getElem? h)).2;have h1:=(hq.sublist (List.take_sublist k q)).nat;have h2:=(hq.sublist (List.take_sublist (k+1) q)).nat;rw [mergeP_eq (Vld.mul _ _) (hp.times ht)];refine ev_inj (Vld.add _ _) (Vld.mul _ _) fun x=>?_;rw [ev_add x (Vld.mul _ _).nat (hp.times ht).nat,ev_mul x hp.nat h1,ev_times x hp.nat ht,ev_mul x hp.nat h2,List.take_add_one,h];simp only [Option.toList_some];rw [ev_append,ev_single,Rat.mul_add]
theorem add_e0 (e:Ex):e.add e0=e:=by simp [Ex.add,e0]
theorem timesP_scale (p:List Trm) (c:Rat):timesP p (e0,c)=scaleP p c:=by
 unfold timesP scaleP;split
 ·rfl
 ·refine List.map_congr_left fun t _=>?_;simp only [mulT,add_e0]
namespace Pk
variable {s t:Sz} {p q:List Trm}
theorem times (h:Pk s p) (h':Pk t q) (k:(s.mul t).ok) {u:Trm} (hu:u∈q):Bd (s.mul t) (timesP p u)/\∀ a∈p,Go.Proofs.YtopclbeomcggiaaGreat.InR (a.1.add u.1):=by
 have hz:u.2≠0:=(h'.v.2 u hu).1;have hb:Bd t [u]:=h'.b.sub (List.singleton_sublist.2 hu);have hp:=h.b.prods hb;refine⟨by rw [timesP_prods hz];exact hp,fun a ha=>?_⟩;exact hp.inR k (mulT a u) (List.mem_flatMap.2 ⟨a,ha,by simp⟩)
theorem take (h:Pk s p) (k:Nat):Pk s (p.take k):=⟨h.v.sublist (List.take_sublist _ _),h.b.take k,h.k⟩
theorem scale (h:Pk s p) {c:Rat} (hb:Bd ⟨1,1,0,1⟩ [(e0,c)]) (k:(s.mul ⟨1,1,0,1⟩).ok):Pk (s.mul ⟨1,1,0,1⟩) (scaleP p c):=by
 refine⟨h.v.scale c,?_,k⟩;rw [<- timesP_scale];by_cases hc:c=0
 ·rw [timesP,if_pos hc];exact Bd.nil _
 ·rw [timesP_prods hc];exact h.b.prods hb
end Pk
end Q
namespace Go.Proofs.YtopclbeomcggiaaGreat
open Go.RowKit Q Go.WideMaps Go.Maps
theorem mul7K {s t:Sz} {vp vq:Value} {p q:List Trm} {w:World} (hP:Pk s p) (hQ:Pk t q) (kk:(s.mul t).ok) (hp:IsPoly w vp p) (hq:IsPoly w vq q):Calls Tryz.prog 12 #[vp,vq] w (RetPoly w (mulP p q)):=by
 obtain⟨ap,cp,rfl,hcp⟩:=hp.shape;obtain⟨aq,cq,rfl,hcq⟩:=hq.shape;have hlen:=hQ.len;have hmk:=zH (fun k=>hP.mul (hQ.take k) kk);have hti:=zH (fun u (hu:u∈q)=>hP.times hQ kk hu);have hsn:=zH (fun k t (h:q[k]?=some t)=>mul_snoc hP.v hQ.v h)
 go_enter Tryz.func12,Tryz.ntmps12
 go_wp2;have hb0:Below w.heap.size w (w.alloc (.cells #[] monoT)):=(Below.refl _ _).alloc (Nat.le_refl _) _;have hst:IsPoly (w.alloc (.cells #[] monoT)) (.slice (some ⟨w.heap.size,0,none⟩) 0 0) []:=(own_lit0 elTerm w).isSl;change Below w.heap.size w (w.alloc (.cells #[] 43)) at hb0;change IsPoly (w.alloc (.cells #[] 43)) _ _ at hst;replace hp:=zH hp;replace hq:=zH hq
 go_loopw [5,6] (fun o i wr=>∃ k:Nat,k<=q.length/\i=.int .i64 k/\Hid (IsPoly wr o (mulP p (q.take k)))/\Below w.heap.size w wr) (fun _ i _=>q.length-(intOf i).toNat)
 case atStart=>exact⟨0,by omega,rfl,zH (by rw [List.take_zero,mulP_nil_right];exact hst),hb0⟩
 case round =>
  clear hst hb0;obtain⟨k,hk,rfl,hO,hbr⟩:=hrel;by_cases hkl:k<q.length
  ·have hjq:q[k]?=some q[k]:=List.getElem?_eq_getElem hkl;generalize q[k]=t at hjq;obtain⟨bq,oq,rt,rfl,hrt,hC⟩:=cell_term (hq.out.on hbr) hjq;have hkl':(k:Int)<q.length:=by omega
   have hr:=hC.range;have h8:(exC t.1++rt).length=8:=by rw [List.length_append,hrt.len];rfl
   have hmem:=List.mem_of_getElem? hjq;have htm:=times7_any _ p _ t wr (hp.out.on hbr) ⟨rt,rfl,hrt⟩ hP.rs (hQ.rs t hmem) (hti.out t hmem).2 hP.len;have had:=fun W u (hb:Below wr.heap.size wr W) (hu:IsPoly W u (timesP p t))=>add7_any u5 u _ _ W (hO.out.on hb) hu (hmk.out k).rs ((hti.out t hmem).1.rs kk) (hmk.out k).len ((hti.out t hmem).1.len kk);rw [hsn.out k t hjq] at had;clear hC hmem hrt;replace htm:=zH htm;replace had:=zH had
   go_wp2_with (first
   |(refine wpList_index_at rfl _ _ 27 rfl monoT Tryz.underlying27 _ 8 96 (by kernel_rfl) _ _ _ rfl .i64 _ rfl k rfl hkl bq oq rfl ?_)
   |(refine wpList_load_mid rfl 43 _ rfl _ _ rfl _ _ hr Tryz.underlying43 rfl (by rw [h8];kernel_rfl) ?_)
   |(go_at_call 44;refine htm.out.mono ?_;rintro en w3 ⟨v3,rfl,hv3,hb3⟩)
   |(go_at_call 39;refine (had.out _ _ hb3 hv3).mono ?_;rintro en w4 ⟨v4,rfl,hv4,hb4⟩))
   have hb34:=hb3.trans (hb4.mono hb3.size);go_roundw
   case rel=>exact⟨k+1,by omega,by go_num,zH hv4,hbr.trans (hb34.mono hbr.size)⟩
   case measure=>simp [intOf];omega
  ·obtain rfl:k=q.length:=by omega
   rw [List.take_of_length_le (Nat.le_refl _)] at hO;go_wp2;go_ret;exact⟨_,rfl,hO.out,hbr⟩
theorem scale7_any (vp vc:Value) (p:List Trm) (c:Rat) (w:World) (hp:IsPoly w vp p) (hc:IsRat w vc c) (rp:∀ t∈p,Rs t.2) (rc:Rs c) (hin:∀ t∈p,InR t.1) (lp:p.length<=100000000) :
  Calls Tryz.prog 42 #[vp,vc] w (RetPoly w (scaleP p c)):=by
 obtain⟨n5,a5,k5,c5,n6,a6,k6,c6,rfl⟩:=rat_agg hc;have htm:=zH (fun W (hb:Below w.heap.size w W)=>times7_any vp p (exC e0++[.bool n5,.slice a5 k5 c5,.bool n6,.slice a6 k6 c6]) (e0,c) W (hp.on hb) ⟨_,rfl,(hc.on hb).cellsC⟩ rp rc (fun t ht=>by rw [add_e0];exact hin t ht) lp);rw [timesP_scale] at htm;replace hp:=zH hp;replace hc:=zH hc;clear rp rc hin
 go_enter Tryz.func42,Tryz.ntmps42
 go_upto_region 1 with (fail)
 refine abs1 fun W hb0 B hsz=>?_;have y1:=B.at1 0 _ rfl;have y2:=B.at1 1 _ rfl;have y3:=B.at1 2 _ rfl;have y4:=B.at1 3 _ rfl
 go_wp2_with (go_at_call 44;refine (htm.out _ hb0).mono ?_;rintro en w3 ⟨v3,rfl,hv3,hb3⟩)
 go_ret;exact⟨_,rfl,hv3,hb0.trans (hb3.mono hb0.size)⟩
theorem rs_neg:Rs (-1:Rat):=rs_of_dv (s:=⟨1,1,0,1⟩) (by decide +kernel) (Dv.int 1 (-1)) (show rabs (((-1:Int)):Rat)<=((1:Nat):Rat) by rw [rabs_int];exact Rat.natCast_le_natCast.2 (by decide))
theorem neg_pk:Bd ⟨1,1,0,1⟩ [(e0,(-1:Rat))]:=smB_bd (by decide +kernel)
theorem scaleK {s:Sz} {vp vc:Value} {p:List Trm} {c:Rat} {w:World} (hP:Pk s p) (rc:Rs c) (hp:IsPoly w vp p) (hc:IsRat w vc c):Calls Tryz.prog 42 #[vp,vc] w (RetPoly w (scaleP p c)) :=
 scale7_any vp vc p c w hp hc hP.rs rc (fun t ht=>(hP.ir t ht).1) hP.len
theorem add7K {s t:Sz} {v u:Value} {p q:List Trm} {w:World} (hP:Pk s p) (hQ:Pk t q) (hp:IsPoly w v p) (hq:IsPoly w u q):Calls Tryz.prog 39 #[v,u] w (RetPoly w (addP p q)) :=
 mergeP_eq hP.v hQ.v ▸ add7_any v u p q w hp hq hP.rs hQ.rs hP.len hQ.len
theorem sub7K {s t:Sz} {vp vq:Value} {p q:List Trm} {w:World} (hP:Pk s p) (hQ:Pk t q) (k:(t.mul ⟨1,1,0,1⟩).ok) (hp:IsPoly w vp p) (hq:IsPoly w vq q):Calls Tryz.prog 35 #[vp,vq] w (RetPoly w (subP p q)):=by
 have hs:=zH (fun W u (hb:Below w.heap.size w W) (hu:IsRat W u (((-1:Int)):Rat))=>scaleK (w:=W) (vc:=u) (c:=-1) hQ rs_neg (hq.on hb) hu);have ha:=zH (fun W u (hb:Below w.heap.size w W) (hu:IsPoly W u (scaleP q (-1)))=>add7K (w:=W) (u:=u) hP (hQ.scale neg_pk k) (hp.on hb) hu);replace hp:=zH hp;replace hq:=zH hq
 go_enter Tryz.func35,Tryz.ntmps35
 go_wp2_with (first
 |(go_at_call 24;refine (whole2_any (-1) _ (by omega) (by omega)).mono ?_;rintro en w3 ⟨v3,rfl,hv3,hb3⟩)
 |(go_at_call 42;refine (hs.out _ _ hb3 hv3).mono ?_;rintro en w4 ⟨v4,rfl,hv4,hb4⟩)
 |(go_at_call 39;refine (ha.out _ _ (hb3.trans (hb4.mono hb3.size)) hv4).mono ?_;rintro en w5 ⟨v5,rfl,hv5,hb5⟩))
 have hb34:=hb3.trans (hb4.mono hb3.size);go_ret;exact⟨_,rfl,hv5,hb34.trans (hb5.mono hb34.size)⟩
end Go.Proofs.YtopclbeomcggiaaGreat
end
section
namespace Q
open Go Go.Proofs.YtopclbeomcggiaaGreat
def szp (s:Sz) (n:Nat):Sz:=⟨s.D ^ n,s.B ^ n,s.E*n,s.N ^ n⟩
namespace Pk
variable {s t:Sz} {p q:List Trm}
end Pk
end Q
namespace Go.Proofs.YtopclbeomcggiaaGreat
open Go.RowKit Q
end Go.Proofs.YtopclbeomcggiaaGreat
end
section
namespace Go.Proofs.YtopclbeomcggiaaGreat
open Go.RowKit Q Go.WideMaps Go.Maps
end Go.Proofs.YtopclbeomcggiaaGreat
end
section
namespace Q
open Go Go.Proofs.YtopclbeomcggiaaGreat
inductive RunD (sa sq:Sz) (b:List Trm) (g:Trm):Nat->List Trm->List Trm->Option (List Trm)->Prop
|done {out:List Trm}:RunD sa sq b g 0 [] out (some out)
|fail {m:Trm} {a out:List Trm}:(m.1.sub g.1).nat=false->Pk sa (m::a)->RunD sa sq b g 0 (m::a) out none
|step {n:Nat} {m:Trm} {a out:List Trm} {r:Option (List Trm)}:(m.1.sub g.1).nat=true->Pk sa (m::a)->Bd sq [quoT m g]->out.length<=100000000 ->
   RunD sa sq b g n (subP (m::a) (mulP b [quoT m g])) (out++[quoT m g]) r->RunD sa sq b g (n+1) (m::a) out r
structure RunB (sa sb sq:Sz) (b:List Trm) (g:Trm):Prop where
 pb:Pk sb b
 hd:∃ r,b=g::r
 oq:sq.ok
 om:(sb.mul sq).ok
 os:((sb.mul sq).mul ⟨1,1,0,1⟩).ok
 gs:sa.D*g.2.num.natAbs<4294967296
theorem quoT_val {m g:Trm} {a:List Trm} (ha:Vld (m::a)) (hz:g.2≠0) (hn:(m.1.sub g.1).nat=true):Vld [quoT m g] :=
 vld_one hn (by
  show m.2 / g.2≠0;have:=(ha.2 m (by simp)).1;intro h;rw [Rat.div_def] at h
  exact rmul_ne this (fun h'=>hz (by rw [<- Rat.inv_inv g.2,h',Rat.inv_zero])) h)
end Q
namespace Go.Proofs.YtopclbeomcggiaaGreat
open Go.RowKit Q Go.WideMaps Go.Maps
def subZ (m g:Ex):Nat->Ex
|0=>e0
|k+1=>(subZ m g k).put k (m.get k-g.get k)
end Go.Proofs.YtopclbeomcggiaaGreat
end
section
namespace Q
open Go Go.Proofs.YtopclbeomcggiaaGreat
theorem head_is {a:List Trm} (hv:Vld a) {E:Ex} {c:Rat} (hc:c≠0) (h1:∀ t∈a,E=t.1\/E.gt t.1=true) (h2:cf a E=c):∃ a',a=(E,c)::a':=by
 obtain⟨t,ht,he⟩:=cf_in (l:=a) (e:=E) (by rw [h2];exact hc)
 cases a with
|nil=>cases ht
|cons m a =>
  have h3:m.1=E:=by
   rcases h1 m (by simp) with h|h
   ·exact h.symm
   ·rcases List.mem_cons.1 ht with rfl|ht
    ·exact he
    ·have h4:=hv.1.head t ht;rw [he] at h4;rw [Ex.gt_asymm h] at h4;cases h4
  have h4:=hv.cf_head;rw [h3,h2] at h4;exact⟨a,by rw [<- h3,h4]⟩
theorem mul_top {x g:Trm} {s ts:List Trm} (hs:Vld (x::s)) (hb:Vld (g::ts)):(∀ t∈mulP (x::s) (g::ts),x.1.add g.1=t.1\/(x.1.add g.1).gt t.1=true)/\cf (mulP (x::s) (g::ts)) (x.1.add g.1)=x.2*g.2:=by
 refine⟨canon_ex (P:=fun e=>x.1.add g.1=e\/(x.1.add g.1).gt e=true) fun t ht=>?_,?_⟩
 ·obtain⟨a,ha,b,hb',rfl⟩:=mem_prods ht;by_cases h:x.1=a.1/\g.1=b.1
  ·exact .inl (by simp only [mulT,h.1,h.2])
  ·exact .inr (gt_add_both (hs.1.head_or a ha) (hb.1.head_or b hb') h)
 ·rw [mulP,cf_canon,if_pos (Ex.nat_add hs.nat.head hb.nat.head),cf_prods_head hs.1 hb.1]
theorem quo_back {x g:Trm} (hz:g.2≠0):quoT (x.1.add g.1,x.2*g.2) g=x:=by
 obtain⟨e,c⟩:=x;unfold quoT;refine Prod.ext ?_ ?_
 ·show (e.add g.1).sub g.1=e;simp only [Ex.add,Ex.sub];refine Ex.ext' ?_ ?_ ?_ ?_ <;> simp only <;> omega
 ·show c*g.2 / g.2=c;exact Rat.mul_div_cancel hz
theorem sub_back {x:Trm} {s b d:List Trm} (hs:Vld (x::s)) (hb:Vld b) (hd:Vld d):subP (addP (mulP (x::s) b) d) (mulP b [x])=addP (mulP s b) d :=
 ev_inj (Vld.sub _ _) (Vld.add _ _) fun y=>by
  have hx:Vld [x]:=⟨List.pairwise_singleton _ _,fun t ht=>hs.2 t (by simp at ht;simp [ht])⟩;rw [ev_sub y (Vld.add _ _).nat (Vld.mul _ _),ev_add y (Vld.mul _ _).nat hd.nat,ev_mul y hs.nat hb.nat,ev_mul y hb.nat hx.nat,ev_add y (Vld.mul _ _).nat hd.nat,ev_mul y hs.tail.nat hb.nat,ev_cons,ev_cons,ev_nil];grind
theorem addP_nil {p:List Trm} (hp:Vld p):addP p []=p:=by rw [addP,List.append_nil,canon_id hp]
theorem int_of_dv {c:Rat} (h:Dv 1 c):∃ z:Int,c=(z:Rat):=by
 obtain⟨k,hk⟩:=h;exact⟨k,by rw [<- hk,show ((1:Nat):Rat)=1 from rfl,Rat.mul_one]⟩
theorem int_le {z:Int} {n:Nat} (h:rabs (z:Rat)<=(n:Rat)):z.natAbs<=n:=by
 rw [rabs_int] at h;exact Rat.natCast_le_natCast.1 h
end Q
namespace Go.Proofs.YtopclbeomcggiaaGreat
open Go Go.RowKit Q
def RetDivT (w:World) (s:List Trm) (t:Bool) (e:Ending) (w':World):Prop:=∃ v,e=.returned (.tuple #[v,.bool t])/\IsPoly w' v s/\Below w.heap.size w w'
end Go.Proofs.YtopclbeomcggiaaGreat
end
section
namespace Go.Proofs.YtopclbeomcggiaaGreat
open Go.RowKit Go.Shelf Q
attribute [local go_sem] Oper.semAt_some
abbrev u64T:TypeId:=97
theorem backwardU_any (F:Fence) (n:Nat) (h79:F.fn 156) (hro:F.round=none) (ao:Option Addr) (N cap:Nat) (w:World) :
  CallsIn F n Tryz.prog 156 #[.slice ao N cap] w (fun e W'=>e=.returned (.func (.func 170) #[] #[.pointer (some ⟨w.heap.size,0,none⟩)])/\W'=w.alloc (.cells #[.slice ao N cap] 37)):=by
 refine callsIn_of_wp Tryz.func156 rfl h79 ?_ hro;simp only [Tryz.ntmps156,List.size_toArray,List.length_cons,List.length_nil,Nat.reduceAdd,Nat.reduceSub,Array.replicate_succ,Array.replicate_zero,List.push_toArray,List.append_toArray,List.nil_append,List.cons_append]
 gi_wp2
 refine bodyPost_ret (results_tmp rfl _ _ _) rfl ?_;exact⟨rfl,rfl⟩
theorem backwardU1_in {α:Type} (ix:α->Int) (vl:α->Value) (XS:Nat->α) (F:Fence) (n:Nat) (h106:F.fn 170) (hro:F.round=none) (hn:1<=n) (l Bs g o N cap:Nat) (ao:Option Addr) (hao:∀ k,k<N->ao=some ⟨g,o,none⟩) (hN:N<=34359738368)
  (hX1:∀ k,k<N->ix (XS k)=(N:Int)-1-k) (J Jx:List α->World->Prop)
  (hY:∀ pre x W,J pre W->pre.length<N->YieldAt F (n-1) Tryz.prog l #[.int .i64 (ix x),vl x] W fun e W' =>
   (e=.returned (.bool true)/\J (pre++[x]) W'/\Kb Bs g W W')\/(e=.returned (.bool false)/\Jx (pre++[x]) W'))
  (W:World) (hBs:W.cell? ⟨Bs,0,none⟩=some (.slice ao N cap)) (hc:∀ k,k<N->W.cell? ⟨g,o+(N-1-k),none⟩=some (vl (XS k))) (h0:J [] W) :
  CallsIn F n Tryz.prog 170 #[.func (.yield l) #[] #[],.pointer (some ⟨Bs,0,none⟩)] W fun e W'=>(∃ v,e=.returned v) /\
   ((∃ ys,ys=upto XS N/\J ys W')\/(∃ pre,(∃ k,k<=N/\pre=upto XS k)/\Jx pre W')):=by
 refine callsIn_of_wp Tryz.func170 rfl h106 ?_ hro;simp only [Tryz.ntmps170,List.size_toArray,List.length_cons,List.length_nil,Nat.reduceAdd,Nat.reduceSub,Array.replicate_succ,Array.replicate_zero,List.push_toArray,List.append_toArray,List.nil_append,List.cons_append]
 gi_wp2
 gi_loopw [3] (fun i wr=>∃ k:Nat,k<=N/\i=.int .i64 ((N:Int)-1-k)/\J (upto XS k) wr/\Kb Bs g W wr) (fun i _=>(intOf i+1).toNat)
 case atStart=>exact⟨0,Nat.zero_le _,by simp,h0,Kb.refl _ _ _⟩
 case round =>
  obtain⟨k,hk,rfl,hJs,hnx⟩:=hrel;have hbs:=(cell_heap (a:=⟨Bs,0,none⟩) hnx.1).trans hBs;by_cases hlt:k<N
  ·have hcx:=(cell_heap (a:=⟨g,o+(N - 1 - k),none⟩) hnx.2).trans (hc k hlt);obtain⟨fn,tmps,assign,body,hy,hR⟩:=hY _ (XS k) wr hJs (by rw [upto_length];exact hlt);rw [hX1 k hlt] at hy;have hao2:=hao k hlt;rw [hao2] at hbs;obtain⟨m,hm⟩:∃ m:Nat,m=N - 1 - k:=⟨_,rfl⟩;have hmi:(N:Int) - 1 - k=(m:Int):=by omega
   rw [<- hm] at hcx;rw [hmi] at hy ⊢;have hmN:(m:Int)<N:=by omega
   have hmN':m<N:=by omega
   have hm0:(0:Int)<=m:=by omega
   have hmk:(m:Int)-1=(N:Int)-1-(k+1:Nat):=by omega
   have hmk:=zH hmk;clear hm hmi hao2
   gi_wp2
   refine hR.mono ?_;rintro e W3 (⟨rfl,hJ3,hk3⟩|⟨rfl,hJx3⟩)
   ·gi_wp2
    go_roundw
    case rel=>exact⟨k+1,by omega,by have h:=hmk.out;simp only [Value.int.injEq,true_and];omega,by rw [upto_succ];exact hJ3,hnx.trans hk3⟩
    case measure=>have h:=hmk.out;simp [intOf];omega
   ·gi_wp2
    refine bodyPost_ret (results_none rfl _ _ _) rfl ?_;exact⟨⟨_,rfl⟩,.inr ⟨_,⟨k+1,by omega,(upto_succ _ _).symm⟩,hJx3⟩⟩
  ·obtain rfl:k=N:=by omega
   gi_wp2
   go_end0
   exact⟨⟨_,rfl⟩,.inl ⟨_,rfl,hJs⟩⟩
theorem backwardU_stops {α:Type} (ix:α->Int) (vl:α->Value) (XS:Nat->α) (F:Fence) (n:Nat) (h106:F.fn 170) (hro:F.round=none) (hn:1<=n) (Bs g o N cap:Nat) (ao:Option Addr) (hao:∀ k,k<N->ao=some ⟨g,o,none⟩) (hN:N<=34359738368)
  (hX1:∀ k,k<N->ix (XS k)=(N:Int)-1-k) (w:World) (hBl:Bs<w.heap.size) (hgl:g<w.heap.size) (hBs:w.cell? ⟨Bs,0,none⟩=some (.slice ao N cap)) (hc:∀ k,k<N->w.cell? ⟨g,o+(N-1-k),none⟩=some (vl (XS k))) :
  SeqStopsK F n Tryz.prog 170 #[.pointer (some ⟨Bs,0,none⟩)] (fun x:α=>#[.int .i64 (ix x),vl x]) (Kb Bs g) (fun ys=>ys=upto XS N) (fun pre=>∃ k,k<=N/\pre=upto XS k) N w:=fun l J Jx W hW _ _ hY h0 =>
 backwardU1_in ix vl XS F n h106 hro hn l Bs g o N cap ao hao hN hX1 J Jx hY W ((hW.cell (p:=⟨Bs,0,none⟩) hBl).trans hBs) (fun k hk=>(hW.cell (p:=⟨g,o+(N-1-k),none⟩) hgl).trans (hc k hk)) h0
def resS (m d:Int):Int:=(m*4294967296+d) % 2147483647
theorem resS_fold:∀ l:List Int,l.reverse.foldl resS 0=lval l % 2147483647
|[]=>rfl
|d::l=>by
  rw [List.reverse_cons,List.foldl_append,resS_fold l];show (lval l % 2147483647*4294967296+d) % 2147483647=(d+B32*lval l) % 2147483647;rw [B32_eq];omega
theorem resS_bd {m d:Int}:0<=resS m d/\resS m d<2147483647:=⟨Int.emod_nonneg _ (by decide),Int.emod_lt_of_pos _ (by decide)⟩
theorem resF_bd (l:List Int):0<=l.foldl resS 0/\l.foldl resS 0<2147483647:=by
 by_cases h:l=[]
 ·subst h;simp
 ·rw [<- List.dropLast_concat_getLast h,List.foldl_append];exact resS_bd
end Go.Proofs.YtopclbeomcggiaaGreat
namespace Q
def resid (z:Int):Nat:=if z<0/\0<z.natAbs % 2147483647 then 2147483647-z.natAbs % 2147483647 else z.natAbs % 2147483647
theorem resid_lt (z:Int):resid z<2147483647:=by
 unfold resid;split <;> omega
end Q
namespace Go.Proofs.YtopclbeomcggiaaGreat
open Go.RowKit Go.Shelf Q
attribute [local go_sem] Oper.semAt_some
theorem resid_false {z M:Int} (h0:0<=z) (hM:M=z % 2147483647):M=(resid z:Int):=by
 unfold resid;rw [if_neg (by omega)];omega
theorem resid_true {z l M:Int} (h0:0<l) (hz:z=-l) (hM:M=l % 2147483647):(0<M->2147483647-M=(resid z:Int))/\(¬ 0<M->M=(resid z:Int)):=by
 unfold resid;split <;> omega
theorem residue_any (n:Bool) (m:Value) (z:Int) (w:World) (h:IsInt w n m z) (c:nbits z.natAbs<=CAP):Calls Tryz.prog 136 #[.agg #[.bool n,m]] w (Ret w (.int .u64 (resid z))):=by
 obtain⟨l,ao,cap,rfl,u,b,nn,e⟩:=isInt_parts h c
 have hneg:n=true->0<lval l:=fun hn=>by
  subst hn;have:=isInt_neg_lt h;rw [e] at this;simp only [sgn,if_true] at this;omega
 obtain⟨_,_,e',_,L,mm⟩:=u;cases e';have hb0:Below w.heap.size w ((w.alloc (.cells #[.bool n,.slice ao l.length cap] 39)).alloc (.cells #[.int .u64 0] 97)):=below2 _ _ _;have hl0:=lval_nonneg L;obtain⟨dg,hdg⟩:∃ dg:Nat->Int,dg=fun i=>l.getD i 0:=⟨_,rfl⟩;have hdv:∀ i,l.getD i 0=dg i:=fun i=>by rw [hdg]
 have hmod:(upto (fun k=>l.length-1-k) l.length).map dg=l.reverse:=by
  rw [hdg];refine List.ext_getElem (by simp [upto]) fun i h1 h2=>?_;simp [upto] at h1;simp [upto,List.getElem_reverse];rw [List.getElem?_eq_getElem (by omega)];rfl
 have hZ1:n=false->z=lval l:=fun hn=>by rw [e,hn];rfl
 have hZ2:n=true->z=- lval l:=fun hn=>by rw [e,hn];rfl
 replace hmod:=zH hmod;replace hdv:=zH hdv;replace hZ1:=zH hZ1;replace hZ2:=zH hZ2;replace hneg:=zH hneg;clear h c nn e hdg;refine (callsIn_wide (n:=6)).1 ?_;refine callsIn_of_wp_marks Tryz.func136 rfl trivial ?_ rfl;simp only [Tryz.ntmps136,List.size_toArray,List.length_cons,List.length_nil,Nat.reduceAdd,Nat.reduceSub,Array.replicate_succ,Array.replicate_zero,List.push_toArray,List.append_toArray,List.nil_append,List.cons_append];have hbx1:((w.alloc (.cells #[.bool n,.slice ao l.length cap] 39)).alloc (.cells #[.int .u64 0] 97)).cell? ⟨w.heap.size,1,none⟩=some (.slice ao l.length cap):=((Blk.new w 39 [.bool n,.slice ao l.length cap]).alloc _).at1 1 _ rfl
 gi_wp2_with (refine⟨trivial,?_⟩;gi_at_call 156;refine (backwardU_any Fence.wide _ trivial rfl _ _ _ _).mono ?_;rintro e w2 ⟨rfl,rfl⟩)
 obtain⟨W0,hW0⟩:∃ W0,W0=(w.alloc (.cells #[.bool n,.slice ao l.length cap] 39)).alloc (.cells #[.int .u64 0] 97):=⟨_,rfl⟩;have hW0s:W0.heap.size=w.heap.size+1+1:=by rw [hW0];simp
 have hbx:W0.cell? ⟨w.heap.size,0,none⟩=some (.bool n):=by rw [hW0];exact ((Blk.new w 39 [.bool n,.slice ao l.length cap]).alloc _).at1 0 _ rfl
 have hox:Blk W0 (w.heap.size+1) 97 [.int .u64 0]:=by rw [hW0];have:=Blk.new (w.alloc (.cells #[.bool n,.slice ao l.length cap] 39)) 97 [.int .u64 0];simpa using this
 change Below w.heap.size w ((w.alloc (.cells #[.bool n,.slice ao l.length cap] 39)).alloc (.cells #[.int .u64 0] 97)) at hb0;rw [<- hW0] at hb0;have hba:Below W0.heap.size W0 (W0.alloc (.cells #[.slice ao l.length cap] 37)):=(Below.refl _ _).alloc (Nat.le_refl _) _;have hbs:(W0.alloc (.cells #[.slice ao l.length cap] 37)).cell? ⟨(w.heap.size+1+1),0,none⟩=some (.slice ao l.length cap):=by rw [<- hW0s];exact (Blk.new W0 37 [.slice ao l.length cap]).at1 0 _ rfl
 clear hbx1;rw [<- hW0];obtain⟨W2,hW2⟩:∃ W2,W2=W0.alloc (.cells #[.slice ao l.length cap] 37):=⟨_,rfl⟩;have hW2s:W2.heap.size=(w.heap.size+1+1)+1:=by rw [hW2,<- hW0s];simp
 rw [<- hW2] at hba hbs;have hbw2:=hb0.trans (hba.mono hb0.size);have hbox2:W2.cell? ⟨w.heap.size,0,none⟩=some (.bool n):=by rw [hba.cell (p:=⟨w.heap.size,0,none⟩) (by simp only;omega)];exact hbx
 have hob2:=hox.on hba
 obtain⟨g,o,hgl,hao,hcl⟩:∃ g o,g<w.heap.size+1/\(∀ k,k<l.length->ao=some ⟨g,o,none⟩)/\∀ k,k<l.length->W2.cell? ⟨g,o+k,none⟩=some (.int .u32 (dg k)):=by
  by_cases hp:0<l.length
  ·obtain⟨g,o,rfl,hc⟩:=mm (by rw [uc_len];exact hp);exact⟨g,o,by have:=hc.lt;omega,fun _ _=>rfl,fun k hk=>hdv.out k ▸ (hc.on hbw2).ucell k hk⟩
  ·exact⟨w.heap.size,0,by omega,fun k hk=>by omega,fun k hk=>by omega⟩
 have hg2:g<W2.heap.size:=by omega
 have hgl:g≠w.heap.size+1:=by omega
 rw [<- hW2];have hbl:(w.heap.size+1+1)<W2.heap.size:=by omega
 have hbn:(w.heap.size+1+1)≠w.heap.size+1:=by omega
 have hwl:w.heap.size+1<W2.heap.size:=by omega
 clear hW2 hba hbx hox hb0 hW0 mm
 refine wpIn_rangeFunc_ownF (α:=Nat) rfl (by omega) (gf:=170) (lb:=#[.pointer (some ⟨(w.heap.size+1+1),0,none⟩)]) rfl trivial (enters_of Tryz.func170 (by kernel_rfl) rfl)
  (backwardU_stops (α:=Nat) (fun i=>(i:Int)) (fun i=>.int .u32 (dg i)) (fun k=>l.length-1-k) Fence.wide _ trivial rfl (by omega) (w.heap.size+1+1) g o l.length cap ao hao b (fun k hk=>by omega) W2 hbl hg2 hbs (fun k hk=>hcl _ (by omega)))
  (fun h k=>h.trans k) (Kb.putObj hbl hg2) (Below.refl _ _) (fun _=>rfl)
  (fun pre W=>(Blk W (w.heap.size+1) 97 [.int .u64 ((pre.map dg).foldl resS 0)]/\W.cell? ⟨w.heap.size,0,none⟩=some (.bool n)/\W2.heap.size<=W.heap.size)/\Below w.heap.size w W)
  (fun _ _ _=>False)
  (OwnFrom.and (Own.from (fun s A B row hs hg hr=>by
   obtain⟨h1,h4,h7⟩:=hs;have hk:Kept A B row:=⟨hg,hr⟩
   exact⟨hk.blk h1,cell_kept h4 hg hr,Nat.le_trans h7 hg.size⟩) _) (ownFrom_below (Nat.le_refl _) (by omega)))
  (fun _ _ _ _ _ hs _ _=>hs)
  ⟨⟨hob2,hbox2,Nat.le_refl _⟩,hbw2⟩
  (fun x=>{ tmps:=#[.agg #[.bool n,.slice ao l.length cap],.pointer (some ⟨w.heap.size,0,none⟩),.int .u64 0,.pointer (some ⟨w.heap.size+1,0,none⟩),undef,.int .u32 (dg x),.pointer (some ⟨w.heap.size,1,none⟩),.slice ao l.length cap,.func (.func 170) #[] #[.pointer (some ⟨(w.heap.size+1+1),0,none⟩)],.int .i64 x,.int .u32 (dg x),undef,undef,undef,undef,undef,undef,undef,undef,undef,undef,undef,undef,undef,undef,undef],defers:=[] }) ?assign ?body ?done ?stop
 case assign =>
  intro l x W K hK
  gi_wp2
  exact hK
 case body =>
  rintro ll pre x W ⟨⟨Bo,hbx,hsz⟩,hbw⟩ hlen;have hfb:=resF_bd (pre.map dg);have hxl:=(L.getD x);rw [B32_eq,hdv.out] at hxl;have hfold:((pre++[x]).map dg).foldl resS 0=resS ((pre.map dg).foldl resS 0) (dg x):=by rw [List.map_append,List.foldl_append];rfl
  generalize (pre.map dg).foldl resS 0=M at *;generalize dg x=d at *;have ho:=Bo.at1 0 _ rfl;have hf:=Bo.frozen 0;have hor:=or_join M d hfb.1 (by omega) hxl.1 hxl.2;have hM0:=hfb.1;have hM1:=hfb.2;have hd0:=hxl.1;have hd1:=hxl.2;have hres:Hid (resS M d=(M*4294967296+d) % 2147483647):=zH rfl;replace hfold:=zH hfold
  gi_wp2
  have Bn:=Bo.set 0 (.int .u64 ((M*4294967296+d) % 2147483647));refine⟨KeepsOthers.setCell _ _ _,⟨Below.heap_setCell _ _ _ _ hbn,Below.heap_setCell _ _ _ _ hgl⟩,⟨?_,?_,by rw [World.size_setCell];omega⟩,?_⟩
  ·rw [hfold.out,hres.out];exact Bn
  ·rw [<- hbx];exact cell_heap (Below.heap_setCell _ _ _ _ (by simp))
  ·exact hbw.trans (setCell_below (by omega) _)
 case done =>
  rintro D ys W hD rfl ⟨⟨Bo,hbx,hsz⟩,hbw⟩ hK;rw [hmod.out,resS_fold] at Bo;have ho:=Bo.at1 0 _ rfl;have hf:=Bo.frozen 0;have hM0:0<=lval l % 2147483647:=Int.emod_nonneg _ (by decide);have hM1:lval l % 2147483647<2147483647:=Int.emod_lt_of_pos _ (by decide);have hME:Hid (lval l % 2147483647=lval l % 2147483647):=zH rfl;have hDs:D≠w.heap.size+1:=by omega
  cases n
  ·have hfin:=resid_false hl0 rfl;rw [<- hZ1.out rfl] at hfin Bo ho hM0 hM1;rw [hfin] at Bo ho;replace hfin:=zH hfin
   gi_wp2
   refine⟨by simp,.inl ⟨_,_,rfl,run_takeDeferred hK,?_⟩⟩;refine⟨_,results_tmp rfl _ _ _,rfl,?_⟩;exact hbw.trans (belowK_b (w:=w) (Nat.le_refl _) _ D _ _ (by have:=hbw2.size;omega) hK rfl rfl)
  ·have hfin:=resid_true (M:=lval l % 2147483647) (hneg.out rfl) (hZ2.out rfl) rfl;generalize lval l % 2147483647=M at *;by_cases hp:0<M
   ·have hfin:=zH (hfin.1 hp)
    gi_wp2
    have hK2:=(Below.heap_setCell W ⟨w.heap.size+1,0,none⟩ (.int .u64 (resid z)) D hDs).trans hK;have hbw3:=hbw.trans (setCell_below (W:=W) (g:=w.heap.size+1) (j:=0) (Nat.le_succ _) (.int .u64 (resid z)));refine⟨by simp,.inl ⟨_,_,rfl,run_takeDeferred hK2,?_⟩⟩;refine⟨_,results_tmp rfl _ _ _,rfl,?_⟩;exact hbw3.trans (belowK_b (w:=w) (Nat.le_refl _) _ D _ _ (by have:=hbw2.size;omega) hK2 rfl rfl)
   ·have hfin:=hfin.2 hp
    gi_wp2
    refine⟨by simp,.inl ⟨_,_,rfl,run_takeDeferred hK,?_⟩⟩;refine⟨_,results_tmp rfl _ _ _,rfl,?_⟩;exact hbw.trans (belowK_b (w:=w) (Nat.le_refl _) _ D _ _ (by have:=hbw2.size;omega) hK rfl rfl)
 case stop =>
  rintro D c pre W _ _ h _;exact h.elim
end Go.Proofs.YtopclbeomcggiaaGreat
end
section
namespace Q
open Go Go.RowKit Go.Proofs.YtopclbeomcggiaaGreat
theorem bd_coeff {s:Sz} {p:List Trm} (h:Bd s p) (v:Nat) (n:Int):Bd s (coeffP p v n):=by
 have h':Bd s (p.filter fun t=>t.1.get v=n):=h.sub List.filter_sublist;refine⟨by unfold coeffP;rw [List.length_map];exact h'.n,fun t ht=>?_,fun t ht=>?_,?_⟩
 ·obtain⟨u,hu,rfl⟩:=List.mem_map.1 ht;have:=h'.e u hu;rcases v with _|_|_|v <;> simp only [Ex.put] <;> omega
 ·obtain⟨u,hu,rfl⟩:=List.mem_map.1 ht;exact h'.d u hu
 ·have:asum (coeffP p v n)=asum (p.filter fun t=>t.1.get v=n):=by
   unfold coeffP;generalize p.filter _=l
   induction l with
  |nil=>rfl
  |cons u l ih=>simp only [List.map_cons,asum,ih]
  rw [this];exact h'.b
end Q
namespace Go.Proofs.YtopclbeomcggiaaGreat
open Go.RowKit Q
variable {w:World} {v u x:Value} {p q r:List Trm}
theorem cell_poly {al:Option Addr} {n cl j:Nat} {L:List (List Trm)} {c:List Trm} (h:IsPolys w (.slice al n cl) L) (hj:L[j]?=some c):∃ b off v,al=some ⟨b,off,none⟩/\IsPoly w v c/\Cells polyT w b (off+j*1) [v]:=by
 obtain⟨b,off,cs,e,-,⟨v,rfl,hv⟩,hC⟩:=h.get hj;exact⟨b,off,v,e,hv,hC⟩
end Go.Proofs.YtopclbeomcggiaaGreat
end
section
namespace Q
open Go Go.Proofs.YtopclbeomcggiaaGreat
def lcmD:List Trm->Nat
|[]=>1
|t::l=>Nat.lcm t.2.den (lcmD l)
theorem lcmD_pos:∀ l,0<lcmD l
|[]=>Nat.one_pos
|t::l=>Nat.lcm_pos t.2.den_pos (lcmD_pos l)
theorem den_lcmD {l:List Trm} {t:Trm} (h:t∈l):t.2.den∣lcmD l:=by
 induction l with
|nil=>cases h
|cons s l ih =>
  rcases List.mem_cons.1 h with rfl|h
  ·exact Nat.dvd_lcm_left _ _
  ·exact Nat.dvd_trans (ih h) (Nat.dvd_lcm_right _ _)
theorem dv_den (c:Rat):Dv c.den c:=by
 refine⟨c.num,?_⟩;have h1:(c.den:Rat)≠0:=fun h=>c.den_nz (by rw [<- Rat.intCast_natCast] at h;have:=Rat.intCast_inj.1 (h.trans Rat.intCast_zero.symm);omega);have h2:=Rat.num_divInt_den c;rw [Rat.divInt_eq_div,Rat.intCast_natCast] at h2;have h3:(c.num:Rat) / (c.den:Rat)*(c.den:Rat)=c.num:=Rat.div_mul_cancel h1;rwa [h2] at h3
def LB:Nat:=17179869184
theorem LB_eq:LB=17179869184:=rfl
def szW (D B:Nat):Sz:=⟨D,B,100000,10000⟩
def numB (l:List Trm):Nat:=(asum l).num.natAbs
def bdB (l:List Trm):Bool :=
 decide (l.length<=10000) && l.all (fun t=>decide (-100000<=t.1.1) && decide (t.1.1<=100000) && decide (-100000<=t.1.2.1) && decide (t.1.2.1<=100000) && decide (-100000<=t.1.2.2.1) && decide (t.1.2.2.1<=100000) && decide (-100000<=t.1.2.2.2) && decide (t.1.2.2.2<=100000)) && decide (nbits (lcmD l)<=LB) && decide (nbits (numB l)<=LB)
theorem le_num {c:Rat} (h:0<=c):c<=(c.num.natAbs:Rat):=by
 obtain⟨k,hk⟩:=dv_den c
 have h1:c*(c.den:Rat)=((c.num:Int):Rat):=by
  have h1:(c.den:Rat)≠0:=fun h=>c.den_nz (by rw [<- Rat.intCast_natCast] at h;have:=Rat.intCast_inj.1 (h.trans Rat.intCast_zero.symm);omega);have h2:=Rat.num_divInt_den c;rw [Rat.divInt_eq_div,Rat.intCast_natCast] at h2;have h3:(c.num:Rat) / (c.den:Rat)*(c.den:Rat)=c.num:=Rat.div_mul_cancel h1;rwa [h2] at h3
 have h2:((c.num.natAbs:Nat):Rat)=((c.num:Int):Rat):=by
  have h0:=Rat.num_nonneg.2 h;rw [<- Rat.intCast_natCast];congr 1;omega
 rw [h2,<- h1]
 have h3:(1:Rat)<=(c.den:Rat):=by
  have e:(1:Rat)=((1:Nat):Rat):=rfl;rw [e];exact Rat.natCast_le_natCast.2 c.den_pos
 have h4:=Rat.mul_le_mul_of_nonneg_left h3 h;rwa [Rat.mul_one] at h4
theorem bdB_bd {l:List Trm} (h:bdB l=true):Bd (szW (lcmD l) (numB l)) l/\nbits (lcmD l)<=LB/\nbits (numB l)<=LB:=by
 simp only [bdB,Bool.and_eq_true,decide_eq_true_eq,List.all_eq_true] at h;obtain⟨⟨⟨h1,h2⟩,h3⟩,h4⟩:=h;refine⟨⟨h1,fun t ht=>?_,fun t ht=>?_,le_num (asum_nonneg l)⟩,h3,h4⟩
 ·obtain⟨⟨⟨⟨⟨⟨⟨a1,a2⟩,a3⟩,a4⟩,a5⟩,a6⟩,a7⟩,a8⟩:=h2 t ht;exact⟨a1,a2,a3,a4,a5,a6,a7,a8⟩
 ·exact (dv_den t.2).dvd (den_lcmD ht)
def wpB (l:List Trm):Bool:=vldB l && bdB l
structure Wk (s:Sz) (p:List Trm):Prop where
 v:Vld p
 b:Bd s p
 k:s.okw
def Wp (p:List Trm):Prop:=∃ D B,0<D/\nbits D<=LB/\nbits B<=LB/\Wk (szW D B) p
theorem szW_ok {D B:Nat} (h:0<D) (h':nbits D<=LB) (h2:nbits B<=LB):(szW D B).okw :=
 ⟨h,by show nbits D<=_;rw [LB_eq] at h';unfold CAP;omega,by show nbits B<=_;rw [LB_eq] at h2;unfold CAP;omega,by show 100000<1000000;omega,by show 10000<=100000000;omega⟩
theorem szW_mul {D D' B B':Nat} (h:0<D) (h':nbits D<=LB) (k:0<D') (k':nbits D'<=LB) (hb:nbits B<=LB) (kb:nbits B'<=LB):((szW D B).mul (szW D' B')).okw:=by
 have e1:=nbits_mul D D';have e2:=nbits_mul B B';rw [LB_eq] at *;refine⟨Nat.mul_pos h k,?_,?_,by show 100000+100000<1000000;omega,by show 10000*10000<=100000000;omega⟩
 ·show nbits (D*D')<=_;unfold CAP;omega
 ·show nbits (B*B')<=_;unfold CAP;omega
theorem wpB_wp {l:List Trm} (h:wpB l=true):Wp l:=by
 rw [wpB,Bool.and_eq_true] at h;obtain⟨h1,h2,h3⟩:=bdB_bd h.2;exact⟨lcmD l,numB l,lcmD_pos l,h2,h3,vldB_vld.1 h.1,h1,szW_ok (lcmD_pos l) h2 h3⟩
theorem bdB_okl {l:List Trm} (h:bdB l=true):Okl l:=by
 obtain⟨h1,h2,h3⟩:=bdB_bd h;exact h1.oklw (szW_ok (lcmD_pos l) h2 h3)
theorem nbits1:nbits 1<=LB:=by rw [LB_eq];decide
theorem Wp.nil:Wp []:=⟨1,1,by omega,nbits1,nbits1,Vld.nil,Bd.nil _,szW_ok (by omega) nbits1 nbits1⟩
theorem Wp.val {p:List Trm} (h:Wp p):Vld p:=by obtain⟨_,_,_,_,_,h⟩:=h;exact h.v
theorem Wp.rk {p:List Trm} (h:Wp p):∀ t∈p,Rk t.2:=by obtain⟨_,_,_,_,_,h⟩:=h;exact h.b.rkw h.k
theorem Wp.ir {p:List Trm} (h:Wp p):∀ t∈p,InR t.1/\Rk t.2:=by obtain⟨_,_,_,_,_,h⟩:=h;exact fun t ht=>⟨h.b.inRw h.k t ht,h.b.rkw h.k t ht⟩
theorem Wp.len {p:List Trm} (h:Wp p):p.length<=10000:=by obtain⟨_,_,_,_,_,h⟩:=h;exact h.b.n
theorem Wp.deg {p:List Trm} (h:Wp p) (v:Nat):-1<=degP p v/\degP p v<=100000:=by
 obtain⟨_,_,_,_,_,h⟩:=h;refine⟨degP_ge p v,?_⟩;rcases (foldl_max (fun t=>t.1.get v) p (-1)).2.2 with h1|⟨t,ht,h1⟩
 ·show p.foldl _ _<=_;rw [h1];omega
 ·show p.foldl _ _<=_;rw [<- h1];have:=h.b.e t ht;simp only [szW] at this;rcases v with _|_|_|v <;> simp only [Ex.get] <;> omega
theorem Wp.exps {p:List Trm} (h:Wp p) {t:Trm} (ht:t∈p) (v:Nat):0<=t.1.get v/\t.1.get v<=100000 :=
 ⟨Ex.nat_get (h.val.nat t ht) v,Int.le_trans (degP_le ht v) (h.deg v).2⟩
theorem Wp.mulOk {p q:List Trm} (h:Wp p) (h':Wp q):MulOk p q:=by
 have i1:=h.ir;have i2:=h'.ir;have l1:=h.len;have l2:=h'.len;obtain⟨D,B,d1,d2,d3,h⟩:=h;obtain⟨D',B',e1,e2,e3,h'⟩:=h';exact⟨i1,i2,(h.b.prods h'.b).oklw (szW_mul d1 d2 e1 e2 d3 e3),by omega,by omega⟩
theorem Wp.prod {p q:List Trm} (h:Wp p) (h':Wp q):(∀ t∈mulP p q,Rk t.2)/\(mulP p q).length<=100000000:=by
 obtain⟨D,B,d1,d2,d3,h⟩:=h;obtain⟨D',B',e1,e2,e3,h'⟩:=h';have hb:=(h.b.prods h'.b).canon;have hk:=szW_mul d1 d2 e1 e2 d3 e3;exact⟨hb.rkw hk,Nat.le_trans hb.n hk.2.2.2.2⟩
theorem Wp.coeff {p:List Trm} (h:Wp p) (v:Nat) (n:Int):Wp (coeffP p v n):=by
 obtain⟨D,B,d1,d2,d3,h⟩:=h;exact⟨D,B,d1,d2,d3,h.v.coeff v n,bd_coeff h.b v n,h.k⟩
theorem Wp.coeffs {p c:List Trm} (h:Wp p) {v:Nat} (hc:c∈coeffsP p v):Wp c:=by
 obtain⟨n,rfl⟩:=mem_coeffsP hc;exact h.coeff v n
def g1 (p:List Trm):Option (List Trm):=if wpB p then some p else none
theorem g1_some {p q:List Trm} (h:g1 p=some q):q=p/\Wp p:=by
 unfold g1 at h;split at h
 ·cases h;exact⟨rfl,wpB_wp (by assumption)⟩
 ·cases h
def divO (b:List Trm) (g:Trm):Nat->List Trm->List Trm->Option (Option (List Trm))
|0,_,_=>none
|_+1,[],out=>some (some out)
|n+1,m::a,out =>
  if wpB (m::a) then
   if (m.1.sub g.1).nat then
    if wpB [quoT m g] then divO b g n (subP (m::a) (mulP b [quoT m g])) (out++[quoT m g]) else none
   else some none
  else none
theorem ir_sub' {m g:Trm} (hm:∀ v,0<=m.1.get v/\m.1.get v<=100000) (hg:∀ v,0<=g.1.get v/\g.1.get v<=100000):InR (m.1.sub g.1):=by
 have a0:=hm 0;have a1:=hm 1;have a2:=hm 2;have a3:=hm 3;have b0:=hg 0;have b1:=hg 1;have b2:=hg 2;have b3:=hg 3;simp only [Ex.get] at *;exact InR.of (K:=100000) (by omega) (by simp only [Ex.sub];omega)
theorem divO_run {b ts:List Trm} {g:Trm} (hb:Wp b) (hg:b=g::ts):∀ {n:Nat} {a out:List Trm} {r:Option (List Trm)},divO b g n a out=some r->out.length+n<=100000000->∃ k,DivR b g k a out r:=by
 have hgm:g∈b:=by rw [hg];simp
 intro n
 induction n with
|zero=>intro a out r h;simp [divO] at h
|succ n ih =>
  intro a out r h hl
  cases a with
 |nil=>simp only [divO,Option.some.injEq] at h;subst h;exact⟨0,.done⟩
 |cons m a =>
   rw [divO] at h;split at h
   next h1 =>
    have hW:=wpB_wp h1;have hok:DivOk b g m a:=⟨ir_sub' (fun v=>hW.exps (by simp) v) (fun v=>hb.exps hgm v),hW.rk m (by simp),hb.rk g hgm,(hb.val.2 g hgm).1⟩;split at h
    next h2 =>
     split at h
     next h3 =>
      have hq:=wpB_wp h3;obtain⟨k,hk⟩:=ih h (by simp;omega);exact⟨k+1,.step h2 hok ⟨hq.rk (quoT m g) (by simp),⟨hb.ir,by have:=hb.len;omega⟩,(hb.mulOk hq).ko,⟨hW.rk,by have:=hW.len;omega,hW.val⟩,hb.prod hq⟩ (by omega) hk⟩
     next=>cases h
    next h2 =>
     simp only [Option.some.injEq] at h;subst h;exact⟨0,.fail (by simpa using h2) hok⟩
   next=>cases h
def fuel:Nat:=10000000
def divW (a b:List Trm):Option (Option (List Trm)):=match b with
|[]=>some none
|g::_=>divO b g fuel a []
def overO (a b:List Trm):Option (List Trm):=match divW a b with
|some r=>g1 (r.getD [])
|none=>none
def psBW (D:List (List Trm)):Nat->List (List Trm)->Bool
|0,_=>true
|f+1,R=>if D.length-1<R.length then R.all wpB && psBW D f (psStep D R) else true
theorem psBW_all {D:List (List Trm)} (hD:∀ c∈D,Wp c):∀ {f:Nat} {R:List (List Trm)},psBW D f R=true->PsAll D f R
|0,_,_=>trivial
|f+1,R,h=>fun hlt=>by
  rw [psBW,if_pos hlt,Bool.and_eq_true,List.all_eq_true] at h
  have hR:∀ i,Wp (R.getD i []):=fun i=>by
   rcases Nat.lt_or_ge i R.length with hi|hi
   ·rw [List.getD_eq_getElem?_getD,List.getElem?_eq_getElem hi];exact wpB_wp (h.1 _ (List.getElem_mem hi))
   ·rw [List.getD_eq_getElem?_getD,List.getElem?_eq_none hi];exact Wp.nil
  have hD':∀ i,Wp (D.getD i []):=fun i=>by
   rcases Nat.lt_or_ge i D.length with hi|hi
   ·rw [List.getD_eq_getElem?_getD,List.getElem?_eq_getElem hi];exact hD _ (List.getElem_mem hi)
   ·rw [List.getD_eq_getElem?_getD,List.getElem?_eq_none hi];exact Wp.nil
  exact⟨fun i _=>⟨(hR _).mulOk (hD' _),fun _=>⟨(hR _).mulOk (hD' _),((hR _).prod (hD' _)).1,((hR _).prod (hD' _)).1,⟨((hR _).prod (hD' _)).2,((hR _).prod (hD' _)).2⟩,Vld.mul _ _,Vld.mul _ _⟩⟩,psBW_all hD h.2⟩
def psO (a b:List Trm) (v:Nat):Option (List Trm) :=
 let D:=coeffsP b v;let R:=coeffsP a v;let r:=psRun D R.length R
 if b≠[]/\psBW D R.length R=true/\bdB (fromL v 0 r)=true/\r.all wpB=true then g1 (fromP r v) else none
def oneP:List Trm:=[(e0,1)]
def normO (a:List Trm):Option (List Trm):=match a with
|[]=>some []
|t::_=>g1 (scaleP a (1 / t.2))
def constB (a:List Trm):Bool:=match a with
|[t]=>decide (t.1=e0)
|_=>false
def highN (l:List (List Trm)):Nat->Option Nat
|0=>none
|v+1=>if l.any (fun a=>decide (0<degP a v)) then some v else highN l v
def high (l:List (List Trm)):Option Nat:=highN l 4
def allO (G:List Trm->List Trm->Option (List Trm)):List Trm->List (List Trm)->Option (List Trm)
|acc,[]=>some acc
|acc,a::l=>match G acc a with
 |none=>none
 |some g=>if constB g then some g else allO G g l
def contO (G:List Trm->List Trm->Option (List Trm)) (a:List Trm) (v:Nat):Option (List Trm):=allO G [] (coeffsP a v)
def primO (G:List Trm->List Trm->Option (List Trm)) (a:List Trm) (v:Nat):Option (List Trm):=match a with
|[]=>some []
|t::l=>match contO G (t::l) v with
 |none=>none
 |some c=>overO (t::l) c
def imgX (m:Trm) (v at_:Nat):Nat->Nat
|0=>resid m.2.num*powm (resid m.2.den) (pr-2) % pr
|w+1=>if w=v then imgX m v at_ w else imgX m v at_ w*powm (at_+w) (m.1.get w).toNat % pr
def imgT (m:Trm) (v at_:Nat):Nat:=imgX m v at_ 4
def imgGo (v at_:Nat):List Trm->List Nat->Option (List Nat)
|[],out=>some out
|m::l,out=>if resid m.2.den=0 then none else imgGo v at_ l (out.set (m.1.get v).toNat ((out.getD (m.1.get v).toNat 0+imgT m v at_) % pr))
def imgO (a:List Trm) (v at_:Nat):Option (List Nat):=imgGo v at_ a (List.replicate (degP a v+1).toNat 0)
def fineB (o:Option (List Nat)):Bool:=match o with
|none=>false
|some l=>decide (l.getD (l.length-1) 0≠0)
def strip:List Nat->List Nat
|[]=>[]
|x::l=>match strip l with
 |[]=>if x=0 then [] else [x]
 |y::r=>x::y::r
def redTo (b rest:List Nat) (f at_:Nat):Nat->List Nat
|0=>rest
|i+1=>(redTo b rest f at_ i).set (at_+i) (((redTo b rest f at_ i).getD (at_+i) 0+(pr-b.getD i 0)*f) % pr)
def restO (b:List Nat) (inv:Nat):Nat->List Nat->Option (List Nat)
|0,_=>none
|n+1,r=>if b.length<=r.length then restO b inv n (strip (redTo b r (r.getD (r.length-1) 0*inv % pr) (r.length-b.length) b.length)) else some r
def shareGo:Nat->List Nat->List Nat->Option Nat
|0,_,_=>none
|n+1,a,b=>if b=[] then some a.length else match restO b (powm (b.getD (b.length-1) 0) (pr-2)) fuel a with
 |none=>none
 |some r=>shareGo n b r
def shareO (a b:List Nat):Option Nat:=if a.length<b.length then shareGo fuel b a else shareGo fuel a b
def boundGo (a b:List Trm) (v:Nat):List Nat->Option Int
|[]=>some (min (degP a v) (degP b v))
|k::l=>match imgO a v (17+100*k),imgO b v (17+100*k) with
 |some x,some y=>if fineB (some x) && fineB (some y) then (shareO x y).map (fun n=>(n:Int)-1) else boundGo a b v l
 |_,_=>boundGo a b v l
def boundO (a b:List Trm) (v:Nat):Option Int:=boundGo a b v [0,1,2]
def seqGo (G:List Trm->List Trm->Option (List Trm)) (v:Nat):Nat->List Trm->List Trm->Option (List Trm)
|0,_,_=>none
|n+1,a,b=>match psO a b v with
 |none=>none
 |some []=>some b
 |some (t::r)=>if degP (t::r) v=0 then some oneP else match primO G (t::r) v with
  |none=>none
  |some p=>match normO p with
   |none=>none
   |some q=>seqGo G v n b q
def seqS (G:List Trm->List Trm->Option (List Trm)) (a b:List Trm) (v:Nat):Option (List Trm):=match boundO a b v with
|none=>none
|some m=>if m=0 then some oneP else match divW a b with
 |none=>none
 |some r=>if r.isSome && decide (m=degP b v) then some b else seqGo G v fuel a b
def seqO (G:List Trm->List Trm->Option (List Trm)) (a b:List Trm) (v:Nat):Option (List Trm):=if degP a v<degP b v then seqS G b a v else seqS G a b v
def bind2 {α β:Type} (a:Option α) (f:α->Option β):Option β:=match a with
|none=>none
|some x=>f x
def gcdS (G:List Trm->List Trm->Option (List Trm)) (a b:List Trm):Option (List Trm) :=
 if a=[] then normO b else if b=[] then normO a else if constB a=true\/constB b=true then some oneP else
 bind2 (high [a,b]) fun v =>
  if degP b v=0 then bind2 (contO G a v) fun c=>G c b
  else if degP a v=0 then bind2 (contO G b v) fun c=>G a c
  else bind2 (contO G a v) fun x=>bind2 (contO G b v) fun y=>bind2 (G x y) fun g=>bind2 (overO a x) fun p=>bind2 (overO b y) fun q=>bind2 (seqO G p q v) fun s=>bind2 (g1 (mulP g s)) normO
def gcdO:Nat->List Trm->List Trm->Option (List Trm)
|0,_,_=>none
|n+1,a,b=>gcdS (gcdO n) a b
def sqGo (G:List Trm->List Trm->Option (List Trm)) (v:Nat):Nat->Nat->List Trm->List Trm->List (List Trm × Nat)->Option (List (List Trm × Nat))
|0,_,_,_,_=>none
|f+1,n,w,y,out=>if 0<degP w v then
   bind2 (g1 (partialP w v)) fun d=>bind2 (g1 (subP y d)) fun z=>bind2 (G w z) fun g=>bind2 (overO w g) fun w'=>bind2 (overO z g) fun y' =>
    sqGo G v f (n+1) w' y' (if 0<degP g v then out++[(g,n)] else out)
  else some out
def sqO (G:List Trm->List Trm->Option (List Trm)) (a:List Trm) (v:Nat):Option (List (List Trm × Nat)) :=
 bind2 (primO G a v) fun p=>if degP p v<1 then some [] else
  bind2 (g1 (partialP p v)) fun d=>bind2 (G p d) fun g=>bind2 (overO p g) fun w=>bind2 (overO d g) fun y=>sqGo G v fuel 1 w y []
end Q
end
section
namespace Q
open Go Go.RowKit Go.Proofs.YtopclbeomcggiaaGreat
def elN:El Nat where
 T:=u64T
 sz:=1
 pos:=by decide
 E _ cs x:=cs=[.int .u64 (x:Int)]/\x<2147483647
 len:=by rintro w c t ⟨rfl,-⟩;rfl
 one:=by
  rintro w c t ⟨rfl,-⟩ v hv;simp only [List.mem_cons,List.not_mem_nil,or_false] at hv;subst hv;rfl
 on:=fun h _=>h
 ok _:=True
 lr:=fun h _ _=>h
 self:=trivial
def nc (l:List Nat):List Value:=l.map (fun x:Nat=>Value.int .u64 (x:Int))
def Lim (l:List Nat):Prop:=∀ x∈l,x<2147483647
theorem nc_len (l:List Nat):(nc l).length=l.length:=by simp [nc]
theorem Lim.nil:Lim []:=fun _ h=>by cases h
theorem Lim.getD {l:List Nat} (h:Lim l) (i:Nat):l.getD i 0<2147483647:=by
 rcases Nat.lt_or_ge i l.length with hi|hi
 ·rw [List.getD_eq_getElem?_getD,List.getElem?_eq_getElem hi];exact h _ (List.getElem_mem hi)
 ·rw [List.getD_eq_getElem?_getD,List.getElem?_eq_none hi];decide
theorem Lim.set {l:List Nat} (h:Lim l) (i:Nat) {x:Nat} (hx:x<2147483647):Lim (l.set i x):=fun y hy=>by
 rcases List.mem_or_eq_of_mem_set hy with hy|rfl
 ·exact h y hy
 ·exact hx
theorem Lim.sub {l r:List Nat} (h:Lim l) (hr:∀ x∈r,x∈l):Lim r:=fun x hx=>h x (hr x hx)
theorem elems_n {w:World}:∀ {l:List Nat} {xs:List Value},Elems elN.E w xs l↔xs=nc l/\Lim l
|[],xs=>by
  constructor
  ·intro h;exact⟨h,Lim.nil⟩
  ·rintro⟨h,-⟩;exact h
|x::l,xs=>by
  constructor
  ·rintro⟨c,r,rfl,⟨rfl,h1⟩,h⟩;obtain⟨rfl,h3⟩:=elems_n.1 h
   exact⟨rfl,fun y hy=>by
    rcases List.mem_cons.1 hy with rfl|hy
    ·exact h1
    ·exact h3 y hy⟩
  ·rintro⟨rfl,h⟩;exact⟨_,_,rfl,⟨rfl,h x (by simp)⟩,elems_n.2 ⟨rfl,fun y hy=>h y (by simp [hy])⟩⟩
theorem isSl_n {w:World} {v:Value} {l:List Nat}:IsSl elN w v l↔∃ ao cap,v=.slice ao l.length cap/\l.length<=cap/\At u64T w ao (nc l)/\Lim l:=by
 constructor
 ·rintro⟨ao,cap,xs,rfl,h1,h2,h3⟩;obtain⟨rfl,hl⟩:=elems_n.1 h3;exact⟨ao,cap,rfl,h1,h2,hl⟩
 ·rintro⟨ao,cap,rfl,h1,h2,h3⟩;exact⟨ao,cap,nc l,rfl,h1,h2,elems_n.2 ⟨rfl,h3⟩⟩
theorem nc_get (l:List Nat) (j:Nat) (hj:j<l.length):(nc l)[j]?=some (Value.int .u64 ((l.getD j 0:Nat):Int)):=by
 rw [nc,List.getElem?_map,List.getElem?_eq_getElem hj,List.getD_eq_getElem?_getD,List.getElem?_eq_getElem hj];rfl
theorem _root_.Go.RowKit.Blk.nsl {w:World} {g:Nat} {l:List Nat} (h:Blk w g u64T (nc l)) (hl:Lim l):IsSl elN w (.slice (some ⟨g,0,none⟩) l.length l.length) l :=
 isSl_n.2 ⟨_,_,rfl,Nat.le_refl _,h.at,hl⟩
theorem Blk.ncell {w:World} {g:Nat} {T:TypeId} {l:List Nat} (h:Blk w g T (nc l)) (j:Nat) (hj:j<l.length):w.cell? ⟨g,j,none⟩=some (.int .u64 ((l.getD j 0:Nat):Int)):=by
 rw [h.cell,nc_get _ _ hj]
theorem Cells.ncell {T:TypeId} {w:World} {b off:Nat} {l:List Nat} (h:Cells T w b off (nc l)) (j:Nat) (hj:j<l.length):w.cell? ⟨b,off+j,none⟩=some (.int .u64 ((l.getD j 0:Nat):Int)):=by
 rw [h.cell j (by rw [nc_len];exact hj),nc_get _ _ hj]
theorem Blk.nset {w:World} {g:Nat} {T:TypeId} {l:List Nat} (h:Blk w g T (nc l)) (j x:Nat):Blk (w.setCell ⟨g,j,none⟩ (.int .u64 (x:Int))) g T (nc (l.set j x)):=by
 have:=h.set j (.int .u64 (x:Int));rwa [show nc (l.set j x)=(nc l).set j (.int .u64 (x:Int)) by rw [nc,List.map_set];rfl]
theorem ncells_make (n:Nat):(List.replicate n (Value.int IntKind.u64 0).cells[0]!)=nc (List.replicate n 0):=by simp [nc,Value.cells]
theorem mod_pr (x:Nat):x % pr<2147483647:=Nat.mod_lt _ (by decide)
theorem lim_zero (n:Nat):Lim (List.replicate n 0):=fun x hx=>by rw [List.eq_of_mem_replicate hx];decide
end Q
namespace Go.Proofs.YtopclbeomcggiaaGreat
open Go.RowKit Q
theorem infoU64:(Tryz.prog.info? 97).map (fun i=>(i.zero,i.size,i.bytes))=some (some (.int .u64 0),1,8):=by kernel_rfl
end Go.Proofs.YtopclbeomcggiaaGreat
end
section
namespace Q
open Go Go.RowKit Go.Proofs.YtopclbeomcggiaaGreat
def Rst (base:Nat) (w:World) (v:Value) (l:List Nat):Prop :=
 ∃ ao cap,v=.slice ao l.length cap/\l.length<=cap/\Lim l/\(0<l.length->∃ g cs,ao=some ⟨g,0,none⟩/\base<=g/\Blk w g u64T cs/\cs.take l.length=nc l)
theorem Rst.of {base:Nat} {w:World} {v:Value} {l:List Nat} (h:OwnSl elN base w v l):Rst base w v l:=by
 obtain⟨xs,⟨hxl,hrow⟩,hex⟩:=h;obtain⟨rfl,hl⟩:=elems_n.1 hex;rcases hrow with ⟨rfl,h0⟩|⟨g,cap,cur,rfl,hbg,hg,hnc,hcm,hcs,htk⟩
 ·obtain rfl:l=[]:=List.eq_nil_of_length_eq_zero h0;exact⟨none,0,rfl,Nat.le_refl _,hl,fun h=>by simp at h⟩
 ·refine⟨_,cap,rfl,hnc,hl,fun _=>⟨g,cur.toList,rfl,hbg,by unfold Blk;rw [Array.toArray_toList];exact hg,?_⟩⟩;have:cur.toList.take (l.length*1)=nc l:=htk;rwa [Nat.mul_one] at this
theorem Rst.on {base:Nat} {w w':World} {v:Value} {l:List Nat} (h:Rst base w v l) (hb:Below w.heap.size w w'):Rst base w' v l:=by
 obtain⟨ao,cap,h1,h2,h3,h4⟩:=h;refine⟨ao,cap,h1,h2,h3,fun hp=>?_⟩;obtain⟨g,cs,e,hg,hB,ht⟩:=h4 hp;exact⟨g,cs,e,hg,hB.on hb,ht⟩
theorem Rst.isSl {base:Nat} {w:World} {v:Value} {l:List Nat} (h:Rst base w v l):IsSl elN w v l:=by
 obtain⟨ao,cap,h1,h2,h3,h4⟩:=h;refine isSl_n.2 ⟨ao,cap,h1,h2,fun hp=>?_,h3⟩;obtain⟨g,cs,e,hg,hB,ht⟩:=h4 (by rw [nc_len] at hp;exact hp);refine⟨g,0,e,?_⟩;rw [<- ht];exact hB.cells.take _
theorem Rst.open {base:Nat} {w:World} {v:Value} {l:List Nat} (h:Rst base w v l) (hp:0<l.length) :
  ∃ g cap,v=.slice (some ⟨g,0,none⟩) l.length cap/\l.length<=cap/\base<=g/\g<w.heap.size/\(∀ j,j<l.length->w.cell? ⟨g,j,none⟩=some (.int .u64 ((l.getD j 0:Nat):Int)))/\(∀ j,w.frozen? ⟨g,j,none⟩=false) /\
   (∀ k,k<=l.length->Rst base w (.slice (some ⟨g,0,none⟩) k cap) (l.take k)) /\
   ∀ (j x:Nat),j<l.length->x<2147483647->Rst base (w.setCell ⟨g,j,none⟩ (.int .u64 (x:Int))) v (l.set j x):=by
 obtain⟨ao,cap,h1,h2,h3,h4⟩:=h;obtain⟨g,cs,rfl,hg,hB,ht⟩:=h4 hp
 have hcs:∀ j,j<l.length->cs[j]?=some (.int .u64 ((l.getD j 0:Nat):Int)):=fun j hj=>by
  rw [<- nc_get l j hj,<- ht,List.getElem?_take,if_pos hj]
 refine⟨g,cap,h1,h2,hg,hB.lt,fun j hj=>hB.at1 j _ (hcs j hj),hB.frozen,fun k hk=>?_,fun j x hj hx=>?_⟩
 ·refine⟨some ⟨g,0,none⟩,cap,by rw [List.length_take,Nat.min_eq_left hk],by rw [List.length_take];omega,h3.sub fun x hx=>List.mem_of_mem_take hx,fun _=>⟨g,cs,rfl,hg,hB,?_⟩⟩;rw [List.length_take,Nat.min_eq_left hk,nc,List.map_take];have h5:(cs.take l.length).take k=(nc l).take k:=by rw [ht]
  rw [List.take_take,Nat.min_eq_left hk] at h5;exact h5
 ·refine⟨some ⟨g,0,none⟩,cap,by rw [List.length_set];exact h1,by rw [List.length_set];exact h2,h3.set j hx,fun _=>⟨g,cs.set j (.int .u64 (x:Int)),rfl,hg,hB.set j _,?_⟩⟩;rw [List.length_set,List.take_set,ht,nc,nc,List.map_set]
theorem strip_zero {r:List Nat} (h:0<r.length) (h0:r.getD (r.length-1) 0=0):strip (r.take (r.length-1))=strip r:=by
 have hr:r=r.take (r.length-1)++[0]:=by
  have h1:r.drop (r.length-1)=[0]:=by
   rw [List.drop_eq_getElem_cons (by omega),List.drop_of_length_le (by omega)];rw [List.getD_eq_getElem?_getD,List.getElem?_eq_getElem (by omega)] at h0;simpa using h0
  rw [<- h1,List.take_append_drop]
 generalize r.take (r.length-1)=s at *;subst hr;clear h h0
 induction s with
|nil=>rfl
|cons x s ih=>rw [List.cons_append,strip,strip,ih]
theorem strip_last {r:List Nat} (h:0<r.length) (h0:r.getD (r.length-1) 0≠0):strip r=r:=by
 induction r with
|nil=>rfl
|cons x r ih =>
  cases r with
 |nil=>simp at h0;simp [strip,h0]
 |cons y r =>
   have:=ih (by simp) (by simpa using h0);rw [strip,this]
theorem redTo_len (b r:List Nat) (f at_:Nat):∀ i,(redTo b r f at_ i).length=r.length
|0=>rfl
|i+1=>by rw [redTo,List.length_set,redTo_len b r f at_ i]
end Q
namespace Go.Proofs.YtopclbeomcggiaaGreat
open Go.RowKit Q
theorem info_elN:∃ z bytes,(Tryz.prog.info? elN.T).map (fun i=>(i.zero,i.size,i.bytes))=some (some z,elN.sz,bytes)/\z.cells.size=elN.sz/\bytes<=100000:=⟨.int .u64 0,8,infoU64,rfl,by decide⟩
def RetRst (w:World) (l:List Nat) (e:Ending) (w':World):Prop:=∃ v,e=.returned v/\Rst w.heap.size w' v l/\Below w.heap.size w w'
theorem cloneN_any (v:Value) (l:List Nat) (w:World) (h:IsSl elN w v l) (hl:l.length<=1000000):Calls Tryz.prog 138 #[v] w (RetRst w l):=by
 obtain⟨ao,cap,xs,rfl,hcap,hat,hex⟩:=id h;have heq:=Go.Lib.run_eql_slice_nil (P:=Tryz.prog) w 94 97 ao l.length cap 0 0 Tryz.underlying94
 cases ao with
|none =>
  have hnil:l=[]:=by
   cases l with
  |nil=>rfl
  |cons t l =>
    obtain⟨b,off,e,_⟩:=hat (by rw [hex.length];simp [elN]);cases e
  subst hnil;simp only [List.length_nil,Option.isNone_none] at heq ⊢
  go_enter Tryz.func138,Tryz.ntmps138
  go_wp2;go_ret;exact⟨_,rfl,Rst.of (OwnSl.nil _ _ _),Below.refl _ _⟩
|some a =>
  have hbe:Below w.heap.size w (w.alloc (.cells #[] u64T)):=(Below.refl _ _).alloc (Nat.le_refl _) _;have hown:OwnSl elN w.heap.size (w.alloc (.cells #[] u64T)) (.slice (some ⟨w.heap.size,0,none⟩) 0 0) []:=own_lit0 elN w;have h1:=h.on hbe;clear hat
  go_enter Tryz.func138,Tryz.ntmps138
  go_wp2_with (at_builtin;refine wpList_append_sl rfl _ _ 94 rfl Tryz.underlying94 info_elN rfl rfl hown h1 (by simp;omega) hbe.size ?_;intro v5 w5 hown5 hl5 hv5)
  go_ret;exact⟨_,rfl,by simpa using Rst.of hown5,hbe.trans (hl5.belowAt hbe.size (fun k hk=>by cases hk;exact Nat.le_refl _))⟩
end Go.Proofs.YtopclbeomcggiaaGreat
end
section
namespace Q
open Go Go.Proofs.YtopclbeomcggiaaGreat
def cnt (f:Ex->Nat):List Trm->Nat
|[]=>0
|t::l=>f t.1+cnt f l
theorem canon_asum (l:List Trm):asum (canon l)<=asum l:=by
 have h:∀ (l r:List Trm),asum (l.foldl ins r)<=asum r+asum l:=fun l=>by
  induction l with
 |nil=>intro r;simp only [List.foldl_nil,asum];grind
 |cons m l ih=>intro r;have:=ih (ins r m);have:=ins_asum r m;simp only [List.foldl_cons,asum];grind
 have:=h l [];simp only [asum] at this;unfold canon;grind
theorem prods_one (l:List Trm) (q:Trm):prods l [q]=l.map fun s=>mulT s q:=by
 induction l with
|nil=>rfl
|cons s l ih=>rw [prods_cons,ih];rfl
theorem cf_scale (p:List Trm) (c:Rat) (e:Ex):cf (scaleP p c) e=cf p e*c:=by
 unfold scaleP;split
 ·rename_i h;rw [cf_nil,h];grind
 ·unfold cf;rw [Lf_map _ _ (fun e'=>c*(if e'=e then 1 else 0)) p (fun t _=>by grind),Lf_smul];grind
def rndL (a ts:List Trm) (q:Trm):List Trm:=a++ts.map fun t=>(t.1.add q.1,-(t.2*q.2))
theorem rnd_eq {m g:Trm} {a ts:List Trm} (hm:m.1.nat=true) (hz:g.2≠0):subP (m::a) (mulP (g::ts) [quoT m g])=canon (rndL a ts (quoT m g)):=by
 unfold subP addP;refine canon_congr fun e he=>?_;rw [cf_append,cf_scale,mulP,cf_canon,if_pos he,prods_one,List.map_cons,cf_cons,cf_cons,rndL,cf_append]
 have h1:(mulT g (quoT m g)).1=m.1:=by
  simp only [mulT,quoT,Ex.add,Ex.sub];refine Ex.ext' ?_ ?_ ?_ ?_ <;> simp only <;> omega
 have h2:(mulT g (quoT m g)).2=m.2:=by
  simp only [mulT,quoT];rw [Rat.mul_comm];exact Rat.div_mul_cancel hz
 have h3:cf (ts.map fun t=>(t.1.add (quoT m g).1,-(t.2*(quoT m g).2))) e=- cf (ts.map fun s=>mulT s (quoT m g)) e:=by
  induction ts with
 |nil=>simp only [List.map_nil,cf_nil];grind
 |cons t ts ih=>rw [List.map_cons,List.map_cons,cf_cons,cf_cons,ih];simp only [mulT];grind
 rw [h1,h2,h3];grind
structure Hgt (h:Ex->Nat) (g:Ex) (ts:List Trm):Prop where
 one:∀ m:Ex,m.nat=true->(m.sub g).nat=true->1<=h m
 dec:∀ m:Ex,m.nat=true->(m.sub g).nat=true->∀ t∈ts,h (t.1.add (m.sub g))+1<=h m
def hf (h:Ex->Nat) (e:Ex):Nat:=2 ^ (h e+1)-1
structure Jn (h:Ex->Nat) (H G:Nat) (e:Ex) (c:Rat):Prop where
 b:h e<=H
 x:e.1<=2+2*((H-h e:Nat):Int)/\e.2.1<=2+2*((H-h e:Nat):Int)/\e.2.2.1<=2+2*((H-h e:Nat):Int)/\e.2.2.2<=2+2*((H-h e:Nat):Int)
 d:Dv (G ^ (H-h e)) c
end Q
end
