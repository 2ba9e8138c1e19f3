/- mpoly.Subst: the range over slices.Backward. mpoly.Subst. mgcd.residue: an integer modulo the prime. -/
import Derived.Test.YtopclbeomcggiaaGreatE02
import Derived.Test.YtopclbeomcggiaaGreatE10
import Derived.Test.YtopclbeomcggiaaGreatE26
import Derived.Test.YtopclbeomcggiaaGreatE27
import Derived.LoopIn
import Derived.LoopNIn
import Derived.OwnWalkIn
import Derived.RangeFuncBound
import Derived.RangeFuncBox
import Derived.RangeFuncCalls
import Derived.RangeFuncLeaves
import Derived.RangeFuncNested
import Derived.Shelf.Abstract
import Derived.Shelf.RegionOpen
import Derived.TacticsInMore
set_option linter.unusedVariables false
set_option linter.unusedSimpArgs false
set_option maxHeartbeats 16000000
set_option maxRecDepth 100000
section
namespace Q
open Go Go.RowKit Go.Proofs.YtopclbeomcggiaaGreat
def Kept (w w':World) (row:Option Nat):Prop:=w.grownBy w' row/\∀ r,row=some r->∃ o:Obj,w.heap[r]?=some o/\o.isCells=false
end Q
namespace Go.Proofs.YtopclbeomcggiaaGreat
open Go.RowKit Go.Shelf Q
attribute [local go_sem] Oper.semAt_some
def Kb (Bs g:Nat) (W W':World):Prop:=W'.heap[Bs]?=W.heap[Bs]?/\W'.heap[g]?=W.heap[g]?
theorem Kb.refl (Bs g:Nat) (W:World):Kb Bs g W W:=⟨rfl,rfl⟩
theorem Kb.trans {Bs g:Nat} {A B C:World} (h:Kb Bs g A B) (h':Kb Bs g B C):Kb Bs g A C:=⟨h'.1.trans h.1,h'.2.trans h.2⟩
theorem cell_heap {W W':World} {a:Addr} (h:W'.heap[a.block]?=W.heap[a.block]?):W'.cell? a=W.cell? a:=by unfold World.cell?;rw [h]
theorem Kb.putObj {Bs g:Nat} {w:World} (hB:Bs<w.heap.size) (hg:g<w.heap.size) (W:World) (l:Nat) (o o':Obj) (hl:w.heap.size<=l) (_:W.heap[l]?=some o) (_:o.isCells=false) (_:o.isWalk=false):Kb Bs g W (W.putObj l o') :=
 ⟨World.putObj_heap_other (by omega),World.putObj_heap_other (by omega)⟩
def upto {α:Type} (f:Nat->α) (k:Nat):List α:=(List.range k).map f
theorem upto_succ {α:Type} (f:Nat->α) (k:Nat):upto f (k+1)=upto f k++[f k]:=by simp [upto,List.range_succ]
theorem upto_length {α:Type} (f:Nat->α) (k:Nat):(upto f k).length=k:=by simp [upto]
structure HornOk (sb sc:Sz) (sz:Nat->Sz) (N:Nat):Prop where
 b:sb.ok
 c:sc.ok
 z:∀ k,k<=N->(sz k).ok
 m:∀ k,k<N->((sz k).mul sb).ok
 s:∀ k,k<N->(((sz k).mul sb).add sc).le (sz (k+1))
def hornS (b:List Trm) (out c:List Trm):List Trm:=addP (mulP out b) c
end Go.Proofs.YtopclbeomcggiaaGreat
end
section
namespace Go.Proofs.YtopclbeomcggiaaGreat
open Go.RowKit Go.Shelf Q
end Go.Proofs.YtopclbeomcggiaaGreat
namespace Q
open Go Go.RowKit Q Go.Proofs.YtopclbeomcggiaaGreat
theorem Kept.blk {w w':World} {row:Option Nat} (h:Kept w w' row) {g:Nat} {T:TypeId} {cs:List Value} (hc:Blk w g T cs):Blk w' g T cs:=by
 have hl:=hc.lt;unfold Blk at *;rw [h.1.block g hl (fun e=>?_)]
 ·exact hc
 ·obtain⟨o,h3,h4⟩:=h.2 g e.symm;rw [hc] at h3;cases h3;cases h4
end Q
namespace Go.Proofs.YtopclbeomcggiaaGreat
open Go.RowKit Go.Shelf Q
attribute [local go_sem] Oper.semAt_some
end Go.Proofs.YtopclbeomcggiaaGreat
end
section
namespace Go.Proofs.YtopclbeomcggiaaGreat
open Go.RowKit Go.Shelf Q
attribute [local go_sem] Oper.semAt_some
abbrev u64T:TypeId:=97
theorem backwardU_any (F:Fence) (n:Nat) (h79:F.fn 156) (hro:F.round=none) (ao:Option Addr) (N cap:Nat) (w:World) :
  CallsIn F n Tryz.prog 156 #[.slice ao N cap] w (fun e W'=>e=.returned (.func (.func 170) #[] #[.pointer (some ⟨w.heap.size,0,none⟩)])/\W'=w.alloc (.cells #[.slice ao N cap] 37)):=by
 refine callsIn_of_wp Tryz.func156 rfl h79 ?_ hro;simp only [Tryz.ntmps156,List.size_toArray,List.length_cons,List.length_nil,Nat.reduceAdd,Nat.reduceSub,Array.replicate_succ,Array.replicate_zero,List.push_toArray,List.append_toArray,List.nil_append,List.cons_append]
 gi_wp2
 refine bodyPost_ret (results_tmp rfl _ _ _) rfl ?_;exact⟨rfl,rfl⟩
theorem backwardU1_in {α:Type} (ix:α->Int) (vl:α->Value) (XS:Nat->α) (F:Fence) (n:Nat) (h106:F.fn 170) (hro:F.round=none) (hn:1<=n) (l Bs g o N cap:Nat) (ao:Option Addr) (hao:∀ k,k<N->ao=some ⟨g,o,none⟩) (hN:N<=34359738368)
  (hX1:∀ k,k<N->ix (XS k)=(N:Int)-1-k) (J Jx:List α->World->Prop)
  (hY:∀ pre x W,J pre W->pre.length<N->YieldAt F (n-1) Tryz.prog l #[.int .i64 (ix x),vl x] W fun e W' =>
   (e=.returned (.bool true)/\J (pre++[x]) W'/\Kb Bs g W W')\/(e=.returned (.bool false)/\Jx (pre++[x]) W'))
  (W:World) (hBs:W.cell? ⟨Bs,0,none⟩=some (.slice ao N cap)) (hc:∀ k,k<N->W.cell? ⟨g,o+(N-1-k),none⟩=some (vl (XS k))) (h0:J [] W) :
  CallsIn F n Tryz.prog 170 #[.func (.yield l) #[] #[],.pointer (some ⟨Bs,0,none⟩)] W fun e W'=>(∃ v,e=.returned v) /\
   ((∃ ys,ys=upto XS N/\J ys W')\/(∃ pre,(∃ k,k<=N/\pre=upto XS k)/\Jx pre W')):=by
 refine callsIn_of_wp Tryz.func170 rfl h106 ?_ hro;simp only [Tryz.ntmps170,List.size_toArray,List.length_cons,List.length_nil,Nat.reduceAdd,Nat.reduceSub,Array.replicate_succ,Array.replicate_zero,List.push_toArray,List.append_toArray,List.nil_append,List.cons_append]
 gi_wp2
 gi_loopw [3] (fun i wr=>∃ k:Nat,k<=N/\i=.int .i64 ((N:Int)-1-k)/\J (upto XS k) wr/\Kb Bs g W wr) (fun i _=>(intOf i+1).toNat)
 case atStart=>exact⟨0,Nat.zero_le _,by simp,h0,Kb.refl _ _ _⟩
 case round =>
  obtain⟨k,hk,rfl,hJs,hnx⟩:=hrel;have hbs:=(cell_heap (a:=⟨Bs,0,none⟩) hnx.1).trans hBs;by_cases hlt:k<N
  ·have hcx:=(cell_heap (a:=⟨g,o+(N - 1 - k),none⟩) hnx.2).trans (hc k hlt);obtain⟨fn,tmps,assign,body,hy,hR⟩:=hY _ (XS k) wr hJs (by rw [upto_length];exact hlt);rw [hX1 k hlt] at hy;have hao2:=hao k hlt;rw [hao2] at hbs;obtain⟨m,hm⟩:∃ m:Nat,m=N - 1 - k:=⟨_,rfl⟩;have hmi:(N:Int) - 1 - k=(m:Int):=by omega
   rw [<- hm] at hcx;rw [hmi] at hy ⊢;have hmN:(m:Int)<N:=by omega
   have hmN':m<N:=by omega
   have hm0:(0:Int)<=m:=by omega
   have hmk:(m:Int)-1=(N:Int)-1-(k+1:Nat):=by omega
   have hmk:=zH hmk;clear hm hmi hao2
   gi_wp2
   refine hR.mono ?_;rintro e W3 (⟨rfl,hJ3,hk3⟩|⟨rfl,hJx3⟩)
   ·gi_wp2
    go_roundw
    case rel=>exact⟨k+1,by omega,by have h:=hmk.out;simp only [Value.int.injEq,true_and];omega,by rw [upto_succ];exact hJ3,hnx.trans hk3⟩
    case measure=>have h:=hmk.out;simp [intOf];omega
   ·gi_wp2
    refine bodyPost_ret (results_none rfl _ _ _) rfl ?_;exact⟨⟨_,rfl⟩,.inr ⟨_,⟨k+1,by omega,(upto_succ _ _).symm⟩,hJx3⟩⟩
  ·obtain rfl:k=N:=by omega
   gi_wp2
   go_end0
   exact⟨⟨_,rfl⟩,.inl ⟨_,rfl,hJs⟩⟩
theorem backwardU_stops {α:Type} (ix:α->Int) (vl:α->Value) (XS:Nat->α) (F:Fence) (n:Nat) (h106:F.fn 170) (hro:F.round=none) (hn:1<=n) (Bs g o N cap:Nat) (ao:Option Addr) (hao:∀ k,k<N->ao=some ⟨g,o,none⟩) (hN:N<=34359738368)
  (hX1:∀ k,k<N->ix (XS k)=(N:Int)-1-k) (w:World) (hBl:Bs<w.heap.size) (hgl:g<w.heap.size) (hBs:w.cell? ⟨Bs,0,none⟩=some (.slice ao N cap)) (hc:∀ k,k<N->w.cell? ⟨g,o+(N-1-k),none⟩=some (vl (XS k))) :
  SeqStopsK F n Tryz.prog 170 #[.pointer (some ⟨Bs,0,none⟩)] (fun x:α=>#[.int .i64 (ix x),vl x]) (Kb Bs g) (fun ys=>ys=upto XS N) (fun pre=>∃ k,k<=N/\pre=upto XS k) N w:=fun l J Jx W hW _ _ hY h0 =>
 backwardU1_in ix vl XS F n h106 hro hn l Bs g o N cap ao hao hN hX1 J Jx hY W ((hW.cell (p:=⟨Bs,0,none⟩) hBl).trans hBs) (fun k hk=>(hW.cell (p:=⟨g,o+(N-1-k),none⟩) hgl).trans (hc k hk)) h0
def resS (m d:Int):Int:=(m*4294967296+d) % 2147483647
theorem resS_fold:∀ l:List Int,l.reverse.foldl resS 0=lval l % 2147483647
|[]=>rfl
|d::l=>by
  rw [List.reverse_cons,List.foldl_append,resS_fold l];show (lval l % 2147483647*4294967296+d) % 2147483647=(d+B32*lval l) % 2147483647;rw [B32_eq];omega
theorem resS_bd {m d:Int}:0<=resS m d/\resS m d<2147483647:=⟨Int.emod_nonneg _ (by decide),Int.emod_lt_of_pos _ (by decide)⟩
theorem resF_bd (l:List Int):0<=l.foldl resS 0/\l.foldl resS 0<2147483647:=by
 by_cases h:l=[]
 ·subst h;simp
 ·rw [<- List.dropLast_concat_getLast h,List.foldl_append];exact resS_bd
end Go.Proofs.YtopclbeomcggiaaGreat
namespace Q
def resid (z:Int):Nat:=if z<0/\0<z.natAbs % 2147483647 then 2147483647-z.natAbs % 2147483647 else z.natAbs % 2147483647
theorem resid_lt (z:Int):resid z<2147483647:=by
 unfold resid;split <;> omega
end Q
namespace Go.Proofs.YtopclbeomcggiaaGreat
open Go.RowKit Go.Shelf Q
attribute [local go_sem] Oper.semAt_some
theorem resid_false {z M:Int} (h0:0<=z) (hM:M=z % 2147483647):M=(resid z:Int):=by
 unfold resid;rw [if_neg (by omega)];omega
theorem resid_true {z l M:Int} (h0:0<l) (hz:z=-l) (hM:M=l % 2147483647):(0<M->2147483647-M=(resid z:Int))/\(¬ 0<M->M=(resid z:Int)):=by
 unfold resid;split <;> omega
theorem residue_any (n:Bool) (m:Value) (z:Int) (w:World) (h:IsInt w n m z) (c:nbits z.natAbs<=CAP):Calls Tryz.prog 136 #[.agg #[.bool n,m]] w (Ret w (.int .u64 (resid z))):=by
 obtain⟨l,ao,cap,rfl,u,b,nn,e⟩:=isInt_parts h c
 have hneg:n=true->0<lval l:=fun hn=>by
  subst hn;have:=isInt_neg_lt h;rw [e] at this;simp only [sgn,if_true] at this;omega
 obtain⟨_,_,e',_,L,mm⟩:=u;cases e';have hb0:Below w.heap.size w ((w.alloc (.cells #[.bool n,.slice ao l.length cap] 39)).alloc (.cells #[.int .u64 0] 97)):=below2 _ _ _;have hl0:=lval_nonneg L;obtain⟨dg,hdg⟩:∃ dg:Nat->Int,dg=fun i=>l.getD i 0:=⟨_,rfl⟩;have hdv:∀ i,l.getD i 0=dg i:=fun i=>by rw [hdg]
 have hmod:(upto (fun k=>l.length-1-k) l.length).map dg=l.reverse:=by
  rw [hdg];refine List.ext_getElem (by simp [upto]) fun i h1 h2=>?_;simp [upto] at h1;simp [upto,List.getElem_reverse];rw [List.getElem?_eq_getElem (by omega)];rfl
 have hZ1:n=false->z=lval l:=fun hn=>by rw [e,hn];rfl
 have hZ2:n=true->z=- lval l:=fun hn=>by rw [e,hn];rfl
 replace hmod:=zH hmod;replace hdv:=zH hdv;replace hZ1:=zH hZ1;replace hZ2:=zH hZ2;replace hneg:=zH hneg;clear h c nn e hdg;refine (callsIn_wide (n:=6)).1 ?_;refine callsIn_of_wp_marks Tryz.func136 rfl trivial ?_ rfl;simp only [Tryz.ntmps136,List.size_toArray,List.length_cons,List.length_nil,Nat.reduceAdd,Nat.reduceSub,Array.replicate_succ,Array.replicate_zero,List.push_toArray,List.append_toArray,List.nil_append,List.cons_append];have hbx1:((w.alloc (.cells #[.bool n,.slice ao l.length cap] 39)).alloc (.cells #[.int .u64 0] 97)).cell? ⟨w.heap.size,1,none⟩=some (.slice ao l.length cap):=((Blk.new w 39 [.bool n,.slice ao l.length cap]).alloc _).at1 1 _ rfl
 gi_wp2_with (refine⟨trivial,?_⟩;gi_at_call 156;refine (backwardU_any Fence.wide _ trivial rfl _ _ _ _).mono ?_;rintro e w2 ⟨rfl,rfl⟩)
 obtain⟨W0,hW0⟩:∃ W0,W0=(w.alloc (.cells #[.bool n,.slice ao l.length cap] 39)).alloc (.cells #[.int .u64 0] 97):=⟨_,rfl⟩;have hW0s:W0.heap.size=w.heap.size+1+1:=by rw [hW0];simp
 have hbx:W0.cell? ⟨w.heap.size,0,none⟩=some (.bool n):=by rw [hW0];exact ((Blk.new w 39 [.bool n,.slice ao l.length cap]).alloc _).at1 0 _ rfl
 have hox:Blk W0 (w.heap.size+1) 97 [.int .u64 0]:=by rw [hW0];have:=Blk.new (w.alloc (.cells #[.bool n,.slice ao l.length cap] 39)) 97 [.int .u64 0];simpa using this
 change Below w.heap.size w ((w.alloc (.cells #[.bool n,.slice ao l.length cap] 39)).alloc (.cells #[.int .u64 0] 97)) at hb0;rw [<- hW0] at hb0;have hba:Below W0.heap.size W0 (W0.alloc (.cells #[.slice ao l.length cap] 37)):=(Below.refl _ _).alloc (Nat.le_refl _) _;have hbs:(W0.alloc (.cells #[.slice ao l.length cap] 37)).cell? ⟨(w.heap.size+1+1),0,none⟩=some (.slice ao l.length cap):=by rw [<- hW0s];exact (Blk.new W0 37 [.slice ao l.length cap]).at1 0 _ rfl
 clear hbx1;rw [<- hW0];obtain⟨W2,hW2⟩:∃ W2,W2=W0.alloc (.cells #[.slice ao l.length cap] 37):=⟨_,rfl⟩;have hW2s:W2.heap.size=(w.heap.size+1+1)+1:=by rw [hW2,<- hW0s];simp
 rw [<- hW2] at hba hbs;have hbw2:=hb0.trans (hba.mono hb0.size);have hbox2:W2.cell? ⟨w.heap.size,0,none⟩=some (.bool n):=by rw [hba.cell (p:=⟨w.heap.size,0,none⟩) (by simp only;omega)];exact hbx
 have hob2:=hox.on hba
 obtain⟨g,o,hgl,hao,hcl⟩:∃ g o,g<w.heap.size+1/\(∀ k,k<l.length->ao=some ⟨g,o,none⟩)/\∀ k,k<l.length->W2.cell? ⟨g,o+k,none⟩=some (.int .u32 (dg k)):=by
  by_cases hp:0<l.length
  ·obtain⟨g,o,rfl,hc⟩:=mm (by rw [uc_len];exact hp);exact⟨g,o,by have:=hc.lt;omega,fun _ _=>rfl,fun k hk=>hdv.out k ▸ (hc.on hbw2).ucell k hk⟩
  ·exact⟨w.heap.size,0,by omega,fun k hk=>by omega,fun k hk=>by omega⟩
 have hg2:g<W2.heap.size:=by omega
 have hgl:g≠w.heap.size+1:=by omega
 rw [<- hW2];have hbl:(w.heap.size+1+1)<W2.heap.size:=by omega
 have hbn:(w.heap.size+1+1)≠w.heap.size+1:=by omega
 have hwl:w.heap.size+1<W2.heap.size:=by omega
 clear hW2 hba hbx hox hb0 hW0 mm
 refine wpIn_rangeFunc_ownF (α:=Nat) rfl (by omega) (gf:=170) (lb:=#[.pointer (some ⟨(w.heap.size+1+1),0,none⟩)]) rfl trivial (enters_of Tryz.func170 (by kernel_rfl) rfl)
  (backwardU_stops (α:=Nat) (fun i=>(i:Int)) (fun i=>.int .u32 (dg i)) (fun k=>l.length-1-k) Fence.wide _ trivial rfl (by omega) (w.heap.size+1+1) g o l.length cap ao hao b (fun k hk=>by omega) W2 hbl hg2 hbs (fun k hk=>hcl _ (by omega)))
  (fun h k=>h.trans k) (Kb.putObj hbl hg2) (Below.refl _ _) (fun _=>rfl)
  (fun pre W=>(Blk W (w.heap.size+1) 97 [.int .u64 ((pre.map dg).foldl resS 0)]/\W.cell? ⟨w.heap.size,0,none⟩=some (.bool n)/\W2.heap.size<=W.heap.size)/\Below w.heap.size w W)
  (fun _ _ _=>False)
  (OwnFrom.and (Own.from (fun s A B row hs hg hr=>by
   obtain⟨h1,h4,h7⟩:=hs;have hk:Kept A B row:=⟨hg,hr⟩
   exact⟨hk.blk h1,cell_kept h4 hg hr,Nat.le_trans h7 hg.size⟩) _) (ownFrom_below (Nat.le_refl _) (by omega)))
  (fun _ _ _ _ _ hs _ _=>hs)
  ⟨⟨hob2,hbox2,Nat.le_refl _⟩,hbw2⟩
  (fun x=>{ tmps:=#[.agg #[.bool n,.slice ao l.length cap],.pointer (some ⟨w.heap.size,0,none⟩),.int .u64 0,.pointer (some ⟨w.heap.size+1,0,none⟩),undef,.int .u32 (dg x),.pointer (some ⟨w.heap.size,1,none⟩),.slice ao l.length cap,.func (.func 170) #[] #[.pointer (some ⟨(w.heap.size+1+1),0,none⟩)],.int .i64 x,.int .u32 (dg x),undef,undef,undef,undef,undef,undef,undef,undef,undef,undef,undef,undef,undef,undef,undef],defers:=[] }) ?assign ?body ?done ?stop
 case assign =>
  intro l x W K hK
  gi_wp2
  exact hK
 case body =>
  rintro ll pre x W ⟨⟨Bo,hbx,hsz⟩,hbw⟩ hlen;have hfb:=resF_bd (pre.map dg);have hxl:=(L.getD x);rw [B32_eq,hdv.out] at hxl;have hfold:((pre++[x]).map dg).foldl resS 0=resS ((pre.map dg).foldl resS 0) (dg x):=by rw [List.map_append,List.foldl_append];rfl
  generalize (pre.map dg).foldl resS 0=M at *;generalize dg x=d at *;have ho:=Bo.at1 0 _ rfl;have hf:=Bo.frozen 0;have hor:=or_join M d hfb.1 (by omega) hxl.1 hxl.2;have hM0:=hfb.1;have hM1:=hfb.2;have hd0:=hxl.1;have hd1:=hxl.2;have hres:Hid (resS M d=(M*4294967296+d) % 2147483647):=zH rfl;replace hfold:=zH hfold
  gi_wp2
  have Bn:=Bo.set 0 (.int .u64 ((M*4294967296+d) % 2147483647));refine⟨KeepsOthers.setCell _ _ _,⟨Below.heap_setCell _ _ _ _ hbn,Below.heap_setCell _ _ _ _ hgl⟩,⟨?_,?_,by rw [World.size_setCell];omega⟩,?_⟩
  ·rw [hfold.out,hres.out];exact Bn
  ·rw [<- hbx];exact cell_heap (Below.heap_setCell _ _ _ _ (by simp))
  ·exact hbw.trans (setCell_below (by omega) _)
 case done =>
  rintro D ys W hD rfl ⟨⟨Bo,hbx,hsz⟩,hbw⟩ hK;rw [hmod.out,resS_fold] at Bo;have ho:=Bo.at1 0 _ rfl;have hf:=Bo.frozen 0;have hM0:0<=lval l % 2147483647:=Int.emod_nonneg _ (by decide);have hM1:lval l % 2147483647<2147483647:=Int.emod_lt_of_pos _ (by decide);have hME:Hid (lval l % 2147483647=lval l % 2147483647):=zH rfl;have hDs:D≠w.heap.size+1:=by omega
  cases n
  ·have hfin:=resid_false hl0 rfl;rw [<- hZ1.out rfl] at hfin Bo ho hM0 hM1;rw [hfin] at Bo ho;replace hfin:=zH hfin
   gi_wp2
   refine⟨by simp,.inl ⟨_,_,rfl,run_takeDeferred hK,?_⟩⟩;refine⟨_,results_tmp rfl _ _ _,rfl,?_⟩;exact hbw.trans (belowK_b (w:=w) (Nat.le_refl _) _ D _ _ (by have:=hbw2.size;omega) hK rfl rfl)
  ·have hfin:=resid_true (M:=lval l % 2147483647) (hneg.out rfl) (hZ2.out rfl) rfl;generalize lval l % 2147483647=M at *;by_cases hp:0<M
   ·have hfin:=zH (hfin.1 hp)
    gi_wp2
    have hK2:=(Below.heap_setCell W ⟨w.heap.size+1,0,none⟩ (.int .u64 (resid z)) D hDs).trans hK;have hbw3:=hbw.trans (setCell_below (W:=W) (g:=w.heap.size+1) (j:=0) (Nat.le_succ _) (.int .u64 (resid z)));refine⟨by simp,.inl ⟨_,_,rfl,run_takeDeferred hK2,?_⟩⟩;refine⟨_,results_tmp rfl _ _ _,rfl,?_⟩;exact hbw3.trans (belowK_b (w:=w) (Nat.le_refl _) _ D _ _ (by have:=hbw2.size;omega) hK2 rfl rfl)
   ·have hfin:=hfin.2 hp
    gi_wp2
    refine⟨by simp,.inl ⟨_,_,rfl,run_takeDeferred hK,?_⟩⟩;refine⟨_,results_tmp rfl _ _ _,rfl,?_⟩;exact hbw.trans (belowK_b (w:=w) (Nat.le_refl _) _ D _ _ (by have:=hbw2.size;omega) hK rfl rfl)
 case stop =>
  rintro D c pre W _ _ h _;exact h.elim
end Go.Proofs.YtopclbeomcggiaaGreat
end
