/- mpoly.Subst: the range over slices.Backward. -/
import Derived.Test.YtopclbeomcggiaaGreatW17
import Derived.Test.YtopclbeomcggiaaGreatW26
import Derived.LoopIn
import Derived.LoopNIn
import Derived.OwnWalkIn
import Derived.RangeFuncBound
import Derived.RangeFuncNested
import Derived.Shelf.RegionOpen
set_option linter.unusedVariables false
set_option linter.unusedSimpArgs false
set_option maxHeartbeats 16000000
set_option maxRecDepth 100000
section
namespace Q
open Go Go.RowKit Go.Proofs.YtopclbeomcggiaaGreat
def UU (w w':World) (row:Option Nat):Prop:=w.grownBy w' row/\∀ r,row=some r->∃ o:Obj,w.heap[r]?=some o/\o.isCells=false
end Q
namespace Go.Proofs.YtopclbeomcggiaaGreat
open Go.RowKit Go.Shelf Q
attribute [local go_sem] Oper.semAt_some
def Kb (Bs g:Nat) (W W':World):Prop:=W'.heap[Bs]?=W.heap[Bs]?/\W'.heap[g]?=W.heap[g]?
theorem Kb.refl (Bs g:Nat) (W:World):Kb Bs g W W:=⟨rfl,rfl⟩
theorem Kb.trans {Bs g:Nat} {A B C:World} (h:Kb Bs g A B) (h':Kb Bs g B C):Kb Bs g A C:=⟨h'.1.trans h.1,h'.2.trans h.2⟩
theorem xY {W W':World} {a:Addr} (h:W'.heap[a.block]?=W.heap[a.block]?):W'.cell? a=W.cell? a:=by unfold World.cell?;rw [h]
theorem Kb.putObj {Bs g:Nat} {w:World} (hB:Bs<w.heap.size) (hg:g<w.heap.size) (W:World) (l:Nat) (o o':Obj) (hl:w.heap.size<=l) (_:W.heap[l]?=some o) (_:o.isCells=false) (_:o.isWalk=false):Kb Bs g W (W.putObj l o') :=
 ⟨World.putObj_heap_other (by omega),World.putObj_heap_other (by omega)⟩
def wF {α:Type} (f:Nat->α) (k:Nat):List α:=(List.range k).map f
theorem DX {α:Type} (f:Nat->α) (k:Nat):wF f (k+1)=wF f k++[f k]:=by simp [wF,List.range_succ]
theorem Ib {α:Type} (f:Nat->α) (k:Nat):(wF f k).length=k:=by simp [wF]
structure XE (sb sc:Sz) (sz:Nat->Sz) (N:Nat):Prop where
 b:sb.ok
 c:sc.ok
 z:∀ k,k<=N->(sz k).ok
 m:∀ k,k<N->((sz k).mul sb).ok
 s:∀ k,k<N->(((sz k).mul sb).add sc).le (sz (k+1))
def Yd (b:List ai) (out c:List ai):List ai:=lN (aQ out b) c
end Go.Proofs.YtopclbeomcggiaaGreat
end
section
namespace Go.Proofs.YtopclbeomcggiaaGreat
open Go.RowKit Go.Shelf Q
end Go.Proofs.YtopclbeomcggiaaGreat
namespace Q
open Go Go.RowKit Q Go.Proofs.YtopclbeomcggiaaGreat
theorem UU.blk {w w':World} {row:Option Nat} (h:UU w w' row) {g:Nat} {T:TypeId} {cs:List Value} (hc:Blk w g T cs):Blk w' g T cs:=by
 have hl:=hc.lt;unfold Blk at *;rw [h.1.block g hl (fun e=>?_)]
 ·exact hc
 ·obtain⟨o,h3,h4⟩:=h.2 g e.symm;rw [hc] at h3;cases h3;cases h4
end Q
namespace Go.Proofs.YtopclbeomcggiaaGreat
open Go.RowKit Go.Shelf Q
attribute [local go_sem] Oper.semAt_some
end Go.Proofs.YtopclbeomcggiaaGreat
end
section
namespace Go.Proofs.YtopclbeomcggiaaGreat
open Go.RowKit Go.Shelf Q
attribute [local go_sem] Oper.semAt_some
abbrev CX:TypeId:=97
theorem CY (F:Fence) (n:Nat) (h79:F.fn 156) (hro:F.round=none) (ao:Option Addr) (N cap:Nat) (w:World) :
  CallsIn F n Tryz.prog 156 #[.slice ao N cap] w (fun e W'=>e=.returned (.func (.func 170) #[] #[.pointer (some ⟨w.heap.size,0,none⟩)])/\W'=w.alloc (.cells #[.slice ao N cap] 37)):=by
 refine callsIn_of_wp Tryz.func156 rfl h79 ?_ hro;simp only [Tryz.ntmps156,List.size_toArray,List.length_cons,List.length_nil,Nat.reduceAdd,Nat.reduceSub,Array.replicate_succ,Array.replicate_zero,List.push_toArray,List.append_toArray,List.nil_append,List.cons_append]
 gi_wp2
 refine bodyPost_ret (results_tmp rfl _ _ _) rfl ?_;exact⟨rfl,rfl⟩
theorem CZ {α:Type} (ix:α->Int) (vl:α->Value) (XS:Nat->α) (F:Fence) (n:Nat) (h106:F.fn 170) (hro:F.round=none) (hn:1<=n) (l Bs g o N cap:Nat) (ao:Option Addr) (hao:∀ k,k<N->ao=some ⟨g,o,none⟩) (hN:N<=34359738368)
  (hX1:∀ k,k<N->ix (XS k)=(N:Int)-1-k) (J Jx:List α->World->Prop)
  (hY:∀ pre x W,J pre W->pre.length<N->YieldAt F (n-1) Tryz.prog l #[.int .i64 (ix x),vl x] W fun e W' =>
   (e=.returned (.bool true)/\J (pre++[x]) W'/\Kb Bs g W W')\/(e=.returned (.bool false)/\Jx (pre++[x]) W'))
  (W:World) (hBs:W.cell? ⟨Bs,0,none⟩=some (.slice ao N cap)) (hc:∀ k,k<N->W.cell? ⟨g,o+(N-1-k),none⟩=some (vl (XS k))) (h0:J [] W) :
  CallsIn F n Tryz.prog 170 #[.func (.yield l) #[] #[],.pointer (some ⟨Bs,0,none⟩)] W fun e W'=>(∃ v,e=.returned v) /\
   ((∃ ys,ys=wF XS N/\J ys W')\/(∃ pre,(∃ k,k<=N/\pre=wF XS k)/\Jx pre W')):=by
 refine callsIn_of_wp Tryz.func170 rfl h106 ?_ hro;simp only [Tryz.ntmps170,List.size_toArray,List.length_cons,List.length_nil,Nat.reduceAdd,Nat.reduceSub,Array.replicate_succ,Array.replicate_zero,List.push_toArray,List.append_toArray,List.nil_append,List.cons_append]
 gi_wp2
 gi_loopw [3] (fun i wr=>∃ k:Nat,k<=N/\i=.int .i64 ((N:Int)-1-k)/\J (wF XS k) wr/\Kb Bs g W wr) (fun i _=>(intOf i+1).toNat)
 case atStart=>exact⟨0,Nat.zero_le _,by simp,h0,Kb.refl _ _ _⟩
 case round =>
  obtain⟨k,hk,rfl,hJs,hnx⟩:=hrel;have hbs:=(xY (a:=⟨Bs,0,none⟩) hnx.1).trans hBs;by_cases hlt:k<N
  ·have hcx:=(xY (a:=⟨g,o+(N - 1 - k),none⟩) hnx.2).trans (hc k hlt);obtain⟨fn,tmps,assign,body,hy,hR⟩:=hY _ (XS k) wr hJs (by rw [Ib];exact hlt);rw [hX1 k hlt] at hy;have hao2:=hao k hlt;rw [hao2] at hbs;obtain⟨m,hm⟩:∃ m:Nat,m=N - 1 - k:=⟨_,rfl⟩;have hmi:(N:Int) - 1 - k=(m:Int):=by omega
   rw [<- hm] at hcx;rw [hmi] at hy ⊢;have hmN:(m:Int)<N:=by omega
   have hmN':m<N:=by omega
   have hm0:(0:Int)<=m:=by omega
   have hmk:(m:Int)-1=(N:Int)-1-(k+1:Nat):=by omega
   have hmk:=zH hmk;clear hm hmi hao2
   gi_wp2
   refine hR.mono ?_;rintro e W3 (⟨rfl,hJ3,hk3⟩|⟨rfl,hJx3⟩)
   ·gi_wp2
    go_roundw
    case rel=>exact⟨k+1,by omega,by have h:=hmk.out;simp only [Value.int.injEq,true_and];omega,by rw [DX];exact hJ3,hnx.trans hk3⟩
    case measure=>have h:=hmk.out;simp [intOf];omega
   ·gi_wp2
    refine bodyPost_ret (results_none rfl _ _ _) rfl ?_;exact⟨⟨_,rfl⟩,.inr ⟨_,⟨k+1,by omega,(DX _ _).symm⟩,hJx3⟩⟩
  ·obtain rfl:k=N:=by omega
   gi_wp2
   go_end0
   exact⟨⟨_,rfl⟩,.inl ⟨_,rfl,hJs⟩⟩
theorem zu {α:Type} (ix:α->Int) (vl:α->Value) (XS:Nat->α) (F:Fence) (n:Nat) (h106:F.fn 170) (hro:F.round=none) (hn:1<=n) (Bs g o N cap:Nat) (ao:Option Addr) (hao:∀ k,k<N->ao=some ⟨g,o,none⟩) (hN:N<=34359738368)
  (hX1:∀ k,k<N->ix (XS k)=(N:Int)-1-k) (w:World) (hBl:Bs<w.heap.size) (hgl:g<w.heap.size) (hBs:w.cell? ⟨Bs,0,none⟩=some (.slice ao N cap)) (hc:∀ k,k<N->w.cell? ⟨g,o+(N-1-k),none⟩=some (vl (XS k))) :
  SeqStopsK F n Tryz.prog 170 #[.pointer (some ⟨Bs,0,none⟩)] (fun x:α=>#[.int .i64 (ix x),vl x]) (Kb Bs g) (fun ys=>ys=wF XS N) (fun pre=>∃ k,k<=N/\pre=wF XS k) N w:=fun l J Jx W hW _ _ hY h0 =>
 CZ ix vl XS F n h106 hro hn l Bs g o N cap ao hao hN hX1 J Jx hY W ((hW.cell (p:=⟨Bs,0,none⟩) hBl).trans hBs) (fun k hk=>(hW.cell (p:=⟨g,o+(N-1-k),none⟩) hgl).trans (hc k hk)) h0
def resS (m d:Int):Int:=(m*4294967296+d) % 2147483647
theorem DY:∀ l:List Int,l.reverse.foldl resS 0=ah l % 2147483647
 | []=>rfl
 | d::l=>by
  rw [List.reverse_cons,List.foldl_append,DY l];show (ah l % 2147483647*4294967296+d) % 2147483647=(d+bL*ah l) % 2147483647;rw [aT];omega
theorem SQ {m d:Int}:0<=resS m d/\resS m d<2147483647:=⟨Int.emod_nonneg _ (by decide),Int.emod_lt_of_pos _ (by decide)⟩
theorem SS (l:List Int):0<=l.foldl resS 0/\l.foldl resS 0<2147483647:=by
 by_cases h:l=[]
 ·subst h;simp
 ·rw [<- List.dropLast_concat_getLast h,List.foldl_append];exact SQ
end Go.Proofs.YtopclbeomcggiaaGreat
namespace Q
def fH (z:Int):Nat:=if z<0/\0<z.natAbs % 2147483647 then 2147483647-z.natAbs % 2147483647 else z.natAbs % 2147483647
theorem tq (z:Int):fH z<2147483647:=by
 unfold fH;split <;> omega
end Q
namespace Go.Proofs.YtopclbeomcggiaaGreat
open Go.RowKit Go.Shelf Q
attribute [local go_sem] Oper.semAt_some
theorem Ic {z M:Int} (h0:0<=z) (hM:M=z % 2147483647):M=(fH z:Int):=by
 unfold fH;rw [if_neg (by omega)];omega
theorem JV {z l M:Int} (h0:0<l) (hz:z=-l) (hM:M=l % 2147483647):(0<M->2147483647-M=(fH z:Int))/\(¬ 0<M->M=(fH z:Int)):=by
 unfold fH;split <;> omega
theorem yU (n:Bool) (m:Value) (z:Int) (w:World) (h:aZ w n m z) (c:aI z.natAbs<=iT):Calls Tryz.prog 136 #[.agg #[.bool n,m]] w (rO w (.int .u64 (fH z))):=by
 obtain⟨l,ao,cap,rfl,u,b,nn,e⟩:=fU h c
 have hneg:n=true->0<ah l:=fun hn=>by
  subst hn;have:=lK h;rw [e] at this;simp only [fZ,if_true] at this;omega
 obtain⟨_,_,e',_,L,mm⟩:=u;cases e';have hb0:Below w.heap.size w ((w.alloc (.cells #[.bool n,.slice ao l.length cap] 39)).alloc (.cells #[.int .u64 0] 97)):=mh _ _ _;have hl0:=bg L;obtain⟨dg,hdg⟩:∃ dg:Nat->Int,dg=fun i=>l.getD i 0:=⟨_,rfl⟩;have hdv:∀ i,l.getD i 0=dg i:=fun i=>by rw [hdg]
 have hmod:(wF (fun k=>l.length-1-k) l.length).map dg=l.reverse:=by
  rw [hdg];refine List.ext_getElem (by simp [wF]) fun i h1 h2=>?_;simp [wF] at h1;simp [wF,List.getElem_reverse];rw [List.getElem?_eq_getElem (by omega)];rfl
 have hZ1:n=false->z=ah l:=fun hn=>by rw [e,hn];rfl
 have hZ2:n=true->z=- ah l:=fun hn=>by rw [e,hn];rfl
 replace hmod:=zH hmod;replace hdv:=zH hdv;replace hZ1:=zH hZ1;replace hZ2:=zH hZ2;replace hneg:=zH hneg;clear h c nn e hdg;refine (callsIn_wide (n:=6)).1 ?_;refine callsIn_of_wp_marks Tryz.func136 rfl trivial ?_ rfl;simp only [Tryz.ntmps136,List.size_toArray,List.length_cons,List.length_nil,Nat.reduceAdd,Nat.reduceSub,Array.replicate_succ,Array.replicate_zero,List.push_toArray,List.append_toArray,List.nil_append,List.cons_append];have hbx1:((w.alloc (.cells #[.bool n,.slice ao l.length cap] 39)).alloc (.cells #[.int .u64 0] 97)).cell? ⟨w.heap.size,1,none⟩=some (.slice ao l.length cap):=((Blk.new w 39 [.bool n,.slice ao l.length cap]).alloc _).at1 1 _ rfl
 gi_wp2_with (refine⟨trivial,?_⟩;gi_at_call 156;refine (CY Fence.wide _ trivial rfl _ _ _ _).mono ?_;rintro e w2 ⟨rfl,rfl⟩)
 obtain⟨W0,hW0⟩:∃ W0,W0=(w.alloc (.cells #[.bool n,.slice ao l.length cap] 39)).alloc (.cells #[.int .u64 0] 97):=⟨_,rfl⟩;have hW0s:W0.heap.size=w.heap.size+1+1:=by rw [hW0];simp
 have hbx:W0.cell? ⟨w.heap.size,0,none⟩=some (.bool n):=by rw [hW0];exact ((Blk.new w 39 [.bool n,.slice ao l.length cap]).alloc _).at1 0 _ rfl
 have hox:Blk W0 (w.heap.size+1) 97 [.int .u64 0]:=by rw [hW0];have:=Blk.new (w.alloc (.cells #[.bool n,.slice ao l.length cap] 39)) 97 [.int .u64 0];simpa using this
 change Below w.heap.size w ((w.alloc (.cells #[.bool n,.slice ao l.length cap] 39)).alloc (.cells #[.int .u64 0] 97)) at hb0;rw [<- hW0] at hb0;have hba:Below W0.heap.size W0 (W0.alloc (.cells #[.slice ao l.length cap] 37)):=(Below.refl _ _).alloc (Nat.le_refl _) _;have hbs:(W0.alloc (.cells #[.slice ao l.length cap] 37)).cell? ⟨(w.heap.size+1+1),0,none⟩=some (.slice ao l.length cap):=by rw [<- hW0s];exact (Blk.new W0 37 [.slice ao l.length cap]).at1 0 _ rfl
 clear hbx1;rw [<- hW0];obtain⟨W2,hW2⟩:∃ W2,W2=W0.alloc (.cells #[.slice ao l.length cap] 37):=⟨_,rfl⟩;have hW2s:W2.heap.size=(w.heap.size+1+1)+1:=by rw [hW2,<- hW0s];simp
 rw [<- hW2] at hba hbs;have hbw2:=hb0.trans (hba.mono hb0.size);have hbox2:W2.cell? ⟨w.heap.size,0,none⟩=some (.bool n):=by rw [hba.cell (p:=⟨w.heap.size,0,none⟩) (by simp only;omega)];exact hbx
 have hob2:=hox.on hba
 obtain⟨g,o,hgl,hao,hcl⟩:∃ g o,g<w.heap.size+1/\(∀ k,k<l.length->ao=some ⟨g,o,none⟩)/\∀ k,k<l.length->W2.cell? ⟨g,o+k,none⟩=some (.int .u32 (dg k)):=by
  by_cases hp:0<l.length
  ·obtain⟨g,o,rfl,hc⟩:=mm (by rw [eQ];exact hp);exact⟨g,o,by have:=hc.lt;omega,fun _ _=>rfl,fun k hk=>hdv.out k ▸ (hc.on hbw2).ucell k hk⟩
  ·exact⟨w.heap.size,0,by omega,fun k hk=>by omega,fun k hk=>by omega⟩
 have hg2:g<W2.heap.size:=by omega
 have hgl:g≠w.heap.size+1:=by omega
 rw [<- hW2];have hbl:(w.heap.size+1+1)<W2.heap.size:=by omega
 have hbn:(w.heap.size+1+1)≠w.heap.size+1:=by omega
 have hwl:w.heap.size+1<W2.heap.size:=by omega
 clear hW2 hba hbx hox hb0 hW0 mm
 refine wpIn_rangeFunc_ownF (α:=Nat) rfl (by omega) (gf:=170) (lb:=#[.pointer (some ⟨(w.heap.size+1+1),0,none⟩)]) rfl trivial (enters_of Tryz.func170 (by kernel_rfl) rfl)
  (zu (α:=Nat) (fun i=>(i:Int)) (fun i=>.int .u32 (dg i)) (fun k=>l.length-1-k) Fence.wide _ trivial rfl (by omega) (w.heap.size+1+1) g o l.length cap ao hao b (fun k hk=>by omega) W2 hbl hg2 hbs (fun k hk=>hcl _ (by omega)))
  (fun h k=>h.trans k) (Kb.putObj hbl hg2) (Below.refl _ _) (fun _=>rfl)
  (fun pre W=>(Blk W (w.heap.size+1) 97 [.int .u64 ((pre.map dg).foldl resS 0)]/\W.cell? ⟨w.heap.size,0,none⟩=some (.bool n)/\W2.heap.size<=W.heap.size)/\Below w.heap.size w W)
  (fun _ _ _=>False)
  (OwnFrom.and (Own.from (fun s A B row hs hg hr=>by
   obtain⟨h1,h4,h7⟩:=hs;have hk:UU A B row:=⟨hg,hr⟩
   exact⟨hk.blk h1,cell_kept h4 hg hr,Nat.le_trans h7 hg.size⟩) _) (ownFrom_below (Nat.le_refl _) (by omega)))
  (fun _ _ _ _ _ hs _ _=>hs)
  ⟨⟨hob2,hbox2,Nat.le_refl _⟩,hbw2⟩
  (fun x=>{ tmps:=#[.agg #[.bool n,.slice ao l.length cap],.pointer (some ⟨w.heap.size,0,none⟩),.int .u64 0,.pointer (some ⟨w.heap.size+1,0,none⟩),undef,.int .u32 (dg x),.pointer (some ⟨w.heap.size,1,none⟩),.slice ao l.length cap,.func (.func 170) #[] #[.pointer (some ⟨(w.heap.size+1+1),0,none⟩)],.int .i64 x,.int .u32 (dg x),undef,undef,undef,undef,undef,undef,undef,undef,undef,undef,undef,undef,undef,undef,undef],defers:=[] }) ?assign ?body ?done ?stop
 case assign =>
  intro l x W K hK
  gi_wp2
  exact hK
 case body =>
  rintro ll pre x W ⟨⟨Bo,hbx,hsz⟩,hbw⟩ hlen;have hfb:=SS (pre.map dg);have hxl:=(L.getD x);rw [aT,hdv.out] at hxl;have hfold:((pre++[x]).map dg).foldl resS 0=resS ((pre.map dg).foldl resS 0) (dg x):=by rw [List.map_append,List.foldl_append];rfl
  generalize (pre.map dg).foldl resS 0=M at *;generalize dg x=d at *;have ho:=Bo.at1 0 _ rfl;have hf:=Bo.frozen 0;have hor:=zC M d hfb.1 (by omega) hxl.1 hxl.2;have hM0:=hfb.1;have hM1:=hfb.2;have hd0:=hxl.1;have hd1:=hxl.2;have hres:Hid (resS M d=(M*4294967296+d) % 2147483647):=zH rfl;replace hfold:=zH hfold
  gi_wp2
  have Bn:=Bo.set 0 (.int .u64 ((M*4294967296+d) % 2147483647));refine⟨KeepsOthers.setCell _ _ _,⟨Below.heap_setCell _ _ _ _ hbn,Below.heap_setCell _ _ _ _ hgl⟩,⟨?_,?_,by rw [World.size_setCell];omega⟩,?_⟩
  ·rw [hfold.out,hres.out];exact Bn
  ·rw [<- hbx];exact xY (Below.heap_setCell _ _ _ _ (by simp))
  ·exact hbw.trans (bI (by omega) _)
 case done =>
  rintro D ys W hD rfl ⟨⟨Bo,hbx,hsz⟩,hbw⟩ hK;rw [hmod.out,DY] at Bo;have ho:=Bo.at1 0 _ rfl;have hf:=Bo.frozen 0;have hM0:0<=ah l % 2147483647:=Int.emod_nonneg _ (by decide);have hM1:ah l % 2147483647<2147483647:=Int.emod_lt_of_pos _ (by decide);have hME:Hid (ah l % 2147483647=ah l % 2147483647):=zH rfl;have hDs:D≠w.heap.size+1:=by omega
  cases n
  ·have hfin:=Ic hl0 rfl;rw [<- hZ1.out rfl] at hfin Bo ho hM0 hM1;rw [hfin] at Bo ho;replace hfin:=zH hfin
   gi_wp2
   refine⟨by simp,.inl ⟨_,_,rfl,run_takeDeferred hK,?_⟩⟩;refine⟨_,results_tmp rfl _ _ _,rfl,?_⟩;exact hbw.trans (belowK_b (w:=w) (Nat.le_refl _) _ D _ _ (by have:=hbw2.size;omega) hK rfl rfl)
  ·have hfin:=JV (M:=ah l % 2147483647) (hneg.out rfl) (hZ2.out rfl) rfl;generalize ah l % 2147483647=M at *;by_cases hp:0<M
   ·have hfin:=zH (hfin.1 hp)
    gi_wp2
    have hK2:=(Below.heap_setCell W ⟨w.heap.size+1,0,none⟩ (.int .u64 (fH z)) D hDs).trans hK;have hbw3:=hbw.trans (bI (W:=W) (g:=w.heap.size+1) (j:=0) (Nat.le_succ _) (.int .u64 (fH z)));refine⟨by simp,.inl ⟨_,_,rfl,run_takeDeferred hK2,?_⟩⟩;refine⟨_,results_tmp rfl _ _ _,rfl,?_⟩;exact hbw3.trans (belowK_b (w:=w) (Nat.le_refl _) _ D _ _ (by have:=hbw2.size;omega) hK2 rfl rfl)
   ·have hfin:=hfin.2 hp
    gi_wp2
    refine⟨by simp,.inl ⟨_,_,rfl,run_takeDeferred hK,?_⟩⟩;refine⟨_,results_tmp rfl _ _ _,rfl,?_⟩;exact hbw.trans (belowK_b (w:=w) (Nat.le_refl _) _ D _ _ (by have:=hbw2.size;omega) hK rfl rfl)
 case stop =>
  rintro D c pre W _ _ h _;exact h.elim
end Go.Proofs.YtopclbeomcggiaaGreat
end
section
namespace Q
open Go.Proofs.YtopclbeomcggiaaGreat
def tm (c i k:Int):ai:=((i,k,0,0),(c:Rat))
theorem XF:GK 0=[tm 1 1 0]:=by decide +kernel
theorem XG:GK 1=[tm 1 0 1]:=by decide +kernel
end Q
end
section
namespace Q
open Go Go.Proofs.YtopclbeomcggiaaGreat
def XH (B E N:Nat) (l:List ai):Bool :=
 decide (l.length<=N) && l.all (fun t=>decide (-(E:Int)<=t.1.1) && decide (t.1.1<=E) && decide (-(E:Int)<=t.1.2.1) && decide (t.1.2.1<=E) && decide (-(E:Int)<=t.1.2.2.1) && decide (t.1.2.2.1<=E) && decide (-(E:Int)<=t.1.2.2.2) && decide (t.1.2.2.2<=E) && decide (t.2.den=1)) && decide (bD l<=(B:Rat))
theorem UV {B E N:Nat} {l:List ai} (h:XH B E N l=true):Bd ⟨1,B,E,N⟩ l:=by
 simp only [XH,Bool.and_eq_true,decide_eq_true_eq,List.all_eq_true] at h;obtain⟨⟨h1,h2⟩,h3⟩:=h;refine⟨h1,fun t ht=>?_,fun t ht=>?_,h3⟩
 ·obtain⟨⟨⟨⟨⟨⟨⟨⟨a1,a2⟩,a3⟩,a4⟩,a5⟩,a6⟩,a7⟩,a8⟩,-⟩:=h2 t ht;exact⟨a1,a2,a3,a4,a5,a6,a7,a8⟩
 ·obtain⟨-,hd⟩:=h2 t ht;refine⟨t.2.num,?_⟩
  have:(t.2.num:Rat)=t.2:=by
   refine Rat.ext rfl ?_;rw [hd];rfl
  rw [this];show t.2*((1:Nat):Rat)=t.2;rw [show ((1:Nat):Rat)=1 from rfl,Rat.mul_one]
def S1:Sz:=⟨1,100,10,10⟩
def sm (l:List ai):Bool:=XH 100 10 10 l
def Yl (D R:List (List ai)):Bool:=(List.range (R.length-1)).all fun i =>
 (sm (R.getD i []) && sm (D.getD (D.length-1) [])) &&
 (!decide (R.length-1-(D.length-1)<=i) ||
  ((sm (R.getD (R.length-1) []) && sm (D.getD (i-(R.length-1-(D.length-1))) [])) &&
  (sm (aQ (R.getD i []) (D.getD (D.length-1) [])) && sm (aQ (R.getD (R.length-1) []) (D.getD (i-(R.length-1-(D.length-1))) [])) && JU (aQ (R.getD i []) (D.getD (D.length-1) [])) && JU (aQ (R.getD (R.length-1) []) (D.getD (i-(R.length-1-(D.length-1))) [])))))
def XI (D:List (List ai)):Nat->List (List ai)->Bool
 | 0,_=>true
 | f+1,R=>!decide (D.length-1<R.length) || (Yl D R && XI D f (fE D R))
def Yt (k:Nat):Sz:=⟨1,2 ^ (k+1)-1,k+1,2 ^ (k+1)-1⟩
end Q
end
section
namespace Q
open Go Go.RowKit Go.Proofs.YtopclbeomcggiaaGreat
def af.polyT {g:Option Nat} {T:TypeId} (hT:uT≠T) (hT':aN≠T) (l:List ai) (x:Value):af (Lr g T):=af.of (fun v w=>∃ u,v=.tuple #[u,x]/\ak w u l) (fun _ _ _ hb=>fun⟨u,e,h⟩=>⟨u,e,h.lr hb hT hT'⟩)
def af.polys {g:Option Nat} {T:TypeId} (hT:uT≠T) (hT':aN≠T) (h3:Go.Proofs.YtopclbeomcggiaaGreat.polyT≠T) (L:List (List ai)):af (Lr g T):=af.of (fun v w=>fG w v L) (fun _ _ _ hb h=>bS.lr h hb ⟨hT,hT'⟩ h3)
end Q
namespace Go.Proofs.YtopclbeomcggiaaGreat
open Go.RowKit Q
variable {w:World} {v u:Value} {l p q r:List ai}
end Go.Proofs.YtopclbeomcggiaaGreat
end
section
namespace Q
open Go Go.Proofs.YtopclbeomcggiaaGreat
def Ym (t:Int × Int × Int × Int × Int):ai:=((t.1 % 3,t.2.1 % 4-1,t.2.2.1 % 2,t.2.2.2.1 % 2),((t.2.2.2.2.tmod 4:Int):Rat))
abbrev SV:=Int × Int × Int × Int × Int
def Wi (t:SV):Prop:=(0<=t.1/\t.1<256)/\(0<=t.2.1/\t.2.1<256)/\(0<=t.2.2.1/\t.2.2.1<256)/\(0<=t.2.2.2.1/\t.2.2.2.1<256)/\-128<=t.2.2.2.2/\t.2.2.2.2<128
end Q
namespace Go.Proofs.YtopclbeomcggiaaGreat
open Go.RowKit Q
def Ue (t:Int × Int × Int × Int × Int):List Value:=[.int .u8 t.1,.int .u8 t.2.1,.int .u8 t.2.2.1,.int .u8 t.2.2.2.1,.int .i8 t.2.2.2.2]
def UW (T:TypeId):El SV where
 T:=T
 sz:=5
 pos:=by decide
 E _ cs t:=cs=Ue t/\Wi t
 len:=by rintro w c t ⟨rfl,h⟩;rfl
 one:=by
  rintro w c t ⟨rfl,h⟩ v hv;simp only [Ue,List.mem_cons,List.not_mem_nil,or_false] at hv;rcases hv with rfl|rfl|rfl|rfl|rfl <;> rfl
 on:=fun h _=>h
 ok _:=True
 lr:=fun h _ _=>h
 self:=trivial
def XJ (w:World) (v:Value) (l:List SV):Prop:=∃ T,bS (UW T) w v l
end Go.Proofs.YtopclbeomcggiaaGreat
end
section
namespace Q
open Go Go.Proofs.YtopclbeomcggiaaGreat
def SV.get (t:SV) (v:Nat):Int:=match v with|0=>t.1|1=>t.2.1|2=>t.2.2.1|_=>t.2.2.2.1
def UX (t:SV) (k:Nat):Ex:=(if 0<k then t.1 % 3 else 0,if 1<k then t.2.1 % 3 else 0,if 2<k then t.2.2.1 % 3 else 0,if 3<k then t.2.2.2.1 % 3 else 0)
def Wj (vs:Nat) (t:SV):ai:=(UX t vs,((t.2.2.2.2.tmod 10:Int):Rat))
def Wm (L:List SV) (n vs:Nat):List ai:=(L.take n).map (Wj vs)
def Ye (L:List SV) (n vs:Nat):List ai:=canon (Wm L n vs)
end Q
namespace Go.Proofs.YtopclbeomcggiaaGreat
open Go.RowKit Q
end Go.Proofs.YtopclbeomcggiaaGreat
namespace Q
open Go Go.RowKit Q Go.Proofs.YtopclbeomcggiaaGreat
end Q
namespace Go.Proofs.YtopclbeomcggiaaGreat
open Go.RowKit Q
end Go.Proofs.YtopclbeomcggiaaGreat
end
section
namespace Go.Proofs.YtopclbeomcggiaaGreat
open Go.RowKit Q Go.WideMaps Go.Maps
end Go.Proofs.YtopclbeomcggiaaGreat
end
section
namespace Q
open Go Go.Proofs.YtopclbeomcggiaaGreat
structure Pk (s:Sz) (p:List ai):Prop where
 v:aV p
 b:Bd s p
 k:s.ok
namespace Pk
variable {s t:Sz} {p q:List ai}
theorem mul (h:Pk s p) (h':Pk t q) (k:(s.mul t).ok):Pk (s.mul t) (aQ p q):=⟨aV.mul _ _,(h.b.prods h'.b).canon,k⟩
theorem rs (h:Pk s p):∀ t∈p,Rs t.2:=h.b.rs h.k
theorem rk (h:Pk s p):∀ t∈p,Rk t.2:=fun t ht=>(h.rs t ht).rk
theorem ir (h:Pk s p):∀ t∈p,InR t.1/\Rk t.2:=fun t ht=>⟨h.b.inR h.k t ht,h.rk t ht⟩
theorem len (h:Pk s p):p.length<=100000000:=h.b.len h.k
theorem nil (k:s.ok):Pk s []:=⟨aV.nil,Bd.nil _,k⟩
end Pk
end Q
namespace Go.Proofs.YtopclbeomcggiaaGreat
open Go.RowKit Q
variable {w:World} {v u:Value} {s t:Sz} {p q:List ai}
theorem Ie (hP:Pk s p) (hQ:Pk t q) (e:p=q) (hp:ak w v p) (hq:ak w u q):Calls Tryz.prog 13 #[v,u] w (rO w (.bool true)) :=
 (decide_eq_true e) ▸ NM v u p q w hp hq hP.rk hQ.rk hP.len
end Go.Proofs.YtopclbeomcggiaaGreat
end
section
namespace Q
open Go Go.Proofs.YtopclbeomcggiaaGreat
theorem P6 {m g:ai} {a:List ai} (ha:aV (m::a)) (hz:g.2≠0) (hn:(m.1.sub g.1).nat=true):aV [ji m g] :=
 zF hn (by
  show m.2 / g.2≠0;have:=(ha.2 m (by simp)).1;intro h;rw [Rat.div_def] at h
  exact je this (fun h'=>hz (by rw [<- Rat.inv_inv g.2,h',Rat.inv_zero])) h)
theorem Fy {a:List ai} (hv:aV a) {E:Ex} {c:Rat} (hc:c≠0) (h1:∀ t∈a,E=t.1\/E.gt t.1=true) (h2:cf a E=c):∃ a',a=(E,c)::a':=by
 obtain⟨t,ht,he⟩:=Pp (l:=a) (e:=E) (by rw [h2];exact hc)
 cases a with
 | nil=>cases ht
 | cons m a =>
  have h3:m.1=E:=by
   rcases h1 m (by simp) with h|h
   ·exact h.symm
   ·rcases List.mem_cons.1 ht with rfl|ht
    ·exact he
    ·have h4:=hv.1.head t ht;rw [he] at h4;rw [Ex.gt_asymm h] at h4;cases h4
  have h4:=hv.cf_head;rw [h3,h2] at h4;exact⟨a,by rw [<- h3,h4]⟩
theorem Fz {x g:ai} {s ts:List ai} (hs:aV (x::s)) (hb:aV (g::ts)):(∀ t∈aQ (x::s) (g::ts),x.1.add g.1=t.1\/(x.1.add g.1).gt t.1=true)/\cf (aQ (x::s) (g::ts)) (x.1.add g.1)=x.2*g.2:=by
 refine⟨gL (P:=fun e=>x.1.add g.1=e\/(x.1.add g.1).gt e=true) fun t ht=>?_,?_⟩
 ·obtain⟨a,ha,b,hb',rfl⟩:=jZ ht;by_cases h:x.1=a.1/\g.1=b.1
  ·exact .inl (by simp only [mulT,h.1,h.2])
  ·exact .inr (sH (hs.1.head_or a ha) (hb.1.head_or b hb') h)
 ·rw [aQ,mM,if_pos (Ex.nat_add hs.nat.head hb.nat.head),qc hs.1 hb.1]
theorem Ig {x g:ai} (hz:g.2≠0):ji (x.1.add g.1,x.2*g.2) g=x:=by
 obtain⟨e,c⟩:=x;unfold ji;refine Prod.ext ?_ ?_
 ·show (e.add g.1).sub g.1=e;simp only [Ex.add,Ex.sub];refine Ex.ext' ?_ ?_ ?_ ?_ <;> simp only <;> omega
 ·show c*g.2 / g.2=c;exact Rat.mul_div_cancel hz
theorem Ih {x:ai} {s b d:List ai} (hs:aV (x::s)) (hb:aV b) (hd:aV d):dK (lN (aQ (x::s) b) d) (aQ b [x])=lN (aQ s b) d :=
 kH (aV.sub _ _) (aV.add _ _) fun y=>by
  have hx:aV [x]:=⟨List.pairwise_singleton _ _,fun t ht=>hs.2 t (by simp at ht;simp [ht])⟩;rw [ev_sub y (aV.add _ _).nat (aV.mul _ _),ev_add y (aV.mul _ _).nat hd.nat,ev_mul y hs.nat hb.nat,ev_mul y hb.nat hx.nat,ev_add y (aV.mul _ _).nat hd.nat,ev_mul y hs.tail.nat hb.nat,jY,jY,di];grind
theorem Ii {p:List ai} (hp:aV p):lN p []=p:=by rw [lN,List.append_nil,Ph hp]
theorem gH {c:Rat} (h:Dv 1 c):∃ z:Int,c=(z:Rat):=by
 obtain⟨k,hk⟩:=h;exact⟨k,by rw [<- hk,show ((1:Nat):Rat)=1 from rfl,Rat.mul_one]⟩
theorem UY {z:Int} {n:Nat} (h:bH (z:Rat)<=(n:Rat)):z.natAbs<=n:=by
 rw [rabs_int] at h;exact Rat.natCast_le_natCast.1 h
end Q
end
section
namespace Q
namespace MP
def dv (D:Nat) (p:MP):Prop:=∀ t∈p.l,Dv D t.2
def am (p:MP):Rat:=bD p.l
theorem am_nonneg (p:MP):0<=p.am:=jP _
theorem wG {D:Nat} {l:List ai} (h:∀ t∈l,Dv D t.2):∀ t∈canon l,Dv D t.2:=(AB (l:=l) (r:=[]) (p:=fun _=>True) (fun _ _=>trivial) (fun _ _=>trivial) h (fun _ h=>by cases h)).2.2.2
theorem NT (l:List ai):∀ r,bD (l.foldl ins r)<=bD r+bD l:=by
 induction l with
 | nil=>intro r;simp only [List.foldl_nil,bD];grind
 | cons m l ih=>intro r;have:=ih (ins r m);have:=AA r m;simp only [List.foldl_cons,bD];grind
theorem oI (l:List ai):bD (canon l)<=bD l:=by have:=NT l [];simp only [bD] at this;unfold canon;grind
theorem Bt {D:Nat} {p q:MP} (h:p.dv D) (h':q.dv D):(p+q).dv D:=wG fun t ht=>(List.mem_append.1 ht).elim (h t) (h' t)
theorem P7 {D D':Nat} {p q:MP} (h:p.dv D) (h':q.dv D'):(p*q).dv (D*D'):=wG fun t ht=>by
 obtain⟨a,ha,b,hb,rfl⟩:=jZ ht;exact (h a ha).mul (h' b hb)
theorem iL {p q:MP} (h:p.dv 1) (h':q.dv 1):(p*q).dv 1:=P7 h h'
theorem NU {D:Nat} {r:Rat} (h:Dv D r):(c r).dv D:=fun t ht=>by
 have ht:t∈bX r:=ht;unfold bX at ht;split at ht
 ·cases ht
 ·rw [List.mem_singleton.1 ht];exact h
theorem SX {D D':Nat} (hd:D∣D') {p:MP} (h:p.dv D):p.dv D':=fun t ht=>(h t ht).dvd hd
theorem xZ {p:List ai} {c:Rat} {t:ai} (h:t∈bY p c):∃ s∈p,t=(s.1,s.2*c):=by
 unfold bY at h;split at h
 ·cases h
 ·obtain⟨s,hs,rfl⟩:=List.mem_map.1 h;exact⟨s,hs,rfl⟩
theorem P8 {D:Nat} {p:MP} (h:p.dv D):(-p).dv D:=fun t ht=>by
 obtain⟨s,hs,rfl⟩:=xZ (p:=p.l) (c:=-1) ht;have:=(h s hs).neg;have e:s.2*-1=-s.2:=by grind
 show Dv D (s.2*-1);rw [e];exact this
theorem JW (p q:MP):p-q=p+-q:=by grind
theorem Bw {D:Nat} {p q:MP} (h:p.dv D) (h':q.dv D):(p-q).dv D:=by rw [JW];exact Bt h (P8 h')
theorem FB (D:Nat):(0:MP).dv D:=fun _ h=>by cases h
theorem UZ (D:Nat):(1:MP).dv D:=NU (r:=1) (Dv.int D 1)
theorem uZ (D:Nat) (k:Int):(c (k:Rat)).dv D:=NU (Dv.int D k)
theorem JX (p q:MP):(p+q).am<=p.am+q.am:=by
 have:=oI (p.l++q.l);rw [pF] at this;exact this
theorem Bz (p q:MP):(p*q).am<=p.am*q.am:=by
 have:=oI (prods p.l q.l);rw [AC] at this;exact this
theorem LX:(0:MP).am=0:=rfl
theorem Ij (r:Rat):(c r).am=bH r:=by
 show bD (bX r)=_;unfold bX;split
 ·rename_i h;rw [h];rfl
 ·simp only [bD];grind
theorem qD:bH 1=1:=by decide
theorem U1:(1:MP).am=1:=by rw [<- AQ,Ij,qD]
theorem U2 (p:MP):(-p).am<=p.am:=by
 have e:-p=c (-1)*p:=by
  refine ext' fun x=>?_;rw [ev_neg,ev_mul,ev_c];grind
 have:=Bz (c (-1)) p;rw [Ij] at this;rw [e];have e2:bH (-1)=1:=by decide
 rw [e2] at this;grind
theorem JY (p q:MP):(p-q).am<=p.am+q.am:=by have:=JX p (-q);have:=U2 q;rw [JW];grind
theorem U3 (l:List ai) (e:Ex):bH (cf l e)<=bD l:=by
 induction l with
 | nil=>simp only [jd,bD];decide
 | cons t l ih =>
  rw [bG];simp only [bD];have h1:=Ay (if t.1=e then t.2 else 0) (cf l e)
  have h2:bH (if t.1=e then t.2 else 0)<=bH t.2:=by
   split
   ·exact Rat.le_refl
   ·have h3:=eu t.2;have h4:bH 0=0:=by decide
    rw [h4];exact h3
  grind
theorem DZ {D:Nat} {l:List ai} (h:∀ t∈l,Dv D t.2) (e:Ex):Dv D (cf l e):=by
 induction l with
 | nil=>rw [jd];exact Dv.zero D
 | cons t l ih =>
  rw [bG];refine Dv.add ?_ (ih fun s hs=>h s (by simp [hs]));split
  ·exact h t (by simp)
  ·exact Dv.zero D
theorem JZ {p:MP} {t:ai} (h:t∈p.l):cf p.l t.1=t.2:=JD (List.Pairwise.imp (fun h=>Ex.gt_ne h) p.v.1) h
theorem wH {D:Nat} {f:Nat->MP}:∀ {n:Nat},(∀ j,j<n->(f j).dv D)->(bZ f n).dv D
 | 0,_=>FB D
 | n+1,h=>Bt (wH fun j hj=>h j (by omega)) (h n (by omega))
theorem LY {K:Rat} {f:Nat->MP}:∀ {n:Nat},(∀ j,j<n->(f j).am<=K)->(bZ f n).am<=(n:Rat)*K
 | 0,_=>by
  rw [bZ,LX];have e:((0:Nat):Rat)=0:=rfl;rw [e];grind
 | n+1,h=>by
  have h1:=LY (n:=n) fun j hj=>h j (by omega);have h2:=h n (by omega);have h3:=JX (bZ f n) (f n);rw [bZ,Rat.natCast_add];have e:((1:Nat):Rat)=1:=rfl;rw [e];grind
theorem U4 (p q:MP) (e:Ex):cf (p+q).l e=cf p.l e+cf q.l e:=lf_add _ p q
theorem FC (f:Nat->MP) (e:Ex):∀ n,cf (bZ f n).l e=bf (fun j=>cf (f j).l e) n
 | 0=>rfl
 | n+1=>by rw [bZ,U4,FC f e n];rfl
theorem pM (r:Rat) (p:MP) (e:Ex):cf (c r*p).l e=r*cf p.l e:=by
 show Lf _ _=_;rw [lf_mul];by_cases h:r=0
 ·rw [h];show (0:Rat)=_;grind
 ·have:(c r).l=[(e0,r)]:=by show bX r=_;rw [bX,if_neg h]
  rw [this,nG,JA];simp only [Ex.zero_add];show r*cf p.l e+0=_;grind
theorem Ik {f:Nat->Rat} {g:Nat->Int}:∀ {n:Nat},(∀ i,i<n->f i=(g i:Rat))->bf f n=(uP g n:Rat)
 | 0,_=>rfl
 | n+1,h=>by
  rw [bf,uP,Ik fun i hi=>h i (by omega),h n (by omega),Rat.intCast_add]
def Jk (v R j w:Nat):Nat:=if w<v then AY R (j % R ^ v) w else if w=v then j / R ^ v else 0
def NV (v R j:Nat):Ex:=((Jk v R j 0:Int),(Jk v R j 1:Int),(Jk v R j 2:Int),(Jk v R j 3:Int))
theorem FD (v R j:Nat) {w:Nat} (hw:w<4):(NV v R j).get w=Jk v R j w:=by
 rcases w with _|_|_|_|w
 ·rfl
 ·rfl
 ·rfl
 ·rfl
 ·omega
theorem SY (v R j:Nat):(NV v R j).nat=true:=by rw [Ex.nat_iff];simp only [NV];omega
theorem Ex.ext4 {e f:Ex} (h:∀ w,w<4->e.get w=f.get w):e=f:=Ex.ext' (h 0 (by omega)) (h 1 (by omega)) (h 2 (by omega)) (h 3 (by omega))
def mo (v R j:Nat):MP:=⟨[(NV v R j,1)],zF (SY v R j) (by decide)⟩
theorem Uf (v R j:Nat):(mo v R j).dv 1:=fun t ht=>by rw [List.mem_singleton.1 ht];exact Dv.int 1 1
theorem Wn (v R j:Nat):(mo v R j).am=1:=by show bH 1+0=(1:Rat);rw [qD];decide +kernel
theorem J2 (v R j:Nat) {w:Nat} (hw:w<4):(mo v R j).deg w=Jk v R j w:=by
 show max (-1) ((NV v R j).get w)=_;rw [FD _ _ _ hw];omega
theorem U5 {v R:Nat} (hR:0<R) (j:Nat) {w:Nat} (h:w<v):Jk v R j w<R:=by rw [Jk,if_pos h];exact AZ hR _ _
theorem FE (v R j:Nat):Jk v R j v=j / R ^ v:=by rw [Jk,if_neg (by omega),if_pos rfl]
theorem S9 {v R:Nat} (hv:v<4) (hR:0<R) {i j:Nat} (h:NV v R i=NV v R j):i=j:=by
 have hw:∀ w,w<4->Jk v R i w=Jk v R j w:=fun w hw=>by
  have:=congrArg (Ex.get · w) h;simp only [FD _ _ _ hw] at this;omega
 have h1:=hw v hv;rw [FE,FE] at h1
 have h2:i % R ^ v=j % R ^ v:=E9 hR v _ _ (Nat.mod_lt _ (Nat.pow_pos hR)) (Nat.mod_lt _ (Nat.pow_pos hR)) fun w h=>by
  have:=hw w (by omega);rw [Jk,Jk,if_pos h,if_pos h] at this;exact this
 have:=Nat.div_add_mod i (R ^ v);have:=Nat.div_add_mod j (R ^ v);rw [h1,h2] at *;omega
theorem Il {W:Nat}:∀ (n:Nat) (y:Nat->Nat),(∀ i,i<n->y i<W)->∀ i,i<n->AY W (nA W y n) i=y i
 | 0,_,_=>fun i hi=>by omega
 | n+1,y,h=>fun i hi=>by
  have h0:=h 0 (by omega)
  cases i with
  | zero=>rw [AY,nA,Nat.add_mul_mod_self_left,Nat.mod_eq_of_lt h0]
  | succ i =>
   rw [AY,nA,Nat.add_mul_div_left _ _ (by omega),Nat.div_eq_of_lt h0,Nat.zero_add];exact Il n _ (fun i hi=>h (i+1) (by omega)) i (by omega)
theorem U6 {v R:Nat} (hv:v<4) (hR:0<R) {e:Ex} (h0:e.nat=true) (hlo:∀ w,w<v->e.get w<R) (hhi:∀ w,v<w->w<4->e.get w=0):∃ r,r<R ^ v/\e=NV v R (r+R ^ v*(e.get v).toNat):=by
 have hy:∀ i,i<v->(e.get i).toNat<R:=fun i hi=>by have:=hlo i hi;have:=Ex.nat_get h0 i;omega
 refine⟨nA R (fun w=>(e.get w).toNat) v,vU v _ hy,Ex.ext4 fun w hw=>?_⟩;have hlt:=vU v _ hy;rw [FD _ _ _ hw,Jk];have:=Ex.nat_get h0 w;by_cases h1:w<v
 ·rw [if_pos h1,Nat.add_mul_mod_self_left,Nat.mod_eq_of_lt hlt,Il v _ hy w h1];omega
 ·rw [if_neg h1];by_cases h2:w=v
  ·subst h2;rw [if_pos rfl,Nat.add_mul_div_left _ _ (Nat.pow_pos hR),Nat.div_eq_of_lt hlt,Nat.zero_add];omega
  ·rw [if_neg h2,hhi w (by omega) hw];rfl
def rV (v R A:Nat) (p q:MP) (j:Nat):MP:=if j<A then mo v R j*p else mo v R (j-A)*q
theorem D5 {v R j H:Nat} {p:MP} (h:p.am<=(H:Rat)):(mo v R j*p).am<=(H:Rat):=by
 have:=Bz (mo v R j) p;rw [Wn] at this;grind
theorem Io {v:Nat} (hv:v<4) {p q:MP} (lp:p.lo (v+1)) (lq:q.lo (v+1)) (ip:p.dv 1) (iq:q.dv 1) {m n k d H R X:Nat} (hm:p.deg v<=m) (hn:q.deg v<=n) (hkm:k<m) (hkn:k<n)
  (hp:∀ w,w<v->p.deg w<=d) (hq:∀ w,w<v->q.deg w<=d) (ap:p.am<=(H:Rat)) (aq:q.am<=(H:Rat)) (hR:0<R)
  (hX:(2*((m+n-2*k)*R ^ v*(X*H))+1) ^ ((m+n-2*k-1)*(R+d) ^ v)<(X+1) ^ ((m+n-2*k)*R ^ v)) :
  ∃ S T:MP,(S≠0\/T≠0)/\S.deg v<n-k/\(S*p+T*q).deg v<=k/\(∀ w,w<v->(S*p+T*q).deg w<=((R-1+d:Nat):Int))/\(S*p+T*q).dv 1/\(S*p+T*q).am<=(((m+n-2*k)*R ^ v*(X*H):Nat):Rat)/\(S*p+T*q).lo (v+1):=by
 obtain⟨u,hu⟩:∃ u,u=m+n - 2*k:=⟨_,rfl⟩;rw [<- hu] at hX ⊢;obtain⟨nS,hS⟩:∃ nS,nS=n - k:=⟨_,rfl⟩;obtain⟨nT,hT⟩:∃ nT,nT=m - k:=⟨_,rfl⟩;have huST:u=nS+nT:=by omega
 obtain⟨Q,hQ⟩:∃ Q,Q=R ^ v:=⟨_,rfl⟩;have hQ0:0<Q:=by rw [hQ];exact Nat.pow_pos hR
 rw [<- hQ] at hX ⊢;obtain⟨R',hR'⟩:∃ R',R'=R+d:=⟨_,rfl⟩;rw [<- hR'] at hX;obtain⟨Q',hQ'⟩:∃ Q',Q'=R' ^ v:=⟨_,rfl⟩;have hQ0':0<Q':=by rw [hQ'];exact Nat.pow_pos (by omega)
 rw [<- hQ'] at hX
 have hdvB:∀ j,(rV v R (nS*Q) p q j).dv 1:=fun j=>by
  unfold rV;split
  ·exact iL (Uf _ _ _) ip
  ·exact iL (Uf _ _ _) iq
 have hamB:∀ j,(rV v R (nS*Q) p q j).am<=(H:Rat):=fun j=>by
  unfold rV;split
  ·exact D5 ap
  ·exact D5 aq
 have hcf:∀ j e,∃ z:Int,cf (rV v R (nS*Q) p q j).l e=(z:Rat)/\z.natAbs<=H:=fun j e=>by
  obtain⟨z,hz⟩:=gH (DZ (hdvB j) e);refine⟨z,hz,UY ?_⟩;rw [<- hz];exact Rat.le_trans (U3 _ _) (hamB j)
 have hch:∃ M:Nat->Ex->Int,∀ j e,cf (rV v R (nS*Q) p q j).l e=(M j e:Rat)/\(M j e).natAbs<=H :=
  ⟨fun j e=>(cf (rV v R (nS*Q) p q j).l e).num,fun j e=>by
   obtain⟨z,hz,hz2⟩:=hcf j e
   simp only [hz];exact⟨rfl,hz2⟩⟩
 obtain⟨M,hM⟩:=hch;obtain⟨s,s1,⟨j0,j1,j2⟩,s3⟩:=UN (e:=(u - 1)*Q') (n:=u*Q) (H:=H) (X:=X) (fun i j=>M j (NV v R' (i+Q'*(k+1)))) (fun i j _ _=>(hM j _).2) hX
 let S:MP:=bZ (fun j=>c (s j:Rat)*mo v R j) (nS*Q)
 let T:MP:=bZ (fun j=>c (s (nS*Q+j):Rat)*mo v R j) (nT*Q)
 have hST:S*p+T*q=bZ (fun j=>c (s j:Rat)*rV v R (nS*Q) p q j) (u*Q):=by
  rw [huST,Nat.add_mul,uR,<- ui,<- ui]
  congr 1
  ·refine dF fun j hj=>?_;simp only [rV,if_pos hj];grind
  ·refine dF fun j hj=>?_;simp only [rV,if_neg (show ¬ nS*Q+j<nS*Q by omega),show nS*Q+j-nS*Q=j by omega];grind
 have hfr:∀ (r:Rat) (w:Nat),(c r).fr w:=fun r w=>by
  by_cases h:r=0
  ·rw [h];exact ry w
  ·exact rz one_ne (AR h) (qd w)
 have mow:∀ j w,w<v->(mo v R j).deg w<=(R-1:Nat):=fun j w hw=>by
  rw [J2 _ _ _ (by omega)];have:=U5 hR j hw;omega
 have mov:∀ j,(mo v R j).deg v=((j / Q:Nat):Int):=fun j=>by rw [J2 _ _ _ hv,FE,hQ]
 have hi:∀ j w,v<w->w<4->(mo v R j).deg w=0:=fun j w h1 h2=>by
  rw [J2 _ _ _ h2,Jk,if_neg (by omega),if_neg (by omega)];rfl
 have hbw:∀ j w,w<v->(rV v R (nS*Q) p q j).deg w<=(R-1+d:Nat):=fun j w hw=>by
  unfold rV;split
  ·exact Int.le_trans (dI w _ _ (mow j w hw) (hp w hw) (by omega)) (by omega)
  ·exact Int.le_trans (dI w _ _ (mow _ w hw) (hq w hw) (by omega)) (by omega)
 have hbh:∀ j w,v<w->w<4->(rV v R (nS*Q) p q j).deg w<=0:=fun j w h1 h2=>by
  unfold rV;split
  ·exact Int.le_trans (dI w _ _ (Int.le_of_eq (hi _ w h1 h2)) (lp w h1 h2) (by omega)) (by omega)
  ·exact Int.le_trans (dI w _ _ (Int.le_of_eq (hi _ w h1 h2)) (lq w h1 h2) (by omega)) (by omega)
 have hbv:∀ j,j<u*Q->(rV v R (nS*Q) p q j).deg v<=(m+n-k-1:Nat):=fun j hj=>by
  unfold rV;split
  ·rename_i h;have h1:j / Q<nS:=(Nat.div_lt_iff_lt_mul hQ0).2 h;have h2:=mov j;obtain⟨c,hc⟩:∃ c:Nat,c=j / Q:=⟨_,rfl⟩;rw [<- hc] at h1 h2;exact Int.le_trans (dI v _ _ (Int.le_of_eq h2) hm (by omega)) (by omega)
  ·rename_i h;have h1:(j - nS*Q) / Q<nT:=(Nat.div_lt_iff_lt_mul hQ0).2 (by rw [huST,Nat.add_mul] at hj;omega);have h2:=mov (j - nS*Q);obtain⟨c,hc⟩:∃ c:Nat,c=(j - nS*Q) / Q:=⟨_,rfl⟩;rw [<- hc] at h1 h2;exact Int.le_trans (dI v _ _ (Int.le_of_eq h2) hn (by omega)) (by omega)
 have hd:∀ (w:Nat) (D:Nat),(∀ j,j<u*Q->(rV v R (nS*Q) p q j).deg w<=D)->(S*p+T*q).deg w<=D:=fun w D h=>by
  rw [hST];refine oD (by omega) fun j hj=>?_;have:=dI w (c (s j:Rat)) _ (hfr _ w) (h j hj) (by omega);omega
 have hfw:∀ w,w<v->(S*p+T*q).deg w<=(R-1+d:Nat):=fun w hw=>hd w _ fun j _=>hbw j w hw;have hfh:∀ w,v<w->w<4->(S*p+T*q).deg w<=0:=fun w h1 h2=>hd w 0 fun j _=>hbh j w h1 h2;have hfv:(S*p+T*q).deg v<=(m+n-k-1:Nat):=hd v _ hbv
 have hne:∀ (f:Nat->Int) (N:Nat),bZ (fun j=>c (f j:Rat)*mo v R j) N=0->∀ j,j<N->f j=0:=by
  intro f N h0 j hj;have h1:=congrArg (fun g=>cf g.l (NV v R j)) h0;simp only [FC] at h1;rw [vS hj fun i hi hij=>?_,pM] at h1
  ·have e1:cf (mo v R j).l (NV v R j)=1:=by show cf [_] _=_;rw [bG,jd,if_pos rfl];exact Rat.add_zero _
   have e2:cf (0:MP).l (NV v R j)=0:=rfl;rw [e1,e2] at h1;exact Rat.intCast_inj.1 (by rw [Rat.mul_one] at h1;exact h1)
  ·rw [pM]
   have:cf (mo v R i).l (NV v R j)=0:=by
    show cf [_] _=_;rw [bG,jd,if_neg fun h=>hij (S9 hv hR h)];exact Rat.add_zero _
   rw [this];grind
 have hdvf:(S*p+T*q).dv 1:=by
  rw [hST];exact wH fun j _=>iL (uZ 1 _) (hdvB j)
 refine⟨S,T,?_,?_,?_,hfw,hdvf,?_,fun w h1 h2=>hfh w h1 h2⟩
 ·by_cases hS0:S=0
  ·refine .inr fun hT0=>j2 ?_;rcases Nat.lt_or_ge j0 (nS*Q) with h|h
   ·exact hne s _ hS0 j0 h
   ·have hlt2:u*Q=nS*Q+nT*Q:=by rw [huST,Nat.add_mul]
    have:=hne (fun j=>s (nS*Q+j)) (nT*Q) hT0 (j0-nS*Q) (by omega);simp only [show nS*Q+(j0-nS*Q)=j0 by omega] at this;exact this
  ·exact .inl hS0
 ·have:S.deg v<=(nS-1:Nat):=oD (by omega) fun j hj=>by
   have h1:j / Q<nS:=(Nat.div_lt_iff_lt_mul hQ0).2 hj;have h2:=mov j;obtain⟨x,hc⟩:∃ x:Nat,x=j / Q:=⟨_,rfl⟩;rw [<- hc] at h1 h2;have:=dI v (c (s j:Rat)) (mo v R j) (hfr _ v) (Int.le_of_eq h2) (by omega);omega
  omega
 ·by_cases hf0:S*p+T*q=0
  ·rw [hf0,deg_zero];omega
  ·rcases Int.lt_or_le k ((S*p+T*q).deg v) with hlt|nz
   ·exfalso;obtain⟨t,ht,e⟩:=kQ (fun h=>hf0 (zero_iff.2 h)) (S*p+T*q).v.nat v;have e':t.1.get v=(S*p+T*q).deg v:=e;have tn:=(S*p+T*q).v.nat t ht
    obtain⟨r,r1,r2⟩:=U6 hv (show 0<R' by omega) tn (fun w hw=>by
     have:=dU ht w;have h':aG (S*p+T*q).l w<=(R-1+d:Nat):=hfw w hw;omega) (fun w h1 h2=>by
     have:=dU ht w;have h':aG (S*p+T*q).l w<=0:=hfh w h1 h2;have:=Ex.nat_get tn w;omega)
    rw [<- hQ'] at r1 r2;obtain⟨l,hl⟩:∃ l,l=(t.1.get v).toNat:=⟨_,rfl⟩;rw [<- hl] at r2;have hlk:k+1<=l/\l<k+1+(u - 1):=by omega
    have hi:r+Q'*(l-(k+1))<(u-1)*Q':=by
     have:=Nat.mul_le_mul_left Q' (show l-(k+1)+1<=u-1 by omega);rw [Nat.mul_succ,Nat.mul_comm Q' (u-1)] at this;omega
    have h3:=s3 _ hi
    have e3:r+Q'*(l-(k+1))+Q'*(k+1)=r+Q'*l:=by
     rw [Nat.add_assoc,<- Nat.mul_add];congr 2;omega
    simp only [e3,<- r2] at h3
    have h4:cf (S*p+T*q).l t.1=0:=by
     rw [hST,FC,Ik (g:=fun j=>s j*M j t.1) fun i _=>by rw [pM,(hM i _).1,Rat.intCast_mul],h3];rfl
    rw [JZ ht] at h4;exact ((S*p+T*q).v.2 t ht).1 h4
   ·exact nz
 ·rw [hST];have:(((u*Q*(X*H):Nat)):Rat)=((u*Q:Nat):Rat)*((X*H:Nat):Rat):=by rw [Rat.natCast_mul]
  rw [this];refine LY fun j _=>?_;have h1:=Bz (c (s j:Rat)) (rV v R (nS*Q) p q j);rw [Ij] at h1;refine Rat.le_trans h1 ?_;rw [Rat.natCast_mul];refine pG ?_ (hamB j) (eu _) Rat.natCast_nonneg;have h2:=s1 j;unfold bH;split
  ·rw [<- Rat.intCast_neg,<- Rat.intCast_natCast];exact Rat.intCast_le_intCast.2 (by omega)
  ·rw [<- Rat.intCast_natCast];exact Rat.intCast_le_intCast.2 (by omega)
end MP
end Q
end
section
namespace Q
def OO (p:Nat):Prop:=1<p/\∀ m,m∣p->m=1\/m=p
theorem U7:∀ n:Nat,1<n->∃ p,OO p/\p∣n:=fun n=>by
 induction n using Nat.strongRecOn with
 | _ n ih =>
  intro h;by_cases hp:OO n
  ·exact⟨n,hp,Nat.dvd_refl n⟩
  ·have:∃ m,m∣n/\m≠1/\m≠n:=by
    rcases Classical.em (∃ m,m∣n/\m≠1/\m≠n) with h'|h'
    ·exact h'
    ·exfalso;apply hp;refine⟨h,fun m hm=>?_⟩;rcases Classical.em (m=1) with h1|h1
     ·exact .inl h1
     ·rcases Classical.em (m=n) with h2|h2
      ·exact .inr h2
      ·exact absurd ⟨m,hm,h1,h2⟩ h'
   obtain⟨m,hm,h1,h2⟩:=this;have nz:=Nat.le_of_dvd (by omega) hm;have h0:m≠0:=fun e=>by rw [e] at hm;have:=Nat.eq_zero_of_zero_dvd hm;omega
   obtain⟨p,hp,hd⟩:=ih m (by omega) (by omega);exact⟨p,hp,Nat.dvd_trans hd hm⟩
theorem zM {p:Nat} (hp:OO p) {a b:Int} (h:(p:Int)∣a*b):(p:Int)∣a\/(p:Int)∣b:=by
 rcases hp.2 _ (Nat.gcd_dvd_left p a.natAbs) with h1|h1
 ·right;have h2:p∣a.natAbs*b.natAbs:=by rw [<- Int.natAbs_mul];exact Int.ofNat_dvd_left.1 h
  exact Int.ofNat_dvd_left.2 (Nat.Coprime.dvd_of_dvd_mul_left h1 h2)
 ·left;have:=Nat.gcd_dvd_right p a.natAbs;rw [h1] at this;exact Int.ofNat_dvd_left.2 this
namespace MP
theorem um (r:Rat) (p:MP):c r*p=⟨bY p.l r,p.v.scale r⟩:=ext' fun x=>by
 rw [ev_mul,ev_c];have:=Q.ev_scale x p.l r;show r*Q.ev x p.l=Q.ev x (bY p.l r);rw [this];grind
theorem rH (r:Rat) (p:MP):(c r*p).am=bH r*p.am:=by
 rw [um];show bD (bY p.l r)=bH r*bD p.l;unfold bY;split
 ·rename_i h;rw [h];show (0:Rat)=_;have e:bH 0=0:=by decide
  rw [e];grind
 ·induction p.l with
  | nil=>simp only [List.map_nil,bD];grind
  | cons t l ih=>simp only [List.map_cons,bD,jo] at *;grind
theorem BA {r:Rat} {p:MP} {t:ai} (h:t∈(c r*p).l):∃ s∈p.l,t=(s.1,s.2*r):=by
 rw [um] at h;exact xZ h
theorem qE {D:Nat} {p:MP} (h:p.dv D):(c (D:Rat)*p).dv 1:=fun t ht=>by
 obtain⟨s,hs,rfl⟩:=BA ht;obtain⟨k,hk⟩:=h s hs;exact⟨k,by show s.2*D*((1:Nat):Rat)=k;rw [hk,show ((1:Nat):Rat)=1 from rfl,Rat.mul_one]⟩
theorem jk {D:Nat} (h:0<D):(D:Rat)≠0:=fun h'=>by
 have:(D:Rat)=((0:Nat):Rat):=h';have:=Rat.natCast_inj.1 this;omega
theorem J3 {D:Nat} (h0:0<D) {p:MP} (h:(c (D:Rat)*p).dv 1):p.dv D:=fun t ht=>by
 have e:cf (c (D:Rat)*p).l t.1=D*t.2:=by rw [pM,JZ ht]
 obtain⟨z,hz⟩:=gH (DZ h t.1);exact⟨z,by rw [<- hz,e];grind⟩
def BD (p:Nat) (P:MP):Prop:=∃ P':MP,P'.dv 1/\P=c (p:Rat)*P'
theorem FH {p:Nat} {a b:MP} (h:BD p a) (h':BD p b):BD p (a+b):=by
 obtain⟨x,hx,rfl⟩:=h;obtain⟨y,hy,rfl⟩:=h';exact⟨x+y,Bt hx hy,by grind⟩
theorem Ta {p:Nat} {a b:MP} (h:BD p a) (h':BD p b):BD p (a-b):=by
 obtain⟨x,hx,rfl⟩:=h;obtain⟨y,hy,rfl⟩:=h';exact⟨x - y,Bw hx hy,by grind⟩
theorem L6 {p:Nat} {a b:MP} (h:BD p a) (h':b.dv 1):BD p (a*b):=by
 obtain⟨x,hx,rfl⟩:=h;exact⟨x*b,iL hx h',by grind⟩
theorem P9 {p:Nat} {a b:MP} (h:BD p b) (h':a.dv 1):BD p (a*b):=by
 obtain⟨x,hx,rfl⟩:=h;exact⟨a*x,iL h' hx,by grind⟩
theorem tu (p:Nat):BD p 0:=⟨0,FB 1,by grind⟩
theorem Tc (f:Ex->Rat) (b:ai->Bool) (l:List ai):Lf f l=Lf f (l.filter b)+Lf f (l.filter fun t=>!b t):=by
 induction l with
 | nil=>simp only [List.filter_nil,Lf];grind
 | cons t l ih=>cases hb:b t <;> simp only [List.filter_cons,hb,Lf,ih,Bool.not_true,Bool.not_false,if_true,if_false,Bool.false_eq_true] <;> grind
def RN (b:ai->Bool) (p:MP):MP:=⟨p.l.filter b,p.v.sublist List.filter_sublist⟩
theorem FI (b:ai->Bool) (p:MP):p=RN b p+RN (fun t=>!b t) p:=Nv fun f=>by rw [lf_add];exact Tc f b p.l
theorem J4 {D:Nat} {b:ai->Bool} {p:MP} (h:p.dv D):(RN b p).dv D:=fun t ht=>h t (List.mem_filter.1 ht).1
def C8 (p:Nat) (t:ai):Bool:=decide (t.2.num % (p:Int)=0)
theorem FJ {p:Nat} (hp:0<p) {P:MP} (h:P.dv 1):BD p (RN (C8 p) P):=by
 refine⟨c ((p:Rat)⁻¹)*RN (C8 p) P,fun t ht=>?_,?_⟩
 ·obtain⟨s,hs,rfl⟩:=BA ht;have hs':s∈P.l.filter (C8 p):=hs;obtain⟨h1,h2⟩:=List.mem_filter.1 hs';obtain⟨z,hz⟩:=gH (h s h1);have h3:s.2.num % (p:Int)=0:=of_decide_eq_true h2;rw [hz] at h3;have h3:z % (p:Int)=0:=h3;obtain⟨k,rfl⟩:=Int.dvd_of_emod_eq_zero h3;refine⟨k,?_⟩;show s.2*(p:Rat)⁻¹*((1:Nat):Rat)=k;rw [hz,Rat.intCast_mul,Rat.intCast_natCast,show ((1:Nat):Rat)=1 from rfl];have:=Rat.mul_inv_cancel _ (jk hp);grind
 ·have e:c (p:Rat)*c ((p:Rat)⁻¹)=1:=by rw [lv,Rat.mul_inv_cancel _ (jk hp)];rfl
  grind
theorem Td {G H:MP} {s t:ai} {l r:List ai} (hG:G.l=s::l) (hH:H.l=t::r):cf (G*H).l (s.1.add t.1)=s.2*t.2:=by
 have h1:cf (G*H).l (s.1.add t.1)=cf (prods G.l H.l) (s.1.add t.1):=(iN (G.v.nat.prods H.v.nat)).cf _;rw [h1,hG,hH];exact qc (by rw [<- hG];exact G.v.1) (by rw [<- hH];exact H.v.1)
theorem D6 {p:Nat} (hp:OO p) {G H:MP} (iG:G.dv 1) (iH:H.dv 1) (h:BD p (G*H)):BD p G\/BD p H:=by
 have hp0:0<p:=by have:=hp.1;omega
 have eG:=FI (C8 p) G;have eH:=FI (C8 p) H;have zG:=FJ hp0 iG;have zH:=FJ hp0 iH;obtain⟨G2,hG2⟩:∃ g,g=RN (fun t=>!C8 p t) G:=⟨_,rfl⟩;obtain⟨H2,hH2⟩:∃ g,g=RN (fun t=>!C8 p t) H:=⟨_,rfl⟩;have iG2:G2.dv 1:=by rw [hG2];exact J4 iG
 have iH2:H2.dv 1:=by rw [hH2];exact J4 iH
 rw [<- hG2] at eG;rw [<- hH2] at eH
 cases hGl:G2.l with
 | nil=>left;rw [eG,zero_iff.2 hGl];exact FH zG (tu p)
 | cons s l =>
  cases hHl:H2.l with
  | nil=>right;rw [eH,zero_iff.2 hHl];exact FH zH (tu p)
  | cons t r =>
   exfalso
   have hz:BD p (G2*H2):=by
    have e:G2*H2=G*H-(RN (C8 p) G*H+G2*RN (C8 p) H):=by grind
    rw [e];exact Ta h (FH (L6 zG iH) (P9 zH iG2))
   obtain⟨P',iP,eP⟩:=hz;have h1:=Td hGl hHl;rw [eP,pM] at h1;obtain⟨z,hz⟩:=gH (DZ iP (s.1.add t.1));obtain⟨x,hx⟩:=gH (iG2 s (by rw [hGl];simp));obtain⟨y,hy⟩:=gH (iH2 t (by rw [hHl];simp));rw [hz,hx,hy,<- Rat.intCast_natCast,<- Rat.intCast_mul,<- Rat.intCast_mul] at h1;have h2:=Rat.intCast_inj.1 h1;have hs0:s∈G2.l:=by rw [hGl];simp
   have ht0:t∈H2.l:=by rw [hHl];simp
   rw [hG2] at hs0;rw [hH2] at ht0;have hs:s∈G.l.filter (fun t=>!C8 p t):=hs0;have ht:t∈H.l.filter (fun t=>!C8 p t):=ht0;have hs':=(List.mem_filter.1 hs).2;have ht':=(List.mem_filter.1 ht).2;simp only [C8,Bool.not_eq_true',decide_eq_false_iff_not,hx,hy] at hs' ht';rcases zM hp ⟨z,h2.symm⟩ with h|h
   ·exact hs' (Int.emod_eq_zero_of_dvd h)
   ·exact ht' (Int.emod_eq_zero_of_dvd h)
def pz (G:MP):Prop:=G.dv 1/\∀ p,OO p->¬ BD p G
theorem oJ {n:Nat} (h:1<=n):(1:Rat)<=(n:Rat):=by
 have e:(1:Rat)=((1:Nat):Rat):=rfl;rw [e];exact Rat.natCast_le_natCast.2 h
theorem rabs_int {z:Int} (h:z≠0):(1:Rat)<=bH (z:Rat):=by
 unfold bH;have e:(1:Rat)=((1:Int):Rat):=rfl;split
 ·rename_i h';have e0:(0:Rat)=((0:Int):Rat):=rfl;rw [e0] at h';have:z<0:=Rat.intCast_lt_intCast.1 h';rw [e,<- Rat.intCast_neg];exact Rat.intCast_le_intCast.2 (by omega)
 ·rename_i h';have e0:(0:Rat)=((0:Int):Rat):=rfl;rw [e0] at h';have:¬ z<0:=fun hz=>h' (Rat.intCast_lt_intCast.2 hz);rw [e];exact Rat.intCast_le_intCast.2 (by omega)
theorem kW {p:MP} (h:p≠0):∃ t l,p.l=t::l:=by
 cases e:p.l with
 | nil=>exact absurd (zero_iff.2 e) h
 | cons t l=>exact⟨t,l,rfl⟩
theorem D7 {p:MP} (h:p.dv 1) (h0:p≠0):1<=p.am:=by
 obtain⟨t,l,e⟩:=kW h0;have ht:t∈p.l:=by rw [e];simp
 obtain⟨z,hz⟩:=gH (h t ht);have h1:=sF ht
 have h2:(1:Rat)<=bH t.2:=by
  rw [hz];refine rabs_int fun e0=>(p.v.2 t ht).1 ?_;rw [hz,e0];rfl
 show 1<=bD p.l;grind
theorem wI {r:Rat} (h:r≠0):c r≠0:=E8 (AR h)
theorem Ug:∀ (k:Nat) (P:MP),P≠0->P.dv 1->P.am<=(2:Rat) ^ k->∃ r:Rat,r≠0/\pz (c r*P)
 | k,P,h0,h1,h2=>by
  by_cases hz:∃ p,OO p/\BD p P
  ·obtain⟨p,hp,P',i',e⟩:=hz;have hp0:0<p:=by have:=hp.1;omega
   have h0':P'≠0:=fun e'=>h0 (by rw [e,e'];grind)
   have ha:(p:Rat)*P'.am=P.am:=by
    rw [e,rH,bJ (by have:(0:Rat)<=(p:Rat):=Rat.natCast_nonneg;exact this)]
   have hg:=D7 i' h0'
   have hp2:(2:Rat)<=(p:Rat):=by
    have e2:(2:Rat)=((2:Nat):Rat):=rfl;rw [e2];exact Rat.natCast_le_natCast.2 hp.1
   have hm:(2:Rat)*P'.am<=(p:Rat)*P'.am:=Rat.mul_le_mul_of_nonneg_right hp2 (by grind)
   cases k with
   | zero=>exfalso;rw [Rat.pow_zero] at h2;grind
   | succ k =>
    rw [Rat.pow_succ] at h2;obtain⟨r,hr,hpz⟩:=Ug k P' h0' i' (by grind);refine⟨r*(p:Rat)⁻¹,je hr (fun h=>jk hp0 (by have:=Rat.mul_inv_cancel _ (jk hp0);rw [h] at this;grind)),?_⟩
    have e2:c (r*(p:Rat)⁻¹)*P=c r*P':=by
     rw [e,<- lv];have e:c ((p:Rat)⁻¹)*c (p:Rat)=1:=by rw [lv,Rat.inv_mul_cancel _ (jk hp0)];rfl
     grind
    rw [e2];exact hpz
  ·refine⟨1,by decide,?_⟩;have e:c 1*P=P:=by rw [AQ];grind
   rw [e];exact⟨h1,fun p hp h=>hz ⟨p,hp,h⟩⟩
theorem Qa:∀ l:List ai,∃ D,0<D/\∀ t∈l,Dv D t.2
 | []=>⟨1,by omega,fun _ h=>by cases h⟩
 | t::l=>by
  obtain⟨D,h1,h2⟩:=Qa l
  have ht:Dv t.2.den t.2:=⟨t.2.num,by
   have h1:(t.2.den:Rat)≠0:=jk t.2.den_pos;have h2:=Rat.num_divInt_den t.2;rw [Rat.divInt_eq_div,Rat.intCast_natCast] at h2;have h3:(t.2.num:Rat) / (t.2.den:Rat)*(t.2.den:Rat)=t.2.num:=Rat.div_mul_cancel h1
   rwa [h2] at h3⟩
  refine⟨t.2.den*D,Nat.mul_pos t.2.den_pos h1,fun s hs=>?_⟩;rcases List.mem_cons.1 hs with rfl|hs
  ·exact ht.dvd (Nat.dvd_mul_right _ _)
  ·exact (h2 s hs).dvd (Nat.dvd_mul_left _ _)
theorem J5 (r:Rat):∃ k:Nat,r<=(2:Rat) ^ k:=by
 have hn:∀ n:Nat,(n:Rat)<=(2:Rat) ^ n:=fun n=>by
  induction n with
  | zero=>rw [Rat.pow_zero];decide
  | succ n ih =>
   have h1:(1:Rat)<=(2:Rat) ^ n:=by have:=(xG (T:=2) (by decide) (Nat.zero_le n)).2;rwa [Rat.pow_zero] at this
   rw [Rat.pow_succ,Rat.natCast_add];have e:((1:Nat):Rat)=1:=rfl;rw [e];grind
 refine⟨r.num.natAbs,Rat.le_trans ?_ (hn _)⟩
 have h1:r*(r.den:Rat)=r.num:=by
  have h1:(r.den:Rat)≠0:=jk r.den_pos;have h2:=Rat.num_divInt_den r;rw [Rat.divInt_eq_div,Rat.intCast_natCast] at h2;have h3:(r.num:Rat) / (r.den:Rat)*(r.den:Rat)=r.num:=Rat.div_mul_cancel h1;rwa [h2] at h3
 rcases xH r with hr|hr
 ·have:(0:Rat)<=(r.num.natAbs:Rat):=Rat.natCast_nonneg;grind
 ·have h4:(1:Rat)<=(r.den:Rat):=by
   have e:(1:Rat)=((1:Nat):Rat):=rfl;rw [e];exact Rat.natCast_le_natCast.2 r.den_pos
  have h5:r*1<=r*(r.den:Rat):=Rat.mul_le_mul_of_nonneg_left h4 hr;have h6:(r.num:Rat)<=(r.num.natAbs:Rat):=by rw [<- Rat.intCast_natCast];exact Rat.intCast_le_intCast.2 (by omega)
  grind
theorem Qb {P:MP} (h:P≠0):∃ r:Rat,r≠0/\pz (c r*P):=by
 obtain⟨D,h1,h2⟩:=Qa P.l;obtain⟨k,hk⟩:=J5 (c (D:Rat)*P).am;obtain⟨r,hr,hp⟩:=Ug k (c (D:Rat)*P) (mul_ne (wI (jk h1)) h) (qE h2) hk;refine⟨r*D,je hr (jk h1),?_⟩;rw [<- lv];have e:c r*c (D:Rat)*P=c r*(c (D:Rat)*P):=by grind
 rw [e];exact hp
theorem J6 {F G H:MP} (iF:F.dv 1) (hG:pz G) (e:F=G*H):H.dv 1:=by
 obtain⟨D,h1,h2⟩:=Qa H.l
 have key:∀ D:Nat,0<D->H.dv D->H.dv 1:=fun D=>by
  induction D using Nat.strongRecOn with
  | _ D ih =>
   intro h1 h2;rcases Nat.eq_or_lt_of_le (show 1<=D by omega) with e1|hlt
   ·rw [<- e1] at h2;exact h2
   ·obtain⟨p,hp,D',rfl⟩:=U7 D hlt;have hp1:=hp.1;have hD':0<D':=Nat.pos_of_mul_pos_left h1
    have hz:BD p (G*(c ((p*D':Nat):Rat)*H)):=⟨c (D':Rat)*F,iL (NU ⟨D',by rw [show ((1:Nat):Rat)=1 from rfl,Rat.mul_one,Rat.intCast_natCast]⟩) iF,by
     rw [e,Rat.natCast_mul,<- lv];grind⟩
    rcases D6 hp hG.1 (qE h2) hz with h|h
    ·exact absurd h (hG.2 p hp)
    ·obtain⟨K,iK,eK⟩:=h
     have:c (D':Rat)*H=K:=cancel (wI (jk (by omega:0<p))) (by
      rw [<- eK,Rat.natCast_mul,<- lv];grind)
     refine ih D' ?_ hD' (J3 hD' (by rw [this];exact iK));have:=Nat.mul_le_mul_right D' hp1;omega
 exact key D h1 h2
def at' (w:Nat) (r:Rat) (p:MP):MP:=⟨vQ p.l w r,aV.eval _ _ _⟩
theorem qF (x:Pt) (w:Nat) (r:Rat) (p:MP):(at' w r p).ev x=p.ev (x.put w r):=Q.ev_eval x p.v.nat w r
theorem U8 (w:Nat) (r:Rat) (p q:MP):at' w r (p+q)=at' w r p+at' w r q:=ext' fun x=>by rw [qF,ev_add,ev_add,qF,qF]
theorem BF (w:Nat) (r:Rat) (p q:MP):at' w r (p*q)=at' w r p*at' w r q:=ext' fun x=>by rw [qF,ev_mul,ev_mul,qF,qF]
theorem U9 (w:Nat) (r:Rat) (p q:MP):at' w r (p-q)=at' w r p-at' w r q:=ext' fun x=>by rw [qF,ev_sub,ev_sub,qF,qF]
theorem XK (w:Nat) (r s:Rat):at' w r (c s)=c s:=ext' fun x=>by rw [qF,ev_c,ev_c]
theorem Qc {w:Nat} (r:Rat) {p:MP} (h:p.fr w):at' w r p=p:=ext' fun x=>by
 rw [qF];have e:=split w p (N:=1) (by have h':p.deg w<=0:=h;omega);have h1:∀ y:Pt,p.ev y=(p.co w 0).ev y:=fun y=>by rw [AP h]
 show Lf (kP (x.put w r)) p.l=Lf (kP x) p.l;refine gK fun t ht=>?_;rw [zD,fr_get h ht];have e2:t.1.put w 0=t.1:=by rw [<- fr_get h ht,Ex.put_get]
 rw [e2];simp [Rat.pow_zero]
theorem L9 (w:Nat) (r:Rat) (p:MP):(at' w r p).fr w:=Nu _ _ _
theorem FK {w:Nat} (r:Rat) (p:MP) {u d:Nat} (hw:w<4) (hu:u<4) (h:p.deg u<=d):(at' w r p).deg u<=d:=by
 have:∀ t∈(at' w r p).l,t.1.get u<=d:=by
  refine gL (P:=fun e=>e.get u<=d) fun t ht=>?_;obtain⟨s,hs,rfl⟩:=List.mem_map.1 ht;have h1:=dU hs u;have h':aG p.l u<=d:=h;by_cases hc:w=u
  ·subst hc;show (s.1.put w 0).get w<=d;rw [Ex.get_put];omega
  ·show (s.1.put w 0).get u<=d;rw [Ex.get_put_ne _ hw hu hc];omega
 rcases (gW (fun t=>t.1.get u) (at' w r p).l (-1)).2.2 with e|⟨t,ht,e⟩
 ·show aG _ u<=_;unfold aG;rw [e];omega
 ·show aG _ u<=_;unfold aG;rw [<- e];exact this t ht
theorem Wo {n:Nat} (hn:n<4) {p:MP} (h:p.lo (n+1)) (r:Rat):(at' n r p).lo n:=fun w h1 h2=>by
 rcases Nat.eq_or_lt_of_le h1 with e|hlt
 ·subst e;exact L9 _ _ _
 ·have h3:p.deg w<=(0:Nat):=h w hlt h2;exact FK r p hn h2 h3
theorem Qd {D:Nat} {p:MP} (h:p.dv D) (w:Nat) (i:Int):(at' w (i:Rat) p).dv D:=wG fun t ht=>by
 obtain⟨s,hs,rfl⟩:=List.mem_map.1 ht
 have h1:Dv 1 ((i:Rat) ^ (s.1.get w).toNat):=by
  induction (s.1.get w).toNat with
  | zero=>rw [Rat.pow_zero];exact Dv.int 1 1
  | succ n ih=>rw [Rat.pow_succ];exact ih.mul (Dv.int 1 i)
 have:=(h s hs).mul h1;rw [Nat.mul_one] at this;exact this
theorem Wq {p:MP} {w d i T:Nat} (hd:p.deg w<=d) (hi:i<=T) (hT:1<=T):(at' w ((i:Nat):Rat) p).am<=p.am*(T:Rat) ^ d:=by
 have h1:=oI (evalL p.l w (i:Rat));refine Rat.le_trans h1 ?_
 have h2:∀ t∈p.l,bH (t.2*(i:Rat) ^ (t.1.get w).toNat)<=bH t.2*(T:Rat) ^ d:=fun t ht=>by
  rw [jo]
  refine pG Rat.le_refl ?_ (eu _) (by
   exact (xG (T:=(T:Rat)) (oJ hT) (Nat.le_refl d)).1)
  have hk:(t.1.get w).toNat<=d:=by have:=dU ht w;have h':aG p.l w<=d:=hd;omega
  have h3:∀ k:Nat,0<=(i:Rat) ^ k/\(i:Rat) ^ k<=(T:Rat) ^ k:=fun k=>by
   induction k with
   | zero=>rw [Rat.pow_zero,Rat.pow_zero];exact⟨by decide,Rat.le_refl⟩
   | succ k ih =>
    rw [Rat.pow_succ,Rat.pow_succ];have hiT:(i:Rat)<=(T:Rat):=Rat.natCast_le_natCast.2 hi;have hi0:(0:Rat)<=(i:Rat):=Rat.natCast_nonneg;exact⟨Rat.mul_nonneg ih.1 hi0,pG ih.2 hiT ih.1 (Rat.le_trans hi0 hiT)⟩
  rw [bJ (h3 _).1];exact Rat.le_trans (h3 _).2 (xG (T:=(T:Rat)) (oJ hT) hk).2
 exact ET h2
def Ip (w:Nat) (r:Rat):MP:=xk w 1-c r
theorem nN (r:Rat) (w:Nat):(c r).fr w:=by
 by_cases h:r=0
 ·rw [h];exact ry w
 ·exact rz one_ne (AR h) (qd w)
theorem FL (w:Nat) (r:Rat):(Ip w r).deg w=1:=by
 have h1:(Ip w r).co w 1=1:=by rw [Ip,co_sub,fe,if_pos rfl,JF (nN r w) (by omega)];grind
 have h2:=oz w (xk w 1) (c r);rw [deg_xk] at h2;have h3:(c r).deg w<=0:=nN r w;rcases Int.lt_or_le ((Ip w r).deg w) 1 with h|h
 ·exfalso;rw [co_above (by omega)] at h1;exact one_ne h1.symm
 ·have:(Ip w r).deg w<=max ((1:Nat):Int) ((c r).deg w):=h2;omega
theorem Qe (w:Nat) (r:Rat):Ip w r≠0:=fun h=>by have:=FL w r;rw [h,deg_zero] at this;omega
theorem Qf (x:Pt) (w:Nat) (r:Rat):(Ip w r).ev x=x.get w-r:=by rw [Ip,ev_sub,ev_xk,ev_c,Rat.pow_succ,Rat.pow_zero];grind
theorem Qg (w:Nat) (r:Rat):∀ k:Nat,Ip w r∣xk w k-c (r ^ k)
 | 0=>⟨0,ext' fun x=>by rw [ev_sub,ev_xk,ev_c,ev_mul,ev_zero,Rat.pow_zero,Rat.pow_zero];grind⟩
 | k+1=>by
  obtain⟨q,hq⟩:=Qg w r k;refine⟨xk w 1*q+c (r ^ k),ext' fun x=>?_⟩;have:=congrArg (MP.ev x) hq;simp only [ev_sub,ev_mul,ev_add,ev_xk,ev_c,Qf,Rat.pow_succ,Rat.pow_zero] at *;grind
theorem Qh (w:Nat) (r:Rat) (p:MP):Ip w r∣p-at' w r p:=by
 obtain⟨N,hN⟩:∃ N,N=(p.deg w).toNat+1:=⟨_,rfl⟩;have e:=split w p (N:=N) (by have:=deg_ge w p;omega)
 have hat:∀ (f:Nat->MP) n,at' w r (bZ f n)=bZ (fun i=>at' w r (f i)) n:=fun f n=>by
  induction n with
  | zero=>rfl
  | succ n ih=>rw [bZ,U8,ih];rfl
 have hx:∀ k,at' w r (xk w k)=c (r ^ k):=fun k=>ext' fun x=>by
  rw [qF,ev_xk,ev_c];have:(x.put w r).get w=r:=by rcases w with _|_|_|w <;> rfl
  rw [this]
 have e2:p-at' w r p=bZ (fun n=>p.co w n*(xk w n-c (r ^ n))) N:=by
  have h1:at' w r p=bZ (fun n=>p.co w n*c (r ^ n)) N:=by
   have h2:=congrArg (at' w r) e;rw [hat] at h2;rw [h2];exact dF fun i _=>by rw [BF,Qc r (co_fr _ _ _),hx]
  rw [h1];have h3:=JW (bZ (fun n=>p.co w n*xk w n) N) (bZ (fun n=>p.co w n*c (r ^ n)) N);rw [<- e] at h3;rw [h3,<- GU];have h4:p+bZ (fun i=>-(p.co w i*c (r ^ i))) N=bZ (fun n=>p.co w n*xk w n) N+bZ (fun i=>-(p.co w i*c (r ^ i))) N:=by rw [<- e]
  rw [h4,<- AV];exact dF fun i _=>by grind
 rw [e2];exact dvd_msum fun i _=>dvd_mul_of' (Qg w r i) _
theorem Qi (w:Nat) (r s:Rat):at' w s (Ip w r)=c (s-r):=ext' fun x=>by
 rw [qF,Qf,ev_c];have:(x.put w s).get w=s:=by rcases w with _|_|_|w <;> rfl
 rw [this]
theorem Va {w i T:Nat} (h:i<=T):(Ip w ((i:Nat):Rat)).am<=((T+1:Nat):Rat):=by
 have h1:=JY (xk w 1) (c ((i:Nat):Rat));rw [Ij,bJ Rat.natCast_nonneg] at h1;have h2:(xk w 1).am=1:=by show bH 1+0=(1:Rat);rw [qD];decide +kernel
 rw [h2] at h1;have h3:((i:Nat):Rat)<=(T:Rat):=Rat.natCast_le_natCast.2 h;have e:((1:Nat):Rat)=1:=rfl;show (xk w 1-c ((i:Nat):Rat)).am<=_;rw [Rat.natCast_add,e];grind
theorem Qj {w T:Nat} {M:Rat}:∀ (k:Nat) (M:Rat) (G:MP),0<=M->G.deg w<=k->∀ L:List Nat,L.length=k+1->L.Nodup->(∀ i∈L,i<=T/\(at' w ((i:Nat):Rat) G).am<=M)->G.am<=((2*T+3:Nat):Rat) ^ k*M
 | 0,M,G,hM,hd,L,hL,_,h=>by
  obtain⟨i,rfl⟩:=List.length_eq_one_iff.1 hL;have:=(h i (by simp)).2;rw [Qc _ hd] at this;rw [Rat.pow_zero];grind
 | k+1,M,G,hM,hd,L,hL,hn,h=>by
  cases L with
  | nil=>simp at hL
  | cons i L =>
   obtain⟨G1,e⟩:=Qh w ((i:Nat):Rat) G;have hi:=h i (by simp);have hnd:=List.nodup_cons.1 hn;have eG:G=Ip w ((i:Nat):Rat)*G1+at' w ((i:Nat):Rat) G:=by grind
   have hd1:G1.deg w<=k:=by
    by_cases h0:G1=0
    ·rw [h0,deg_zero];omega
    ·have h1:=oz w G (at' w ((i:Nat):Rat) G);rw [e,deg_mul (Qe _ _) h0,FL] at h1;have h2:(at' w ((i:Nat):Rat) G).deg w<=0:=L9 _ _ _;omega
   have hv:∀ j∈L,j<=T/\(at' w ((j:Nat):Rat) G1).am<=2*M:=fun j hj=>by
    have hj':=h j (by simp [hj]);refine⟨hj'.1,?_⟩;have h1:=congrArg (at' w ((j:Nat):Rat)) e;rw [U9,BF,Qi,Qc _ (L9 w _ G)] at h1;have h2:=JY (at' w ((j:Nat):Rat) G) (at' w ((i:Nat):Rat) G);rw [h1,rH] at h2
    have hne:(j:Int)-i≠0:=fun hh=>by
     have hji:j=i:=by omega
     exact hnd.1 (by rw [<- hji];exact hj)
    have h3:=rabs_int hne
    have e3:((((j:Int)-i:Int)):Rat)=((j:Nat):Rat)-((i:Nat):Rat):=by
     rw [Rat.intCast_sub,Rat.intCast_natCast,Rat.intCast_natCast]
    rw [e3] at h3;have h4:=am_nonneg (at' w ((j:Nat):Rat) G1);have h5:1*(at' w ((j:Nat):Rat) G1).am<=bH (((j:Nat):Rat)-((i:Nat):Rat))*(at' w ((j:Nat):Rat) G1).am:=Rat.mul_le_mul_of_nonneg_right h3 h4;have h6:=hi.2;have h7:=hj'.2;grind
   have ih:=Qj (w:=w) (T:=T) (M:=M) k (2*M) G1 (by grind) hd1 L (by simpa using hL) hnd.2 hv;obtain⟨P,hP⟩:∃ P,P=((2*T+3:Nat):Rat) ^ k:=⟨_,rfl⟩
   have hP1:1<=P:=by
    have:=(xG (T:=((2*T+3:Nat):Rat)) (oJ (by omega)) (Nat.zero_le k)).2;rw [Rat.pow_zero] at this;rw [hP];exact this
   have h1:=JX (Ip w ((i:Nat):Rat)*G1) (at' w ((i:Nat):Rat) G);rw [<- eG] at h1;have h2:=Bz (Ip w ((i:Nat):Rat)) G1;have h3:=Va (w:=w) hi.1;have h4:=am_nonneg G1;have h5:(Ip w ((i:Nat):Rat)).am*G1.am<=((T+1:Nat):Rat)*(P*(2*M)):=pG h3 (by rw [hP];exact ih) (am_nonneg _) (Rat.mul_nonneg (by grind) (by grind));have h6:=hi.2;rw [Rat.pow_succ,<- hP]
   have e7:((2*T+3:Nat):Rat)=2*((T+1:Nat):Rat)+1:=by
    have:2*T+3=2*(T+1)+1:=by omega
    rw [this,Rat.natCast_add,Rat.natCast_mul];rfl
   rw [e7];have h8:M<=P*M:=by have:=Rat.mul_le_mul_of_nonneg_right hP1 hM;grind
   grind
theorem Iq {w:Nat}:∀ (L:List Nat) (F:MP),F≠0->L.Nodup->(∀ i∈L,at' w ((i:Nat):Rat) F=0)->(L.length:Int)<=F.deg w
 | [],F,h0,_,_=>by have:=deg_pos h0 w;simpa using this
 | i::L,F,h0,hn,h=>by
  have hnd:=List.nodup_cons.1 hn;obtain⟨F1,e⟩:=Qh w ((i:Nat):Rat) F;rw [h i (by simp)] at e;have e:F=Ip w ((i:Nat):Rat)*F1:=by grind
  have h1:F1≠0:=fun h1=>h0 (by rw [e,h1];grind)
  have ih:=Iq L F1 h1 hnd.2 fun j hj=>by
   have h2:=h j (by simp [hj]);rw [e,BF,Qi] at h2;rcases mul_eq_zero.1 h2 with h3|h3
   ·exfalso;by_cases hji:((j:Nat):Rat)-((i:Nat):Rat)=0
    ·have:((j:Nat):Rat)=((i:Nat):Rat):=by grind
     exact hnd.1 (by rw [<- Rat.natCast_inj.1 this];exact hj)
    ·exact wI hji h3
   ·exact h3
  rw [e,deg_mul (Qe _ _) h1,FL];simp only [List.length_cons];omega
instance:DecidableEq MP:=fun p q=>decidable_of_iff (p.l=q.l) ⟨MP.eq_of,fun h=>by rw [h]⟩
theorem NW {a b:Rat} (h:a=b):a<=b:=by rw [h];exact Rat.le_refl
def tC (d:Nat->Nat):Nat->Nat
 | 0=>1
 | n+1=>(4*d n+3) ^ d n*(2*d n+1) ^ d n*tC d n
theorem J7 {α:Type} (p:α->Bool) (l:List α):(l.filter p).length+(l.filter fun x=>!p x).length=l.length:=by
 induction l with
 | nil=>rfl
 | cons x l ih=>cases h:p x <;> simp [List.filter_cons,h] <;> omega
theorem fac (d:Nat->Nat):∀ (n:Nat),n<=4->∀ F G H:MP,F=G*H->F≠0->G.dv 1->H.dv 1->F.lo n->(∀ w,w<n->F.deg w<=d w)->G.am<=(tC d n:Rat)*F.am
 | 0,_,F,G,H,e,h0,iG,iH,lF,_=>by
  have lG:=jA h0 (by rw [e];exact dvd_mul_right _ _) lF;have lH:=jA h0 (by rw [e];exact dvd_mul_left _ _) lF;obtain⟨g,rfl⟩:=mR lG;obtain⟨h,rfl⟩:=mR lH;have hh:c h≠0:=fun h'=>h0 (by rw [e,h'];grind);have h1:=D7 iH hh;rw [e,rH,Ij,show ((tC d 0:Nat):Rat)=1 from rfl];have:=Rat.mul_le_mul_of_nonneg_left h1 (eu g);grind
 | n+1,hn,F,G,H,e,h0,iG,iH,lF,hd=>by
  obtain⟨L,hL⟩:∃ L:List Nat,L=(List.range (2*d n+1)).filter (fun i=>decide (at' n ((i:Nat):Rat) F≠0)):=⟨_,rfl⟩
  have hz:=Iq (w:=n) ((List.range (2*d n+1)).filter (fun i=>!decide (at' n ((i:Nat):Rat) F≠0))) F h0 (List.nodup_range.sublist List.filter_sublist) fun i hi=>by
   have:=(List.mem_filter.1 hi).2;simpa using this
  have hlen:=J7 (fun i:Nat=>decide (at' n ((i:Nat):Rat) F≠0)) (List.range (2*d n+1));rw [List.length_range,<- hL] at hlen;have hdn:=hd n (by omega);have hLn:L.Nodup:=by rw [hL];exact List.nodup_range.sublist List.filter_sublist
  have hT:(1:Nat)<=2*d n+1:=by omega
  have hG0:G≠0:=fun h=>h0 (by rw [e,h];grind);have hGd:G.deg n<=d n:=Int.le_trans (dvd_deg h0 (by rw [e];exact dvd_mul_right _ _) n) hdn
  have hval:∀ i∈L,i<=2*d n/\(at' n ((i:Nat):Rat) G).am<=(tC d n:Rat)*(F.am*((2*d n+1:Nat):Rat) ^ d n):=fun i hi=>by
   rw [hL] at hi;obtain⟨h1,h2⟩:=List.mem_filter.1 hi;have h1:=List.mem_range.1 h1;have h2:at' n ((i:Nat):Rat) F≠0:=of_decide_eq_true h2;refine⟨by omega,?_⟩;have h3:=fac d n (by omega) _ _ _ (by rw [<- BF,<- e]:at' n ((i:Nat):Rat) F=at' n ((i:Nat):Rat) G*at' n ((i:Nat):Rat) H) h2 (by rw [<- Rat.intCast_natCast];exact Qd iG n _) (by rw [<- Rat.intCast_natCast];exact Qd iH n _) (Wo (by omega) lF _) fun w hw=>FK _ F (by omega) (by omega) (hd w (by omega));exact Rat.le_trans h3 (Rat.mul_le_mul_of_nonneg_left (Wq hdn (by omega) hT) Rat.natCast_nonneg)
  have hM:0<=(tC d n:Rat)*(F.am*((2*d n+1:Nat):Rat) ^ d n):=Rat.mul_nonneg Rat.natCast_nonneg (Rat.mul_nonneg (am_nonneg F) (xG (T:=((2*d n+1:Nat):Rat)) (oJ hT) (Nat.le_refl _)).1);have:=Qj (w:=n) (T:=2*d n) (M:=0) (d n) _ G hM hGd (L.take (d n+1)) (by rw [List.length_take];omega) (hLn.sublist (List.take_sublist _ _)) fun i hi=>hval i (List.mem_of_mem_take hi);refine Rat.le_trans this ?_;rw [tC,Rat.natCast_mul,Rat.natCast_mul,Rat.natCast_pow,Rat.natCast_pow];have e4:2*(2*d n)+3=4*d n+3:=by omega
  rw [e4];refine NW ?_;grind
end MP
end Q
end
section
namespace Q
def kD (f:Nat->Nat):Nat->Nat
 | 0=>0
 | n+1=>kD f n+f n
theorem BG {f g:Nat->Nat}:∀ {n:Nat},(∀ i,i<n->f i=g i)->kD f n=kD g n
 | 0,_=>rfl
 | n+1,h=>by rw [kD,kD,BG fun i hi=>h i (by omega),h n (by omega)]
theorem Ir (f g:Nat->Nat):∀ n,kD (fun i=>f i+g i) n=kD f n+kD g n
 | 0=>rfl
 | n+1=>by rw [kD,Ir f g n,kD,kD];omega
theorem Iu (c:Nat) (f:Nat->Nat):∀ n,kD (fun i=>c*f i) n=c*kD f n
 | 0=>rfl
 | n+1=>by rw [kD,Iu c f n,kD,Nat.mul_add]
theorem uo (f:Nat->Nat):∀ n,kD f (n+1)=f 0+kD (fun i=>f (i+1)) n
 | 0=>by simp [kD]
 | n+1=>by rw [kD,uo f n,kD];omega
theorem Iw {p:Nat} {f:Nat->Nat}:∀ {n:Nat},(∀ i,i<n->p∣f i)->p∣kD f n
 | 0,_=>Nat.dvd_zero p
 | n+1,h=>Nat.dvd_add (Iw fun i hi=>h i (by omega)) (h n (by omega))
def ch:Nat->Nat->Nat
 | _,0=>1
 | 0,_+1=>0
 | n+1,k+1=>ch n k+ch n (k+1)
theorem wJ (n:Nat):ch n 0=1:=by cases n <;> rfl
theorem BH:∀ {n k:Nat},n<k->ch n k=0
 | _,0,h=>by omega
 | 0,_+1,_=>rfl
 | n+1,k+1,h=>by rw [ch,BH (show n<k by omega),BH (show n<k+1 by omega)]
theorem Ma:∀ n,ch n n=1
 | 0=>rfl
 | n+1=>by rw [ch,Ma n,BH (Nat.lt_succ_self n)]
theorem FM:∀ n k,(k+1)*ch (n+1) (k+1)=(n+1)*ch n k
 | 0,0=>rfl
 | 0,k+1=>by
  have e:ch 1 (k+2)=0:=BH (by omega);rw [e];rfl
 | n+1,0=>by
  have h:=FM n 0;have e:ch (n+2) 1=ch (n+1) 0+ch (n+1) 1:=rfl;rw [wJ] at h;rw [show n+1+1=n+2 from rfl,e,wJ];rw [show 0+1=1 from rfl] at h;omega
 | n+1,k+1=>by
  have h1:=FM n k;have h2:=FM n (k+1);have e:ch (n+2) (k+2)=ch (n+1) (k+1)+ch (n+1) (k+2):=rfl;have e2:ch (n+1) (k+1)=ch n k+ch n (k+1):=rfl;rw [e];have h3:(k+1+1)*(ch (n+1) (k+1)+ch (n+1) (k+2))=(k+1)*ch (n+1) (k+1)+ch (n+1) (k+1)+(k+1+1)*ch (n+1) (k+2):=by grind
  rw [h3,h1,h2,e2];grind
theorem Uh (x:Nat):∀ n,(x+1) ^ n=kD (fun k=>ch n k*x ^ k) (n+1)
 | 0=>by simp [kD,ch]
 | n+1=>by
  rw [Nat.pow_succ,Uh x n,uo (fun k=>ch (n+1) k*x ^ k)]
  have h1:kD (fun i=>ch (n+1) (i+1)*x ^ (i+1)) (n+1)=x*kD (fun k=>ch n k*x ^ k) (n+1)+kD (fun i=>ch n (i+1)*x ^ (i+1)) (n+1):=by
   rw [<- Iu,<- Ir];refine BG fun i _=>?_;show (ch n i+ch n (i+1))*x ^ (i+1)=_;rw [Nat.pow_succ];grind
  rw [h1]
  have h2:kD (fun i=>ch n (i+1)*x ^ (i+1)) (n+1)=kD (fun i=>ch n (i+1)*x ^ (i+1)) n:=by
   rw [kD,BH (Nat.lt_succ_self n)];omega
  have h3:=uo (fun k=>ch n k*x ^ k) n;rw [h2,wJ,Nat.pow_zero];rw [wJ,Nat.pow_zero] at h3;have h4:kD (fun k=>ch n k*x ^ k) (n+1)*(x+1)=x*kD (fun k=>ch n k*x ^ k) (n+1)+kD (fun k=>ch n k*x ^ k) (n+1):=by grind
  rw [h4,h3];omega
theorem BI {p:Nat} (hp:OO p) {a b:Nat} (h:p∣a*b):p∣a\/p∣b:=by
 have:=zM hp (a:=a) (b:=b) (by rw [<- Int.natCast_mul];exact Int.ofNat_dvd.2 h);exact this.imp Int.ofNat_dvd.1 Int.ofNat_dvd.1
theorem Qk {p:Nat} (hp:OO p) {k:Nat} (h0:0<k) (hk:k<p):p∣ch p k:=by
 obtain⟨j,rfl⟩:∃ j,k=j+1:=⟨k - 1,by omega⟩;obtain⟨n,rfl⟩:∃ n,p=n+1:=⟨p - 1,by omega⟩;rcases BI hp (a:=j+1) (b:=ch (n+1) (j+1)) ⟨ch n j,FM n j⟩ with h|h
 ·have:=Nat.le_of_dvd h0 h;omega
 ·exact h
theorem XL {p:Nat} (hp:OO p) (x:Nat):(x+1) ^ p % p=(x ^ p+1) % p:=by
 have h1:=hp.1;obtain⟨n,rfl⟩:∃ n,p=n+1:=⟨p - 1,by omega⟩;rw [Uh x (n+1),kD,uo,wJ,Ma,Nat.pow_zero];obtain⟨k,hk⟩:(n+1)∣kD (fun i=>ch (n+1) (i+1)*x ^ (i+1)) n:=Iw fun i hi=>Nat.dvd_mul_right_of_dvd (Qk hp (by omega) (by omega)) _;rw [hk];have e:1*1+(n+1)*k+1*x ^ (n+1)=(x ^ (n+1)+1)+(n+1)*k:=by omega
 rw [e,Nat.add_mul_mod_self_left]
theorem Mc {p:Nat} (hp:OO p):∀ x:Nat,x ^ p % p=x % p
 | 0=>by rw [Nat.zero_pow (by have:=hp.1;omega)]
 | x+1=>by rw [XL hp,Nat.add_mod,Mc hp x,<- Nat.add_mod]
theorem Vb {p:Nat} (hp:OO p) {x:Nat} (h:¬ p∣x):x ^ (p-2)*x % p=1:=by
 have h1:=hp.1;have h2:=Mc hp x;obtain⟨n,rfl⟩:∃ n,p=n+2:=⟨p - 2,by omega⟩;rw [Nat.add_sub_cancel];have e:x ^ (n+2)=x*(x ^ n*x):=by rw [Nat.pow_succ,Nat.pow_succ];grind
 rw [e] at h2
 have h3:((n+2:Nat):Int)∣(x:Int)*((x ^ n*x:Nat)-1:Int):=by
  have h4:=Int.emod_emod_of_dvd
  have:((x*(x ^ n*x):Nat):Int) % ((n+2:Nat):Int)=(x:Int) % ((n+2:Nat):Int):=by
   rw [<- Int.natCast_emod,<- Int.natCast_emod,h2]
  have h5:=Int.dvd_of_emod_eq_zero (Int.emod_eq_emod_iff_emod_sub_eq_zero.1 this)
  have e2:(x:Int)*((x ^ n*x:Nat)-1:Int)=((x*(x ^ n*x):Nat):Int)-x:=by
   rw [Int.natCast_mul x];grind
  rw [e2];exact h5
 rcases zM hp h3 with h4|h4
 ·exact absurd (Int.ofNat_dvd.1 h4) h
 ·have h5:=Int.emod_eq_zero_of_dvd h4;have h6:=Int.emod_eq_emod_iff_emod_sub_eq_zero.2 h5
  have h7:((x ^ n*x % (n+2):Nat):Int)=1:=by
   rw [Int.natCast_emod,h6];exact Int.emod_eq_of_lt (by omega) (by omega)
  omega
def Xt (p n:Nat):Nat->Bool
 | 0=>true
 | f+1=>match p % (n-f) with
  | 0=>false
  | _+1=>Xt p n f
theorem Ql {p n:Nat}:∀ {f:Nat},Xt p n f=true->∀ k,n-f<k->k<=n->¬ k∣p
 | 0,_=>fun k h1 h2=>by omega
 | f+1,h=>fun k h1 h2 hd=>by
  rw [Xt] at h;split at h
  ·cases h
  ·rename_i hm;rcases Nat.eq_or_lt_of_le (show n - f<=k by omega) with e|hlt
   ·rw [e] at hm;rw [Nat.mod_eq_zero_of_dvd hd] at hm;cases hm
   ·exact Ql h k hlt h2 hd
theorem Vd:Xt 2147483647 46340 46339=true:=by decide +kernel
theorem BJ:OO pr:=by
 refine⟨by decide,fun m hm=>?_⟩;rw [lL] at *;obtain⟨k,hk⟩:=hm;have h0:∀ j,1<j->j<=46340->¬ j∣2147483647:=fun j h1 h2=>Ql Vd j (by omega) h2;rcases Nat.lt_or_ge m 2 with h|h
 ·left;rcases Nat.eq_zero_or_pos m with e|h'
  ·rw [e,Nat.zero_mul] at hk;cases hk
  ·omega
 ·rcases Nat.lt_or_ge m 46341 with h2|h2
  ·exact absurd ⟨k,hk⟩ (h0 m (by omega) (by omega))
  ·rcases Nat.lt_or_ge k 46341 with h3|h3
   ·rcases Nat.lt_or_ge k 2 with h4|h4
    ·right;rcases Nat.eq_zero_or_pos k with e|h'
     ·rw [e,Nat.mul_zero] at hk;cases hk
     ·obtain rfl:k=1:=by omega
      omega
    ·exact absurd ⟨m,by rw [hk];exact Nat.mul_comm _ _⟩ (h0 k (by omega) (by omega))
   ·have:=Nat.mul_le_mul h2 h3;omega
theorem Md:∀ (f out a n:Nat),n<2 ^ f->out<pr->Ai f out a n=out*a ^ n % pr
 | 0,out,a,n,h,ho=>by
  obtain rfl:n=0:=by simpa using h
  rw [Ai,Nat.pow_zero,Nat.mul_one,Nat.mod_eq_of_lt ho]
 | f+1,out,a,n,h,ho=>by
  rw [Ai];split
  ·rename_i h0;rw [h0,Nat.pow_zero,Nat.mul_one,Nat.mod_eq_of_lt ho]
  ·have hlt:(if n % 2=1 then out*a % pr else out)<pr:=by
    split
    ·exact Nat.mod_lt _ (by decide)
    ·exact ho
   rw [Md f _ _ _ (by rw [Nat.pow_succ] at h;omega) hlt]
   have h1:(a*a % pr) ^ (n / 2) % pr=a ^ (2*(n / 2)) % pr:=by
    rw [<- Nat.pow_mod,Nat.pow_mul,Nat.pow_two]
   have h2:=Nat.div_add_mod n 2;split
   ·rename_i ho;rw [Nat.mul_mod,h1,<- Nat.mul_mod,Nat.mod_mul_mod];have e:n=2*(n / 2)+1:=by omega
    conv=>rhs;rw [e,Nat.pow_succ]
    congr 1;grind
   ·rw [Nat.mul_mod,h1,<- Nat.mul_mod];have e:n=2*(n / 2):=by omega
    conv=>rhs;rw [e]
theorem Me (a:Nat) {n:Nat} (h:n<18446744073709551616):lC a n=a ^ n % pr:=by
 rw [lC,Md 64 1 a n (by simpa using h) (by decide),Nat.one_mul]
theorem J8 {x:Nat} (h0:0<x) (h:x<pr):lC x (pr-2)*x % pr=1:=by
 rw [Me x (by decide),Nat.mod_mul_mod];exact Vb BJ fun hd=>by have:=Nat.le_of_dvd h0 hd;omega
end Q
end
