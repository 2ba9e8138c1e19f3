/- mpoly.Subst: the range over slices.Backward. -/
import Derived.Test.YtopclbeomcggiaaGreatW18
import Derived.Test.YtopclbeomcggiaaGreatW28
import Derived.LoopIn
import Derived.LoopNIn
import Derived.OwnWalkIn
import Derived.RangeFuncBound
import Derived.RangeFuncNested
import Derived.Shelf.RegionOpen
set_option linter.unusedVariables false
set_option linter.unusedSimpArgs false
set_option maxHeartbeats 16000000
set_option maxRecDepth 100000
section
namespace Q
open Go Go.RowKit Go.Proofs.YtopclbeomcggiaaGreat
def Vq (w w':World) (row:Option Nat):Prop:=w.grownBy w' row/\∀r,row=some r->∃o:Obj,w.heap[r]?=some o/\o.isCells=false
end Q
namespace Go.Proofs.YtopclbeomcggiaaGreat
open Go.RowKit Go.Shelf Q
attribute [local go_sem] Oper.semAt_some
def Kb (Bs g:Nat) (W W':World):Prop:=W'.heap[Bs]?=W.heap[Bs]?/\W'.heap[g]?=W.heap[g]?
theorem Kb.refl(Bs g:Nat)(W:World):Kb Bs g W W:=⟨rfl,rfl⟩
theorem Kb.trans{Bs g:Nat}{A B C:World}(h:Kb Bs g A B)(b:Kb Bs g B C):Kb Bs g A C:=⟨b.1.trans h.1,b.2.trans h.2⟩
theorem yV{W b:World}{a:Addr}(h:b.heap[a.block]?=W.heap[a.block]?):b.cell? a=W.cell? a:=by unfold World.cell?;rw[h]
theorem Kb.putObj{Bs g:Nat}{w:World}(e:Bs<w.heap.size)(hg:g<w.heap.size)(W:World)(l:Nat)(o b:Obj)(d:w.heap.size<=l)(_:W.heap[l]?=some o)(_:o.isCells=false)(_:o.isWalk=false):Kb Bs g W (W.putObj l b) :=
 ⟨World.putObj_heap_other oM,World.putObj_heap_other oM⟩
def xD {α:Type} (f:Nat->α) (k:Nat):List α:=(List.range k).map f
theorem EW{α:Type}(f:Nat->α)(k:Nat):xD f (k+1)=xD f k++[f k]:=by simp[xD,List.range_succ]
theorem I1{α:Type}(f:Nat->α)(k:Nat):(xD f k).length=k:=by simp[xD]
structure Yh (sb sc:Sz) (sz:Nat->Sz) (N:Nat):Prop where
 b:sb.ok
 c:sc.ok
 z:∀k,k<=N->(sz k).ok
 m:∀k,k<N->((sz k).mul sb).ok
 s:∀k,k<N->(((sz k).mul sb).add sc).le (sz (k+1))
def YG (b:List ai) (out c:List ai):List ai:=oZ (aX out b) c
end Go.Proofs.YtopclbeomcggiaaGreat
end
section
namespace Go.Proofs.YtopclbeomcggiaaGreat
open Go.RowKit Go.Shelf Q
end Go.Proofs.YtopclbeomcggiaaGreat
namespace Q
open Go Go.RowKit Q Go.Proofs.YtopclbeomcggiaaGreat
theorem Vq.blk{w w':World}{row:Option Nat}(h:Vq w w' row){g:Nat}{T:TypeId}{cs:List Value}(hc:Blk w g T cs):Blk w' g T cs:=by
 have i:=hc.lt;unfold Blk at *;rw[h.1.block g i (λe=>?_)]
 ·exact hc
 ·obtain⟨o,b,d⟩:=h.2 g e.symm;rw[hc]at b;cases b;cases d
end Q
namespace Go.Proofs.YtopclbeomcggiaaGreat
open Go.RowKit Go.Shelf Q
attribute [local go_sem] Oper.semAt_some
end Go.Proofs.YtopclbeomcggiaaGreat
end
section
namespace Go.Proofs.YtopclbeomcggiaaGreat
open Go.RowKit Go.Shelf Q
attribute [local go_sem] Oper.semAt_some
abbrev xE:TypeId:=97
theorem Ed(F:Fence)(n:Nat)(b:F.fn 156)(d:F.round=none)(h:Option Addr)(N cap:Nat)(w:World) :
  CallsIn F n Tryz.prog 156 #[.slice h N cap] w (λe i=>e=.returned (.func (.func 170) #[] #[.pointer (some ⟨w.heap.size,0,none⟩)])/\i=w.alloc (.cells #[.slice h N cap] 37)):=by
 refine callsIn_of_wp Tryz.func156 rfl b ?_ d;simp only[Tryz.ntmps156,List.size_toArray,List.length_cons,List.length_nil,Nat.reduceAdd,Nat.reduceSub,Array.replicate_succ,Array.replicate_zero,List.push_toArray,List.append_toArray,List.nil_append,List.cons_append]
 gi_wp2
 refine bodyPost_ret (results_tmp rfl _ _ _) rfl ?_;exact⟨rfl,rfl⟩
theorem Ee{α:Type}(G:α->Int)(L:α->Value)(p:Nat->α)(F:Fence)(n:Nat)(h106:F.fn 170)(y:F.round=none)(Z:1<=n)(l Bs g o N cap:Nat)(D:Option Addr)(u:∀k,k<N->D=some ⟨g,o,none⟩)(hN:N<=34359738368)
  (hX1:∀k,k<N->G (p k)=(N:Int)-1-k) (J X:List α->World->Prop)
  (hY:∀pre x W,J pre W->pre.length<N->YieldAt F (n-1) Tryz.prog l #[.int .i64 (G x),L x] W λe q =>
   (e=.returned (.bool true)/\J (pre++[x]) q/\Kb Bs g W q)\/(e=.returned (.bool false)/\X (pre++[x]) q))
  (W:World) (z:W.cell? ⟨Bs,0,none⟩=some (.slice D N cap)) (hc:∀k,k<N->W.cell? ⟨g,o+(N-1-k),none⟩=some (L (p k))) (h0:J [] W) :
  CallsIn F n Tryz.prog 170 #[.func (.yield l) #[] #[],.pointer (some ⟨Bs,0,none⟩)] W λe q=>(∃v,e=.returned v) /\
   ((∃S,S=xD p N/\J S q)\/(∃pre,(∃k,k<=N/\pre=xD p k)/\X pre q)):=by
 refine callsIn_of_wp Tryz.func170 rfl h106 ?_ y;simp only[Tryz.ntmps170,List.size_toArray,List.length_cons,List.length_nil,Nat.reduceAdd,Nat.reduceSub,Array.replicate_succ,Array.replicate_zero,List.push_toArray,List.append_toArray,List.nil_append,List.cons_append]
 gi_wp2
 gi_loopw [3] (λi wr=>∃k:Nat,k<=N/\i=.int .i64 ((N:Int)-1-k)/\J (xD p k) wr/\Kb Bs g W wr) (λi _=>(intOf i+1).toNat)
 case atStart=>exact⟨0,Nat.zero_le _,sM,h0,Kb.refl _ _ _⟩
 case round =>
  obtain⟨k,hk,rfl,s,j⟩:=hrel;have C:=(yV (a:=⟨Bs,0,none⟩) j.1).trans z;by_cases b:k<N
  ·have B:=(yV (a:=⟨g,o+(N - 1 - k),none⟩) j.2).trans (hc k b);obtain⟨fn,tmps,assign,body,M,hR⟩:=hY _ (p k) wr s (by rw[I1];exact b);rw[hX1 k b]at M;have hao2:=u k b;rw[hao2]at C;obtain⟨m,hm⟩:∃m:Nat,m=N - 1 - k:=⟨_,rfl⟩;have r:(N:Int) - 1 - k=(m:Int):=oM;rw[<-hm]at B;rw[r]at M ⊢;have Y:(m:Int)<N:=oM;have I:m<N:=oM;have hm0:(0:Int)<=m:=oM;have d:(m:Int) - 1=(N:Int) - 1 - (k+1:Nat):=oM;have d:=zH d;clear hm r hao2
   gi_wp2
   refine hR.mono ?_;rintro e W3 (⟨rfl,hJ3,hk3⟩|⟨rfl,hJx3⟩)
   ·gi_wp2
    go_roundw
    case rel=>exact⟨k+1,oM,by have h:=d.out;simp only[Value.int.injEq,true_and];omega,by rw[EW];exact hJ3,j.trans hk3⟩
    case measure=>have h:=d.out;simp[intOf];omega
   ·gi_wp2
    refine bodyPost_ret (results_none rfl _ _ _) rfl ?_;exact⟨⟨_,rfl⟩,.inr ⟨_,⟨k+1,oM,(EW _ _).symm⟩,hJx3⟩⟩
  ·obtain rfl:k=N:=oM
   gi_wp2
   go_end0
   exact⟨⟨_,rfl⟩,.inl ⟨_,rfl,s⟩⟩
theorem Ak{α:Type}(j:α->Int)(m:α->Value)(d:Nat->α)(F:Fence)(n:Nat)(b:F.fn 170)(i:F.round=none)(C:1<=n)(Bs g o N cap:Nat)(e:Option Addr)(h:∀k,k<N->e=some ⟨g,o,none⟩)(z:N<=34359738368)
  (s:∀k,k<N->j (d k)=(N:Int)-1-k) (w:World) (q:Bs<w.heap.size) (u:g<w.heap.size) (r:w.cell? ⟨Bs,0,none⟩=some (.slice e N cap)) (hc:∀k,k<N->w.cell? ⟨g,o+(N-1-k),none⟩=some (m (d k))) :
  SeqStopsK F n Tryz.prog 170 #[.pointer (some ⟨Bs,0,none⟩)] (λx:α=>#[.int .i64 (j x),m x]) (Kb Bs g) (λE=>E=xD d N) (λpre=>∃k,k<=N/\pre=xD d k) N w:=λl J G W y _ _ B D =>
 Ee j m d F n b i C l Bs g o N cap e h z s J G B W ((y.cell (p:=⟨Bs,0,none⟩) q).trans r) (λk H=>(y.cell (p:=⟨g,o+(N-1-k),none⟩) u).trans (hc k H)) D
def resS (m d:Int):Int:=(m*4294967296+d)%2147483647
theorem EX:∀l:List Int,l.reverse.foldl resS 0=ah l%2147483647
 | []=>rfl
 | d::l=>by rw[List.reverse_cons,List.foldl_append,EX l];show(ah l%2147483647*4294967296+d)%2147483647=(d+bv*ah l)%2147483647;rw[aP];omega
theorem Tx{m d:Int}:0<=resS m d/\resS m d<2147483647:=⟨Int.emod_nonneg _ dM,Int.emod_lt_of_pos _ dM⟩
theorem Ty(l:List Int):0<=l.foldl resS 0/\l.foldl resS 0<2147483647:=by
 by_cases h:l=[]
 ·subst h;simp
 ·rw[<-List.dropLast_concat_getLast h,List.foldl_append];exact Tx
end Go.Proofs.YtopclbeomcggiaaGreat
namespace Q
def dY (z:Int):Nat:=if z<0/\0<z.natAbs%2147483647 then 2147483647-z.natAbs%2147483647 else z.natAbs%2147483647
theorem qc(z:Int):dY z<2147483647:=by unfold dY;split<;>omega
end Q
namespace Go.Proofs.YtopclbeomcggiaaGreat
open Go.RowKit Go.Shelf Q
attribute [local go_sem] Oper.semAt_some
theorem zV{z M:Int}(b:0<=z)(d:M=z%2147483647):M=(dY z:Int):=by unfold dY;rw[if_neg oM];omega
theorem Cw{z l M:Int}(b:0<l)(hz:z=-l)(d:M=l%2147483647):(0<M->2147483647-M=(dY z:Int))/\(¬0<M->M=(dY z:Int)):=by unfold dY;split<;>omega
theorem zW(n:Bool)(m:Value)(z:Int)(w:World)(h:aZ w n m z)(c:aF z.natAbs<=ji):Calls Tryz.prog 136 #[.agg #[.bool n,m]] w (ru w (.int .u64 (dY z))):=by
 obtain⟨l,r,cap,rfl,u,b,nn,e⟩:=gz h c
 have G:n=true->0<ah l:=λhn=>by subst hn;have:=mi h;rw[e]at this;simp only[fZ,if_true]at this;omega
 obtain⟨_,_,e',_,L,mm⟩:=u;cases e';have I:Below w.heap.size w ((w.alloc (.cells #[.bool n,.slice r l.length cap] 39)).alloc (.cells #[.int .u64 0] 97)):=mP _ _ _;have aq:=aU L;obtain⟨dg,a3⟩:∃dg:Nat->Int,dg=λi=>l.getD i 0:=⟨_,rfl⟩;have Y:∀i,l.getD i 0=dg i:=λi=>by rw[a3]
 have O:(xD (λk=>l.length-1-k) l.length).map dg=l.reverse:=by rw[a3];refine List.ext_getElem (by simp[xD]) λi h1 h2=>?_;simp[xD]at h1;simp[xD,List.getElem_reverse];rw[List.getElem?_eq_getElem oM];rfl
 have a5:n=false->z=ah l:=λhn=>by rw[e,hn];rfl
 have a2:n=true->z=- ah l:=λhn=>by rw[e,hn];rfl
 replace O:=zH O;replace Y:=zH Y;replace a5:=zH a5;replace a2:=zH a2;replace G:=zH G;clear h c nn e a3;refine(callsIn_wide (n:=6)).1 ?_;refine callsIn_of_wp_marks Tryz.func136 rfl trivial ?_ rfl;simp only[Tryz.ntmps136,List.size_toArray,List.length_cons,List.length_nil,Nat.reduceAdd,Nat.reduceSub,Array.replicate_succ,Array.replicate_zero,List.push_toArray,List.append_toArray,List.nil_append,List.cons_append];have a9:((w.alloc (.cells #[.bool n,.slice r l.length cap] 39)).alloc (.cells #[.int .u64 0] 97)).cell? ⟨w.heap.size,1,none⟩=some (.slice r l.length cap):=((Blk.new w 39 [.bool n,.slice r l.length cap]).alloc _).at1 1 _ rfl
 gi_wp2_with (refine⟨trivial,?_⟩;gi_at_call 156;refine(Ed Fence.wide _ trivial rfl _ _ _ _).mono ?_;rintro e w2 ⟨rfl,rfl⟩)
 obtain⟨N,E⟩:∃N,N=(w.alloc (.cells #[.bool n,.slice r l.length cap] 39)).alloc (.cells #[.int .u64 0] 97):=⟨_,rfl⟩;have a0:N.heap.size=w.heap.size+1+1:=by rw[E];simp
 have J:N.cell? ⟨w.heap.size,0,none⟩=some (.bool n):=by rw[E];exact((Blk.new w 39 [.bool n,.slice r l.length cap]).alloc _).at1 0 _ rfl
 have ag:Blk N (w.heap.size+1) 97 [.int .u64 0]:=by rw[E];have:=Blk.new (w.alloc (.cells #[.bool n,.slice r l.length cap] 39)) 97 [.int .u64 0];simpa using this
 change Below w.heap.size w ((w.alloc (.cells #[.bool n,.slice r l.length cap] 39)).alloc (.cells #[.int .u64 0] 97))at I;rw[<-E]at I;have H:Below N.heap.size N (N.alloc (.cells #[.slice r l.length cap] 37)):=(Below.refl _ _).alloc (Nat.le_refl _) _;have ac:(N.alloc (.cells #[.slice r l.length cap] 37)).cell? ⟨(w.heap.size+1+1),0,none⟩=some (.slice r l.length cap):=by rw[<-a0];exact(Blk.new N 37 [.slice r l.length cap]).at1 0 _ rfl
 clear a9;rw[<-E];obtain⟨S,X⟩:∃S,S=N.alloc (.cells #[.slice r l.length cap] 37):=⟨_,rfl⟩;have ay:S.heap.size=(w.heap.size+1+1)+1:=by rw[X,<-a0];simp
 rw[<-X]at H ac;have y:=I.trans (H.mono I.size);have a1:S.cell? ⟨w.heap.size,0,none⟩=some (.bool n):=by rw[H.cell (p:=⟨w.heap.size,0,none⟩) (by simp only;omega)];exact J
 have a7:=ag.on H
 obtain⟨g,o,ap,ar,ax⟩:∃g o,g<w.heap.size+1/\(∀k,k<l.length->r=some ⟨g,o,none⟩)/\∀k,k<l.length->S.cell? ⟨g,o+k,none⟩=some (.int .u32 (dg k)):=by
  by_cases hp:0<l.length
  ·obtain⟨g,o,rfl,hc⟩:=mm (by rw[dG];exact hp);exact⟨g,o,by have:=hc.lt;omega,λ_ _=>rfl,λk hk=>Y.out k▸(hc.on y).ucell k hk⟩
  ·exact⟨w.heap.size,0,oM,λk hk=>oM,λk hk=>oM⟩
 have aa:g<S.heap.size:=oM;have ap:g≠w.heap.size+1:=oM;rw[<-X];have an:(w.heap.size+1+1)<S.heap.size:=oM;have au:(w.heap.size+1+1)≠w.heap.size+1:=oM;have b3:w.heap.size+1<S.heap.size:=oM;clear X H J ag I E mm
 refine wpIn_rangeFunc_ownF (α:=Nat) rfl oM (gf:=170) (lb:=#[.pointer (some ⟨(w.heap.size+1+1),0,none⟩)]) rfl trivial (enters_of Tryz.func170 kM rfl)
  (Ak (α:=Nat) (λi=>(i:Int)) (λi=>.int .u32 (dg i)) (λk=>l.length-1-k) Fence.wide _ trivial rfl oM (w.heap.size+1+1) g o l.length cap r ar b (λk hk=>oM) S an aa ac (λk hk=>ax _ oM))
  (λh k=>h.trans k) (Kb.putObj an aa) (Below.refl _ _) (λ_=>rfl)
  (λpre W=>(Blk W (w.heap.size+1) 97 [.int .u64 ((pre.map dg).foldl resS 0)]/\W.cell? ⟨w.heap.size,0,none⟩=some (.bool n)/\S.heap.size<=W.heap.size)/\Below w.heap.size w W)
  (λ_ _ _=>False)
  (OwnFrom.and (Own.from (λs A B row hs hg hr=>by
   obtain⟨h1,h4,h7⟩:=hs;have hk:Vq A B row:=⟨hg,hr⟩
   exact⟨hk.blk h1,cell_kept h4 hg hr,Nat.le_trans h7 hg.size⟩) _) (ownFrom_below (Nat.le_refl _) oM))
  (λ_ _ _ _ _ hs _ _=>hs)
  ⟨⟨a7,a1,Nat.le_refl _⟩,y⟩
  (λx=>{ tmps:=#[.agg #[.bool n,.slice r l.length cap],.pointer (some ⟨w.heap.size,0,none⟩),.int .u64 0,.pointer (some ⟨w.heap.size+1,0,none⟩),undef,.int .u32 (dg x),.pointer (some ⟨w.heap.size,1,none⟩),.slice r l.length cap,.func (.func 170) #[] #[.pointer (some ⟨(w.heap.size+1+1),0,none⟩)],.int .i64 x,.int .u32 (dg x),undef,undef,undef,undef,undef,undef,undef,undef,undef,undef,undef,undef,undef,undef,undef],defers:=[] }) ?assign ?body ?done ?stop
 case assign =>
  intro l x W K hK
  gi_wp2
  exact hK
 case body =>
  rintro ll pre x W ⟨⟨Z,J,av⟩,F⟩ hlen;have a4:=Ty (pre.map dg);have R:=(L.getD x);rw[aP,Y.out]at R;have C:((pre++[x]).map dg).foldl resS 0=resS ((pre.map dg).foldl resS 0) (dg x):=by rw[List.map_append,List.foldl_append];rfl
  generalize(pre.map dg).foldl resS 0=M at *;generalize dg x=d at *;have ho:=Z.at1 0 _ rfl;have hf:=Z.frozen 0;have b4:=Av M d a4.1 oM R.1 R.2;have a6:=a4.1;have al:=a4.2;have aE:=R.1;have b0:=R.2;have ab:Hid (resS M d=(M*4294967296+d)%2147483647):=zH rfl;replace C:=zH C
  gi_wp2
  have Bn:=Z.set 0 (.int .u64 ((M*4294967296+d)%2147483647));refine⟨KeepsOthers.setCell _ _ _,⟨Below.heap_setCell _ _ _ _ au,Below.heap_setCell _ _ _ _ ap⟩,⟨?_,?_,by rw[World.size_setCell];omega⟩,?_⟩
  ·rw[C.out,ab.out];exact Bn
  ·rw[<-J];exact yV (Below.heap_setCell _ _ _ _ sM)
  ·exact F.trans (bF oM _)
 case done =>
  rintro D ys W hD rfl ⟨⟨Z,J,av⟩,F⟩ hK;rw[O.out,EX]at Z;have ho:=Z.at1 0 _ rfl;have hf:=Z.frozen 0;have a6:0<=ah l%2147483647:=Int.emod_nonneg _ dM;have al:ah l%2147483647<2147483647:=Int.emod_lt_of_pos _ dM;have b2:Hid (ah l%2147483647=ah l%2147483647):=zH rfl;have aw:D≠w.heap.size+1:=oM;cases n
  ·have q:=zV aq rfl;rw[<-a5.out rfl]at q Z ho a6 al;rw[q]at Z ho;replace q:=zH q
   gi_wp2
   refine⟨sM,.inl ⟨_,_,rfl,run_takeDeferred hK,?_⟩⟩;refine⟨_,results_tmp rfl _ _ _,rfl,?_⟩;exact F.trans (belowK_b (w:=w) (Nat.le_refl _) _ D _ _ (by have:=y.size;omega) hK rfl rfl)
  ·have q:=Cw (M:=ah l%2147483647) (G.out rfl) (a2.out rfl) rfl;generalize ah l%2147483647=M at *;by_cases hp:0<M
   ·have q:=zH (q.1 hp)
    gi_wp2
    have ad:=(Below.heap_setCell W ⟨w.heap.size+1,0,none⟩ (.int .u64 (dY z)) D aw).trans hK;have a8:=F.trans (bF (W:=W) (g:=w.heap.size+1) (j:=0) (Nat.le_succ _) (.int .u64 (dY z)));refine⟨sM,.inl ⟨_,_,rfl,run_takeDeferred ad,?_⟩⟩;refine⟨_,results_tmp rfl _ _ _,rfl,?_⟩;exact a8.trans (belowK_b (w:=w) (Nat.le_refl _) _ D _ _ (by have:=y.size;omega) ad rfl rfl)
   ·have q:=q.2 hp
    gi_wp2
    refine⟨sM,.inl ⟨_,_,rfl,run_takeDeferred hK,?_⟩⟩;refine⟨_,results_tmp rfl _ _ _,rfl,?_⟩;exact F.trans (belowK_b (w:=w) (Nat.le_refl _) _ D _ _ (by have:=y.size;omega) hK rfl rfl)
 case stop =>
  rintro D c pre W _ _ h _;exact h.elim
end Go.Proofs.YtopclbeomcggiaaGreat
end
section
namespace Q
open Go.Proofs.YtopclbeomcggiaaGreat
def tm (c i k:Int):ai:=((i,k,0,0),(c:Rat))
theorem Yi:rz 0=[tm 1 1 0]:=dK
theorem Yj:rz 1=[tm 1 0 1]:=dK
end Q
end
section
namespace Q
open Go Go.Proofs.YtopclbeomcggiaaGreat
def XY (B E N:Nat) (l:List ai):Bool :=
 decide (l.length<=N)&&l.all (λt=>decide (-(E:Int)<=t.1.1)&&decide (t.1.1<=E)&&decide (-(E:Int)<=t.1.2.1)&&decide (t.1.2.1<=E)&&decide (-(E:Int)<=t.1.2.2.1)&&decide (t.1.2.2.1<=E)&&decide (-(E:Int)<=t.1.2.2.2)&&decide (t.1.2.2.2<=E)&&decide (t.2.den=1))&&decide (bI l<=(B:Rat))
theorem yX{B E N:Nat}{l:List ai}(h:XY B E N l=true):Bd ⟨1,B,E,N⟩ l:=by
 simp only[XY,Bool.and_eq_true,decide_eq_true_eq,List.all_eq_true]at h;obtain⟨⟨n,d⟩,k⟩:=h;refine⟨n,λt b=>?_,λt b=>?_,k⟩
 ·obtain⟨⟨⟨⟨⟨⟨⟨⟨r,i⟩,e⟩,q⟩,o⟩,m⟩,p⟩,j⟩,-⟩:=d t b;exact⟨r,i,e,q,o,m,p,j⟩
 ·obtain⟨-,hd⟩:=d t b;refine⟨t.2.num,?_⟩
  have:(t.2.num:Rat)=t.2:=by refine Rat.ext rfl ?_;rw[hd];rfl
  rw[this];show t.2*((1:Nat):Rat)=t.2;rw[show((1:Nat):Rat)=1 from rfl,Rat.mul_one]
def S1:Sz:=⟨1,100,10,10⟩
def sm (l:List ai):Bool:=XY 100 10 10 l
def YN (D R:List (List ai)):Bool:=(List.range (R.length-1)).all λi =>
 (sm (R.getD i [])&&sm (D.getD (D.length-1) [])) &&
 (!decide (R.length-1-(D.length-1)<=i) ||
  ((sm (R.getD (R.length-1) [])&&sm (D.getD (i-(R.length-1-(D.length-1))) [])) &&
  (sm (aX (R.getD i []) (D.getD (D.length-1) []))&&sm (aX (R.getD (R.length-1) []) (D.getD (i-(R.length-1-(D.length-1))) []))&&KS (aX (R.getD i []) (D.getD (D.length-1) []))&&KS (aX (R.getD (R.length-1) []) (D.getD (i-(R.length-1-(D.length-1))) [])))))
def Yk (D:List (List ai)):Nat->List (List ai)->Bool
 | 0,_=>true
 | f+1,R=>!decide (D.length-1<R.length) || (YN D R&&Yk D f (fO D R))
def YV (k:Nat):Sz:=⟨1,2^(k+1)-1,k+1,2^(k+1)-1⟩
end Q
end
section
namespace Q
open Go Go.RowKit Go.Proofs.YtopclbeomcggiaaGreat
def af.polyT {g:Option Nat} {T:TypeId} (hT:uT≠T) (hT':aJ≠T) (l:List ai) (x:Value):af (Lr g T):=af.of (λv w=>∃u,v=.tuple #[u,x]/\ak w u l) (λ_ _ _ hb=>λ⟨u,e,h⟩=>⟨u,e,h.lr hb hT hT'⟩)
def af.polys {g:Option Nat} {T:TypeId} (hT:uT≠T) (hT':aJ≠T) (h3:Go.Proofs.YtopclbeomcggiaaGreat.polyT≠T) (L:List (List ai)):af (Lr g T):=af.of (λv w=>jc w v L) (λ_ _ _ hb h=>bU.lr h hb ⟨hT,hT'⟩ h3)
end Q
namespace Go.Proofs.YtopclbeomcggiaaGreat
open Go.RowKit Q
variable {w:World} {v u:Value} {l p q r:List ai}
end Go.Proofs.YtopclbeomcggiaaGreat
end
section
namespace Q
open Go Go.Proofs.YtopclbeomcggiaaGreat
def YO (t:Int × Int × Int × Int × Int):ai:=((t.1%3,t.2.1%4-1,t.2.2.1%2,t.2.2.2.1%2),((t.2.2.2.2.tmod 4:Int):Rat))
abbrev Tz:=Int × Int × Int × Int × Int
def WL (t:Tz):Prop:=(0<=t.1/\t.1<256)/\(0<=t.2.1/\t.2.1<256)/\(0<=t.2.2.1/\t.2.2.1<256)/\(0<=t.2.2.2.1/\t.2.2.2.1<256)/\-128<=t.2.2.2.2/\t.2.2.2.2<128
end Q
namespace Go.Proofs.YtopclbeomcggiaaGreat
open Go.RowKit Q
def UD (t:Int × Int × Int × Int × Int):List Value:=[.int .u8 t.1,.int .u8 t.2.1,.int .u8 t.2.2.1,.int .u8 t.2.2.2.1,.int .i8 t.2.2.2.2]
def Vr (T:TypeId):El Tz where
 T:=T
 sz:=5
 pos:=by decide
 E _ cs t:=cs=UD t/\WL t
 len:=by rintro w c t ⟨rfl,h⟩;rfl
 one:=by rintro w c t ⟨rfl,h⟩ v hv;simp only[UD,List.mem_cons,List.not_mem_nil,or_false]at hv;rcases hv with rfl|rfl|rfl|rfl|rfl<;>rfl
 on:=λh _=>h
 ok _:=True
 lr:=λh _ _=>h
 self:=trivial
def Yl (w:World) (v:Value) (l:List Tz):Prop:=∃T,bU (Vr T) w v l
end Go.Proofs.YtopclbeomcggiaaGreat
end
section
namespace Q
open Go Go.Proofs.YtopclbeomcggiaaGreat
def Tz.get (t:Tz) (v:Nat):Int:=match v with|0=>t.1|1=>t.2.1|2=>t.2.2.1|_=>t.2.2.2.1
def Vs (t:Tz) (k:Nat):Ex:=(if 0<k then t.1%3 else 0,if 1<k then t.2.1%3 else 0,if 2<k then t.2.2.1%3 else 0,if 3<k then t.2.2.2.1%3 else 0)
def WM (vs:Nat) (t:Tz):ai:=(Vs t vs,((t.2.2.2.2.tmod 10:Int):Rat))
def WN (L:List Tz) (n vs:Nat):List ai:=(L.take n).map (WM vs)
def YH (L:List Tz) (n vs:Nat):List ai:=canon (WN L n vs)
end Q
namespace Go.Proofs.YtopclbeomcggiaaGreat
open Go.RowKit Q
end Go.Proofs.YtopclbeomcggiaaGreat
namespace Q
open Go Go.RowKit Q Go.Proofs.YtopclbeomcggiaaGreat
end Q
namespace Go.Proofs.YtopclbeomcggiaaGreat
open Go.RowKit Q
end Go.Proofs.YtopclbeomcggiaaGreat
end
section
namespace Go.Proofs.YtopclbeomcggiaaGreat
open Go.RowKit Q Go.WideMaps Go.Maps
end Go.Proofs.YtopclbeomcggiaaGreat
end
section
namespace Q
open Go Go.Proofs.YtopclbeomcggiaaGreat
structure Pk (s:Sz) (p:List ai):Prop where
 v:bR p
 b:Bd s p
 k:s.ok
namespace Pk
variable {s t:Sz} {p q:List ai}
theorem mul(h:Pk s p)(d:Pk t q)(k:(s.mul t).ok):Pk (s.mul t) (aX p q):=⟨bR.mul _ _,(h.b.prods d.b).canon,k⟩
theorem rs(h:Pk s p):∀t∈p,Rs t.2:=h.b.rs h.k
theorem rk(h:Pk s p):∀t∈p,Rk t.2:=λt b=>(h.rs t b).rk
theorem ir(h:Pk s p):∀t∈p,InR t.1/\Rk t.2:=λt d=>⟨h.b.inR h.k t d,h.rk t d⟩
theorem len(h:Pk s p):p.length<=100000000:=h.b.len h.k
end Pk
structure Wr (p:List ai):Prop where
 v:bR p
 rs:∀t∈p,Rs t.2
 ir:∀t∈p,Go.Proofs.YtopclbeomcggiaaGreat.InR t.1
 len:p.length<=100000000
theorem Pk.wr{s:Sz}{p:List ai}(h:Pk s p):Wr p:=⟨h.v,h.rs,λt b=>(h.ir t b).1,h.len⟩
theorem Wr.sub{p q:List ai}(h:Wr p)(b:q.Sublist p):Wr q:=⟨h.v.sublist b,λt d=>h.rs t (b.subset d),λt d=>h.ir t (b.subset d),Nat.le_trans b.length_le h.len⟩
theorem Vt{c:Rat}(h:Rs c):Rs (c*(-1)):=by rw[(gR:c*(-1)=-c)];exact⟨by rw[Rat.neg_den];exact h.1,by rw[Rat.neg_num,Int.natAbs_neg];exact h.2⟩
theorem Wr.neg{p:List ai}(h:Wr p):Wr (bN p (-1)):=by
 refine⟨h.v.scale _,λt b=>?_,λt b=>?_,?_⟩
 ·rw[bN,if_neg dK]at b;obtain⟨s,d,rfl⟩:=List.mem_map.1 b;exact Vt (h.rs s d)
 ·rw[bN,if_neg dK]at b;obtain⟨s,d,rfl⟩:=List.mem_map.1 b;exact h.ir s d
 ·rw[bN,if_neg dK,List.length_map];exact h.len
end Q
namespace Go.Proofs.YtopclbeomcggiaaGreat
open Go.RowKit Q
variable {w:World} {v u:Value} {s t:Sz} {p q:List ai}
theorem I4(b:Pk s p)(d:Pk t q)(e:p=q)(hp:ak w v p)(hq:ak w u q):Calls Tryz.prog 13 #[v,u] w (ru w (.bool true)) :=
 (decide_eq_true e)▸OP v u p q w hp hq b.rk d.rk b.len
end Go.Proofs.YtopclbeomcggiaaGreat
end
section
namespace Q
theorem rY{p:List ai}{m:ai}(h:m.2≠0):jK p m=prods p [m]:=by
 rw[jK,if_neg h]
 induction p with
 | nil=>rfl
 | cons s p b=>rw[List.map_cons,b];rfl
theorem O0(x:Pt)(t:ai):ev x [t]=t.2*wP x t.1:=by rw[kK,jf];grind
theorem QT{p q:List ai}{k:Nat}{t:ai}(hp:bR p)(hq:bR q)(h:q[k]?=some t):dD (aX p (q.take k)) (jK p t)=aX p (q.take (k+1)):=by have b:t.1.nat=true:=(hq.2 t (List.mem_of_getElem? h)).2;have e:=(hq.sublist (List.take_sublist k q)).nat;have d:=(hq.sublist (List.take_sublist (k+1) q)).nat;rw[qK (bR.mul _ _) (hp.times b)];refine yt (bR.add _ _) (bR.mul _ _) λx=>?_;rw[ev_add x (bR.mul _ _).nat (hp.times b).nat,ev_mul x hp.nat e,QO x hp.nat b,ev_mul x hp.nat d,List.take_add_one,h];simp only[Option.toList_some];rw[oN,O0,Rat.mul_add]
theorem QU(e:Ex):e.add e0=e:=by simp[Ex.add,e0]
theorem Gq(p:List ai)(c:Rat):jK p (e0,c)=bN p c:=by
 unfold jK bN;split
 ·rfl
 ·refine List.map_congr_left λt _=>?_;simp only[mulT,QU]
namespace Pk
variable {s t:Sz} {p q:List ai}
theorem times(h:Pk s p)(d:Pk t q)(k:(s.mul t).ok){u:ai}(hu:u∈q):Bd (s.mul t) (jK p u)/\∀a∈p,Go.Proofs.YtopclbeomcggiaaGreat.InR (a.1.add u.1):=by have hz:u.2≠0:=(d.v.2 u hu).1;have hb:Bd t [u]:=d.b.sub (List.singleton_sublist.2 hu);have hp:=h.b.prods hb;refine⟨by rw[rY hz];exact hp,λa ha=>?_⟩;exact hp.inR k (mulT a u) (List.mem_flatMap.2 ⟨a,ha,sM⟩)
theorem take(h:Pk s p)(k:Nat):Pk s (p.take k):=⟨h.v.sublist (List.take_sublist _ _),h.b.take k,h.k⟩
end Pk
end Q
namespace Go.Proofs.YtopclbeomcggiaaGreat
open Go.RowKit Q Go.WideMaps Go.Maps
theorem I5{B C:Value}{p q:List ai}{w:World}(hP:Wr p)(hQ:Wr q)(l:∀k,Wr (aX p (q.take k)))(j:∀u∈q,Wr (jK p u)/\∀t∈p,InR (t.1.add u.1))(hp:ak w B p)(hq:ak w C q):Calls Tryz.prog 12 #[B,C] w (aS w (aX p q)):=by
 obtain⟨ap,cp,rfl,I⟩:=hp.shape;obtain⟨M,L,rfl,J⟩:=hq.shape;have F:=hQ.len;replace l:=zH l;replace j:=zH j;have z:=zH (λk t (h:q[k]?=some t)=>QT hP.v hQ.v h)
 go_enter Tryz.func12,Tryz.ntmps12
 go_wp2;have hb0:Below w.heap.size w (w.alloc (.cells #[] aJ)):=(Below.refl _ _).alloc (Nat.le_refl _) _;have s:ak (w.alloc (.cells #[] aJ)) (.slice (some ⟨w.heap.size,0,none⟩) 0 0) []:=(gW aO w).isSl;change Below w.heap.size w (w.alloc (.cells #[] 43))at hb0;change ak (w.alloc (.cells #[] 43)) _ _ at s;replace hp:=zH hp;replace hq:=zH hq
 go_loopw [5,6] (λo i wr=>∃k:Nat,k<=q.length/\i=.int .i64 k/\Hid (ak wr o (aX p (q.take k)))/\Below w.heap.size w wr) (λ_ i _=>q.length-(intOf i).toNat)
 case atStart=>exact⟨0,oM,rfl,zH (by rw[List.take_zero,tH];exact s),hb0⟩
 case round =>
  clear s hb0;obtain⟨k,N,rfl,hO,d⟩:=hrel;by_cases y:k<q.length
  ·have m:q[k]?=some q[k]:=List.getElem?_eq_getElem y;generalize q[k]=t at m;obtain⟨G,oq,rt,rfl,x,hC⟩:=fB (hq.out.on d) m;have D:(k:Int)<q.length:=oM;have hr:=hC.range;have h8:(bC t.1++rt).length=8:=by rw[List.length_append,x.len];rfl
   have b:=List.mem_of_getElem? m;have r:=vX _ p _ t wr (hp.out.on d) ⟨rt,rfl,x⟩ hP.rs (hQ.rs t b) (j.out t b).2 hP.len;have n:=λW u (hb:Below wr.heap.size wr W) (hu:ak W u (jK p t))=>Cv u5 u _ _ W (hO.out.on hb) hu (l.out k).rs (j.out t b).1.rs (l.out k).len (j.out t b).1.len;rw[z.out k t m]at n;clear hC b x;replace r:=zH r;replace n:=zH n
   go_wp2_with (first
    | (refine aj rfl _ _ 27 rfl aJ Tryz.underlying27 _ 8 96 kM _ _ _ rfl .i64 _ rfl k rfl y G oq rfl ?_)
    | (refine wpList_load_mid rfl 43 _ rfl _ _ rfl _ _ hr Tryz.underlying43 rfl (by rw[h8];kernel_rfl) ?_)
    | (go_at_call 44;refine r.out.mono ?_;rintro en w3 ⟨v3,rfl,hv3,hb3⟩)
    | (go_at_call 39;refine(n.out _ _ hb3 hv3).mono ?_;rintro en w4 ⟨v4,rfl,hv4,hb4⟩))
   have hb34:=hb3.trans (hb4.mono hb3.size);go_roundw
   case rel=>exact⟨k+1,oM,nM,zH hv4,d.trans (hb34.mono d.size)⟩
   case measure=>simp[intOf];omega
  ·obtain rfl:k=q.length:=oM;rw[List.take_of_length_le (Nat.le_refl _)]at hO;go_wp2;go_ret;exact⟨_,rfl,hO.out,d⟩
theorem M5{s t:Sz}{i h:Value}{p q:List ai}{w:World}(d:Pk s p)(b:Pk t q)(e:(s.mul t).ok)(hp:ak w i p)(hq:ak w h q):Calls Tryz.prog 12 #[i,h] w (aS w (aX p q)) :=
 I5 d.wr b.wr (λk=>(d.mul (b.take k) e).wr) (λu hu=>⟨(Pk.wr (s:=s.mul t) ⟨d.v.times (b.v.2 u hu).2,(d.times b e hu).1,e⟩),(d.times b e hu).2⟩) hp hq
theorem rZ(i j:Value)(p:List ai)(c:Rat)(w:World)(hp:ak w i p)(hc:bM w j c)(k:∀t∈p,Rs t.2)(l:Rs c)(b:∀t∈p,InR t.1)(n:p.length<=100000000) :
  Calls Tryz.prog 42 #[i,j] w (aS w (bN p c)):=by
 obtain⟨n5,a5,k5,c5,n6,a6,k6,c6,rfl⟩:=fE hc;have d:=zH (λW (hb:Below w.heap.size w W)=>vX i p (bC e0++[.bool n5,.slice a5 k5 c5,.bool n6,.slice a6 k6 c6]) (e0,c) W (hp.on hb) ⟨_,rfl,(hc.on hb).cellsC⟩ k l (λt m=>by rw[QU];exact b t m) n);rw[Gq]at d;replace hp:=zH hp;replace hc:=zH hc;clear k l b
 go_enter Tryz.func42,Tryz.ntmps42
 go_upto_region 1 with (fail)
 refine iZ λW hb0 B o=>?_;have y1:=B.at1 0 _ rfl;have y2:=B.at1 1 _ rfl;have y3:=B.at1 2 _ rfl;have y4:=B.at1 3 _ rfl
 go_wp2_with (go_at_call 44;refine(d.out _ hb0).mono ?_;rintro en w3 ⟨v3,rfl,hv3,hb3⟩)
 go_ret;exact⟨_,rfl,hv3,hb0.trans (hb3.mono hb0.size)⟩
theorem QW:Rs (-1:Rat):=xB (s:=⟨1,1,0,1⟩) dK (Dv.int 1 (-1)) (show bH (((-1:Int)):Rat)<=((1:Nat):Rat) by rw[rabs_int];exact Rat.natCast_le_natCast.2 dM)
theorem Vu{s:Sz}{e d:Value}{p:List ai}{c:Rat}{w:World}(b:Pk s p)(i:Rs c)(hp:ak w e p)(hc:bM w d c):Calls Tryz.prog 42 #[e,d] w (aS w (bN p c)) :=
 rZ e d p c w hp hc b.rs i (λt h=>(b.ir t h).1) b.len
theorem WO{s t:Sz}{v u:Value}{p q:List ai}{w:World}(d:Pk s p)(b:Pk t q)(hp:ak w v p)(hq:ak w u q):Calls Tryz.prog 39 #[v,u] w (aS w (oZ p q)) :=
 qK d.v b.v▸Cv v u p q w hp hq d.rs b.rs d.len b.len
theorem UE{d b:Value}{p q:List ai}{w:World}(hP:Wr p)(hQ:Wr q)(hp:ak w d p)(hq:ak w b q):Calls Tryz.prog 35 #[d,b] w (aS w (gH p q)):=by
 have i:=zH (λW u (hb:Below w.heap.size w W) (hu:bM W u (((-1:Int)):Rat))=>rZ b u q (-1) W (hq.on hb) hu hQ.rs QW hQ.ir hQ.len);have ha:=zH (λW u (hb:Below w.heap.size w W) (hu:ak W u (bN q (-1)))=>qK hP.v (hQ.v.scale (-1))▸Cv d u p _ W (hp.on hb) hu hP.rs hQ.neg.rs hP.len hQ.neg.len);replace hp:=zH hp;replace hq:=zH hq
 go_enter Tryz.func35,Tryz.ntmps35
 go_wp2_with (first
  | (go_at_call 24;refine(gG (-1) _ oM oM).mono ?_;rintro en w3 ⟨v3,rfl,hv3,hb3⟩)
  | (go_at_call 42;refine(i.out _ _ hb3 hv3).mono ?_;rintro en w4 ⟨v4,rfl,hv4,hb4⟩)
  | (go_at_call 39;refine(ha.out _ _ (hb3.trans (hb4.mono hb3.size)) hv4).mono ?_;rintro en w5 ⟨v5,rfl,hv5,hb5⟩))
 have hb34:=hb3.trans (hb4.mono hb3.size);go_ret;exact⟨_,rfl,hv5,hb34.trans (hb5.mono hb34.size)⟩
theorem WP{s t:Sz}{d b:Value}{p q:List ai}{w:World}(h:Pk s p)(e:Pk t q)(i:(t.mul ⟨1,1,0,1⟩).ok)(hp:ak w d p)(hq:ak w b q):Calls Tryz.prog 35 #[d,b] w (aS w (gH p q)):=UE h.wr e.wr hp hq
end Go.Proofs.YtopclbeomcggiaaGreat
end
section
namespace Q
open Go Go.Proofs.YtopclbeomcggiaaGreat
def YW (s:Sz) (n:Nat):Sz:=⟨s.D^n,s.B^n,s.E*n,s.N^n⟩
theorem Vv:Bd ⟨1,1,0,1⟩ (bZ 1):=yX dK
theorem Vw:Pk ⟨1,1,0,1⟩ (bZ 1):=⟨bR.const 1,Vv,dK⟩
namespace Pk
variable {s t:Sz} {p q:List ai}
theorem var(v:Nat):Pk ⟨1,1,1,1⟩ (rz v):=⟨bR.var v,by
 obtain rfl|rfl|rfl|h:v=0\/v=1\/v=2\/3<=v:=oM
 ·exact yX dK
 ·exact yX dK
 ·exact yX dK
 ·obtain⟨u,rfl⟩:∃u,v=u+3:=⟨v - 3,oM⟩
  exact yX (dK:XY 1 1 1 [((0,0,0,1),1)]=true),dK⟩
end Pk
end Q
namespace Go.Proofs.YtopclbeomcggiaaGreat
open Go.RowKit Q
end Go.Proofs.YtopclbeomcggiaaGreat
end
section
namespace Q
open Go Go.Proofs.YtopclbeomcggiaaGreat
theorem QX{m g:ai}{a:List ai}(ha:bR (m::a))(hz:g.2≠0)(b:(m.1.sub g.1).nat=true):bR [gI m g] :=
 Au b (by
  show m.2/g.2≠0;have:=(ha.2 m sM).1;intro h;rw[Rat.div_def]at h
  exact jr this (λd=>hz (by rw[<-Rat.inv_inv g.2,d,Rat.inv_zero])) h)
theorem AL{a:List ai}(hv:bR a){E:Ex}{c:Rat}(hc:c≠0)(k:∀t∈a,E=t.1\/E.gt t.1=true)(i:cf a E=c):∃a',a=(E,c)::a':=by
 obtain⟨t,d,he⟩:=PQ (l:=a) (e:=E) (by rw[i];exact hc)
 cases a with
 | nil=>cases d
 | cons m a =>
  have j:m.1=E:=by
   rcases k m sM with h|h
   ·exact h.symm
   ·rcases List.mem_cons.1 d with rfl|d
    ·exact he
    ·have b:=hv.1.head t d;rw[he]at b;rw[Ex.gt_asymm h]at b;cases b
  have b:=hv.cf_head;rw[j,i]at b;exact⟨a,by rw[<-j,b]⟩
theorem AO{x g:ai}{s ts:List ai}(d:bR (x::s))(hb:bR (g::ts)):(∀t∈aX (x::s) (g::ts),x.1.add g.1=t.1\/(x.1.add g.1).gt t.1=true)/\cf (aX (x::s) (g::ts)) (x.1.add g.1)=x.2*g.2:=by
 refine⟨lm (P:=λe=>x.1.add g.1=e\/(x.1.add g.1).gt e=true) λt j=>?_,?_⟩
 ·obtain⟨a,ha,b,i,rfl⟩:=mM j;by_cases h:x.1=a.1/\g.1=b.1
  ·exact .inl (by simp only[mulT,h.1,h.2])
  ·exact .inr (tF (d.1.head_or a ha) (hb.1.head_or b i) h)
 ·rw[aX,nD,if_pos (Ex.nat_add d.nat.head hb.nat.head),qC d.1 hb.1]
theorem Cx{x g:ai}(hz:g.2≠0):gI (x.1.add g.1,x.2*g.2) g=x:=by
 obtain⟨e,c⟩:=x;unfold gI;refine Prod.ext ?_ ?_
 ·show(e.add g.1).sub g.1=e;simp only[Ex.add,Ex.sub];refine Ex.ext' ?_ ?_ ?_ ?_<;>simp only<;>omega
 ·show c*g.2/g.2=c;exact Rat.mul_div_cancel hz
theorem Cy{x:ai}{s b d:List ai}(e:bR (x::s))(hb:bR b)(hd:bR d):gH (oZ (aX (x::s) b) d) (aX b [x])=oZ (aX s b) d :=
 yt (bR.sub _ _) (bR.add _ _) λy=>by have i:bR [x]:=⟨List.pairwise_singleton _ _,λt h=>e.2 t (by simp at h;simp[h])⟩;rw[ev_sub y (bR.add _ _).nat (bR.mul _ _),ev_add y (bR.mul _ _).nat hd.nat,ev_mul y e.nat hb.nat,ev_mul y hb.nat i.nat,ev_add y (bR.mul _ _).nat hd.nat,ev_mul y e.tail.nat hb.nat,kK,kK,jf];grind
theorem xG{p:List ai}(hp:bR p):oZ p []=p:=by rw[oZ,List.append_nil,G9 hp]
theorem iD{c:Rat}(h:Dv 1 c):∃z:Int,c=(z:Rat):=by obtain⟨k,b⟩:=h;exact⟨k,by rw[<-b,show((1:Nat):Rat)=1 from rfl,Rat.mul_one]⟩
theorem Vx{z:Int}{n:Nat}(h:bH (z:Rat)<=(n:Rat)):z.natAbs<=n:=by rw[rabs_int]at h;exact Rat.natCast_le_natCast.1 h
end Q
end
section
namespace Q
namespace MP
def dv (D:Nat) (p:MP):Prop:=∀t∈p.l,Dv D t.2
def am (p:MP):Rat:=bI p.l
theorem am_nonneg(p:MP):0<=p.am:=lW _
theorem xH{D:Nat}{l:List ai}(h:∀t∈l,Dv D t.2):∀t∈canon l,Dv D t.2:=(Ba (l:=l) (r:=[]) (p:=λ_=>True) (λ_ _=>trivial) (λ_ _=>trivial) h (λ_ h=>by cases h)).2.2.2
theorem O1(l:List ai):∀r,bI (l.foldl ins r)<=bI r+bI l:=by
 induction l with
 | nil=>intro r;simp only[List.foldl_nil,bI];grind
 | cons m l b=>intro r;have:=b (ins r m);have:=A9 r m;simp only[List.foldl_cons,bI];grind
theorem qd(l:List ai):bI (canon l)<=bI l:=by have:=O1 l [];simp only[bI]at this;unfold canon;grind
theorem Cz{D:Nat}{p q:MP}(h:p.dv D)(d:q.dv D):(p+q).dv D:=xH λt b=>(List.mem_append.1 b).elim (h t) (d t)
theorem QY{D d:Nat}{p q:MP}(h:p.dv D)(i:q.dv d):(p*q).dv (D*d):=xH λt e=>by obtain⟨a,ha,b,hb,rfl⟩:=mM e;exact(h a ha).mul (i b hb)
theorem jd{p q:MP}(h:p.dv 1)(b:q.dv 1):(p*q).dv 1:=QY h b
theorem O3{D:Nat}{r:Rat}(h:Dv D r):(c r).dv D:=λt b=>by
 have b:t∈bZ r:=b;unfold bZ at b;split at b
 ·cases b
 ·rw[List.mem_singleton.1 b];exact h
theorem TA{D b:Nat}(hd:D∣b){p:MP}(h:p.dv D):p.dv b:=λt d=>(h t d).dvd hd
theorem yY{p:List ai}{c:Rat}{t:ai}(h:t∈bN p c):∃s∈p,t=(s.1,s.2*c):=by
 unfold bN at h;split at h
 ·cases h
 ·obtain⟨s,b,rfl⟩:=List.mem_map.1 h;exact⟨s,b,rfl⟩
theorem QZ{D:Nat}{p:MP}(h:p.dv D):(-p).dv D:=λt b=>by obtain⟨s,d,rfl⟩:=yY (p:=p.l) (c:=-1) b;have:=(h s d).neg;have e:s.2*-1=-s.2:=gR;show Dv D (s.2*-1);rw[e];exact this
theorem KV(p q:MP):p-q=p+-q:=gR
theorem CB{D:Nat}{p q:MP}(h:p.dv D)(b:q.dv D):(p-q).dv D:=by rw[KV];exact Cz h (QZ b)
theorem Gs(D:Nat):(0:MP).dv D:=λ_ h=>by cases h
theorem Vy(D:Nat):(1:MP).dv D:=O3 (r:=1) (Dv.int D 1)
theorem vY(D:Nat)(k:Int):(c (k:Rat)).dv D:=O3 (Dv.int D k)
theorem KW(p q:MP):(p+q).am<=p.am+q.am:=by have:=qd (p.l++q.l);rw[sZ]at this;exact this
theorem CE(p q:MP):(p*q).am<=p.am*q.am:=by have:=qd (prods p.l q.l);rw[Bb]at this;exact this
theorem M6:(0:MP).am=0:=rfl
theorem I6(r:Rat):(c r).am=bH r:=by
 show bI (bZ r)=_;unfold bZ;split
 ·rename_i h;rw[h];rfl
 ·simp only[bI];grind
theorem qR:bH 1=1:=dM
theorem Vz:(1:MP).am=1:=by rw[<-zR,I6,qR]
theorem VA(p:MP):(-p).am<=p.am:=by
 have e:-p=c (-1)*p:=by refine ext' λx=>?_;rw[ev_neg,ev_mul,ev_c];grind
 have:=CE (c (-1)) p;rw[I6]at this;rw[e];have b:bH (-1)=1:=dM;rw[b]at this;grind
theorem KX(p q:MP):(p-q).am<=p.am+q.am:=by have:=KW p (-q);have:=VA q;rw[KV];grind
theorem VB(l:List ai)(e:Ex):bH (cf l e)<=bI l:=by
 induction l with
 | nil=>simp only[jq,bI];decide
 | cons t l i =>
  rw[bJ];simp only[bI];have j:=A8 (if t.1=e then t.2 else 0) (cf l e)
  have h:bH (if t.1=e then t.2 else 0)<=bH t.2:=by
   split
   ·exact Rat.le_refl
   ·have d:=fM t.2;have b:bH 0=0:=dM;rw[b];exact d
  grind
theorem EY{D:Nat}{l:List ai}(h:∀t∈l,Dv D t.2)(e:Ex):Dv D (cf l e):=by
 induction l with
 | nil=>rw[jq];exact Dv.zero D
 | cons t l b =>
  rw[bJ];refine Dv.add ?_ (b λs d=>h s (by simp[d]));split
  ·exact h t sM
  ·exact Dv.zero D
theorem KY{p:MP}{t:ai}(h:t∈p.l):cf p.l t.1=t.2:=J9 (List.Pairwise.imp (λh=>Ex.gt_ne h) p.v.1) h
theorem xJ{D:Nat}{f:Nat->MP}:∀{n:Nat},(∀j,j<n->(f j).dv D)->(cK f n).dv D
 | 0,_=>Gs D
 | n+1,h=>Cz (xJ λj b=>h j (by omega)) (h n (by omega))
theorem M7{K:Rat}{f:Nat->MP}:∀{n:Nat},(∀j,j<n->(f j).am<=K)->(cK f n).am<=(n:Rat)*K
 | 0,_=>by rw[cK,M6];have e:((0:Nat):Rat)=0:=rfl;rw[e];grind
 | n+1,h=>by have k:=M7 (n:=n) λj i=>h j oM;have b:=h n oM;have d:=KW (cK f n) (f n);rw[cK,Rat.natCast_add];have e:((1:Nat):Rat)=1:=rfl;rw[e];grind
theorem VC(p q:MP)(e:Ex):cf (p+q).l e=cf p.l e+cf q.l e:=lf_add _ p q
theorem Gt(f:Nat->MP)(e:Ex):∀n,cf (cK f n).l e=iI (λj=>cf (f j).l e) n
 | 0=>rfl
 | n+1=>by rw[cK,VC,Gt f e n];rfl
theorem qy(r:Rat)(p:MP)(e:Ex):cf (c r*p).l e=r*cf p.l e:=by
 show Lf _ _=_;rw[lf_mul];by_cases h:r=0
 ·rw[h];show(0:Rat)=_;grind
 ·have:(c r).l=[(e0,r)]:=by show bZ r=_;rw[bZ,if_neg h]
  rw[this,ry,J7];simp only[Ex.zero_add];show r*cf p.l e+0=_;grind
theorem I7{f:Nat->Rat}{g:Nat->Int}:∀{n:Nat},(∀i,i<n->f i=(g i:Rat))->iI f n=(vM g n:Rat)
 | 0,_=>rfl
 | n+1,h=>by rw[iI,vM,I7 λi b=>h i (by omega),h n (by omega),Rat.intCast_add]
def J6 (v R j w:Nat):Nat:=if w<v then Cf R (j%R^v) w else if w=v then j/R^v else 0
def O4 (v R j:Nat):Ex:=((J6 v R j 0:Int),(J6 v R j 1:Int),(J6 v R j 2:Int),(J6 v R j 3:Int))
theorem Gu(v R j:Nat){w:Nat}(b:w<4):(O4 v R j).get w=J6 v R j w:=by
 rcases w with _|_|_|_|w
 ·rfl
 ·rfl
 ·rfl
 ·rfl
 ·omega
theorem TB(v R j:Nat):(O4 v R j).nat=true:=by rw[Ex.nat_iff];simp only[O4];omega
theorem Ex.ext4{e f:Ex}(h:∀w,w<4->e.get w=f.get w):e=f:=Ex.ext' (h 0 oM) (h 1 oM) (h 2 oM) (h 3 oM)
def mo (v R j:Nat):MP:=⟨[(O4 v R j,1)],Au (TB v R j) (by decide)⟩
theorem UF(v R j:Nat):(mo v R j).dv 1:=λt b=>by rw[List.mem_singleton.1 b];exact Dv.int 1 1
theorem WQ(v R j:Nat):(mo v R j).am=1:=by show bH 1+0=(1:Rat);rw[qR];decide +kernel
theorem KZ(v R j:Nat){w:Nat}(b:w<4):(mo v R j).deg w=J6 v R j w:=by show max (-1) ((O4 v R j).get w)=_;rw[Gu _ _ _ b];omega
theorem VD{v R:Nat}(b:0<R)(j:Nat){w:Nat}(h:w<v):J6 v R j w<R:=by rw[J6,if_pos h];exact Ch b _ _
theorem Gv(v R j:Nat):J6 v R j v=j/R^v:=by rw[J6,if_neg oM,if_pos rfl]
theorem TD{v R:Nat}(hv:v<4)(d:0<R){i j:Nat}(h:O4 v R i=O4 v R j):i=j:=by
 have b:∀w,w<4->J6 v R i w=J6 v R j w:=λw b=>by have:=congrArg (Ex.get · w) h;simp only[Gu _ _ _ b]at this;omega
 have e:=b v hv;rw[Gv,Gv]at e
 have k:i%R^v=j%R^v:=Gc d v _ _ (Nat.mod_lt _ (Nat.pow_pos d)) (Nat.mod_lt _ (Nat.pow_pos d)) λw h=>by have:=b w oM;rw[J6,J6,if_pos h,if_pos h]at this;exact this
 have:=Nat.div_add_mod i (R^v);have:=Nat.div_add_mod j (R^v);rw[e,k]at *;omega
theorem I8{W:Nat}:∀(n:Nat)(y:Nat->Nat),(∀i,i<n->y i<W)->∀i,i<n->Cf W (nZ W y n) i=y i
 | 0,_,_=>λi d=>by omega
 | n+1,y,h=>λi d=>by
  have b:=h 0 oM
  cases i with
  | zero=>rw[Cf,nZ,Nat.add_mul_mod_self_left,Nat.mod_eq_of_lt b]
  | succ i =>
   rw[Cf,nZ,Nat.add_mul_div_left _ _ oM,Nat.div_eq_of_lt b,Nat.zero_add];exact I8 n _ (λi d=>h (i+1) oM) i oM
theorem VE{v R:Nat}(hv:v<4)(p:0<R){e:Ex}(l:e.nat=true)(h:∀w,w<v->e.get w<R)(k:∀w,v<w->w<4->e.get w=0):∃r,r<R^v/\e=O4 v R (r+R^v*(e.get v).toNat):=by
 have d:∀i,i<v->(e.get i).toNat<R:=λi o=>by have:=h i o;have:=Ex.nat_get l i;omega
 refine⟨nZ R (λw=>(e.get w).toNat) v,xc v _ d,Ex.ext4 λw n=>?_⟩;have b:=xc v _ d;rw[Gu _ _ _ n,J6];have:=Ex.nat_get l w;by_cases j:w<v
 ·rw[if_pos j,Nat.add_mul_mod_self_left,Nat.mod_eq_of_lt b,I8 v _ d w j];omega
 ·rw[if_neg j];by_cases m:w=v
  ·subst m;rw[if_pos rfl,Nat.add_mul_div_left _ _ (Nat.pow_pos p),Nat.div_eq_of_lt b,Nat.zero_add];omega
  ·rw[if_neg m,k w oM n];rfl
def sV (v R A:Nat) (p q:MP) (j:Nat):MP:=if j<A then mo v R j*p else mo v R (j-A)*q
theorem EZ{v R j H:Nat}{p:MP}(h:p.am<=(H:Rat)):(mo v R j*p).am<=(H:Rat):=by have:=CE (mo v R j) p;rw[WQ]at this;grind
theorem I9{v:Nat}(hv:v<4){p q:MP}(lp:p.lo (v+1))(lq:q.lo (v+1))(ip:p.dv 1)(iq:q.dv 1){m n k d H R X:Nat}(hm:p.deg v<=m)(hn:q.deg v<=n)(av:k<m)(au:k<n)
  (hp:∀w,w<v->p.deg w<=d) (hq:∀w,w<v->q.deg w<=d) (ap:p.am<=(H:Rat)) (aq:q.am<=(H:Rat)) (hR:0<R)
  (hX:(2*((m+n-2*k)*R^v*(X*H))+1)^((m+n-2*k-1)*(R+d)^v)<(X+1)^((m+n-2*k)*R^v)) :
  ∃S T:MP,(S≠0\/T≠0)/\S.deg v<n-k/\(S*p+T*q).deg v<=k/\(∀w,w<v->(S*p+T*q).deg w<=((R-1+d:Nat):Int))/\(S*p+T*q).dv 1/\(S*p+T*q).am<=(((m+n-2*k)*R^v*(X*H):Nat):Rat)/\(S*p+T*q).lo (v+1):=by
 obtain⟨u,hu⟩:∃u,u=m+n - 2*k:=⟨_,rfl⟩;rw[<-hu]at hX ⊢;obtain⟨b,hS⟩:∃b,b=n - k:=⟨_,rfl⟩;obtain⟨L,hT⟩:∃L,L=m - k:=⟨_,rfl⟩;have C:u=b+L:=oM;obtain⟨Q,hQ⟩:∃Q,Q=R^v:=⟨_,rfl⟩;have I:0<Q:=by rw[hQ];exact Nat.pow_pos hR
 rw[<-hQ]at hX ⊢;obtain⟨Y,ac⟩:∃Y,Y=R+d:=⟨_,rfl⟩;rw[<-ac]at hX;obtain⟨B,K⟩:∃B,B=Y^v:=⟨_,rfl⟩;have an:0<B:=by rw[K];exact Nat.pow_pos oM
 rw[<-K]at hX
 have hdvB:∀j,(sV v R (b*Q) p q j).dv 1:=λj=>by
  unfold sV;split
  ·exact jd (UF _ _ _) ip
  ·exact jd (UF _ _ _) iq
 have hamB:∀j,(sV v R (b*Q) p q j).am<=(H:Rat):=λj=>by
  unfold sV;split
  ·exact EZ ap
  ·exact EZ aq
 have a6:∀j e,∃z:Int,cf (sV v R (b*Q) p q j).l e=(z:Rat)/\z.natAbs<=H:=λj e=>by obtain⟨z,hz⟩:=iD (EY (hdvB j) e);refine⟨z,hz,Vx ?_⟩;rw[<-hz];exact Rat.le_trans (VB _ _) (hamB j)
 have a9:∃M:Nat->Ex->Int,∀j e,cf (sV v R (b*Q) p q j).l e=(M j e:Rat)/\(M j e).natAbs<=H :=
  ⟨λj e=>(cf (sV v R (b*Q) p q j).l e).num,λj e=>by
   obtain⟨z,hz,ab⟩:=a6 j e
   simp only[hz];exact⟨rfl,ab⟩⟩
 obtain⟨M,hM⟩:=a9;obtain⟨s,s1,⟨j0,j1,j2⟩,s3⟩:=Vm (e:=(u - 1)*B) (n:=u*Q) (H:=H) (X:=X) (λi j=>M j (O4 v Y (i+B*(k+1)))) (λi j _ _=>(hM j _).2) hX
 let S:MP:=cK (λj=>c (s j:Rat)*mo v R j) (b*Q)
 let T:MP:=cK (λj=>c (s (b*Q+j):Rat)*mo v R j) (L*Q)
 have G:S*p+T*q=cK (λj=>c (s j:Rat)*sV v R (b*Q) p q j) (u*Q):=by
  rw[C,Nat.add_mul,vN,<-uO,<-uO]
  congr 1
  ·refine dF λj E=>?_;simp only[sV,if_pos E];grind
  ·refine dF λj E=>?_;simp only[sV,if_neg (oM:¬b*Q+j<b*Q),(oM:b*Q+j-b*Q=j)];grind
 have a5:∀(r:Rat)(w:Nat),(c r).fr w:=λr w=>by
  by_cases h:r=0
  ·rw[h];exact oC w
  ·exact rP one_ne (yO h) (rR w)
 have Z:∀j w,w<v->(mo v R j).deg w<=(R-1:Nat):=λj w F=>by rw[KZ _ _ _ oM];have:=VD hR j F;omega
 have J:∀j,(mo v R j).deg v=((j/Q:Nat):Int):=λj=>by rw[KZ _ _ _ hv,Gv,hQ]
 have hi:∀j w,v<w->w<4->(mo v R j).deg w=0:=λj w o y=>by rw[KZ _ _ _ y,J6,if_neg oM,if_neg oM];rfl
 have a8:∀j w,w<v->(sV v R (b*Q) p q j).deg w<=(R-1+d:Nat):=λj w F=>by
  unfold sV;split
  ·exact Int.le_trans (bT w _ _ (Z j w F) (hp w F) oM) oM
  ·exact Int.le_trans (bT w _ _ (Z _ w F) (hq w F) oM) oM
 have ad:∀j w,v<w->w<4->(sV v R (b*Q) p q j).deg w<=0:=λj w o y=>by
  unfold sV;split
  ·exact Int.le_trans (bT w _ _ (Int.le_of_eq (hi _ w o y)) (lp w o y) oM) oM
  ·exact Int.le_trans (bT w _ _ (Int.le_of_eq (hi _ w o y)) (lq w o y) oM) oM
 have aa:∀j,j<u*Q->(sV v R (b*Q) p q j).deg v<=(m+n-k-1:Nat):=λj E=>by
  unfold sV;split
  ·rename_i h;have o:j/Q<b:=(Nat.div_lt_iff_lt_mul I).2 h;have y:=J j;obtain⟨c,hc⟩:∃c:Nat,c=j/Q:=⟨_,rfl⟩;rw[<-hc]at o y;exact Int.le_trans (bT v _ _ (Int.le_of_eq y) hm oM) oM
  ·rename_i h;have o:(j - b*Q)/Q<L:=(Nat.div_lt_iff_lt_mul I).2 (by rw[C,Nat.add_mul]at E;omega);have y:=J (j - b*Q);obtain⟨c,hc⟩:∃c:Nat,c=(j - b*Q)/Q:=⟨_,rfl⟩;rw[<-hc]at o y;exact Int.le_trans (bT v _ _ (Int.le_of_eq y) hn oM) oM
 have hd:∀(w:Nat)(D:Nat),(∀j,j<u*Q->(sV v R (b*Q) p q j).deg w<=D)->(S*p+T*q).deg w<=D:=λw D h=>by rw[G];refine pU oM λj E=>?_;have:=bT w (c (s j:Rat)) _ (a5 _ w) (h j E) oM;omega
 have a4:∀w,w<v->(S*p+T*q).deg w<=(R-1+d:Nat):=λw F=>hd w _ λj _=>a8 j w F;have a3:∀w,v<w->w<4->(S*p+T*q).deg w<=0:=λw o y=>hd w 0 λj _=>ad j w o y;have ar:(S*p+T*q).deg v<=(m+n-k-1:Nat):=hd v _ aa
 have a0:∀(f:Nat->Int)(N:Nat),cK (λj=>c (f j:Rat)*mo v R j) N=0->∀j,j<N->f j=0:=by
  intro f N h0 j E;have o:=congrArg (λg=>cf g.l (O4 v R j)) h0;simp only[Gt]at o;rw[Be E λi hi ag=>?_,qy]at o
  ·have e1:cf (mo v R j).l (O4 v R j)=1:=by show cf [_] _=_;rw[bJ,jq,if_pos rfl];exact Rat.add_zero _
   have e2:cf (0:MP).l (O4 v R j)=0:=rfl;rw[e1,e2]at o;exact Rat.intCast_inj.1 (by rw[Rat.mul_one]at o;exact o)
  ·rw[qy]
   have:cf (mo v R i).l (O4 v R j)=0:=by show cf [_] _=_;rw[bJ,jq,if_neg λh=>ag (TD hv hR h)];exact Rat.add_zero _
   rw[this];grind
 have a2:(S*p+T*q).dv 1:=by rw[G];exact xJ λj _=>jd (vY 1 _) (hdvB j)
 refine⟨S,T,?_,?_,?_,a4,a2,?_,λw o y=>a3 w o y⟩
 ·by_cases a1:S=0
  ·refine .inr λa7=>j2 ?_;rcases Nat.lt_or_ge j0 (b*Q)with h|h
   ·exact a0 s _ a1 j0 h
   ·have al:u*Q=b*Q+L*Q:=by rw[C,Nat.add_mul]
    have:=a0 (λj=>s (b*Q+j)) (L*Q) a7 (j0-b*Q) oM;simp only[(oM:b*Q+(j0-b*Q)=j0)]at this;exact this
  ·exact .inl a1
 ·have:S.deg v<=(b-1:Nat):=pU oM λj E=>by
   have o:j/Q<b:=(Nat.div_lt_iff_lt_mul I).2 E;have y:=J j;obtain⟨x,hc⟩:∃x:Nat,x=j/Q:=⟨_,rfl⟩;rw[<-hc]at o y;have:=bT v (c (s j:Rat)) (mo v R j) (a5 _ v) (Int.le_of_eq y) oM;omega
  omega
 ·by_cases W:S*p+T*q=0
  ·rw[W,deg_zero];omega
  ·rcases Int.lt_or_le k ((S*p+T*q).deg v)with hlt|kL
   ·exfalso;obtain⟨t,O,e⟩:=tC (λh=>W (zero_iff.2 h)) (S*p+T*q).v.nat v;have e':t.1.get v=(S*p+T*q).deg v:=e;have tn:=(S*p+T*q).v.nat t O
    obtain⟨r,r1,r2⟩:=VE hv (oM:0<Y) tn (λw F=>by
     have:=eU O w;have h':aD (S*p+T*q).l w<=(R-1+d:Nat):=a4 w F;omega) (λw o y=>by
     have:=eU O w;have h':aD (S*p+T*q).l w<=0:=a3 w o y;have:=Ex.nat_get tn w;omega)
    rw[<-K]at r1 r2;obtain⟨l,hl⟩:∃l,l=(t.1.get v).toNat:=⟨_,rfl⟩;rw[<-hl]at r2;have ao:k+1<=l/\l<k+1+(u - 1):=oM
    have hi:r+B*(l-(k+1))<(u-1)*B:=by have:=Nat.mul_le_mul_left B (oM:l-(k+1)+1<=u-1);rw[Nat.mul_succ,Nat.mul_comm B (u-1)]at this;omega
    have h3:=s3 _ hi
    have e3:r+B*(l-(k+1))+B*(k+1)=r+B*l:=by rw[Nat.add_assoc,<-Nat.mul_add];congr 2;omega
    simp only[e3,<-r2]at h3
    have h4:cf (S*p+T*q).l t.1=0:=by rw[G,Gt,I7 (g:=λj=>s j*M j t.1) λi _=>by rw[qy,(hM i _).1,Rat.intCast_mul],h3];rfl
    rw[KY O]at h4;exact((S*p+T*q).v.2 t O).1 h4
   ·exact kL
 ·rw[G];have:(((u*Q*(X*H):Nat)):Rat)=((u*Q:Nat):Rat)*((X*H:Nat):Rat):=by rw[Rat.natCast_mul]
  rw[this];refine M7 λj _=>?_;have o:=CE (c (s j:Rat)) (sV v R (b*Q) p q j);rw[I6]at o;refine Rat.le_trans o ?_;rw[Rat.natCast_mul];refine qp ?_ (hamB j) (fM _) Rat.natCast_nonneg;have y:=s1 j;unfold bH;split
  ·rw[<-Rat.intCast_neg,<-Rat.intCast_natCast];exact Rat.intCast_le_intCast.2 oM
  ·rw[<-Rat.intCast_natCast];exact Rat.intCast_le_intCast.2 oM
end MP
end Q
end
section
namespace Q
open Go Go.Proofs.YtopclbeomcggiaaGreat
def Q4 (x:Pt) (v:Nat) (L:List (List ai)):Rat:=iI (λi=>ev x (L.getD i [])*x.get v^i) L.length
theorem CF(c:Rat)(f:Nat->Rat):∀n,iI (λi=>c*f i) n=c*iI f n
 | 0=>by simp[iI]
 | n+1=>by simp only[iI,CF c f n];grind
theorem CG(a:Nat)(g:Nat->Rat):∀n,iI (λi=>if a<=i then g (i-a)else 0) (a+n)=iI g n
 | 0=>by
  have:∀k,k<=a->iI (λi=>if a<=i then g (i-a)else 0) k=0:=by
   intro k
   induction k with
   | zero=>intro _;rfl
   | succ k b=>intro h;simp only[iI];rw[b oM,if_neg oM];grind
  rw[Nat.add_zero,this a (Nat.le_refl _)];rfl
 | n+1=>by rw[<-Nat.add_assoc];simp only[iI];rw[CG a g n,if_pos oM,Nat.add_sub_cancel_left]
def Al (L:List (List ai)):Prop:=∀c∈L,bR c
theorem Al.get{L:List (List ai)}(h:Al L)(i:Nat):bR (L.getD i []):=by
 rw[List.getD_eq_getElem?_getD]
 cases hi:L[i]? with
 | none=>exact bR.nil
 | some c=>exact h c (List.mem_of_getElem? hi)
theorem K7{D R:List (List ai)}{i:Nat}(h:i<R.length-1):(fO D R).getD i []=if R.length-1-(D.length-1)<=i then gH (aX (R.getD i []) (D.getD (D.length-1) [])) (aX (R.getD (R.length-1) []) (D.getD (i-(R.length-1-(D.length-1))) []))else aX (R.getD i []) (D.getD (D.length-1) []):=by rw[List.getD_eq_getElem?_getD];simp[fO,h]
theorem CJ(D R:List (List ai)):Al (fO D R):=λc hc=>by
 simp only[fO,List.mem_map]at hc;obtain⟨i,-,rfl⟩:=hc;split
 ·exact bR.sub _ _
 ·exact bR.mul _ _
theorem Q5(x:Pt)(v:Nat){D R:List (List ai)}(d:Al D)(e:Al R)(r:1<=D.length)(p:D.length-1<R.length) :
  Q4 x v (fO D R)=ev x (D.getD (D.length-1) [])*Q4 x v R-ev x (R.getD (R.length-1) [])*x.get v^(R.length-1-(D.length-1))*Q4 x v D:=by
 obtain⟨n,o⟩:∃n,D.length=n+1:=⟨D.length - 1,oM⟩;obtain⟨a,ha⟩:∃a,R.length=a+n+1:=⟨R.length - 1 - n,oM⟩;have e1:R.length - 1=a+n:=oM;have l:D.length - 1=n:=oM;have k:a+n - n=a:=oM;unfold Q4;rw[gX,e1,l,k]
 have m:iI (λi=>ev x ((fO D R).getD i [])*x.get v^i) (a+n)=iI (λi=>ev x (D.getD n [])*(ev x (R.getD i [])*x.get v^i)+(if a<=i then(λj=>(-(ev x (R.getD (a+n) [])*x.get v^a))*(ev x (D.getD j [])*x.get v^j)) (i-a)else 0)) (a+n):=by
  refine lL λi q=>?_;rw[K7 oM,e1,l,k];by_cases b:a<=i
  ·rw[if_pos b,if_pos b,ev_sub x (bR.mul _ _).nat (bR.mul _ _),ev_mul x (e.get _).nat (d.get _).nat,ev_mul x (e.get _).nat (d.get _).nat];have:x.get v^i=x.get v^a*x.get v^(i-a):=by rw[<-oW];congr 1;omega
   simp only;rw[this];grind
  ·rw[if_neg b,if_neg b,ev_mul x (e.get _).nat (d.get _).nat];grind
 have h:=CG a (λj=>(-(ev x (R.getD (a+n) [])*x.get v^a))*(ev x (D.getD j [])*x.get v^j)) n;rw[m,Bc,h,CF,CF,ha,o];simp only[iI];rw[oW];grind
def zX (v:Nat) (D:List (List ai)):Nat->List (List ai)->List ai
 | 0,_=>[]
 | f+1,R=>if D.length-1<R.length then oZ (aX (aX (R.getD (R.length-1) []) (qJ (rz v) (R.length-1-(D.length-1)))) (qJ (D.getD (D.length-1) []) (R.length-1-(D.length-1)))) (zX v D f (fO D R))else []
theorem E8(v:Nat)(D:List (List ai)):∀f R,bR (zX v D f R)
 | 0,_=>bR.nil
 | f+1,R=>by unfold zX;split;exact bR.add _ _;exact bR.nil
theorem za(D:List (List ai)):∀f R,Al R->Al (gm D f R)
 | 0,_,h=>h
 | f+1,R,h=>by unfold gm;split;exact za D f _ (CJ D R);exact h
theorem M8(x:Pt)(v:Nat){D:List (List ai)}(d:Al D)(e:1<=D.length):∀f R,Al R->R.length<=D.length-1+f ->
  ev x (D.getD (D.length-1) [])^(R.length-(D.length-1))*Q4 x v R-Q4 x v (gm D f R)=ev x (zX v D f R)*Q4 x v D
 | 0,R,_,h=>by have:R.length-(D.length-1)=0:=oM;simp only[gm,zX];rw[this,Rat.pow_zero,jf];grind
 | f+1,R,hR,h=>by
  unfold gm zX;by_cases b:D.length-1<R.length
  ·rw[if_pos b,if_pos b];have i:=M8 x v d e f (fO D R) (CJ D R) (by rw[gX];omega);have j:=Q5 x v d hR e b;rw[gX]at i;have e1:R.length-(D.length-1)=(R.length-1-(D.length-1))+1:=oM;rw[ev_add x (bR.mul _ _).nat (E8 v D f _).nat,ev_mul x (bR.mul _ _).nat (bR.pow _ _).nat,ev_mul x (hR.get _).nat (bR.pow _ _).nat,ev_pow x (d.get _).nat,ev_pow x (bR.var v).nat,PN,e1,Rat.pow_succ];grind
  ·rw[if_neg b,if_neg b];have:R.length-(D.length-1)=0:=oM;rw[this,Rat.pow_zero,jf];grind
def Vo (f:Ex->Nat):List ai->Nat
 | []=>0
 | t::l=>f t.1+Vo f l
theorem qd(l:List ai):bI (canon l)<=bI l:=by
 have h:∀(l r:List ai),bI (l.foldl ins r)<=bI r+bI l:=λl=>by
  induction l with
  | nil=>intro r;simp only[List.foldl_nil,bI];grind
  | cons m l b=>intro r;have:=b (ins r m);have:=A9 r m;simp only[List.foldl_cons,bI];grind
 have:=h l [];simp only[bI]at this;unfold canon;grind
theorem O5(l:List ai)(q:ai):prods l [q]=l.map λs=>mulT s q:=by
 induction l with
 | nil=>rfl
 | cons s l b=>rw[jS,b];rfl
theorem Q6(p:List ai)(c:Rat)(e:Ex):cf (bN p c) e=cf p e*c:=by
 unfold bN;split
 ·rename_i h;rw[jq,h];grind
 ·unfold cf;rw[yn _ _ (λb=>c*(if b=e then 1 else 0)) p (λt _=>gR),Ar];grind
def VF (a ts:List ai) (q:ai):List ai:=a++ts.map λt=>(t.1.add q.1,-(t.2*q.2))
theorem VG{m g:ai}{a ts:List ai}(hm:m.1.nat=true)(hz:g.2≠0):gH (m::a) (aX (g::ts) [gI m g])=canon (VF a ts (gI m g)):=by
 unfold gH oZ;refine zI λe he=>?_;rw[oL,Q6,aX,nD,if_pos he,O5,List.map_cons,bJ,bJ,VF,oL]
 have h:(mulT g (gI m g)).1=m.1:=by simp only[mulT,gI,Ex.add,Ex.sub];refine Ex.ext' ?_ ?_ ?_ ?_<;>simp only<;>omega
 have b:(mulT g (gI m g)).2=m.2:=by simp only[mulT,gI];rw[Rat.mul_comm];exact Rat.div_mul_cancel hz
 have i:cf (ts.map λt=>(t.1.add (gI m g).1,-(t.2*(gI m g).2))) e=- cf (ts.map λs=>mulT s (gI m g)) e:=by
  induction ts with
  | nil=>simp only[List.map_nil,jq];grind
  | cons t ts d=>rw[List.map_cons,List.map_cons,bJ,bJ,d];simp only[mulT];grind
 rw[h,b,i];grind
structure YX (h:Ex->Nat) (g:Ex) (ts:List ai):Prop where
 one:∀m:Ex,m.nat=true->(m.sub g).nat=true->1<=h m
 dec:∀m:Ex,m.nat=true->(m.sub g).nat=true->∀t∈ts,h (t.1.add (m.sub g))+1<=h m
def hf (h:Ex->Nat) (e:Ex):Nat:=2^(h e+1)-1
structure Jn (h:Ex->Nat) (H G:Nat) (e:Ex) (c:Rat):Prop where
 b:h e<=H
 x:e.1<=2+2*((H-h e:Nat):Int)/\e.2.1<=2+2*((H-h e:Nat):Int)/\e.2.2.1<=2+2*((H-h e:Nat):Int)/\e.2.2.2<=2+2*((H-h e:Nat):Int)
 d:Dv (G^(H-h e)) c
end Q
end
section
namespace Go.Proofs.YtopclbeomcggiaaGreat
open Go.RowKit Q
theorem vZ(a n:Nat)(w:World)(ha:a<4294967296)(j:n<4611686018427387904):Calls Tryz.prog 122 #[.int .u64 a,.int .i64 n] w (ru w (.int .u64 (jA a n))):=by
 obtain⟨R,hR⟩:∃R,R=jA a n:=⟨_,rfl⟩;rw[<-hR];replace hR:=zH hR
 go_enter Tryz.func122,Tryz.ntmps122
 go_wp2
 go_loopw [0,1,5] (λx y o wr=>∃(a n out f:Nat),x=.int .u64 a/\y=.int .i64 n/\o=.int .u64 out/\a<4294967296/\n<4611686018427387904/\out<2147483647/\n<2^f/\Hid (R=yJ f out a n)/\Below w.heap.size w wr) (λ_ y _ _=>(intOf y).toNat)
 case atStart=>exact⟨a,n,1,64,rfl,rfl,rfl,ha,j,oM,oM,zH hR.out,Below.refl _ _⟩
 case round =>
  clear hR ha j;obtain⟨a,n,out,f,rfl,rfl,rfl,ha,j,r,hf,hR,d⟩:=hrel;by_cases h0:n=0
  ·have i:Hid (R=out):=zH (by rw[hR.out,h0,EF]);have l:¬(0:Int)<(n:Int):=oM;clear h0;clear hR hf;go_wp2;go_ret;exact⟨by rw[i.out];rfl,d⟩
  ·obtain⟨f,rfl⟩:∃p,f=p+1:=⟨f - 1,by cases f with|zero=>omega|succ f=>omega⟩;have k:(0:Int)<(n:Int):=oM;have hm2:(n:Int).tmod 2=((n%2:Nat):Int):=by rw[Int.tmod_eq_emod_of_nonneg oM];omega
   have hd2:(n:Int).tdiv 2=((n/2:Nat):Int):=by rw[Int.tdiv_eq_ediv_of_nonneg oM];omega
   have hR2:=hR.out;rw[yJ,if_neg h0]at hR2;have b:n/2<2^f:=by rw[Nat.pow_succ]at hf;omega
   replace b:=zH b;have m:a*a<=4294967295*4294967295:=Nat.mul_le_mul oM oM;have q:out*a<=2147483646*4294967295:=Nat.mul_le_mul oM oM;clear hR hf;rcases Nat.mod_two_eq_zero_or_one n with h2|h2
   ·rw[if_neg oM]at hR2;rw[h2]at hm2;replace hR2:=zH hR2;go_wp2;go_roundw
    case rel=>exact⟨a*a%2147483647,n/2,out,f,sM,sM,sM,oM,oM,oM,b.out,hR2,d⟩
    case measure=>simp[intOf];omega
   ·rw[if_pos h2]at hR2;rw[h2]at hm2;replace hR2:=zH hR2;go_wp2;go_roundw
    case rel=>exact⟨a*a%2147483647,n/2,out*a%2147483647,f,sM,sM,sM,oM,oM,oM,b.out,hR2,d⟩
    case measure=>simp[intOf];omega
theorem xK(n:Bool)(m:Value)(z:Int)(w:World)(h:aZ w n m z)(c:aF z.natAbs<=CS):Calls Tryz.prog 121 #[.agg #[.bool n,m]] w (ru w (.int .u64 (dY z))):=by
 have hn0:=h;obtain⟨l,J,cap,rfl,hc,b,u,L,hm,D,hp,e⟩:=h.openS c;have hl0:=aU L;have hZ1:n=false->z=ah l:=λq=>by rw[e,q];rfl
 have hZ2:n=true->z=- ah l:=λq=>by rw[e,q];rfl
 have hZ3:n=true->0<ah l:=λq=>D.pos L (hp q);replace hZ1:=zH hZ1;replace hZ2:=zH hZ2;replace hZ3:=zH hZ3;clear e c hp D hn0
 go_enter Tryz.func121,Tryz.ntmps121
 go_upto_region 1 with (fail)
 refine iZ λW hb0 B I=>?_;have u1:=B.at1 1 _ rfl;have C:ah ([]:List Int)=0:=rfl;go_wp2;clear u1
 go_loopw [3,4] (λG r wr=>∃(M:Int)(k:Nat),G=.int .u64 M/\r=.int .i64 ((k:Int)-1)/\k<=l.length/\0<=M/\M<2147483647/\Hid (M=ah (l.drop k)%2147483647)/\Below W.heap.size W wr) (λ_ r _=>(intOf r+1).toNat)
 case atStart=>exact⟨0,l.length,rfl,rfl,Nat.le_refl _,oM,oM,zH (by rw[List.drop_of_length_le (Nat.le_refl _),C];rfl),Below.refl _ _⟩
 case round =>
  obtain⟨M,k,rfl,rfl,N,m0,m1,hM,d⟩:=hrel;have F:=B.on d;by_cases hk0:k=0
  ·subst hk0;rw[List.drop_zero]at hM;have u0:=F.at1 0 _ rfl
   cases n with
   | false =>
    have hz:=hZ1.out rfl;have hR:=zV (z:=z) (M:=M) (by rw[hz];exact hl0) (by rw[hz];exact hM.out);replace hz:=zH hz;replace hR:=zH hR;clear hM;go_wp2;go_ret;exact⟨by first|rfl|(rw[hR.out];rfl)|rw[hR.out],hb0.trans (d.mono hb0.size)⟩
   | true =>
    obtain⟨r1,r2⟩:=Cw (hZ3.out rfl) (hZ2.out rfl) hM.out;by_cases i:0<M
    ·have hR:=zH (r1 i);clear hM r1 r2;go_wp2;go_ret;exact⟨by first|rfl|(rw[hR.out];rfl)|rw[hR.out],hb0.trans (d.mono hb0.size)⟩
    ·have hR:=zH (r2 i);clear hM r1 r2;go_wp2;go_ret;exact⟨by first|rfl|(rw[hR.out];rfl)|rw[hR.out],hb0.trans (d.mono hb0.size)⟩
  ·obtain⟨j,rfl⟩:∃j,k=j+1:=⟨k - 1,oM⟩;obtain⟨p1,o1,rfl,y⟩:=hm (by rw[dG];omega);have o:=((y.on (hb0.trans (d.mono hb0.size)))).ucell j oM;have hd:=L.getD j;rw[aP]at hd
   have bY:ah (l.drop j)=l.getD j 0+bv*ah (l.drop (j+1)):=by
    rw[List.drop_eq_getElem_cons (oM:j<l.length)];rw[List.getD_eq_getElem?_getD,List.getElem?_eq_getElem (oM:j<l.length)]
    rfl
   obtain⟨x,s⟩:∃x,x=l.getD j 0:=⟨_,rfl⟩;rw[<-s]at o hd bY;have p:Hid ((M*4294967296+x)%2147483647=ah (l.drop j)%2147483647):=zH (by rw[hM.out,bY,aP];omega);have u1:=F.at1 1 _ rfl;have hj1:((j:Int)+1 - 1)=(j:Int):=oM;replace s:=zH s;replace bY:=zH bY;clear hM
   go_wp2_with (refine aj rfl (.tmp 16) (.tmp 17) _ rfl _ Tryz.underlying37 _ _ _ bD _ _ _ rfl _ _ rfl j oM oM p1 o1 rfl ?_;rw[Nat.mul_one])
   go_roundw
   case rel=>exact⟨(M*4294967296+x)%2147483647,j,nM,nM,oM,oM,oM,p,d⟩
   case measure=>simp[intOf]
end Go.Proofs.YtopclbeomcggiaaGreat
end
section
namespace Go.Proofs.YtopclbeomcggiaaGreat
open Go.RowKit Q Go.WideMaps Go.Maps
theorem Ja(v1 v2:Value)(p q:Rat)(w:World)(h1:bM w v1 p)(h2:bM w v2 q)(k1:Rs p)(k2:Rs q)(hz:q≠0) :
  Calls Tryz.prog 71 #[v1,v2] w (Az w (p/q) 0):=by
 rw[<-BR];obtain⟨s1,a1,l1,c1,s2,a2,l2,c2,rfl,i1,i2⟩:=h1;obtain⟨s3,a3,l3,c3,s4,a4,l4,c4,rfl,i3,i4⟩:=h2
 have dz:(p.den:Int)*q.num≠0:=by
  intro h;rcases Int.mul_eq_zero.1 h with h|h
  ·have:=p.den_nz;omega
  ·exact hz (Rat.num_eq_zero.1 h)
 have m:aF ((p.den:Int)*q.num).natAbs<=CT:=by have h1:=gB p.den q.num.natAbs;have h2:=k1.1;have h3:=k2.2;rw[Int.natAbs_mul,Int.natAbs_natCast];have q2:=mI;omega
 have sb:aF (p.num*(q.den:Int)).natAbs<=CT:=by have h1:=gB p.num.natAbs q.den;have h2:=k1.2;have h3:=k2.1;rw[Int.natAbs_mul,Int.natAbs_natCast];have q2:=mI;omega
 go_enter Tryz.func71,Tryz.ntmps71
 go_upto_region 1 with (fail)
 refine rG λW hb0 B1 B2 B3 l=>?_;replace i1:=i1.on hb0;replace i2:=i2.on hb0;replace i3:=i3.on hb0;replace i4:=i4.on hb0;refine aC mixed (none) (0) (fK.none) [.eq (.pointer (some ⟨w.heap.size,0,none⟩)),.eq (.agg #[.bool s1,.slice a1 l1 c1]),.eq (.pointer (some ⟨w.heap.size+1,2,none⟩)),.eq (.agg #[.bool s4,.slice a4 l4 c4]),.int dM ((p.num*(q.den:Int))),.eq (.pointer (some ⟨w.heap.size,2,none⟩)),.eq (.agg #[.bool s2,.slice a2 l2 c2]),.eq (.pointer (some ⟨w.heap.size+1,0,none⟩)),.eq (.agg #[.bool s3,.slice a3 l3 c3]),.int dM (((p.den:Int)*q.num)),.ratE dM (Rat.divInt (p.num*(q.den:Int)) ((p.den:Int)*q.num)) 0,.rat dM (Rat.divInt (p.num*(q.den:Int)) ((p.den:Int)*q.num)),.eq (.int .i64 0)] [6,7,8,9,10,11,12,13,14,15,16,17,18] rfl rfl rfl rfl ⟨λA _ hA _ _ _=>have h2:A.eval (.tmp 2)=.pointer (some ⟨w.heap.size,0,none⟩):=hA 2 rfl;pZ rfl,λA _ _ hL _ he=>have hb:=hL.below;have h6:=eT 6 (he.1 rfl);have c0:=((B1).on hb).at1 0 _ rfl;have c1:=((B1).on hb).at1 1 _ rfl;pZ rfl,λA _ hA _ _ _=>have h3:A.eval (.tmp 3)=.pointer (some ⟨w.heap.size+1,0,none⟩):=hA 3 rfl;pZ rfl,λA _ _ hL _ he=>have hb:=hL.below;have h8:=eT 8 (he.1 rfl);have c0:=((B2).on hb).at1 2 _ rfl;have c1:=((B2).on hb).at1 3 _ rfl;pZ rfl,λA _ _ _ hS he=>have hb:=hS rfl;have h7:=eT 7 (he.1 rfl);have h9:=eT 9 (he.2.1 rfl);have hf0:=eF A 105;cP (f:=105) (args:=#[.agg #[.bool s1,.slice a1 l1 c1],.agg #[.bool s4,.slice a4 l4 c4]]) (lI _ _ _ _ _ _ _ (i1.on hb) (i4.on hb) (J5 k1.num) (J5 k2.den)),λA _ hA _ _ _=>have h2:A.eval (.tmp 2)=.pointer (some ⟨w.heap.size,0,none⟩):=hA 2 rfl;pZ rfl,λA _ _ hL _ he=>have hb:=hL.below;have h11:=eT 11 (he.1 rfl);have c0:=((B1).on hb).at1 2 _ rfl;have c1:=((B1).on hb).at1 3 _ rfl;pZ rfl,λA _ hA _ _ _=>have h3:A.eval (.tmp 3)=.pointer (some ⟨w.heap.size+1,0,none⟩):=hA 3 rfl;pZ rfl,λA _ _ hL _ he=>have hb:=hL.below;have h13:=eT 13 (he.1 rfl);have c0:=((B2).on hb).at1 0 _ rfl;have c1:=((B2).on hb).at1 1 _ rfl;pZ rfl,λA _ _ _ hS he=>have hb:=hS rfl;have h12:=eT 12 (he.1 rfl);have h14:=eT 14 (he.2.1 rfl);have hf0:=eF A 105;cP (f:=105) (args:=#[.agg #[.bool s2,.slice a2 l2 c2],.agg #[.bool s3,.slice a3 l3 c3]]) (lI _ _ _ _ _ _ _ (i2.on hb) (i3.on hb) (J5 k1.den) (J5 k2.num)),?_,?_,?_,trivial⟩ ?_
 ·intro A w1 hA hL hS he;have hb:=hS rfl;obtain⟨v10,h10,f10⟩:=fT 10 (he.1 rfl);obtain⟨v15,h15,f15⟩:=fT 15 (he.2.1 rfl);have hf0:=eF A 104;refine ae rfl ?_;refine dI (f:=104) (args:=#[v10,v15]) rfl rfl ?_ ?_
  ·exact gZ
  ·obtain⟨n10,m10,rfl,i10⟩:=f10;obtain⟨n15,m15,rfl,i15⟩:=f15;refine(MW _ _ _ _ _ _ _ i10 i15 sb m dz).mono ?_;rintro e w' ⟨x,rfl,k,d⟩;exact⟨_,rfl,d,x,rfl,k⟩
 ·intro A w1 hA hL hS he;obtain⟨v16,h16,f16⟩:=fT 16 (he.1 rfl);refine ae rfl ?_;obtain⟨x,rfl,i⟩:=f16;refine iL (c:=x) rfl rfl (Below.refl _ _) i ?_;exact gZ
 ·intro A w1 hA hL hS he;obtain⟨v16,h16,f16⟩:=fT 16 (he.1 rfl);refine ae rfl ?_;obtain⟨x,rfl,i⟩:=f16;exact aB rfl rfl gZ
 ·intro w4 hL4;have hb4:=hL4.below;simp only[aT,af.eq,af.int,af.rat,af.ratE,af.of,lZ];rintro _ - _ - _ - v17 h17;obtain⟨t1,b1,g1,d1,t2,b2,g2,d2,rfl,u1,u2⟩:=h17;go_frame;have E3:=B3.on hb4;have b:=hb0.trans (hb4.mono hb0.size)
  go_wp2_with (refine az rfl _ (.tmp 4) (.tmp 17) rfl _ _ _ _ rfl rfl E3 rfl dA dJ ?_;intro w5 R j)
  exact bodyPost_ret (nA rfl _ _ _ Tryz.underlying41 rfl rfl R dA) rfl ⟨_,rfl,bM.stored ⟨t1,b1,g1,d1,t2,b2,g2,d2,rfl,u1,u2⟩ j E3 dM,b.trans ((aH j (Nat.le_of_lt E3.lt) (Nat.le_refl _)).mono oM)⟩
end Go.Proofs.YtopclbeomcggiaaGreat
end
