/- mpoly.Subst: the range over slices.Backward. -/
import Derived.Test.YtopclbeomcggiaaGreatW18
import Derived.Test.YtopclbeomcggiaaGreatW28
import Derived.LoopIn
import Derived.LoopNIn
import Derived.OwnWalkIn
import Derived.RangeFuncBound
import Derived.RangeFuncNested
import Derived.Shelf.RegionOpen
set_option linter.unusedVariables false
set_option linter.unusedSimpArgs false
set_option maxHeartbeats 16000000
set_option maxRecDepth 100000
section
namespace Q
open Go Go.RowKit Go.Proofs.YtopclbeomcggiaaGreat
def Vy (w w':World) (row:Option Nat):Prop:=w.grownBy w' row/\∀r,row=some r->∃o:Obj,w.heap[r]?=some o/\o.isCells=false
end Q
namespace Go.Proofs.YtopclbeomcggiaaGreat
open Go.RowKit Go.Shelf Q
attribute [local go_sem] Oper.semAt_some
def Kb (Bs g:Nat) (W W':World):Prop:=W'.heap[Bs]?=W.heap[Bs]?/\W'.heap[g]?=W.heap[g]?
theorem Kb.refl(Bs g:Nat)(W:World):Kb Bs g W W:=⟨rfl,rfl⟩
theorem Kb.trans{Bs g:Nat}{A B C:World}(h:Kb Bs g A B)(b:Kb Bs g B C):Kb Bs g A C:=⟨b.1.trans h.1,b.2.trans h.2⟩
theorem zi{W b:World}{a:Addr}(h:b.heap[a.block]?=W.heap[a.block]?):b.cell? a=W.cell? a:=by unfold World.cell?;rw[h]
theorem Kb.putObj{Bs g:Nat}{w:World}(d:Bs<w.heap.size)(hg:g<w.heap.size)(W:World)(l:Nat)(o b:Obj)(e:w.heap.size<=l)(_:W.heap[l]?=some o)(_:o.isCells=false)(_:o.isWalk=false):Kb Bs g W (W.putObj l b) :=
 ⟨World.putObj_heap_other oM,World.putObj_heap_other oM⟩
def xP {α:Type} (f:Nat->α) (k:Nat):List α:=(List.range k).map f
theorem Fe{α:Type}(f:Nat->α)(k:Nat):xP f (k+1)=xP f k++[f k]:=by simp[xP,List.range_succ]
theorem Jb{α:Type}(f:Nat->α)(k:Nat):(xP f k).length=k:=by simp[xP]
structure Yp (sb sc:Sz) (sz:Nat->Sz) (N:Nat):Prop where
 b:sb.ok
 c:sc.ok
 z:∀k,k<=N->(sz k).ok
 m:∀k,k<N->((sz k).mul sb).ok
 s:∀k,k<N->(((sz k).mul sb).add sc).le (sz (k+1))
def YO (b:List ai) (out c:List ai):List ai:=pO (aX out b) c
end Go.Proofs.YtopclbeomcggiaaGreat
end
section
namespace Go.Proofs.YtopclbeomcggiaaGreat
open Go.RowKit Go.Shelf Q
end Go.Proofs.YtopclbeomcggiaaGreat
namespace Q
open Go Go.RowKit Q Go.Proofs.YtopclbeomcggiaaGreat
theorem Vy.blk{w w':World}{row:Option Nat}(h:Vy w w' row){g:Nat}{T:TypeId}{cs:List Value}(hc:Blk w g T cs):Blk w' g T cs:=by
 have i:=hc.lt;unfold Blk at *;rw[h.1.block g i (λe=>?_)]
 ·exact hc
 ·obtain⟨o,b,d⟩:=h.2 g e.symm;rw[hc]at b;cases b;cases d
end Q
namespace Go.Proofs.YtopclbeomcggiaaGreat
open Go.RowKit Go.Shelf Q
attribute [local go_sem] Oper.semAt_some
end Go.Proofs.YtopclbeomcggiaaGreat
end
section
namespace Go.Proofs.YtopclbeomcggiaaGreat
open Go.RowKit Go.Shelf Q
attribute [local go_sem] Oper.semAt_some
abbrev xQ:TypeId:=97
theorem En(F:Fence)(n:Nat)(b:F.fn 156)(d:F.round=none)(h:Option Addr)(N cap:Nat)(w:World) :
  CallsIn F n Tryz.prog 156 #[.slice h N cap] w (λe i=>e=.returned (.func (.func 170) #[] #[.pointer (some ⟨w.heap.size,0,none⟩)])/\i=w.alloc (.cells #[.slice h N cap] 37)):=by
 refine callsIn_of_wp Tryz.func156 rfl b ?_ d;simp only[Tryz.ntmps156,List.size_toArray,List.length_cons,List.length_nil,Nat.reduceAdd,Nat.reduceSub,Array.replicate_succ,Array.replicate_zero,List.push_toArray,List.append_toArray,List.nil_append,List.cons_append]
 gi_wp2
 refine bodyPost_ret (results_tmp rfl _ _ _) rfl ?_;exact⟨rfl,rfl⟩
theorem Eo{α:Type}(M:α->Int)(S:α->Value)(q:Nat->α)(F:Fence)(n:Nat)(h106:F.fn 170)(C:F.round=none)(hn:1<=n)(l Bs g o N cap:Nat)(G:Option Addr)(y:∀k,k<N->G=some ⟨g,o,none⟩)(hN:N<=34359738368)
  (hX1:∀k,k<N->M (q k)=(N:Int)-1-k) (J D:List α->World->Prop)
  (hY:∀pre x W,J pre W->pre.length<N->YieldAt F (n-1) Tryz.prog l #[.int .i64 (M x),S x] W λe p =>
   (e=.returned (.bool true)/\J (pre++[x]) p/\Kb Bs g W p)\/(e=.returned (.bool false)/\D (pre++[x]) p))
  (W:World) (u:W.cell? ⟨Bs,0,none⟩=some (.slice G N cap)) (hc:∀k,k<N->W.cell? ⟨g,o+(N-1-k),none⟩=some (S (q k))) (h0:J [] W) :
  CallsIn F n Tryz.prog 170 #[.func (.yield l) #[] #[],.pointer (some ⟨Bs,0,none⟩)] W λe p=>(∃v,e=.returned v) /\
   ((∃X,X=xP q N/\J X p)\/(∃pre,(∃k,k<=N/\pre=xP q k)/\D pre p)):=by
 refine callsIn_of_wp Tryz.func170 rfl h106 ?_ C;simp only[Tryz.ntmps170,List.size_toArray,List.length_cons,List.length_nil,Nat.reduceAdd,Nat.reduceSub,Array.replicate_succ,Array.replicate_zero,List.push_toArray,List.append_toArray,List.nil_append,List.cons_append]
 gi_wp2
 gi_loopw [3] (λi wr=>∃k:Nat,k<=N/\i=.int .i64 ((N:Int)-1-k)/\J (xP q k) wr/\Kb Bs g W wr) (λi _=>(intOf i+1).toNat)
 case atStart=>exact⟨0,Nat.zero_le _,sM,h0,Kb.refl _ _ _⟩
 case round =>
  obtain⟨k,Z,rfl,r,j⟩:=hrel;have z:=(zi (a:=⟨Bs,0,none⟩) j.1).trans u;by_cases b:k<N
  ·have B:=(zi (a:=⟨g,o+(N - 1 - k),none⟩) j.2).trans (hc k b);obtain⟨fn,tmps,assign,body,L,hR⟩:=hY _ (q k) wr r (by rw[Jb];exact b);rw[hX1 k b]at L;have hao2:=y k b;rw[hao2]at z;obtain⟨m,hm⟩:∃m:Nat,m=N - 1 - k:=⟨_,rfl⟩;have s:(N:Int) - 1 - k=(m:Int):=oM;rw[<-hm]at B;rw[s]at L ⊢;have Y:(m:Int)<N:=oM;have I:m<N:=oM;have hm0:(0:Int)<=m:=oM;have d:(m:Int) - 1=(N:Int) - 1 - (k+1:Nat):=oM;have d:=zH d;clear hm s hao2
   gi_wp2
   refine hR.mono ?_;rintro e W3 (⟨rfl,hJ3,hk3⟩|⟨rfl,hJx3⟩)
   ·gi_wp2
    go_roundw
    case rel=>exact⟨k+1,oM,by have h:=d.out;simp only[Value.int.injEq,true_and];omega,by rw[Fe];exact hJ3,j.trans hk3⟩
    case measure=>have h:=d.out;simp[intOf];omega
   ·gi_wp2
    refine bodyPost_ret (results_none rfl _ _ _) rfl ?_;exact⟨⟨_,rfl⟩,.inr ⟨_,⟨k+1,oM,(Fe _ _).symm⟩,hJx3⟩⟩
  ·obtain rfl:k=N:=oM
   gi_wp2
   go_end0
   exact⟨⟨_,rfl⟩,.inl ⟨_,rfl,r⟩⟩
theorem Av{α:Type}(s:α->Int)(u:α->Value)(b:Nat->α)(F:Fence)(n:Nat)(d:F.fn 170)(r:F.round=none)(G:1<=n)(Bs g o N cap:Nat)(e:Option Addr)(m:∀k,k<N->e=some ⟨g,o,none⟩)(C:N<=34359738368)
  (j:∀k,k<N->s (b k)=(N:Int)-1-k) (w:World) (h:Bs<w.heap.size) (q:g<w.heap.size) (i:w.cell? ⟨Bs,0,none⟩=some (.slice e N cap)) (hc:∀k,k<N->w.cell? ⟨g,o+(N-1-k),none⟩=some (u (b k))) :
  SeqStopsK F n Tryz.prog 170 #[.pointer (some ⟨Bs,0,none⟩)] (λx:α=>#[.int .i64 (s x),u x]) (Kb Bs g) (λH=>H=xP b N) (λpre=>∃k,k<=N/\pre=xP b k) N w:=λl J z W y _ _ D B =>
 Eo s u b F n d r G l Bs g o N cap e m C j J z D W ((y.cell (p:=⟨Bs,0,none⟩) h).trans i) (λk E=>(y.cell (p:=⟨g,o+(N-1-k),none⟩) q).trans (hc k E)) B
def resS (m d:Int):Int:=(m*4294967296+d)%2147483647
theorem Ff:∀l:List Int,l.reverse.foldl resS 0=ah l%2147483647
 | []=>rfl
 | d::l=>by rw[List.reverse_cons,List.foldl_append,Ff l];show(ah l%2147483647*4294967296+d)%2147483647=(d+bv*ah l)%2147483647;rw[aP];omega
theorem TG{m d:Int}:0<=resS m d/\resS m d<2147483647:=⟨Int.emod_nonneg _ dM,Int.emod_lt_of_pos _ dM⟩
theorem TH(l:List Int):0<=l.foldl resS 0/\l.foldl resS 0<2147483647:=by
 by_cases h:l=[]
 ·subst h;simp
 ·rw[<-List.dropLast_concat_getLast h,List.foldl_append];exact TG
end Go.Proofs.YtopclbeomcggiaaGreat
namespace Q
def dY (z:Int):Nat:=if z<0/\0<z.natAbs%2147483647 then 2147483647-z.natAbs%2147483647 else z.natAbs%2147483647
theorem qj(z:Int):dY z<2147483647:=by unfold dY;split<;>omega
end Q
namespace Go.Proofs.YtopclbeomcggiaaGreat
open Go.RowKit Go.Shelf Q
attribute [local go_sem] Oper.semAt_some
theorem Ad{z M:Int}(b:0<=z)(d:M=z%2147483647):M=(dY z:Int):=by unfold dY;rw[if_neg oM];omega
theorem CJ{z l M:Int}(b:0<l)(hz:z=-l)(d:M=l%2147483647):(0<M->2147483647-M=(dY z:Int))/\(¬0<M->M=(dY z:Int)):=by unfold dY;split<;>omega
theorem Ae(n:Bool)(m:Value)(z:Int)(w:World)(h:aZ w n m z)(c:aF z.natAbs<=jl):Calls Tryz.prog 136 #[.agg #[.bool n,m]] w (rE w (.int .u64 (dY z))):=by
 obtain⟨l,r,cap,rfl,u,b,nn,e⟩:=gz h c
 have O:n=true->0<ah l:=λhn=>by subst hn;have:=mD h;rw[e]at this;simp only[fZ,if_true]at this;omega
 obtain⟨_,_,e',_,L,mm⟩:=u;cases e';have G:Below w.heap.size w ((w.alloc (.cells #[.bool n,.slice r l.length cap] 39)).alloc (.cells #[.int .u64 0] 97)):=mU _ _ _;have aw:=aU L;obtain⟨dg,a4⟩:∃dg:Nat->Int,dg=λi=>l.getD i 0:=⟨_,rfl⟩;have Z:∀i,l.getD i 0=dg i:=λi=>by rw[a4]
 have N:(xP (λk=>l.length-1-k) l.length).map dg=l.reverse:=by rw[a4];refine List.ext_getElem (by simp[xP]) λi h1 h2=>?_;simp[xP]at h1;simp[xP,List.getElem_reverse];rw[gE oM];rfl
 have a1:n=false->z=ah l:=λhn=>by rw[e,hn];rfl
 have a2:n=true->z=- ah l:=λhn=>by rw[e,hn];rfl
 replace N:=zH N;replace Z:=zH Z;replace a1:=zH a1;replace a2:=zH a2;replace O:=zH O;clear h c nn e a4;refine(callsIn_wide (n:=6)).1 ?_;refine callsIn_of_wp_marks Tryz.func136 rfl trivial ?_ rfl;simp only[Tryz.ntmps136,List.size_toArray,List.length_cons,List.length_nil,Nat.reduceAdd,Nat.reduceSub,Array.replicate_succ,Array.replicate_zero,List.push_toArray,List.append_toArray,List.nil_append,List.cons_append];have ac:((w.alloc (.cells #[.bool n,.slice r l.length cap] 39)).alloc (.cells #[.int .u64 0] 97)).cell? ⟨w.heap.size,1,none⟩=some (.slice r l.length cap):=((Blk.new w 39 [.bool n,.slice r l.length cap]).alloc _).at1 1 _ rfl
 gi_wp2_with (refine⟨trivial,?_⟩;gi_at_call 156;refine(En Fence.wide _ trivial rfl _ _ _ _).mono ?_;rintro e w2 ⟨rfl,rfl⟩)
 obtain⟨F,E⟩:∃F,F=(w.alloc (.cells #[.bool n,.slice r l.length cap] 39)).alloc (.cells #[.int .u64 0] 97):=⟨_,rfl⟩;have a0:F.heap.size=w.heap.size+1+1:=by rw[E];simp
 have J:F.cell? ⟨w.heap.size,0,none⟩=some (.bool n):=by rw[E];exact((Blk.new w 39 [.bool n,.slice r l.length cap]).alloc _).at1 0 _ rfl
 have an:Blk F (w.heap.size+1) 97 [.int .u64 0]:=by rw[E];have:=Blk.new (w.alloc (.cells #[.bool n,.slice r l.length cap] 39)) 97 [.int .u64 0];simpa using this
 change Below w.heap.size w ((w.alloc (.cells #[.bool n,.slice r l.length cap] 39)).alloc (.cells #[.int .u64 0] 97))at G;rw[<-E]at G;have H:Below F.heap.size F (F.alloc (.cells #[.slice r l.length cap] 37)):=(Below.refl _ _).alloc (nL _) _;have aa:(F.alloc (.cells #[.slice r l.length cap] 37)).cell? ⟨(w.heap.size+1+1),0,none⟩=some (.slice r l.length cap):=by rw[<-a0];exact(Blk.new F 37 [.slice r l.length cap]).at1 0 _ rfl
 clear ac;rw[<-E];obtain⟨S,Y⟩:∃S,S=F.alloc (.cells #[.slice r l.length cap] 37):=⟨_,rfl⟩;have ay:S.heap.size=(w.heap.size+1+1)+1:=by rw[Y,<-a0];simp
 rw[<-Y]at H aa;have y:=G.trans (H.mono G.size);have a3:S.cell? ⟨w.heap.size,0,none⟩=some (.bool n):=by rw[H.cell (p:=⟨w.heap.size,0,none⟩) (by simp only;omega)];exact J
 have al:=an.on H
 obtain⟨g,o,ag,ar,av⟩:∃g o,g<w.heap.size+1/\(∀k,k<l.length->r=some ⟨g,o,none⟩)/\∀k,k<l.length->S.cell? ⟨g,o+k,none⟩=some (.int .u32 (dg k)):=by
  by_cases hp:0<l.length
  ·obtain⟨g,o,rfl,hc⟩:=mm (by rw[dG];exact hp);exact⟨g,o,by have:=hc.lt;omega,λ_ _=>rfl,λk hk=>Z.out k▸(hc.on y).ucell k hk⟩
  ·exact⟨w.heap.size,0,oM,λk hk=>oM,λk hk=>oM⟩
 have ad:g<S.heap.size:=oM;have ag:g≠w.heap.size+1:=oM;rw[<-Y];have a9:(w.heap.size+1+1)<S.heap.size:=oM;have au:(w.heap.size+1+1)≠w.heap.size+1:=oM;have b4:w.heap.size+1<S.heap.size:=oM;clear Y H J an G E mm
 refine wpIn_rangeFunc_ownF (α:=Nat) rfl oM (gf:=170) (lb:=#[.pointer (some ⟨(w.heap.size+1+1),0,none⟩)]) rfl trivial (enters_of Tryz.func170 kM rfl)
  (Av (α:=Nat) (λi=>(i:Int)) (λi=>.int .u32 (dg i)) (λk=>l.length-1-k) Fence.wide _ trivial rfl oM (w.heap.size+1+1) g o l.length cap r ar b (λk hk=>oM) S a9 ad aa (λk hk=>av _ oM))
  (λh k=>h.trans k) (Kb.putObj a9 ad) (Below.refl _ _) (λ_=>rfl)
  (λpre W=>(Blk W (w.heap.size+1) 97 [.int .u64 ((pre.map dg).foldl resS 0)]/\W.cell? ⟨w.heap.size,0,none⟩=some (.bool n)/\S.heap.size<=W.heap.size)/\Below w.heap.size w W)
  (λ_ _ _=>False)
  (OwnFrom.and (Own.from (λs A B row hs hg hr=>by
   obtain⟨h1,h4,h7⟩:=hs;have hk:Vy A B row:=⟨hg,hr⟩
   exact⟨hk.blk h1,cell_kept h4 hg hr,Nat.le_trans h7 hg.size⟩) _) (ownFrom_below (nL _) oM))
  (λ_ _ _ _ _ hs _ _=>hs)
  ⟨⟨al,a3,nL _⟩,y⟩
  (λx=>{ tmps:=#[.agg #[.bool n,.slice r l.length cap],.pointer (some ⟨w.heap.size,0,none⟩),.int .u64 0,.pointer (some ⟨w.heap.size+1,0,none⟩),undef,.int .u32 (dg x),.pointer (some ⟨w.heap.size,1,none⟩),.slice r l.length cap,.func (.func 170) #[] #[.pointer (some ⟨(w.heap.size+1+1),0,none⟩)],.int .i64 x,.int .u32 (dg x),undef,undef,undef,undef,undef,undef,undef,undef,undef,undef,undef,undef,undef,undef,undef],defers:=[] }) ?assign ?body ?done ?stop
 case assign =>
  intro l x W K hK
  gi_wp2
  exact hK
 case body =>
  rintro ll pre x W ⟨⟨X,J,ax⟩,I⟩ hlen;have a5:=TH (pre.map dg);have R:=(L.getD x);rw[aP,Z.out]at R;have C:((pre++[x]).map dg).foldl resS 0=resS ((pre.map dg).foldl resS 0) (dg x):=by rw[List.map_append,List.foldl_append];rfl
  generalize(pre.map dg).foldl resS 0=M at *;generalize dg x=d at *;have ho:=X.at1 0 _ rfl;have hf:=X.frozen 0;have b3:=AL M d a5.1 oM R.1 R.2;have a7:=a5.1;have a8:=a5.2;have b0:=R.1;have b2:=R.2;have ap:Hid (resS M d=(M*4294967296+d)%2147483647):=zH rfl;replace C:=zH C
  gi_wp2
  have Bn:=X.set 0 (.int .u64 ((M*4294967296+d)%2147483647));refine⟨KeepsOthers.setCell _ _ _,⟨Below.heap_setCell _ _ _ _ au,Below.heap_setCell _ _ _ _ ag⟩,⟨?_,?_,by rw[World.size_setCell];omega⟩,?_⟩
  ·rw[C.out,ap.out];exact Bn
  ·rw[<-J];exact zi (Below.heap_setCell _ _ _ _ sM)
  ·exact I.trans (bF oM _)
 case done =>
  rintro D ys W hD rfl ⟨⟨X,J,ax⟩,I⟩ hK;rw[N.out,Ff]at X;have ho:=X.at1 0 _ rfl;have hf:=X.frozen 0;have a7:0<=ah l%2147483647:=Int.emod_nonneg _ dM;have a8:ah l%2147483647<2147483647:=Int.emod_lt_of_pos _ dM;have aE:Hid (ah l%2147483647=ah l%2147483647):=zH rfl;have aq:D≠w.heap.size+1:=oM;cases n
  ·have q:=Ad aw rfl;rw[<-a1.out rfl]at q X ho a7 a8;rw[q]at X ho;replace q:=zH q
   gi_wp2
   refine⟨sM,.inl ⟨_,_,rfl,run_takeDeferred hK,?_⟩⟩;refine⟨_,results_tmp rfl _ _ _,rfl,?_⟩;exact I.trans (belowK_b (w:=w) (nL _) _ D _ _ (by have:=y.size;omega) hK rfl rfl)
  ·have q:=CJ (M:=ah l%2147483647) (O.out rfl) (a2.out rfl) rfl;generalize ah l%2147483647=M at *;by_cases hp:0<M
   ·have q:=zH (q.1 hp)
    gi_wp2
    have a6:=(Below.heap_setCell W ⟨w.heap.size+1,0,none⟩ (.int .u64 (dY z)) D aq).trans hK;have ab:=I.trans (bF (W:=W) (g:=w.heap.size+1) (j:=0) (Nat.le_succ _) (.int .u64 (dY z)));refine⟨sM,.inl ⟨_,_,rfl,run_takeDeferred a6,?_⟩⟩;refine⟨_,results_tmp rfl _ _ _,rfl,?_⟩;exact ab.trans (belowK_b (w:=w) (nL _) _ D _ _ (by have:=y.size;omega) a6 rfl rfl)
   ·have q:=q.2 hp
    gi_wp2
    refine⟨sM,.inl ⟨_,_,rfl,run_takeDeferred hK,?_⟩⟩;refine⟨_,results_tmp rfl _ _ _,rfl,?_⟩;exact I.trans (belowK_b (w:=w) (nL _) _ D _ _ (by have:=y.size;omega) hK rfl rfl)
 case stop =>
  rintro D c pre W _ _ h _;exact h.elim
end Go.Proofs.YtopclbeomcggiaaGreat
end
section
namespace Q
open Go.Proofs.YtopclbeomcggiaaGreat
def tm (c i k:Int):ai:=((i,k,0,0),(c:Rat))
theorem Yq:rG 0=[tm 1 1 0]:=dK
theorem Yr:rG 1=[tm 1 0 1]:=dK
end Q
end
section
namespace Q
open Go Go.Proofs.YtopclbeomcggiaaGreat
def X9 (B E N:Nat) (l:List ai):Bool :=
 decide (l.length<=N)&&l.all (λt=>decide (-(E:Int)<=t.1.1)&&decide (t.1.1<=E)&&decide (-(E:Int)<=t.1.2.1)&&decide (t.1.2.1<=E)&&decide (-(E:Int)<=t.1.2.2.1)&&decide (t.1.2.2.1<=E)&&decide (-(E:Int)<=t.1.2.2.2)&&decide (t.1.2.2.2<=E)&&decide (t.2.den=1))&&decide (bI l<=(B:Rat))
theorem zl{B E N:Nat}{l:List ai}(h:X9 B E N l=true):Bd ⟨1,B,E,N⟩ l:=by
 simp only[X9,Bool.and_eq_true,decide_eq_true_eq,List.all_eq_true]at h;obtain⟨⟨q,d⟩,r⟩:=h;refine⟨q,λt b=>?_,λt b=>?_,r⟩
 ·obtain⟨⟨⟨⟨⟨⟨⟨⟨e,i⟩,j⟩,k⟩,m⟩,n⟩,o⟩,p⟩,-⟩:=d t b;exact⟨e,i,j,k,m,n,o,p⟩
 ·obtain⟨-,hd⟩:=d t b;refine⟨t.2.num,?_⟩
  have:(t.2.num:Rat)=t.2:=by refine Rat.ext rfl ?_;rw[hd];rfl
  rw[this];show t.2*((1:Nat):Rat)=t.2;rw[show((1:Nat):Rat)=1 from rfl,Rat.mul_one]
def S1:Sz:=⟨1,100,10,10⟩
def sm (l:List ai):Bool:=X9 100 10 10 l
def YV (D R:List (List ai)):Bool:=(List.range (R.length-1)).all λi =>
 (sm (R.getD i [])&&sm (D.getD (D.length-1) [])) &&
 (!decide (R.length-1-(D.length-1)<=i) ||
  ((sm (R.getD (R.length-1) [])&&sm (D.getD (i-(R.length-1-(D.length-1))) [])) &&
  (sm (aX (R.getD i []) (D.getD (D.length-1) []))&&sm (aX (R.getD (R.length-1) []) (D.getD (i-(R.length-1-(D.length-1))) []))&&K7 (aX (R.getD i []) (D.getD (D.length-1) []))&&K7 (aX (R.getD (R.length-1) []) (D.getD (i-(R.length-1-(D.length-1))) [])))))
def Yt (D:List (List ai)):Nat->List (List ai)->Bool
 | 0,_=>true
 | f+1,R=>!decide (D.length-1<R.length) || (YV D R&&Yt D f (fO D R))
def Y3 (k:Nat):Sz:=⟨1,2^(k+1)-1,k+1,2^(k+1)-1⟩
end Q
end
section
namespace Q
open Go Go.RowKit Go.Proofs.YtopclbeomcggiaaGreat
def af.polyT {g:Option Nat} {T:TypeId} (hT:uT≠T) (hT':aJ≠T) (l:List ai) (x:Value):af (Lr g T):=af.of (λv w=>∃u,v=.tuple #[u,x]/\ak w u l) (λ_ _ _ hb=>λ⟨u,e,h⟩=>⟨u,e,h.lr hb hT hT'⟩)
def af.polys {g:Option Nat} {T:TypeId} (hT:uT≠T) (hT':aJ≠T) (h3:Go.Proofs.YtopclbeomcggiaaGreat.polyT≠T) (L:List (List ai)):af (Lr g T):=af.of (λv w=>je w v L) (λ_ _ _ hb h=>bU.lr h hb ⟨hT,hT'⟩ h3)
end Q
namespace Go.Proofs.YtopclbeomcggiaaGreat
open Go.RowKit Q
variable {w:World} {v u:Value} {l p q r:List ai}
end Go.Proofs.YtopclbeomcggiaaGreat
end
section
namespace Q
open Go Go.Proofs.YtopclbeomcggiaaGreat
def YW (t:Int × Int × Int × Int × Int):ai:=((t.1%3,t.2.1%4-1,t.2.2.1%2,t.2.2.2.1%2),((t.2.2.2.2.tmod 4:Int):Rat))
abbrev TI:=Int × Int × Int × Int × Int
def WT (t:TI):Prop:=(0<=t.1/\t.1<256)/\(0<=t.2.1/\t.2.1<256)/\(0<=t.2.2.1/\t.2.2.1<256)/\(0<=t.2.2.2.1/\t.2.2.2.1<256)/\-128<=t.2.2.2.2/\t.2.2.2.2<128
end Q
namespace Go.Proofs.YtopclbeomcggiaaGreat
open Go.RowKit Q
def UL (t:Int × Int × Int × Int × Int):List Value:=[.int .u8 t.1,.int .u8 t.2.1,.int .u8 t.2.2.1,.int .u8 t.2.2.2.1,.int .i8 t.2.2.2.2]
def Vz (T:TypeId):El TI where
 T:=T
 sz:=5
 pos:=by decide
 E _ cs t:=cs=UL t/\WT t
 len:=by rintro w c t ⟨rfl,h⟩;rfl
 one:=by rintro w c t ⟨rfl,h⟩ v hv;simp only[UL,List.mem_cons,List.not_mem_nil,or_false]at hv;rcases hv with rfl|rfl|rfl|rfl|rfl<;>rfl
 on:=λh _=>h
 ok _:=True
 lr:=λh _ _=>h
 self:=trivial
def Yu (w:World) (v:Value) (l:List TI):Prop:=∃T,bU (Vz T) w v l
end Go.Proofs.YtopclbeomcggiaaGreat
end
section
namespace Q
open Go Go.Proofs.YtopclbeomcggiaaGreat
def TI.get (t:TI) (v:Nat):Int:=match v with|0=>t.1|1=>t.2.1|2=>t.2.2.1|_=>t.2.2.2.1
def VA (t:TI) (k:Nat):Ex:=(if 0<k then t.1%3 else 0,if 1<k then t.2.1%3 else 0,if 2<k then t.2.2.1%3 else 0,if 3<k then t.2.2.2.1%3 else 0)
def WU (vs:Nat) (t:TI):ai:=(VA t vs,((t.2.2.2.2.tmod 10:Int):Rat))
def WV (L:List TI) (n vs:Nat):List ai:=(L.take n).map (WU vs)
def YP (L:List TI) (n vs:Nat):List ai:=canon (WV L n vs)
end Q
namespace Go.Proofs.YtopclbeomcggiaaGreat
open Go.RowKit Q
end Go.Proofs.YtopclbeomcggiaaGreat
namespace Q
open Go Go.RowKit Q Go.Proofs.YtopclbeomcggiaaGreat
end Q
namespace Go.Proofs.YtopclbeomcggiaaGreat
open Go.RowKit Q
end Go.Proofs.YtopclbeomcggiaaGreat
end
section
namespace Go.Proofs.YtopclbeomcggiaaGreat
open Go.RowKit Q Go.WideMaps Go.Maps
end Go.Proofs.YtopclbeomcggiaaGreat
end
section
namespace Q
open Go Go.Proofs.YtopclbeomcggiaaGreat
structure Pk (s:Sz) (p:List ai):Prop where
 v:bR p
 b:Bd s p
 k:s.ok
namespace Pk
variable {s t:Sz} {p q:List ai}
theorem mul(h:Pk s p)(d:Pk t q)(k:(s.mul t).ok):Pk (s.mul t) (aX p q):=⟨bR.mul _ _,(h.b.prods d.b).canon,k⟩
theorem rs(h:Pk s p):∀t∈p,Rs t.2:=h.b.rs h.k
theorem rk(h:Pk s p):∀t∈p,Rk t.2:=λt b=>(h.rs t b).rk
theorem ir(h:Pk s p):∀t∈p,InR t.1/\Rk t.2:=λt d=>⟨h.b.inR h.k t d,h.rk t d⟩
theorem len(h:Pk s p):p.length<=100000000:=h.b.len h.k
end Pk
structure Wr (p:List ai):Prop where
 v:bR p
 rs:∀t∈p,Rs t.2
 ir:∀t∈p,Go.Proofs.YtopclbeomcggiaaGreat.InR t.1
 len:p.length<=100000000
theorem Pk.wr{s:Sz}{p:List ai}(h:Pk s p):Wr p:=⟨h.v,h.rs,λt b=>(h.ir t b).1,h.len⟩
theorem Wr.sub{p q:List ai}(h:Wr p)(b:q.Sublist p):Wr q:=⟨h.v.sublist b,λt d=>h.rs t (b.subset d),λt d=>h.ir t (b.subset d),Nat.le_trans b.length_le h.len⟩
theorem VB{c:Rat}(h:Rs c):Rs (c*(-1)):=by rw[(gR:c*(-1)=-c)];exact⟨by rw[Rat.neg_den];exact h.1,by rw[Rat.neg_num,Int.natAbs_neg];exact h.2⟩
theorem Wr.neg{p:List ai}(h:Wr p):Wr (bN p (-1)):=by
 refine⟨h.v.scale _,λt b=>?_,λt b=>?_,?_⟩
 ·rw[bN,if_neg dK]at b;obtain⟨s,d,rfl⟩:=List.mem_map.1 b;exact VB (h.rs s d)
 ·rw[bN,if_neg dK]at b;obtain⟨s,d,rfl⟩:=List.mem_map.1 b;exact h.ir s d
 ·rw[bN,if_neg dK,List.length_map];exact h.len
end Q
namespace Go.Proofs.YtopclbeomcggiaaGreat
open Go.RowKit Q
variable {w:World} {v u:Value} {s t:Sz} {p q:List ai}
theorem Jc(b:Pk s p)(d:Pk t q)(e:p=q)(hp:ak w v p)(hq:ak w u q):Calls Tryz.prog 13 #[v,u] w (rE w (.bool true)) :=
 (decide_eq_true e)▸OZ v u p q w hp hq b.rk d.rk b.len
end Go.Proofs.YtopclbeomcggiaaGreat
end
section
namespace Q
theorem sF{p:List ai}{m:ai}(h:m.2≠0):jN p m=prods p [m]:=by
 rw[jN,if_neg h]
 induction p with
 | nil=>rfl
 | cons s p b=>rw[List.map_cons,b];rfl
theorem O9(x:Pt)(t:ai):ev x [t]=t.2*wX x t.1:=by rw[kP,jh];grind
theorem Q6{p q:List ai}{k:Nat}{t:ai}(hp:bR p)(hq:bR q)(h:q[k]?=some t):dD (aX p (q.take k)) (jN p t)=aX p (q.take (k+1)):=by have b:t.1.nat=true:=(hq.2 t (List.mem_of_getElem? h)).2;have d:=(hq.sublist (List.take_sublist k q)).nat;have e:=(hq.sublist (List.take_sublist (k+1) q)).nat;rw[qQ (bR.mul _ _) (hp.times b)];refine yE (bR.add _ _) (bR.mul _ _) λx=>?_;rw[ev_add x (bR.mul _ _).nat (hp.times b).nat,ev_mul x hp.nat d,QX x hp.nat b,ev_mul x hp.nat e,List.take_add_one,h];simp only[Option.toList_some];rw[oW,O9,Rat.mul_add]
theorem Q7(e:Ex):e.add e0=e:=by simp[Ex.add,e0]
theorem Gz(p:List ai)(c:Rat):jN p (e0,c)=bN p c:=by
 unfold jN bN;split
 ·rfl
 ·refine List.map_congr_left λt _=>?_;simp only[mulT,Q7]
namespace Pk
variable {s t:Sz} {p q:List ai}
theorem times(h:Pk s p)(d:Pk t q)(k:(s.mul t).ok){u:ai}(hu:u∈q):Bd (s.mul t) (jN p u)/\∀a∈p,Go.Proofs.YtopclbeomcggiaaGreat.InR (a.1.add u.1):=by have hz:u.2≠0:=(d.v.2 u hu).1;have hb:Bd t [u]:=d.b.sub (List.singleton_sublist.2 hu);have hp:=h.b.prods hb;refine⟨by rw[sF hz];exact hp,λa ha=>?_⟩;exact hp.inR k (mulT a u) (List.mem_flatMap.2 ⟨a,ha,sM⟩)
theorem take(h:Pk s p)(k:Nat):Pk s (p.take k):=⟨h.v.sublist (List.take_sublist _ _),h.b.take k,h.k⟩
end Pk
end Q
namespace Go.Proofs.YtopclbeomcggiaaGreat
open Go.RowKit Q Go.WideMaps Go.Maps
theorem Jd{D F:Value}{p q:List ai}{w:World}(hP:Wr p)(hQ:Wr q)(n:∀k,Wr (aX p (q.take k)))(j:∀u∈q,Wr (jN p u)/\∀t∈p,InR (t.1.add u.1))(hp:ak w D p)(hq:ak w F q):Calls Tryz.prog 12 #[D,F] w (aS w (aX p q)):=by
 obtain⟨ap,cp,rfl,I⟩:=hp.shape;obtain⟨L,M,rfl,J⟩:=hq.shape;have C:=hQ.len;replace n:=zH n;replace j:=zH j;have z:=zH (λk t (h:q[k]?=some t)=>Q6 hP.v hQ.v h)
 go_enter Tryz.func12,Tryz.ntmps12
 go_wp2;have hb0:Below w.heap.size w (w.alloc (.cells #[] aJ)):=(Below.refl _ _).alloc (nL _) _;have s:ak (w.alloc (.cells #[] aJ)) (.slice (some ⟨w.heap.size,0,none⟩) 0 0) []:=(gX aO w).isSl;change Below w.heap.size w (w.alloc (.cells #[] 43))at hb0;change ak (w.alloc (.cells #[] 43)) _ _ at s;replace hp:=zH hp;replace hq:=zH hq
 go_loopw [5,6] (λo i wr=>∃k:Nat,k<=q.length/\i=.int .i64 k/\Hid (ak wr o (aX p (q.take k)))/\Below w.heap.size w wr) (λ_ i _=>q.length-(intOf i).toNat)
 case atStart=>exact⟨0,oM,rfl,zH (by rw[List.take_zero,tV];exact s),hb0⟩
 case round =>
  clear s hb0;obtain⟨k,N,rfl,hO,d⟩:=hrel;by_cases y:k<q.length
  ·have m:q[k]?=some q[k]:=gE y;generalize q[k]=t at m;obtain⟨G,oq,rt,rfl,r,hC⟩:=fB (hq.out.on d) m;have B:(k:Int)<q.length:=oM;have hr:=hC.range;have h8:(bC t.1++rt).length=8:=by rw[List.length_append,r.len];rfl
   have b:=List.mem_of_getElem? m;have x:=wF _ p _ t wr (hp.out.on d) ⟨rt,rfl,r⟩ hP.rs (hQ.rs t b) (j.out t b).2 hP.len;have l:=λW u (hb:Below wr.heap.size wr W) (hu:ak W u (jN p t))=>CG u5 u _ _ W (hO.out.on hb) hu (n.out k).rs (j.out t b).1.rs (n.out k).len (j.out t b).1.len;rw[z.out k t m]at l;clear hC b r;replace x:=zH x;replace l:=zH l
   go_wp2_with (first
    | (refine aj rfl _ _ 27 rfl aJ Tryz.underlying27 _ 8 96 kM _ _ _ rfl .i64 _ rfl k rfl y G oq rfl ?_)
    | (refine wpList_load_mid rfl 43 _ rfl _ _ rfl _ _ hr Tryz.underlying43 rfl (by rw[h8];kernel_rfl) ?_)
    | (go_at_call 44;refine x.out.mono ?_;rintro en w3 ⟨v3,rfl,hv3,hb3⟩)
    | (go_at_call 39;refine(l.out _ _ hb3 hv3).mono ?_;rintro en w4 ⟨v4,rfl,hv4,hb4⟩))
   have hb34:=hb3.trans (hb4.mono hb3.size);go_roundw
   case rel=>exact⟨k+1,oM,nM,zH hv4,d.trans (hb34.mono d.size)⟩
   case measure=>simp[intOf];omega
  ·obtain rfl:k=q.length:=oM;rw[tL (nL _)]at hO;go_wp2;go_ret;exact⟨_,rfl,hO.out,d⟩
theorem Nf{s t:Sz}{h i:Value}{p q:List ai}{w:World}(b:Pk s p)(d:Pk t q)(e:(s.mul t).ok)(hp:ak w h p)(hq:ak w i q):Calls Tryz.prog 12 #[h,i] w (aS w (aX p q)) :=
 Jd b.wr d.wr (λk=>(b.mul (d.take k) e).wr) (λu hu=>⟨(Pk.wr (s:=s.mul t) ⟨b.v.times (d.v.2 u hu).2,(b.times d e hu).1,e⟩),(b.times d e hu).2⟩) hp hq
theorem sG(i l:Value)(p:List ai)(c:Rat)(w:World)(hp:ak w i p)(hc:bM w l c)(k:∀t∈p,Rs t.2)(j:Rs c)(b:∀t∈p,InR t.1)(o:p.length<=100000000) :
  Calls Tryz.prog 42 #[i,l] w (aS w (bN p c)):=by
 obtain⟨n5,a5,k5,c5,n6,a6,k6,c6,rfl⟩:=fE hc;have d:=zH (λW (hb:Below w.heap.size w W)=>wF i p (bC e0++[.bool n5,.slice a5 k5 c5,.bool n6,.slice a6 k6 c6]) (e0,c) W (hp.on hb) ⟨_,rfl,(hc.on hb).cellsC⟩ k j (λt n=>by rw[Q7];exact b t n) o);rw[Gz]at d;replace hp:=zH hp;replace hc:=zH hc;clear k j b
 go_enter Tryz.func42,Tryz.ntmps42
 go_upto_region 1 with (fail)
 refine jb λW hb0 B m=>?_;have y1:=B.at1 0 _ rfl;have y2:=B.at1 1 _ rfl;have y3:=B.at1 2 _ rfl;have y4:=B.at1 3 _ rfl
 go_wp2_with (go_at_call 44;refine(d.out _ hb0).mono ?_;rintro en w3 ⟨v3,rfl,hv3,hb3⟩)
 go_ret;exact⟨_,rfl,hv3,hb0.trans (hb3.mono hb0.size)⟩
theorem Q8:Rs (-1:Rat):=xN (s:=⟨1,1,0,1⟩) dK (Dv.int 1 (-1)) (show bH (((-1:Int)):Rat)<=((1:Nat):Rat) by rw[rabs_int];exact Rat.natCast_le_natCast.2 dM)
theorem VC{s:Sz}{e d:Value}{p:List ai}{c:Rat}{w:World}(b:Pk s p)(i:Rs c)(hp:ak w e p)(hc:bM w d c):Calls Tryz.prog 42 #[e,d] w (aS w (bN p c)) :=
 sG e d p c w hp hc b.rs i (λt h=>(b.ir t h).1) b.len
theorem WW{s t:Sz}{v u:Value}{p q:List ai}{w:World}(b:Pk s p)(d:Pk t q)(hp:ak w v p)(hq:ak w u q):Calls Tryz.prog 39 #[v,u] w (aS w (pO p q)) :=
 qQ b.v d.v▸CG v u p q w hp hq b.rs d.rs b.len d.len
theorem UM{b d:Value}{p q:List ai}{w:World}(hP:Wr p)(hQ:Wr q)(hp:ak w b p)(hq:ak w d q):Calls Tryz.prog 35 #[b,d] w (aS w (gH p q)):=by
 have i:=zH (λW u (hb:Below w.heap.size w W) (hu:bM W u (((-1:Int)):Rat))=>sG d u q (-1) W (hq.on hb) hu hQ.rs Q8 hQ.ir hQ.len);have ha:=zH (λW u (hb:Below w.heap.size w W) (hu:ak W u (bN q (-1)))=>qQ hP.v (hQ.v.scale (-1))▸CG b u p _ W (hp.on hb) hu hP.rs hQ.neg.rs hP.len hQ.neg.len);replace hp:=zH hp;replace hq:=zH hq
 go_enter Tryz.func35,Tryz.ntmps35
 go_wp2_with (first
  | (go_at_call 24;refine(gG (-1) _ oM oM).mono ?_;rintro en w3 ⟨v3,rfl,hv3,hb3⟩)
  | (go_at_call 42;refine(i.out _ _ hb3 hv3).mono ?_;rintro en w4 ⟨v4,rfl,hv4,hb4⟩)
  | (go_at_call 39;refine(ha.out _ _ (hb3.trans (hb4.mono hb3.size)) hv4).mono ?_;rintro en w5 ⟨v5,rfl,hv5,hb5⟩))
 have hb34:=hb3.trans (hb4.mono hb3.size);go_ret;exact⟨_,rfl,hv5,hb34.trans (hb5.mono hb34.size)⟩
theorem WX{s t:Sz}{b d:Value}{p q:List ai}{w:World}(e:Pk s p)(h:Pk t q)(i:(t.mul ⟨1,1,0,1⟩).ok)(hp:ak w b p)(hq:ak w d q):Calls Tryz.prog 35 #[b,d] w (aS w (gH p q)):=UM e.wr h.wr hp hq
end Go.Proofs.YtopclbeomcggiaaGreat
end
section
namespace Q
open Go Go.Proofs.YtopclbeomcggiaaGreat
def Y4 (s:Sz) (n:Nat):Sz:=⟨s.D^n,s.B^n,s.E*n,s.N^n⟩
theorem VD:Bd ⟨1,1,0,1⟩ (bZ 1):=zl dK
theorem VE:Pk ⟨1,1,0,1⟩ (bZ 1):=⟨bR.const 1,VD,dK⟩
namespace Pk
variable {s t:Sz} {p q:List ai}
theorem var(v:Nat):Pk ⟨1,1,1,1⟩ (rG v):=⟨bR.var v,by
 obtain rfl|rfl|rfl|h:v=0\/v=1\/v=2\/3<=v:=oM
 ·exact zl dK
 ·exact zl dK
 ·exact zl dK
 ·obtain⟨u,rfl⟩:∃u,v=u+3:=⟨v - 3,oM⟩
  exact zl (dK:X9 1 1 1 [((0,0,0,1),1)]=true),dK⟩
end Pk
end Q
namespace Go.Proofs.YtopclbeomcggiaaGreat
open Go.RowKit Q
end Go.Proofs.YtopclbeomcggiaaGreat
end
section
namespace Q
open Go Go.Proofs.YtopclbeomcggiaaGreat
theorem Q9{m g:ai}{a:List ai}(ha:bR (m::a))(hz:g.2≠0)(d:(m.1.sub g.1).nat=true):bR [gI m g] :=
 AJ d (by
  show m.2/g.2≠0;have:=(ha.2 m sM).1;intro h;rw[Rat.div_def]at h
  exact jw this (λb=>hz (by rw[<-Rat.inv_inv g.2,b,Rat.inv_zero])) h)
theorem AY{a:List ai}(hv:bR a){E:Ex}{c:Rat}(hc:c≠0)(k:∀t∈a,E=t.1\/E.gt t.1=true)(i:cf a E=c):∃a',a=(E,c)::a':=by
 obtain⟨t,d,he⟩:=PZ (l:=a) (e:=E) (by rw[i];exact hc)
 cases a with
 | nil=>cases d
 | cons m a =>
  have j:m.1=E:=by
   rcases k m sM with h|h
   ·exact h.symm
   ·rcases List.mem_cons.1 d with rfl|d
    ·exact he
    ·have b:=hv.1.head t d;rw[he]at b;rw[Ex.gt_asymm h]at b;cases b
  have b:=hv.cf_head;rw[j,i]at b;exact⟨a,by rw[<-j,b]⟩
theorem AZ{x g:ai}{s ts:List ai}(i:bR (x::s))(hb:bR (g::ts)):(∀t∈aX (x::s) (g::ts),x.1.add g.1=t.1\/(x.1.add g.1).gt t.1=true)/\cf (aX (x::s) (g::ts)) (x.1.add g.1)=x.2*g.2:=by
 refine⟨lw (P:=λe=>x.1.add g.1=e\/(x.1.add g.1).gt e=true) λt j=>?_,?_⟩
 ·obtain⟨a,ha,b,d,rfl⟩:=mQ j;by_cases h:x.1=a.1/\g.1=b.1
  ·exact .inl (by simp only[mulT,h.1,h.2])
  ·exact .inr (tT (i.1.head_or a ha) (hb.1.head_or b d) h)
 ·rw[aX,nI,if_pos (Ex.nat_add i.nat.head hb.nat.head),qI i.1 hb.1]
theorem CK{x g:ai}(hz:g.2≠0):gI (x.1.add g.1,x.2*g.2) g=x:=by
 obtain⟨e,c⟩:=x;unfold gI;refine Prod.ext ?_ ?_
 ·show(e.add g.1).sub g.1=e;simp only[Ex.add,Ex.sub];refine Ex.ext' ?_ ?_ ?_ ?_<;>simp only<;>omega
 ·show c*g.2/g.2=c;exact Rat.mul_div_cancel hz
theorem CL{x:ai}{s b d:List ai}(e:bR (x::s))(hb:bR b)(hd:bR d):gH (pO (aX (x::s) b) d) (aX b [x])=pO (aX s b) d :=
 yE (bR.sub _ _) (bR.add _ _) λy=>by have i:bR [x]:=⟨List.pairwise_singleton _ _,λt h=>e.2 t (by simp at h;simp[h])⟩;rw[ev_sub y (bR.add _ _).nat (bR.mul _ _),ev_add y (bR.mul _ _).nat hd.nat,ev_mul y e.nat hb.nat,ev_mul y hb.nat i.nat,ev_add y (bR.mul _ _).nat hd.nat,ev_mul y e.tail.nat hb.nat,kP,kP,jh];grind
theorem xR{p:List ai}(hp:bR p):pO p []=p:=by rw[pO,List.append_nil,Ht hp]
theorem iI{c:Rat}(h:Dv 1 c):∃z:Int,c=(z:Rat):=by obtain⟨k,b⟩:=h;exact⟨k,by rw[<-b,show((1:Nat):Rat)=1 from rfl,Rat.mul_one]⟩
theorem VF{z:Int}{n:Nat}(h:bH (z:Rat)<=(n:Rat)):z.natAbs<=n:=by rw[rabs_int]at h;exact Rat.natCast_le_natCast.1 h
end Q
end
section
namespace Q
namespace MP
def dv (D:Nat) (p:MP):Prop:=∀t∈p.l,Dv D t.2
def am (p:MP):Rat:=bI p.l
theorem am_nonneg(p:MP):0<=p.am:=mf _
theorem xS{D:Nat}{l:List ai}(h:∀t∈l,Dv D t.2):∀t∈canon l,Dv D t.2:=(Bl (l:=l) (r:=[]) (p:=λ_=>True) (λ_ _=>trivial) (λ_ _=>trivial) h (λ_ h=>by cases h)).2.2.2
theorem Pb(l:List ai):∀r,bI (l.foldl ins r)<=bI r+bI l:=by
 induction l with
 | nil=>intro r;simp only[List.foldl_nil,bI];grind
 | cons m l b=>intro r;have:=b (ins r m);have:=Bj r m;simp only[List.foldl_cons,bI];grind
theorem ql(l:List ai):bI (canon l)<=bI l:=by have:=Pb l [];simp only[bI]at this;unfold canon;grind
theorem CO{D:Nat}{p q:MP}(h:p.dv D)(b:q.dv D):(p+q).dv D:=xS λt d=>(List.mem_append.1 d).elim (h t) (b t)
theorem Ra{D d:Nat}{p q:MP}(h:p.dv D)(e:q.dv d):(p*q).dv (D*d):=xS λt i=>by obtain⟨a,ha,b,hb,rfl⟩:=mQ i;exact(h a ha).mul (e b hb)
theorem jf{p q:MP}(h:p.dv 1)(b:q.dv 1):(p*q).dv 1:=Ra h b
theorem Pd{D:Nat}{r:Rat}(h:Dv D r):(c r).dv D:=λt b=>by
 have b:t∈bZ r:=b;unfold bZ at b;split at b
 ·cases b
 ·rw[List.mem_singleton.1 b];exact h
theorem TJ{D b:Nat}(hd:D∣b){p:MP}(h:p.dv D):p.dv b:=λt d=>(h t d).dvd hd
theorem zm{p:List ai}{c:Rat}{t:ai}(h:t∈bN p c):∃s∈p,t=(s.1,s.2*c):=by
 unfold bN at h;split at h
 ·cases h
 ·obtain⟨s,b,rfl⟩:=List.mem_map.1 h;exact⟨s,b,rfl⟩
theorem Rb{D:Nat}{p:MP}(h:p.dv D):(-p).dv D:=λt d=>by obtain⟨s,b,rfl⟩:=zm (p:=p.l) (c:=-1) d;have:=(h s b).neg;have e:s.2*-1=-s.2:=gR;show Dv D (s.2*-1);rw[e];exact this
theorem La(p q:MP):p-q=p+-q:=gR
theorem CP{D:Nat}{p q:MP}(h:p.dv D)(b:q.dv D):(p-q).dv D:=by rw[La];exact CO h (Rb b)
theorem GD(D:Nat):(0:MP).dv D:=λ_ h=>by cases h
theorem VG(D:Nat):(1:MP).dv D:=Pd (r:=1) (Dv.int D 1)
theorem wG(D:Nat)(k:Int):(c (k:Rat)).dv D:=Pd (Dv.int D k)
theorem Lb(p q:MP):(p+q).am<=p.am+q.am:=by have:=ql (p.l++q.l);rw[tK]at this;exact this
theorem CQ(p q:MP):(p*q).am<=p.am*q.am:=by have:=ql (prods p.l q.l);rw[Bt]at this;exact this
theorem Ng:(0:MP).am=0:=rfl
theorem Je(r:Rat):(c r).am=bH r:=by
 show bI (bZ r)=_;unfold bZ;split
 ·rename_i h;rw[h];rfl
 ·simp only[bI];grind
theorem qZ:bH 1=1:=dM
theorem VH:(1:MP).am=1:=by rw[<-zZ,Je,qZ]
theorem VI(p:MP):(-p).am<=p.am:=by
 have e:-p=c (-1)*p:=by refine ext' λx=>?_;rw[ev_neg,ev_mul,ev_c];grind
 have:=CQ (c (-1)) p;rw[Je]at this;rw[e];have b:bH (-1)=1:=dM;rw[b]at this;grind
theorem Lc(p q:MP):(p-q).am<=p.am+q.am:=by have:=Lb p (-q);have:=VI q;rw[La];grind
theorem VJ(l:List ai)(e:Ex):bH (cf l e)<=bI l:=by
 induction l with
 | nil=>simp only[jv,bI];decide
 | cons t l j =>
  rw[bJ];simp only[bI];have h:=Bi (if t.1=e then t.2 else 0) (cf l e)
  have i:bH (if t.1=e then t.2 else 0)<=bH t.2:=by
   split
   ·exact Rat.le_refl
   ·have b:=fM t.2;have d:bH 0=0:=dM;rw[d];exact b
  grind
theorem Fg{D:Nat}{l:List ai}(h:∀t∈l,Dv D t.2)(e:Ex):Dv D (cf l e):=by
 induction l with
 | nil=>rw[jv];exact Dv.zero D
 | cons t l d =>
  rw[bJ];refine Dv.add ?_ (d λs b=>h s (by simp[b]));split
  ·exact h t sM
  ·exact Dv.zero D
theorem Ld{p:MP}{t:ai}(h:t∈p.l):cf p.l t.1=t.2:=Ko (List.Pairwise.imp (λh=>Ex.gt_ne h) p.v.1) h
theorem xU{D:Nat}{f:Nat->MP}:∀{n:Nat},(∀j,j<n->(f j).dv D)->(cK f n).dv D
 | 0,_=>GD D
 | n+1,h=>CO (xU λj b=>h j (by omega)) (h n (by omega))
theorem Nh{K:Rat}{f:Nat->MP}:∀{n:Nat},(∀j,j<n->(f j).am<=K)->(cK f n).am<=(n:Rat)*K
 | 0,_=>by rw[cK,Ng];have e:((0:Nat):Rat)=0:=rfl;rw[e];grind
 | n+1,h=>by have b:=Nh (n:=n) λj k=>h j oM;have d:=h n oM;have i:=Lb (cK f n) (f n);rw[cK,Rat.natCast_add];have e:((1:Nat):Rat)=1:=rfl;rw[e];grind
theorem VK(p q:MP)(e:Ex):cf (p+q).l e=cf p.l e+cf q.l e:=lf_add _ p q
theorem GG(f:Nat->MP)(e:Ex):∀n,cf (cK f n).l e=iJ (λj=>cf (f j).l e) n
 | 0=>rfl
 | n+1=>by rw[cK,VK,GG f e n];rfl
theorem qF(r:Rat)(p:MP)(e:Ex):cf (c r*p).l e=r*cf p.l e:=by
 show Lf _ _=_;rw[lf_mul];by_cases h:r=0
 ·rw[h];show(0:Rat)=_;grind
 ·have:(c r).l=[(e0,r)]:=by show bZ r=_;rw[bZ,if_neg h]
  rw[this,rF,Kl];simp only[Ex.zero_add];show r*cf p.l e+0=_;grind
theorem Jf{f:Nat->Rat}{g:Nat->Int}:∀{n:Nat},(∀i,i<n->f i=(g i:Rat))->iJ f n=(vU g n:Rat)
 | 0,_=>rfl
 | n+1,h=>by rw[iJ,vU,Jf λi b=>h i (by omega),h n (by omega),Rat.intCast_add]
def Kk (v R j w:Nat):Nat:=if w<v then Cq R (j%R^v) w else if w=v then j/R^v else 0
def Pe (v R j:Nat):Ex:=((Kk v R j 0:Int),(Kk v R j 1:Int),(Kk v R j 2:Int),(Kk v R j 3:Int))
theorem GH(v R j:Nat){w:Nat}(b:w<4):(Pe v R j).get w=Kk v R j w:=by
 rcases w with _|_|_|_|w
 ·rfl
 ·rfl
 ·rfl
 ·rfl
 ·omega
theorem TK(v R j:Nat):(Pe v R j).nat=true:=by rw[Ex.nat_iff];simp only[Pe];omega
theorem Ex.ext4{e f:Ex}(h:∀w,w<4->e.get w=f.get w):e=f:=Ex.ext' (h 0 oM) (h 1 oM) (h 2 oM) (h 3 oM)
def mo (v R j:Nat):MP:=⟨[(Pe v R j,1)],AJ (TK v R j) (by decide)⟩
theorem UN(v R j:Nat):(mo v R j).dv 1:=λt b=>by rw[List.mem_singleton.1 b];exact Dv.int 1 1
theorem WY(v R j:Nat):(mo v R j).am=1:=by show bH 1+0=(1:Rat);rw[qZ];decide +kernel
theorem Le(v R j:Nat){w:Nat}(b:w<4):(mo v R j).deg w=Kk v R j w:=by show max (-1) ((Pe v R j).get w)=_;rw[GH _ _ _ b];omega
theorem VL{v R:Nat}(b:0<R)(j:Nat){w:Nat}(h:w<v):Kk v R j w<R:=by rw[Kk,if_pos h];exact Cr b _ _
theorem GI(v R j:Nat):Kk v R j v=j/R^v:=by rw[Kk,if_neg oM,if_pos rfl]
theorem TL{v R:Nat}(hv:v<4)(d:0<R){i j:Nat}(h:Pe v R i=Pe v R j):i=j:=by
 have b:∀w,w<4->Kk v R i w=Kk v R j w:=λw b=>by have:=congrArg (Ex.get · w) h;simp only[GH _ _ _ b]at this;omega
 have e:=b v hv;rw[GI,GI]at e
 have k:i%R^v=j%R^v:=Gn d v _ _ (Nat.mod_lt _ (Nat.pow_pos d)) (Nat.mod_lt _ (Nat.pow_pos d)) λw h=>by have:=b w oM;rw[Kk,Kk,if_pos h,if_pos h]at this;exact this
 have:=Nat.div_add_mod i (R^v);have:=Nat.div_add_mod j (R^v);rw[e,k]at *;omega
theorem Jg{W:Nat}:∀(n:Nat)(y:Nat->Nat),(∀i,i<n->y i<W)->∀i,i<n->Cq W (oD W y n) i=y i
 | 0,_,_=>λi d=>by omega
 | n+1,y,h=>λi d=>by
  have b:=h 0 oM
  cases i with
  | zero=>rw[Cq,oD,Nat.add_mul_mod_self_left,Nat.mod_eq_of_lt b]
  | succ i =>
   rw[Cq,oD,Nat.add_mul_div_left _ _ oM,Nat.div_eq_of_lt b,Nat.zero_add];exact Jg n _ (λi d=>h (i+1) oM) i oM
theorem VM{v R:Nat}(hv:v<4)(o:0<R){e:Ex}(l:e.nat=true)(j:∀w,w<v->e.get w<R)(h:∀w,v<w->w<4->e.get w=0):∃r,r<R^v/\e=Pe v R (r+R^v*(e.get v).toNat):=by
 have k:∀i,i<v->(e.get i).toNat<R:=λi p=>by have:=j i p;have:=Ex.nat_get l i;omega
 refine⟨oD R (λw=>(e.get w).toNat) v,xw v _ k,Ex.ext4 λw n=>?_⟩;have b:=xw v _ k;rw[GH _ _ _ n,Kk];have:=Ex.nat_get l w;by_cases d:w<v
 ·rw[if_pos d,Nat.add_mul_mod_self_left,Nat.mod_eq_of_lt b,Jg v _ k w d];omega
 ·rw[if_neg d];by_cases m:w=v
  ·subst m;rw[if_pos rfl,Nat.add_mul_div_left _ _ (Nat.pow_pos o),Nat.div_eq_of_lt b,Nat.zero_add];omega
  ·rw[if_neg m,h w oM n];rfl
def tH (v R A:Nat) (p q:MP) (j:Nat):MP:=if j<A then mo v R j*p else mo v R (j-A)*q
theorem Fh{v R j H:Nat}{p:MP}(h:p.am<=(H:Rat)):(mo v R j*p).am<=(H:Rat):=by have:=CQ (mo v R j) p;rw[WY]at this;grind
theorem Jh{v:Nat}(hv:v<4){p q:MP}(lp:p.lo (v+1))(lq:q.lo (v+1))(ip:p.dv 1)(iq:q.dv 1){m n k d H R X:Nat}(hm:p.deg v<=m)(hn:q.deg v<=n)(ar:k<m)(au:k<n)
  (hp:∀w,w<v->p.deg w<=d) (hq:∀w,w<v->q.deg w<=d) (ap:p.am<=(H:Rat)) (aq:q.am<=(H:Rat)) (hR:0<R)
  (Y:(2*((m+n-2*k)*R^v*(X*H))+1)^((m+n-2*k-1)*(R+d)^v)<(X+1)^((m+n-2*k)*R^v)) :
  ∃S T:MP,(S≠0\/T≠0)/\S.deg v<n-k/\(S*p+T*q).deg v<=k/\(∀w,w<v->(S*p+T*q).deg w<=((R-1+d:Nat):Int))/\(S*p+T*q).dv 1/\(S*p+T*q).am<=(((m+n-2*k)*R^v*(X*H):Nat):Rat)/\(S*p+T*q).lo (v+1):=by
 obtain⟨u,hu⟩:∃u,u=m+n - 2*k:=⟨_,rfl⟩;rw[<-hu]at Y ⊢;obtain⟨b,hS⟩:∃b,b=n - k:=⟨_,rfl⟩;obtain⟨L,hT⟩:∃L,L=m - k:=⟨_,rfl⟩;have C:u=b+L:=oM;obtain⟨Q,hQ⟩:∃Q,Q=R^v:=⟨_,rfl⟩;have J:0<Q:=by rw[hQ];exact Nat.pow_pos hR
 rw[<-hQ]at Y ⊢;obtain⟨O,a6⟩:∃O,O=R+d:=⟨_,rfl⟩;rw[<-a6]at Y;obtain⟨B,I⟩:∃B,B=O^v:=⟨_,rfl⟩;have al:0<B:=by rw[I];exact Nat.pow_pos oM
 rw[<-I]at Y
 have hdvB:∀j,(tH v R (b*Q) p q j).dv 1:=λj=>by
  unfold tH;split
  ·exact jf (UN _ _ _) ip
  ·exact jf (UN _ _ _) iq
 have hamB:∀j,(tH v R (b*Q) p q j).am<=(H:Rat):=λj=>by
  unfold tH;split
  ·exact Fh ap
  ·exact Fh aq
 have ab:∀j e,∃z:Int,cf (tH v R (b*Q) p q j).l e=(z:Rat)/\z.natAbs<=H:=λj e=>by obtain⟨z,hz⟩:=iI (Fg (hdvB j) e);refine⟨z,hz,VF ?_⟩;rw[<-hz];exact Rat.le_trans (VJ _ _) (hamB j)
 have ac:∃M:Nat->Ex->Int,∀j e,cf (tH v R (b*Q) p q j).l e=(M j e:Rat)/\(M j e).natAbs<=H :=
  ⟨λj e=>(cf (tH v R (b*Q) p q j).l e).num,λj e=>by
   obtain⟨z,hz,ag⟩:=ab j e
   simp only[hz];exact⟨rfl,ag⟩⟩
 obtain⟨M,hM⟩:=ac;obtain⟨s,s1,⟨j0,j1,j2⟩,s3⟩:=Vu (e:=(u - 1)*B) (n:=u*Q) (H:=H) (X:=X) (λi j=>M j (Pe v O (i+B*(k+1)))) (λi j _ _=>(hM j _).2) Y
 let S:MP:=cK (λj=>c (s j:Rat)*mo v R j) (b*Q)
 let T:MP:=cK (λj=>c (s (b*Q+j):Rat)*mo v R j) (L*Q)
 have G:S*p+T*q=cK (λj=>c (s j:Rat)*tH v R (b*Q) p q j) (u*Q):=by
  rw[C,Nat.add_mul,vW,<-uX,<-uX]
  congr 1
  ·refine dF λj E=>?_;simp only[tH,if_pos E];grind
  ·refine dF λj E=>?_;simp only[tH,if_neg (oM:¬b*Q+j<b*Q),(oM:b*Q+j-b*Q=j)];grind
 have a2:∀(r:Rat)(w:Nat),(c r).fr w:=λr w=>by
  by_cases h:r=0
  ·rw[h];exact oJ w
  ·exact rW one_ne (yX h) (rY w)
 have a5:∀j w,w<v->(mo v R j).deg w<=(R-1:Nat):=λj w F=>by rw[Le _ _ _ oM];have:=VL hR j F;omega
 have K:∀j,(mo v R j).deg v=((j/Q:Nat):Int):=λj=>by rw[Le _ _ _ hv,GI,hQ]
 have hi:∀j w,v<w->w<4->(mo v R j).deg w=0:=λj w o y=>by rw[Le _ _ _ y,Kk,if_neg oM,if_neg oM];rfl
 have aa:∀j w,w<v->(tH v R (b*Q) p q j).deg w<=(R-1+d:Nat):=λj w F=>by
  unfold tH;split
  ·exact Int.le_trans (bT w _ _ (a5 j w F) (hp w F) oM) oM
  ·exact Int.le_trans (bT w _ _ (a5 _ w F) (hq w F) oM) oM
 have a8:∀j w,v<w->w<4->(tH v R (b*Q) p q j).deg w<=0:=λj w o y=>by
  unfold tH;split
  ·exact Int.le_trans (bT w _ _ (Int.le_of_eq (hi _ w o y)) (lp w o y) oM) oM
  ·exact Int.le_trans (bT w _ _ (Int.le_of_eq (hi _ w o y)) (lq w o y) oM) oM
 have a9:∀j,j<u*Q->(tH v R (b*Q) p q j).deg v<=(m+n-k-1:Nat):=λj E=>by
  unfold tH;split
  ·rename_i h;have o:j/Q<b:=(Nat.div_lt_iff_lt_mul J).2 h;have y:=K j;obtain⟨c,hc⟩:∃c:Nat,c=j/Q:=⟨_,rfl⟩;rw[<-hc]at o y;exact Int.le_trans (bT v _ _ (Int.le_of_eq y) hm oM) oM
  ·rename_i h;have o:(j - b*Q)/Q<L:=(Nat.div_lt_iff_lt_mul J).2 (by rw[C,Nat.add_mul]at E;omega);have y:=K (j - b*Q);obtain⟨c,hc⟩:∃c:Nat,c=(j - b*Q)/Q:=⟨_,rfl⟩;rw[<-hc]at o y;exact Int.le_trans (bT v _ _ (Int.le_of_eq y) hn oM) oM
 have hd:∀(w:Nat)(D:Nat),(∀j,j<u*Q->(tH v R (b*Q) p q j).deg w<=D)->(S*p+T*q).deg w<=D:=λw D h=>by rw[G];refine qd oM λj E=>?_;have:=bT w (c (s j:Rat)) _ (a2 _ w) (h j E) oM;omega
 have a3:∀w,w<v->(S*p+T*q).deg w<=(R-1+d:Nat):=λw F=>hd w _ λj _=>aa j w F;have a1:∀w,v<w->w<4->(S*p+T*q).deg w<=0:=λw o y=>hd w 0 λj _=>a8 j w o y;have ao:(S*p+T*q).deg v<=(m+n-k-1:Nat):=hd v _ a9
 have a4:∀(f:Nat->Int)(N:Nat),cK (λj=>c (f j:Rat)*mo v R j) N=0->∀j,j<N->f j=0:=by
  intro f N h0 j E;have o:=congrArg (λg=>cf g.l (Pe v R j)) h0;simp only[GG]at o;rw[Bz E λi hi ad=>?_,qF]at o
  ·have e1:cf (mo v R j).l (Pe v R j)=1:=by show cf [_] _=_;rw[bJ,jv,if_pos rfl];exact Rat.add_zero _
   have e2:cf (0:MP).l (Pe v R j)=0:=rfl;rw[e1,e2]at o;exact Rat.intCast_inj.1 (by rw[Rat.mul_one]at o;exact o)
  ·rw[qF]
   have:cf (mo v R i).l (Pe v R j)=0:=by show cf [_] _=_;rw[bJ,jv,if_neg λh=>ad (TL hv hR h)];exact Rat.add_zero _
   rw[this];grind
 have Z:(S*p+T*q).dv 1:=by rw[G];exact xU λj _=>jf (wG 1 _) (hdvB j)
 refine⟨S,T,?_,?_,?_,a3,Z,?_,λw o y=>a1 w o y⟩
 ·by_cases W:S=0
  ·refine .inr λa7=>j2 ?_;rcases Nat.lt_or_ge j0 (b*Q)with h|h
   ·exact a4 s _ W j0 h
   ·have an:u*Q=b*Q+L*Q:=by rw[C,Nat.add_mul]
    have:=a4 (λj=>s (b*Q+j)) (L*Q) a7 (j0-b*Q) oM;simp only[(oM:b*Q+(j0-b*Q)=j0)]at this;exact this
  ·exact .inl W
 ·have:S.deg v<=(b-1:Nat):=qd oM λj E=>by
   have o:j/Q<b:=(Nat.div_lt_iff_lt_mul J).2 E;have y:=K j;obtain⟨x,hc⟩:∃x:Nat,x=j/Q:=⟨_,rfl⟩;rw[<-hc]at o y;have:=bT v (c (s j:Rat)) (mo v R j) (a2 _ v) (Int.le_of_eq y) oM;omega
  omega
 ·by_cases a0:S*p+T*q=0
  ·rw[a0,deg_zero];omega
  ·rcases Int.lt_or_le k ((S*p+T*q).deg v)with hlt|kQ
   ·exfalso;obtain⟨t,ht,e⟩:=tQ (λh=>a0 (zero_iff.2 h)) (S*p+T*q).v.nat v;have e':t.1.get v=(S*p+T*q).deg v:=e;have tn:=(S*p+T*q).v.nat t ht
    obtain⟨r,r1,r2⟩:=VM hv (oM:0<O) tn (λw F=>by
     have:=eU ht w;have h':aD (S*p+T*q).l w<=(R-1+d:Nat):=a3 w F;omega) (λw o y=>by
     have:=eU ht w;have h':aD (S*p+T*q).l w<=0:=a1 w o y;have:=Ex.nat_get tn w;omega)
    rw[<-I]at r1 r2;obtain⟨l,hl⟩:∃l,l=(t.1.get v).toNat:=⟨_,rfl⟩;rw[<-hl]at r2;have av:k+1<=l/\l<k+1+(u - 1):=oM
    have hi:r+B*(l-(k+1))<(u-1)*B:=by have:=Nat.mul_le_mul_left B (oM:l-(k+1)+1<=u-1);rw[Nat.mul_succ,Nat.mul_comm B (u-1)]at this;omega
    have h3:=s3 _ hi
    have e3:r+B*(l-(k+1))+B*(k+1)=r+B*l:=by rw[Nat.add_assoc,<-Nat.mul_add];congr 2;omega
    simp only[e3,<-r2]at h3
    have h4:cf (S*p+T*q).l t.1=0:=by rw[G,GG,Jf (g:=λj=>s j*M j t.1) λi _=>by rw[qF,(hM i _).1,Rat.intCast_mul],h3];rfl
    rw[Ld ht]at h4;exact((S*p+T*q).v.2 t ht).1 h4
   ·exact kQ
 ·rw[G];have:(((u*Q*(X*H):Nat)):Rat)=((u*Q:Nat):Rat)*((X*H:Nat):Rat):=by rw[Rat.natCast_mul]
  rw[this];refine Nh λj _=>?_;have o:=CQ (c (s j:Rat)) (tH v R (b*Q) p q j);rw[Je]at o;refine Rat.le_trans o ?_;rw[Rat.natCast_mul];refine qC ?_ (hamB j) (fM _) Rat.natCast_nonneg;have y:=s1 j;unfold bH;split
  ·rw[<-Rat.intCast_neg,<-iN];exact Rat.intCast_le_intCast.2 oM
  ·rw[<-iN];exact Rat.intCast_le_intCast.2 oM
end MP
end Q
end
section
namespace Q
open Go Go.Proofs.YtopclbeomcggiaaGreat
def Rc (x:Pt) (v:Nat) (L:List (List ai)):Rat:=iJ (λi=>ev x (L.getD i [])*x.get v^i) L.length
theorem CR(c:Rat)(f:Nat->Rat):∀n,iJ (λi=>c*f i) n=c*iJ f n
 | 0=>by simp[iJ]
 | n+1=>by simp only[iJ,CR c f n];grind
theorem CU(a:Nat)(g:Nat->Rat):∀n,iJ (λi=>if a<=i then g (i-a)else 0) (a+n)=iJ g n
 | 0=>by
  have:∀k,k<=a->iJ (λi=>if a<=i then g (i-a)else 0) k=0:=by
   intro k
   induction k with
   | zero=>intro _;rfl
   | succ k b=>intro h;simp only[iJ];rw[b oM,if_neg oM];grind
  rw[Nat.add_zero,this a (nL _)];rfl
 | n+1=>by rw[<-Nat.add_assoc];simp only[iJ];rw[CU a g n,if_pos oM,Nat.add_sub_cancel_left]
def Aw (L:List (List ai)):Prop:=∀c∈L,bR c
theorem Aw.get{L:List (List ai)}(h:Aw L)(i:Nat):bR (L.getD i []):=by
 rw[jD]
 cases hi:L[i]? with
 | none=>exact bR.nil
 | some c=>exact h c (List.mem_of_getElem? hi)
theorem Lg{D R:List (List ai)}{i:Nat}(h:i<R.length-1):(fO D R).getD i []=if R.length-1-(D.length-1)<=i then gH (aX (R.getD i []) (D.getD (D.length-1) [])) (aX (R.getD (R.length-1) []) (D.getD (i-(R.length-1-(D.length-1))) []))else aX (R.getD i []) (D.getD (D.length-1) []):=by rw[jD];simp[fO,h]
theorem CV(D R:List (List ai)):Aw (fO D R):=λc hc=>by
 simp only[fO,List.mem_map]at hc;obtain⟨i,-,rfl⟩:=hc;split
 ·exact bR.sub _ _
 ·exact bR.mul _ _
theorem Re(x:Pt)(v:Nat){D R:List (List ai)}(d:Aw D)(e:Aw R)(p:1<=D.length)(q:D.length-1<R.length) :
  Rc x v (fO D R)=ev x (D.getD (D.length-1) [])*Rc x v R-ev x (R.getD (R.length-1) [])*x.get v^(R.length-1-(D.length-1))*Rc x v D:=by
 obtain⟨n,m⟩:∃n,D.length=n+1:=⟨D.length - 1,oM⟩;obtain⟨a,ha⟩:∃a,R.length=a+n+1:=⟨R.length - 1 - n,oM⟩;have e1:R.length - 1=a+n:=oM;have k:D.length - 1=n:=oM;have l:a+n - n=a:=oM;unfold Rc;rw[gY,e1,k,l]
 have o:iJ (λi=>ev x ((fO D R).getD i [])*x.get v^i) (a+n)=iJ (λi=>ev x (D.getD n [])*(ev x (R.getD i [])*x.get v^i)+(if a<=i then(λj=>(-(ev x (R.getD (a+n) [])*x.get v^a))*(ev x (D.getD j [])*x.get v^j)) (i-a)else 0)) (a+n):=by
  refine lT λi r=>?_;rw[Lg oM,e1,k,l];by_cases b:a<=i
  ·rw[if_pos b,if_pos b,ev_sub x (bR.mul _ _).nat (bR.mul _ _),ev_mul x (e.get _).nat (d.get _).nat,ev_mul x (e.get _).nat (d.get _).nat];have:x.get v^i=x.get v^a*x.get v^(i-a):=by rw[<-pM];congr 1;omega
   simp only;rw[this];grind
  ·rw[if_neg b,if_neg b,ev_mul x (e.get _).nat (d.get _).nat];grind
 have h:=CU a (λj=>(-(ev x (R.getD (a+n) [])*x.get v^a))*(ev x (D.getD j [])*x.get v^j)) n;rw[o,Bw,h,CR,CR,ha,m];simp only[iJ];rw[pM];grind
def Af (v:Nat) (D:List (List ai)):Nat->List (List ai)->List ai
 | 0,_=>[]
 | f+1,R=>if D.length-1<R.length then pO (aX (aX (R.getD (R.length-1) []) (qP (rG v) (R.length-1-(D.length-1)))) (qP (D.getD (D.length-1) []) (R.length-1-(D.length-1)))) (Af v D f (fO D R))else []
theorem Fj(v:Nat)(D:List (List ai)):∀f R,bR (Af v D f R)
 | 0,_=>bR.nil
 | f+1,R=>by unfold Af;split;exact bR.add _ _;exact bR.nil
theorem zo(D:List (List ai)):∀f R,Aw R->Aw (gm D f R)
 | 0,_,h=>h
 | f+1,R,h=>by unfold gm;split;exact zo D f _ (CV D R);exact h
theorem Ni(x:Pt)(v:Nat){D:List (List ai)}(d:Aw D)(e:1<=D.length):∀f R,Aw R->R.length<=D.length-1+f ->
  ev x (D.getD (D.length-1) [])^(R.length-(D.length-1))*Rc x v R-Rc x v (gm D f R)=ev x (Af v D f R)*Rc x v D
 | 0,R,_,h=>by have:R.length-(D.length-1)=0:=oM;simp only[gm,Af];rw[this,Rat.pow_zero,jh];grind
 | f+1,R,hR,h=>by
  unfold gm Af;by_cases b:D.length-1<R.length
  ·rw[if_pos b,if_pos b];have i:=Ni x v d e f (fO D R) (CV D R) (by rw[gY];omega);have j:=Re x v d hR e b;rw[gY]at i;have e1:R.length-(D.length-1)=(R.length-1-(D.length-1))+1:=oM;rw[ev_add x (bR.mul _ _).nat (Fj v D f _).nat,ev_mul x (bR.mul _ _).nat (bR.pow _ _).nat,ev_mul x (hR.get _).nat (bR.pow _ _).nat,ev_pow x (d.get _).nat,ev_pow x (bR.var v).nat,PW,e1,Rat.pow_succ];grind
  ·rw[if_neg b,if_neg b];have:R.length-(D.length-1)=0:=oM;rw[this,Rat.pow_zero,jh];grind
def Vw (f:Ex->Nat):List ai->Nat
 | []=>0
 | t::l=>f t.1+Vw f l
theorem ql(l:List ai):bI (canon l)<=bI l:=by
 have h:∀(l r:List ai),bI (l.foldl ins r)<=bI r+bI l:=λl=>by
  induction l with
  | nil=>intro r;simp only[List.foldl_nil,bI];grind
  | cons m l b=>intro r;have:=b (ins r m);have:=Bj r m;simp only[List.foldl_cons,bI];grind
 have:=h l [];simp only[bI]at this;unfold canon;grind
theorem Pf(l:List ai)(q:ai):prods l [q]=l.map λs=>mulT s q:=by
 induction l with
 | nil=>rfl
 | cons s l b=>rw[jV,b];rfl
theorem Rf(p:List ai)(c:Rat)(e:Ex):cf (bN p c) e=cf p e*c:=by
 unfold bN;split
 ·rename_i h;rw[jv,h];grind
 ·unfold cf;rw[yC _ _ (λb=>c*(if b=e then 1 else 0)) p (λt _=>gR),AC];grind
def VN (a ts:List ai) (q:ai):List ai:=a++ts.map λt=>(t.1.add q.1,-(t.2*q.2))
theorem VO{m g:ai}{a ts:List ai}(hm:m.1.nat=true)(hz:g.2≠0):gH (m::a) (aX (g::ts) [gI m g])=canon (VN a ts (gI m g)):=by
 unfold gH pO;refine zQ λe he=>?_;rw[oV,Rf,aX,nI,if_pos he,Pf,List.map_cons,bJ,bJ,VN,oV]
 have b:(mulT g (gI m g)).1=m.1:=by simp only[mulT,gI,Ex.add,Ex.sub];refine Ex.ext' ?_ ?_ ?_ ?_<;>simp only<;>omega
 have d:(mulT g (gI m g)).2=m.2:=by simp only[mulT,gI];rw[Rat.mul_comm];exact Rat.div_mul_cancel hz
 have h:cf (ts.map λt=>(t.1.add (gI m g).1,-(t.2*(gI m g).2))) e=- cf (ts.map λs=>mulT s (gI m g)) e:=by
  induction ts with
  | nil=>simp only[List.map_nil,jv];grind
  | cons t ts i=>rw[List.map_cons,List.map_cons,bJ,bJ,i];simp only[mulT];grind
 rw[b,d,h];grind
structure Y5 (h:Ex->Nat) (g:Ex) (ts:List ai):Prop where
 one:∀m:Ex,m.nat=true->(m.sub g).nat=true->1<=h m
 dec:∀m:Ex,m.nat=true->(m.sub g).nat=true->∀t∈ts,h (t.1.add (m.sub g))+1<=h m
def hf (h:Ex->Nat) (e:Ex):Nat:=2^(h e+1)-1
structure Jn (h:Ex->Nat) (H G:Nat) (e:Ex) (c:Rat):Prop where
 b:h e<=H
 x:e.1<=2+2*((H-h e:Nat):Int)/\e.2.1<=2+2*((H-h e:Nat):Int)/\e.2.2.1<=2+2*((H-h e:Nat):Int)/\e.2.2.2<=2+2*((H-h e:Nat):Int)
 d:Dv (G^(H-h e)) c
end Q
end
section
namespace Go.Proofs.YtopclbeomcggiaaGreat
open Go.RowKit Q
theorem wH(a n:Nat)(w:World)(ha:a<4294967296)(j:n<4611686018427387904):Calls Tryz.prog 122 #[.int .u64 a,.int .i64 n] w (rE w (.int .u64 (jC a n))):=by
 obtain⟨R,hR⟩:∃R,R=jC a n:=⟨_,rfl⟩;rw[<-hR];replace hR:=zH hR
 go_enter Tryz.func122,Tryz.ntmps122
 go_wp2
 go_loopw [0,1,5] (λx y o wr=>∃(a n out f:Nat),x=.int .u64 a/\y=.int .i64 n/\o=.int .u64 out/\a<4294967296/\n<4611686018427387904/\out<2147483647/\n<2^f/\Hid (R=yS f out a n)/\Below w.heap.size w wr) (λ_ y _ _=>(intOf y).toNat)
 case atStart=>exact⟨a,n,1,64,rfl,rfl,rfl,ha,j,oM,oM,zH hR.out,Below.refl _ _⟩
 case round =>
  clear hR ha j;obtain⟨a,n,out,f,rfl,rfl,rfl,ha,j,r,hf,hR,d⟩:=hrel;by_cases h0:n=0
  ·have i:Hid (R=out):=zH (by rw[hR.out,h0,EN]);have k:¬(0:Int)<(n:Int):=oM;clear h0;clear hR hf;go_wp2;go_ret;exact⟨by rw[i.out];rfl,d⟩
  ·obtain⟨f,rfl⟩:∃m,f=m+1:=⟨f - 1,by cases f with|zero=>omega|succ f=>omega⟩;have l:(0:Int)<(n:Int):=oM;have hm2:(n:Int).tmod 2=((n%2:Nat):Int):=by rw[Int.tmod_eq_emod_of_nonneg oM];omega
   have hd2:(n:Int).tdiv 2=((n/2:Nat):Int):=by rw[Int.tdiv_eq_ediv_of_nonneg oM];omega
   have hR2:=hR.out;rw[yS,if_neg h0]at hR2;have b:n/2<2^f:=by rw[Nat.pow_succ]at hf;omega
   replace b:=zH b;have p:a*a<=4294967295*4294967295:=Nat.mul_le_mul oM oM;have q:out*a<=2147483646*4294967295:=Nat.mul_le_mul oM oM;clear hR hf;rcases Nat.mod_two_eq_zero_or_one n with h2|h2
   ·rw[if_neg oM]at hR2;rw[h2]at hm2;replace hR2:=zH hR2;go_wp2;go_roundw
    case rel=>exact⟨a*a%2147483647,n/2,out,f,sM,sM,sM,oM,oM,oM,b.out,hR2,d⟩
    case measure=>simp[intOf];omega
   ·rw[if_pos h2]at hR2;rw[h2]at hm2;replace hR2:=zH hR2;go_wp2;go_roundw
    case rel=>exact⟨a*a%2147483647,n/2,out*a%2147483647,f,sM,sM,sM,oM,oM,oM,b.out,hR2,d⟩
    case measure=>simp[intOf];omega
theorem xV(n:Bool)(m:Value)(z:Int)(w:World)(h:aZ w n m z)(c:aF z.natAbs<=CS):Calls Tryz.prog 121 #[.agg #[.bool n,m]] w (rE w (.int .u64 (dY z))):=by
 have hn0:=h;obtain⟨l,J,cap,rfl,hc,b,u,L,hm,F,hp,e⟩:=h.openS c;have hl0:=aU L;have hZ1:n=false->z=ah l:=λp=>by rw[e,p];rfl
 have hZ2:n=true->z=- ah l:=λp=>by rw[e,p];rfl
 have hZ3:n=true->0<ah l:=λp=>F.pos L (hp p);replace hZ1:=zH hZ1;replace hZ2:=zH hZ2;replace hZ3:=zH hZ3;clear e c hp F hn0
 go_enter Tryz.func121,Tryz.ntmps121
 go_upto_region 1 with (fail)
 refine jb λW hb0 B G=>?_;have u1:=B.at1 1 _ rfl;have s:ah ([]:List Int)=0:=rfl;go_wp2;clear u1
 go_loopw [3,4] (λI C wr=>∃(M:Int)(k:Nat),I=.int .u64 M/\C=.int .i64 ((k:Int)-1)/\k<=l.length/\0<=M/\M<2147483647/\Hid (M=ah (l.drop k)%2147483647)/\Below W.heap.size W wr) (λ_ C _=>(intOf C+1).toNat)
 case atStart=>exact⟨0,l.length,rfl,rfl,nL _,oM,oM,zH (by rw[List.drop_of_length_le (nL _),s];rfl),Below.refl _ _⟩
 case round =>
  obtain⟨M,k,rfl,rfl,N,m0,m1,hM,d⟩:=hrel;have D:=B.on d;by_cases hk0:k=0
  ·subst hk0;rw[List.drop_zero]at hM;have u0:=D.at1 0 _ rfl
   cases n with
   | false =>
    have hz:=hZ1.out rfl;have hR:=Ad (z:=z) (M:=M) (by rw[hz];exact hl0) (by rw[hz];exact hM.out);replace hz:=zH hz;replace hR:=zH hR;clear hM;go_wp2;go_ret;exact⟨by first|rfl|(rw[hR.out];rfl)|rw[hR.out],hb0.trans (d.mono hb0.size)⟩
   | true =>
    obtain⟨r1,r2⟩:=CJ (hZ3.out rfl) (hZ2.out rfl) hM.out;by_cases i:0<M
    ·have hR:=zH (r1 i);clear hM r1 r2;go_wp2;go_ret;exact⟨by first|rfl|(rw[hR.out];rfl)|rw[hR.out],hb0.trans (d.mono hb0.size)⟩
    ·have hR:=zH (r2 i);clear hM r1 r2;go_wp2;go_ret;exact⟨by first|rfl|(rw[hR.out];rfl)|rw[hR.out],hb0.trans (d.mono hb0.size)⟩
  ·obtain⟨j,rfl⟩:∃j,k=j+1:=⟨k - 1,oM⟩;obtain⟨p1,o1,rfl,r⟩:=hm (by rw[dG];omega);have o:=((r.on (hb0.trans (d.mono hb0.size)))).ucell j oM;have hd:=L.getD j;rw[aP]at hd
   have bY:ah (l.drop j)=l.getD j 0+bv*ah (l.drop (j+1)):=by
    rw[List.drop_eq_getElem_cons (oM:j<l.length)];rw[jD,gE (oM:j<l.length)]
    rfl
   obtain⟨x,y⟩:∃x,x=l.getD j 0:=⟨_,rfl⟩;rw[<-y]at o hd bY;have q:Hid ((M*4294967296+x)%2147483647=ah (l.drop j)%2147483647):=zH (by rw[hM.out,bY,aP];omega);have u1:=D.at1 1 _ rfl;have hj1:((j:Int)+1 - 1)=(j:Int):=oM;replace y:=zH y;replace bY:=zH bY;clear hM
   go_wp2_with (refine aj rfl (.tmp 16) (.tmp 17) _ rfl _ Tryz.underlying37 _ _ _ bD _ _ _ rfl _ _ rfl j oM oM p1 o1 rfl ?_;rw[nU])
   go_roundw
   case rel=>exact⟨(M*4294967296+x)%2147483647,j,nM,nM,oM,oM,oM,q,d⟩
   case measure=>simp[intOf]
end Go.Proofs.YtopclbeomcggiaaGreat
end
section
namespace Go.Proofs.YtopclbeomcggiaaGreat
open Go.RowKit Q Go.WideMaps Go.Maps
theorem Ji(v1 v2:Value)(p q:Rat)(w:World)(h1:bM w v1 p)(h2:bM w v2 q)(k1:Rs p)(k2:Rs q)(hz:q≠0) :
  Calls Tryz.prog 71 #[v1,v2] w (AQ w (p/q) 0):=by
 rw[<-Ci];obtain⟨s1,a1,l1,c1,s2,a2,l2,c2,rfl,i1,i2⟩:=h1;obtain⟨s3,a3,l3,c3,s4,a4,l4,c4,rfl,i3,i4⟩:=h2
 have dz:(p.den:Int)*q.num≠0:=by
  intro h;rcases Int.mul_eq_zero.1 h with h|h
  ·have:=p.den_nz;omega
  ·exact hz (Rat.num_eq_zero.1 h)
 have k:aF ((p.den:Int)*q.num).natAbs<=CT:=by have h1:=gB p.den q.num.natAbs;have h2:=k1.1;have h3:=k2.2;rw[Int.natAbs_mul,Int.natAbs_natCast];have q2:=mM;omega
 have sb:aF (p.num*(q.den:Int)).natAbs<=CT:=by have h1:=gB p.num.natAbs q.den;have h2:=k1.2;have h3:=k2.1;rw[Int.natAbs_mul,Int.natAbs_natCast];have q2:=mM;omega
 go_enter Tryz.func71,Tryz.ntmps71
 go_upto_region 1 with (fail)
 refine rQ λW hb0 B1 B2 B3 m=>?_;replace i1:=i1.on hb0;replace i2:=i2.on hb0;replace i3:=i3.on hb0;replace i4:=i4.on hb0;refine aC mixed (none) (0) (fK.none) [.eq (.pointer (some ⟨w.heap.size,0,none⟩)),.eq (.agg #[.bool s1,.slice a1 l1 c1]),.eq (.pointer (some ⟨w.heap.size+1,2,none⟩)),.eq (.agg #[.bool s4,.slice a4 l4 c4]),.int dM ((p.num*(q.den:Int))),.eq (.pointer (some ⟨w.heap.size,2,none⟩)),.eq (.agg #[.bool s2,.slice a2 l2 c2]),.eq (.pointer (some ⟨w.heap.size+1,0,none⟩)),.eq (.agg #[.bool s3,.slice a3 l3 c3]),.int dM (((p.den:Int)*q.num)),.ratE dM (Rat.divInt (p.num*(q.den:Int)) ((p.den:Int)*q.num)) 0,.rat dM (Rat.divInt (p.num*(q.den:Int)) ((p.den:Int)*q.num)),.eq (.int .i64 0)] [6,7,8,9,10,11,12,13,14,15,16,17,18] rfl rfl rfl rfl ⟨λA _ hA _ _ _=>have h2:A.eval (.tmp 2)=.pointer (some ⟨w.heap.size,0,none⟩):=hA 2 rfl;pZ rfl,λA _ _ hL _ he=>have hb:=hL.below;have h6:=eT 6 (he.1 rfl);have c0:=((B1).on hb).at1 0 _ rfl;have c1:=((B1).on hb).at1 1 _ rfl;pZ rfl,λA _ hA _ _ _=>have h3:A.eval (.tmp 3)=.pointer (some ⟨w.heap.size+1,0,none⟩):=hA 3 rfl;pZ rfl,λA _ _ hL _ he=>have hb:=hL.below;have h8:=eT 8 (he.1 rfl);have c0:=((B2).on hb).at1 2 _ rfl;have c1:=((B2).on hb).at1 3 _ rfl;pZ rfl,λA _ _ _ hS he=>have hb:=hS rfl;have h7:=eT 7 (he.1 rfl);have h9:=eT 9 (he.2.1 rfl);have hf0:=eF A 105;cP (f:=105) (args:=#[.agg #[.bool s1,.slice a1 l1 c1],.agg #[.bool s4,.slice a4 l4 c4]]) (lL _ _ _ _ _ _ _ (i1.on hb) (i4.on hb) (Kj k1.num) (Kj k2.den)),λA _ hA _ _ _=>have h2:A.eval (.tmp 2)=.pointer (some ⟨w.heap.size,0,none⟩):=hA 2 rfl;pZ rfl,λA _ _ hL _ he=>have hb:=hL.below;have h11:=eT 11 (he.1 rfl);have c0:=((B1).on hb).at1 2 _ rfl;have c1:=((B1).on hb).at1 3 _ rfl;pZ rfl,λA _ hA _ _ _=>have h3:A.eval (.tmp 3)=.pointer (some ⟨w.heap.size+1,0,none⟩):=hA 3 rfl;pZ rfl,λA _ _ hL _ he=>have hb:=hL.below;have h13:=eT 13 (he.1 rfl);have c0:=((B2).on hb).at1 0 _ rfl;have c1:=((B2).on hb).at1 1 _ rfl;pZ rfl,λA _ _ _ hS he=>have hb:=hS rfl;have h12:=eT 12 (he.1 rfl);have h14:=eT 14 (he.2.1 rfl);have hf0:=eF A 105;cP (f:=105) (args:=#[.agg #[.bool s2,.slice a2 l2 c2],.agg #[.bool s3,.slice a3 l3 c3]]) (lL _ _ _ _ _ _ _ (i2.on hb) (i3.on hb) (Kj k1.den) (Kj k2.num)),?_,?_,?_,trivial⟩ ?_
 ·intro A w1 hA hL hS he;have hb:=hS rfl;obtain⟨v10,h10,f10⟩:=fT 10 (he.1 rfl);obtain⟨v15,h15,f15⟩:=fT 15 (he.2.1 rfl);have hf0:=eF A 104;refine ae rfl ?_;refine dI (f:=104) (args:=#[v10,v15]) rfl rfl ?_ ?_
  ·exact gZ
  ·obtain⟨n10,m10,rfl,i10⟩:=f10;obtain⟨n15,m15,rfl,i15⟩:=f15;refine(M9 _ _ _ _ _ _ _ i10 i15 sb k dz).mono ?_;rintro e w' ⟨x,rfl,l,b⟩;exact⟨_,rfl,b,x,rfl,l⟩
 ·intro A w1 hA hL hS he;obtain⟨v16,h16,f16⟩:=fT 16 (he.1 rfl);refine ae rfl ?_;obtain⟨x,rfl,j⟩:=f16;refine iM (c:=x) rfl rfl (Below.refl _ _) j ?_;exact gZ
 ·intro A w1 hA hL hS he;obtain⟨v16,h16,f16⟩:=fT 16 (he.1 rfl);refine ae rfl ?_;obtain⟨x,rfl,j⟩:=f16;exact aB rfl rfl gZ
 ·intro w4 hL4;have hb4:=hL4.below;simp only[aT,af.eq,af.int,af.rat,af.ratE,af.of,lZ];rintro _ - _ - _ - v17 h17;obtain⟨t1,b1,g1,d1,t2,b2,g2,d2,rfl,u1,u2⟩:=h17;go_frame;have E3:=B3.on hb4;have d:=hb0.trans (hb4.mono hb0.size)
  go_wp2_with (refine az rfl _ (.tmp 4) (.tmp 17) rfl _ _ _ _ rfl rfl E3 rfl dA dJ ?_;intro w5 R i)
  exact bodyPost_ret (nG rfl _ _ _ Tryz.underlying41 rfl rfl R dA) rfl ⟨_,rfl,bM.stored ⟨t1,b1,g1,d1,t2,b2,g2,d2,rfl,u1,u2⟩ i E3 dM,d.trans ((aH i (Nat.le_of_lt E3.lt) (nL _)).mono oM)⟩
end Go.Proofs.YtopclbeomcggiaaGreat
end
