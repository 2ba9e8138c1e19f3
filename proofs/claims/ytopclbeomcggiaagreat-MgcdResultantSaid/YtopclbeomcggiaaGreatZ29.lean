/- mpoly.Subst: the range over slices.Backward. -/
import Derived.Test.YtopclbeomcggiaaGreatZ28
import Derived.LoopIn
import Derived.LoopNIn
import Derived.OwnWalkIn
import Derived.RangeFuncBound
import Derived.RangeFuncNested
import Derived.Shelf.RegionOpen
set_option linter.unusedVariables false
set_option linter.unusedSimpArgs false
set_option maxHeartbeats 16000000
set_option maxRecDepth 100000
section
namespace Q
open Go Go.RowKit Go.Proofs.YtopclbeomcggiaaGreat
def Ye (w w':World) (row:Option Nat):Prop:=w.grownBy w' row/\∀r,row=some r->∃o:Obj,w.heap[r]?=some o/\o.isCells=false
end Q
namespace Go.Proofs.YtopclbeomcggiaaGreat
open Go.RowKit Go.Shelf Q
attribute [local go_sem] Oper.semAt_some
def Kb (Bs g:Nat) (W W':World):Prop:=W'.heap[Bs]?=W.heap[Bs]?/\W'.heap[g]?=W.heap[g]?
theorem Kb.refl(Bs g:Nat)(W:World):Kb Bs g W W:=⟨rfl,rfl⟩
theorem Kb.trans{Bs g:Nat}{A B C:World}(h:Kb Bs g A B)(b:Kb Bs g B C):Kb Bs g A C:=⟨b.1.trans h.1,b.2.trans h.2⟩
theorem Af{W b:World}{a:Addr}(h:b.heap[a.block]?=W.heap[a.block]?):b.cell? a=W.cell? a:=by unfold World.cell?;rw[h]
theorem Kb.putObj{Bs g:Nat}{w:World}(d:Bs<w.heap.size)(hg:g<w.heap.size)(W:World)(l:Nat)(o b:Obj)(e:w.heap.size<=l)(_:W.heap[l]?=some o)(_:o.isCells=false)(_:o.isWalk=false):Kb Bs g W (W.putObj l b) :=
 ⟨World.putObj_heap_other oM,World.putObj_heap_other oM⟩
def yN {α:Type} (f:Nat->α) (k:Nat):List α:=(List.range k).map f
theorem Gt{α:Type}(f:Nat->α)(k:Nat):yN f (k+1)=yN f k++[f k]:=by simp[yN,List.range_succ]
theorem KN{α:Type}(f:Nat->α)(k:Nat):(yN f k).length=k:=by simp[yN]
structure zat (sb sc:Sz) (sz:Nat->Sz) (N:Nat):Prop where
 b:sb.ok
 c:sc.ok
 z:∀k,k<=N->(sz k).ok
 m:∀k,k<N->((sz k).mul sb).ok
 s:∀k,k<N->(((sz k).mul sb).add sc).le (sz (k+1))
def zaQ (b:List ai) (out c:List ai):List ai:=mP (aO out b) c
end Go.Proofs.YtopclbeomcggiaaGreat
end
section
namespace Go.Proofs.YtopclbeomcggiaaGreat
open Go.RowKit Go.Shelf Q
end Go.Proofs.YtopclbeomcggiaaGreat
namespace Q
open Go Go.RowKit Q Go.Proofs.YtopclbeomcggiaaGreat
theorem Ye.blk{w w':World}{row:Option Nat}(h:Ye w w' row){g:Nat}{T:TypeId}{cs:List Value}(hc:Blk w g T cs):Blk w' g T cs:=by
 have i:=hc.lt;unfold Blk at *;rw[h.1.block g i (λe=>?_)]
 ·exact hc
 ·obtain⟨o,b,d⟩:=h.2 g e.symm;rw[hc]at b;cases b;cases d
end Q
namespace Go.Proofs.YtopclbeomcggiaaGreat
open Go.RowKit Go.Shelf Q
attribute [local go_sem] Oper.semAt_some
end Go.Proofs.YtopclbeomcggiaaGreat
end
section
namespace Go.Proofs.YtopclbeomcggiaaGreat
open Go.RowKit Go.Shelf Q
attribute [local go_sem] Oper.semAt_some
abbrev FI:TypeId:=97
theorem FJ(F:Fence)(n:Nat)(b:F.fn 156)(d:F.round=none)(h:Option Addr)(N cap:Nat)(w:World) :
  CallsIn F n Tryz.prog 156 #[.slice h N cap] w (λe i=>e=.returned (.func (.func 170) #[] #[.pointer (some ⟨w.heap.size,0,none⟩)])/\i=w.alloc (.cells #[.slice h N cap] 37)):=by
 refine callsIn_of_wp Tryz.func156 rfl b ?_ d;simp only[Tryz.ntmps156,List.size_toArray,List.length_cons,List.length_nil,Nat.reduceAdd,Nat.reduceSub,Array.replicate_succ,Array.replicate_zero,List.push_toArray,List.append_toArray,List.nil_append,List.cons_append]
 gi_wp2
 refine bodyPost_ret (results_tmp rfl _ _ _) rfl ?_;exact⟨rfl,rfl⟩
theorem FK{α:Type}(M:α->Int)(vl:α->Value)(q:Nat->α)(F:Fence)(n:Nat)(h106:F.fn 170)(C:F.round=none)(Z:1<=n)(l Bs g o N cap:Nat)(G:Option Addr)(y:∀k,k<N->G=some ⟨g,o,none⟩)(hN:N<=34359738368)
  (hX1:∀k,k<N->M (q k)=(N:Int)-1-k) (J D:List α->World->Prop)
  (hY:∀pre x W,J pre W->pre.length<N->YieldAt F (n-1) Tryz.prog l #[.int .i64 (M x),vl x] W λe p =>
   (e=.returned (.bool true)/\J (pre++[x]) p/\Kb Bs g W p)\/(e=.returned (.bool false)/\D (pre++[x]) p))
  (W:World) (u:W.cell? ⟨Bs,0,none⟩=some (.slice G N cap)) (hc:∀k,k<N->W.cell? ⟨g,o+(N-1-k),none⟩=some (vl (q k))) (h0:J [] W) :
  CallsIn F n Tryz.prog 170 #[.func (.yield l) #[] #[],.pointer (some ⟨Bs,0,none⟩)] W λe p=>(∃v,e=.returned v) /\
   ((∃S,S=yN q N/\J S p)\/(∃pre,(∃k,k<=N/\pre=yN q k)/\D pre p)):=by
 refine callsIn_of_wp Tryz.func170 rfl h106 ?_ C;simp only[Tryz.ntmps170,List.size_toArray,List.length_cons,List.length_nil,Nat.reduceAdd,Nat.reduceSub,Array.replicate_succ,Array.replicate_zero,List.push_toArray,List.append_toArray,List.nil_append,List.cons_append]
 gi_wp2
 gi_loopw [3] (λi wr=>∃k:Nat,k<=N/\i=.int .i64 ((N:Int)-1-k)/\J (yN q k) wr/\Kb Bs g W wr) (λi _=>(intOf i+1).toNat)
 case atStart=>exact⟨0,Nat.zero_le _,sM,h0,Kb.refl _ _ _⟩
 case round =>
  obtain⟨k,Y,rfl,r,j⟩:=hrel;have z:=(Af (a:=⟨Bs,0,none⟩) j.1).trans u;by_cases b:k<N
  ·have B:=(Af (a:=⟨g,o+(N - 1 - k),none⟩) j.2).trans (hc k b);obtain⟨fn,tmps,assign,body,L,hR⟩:=hY _ (q k) wr r (by rw[KN];exact b);rw[hX1 k b]at L;have hao2:=y k b;rw[hao2]at z;obtain⟨m,hm⟩:∃m:Nat,m=N - 1 - k:=⟨_,rfl⟩;have s:(N:Int) - 1 - k=(m:Int):=oM;rw[<-hm]at B;rw[s]at L ⊢;have X:(m:Int)<N:=oM;have I:m<N:=oM;have hm0:(0:Int)<=m:=oM;have d:(m:Int) - 1=(N:Int) - 1 - (k+1:Nat):=oM;have d:=zH d;clear hm s hao2
   gi_wp2
   refine hR.mono ?_;rintro e W3 (⟨rfl,hJ3,hk3⟩|⟨rfl,hJx3⟩)
   ·gi_wp2
    go_roundw
    case rel=>exact⟨k+1,oM,by have h:=d.out;simp only[Value.int.injEq,true_and];omega,by rw[Gt];exact hJ3,j.trans hk3⟩
    case measure=>have h:=d.out;simp[intOf];omega
   ·gi_wp2
    refine bodyPost_ret (results_none rfl _ _ _) rfl ?_;exact⟨⟨_,rfl⟩,.inr ⟨_,⟨k+1,oM,(Gt _ _).symm⟩,hJx3⟩⟩
  ·obtain rfl:k=N:=oM
   gi_wp2
   go_end0
   exact⟨⟨_,rfl⟩,.inl ⟨_,rfl,r⟩⟩
theorem BO{α:Type}(s:α->Int)(vl:α->Value)(b:Nat->α)(F:Fence)(n:Nat)(d:F.fn 170)(r:F.round=none)(E:1<=n)(Bs g o N cap:Nat)(e:Option Addr)(m:∀k,k<N->e=some ⟨g,o,none⟩)(B:N<=34359738368)
  (j:∀k,k<N->s (b k)=(N:Int)-1-k) (w:World) (h:Bs<w.heap.size) (q:g<w.heap.size) (i:w.cell? ⟨Bs,0,none⟩=some (.slice e N cap)) (hc:∀k,k<N->w.cell? ⟨g,o+(N-1-k),none⟩=some (vl (b k))) :
  SeqStopsK F n Tryz.prog 170 #[.pointer (some ⟨Bs,0,none⟩)] (λx:α=>#[.int .i64 (s x),vl x]) (Kb Bs g) (λG=>G=yN b N) (λpre=>∃k,k<=N/\pre=yN b k) N w:=λl J y W u _ _ C z =>
 FK s vl b F n d r E l Bs g o N cap e m B j J y C W ((u.cell (p:=⟨Bs,0,none⟩) h).trans i) (λk D=>(u.cell (p:=⟨g,o+(N-1-k),none⟩) q).trans (hc k D)) z
def resS (m d:Int):Int:=(m*4294967296+d)%2147483647
theorem Gu:∀l:List Int,l.reverse.foldl resS 0=ah l%2147483647
 | []=>rfl
 | d::l=>by rw[List.reverse_cons,List.foldl_append,Gu l];show(ah l%2147483647*4294967296+d)%2147483647=(d+bJ*ah l)%2147483647;rw[aV];omega
theorem Wh{m d:Int}:0<=resS m d/\resS m d<2147483647:=⟨Int.emod_nonneg _ dM,Int.emod_lt_of_pos _ dM⟩
theorem Wi(l:List Int):0<=l.foldl resS 0/\l.foldl resS 0<2147483647:=by
 by_cases h:l=[]
 ·subst h;simp
 ·rw[<-List.dropLast_concat_getLast h,List.foldl_append];exact Wh
end Go.Proofs.YtopclbeomcggiaaGreat
namespace Q
def gG (z:Int):Nat:=if z<0/\0<z.natAbs%2147483647 then 2147483647-z.natAbs%2147483647 else z.natAbs%2147483647
theorem vE(z:Int):gG z<2147483647:=by unfold gG;split<;>omega
end Q
namespace Go.Proofs.YtopclbeomcggiaaGreat
open Go.RowKit Go.Shelf Q
attribute [local go_sem] Oper.semAt_some
theorem KO{z M:Int}(b:0<=z)(d:M=z%2147483647):M=(gG z:Int):=by unfold gG;rw[if_neg oM];omega
theorem Nj{z l M:Int}(b:0<l)(hz:z=-l)(d:M=l%2147483647):(0<M->2147483647-M=(gG z:Int))/\(¬0<M->M=(gG z:Int)):=by unfold gG;split<;>omega
theorem Bf(n:Bool)(m:Value)(z:Int)(w:World)(h:bC w n m z)(c:aJ z.natAbs<=jH):Calls Tryz.prog 136 #[.agg #[.bool n,m]] w (oP w (.int .u64 (gG z))):=by
 obtain⟨l,r,cap,rfl,u,b,nn,e⟩:=fZ h c
 have O:n=true->0<ah l:=λhn=>by subst hn;have:=mV h;rw[e]at this;simp only[gK,if_true]at this;omega
 obtain⟨_,_,e',_,L,mm⟩:=u;cases e';have G:Below w.heap.size w ((w.alloc (.cells #[.bool n,.slice r l.length cap] 39)).alloc (.cells #[.int .u64 0] 97)):=nH _ _ _;have aw:=aW L;obtain⟨dg,a4⟩:∃dg:Nat->Int,dg=λi=>l.getD i 0:=⟨_,rfl⟩;have Z:∀i,l.getD i 0=dg i:=λi=>by rw[a4]
 have N:(yN (λk=>l.length-1-k) l.length).map dg=l.reverse:=by rw[a4];refine List.ext_getElem (by simp[yN]) λi h1 h2=>?_;simp[yN]at h1;simp[yN,List.getElem_reverse];rw[gE oM];rfl
 have a1:n=false->z=ah l:=λhn=>by rw[e,hn];rfl
 have a2:n=true->z=- ah l:=λhn=>by rw[e,hn];rfl
 replace N:=zH N;replace Z:=zH Z;replace a1:=zH a1;replace a2:=zH a2;replace O:=zH O;clear h c nn e a4;refine(callsIn_wide (n:=6)).1 ?_;refine callsIn_of_wp_marks Tryz.func136 rfl trivial ?_ rfl;simp only[Tryz.ntmps136,List.size_toArray,List.length_cons,List.length_nil,Nat.reduceAdd,Nat.reduceSub,Array.replicate_succ,Array.replicate_zero,List.push_toArray,List.append_toArray,List.nil_append,List.cons_append];have ac:((w.alloc (.cells #[.bool n,.slice r l.length cap] 39)).alloc (.cells #[.int .u64 0] 97)).cell? ⟨w.heap.size,1,none⟩=some (.slice r l.length cap):=((Blk.new w 39 [.bool n,.slice r l.length cap]).alloc _).at1 1 _ rfl
 gi_wp2_with (refine⟨trivial,?_⟩;gi_at_call 156;refine(FJ Fence.wide _ trivial rfl _ _ _ _).mono ?_;rintro e w2 ⟨rfl,rfl⟩)
 obtain⟨F,E⟩:∃F,F=(w.alloc (.cells #[.bool n,.slice r l.length cap] 39)).alloc (.cells #[.int .u64 0] 97):=⟨_,rfl⟩;have a0:F.heap.size=w.heap.size+1+1:=by rw[E];simp
 have J:F.cell? ⟨w.heap.size,0,none⟩=some (.bool n):=by rw[E];exact((Blk.new w 39 [.bool n,.slice r l.length cap]).alloc _).at1 0 _ rfl
 have an:Blk F (w.heap.size+1) 97 [.int .u64 0]:=by rw[E];have:=Blk.new (w.alloc (.cells #[.bool n,.slice r l.length cap] 39)) 97 [.int .u64 0];simpa using this
 change Below w.heap.size w ((w.alloc (.cells #[.bool n,.slice r l.length cap] 39)).alloc (.cells #[.int .u64 0] 97))at G;rw[<-E]at G;have H:Below F.heap.size F (F.alloc (.cells #[.slice r l.length cap] 37)):=(Below.refl _ _).alloc (nL _) _;have aa:(F.alloc (.cells #[.slice r l.length cap] 37)).cell? ⟨(w.heap.size+1+1),0,none⟩=some (.slice r l.length cap):=by rw[<-a0];exact(Blk.new F 37 [.slice r l.length cap]).at1 0 _ rfl
 clear ac;rw[<-E];obtain⟨S,Y⟩:∃S,S=F.alloc (.cells #[.slice r l.length cap] 37):=⟨_,rfl⟩;have ay:S.heap.size=(w.heap.size+1+1)+1:=by rw[Y,<-a0];simp
 rw[<-Y]at H aa;have y:=G.trans (H.mono G.size);have a3:S.cell? ⟨w.heap.size,0,none⟩=some (.bool n):=by rw[H.cell (p:=⟨w.heap.size,0,none⟩) (by simp only;omega)];exact J
 have al:=an.on H
 obtain⟨g,o,ag,ar,av⟩:∃g o,g<w.heap.size+1/\(∀k,k<l.length->r=some ⟨g,o,none⟩)/\∀k,k<l.length->S.cell? ⟨g,o+k,none⟩=some (.int .u32 (dg k)):=by
  by_cases hp:0<l.length
  ·obtain⟨g,o,rfl,hc⟩:=mm (by rw[dU];exact hp);exact⟨g,o,by have:=hc.lt;omega,λ_ _=>rfl,λk hk=>Z.out k▸(hc.on y).ucell k hk⟩
  ·exact⟨w.heap.size,0,oM,λk hk=>oM,λk hk=>oM⟩
 have ad:g<S.heap.size:=oM;have ag:g≠w.heap.size+1:=oM;rw[<-Y];have a9:(w.heap.size+1+1)<S.heap.size:=oM;have au:(w.heap.size+1+1)≠w.heap.size+1:=oM;have b3:w.heap.size+1<S.heap.size:=oM;clear Y H J an G E mm
 refine wpIn_rangeFunc_ownF (α:=Nat) rfl oM (gf:=170) (lb:=#[.pointer (some ⟨(w.heap.size+1+1),0,none⟩)]) rfl trivial (enters_of Tryz.func170 kM rfl)
  (BO (α:=Nat) (λi=>(i:Int)) (λi=>.int .u32 (dg i)) (λk=>l.length-1-k) Fence.wide _ trivial rfl oM (w.heap.size+1+1) g o l.length cap r ar b (λk hk=>oM) S a9 ad aa (λk hk=>av _ oM))
  (λh k=>h.trans k) (Kb.putObj a9 ad) (Below.refl _ _) (λ_=>rfl)
  (λpre W=>(Blk W (w.heap.size+1) 97 [.int .u64 ((pre.map dg).foldl resS 0)]/\W.cell? ⟨w.heap.size,0,none⟩=some (.bool n)/\S.heap.size<=W.heap.size)/\Below w.heap.size w W)
  (λ_ _ _=>False)
  (OwnFrom.and (Own.from (λs A B row hs hg hr=>by
   obtain⟨h1,h4,h7⟩:=hs;have hk:Ye A B row:=⟨hg,hr⟩
   exact⟨hk.blk h1,cell_kept h4 hg hr,Nat.le_trans h7 hg.size⟩) _) (ownFrom_below (nL _) oM))
  (λ_ _ _ _ _ hs _ _=>hs)
  ⟨⟨al,a3,nL _⟩,y⟩
  (λx=>{ tmps:=#[.agg #[.bool n,.slice r l.length cap],.pointer (some ⟨w.heap.size,0,none⟩),.int .u64 0,.pointer (some ⟨w.heap.size+1,0,none⟩),undef,.int .u32 (dg x),.pointer (some ⟨w.heap.size,1,none⟩),.slice r l.length cap,.func (.func 170) #[] #[.pointer (some ⟨(w.heap.size+1+1),0,none⟩)],.int .i64 x,.int .u32 (dg x),undef,undef,undef,undef,undef,undef,undef,undef,undef,undef,undef,undef,undef,undef,undef],defers:=[] }) ?assign ?body ?done ?stop
 case assign =>
  intro l x W K hK
  gi_wp2
  exact hK
 case body =>
  rintro ll pre x W ⟨⟨X,J,ax⟩,I⟩ hlen;have a5:=Wi (pre.map dg);have R:=(L.getD x);rw[aV,Z.out]at R;have C:((pre++[x]).map dg).foldl resS 0=resS ((pre.map dg).foldl resS 0) (dg x):=by rw[List.map_append,List.foldl_append];rfl
  generalize(pre.map dg).foldl resS 0=M at *;generalize dg x=d at *;have ho:=X.at1 0 _ rfl;have hf:=X.frozen 0;have b2:=Ce M d a5.1 oM R.1 R.2;have a7:=a5.1;have a8:=a5.2;have aE:=R.1;have b0:=R.2;have ap:Hid (resS M d=(M*4294967296+d)%2147483647):=zH rfl;replace C:=zH C
  gi_wp2
  have Bn:=X.set 0 (.int .u64 ((M*4294967296+d)%2147483647));refine⟨KeepsOthers.setCell _ _ _,⟨Below.heap_setCell _ _ _ _ au,Below.heap_setCell _ _ _ _ ag⟩,⟨?_,?_,by rw[World.size_setCell];omega⟩,?_⟩
  ·rw[C.out,ap.out];exact Bn
  ·rw[<-J];exact Af (Below.heap_setCell _ _ _ _ sM)
  ·exact I.trans (bU oM _)
 case done =>
  rintro D ys W hD rfl ⟨⟨X,J,ax⟩,I⟩ hK;rw[N.out,Gu]at X;have ho:=X.at1 0 _ rfl;have hf:=X.frozen 0;have a7:0<=ah l%2147483647:=Int.emod_nonneg _ dM;have a8:ah l%2147483647<2147483647:=Int.emod_lt_of_pos _ dM;have az:Hid (ah l%2147483647=ah l%2147483647):=zH rfl;have aq:D≠w.heap.size+1:=oM;cases n
  ·have q:=KO aw rfl;rw[<-a1.out rfl]at q X ho a7 a8;rw[q]at X ho;replace q:=zH q
   gi_wp2
   refine⟨sM,.inl ⟨_,_,rfl,run_takeDeferred hK,?_⟩⟩;refine⟨_,results_tmp rfl _ _ _,rfl,?_⟩;exact I.trans (belowK_b (w:=w) (nL _) _ D _ _ (by have:=y.size;omega) hK rfl rfl)
  ·have q:=Nj (M:=ah l%2147483647) (O.out rfl) (a2.out rfl) rfl;generalize ah l%2147483647=M at *;by_cases hp:0<M
   ·have q:=zH (q.1 hp)
    gi_wp2
    have a6:=(Below.heap_setCell W ⟨w.heap.size+1,0,none⟩ (.int .u64 (gG z)) D aq).trans hK;have ab:=I.trans (bU (W:=W) (g:=w.heap.size+1) (j:=0) (Nat.le_succ _) (.int .u64 (gG z)));refine⟨sM,.inl ⟨_,_,rfl,run_takeDeferred a6,?_⟩⟩;refine⟨_,results_tmp rfl _ _ _,rfl,?_⟩;exact ab.trans (belowK_b (w:=w) (nL _) _ D _ _ (by have:=y.size;omega) a6 rfl rfl)
   ·have q:=q.2 hp
    gi_wp2
    refine⟨sM,.inl ⟨_,_,rfl,run_takeDeferred hK,?_⟩⟩;refine⟨_,results_tmp rfl _ _ _,rfl,?_⟩;exact I.trans (belowK_b (w:=w) (nL _) _ D _ _ (by have:=y.size;omega) hK rfl rfl)
 case stop =>
  rintro D c pre W _ _ h _;exact h.elim
end Go.Proofs.YtopclbeomcggiaaGreat
end
