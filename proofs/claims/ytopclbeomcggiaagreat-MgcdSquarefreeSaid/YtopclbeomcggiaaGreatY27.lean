/- mpoly.Subst: the range over slices.Backward. -/
import Derived.Test.YtopclbeomcggiaaGreatY17
import Derived.Test.YtopclbeomcggiaaGreatY26
import Derived.LoopIn
import Derived.LoopNIn
import Derived.OwnWalkIn
import Derived.RangeFuncBound
import Derived.RangeFuncNested
import Derived.Shelf.RegionOpen
set_option linter.unusedVariables false
set_option linter.unusedSimpArgs false
set_option maxHeartbeats 16000000
set_option maxRecDepth 100000
section
namespace Q
open Go Go.RowKit Go.Proofs.YtopclbeomcggiaaGreat
def WG (w w':World) (row:Option Nat):Prop:=w.grownBy w' row/\∀r,row=some r->∃o:Obj,w.heap[r]?=some o/\o.isCells=false
end Q
namespace Go.Proofs.YtopclbeomcggiaaGreat
open Go.RowKit Go.Shelf Q
attribute [local go_sem] Oper.semAt_some
def Kb (Bs g:Nat) (W W':World):Prop:=W'.heap[Bs]?=W.heap[Bs]?/\W'.heap[g]?=W.heap[g]?
theorem Kb.refl(Bs g:Nat)(W:World):Kb Bs g W W:=⟨rfl,rfl⟩
theorem Kb.trans{Bs g:Nat}{A B C:World}(h:Kb Bs g A B)(b:Kb Bs g B C):Kb Bs g A C:=⟨b.1.trans h.1,b.2.trans h.2⟩
theorem zO{W b:World}{a:Addr}(h:b.heap[a.block]?=W.heap[a.block]?):b.cell? a=W.cell? a:=by unfold World.cell?;rw[h]
theorem Kb.putObj{Bs g:Nat}{w:World}(d:Bs<w.heap.size)(hg:g<w.heap.size)(W:World)(l:Nat)(o b:Obj)(e:w.heap.size<=l)(_:W.heap[l]?=some o)(_:o.isCells=false)(_:o.isWalk=false):Kb Bs g W (W.putObj l b) :=
 ⟨World.putObj_heap_other oM,World.putObj_heap_other oM⟩
def yE {α:Type} (f:Nat->α) (k:Nat):List α:=(List.range k).map f
theorem FU{α:Type}(f:Nat->α)(k:Nat):yE f (k+1)=yE f k++[f k]:=by simp[yE,List.range_succ]
theorem JW{α:Type}(f:Nat->α)(k:Nat):(yE f k).length=k:=by simp[yE]
structure Zn (sb sc:Sz) (sz:Nat->Sz) (N:Nat):Prop where
 b:sb.ok
 c:sc.ok
 z:∀k,k<=N->(sz k).ok
 m:∀k,k<N->((sz k).mul sb).ok
 s:∀k,k<N->(((sz k).mul sb).add sc).le (sz (k+1))
def ZP (b:List aj) (out c:List aj):List aj:=oH (aZ out b) c
end Go.Proofs.YtopclbeomcggiaaGreat
end
section
namespace Go.Proofs.YtopclbeomcggiaaGreat
open Go.RowKit Go.Shelf Q
end Go.Proofs.YtopclbeomcggiaaGreat
namespace Q
open Go Go.RowKit Q Go.Proofs.YtopclbeomcggiaaGreat
theorem WG.blk{w w':World}{row:Option Nat}(h:WG w w' row){g:Nat}{T:TypeId}{cs:List Value}(hc:Blk w g T cs):Blk w' g T cs:=by
 have i:=hc.lt;unfold Blk at *;rw[h.1.block g i (λe=>?_)]
 ·exact hc
 ·obtain⟨o,b,d⟩:=h.2 g e.symm;rw[hc]at b;cases b;cases d
end Q
namespace Go.Proofs.YtopclbeomcggiaaGreat
open Go.RowKit Go.Shelf Q
attribute [local go_sem] Oper.semAt_some
end Go.Proofs.YtopclbeomcggiaaGreat
end
section
namespace Go.Proofs.YtopclbeomcggiaaGreat
open Go.RowKit Go.Shelf Q
attribute [local go_sem] Oper.semAt_some
abbrev yF:TypeId:=97
theorem EU(F:Fence)(n:Nat)(b:F.fn 156)(d:F.round=none)(h:Option Addr)(N cap:Nat)(w:World) :
  CallsIn F n Tryz.prog 156 #[.slice h N cap] w (λe i=>e=.returned (.func (.func 170) #[] #[.pointer (some ⟨w.heap.size,0,none⟩)])/\i=w.alloc (.cells #[.slice h N cap] 37)):=by
 refine callsIn_of_wp Tryz.func156 rfl b ?_ d;simp only[Tryz.ntmps156,List.size_toArray,List.length_cons,List.length_nil,Nat.reduceAdd,Nat.reduceSub,Array.replicate_succ,Array.replicate_zero,List.push_toArray,List.append_toArray,List.nil_append,List.cons_append]
 gi_wp2
 refine bodyPost_ret (results_tmp rfl _ _ _) rfl ?_;exact⟨rfl,rfl⟩
theorem EW{α:Type}(M:α->Int)(S:α->Value)(q:Nat->α)(F:Fence)(n:Nat)(h106:F.fn 170)(C:F.round=none)(hn:1<=n)(l Bs g o N cap:Nat)(G:Option Addr)(y:∀k,k<N->G=some ⟨g,o,none⟩)(hN:N<=34359738368)
  (hX1:∀k,k<N->M (q k)=(N:Int)-1-k) (J D:List α->World->Prop)
  (hY:∀pre x W,J pre W->pre.length<N->YieldAt F (n-1) Tryz.prog l #[.int .i64 (M x),S x] W λe p =>
   (e=.returned (.bool true)/\J (pre++[x]) p/\Kb Bs g W p)\/(e=.returned (.bool false)/\D (pre++[x]) p))
  (W:World) (u:W.cell? ⟨Bs,0,none⟩=some (.slice G N cap)) (hc:∀k,k<N->W.cell? ⟨g,o+(N-1-k),none⟩=some (S (q k))) (h0:J [] W) :
  CallsIn F n Tryz.prog 170 #[.func (.yield l) #[] #[],.pointer (some ⟨Bs,0,none⟩)] W λe p=>(∃v,e=.returned v) /\
   ((∃X,X=yE q N/\J X p)\/(∃pre,(∃k,k<=N/\pre=yE q k)/\D pre p)):=by
 refine callsIn_of_wp Tryz.func170 rfl h106 ?_ C;simp only[Tryz.ntmps170,List.size_toArray,List.length_cons,List.length_nil,Nat.reduceAdd,Nat.reduceSub,Array.replicate_succ,Array.replicate_zero,List.push_toArray,List.append_toArray,List.nil_append,List.cons_append]
 gi_wp2
 gi_loopw [3] (λi wr=>∃k:Nat,k<=N/\i=.int .i64 ((N:Int)-1-k)/\J (yE q k) wr/\Kb Bs g W wr) (λi _=>(intOf i+1).toNat)
 case atStart=>exact⟨0,Nat.zero_le _,sM,h0,Kb.refl _ _ _⟩
 case round =>
  obtain⟨k,Z,rfl,r,j⟩:=hrel;have z:=(zO (a:=⟨Bs,0,none⟩) j.1).trans u;by_cases b:k<N
  ·have B:=(zO (a:=⟨g,o+(N - 1 - k),none⟩) j.2).trans (hc k b);obtain⟨fn,tmps,assign,body,L,hR⟩:=hY _ (q k) wr r (by rw[JW];exact b);rw[hX1 k b]at L;have hao2:=y k b;rw[hao2]at z;obtain⟨m,hm⟩:∃m:Nat,m=N - 1 - k:=⟨_,rfl⟩;have s:(N:Int) - 1 - k=(m:Int):=oM;rw[<-hm]at B;rw[s]at L ⊢;have Y:(m:Int)<N:=oM;have I:m<N:=oM;have hm0:(0:Int)<=m:=oM;have d:(m:Int) - 1=(N:Int) - 1 - (k+1:Nat):=oM;have d:=zH d;clear hm s hao2
   gi_wp2
   refine hR.mono ?_;rintro e W3 (⟨rfl,hJ3,hk3⟩|⟨rfl,hJx3⟩)
   ·gi_wp2
    go_roundw
    case rel=>exact⟨k+1,oM,by have h:=d.out;simp only[Value.int.injEq,true_and];omega,by rw[FU];exact hJ3,j.trans hk3⟩
    case measure=>have h:=d.out;simp[intOf];omega
   ·gi_wp2
    refine bodyPost_ret (results_none rfl _ _ _) rfl ?_;exact⟨⟨_,rfl⟩,.inr ⟨_,⟨k+1,oM,(FU _ _).symm⟩,hJx3⟩⟩
  ·obtain rfl:k=N:=oM
   gi_wp2
   go_end0
   exact⟨⟨_,rfl⟩,.inl ⟨_,rfl,r⟩⟩
theorem Bc{α:Type}(s:α->Int)(u:α->Value)(b:Nat->α)(F:Fence)(n:Nat)(d:F.fn 170)(r:F.round=none)(E:1<=n)(Bs g o N cap:Nat)(e:Option Addr)(m:∀k,k<N->e=some ⟨g,o,none⟩)(B:N<=34359738368)
  (j:∀k,k<N->s (b k)=(N:Int)-1-k) (w:World) (h:Bs<w.heap.size) (q:g<w.heap.size) (i:w.cell? ⟨Bs,0,none⟩=some (.slice e N cap)) (hc:∀k,k<N->w.cell? ⟨g,o+(N-1-k),none⟩=some (u (b k))) :
  SeqStopsK F n Tryz.prog 170 #[.pointer (some ⟨Bs,0,none⟩)] (λx:α=>#[.int .i64 (s x),u x]) (Kb Bs g) (λG=>G=yE b N) (λpre=>∃k,k<=N/\pre=yE b k) N w:=λl J z W y _ _ C h0 =>
 EW s u b F n d r E l Bs g o N cap e m B j J z C W ((y.cell (p:=⟨Bs,0,none⟩) h).trans i) (λk D=>(y.cell (p:=⟨g,o+(N-1-k),none⟩) q).trans (hc k D)) h0
def resS (m d:Int):Int:=(m*4294967296+d)%2147483647
theorem FV:∀l:List Int,l.reverse.foldl resS 0=ah l%2147483647
 | []=>rfl
 | d::l=>by rw[List.reverse_cons,List.foldl_append,FV l];show(ah l%2147483647*4294967296+d)%2147483647=(d+bC*ah l)%2147483647;rw[aT];omega
theorem UK{m d:Int}:0<=resS m d/\resS m d<2147483647:=⟨Int.emod_nonneg _ dM,Int.emod_lt_of_pos _ dM⟩
theorem UL(l:List Int):0<=l.foldl resS 0/\l.foldl resS 0<2147483647:=by
 by_cases h:l=[]
 ·subst h;simp
 ·rw[<-List.dropLast_concat_getLast h,List.foldl_append];exact UK
end Go.Proofs.YtopclbeomcggiaaGreat
namespace Q
def eZ (z:Int):Nat:=if z<0/\0<z.natAbs%2147483647 then 2147483647-z.natAbs%2147483647 else z.natAbs%2147483647
theorem qC(z:Int):eZ z<2147483647:=by unfold eZ;split<;>omega
end Q
namespace Go.Proofs.YtopclbeomcggiaaGreat
open Go.RowKit Go.Shelf Q
attribute [local go_sem] Oper.semAt_some
theorem AL{z M:Int}(h0:0<=z)(b:M=z%2147483647):M=(eZ z:Int):=by unfold eZ;rw[if_neg oM];omega
theorem Du{z l M:Int}(h0:0<l)(hz:z=-l)(b:M=l%2147483647):(0<M->2147483647-M=(eZ z:Int))/\(¬0<M->M=(eZ z:Int)):=by unfold eZ;split<;>omega
theorem AO(n:Bool)(m:Value)(z:Int)(w:World)(h:bf w n m z)(c:aF z.natAbs<=jF):Calls Tryz.prog 136 #[.agg #[.bool n,m]] w (pX w (.int .u64 (eZ z))):=by
 obtain⟨l,r,cap,rfl,u,b,nn,e⟩:=gJ h c
 have O:n=true->0<ah l:=λhn=>by subst hn;have:=mV h;rw[e]at this;simp only[gG,if_true]at this;omega
 obtain⟨_,_,e',_,L,mm⟩:=u;cases e';have G:Below w.heap.size w ((w.alloc (.cells #[.bool n,.slice r l.length cap] 39)).alloc (.cells #[.int .u64 0] 97)):=nG _ _ _;have aw:=aW L;obtain⟨dg,a4⟩:∃dg:Nat->Int,dg=λi=>l.getD i 0:=⟨_,rfl⟩;have Z:∀i,l.getD i 0=dg i:=λi=>by rw[a4]
 have N:(yE (λk=>l.length-1-k) l.length).map dg=l.reverse:=by rw[a4];refine List.ext_getElem (by simp[yE]) λi h1 h2=>?_;simp[yE]at h1;simp[yE,List.getElem_reverse];rw[gE oM];rfl
 have a1:n=false->z=ah l:=λhn=>by rw[e,hn];rfl
 have a2:n=true->z=- ah l:=λhn=>by rw[e,hn];rfl
 replace N:=zH N;replace Z:=zH Z;replace a1:=zH a1;replace a2:=zH a2;replace O:=zH O;clear h c nn e a4;refine(callsIn_wide (n:=6)).1 ?_;refine callsIn_of_wp_marks Tryz.func136 rfl trivial ?_ rfl;simp only[Tryz.ntmps136,List.size_toArray,List.length_cons,List.length_nil,Nat.reduceAdd,Nat.reduceSub,Array.replicate_succ,Array.replicate_zero,List.push_toArray,List.append_toArray,List.nil_append,List.cons_append];have ac:((w.alloc (.cells #[.bool n,.slice r l.length cap] 39)).alloc (.cells #[.int .u64 0] 97)).cell? ⟨w.heap.size,1,none⟩=some (.slice r l.length cap):=((Blk.new w 39 [.bool n,.slice r l.length cap]).alloc _).at1 1 _ rfl
 gi_wp2_with (refine⟨trivial,?_⟩;gi_at_call 156;refine(EU Fence.wide _ trivial rfl _ _ _ _).mono ?_;rintro e w2 ⟨rfl,rfl⟩)
 obtain⟨F,E⟩:∃F,F=(w.alloc (.cells #[.bool n,.slice r l.length cap] 39)).alloc (.cells #[.int .u64 0] 97):=⟨_,rfl⟩;have a0:F.heap.size=w.heap.size+1+1:=by rw[E];simp
 have J:F.cell? ⟨w.heap.size,0,none⟩=some (.bool n):=by rw[E];exact((Blk.new w 39 [.bool n,.slice r l.length cap]).alloc _).at1 0 _ rfl
 have an:Blk F (w.heap.size+1) 97 [.int .u64 0]:=by rw[E];have:=Blk.new (w.alloc (.cells #[.bool n,.slice r l.length cap] 39)) 97 [.int .u64 0];simpa using this
 change Below w.heap.size w ((w.alloc (.cells #[.bool n,.slice r l.length cap] 39)).alloc (.cells #[.int .u64 0] 97))at G;rw[<-E]at G;have H:Below F.heap.size F (F.alloc (.cells #[.slice r l.length cap] 37)):=(Below.refl _ _).alloc (nL _) _;have aa:(F.alloc (.cells #[.slice r l.length cap] 37)).cell? ⟨(w.heap.size+1+1),0,none⟩=some (.slice r l.length cap):=by rw[<-a0];exact(Blk.new F 37 [.slice r l.length cap]).at1 0 _ rfl
 clear ac;rw[<-E];obtain⟨S,Y⟩:∃S,S=F.alloc (.cells #[.slice r l.length cap] 37):=⟨_,rfl⟩;have ay:S.heap.size=(w.heap.size+1+1)+1:=by rw[Y,<-a0];simp
 rw[<-Y]at H aa;have y:=G.trans (H.mono G.size);have a3:S.cell? ⟨w.heap.size,0,none⟩=some (.bool n):=by rw[H.cell (p:=⟨w.heap.size,0,none⟩) (by simp only;omega)];exact J
 have al:=an.on H
 obtain⟨g,o,ag,ar,av⟩:∃g o,g<w.heap.size+1/\(∀k,k<l.length->r=some ⟨g,o,none⟩)/\∀k,k<l.length->S.cell? ⟨g,o+k,none⟩=some (.int .u32 (dg k)):=by
  by_cases hp:0<l.length
  ·obtain⟨g,o,rfl,hc⟩:=mm (by rw[dN];exact hp);exact⟨g,o,by have:=hc.lt;omega,λ_ _=>rfl,λk hk=>Z.out k▸(hc.on y).ucell k hk⟩
  ·exact⟨w.heap.size,0,oM,λk hk=>oM,λk hk=>oM⟩
 have ad:g<S.heap.size:=oM;have ag:g≠w.heap.size+1:=oM;rw[<-Y];have a9:(w.heap.size+1+1)<S.heap.size:=oM;have au:(w.heap.size+1+1)≠w.heap.size+1:=oM;have b4:w.heap.size+1<S.heap.size:=oM;clear Y H J an G E mm
 refine wpIn_rangeFunc_ownF (α:=Nat) rfl oM (gf:=170) (lb:=#[.pointer (some ⟨(w.heap.size+1+1),0,none⟩)]) rfl trivial (enters_of Tryz.func170 kM rfl)
  (Bc (α:=Nat) (λi=>(i:Int)) (λi=>.int .u32 (dg i)) (λk=>l.length-1-k) Fence.wide _ trivial rfl oM (w.heap.size+1+1) g o l.length cap r ar b (λk hk=>oM) S a9 ad aa (λk hk=>av _ oM))
  (λh k=>h.trans k) (Kb.putObj a9 ad) (Below.refl _ _) (λ_=>rfl)
  (λpre W=>(Blk W (w.heap.size+1) 97 [.int .u64 ((pre.map dg).foldl resS 0)]/\W.cell? ⟨w.heap.size,0,none⟩=some (.bool n)/\S.heap.size<=W.heap.size)/\Below w.heap.size w W)
  (λ_ _ _=>False)
  (OwnFrom.and (Own.from (λs A B row hs hg hr=>by
   obtain⟨h1,h4,h7⟩:=hs;have hk:WG A B row:=⟨hg,hr⟩
   exact⟨hk.blk h1,cell_kept h4 hg hr,Nat.le_trans h7 hg.size⟩) _) (ownFrom_below (nL _) oM))
  (λ_ _ _ _ _ hs _ _=>hs)
  ⟨⟨al,a3,nL _⟩,y⟩
  (λx=>{ tmps:=#[.agg #[.bool n,.slice r l.length cap],.pointer (some ⟨w.heap.size,0,none⟩),.int .u64 0,.pointer (some ⟨w.heap.size+1,0,none⟩),undef,.int .u32 (dg x),.pointer (some ⟨w.heap.size,1,none⟩),.slice r l.length cap,.func (.func 170) #[] #[.pointer (some ⟨(w.heap.size+1+1),0,none⟩)],.int .i64 x,.int .u32 (dg x),undef,undef,undef,undef,undef,undef,undef,undef,undef,undef,undef,undef,undef,undef,undef],defers:=[] }) ?assign ?body ?done ?stop
 case assign =>
  intro l x W K hK
  gi_wp2
  exact hK
 case body =>
  rintro ll pre x W ⟨⟨X,J,ax⟩,I⟩ hlen;have a5:=UL (pre.map dg);have R:=(L.getD x);rw[aT,Z.out]at R;have C:((pre++[x]).map dg).foldl resS 0=resS ((pre.map dg).foldl resS 0) (dg x):=by rw[List.map_append,List.foldl_append];rfl
  generalize(pre.map dg).foldl resS 0=M at *;generalize dg x=d at *;have ho:=X.at1 0 _ rfl;have hf:=X.frozen 0;have b3:=BA M d a5.1 oM R.1 R.2;have a7:=a5.1;have a8:=a5.2;have b0:=R.1;have b2:=R.2;have ap:Hid (resS M d=(M*4294967296+d)%2147483647):=zH rfl;replace C:=zH C
  gi_wp2
  have Bn:=X.set 0 (.int .u64 ((M*4294967296+d)%2147483647));refine⟨KeepsOthers.setCell _ _ _,⟨Below.heap_setCell _ _ _ _ au,Below.heap_setCell _ _ _ _ ag⟩,⟨?_,?_,by rw[World.size_setCell];omega⟩,?_⟩
  ·rw[C.out,ap.out];exact Bn
  ·rw[<-J];exact zO (Below.heap_setCell _ _ _ _ sM)
  ·exact I.trans (bI oM _)
 case done =>
  rintro D ys W hD rfl ⟨⟨X,J,ax⟩,I⟩ hK;rw[N.out,FV]at X;have ho:=X.at1 0 _ rfl;have hf:=X.frozen 0;have a7:0<=ah l%2147483647:=Int.emod_nonneg _ dM;have a8:ah l%2147483647<2147483647:=Int.emod_lt_of_pos _ dM;have aE:Hid (ah l%2147483647=ah l%2147483647):=zH rfl;have aq:D≠w.heap.size+1:=oM;cases n
  ·have q:=AL aw rfl;rw[<-a1.out rfl]at q X ho a7 a8;rw[q]at X ho;replace q:=zH q
   gi_wp2
   refine⟨sM,.inl ⟨_,_,rfl,run_takeDeferred hK,?_⟩⟩;refine⟨_,results_tmp rfl _ _ _,rfl,?_⟩;exact I.trans (belowK_b (w:=w) (nL _) _ D _ _ (by have:=y.size;omega) hK rfl rfl)
  ·have q:=Du (M:=ah l%2147483647) (O.out rfl) (a2.out rfl) rfl;generalize ah l%2147483647=M at *;by_cases hp:0<M
   ·have q:=zH (q.1 hp)
    gi_wp2
    have a6:=(Below.heap_setCell W ⟨w.heap.size+1,0,none⟩ (.int .u64 (eZ z)) D aq).trans hK;have ab:=I.trans (bI (W:=W) (g:=w.heap.size+1) (j:=0) (Nat.le_succ _) (.int .u64 (eZ z)));refine⟨sM,.inl ⟨_,_,rfl,run_takeDeferred a6,?_⟩⟩;refine⟨_,results_tmp rfl _ _ _,rfl,?_⟩;exact ab.trans (belowK_b (w:=w) (nL _) _ D _ _ (by have:=y.size;omega) a6 rfl rfl)
   ·have q:=q.2 hp
    gi_wp2
    refine⟨sM,.inl ⟨_,_,rfl,run_takeDeferred hK,?_⟩⟩;refine⟨_,results_tmp rfl _ _ _,rfl,?_⟩;exact I.trans (belowK_b (w:=w) (nL _) _ D _ _ (by have:=y.size;omega) hK rfl rfl)
 case stop =>
  rintro D c pre W _ _ h _;exact h.elim
end Go.Proofs.YtopclbeomcggiaaGreat
end
section
namespace Q
open Go.Proofs.YtopclbeomcggiaaGreat
def tm (c i k:Int):aj:=((i,k,0,0),(c:Rat))
theorem Zo:sF 0=[tm 1 1 0]:=dK
theorem Zp:sF 1=[tm 1 0 1]:=dK
end Q
end
section
namespace Q
open Go Go.Proofs.YtopclbeomcggiaaGreat
def Y9 (B E N:Nat) (l:List aj):Bool :=
 decide (l.length<=N)&&l.all (λt=>decide (-(E:Int)<=t.1.1)&&decide (t.1.1<=E)&&decide (-(E:Int)<=t.1.2.1)&&decide (t.1.2.1<=E)&&decide (-(E:Int)<=t.1.2.2.1)&&decide (t.1.2.2.1<=E)&&decide (-(E:Int)<=t.1.2.2.2)&&decide (t.1.2.2.2<=E)&&decide (t.2.den=1))&&decide (bF l<=(B:Rat))
theorem zP{B E N:Nat}{l:List aj}(h:Y9 B E N l=true):Bd ⟨1,B,E,N⟩ l:=by
 simp only[Y9,Bool.and_eq_true,decide_eq_true_eq,List.all_eq_true]at h;obtain⟨⟨q,d⟩,r⟩:=h;refine⟨q,λt b=>?_,λt b=>?_,r⟩
 ·obtain⟨⟨⟨⟨⟨⟨⟨⟨e,i⟩,j⟩,k⟩,m⟩,n⟩,o⟩,p⟩,-⟩:=d t b;exact⟨e,i,j,k,m,n,o,p⟩
 ·obtain⟨-,hd⟩:=d t b;refine⟨t.2.num,?_⟩
  have:(t.2.num:Rat)=t.2:=by refine Rat.ext rfl ?_;rw[hd];rfl
  rw[this];show t.2*((1:Nat):Rat)=t.2;rw[show((1:Nat):Rat)=1 from rfl,Rat.mul_one]
def S1:Sz:=⟨1,100,10,10⟩
def sm (l:List aj):Bool:=Y9 100 10 10 l
def ZX (D R:List (List aj)):Bool:=(List.range (R.length-1)).all λi =>
 (sm (R.getD i [])&&sm (D.getD (D.length-1) [])) &&
 (!decide (R.length-1-(D.length-1)<=i) ||
  ((sm (R.getD (R.length-1) [])&&sm (D.getD (i-(R.length-1-(D.length-1))) [])) &&
  (sm (aZ (R.getD i []) (D.getD (D.length-1) []))&&sm (aZ (R.getD (R.length-1) []) (D.getD (i-(R.length-1-(D.length-1))) []))&&Mi (aZ (R.getD i []) (D.getD (D.length-1) []))&&Mi (aZ (R.getD (R.length-1) []) (D.getD (i-(R.length-1-(D.length-1))) [])))))
def Zq (D:List (List aj)):Nat->List (List aj)->Bool
 | 0,_=>true
 | f+1,R=>!decide (D.length-1<R.length) || (ZX D R&&Zq D f (fZ D R))
def Z8 (k:Nat):Sz:=⟨1,2^(k+1)-1,k+1,2^(k+1)-1⟩
end Q
end
section
namespace Q
open Go Go.RowKit Go.Proofs.YtopclbeomcggiaaGreat
def af.polyT {g:Option Nat} {T:TypeId} (hT:uT≠T) (hT':aJ≠T) (l:List aj) (x:Value):af (Lr g T):=af.of (λv w=>∃u,v=.tuple #[u,x]/\ai w u l) (λ_ _ _ hb=>λ⟨u,e,h⟩=>⟨u,e,h.lr hb hT hT'⟩)
def af.polys {g:Option Nat} {T:TypeId} (hT:uT≠T) (hT':aJ≠T) (h3:Go.Proofs.YtopclbeomcggiaaGreat.polyT≠T) (L:List (List aj)):af (Lr g T):=af.of (λv w=>jq w v L) (λ_ _ _ hb h=>bV.lr h hb ⟨hT,hT'⟩ h3)
end Q
namespace Go.Proofs.YtopclbeomcggiaaGreat
open Go.RowKit Q
variable {w:World} {v u:Value} {l p q r:List aj}
end Go.Proofs.YtopclbeomcggiaaGreat
end
section
namespace Q
open Go Go.Proofs.YtopclbeomcggiaaGreat
def ZY (t:Int × Int × Int × Int × Int):aj:=((t.1%3,t.2.1%4-1,t.2.2.1%2,t.2.2.2.1%2),((t.2.2.2.2.tmod 4:Int):Rat))
abbrev UM:=Int × Int × Int × Int × Int
def XY (t:UM):Prop:=(0<=t.1/\t.1<256)/\(0<=t.2.1/\t.2.1<256)/\(0<=t.2.2.1/\t.2.2.1<256)/\(0<=t.2.2.2.1/\t.2.2.2.1<256)/\-128<=t.2.2.2.2/\t.2.2.2.2<128
end Q
namespace Go.Proofs.YtopclbeomcggiaaGreat
open Go.RowKit Q
def VL (t:Int × Int × Int × Int × Int):List Value:=[.int .u8 t.1,.int .u8 t.2.1,.int .u8 t.2.2.1,.int .u8 t.2.2.2.1,.int .i8 t.2.2.2.2]
def WH (T:TypeId):El UM where
 T:=T
 sz:=5
 pos:=by decide
 E _ cs t:=cs=VL t/\XY t
 len:=by rintro w c t ⟨rfl,h⟩;rfl
 one:=by rintro w c t ⟨rfl,h⟩ v hv;simp only[VL,List.mem_cons,List.not_mem_nil,or_false]at hv;rcases hv with rfl|rfl|rfl|rfl|rfl<;>rfl
 on:=λh _=>h
 ok _:=True
 lr:=λh _ _=>h
 self:=trivial
def Zr (w:World) (v:Value) (l:List UM):Prop:=∃T,bV (WH T) w v l
end Go.Proofs.YtopclbeomcggiaaGreat
end
section
namespace Q
open Go Go.Proofs.YtopclbeomcggiaaGreat
def UM.get (t:UM) (v:Nat):Int:=match v with|0=>t.1|1=>t.2.1|2=>t.2.2.1|_=>t.2.2.2.1
def WI (t:UM) (k:Nat):Ex:=(if 0<k then t.1%3 else 0,if 1<k then t.2.1%3 else 0,if 2<k then t.2.2.1%3 else 0,if 3<k then t.2.2.2.1%3 else 0)
def XZ (vs:Nat) (t:UM):aj:=(WI t vs,((t.2.2.2.2.tmod 10:Int):Rat))
def X3 (L:List UM) (n vs:Nat):List aj:=(L.take n).map (XZ vs)
def ZQ (L:List UM) (n vs:Nat):List aj:=canon (X3 L n vs)
end Q
namespace Go.Proofs.YtopclbeomcggiaaGreat
open Go.RowKit Q
end Go.Proofs.YtopclbeomcggiaaGreat
namespace Q
open Go Go.RowKit Q Go.Proofs.YtopclbeomcggiaaGreat
end Q
namespace Go.Proofs.YtopclbeomcggiaaGreat
open Go.RowKit Q
end Go.Proofs.YtopclbeomcggiaaGreat
end
section
namespace Go.Proofs.YtopclbeomcggiaaGreat
open Go.RowKit Q Go.WideMaps Go.Maps
end Go.Proofs.YtopclbeomcggiaaGreat
end
section
namespace Q
open Go Go.Proofs.YtopclbeomcggiaaGreat
structure Pk (s:Sz) (p:List aj):Prop where
 v:bQ p
 b:Bd s p
 k:s.ok
namespace Pk
variable {s t:Sz} {p q:List aj}
theorem mul(h:Pk s p)(d:Pk t q)(k:(s.mul t).ok):Pk (s.mul t) (aZ p q):=⟨bQ.mul _ _,(h.b.prods d.b).canon,k⟩
theorem rs(h:Pk s p):∀t∈p,Rs t.2:=h.b.rs h.k
theorem rk(h:Pk s p):∀t∈p,Rk t.2:=λt b=>(h.rs t b).rk
theorem ir(h:Pk s p):∀t∈p,InR t.1/\Rk t.2:=λt d=>⟨h.b.inR h.k t d,h.rk t d⟩
theorem len(h:Pk s p):p.length<=100000000:=h.b.len h.k
end Pk
structure Wr (p:List aj):Prop where
 v:bQ p
 rs:∀t∈p,Rs t.2
 ir:∀t∈p,Go.Proofs.YtopclbeomcggiaaGreat.InR t.1
 len:p.length<=100000000
theorem Pk.wr{s:Sz}{p:List aj}(h:Pk s p):Wr p:=⟨h.v,h.rs,λt b=>(h.ir t b).1,h.len⟩
theorem Wr.sub{p q:List aj}(h:Wr p)(b:q.Sublist p):Wr q:=⟨h.v.sublist b,λt d=>h.rs t (b.subset d),λt d=>h.ir t (b.subset d),Nat.le_trans b.length_le h.len⟩
theorem WJ{c:Rat}(h:Rs c):Rs (c*(-1)):=by rw[(gR:c*(-1)=-c)];exact⟨by rw[Rat.neg_den];exact h.1,by rw[Rat.neg_num,Int.natAbs_neg];exact h.2⟩
theorem Wr.neg{p:List aj}(h:Wr p):Wr (bS p (-1)):=by
 refine⟨h.v.scale _,λt b=>?_,λt b=>?_,?_⟩
 ·rw[bS,if_neg dK]at b;obtain⟨s,d,rfl⟩:=List.mem_map.1 b;exact WJ (h.rs s d)
 ·rw[bS,if_neg dK]at b;obtain⟨s,d,rfl⟩:=List.mem_map.1 b;exact h.ir s d
 ·rw[bS,if_neg dK,List.length_map];exact h.len
end Q
namespace Go.Proofs.YtopclbeomcggiaaGreat
open Go.RowKit Q
variable {w:World} {v u:Value} {s t:Sz} {p q:List aj}
theorem X4(b:Pk s p)(d:Pk t q)(e:p=q)(hp:ai w v p)(hq:ai w u q):Calls Tryz.prog 13 #[v,u] w (pX w (.bool true)) :=
 (decide_eq_true e)▸FT v u p q w hp hq b.rk d.rk b.len
end Go.Proofs.YtopclbeomcggiaaGreat
end
section
namespace Q
theorem tN{p:List aj}{m:aj}(h:m.2≠0):jX p m=prods p [m]:=by
 rw[jX,if_neg h]
 induction p with
 | nil=>rfl
 | cons s p b=>rw[List.map_cons,b];rfl
theorem PY(x:Pt)(t:aj):ev x [t]=t.2*xP x t.1:=by rw[lu,jv];grind
theorem Sb{p q:List aj}{k:Nat}{t:aj}(hp:bQ p)(hq:bQ q)(h:q[k]?=some t):dG (aZ p (q.take k)) (jX p t)=aZ p (q.take (k+1)):=by have b:t.1.nat=true:=(hq.2 t (List.mem_of_getElem? h)).2;have d:=(hq.sublist (List.take_sublist k q)).nat;have e:=(hq.sublist (List.take_sublist (k+1) q)).nat;rw[rH (bQ.mul _ _) (hp.times b)];refine zi (bQ.add _ _) (bQ.mul _ _) λx=>?_;rw[ev_add x (bQ.mul _ _).nat (hp.times b).nat,ev_mul x hp.nat d,RV x hp.nat b,ev_mul x hp.nat e,List.take_add_one,h];simp only[Option.toList_some];rw[pU,PY,Rat.mul_add]
theorem Sc(e:Ex):e.add e0=e:=by simp[Ex.add,e0]
theorem Ia(p:List aj)(c:Rat):jX p (e0,c)=bS p c:=by
 unfold jX bS;split
 ·rfl
 ·refine List.map_congr_left λt _=>?_;simp only[mulT,Sc]
namespace Pk
variable {s t:Sz} {p q:List aj}
theorem times(h:Pk s p)(d:Pk t q)(k:(s.mul t).ok){u:aj}(hu:u∈q):Bd (s.mul t) (jX p u)/\∀a∈p,Go.Proofs.YtopclbeomcggiaaGreat.InR (a.1.add u.1):=by have hz:u.2≠0:=(d.v.2 u hu).1;have hb:Bd t [u]:=d.b.sub (List.singleton_sublist.2 hu);have hp:=h.b.prods hb;refine⟨by rw[tN hz];exact hp,λa ha=>?_⟩;exact hp.inR k (mulT a u) (List.mem_flatMap.2 ⟨a,ha,sM⟩)
theorem take(h:Pk s p)(k:Nat):Pk s (p.take k):=⟨h.v.sublist (List.take_sublist _ _),h.b.take k,h.k⟩
end Pk
end Q
namespace Go.Proofs.YtopclbeomcggiaaGreat
open Go.RowKit Q Go.WideMaps Go.Maps
theorem FW{D F:Value}{p q:List aj}{w:World}(hP:Wr p)(hQ:Wr q)(n:∀k,Wr (aZ p (q.take k)))(j:∀u∈q,Wr (jX p u)/\∀t∈p,InR (t.1.add u.1))(hp:ai w D p)(hq:ai w F q):Calls Tryz.prog 12 #[D,F] w (aP w (aZ p q)):=by
 obtain⟨ap,cp,rfl,I⟩:=hp.shape;obtain⟨L,M,rfl,J⟩:=hq.shape;have C:=hQ.len;replace n:=zH n;replace j:=zH j;have z:=zH (λk t (h:q[k]?=some t)=>Sb hP.v hQ.v h)
 go_enter Tryz.func12,Tryz.ntmps12
 go_wp2;have hb0:Below w.heap.size w (w.alloc (.cells #[] aJ)):=(Below.refl _ _).alloc (nL _) _;have s:ai (w.alloc (.cells #[] aJ)) (.slice (some ⟨w.heap.size,0,none⟩) 0 0) []:=(fQ aL w).isSl;change Below w.heap.size w (w.alloc (.cells #[] 43))at hb0;change ai (w.alloc (.cells #[] 43)) _ _ at s;replace hp:=zH hp;replace hq:=zH hq
 go_loopw [5,6] (λo i wr=>∃k:Nat,k<=q.length/\i=.int .i64 k/\Hid (ai wr o (aZ p (q.take k)))/\Below w.heap.size w wr) (λ_ i _=>q.length-(intOf i).toNat)
 case atStart=>exact⟨0,oM,rfl,zH (by rw[List.take_zero,uF];exact s),hb0⟩
 case round =>
  clear s hb0;obtain⟨k,N,rfl,hO,d⟩:=hrel;by_cases y:k<q.length
  ·have m:q[k]?=some q[k]:=gE y;generalize q[k]=t at m;obtain⟨G,oq,rt,rfl,r,hC⟩:=fI (hq.out.on d) m;have B:(k:Int)<q.length:=oM;have hr:=hC.range;have h8:(bD t.1++rt).length=8:=by rw[List.length_append,r.len];rfl
   have b:=List.mem_of_getElem? m;have x:=xu _ p _ t wr (hp.out.on d) ⟨rt,rfl,r⟩ hP.rs (hQ.rs t b) (j.out t b).2 hP.len;have l:=λW u (hb:Below wr.heap.size wr W) (hu:ai W u (jX p t))=>Dt u5 u _ _ W (hO.out.on hb) hu (n.out k).rs (j.out t b).1.rs (n.out k).len (j.out t b).1.len;rw[z.out k t m]at l;clear hC b r;replace x:=zH x;replace l:=zH l
   go_wp2_with (first
    | (refine ak rfl _ _ 27 rfl aJ Tryz.underlying27 _ 8 96 kM _ _ _ rfl .i64 _ rfl k rfl y G oq rfl ?_)
    | (refine wpList_load_mid rfl 43 _ rfl _ _ rfl _ _ hr Tryz.underlying43 rfl (by rw[h8];kernel_rfl) ?_)
    | (go_at_call 44;refine x.out.mono ?_;rintro en w3 ⟨v3,rfl,hv3,hb3⟩)
    | (go_at_call 39;refine(l.out _ _ hb3 hv3).mono ?_;rintro en w4 ⟨v4,rfl,hv4,hb4⟩))
   have hb34:=hb3.trans (hb4.mono hb3.size);go_roundw
   case rel=>exact⟨k+1,oM,nM,zH hv4,d.trans (hb34.mono d.size)⟩
   case measure=>simp[intOf];omega
  ·obtain rfl:k=q.length:=oM;rw[tL (nL _)]at hO;go_wp2;go_ret;exact⟨_,rfl,hO.out,d⟩
theorem NY{s t:Sz}{h i:Value}{p q:List aj}{w:World}(b:Pk s p)(d:Pk t q)(e:(s.mul t).ok)(hp:ai w h p)(hq:ai w i q):Calls Tryz.prog 12 #[h,i] w (aP w (aZ p q)) :=
 FW b.wr d.wr (λk=>(b.mul (d.take k) e).wr) (λu hu=>⟨(Pk.wr (s:=s.mul t) ⟨b.v.times (d.v.2 u hu).2,(b.times d e hu).1,e⟩),(b.times d e hu).2⟩) hp hq
theorem tO(i l:Value)(p:List aj)(c:Rat)(w:World)(hp:ai w i p)(hc:bO w l c)(k:∀t∈p,Rs t.2)(j:Rs c)(b:∀t∈p,InR t.1)(o:p.length<=100000000) :
  Calls Tryz.prog 42 #[i,l] w (aP w (bS p c)):=by
 obtain⟨n5,a5,k5,c5,n6,a6,k6,c6,rfl⟩:=fF hc;have d:=zH (λW (hb:Below w.heap.size w W)=>xu i p (bD e0++[.bool n5,.slice a5 k5 c5,.bool n6,.slice a6 k6 c6]) (e0,c) W (hp.on hb) ⟨_,rfl,(hc.on hb).cellsC⟩ k j (λt n=>by rw[Sc];exact b t n) o);rw[Ia]at d;replace hp:=zH hp;replace hc:=zH hc;clear k j b
 go_enter Tryz.func42,Tryz.ntmps42
 go_upto_region 1 with (fail)
 refine jg λW hb0 B m=>?_;have y1:=B.at1 0 _ rfl;have y2:=B.at1 1 _ rfl;have y3:=B.at1 2 _ rfl;have y4:=B.at1 3 _ rfl
 go_wp2_with (go_at_call 44;refine(d.out _ hb0).mono ?_;rintro en w3 ⟨v3,rfl,hv3,hb3⟩)
 go_ret;exact⟨_,rfl,hv3,hb0.trans (hb3.mono hb0.size)⟩
theorem Sd:Rs (-1:Rat):=ve (s:=⟨1,1,0,1⟩) dK (Dv.int 1 (-1)) (show bJ (((-1:Int)):Rat)<=((1:Nat):Rat) by rw[rabs_int];exact Rat.natCast_le_natCast.2 dM)
theorem WK{s:Sz}{e d:Value}{p:List aj}{c:Rat}{w:World}(b:Pk s p)(i:Rs c)(hp:ai w e p)(hc:bO w d c):Calls Tryz.prog 42 #[e,d] w (aP w (bS p c)) :=
 tO e d p c w hp hc b.rs i (λt h=>(b.ir t h).1) b.len
theorem X5{s t:Sz}{v u:Value}{p q:List aj}{w:World}(b:Pk s p)(d:Pk t q)(hp:ai w v p)(hq:ai w u q):Calls Tryz.prog 39 #[v,u] w (aP w (oH p q)) :=
 rH b.v d.v▸Dt v u p q w hp hq b.rs d.rs b.len d.len
theorem Sg{b d:Value}{p q:List aj}{w:World}(hP:Wr p)(hQ:Wr q)(hp:ai w b p)(hq:ai w d q):Calls Tryz.prog 35 #[b,d] w (aP w (gp p q)):=by
 have i:=zH (λW u (hb:Below w.heap.size w W) (hu:bO W u (((-1:Int)):Rat))=>tO d u q (-1) W (hq.on hb) hu hQ.rs Sd hQ.ir hQ.len);have ha:=zH (λW u (hb:Below w.heap.size w W) (hu:ai W u (bS q (-1)))=>rH hP.v (hQ.v.scale (-1))▸Dt b u p _ W (hp.on hb) hu hP.rs hQ.neg.rs hP.len hQ.neg.len);replace hp:=zH hp;replace hq:=zH hq
 go_enter Tryz.func35,Tryz.ntmps35
 go_wp2_with (first
  | (go_at_call 24;refine(gF (-1) _ oM oM).mono ?_;rintro en w3 ⟨v3,rfl,hv3,hb3⟩)
  | (go_at_call 42;refine(i.out _ _ hb3 hv3).mono ?_;rintro en w4 ⟨v4,rfl,hv4,hb4⟩)
  | (go_at_call 39;refine(ha.out _ _ (hb3.trans (hb4.mono hb3.size)) hv4).mono ?_;rintro en w5 ⟨v5,rfl,hv5,hb5⟩))
 have hb34:=hb3.trans (hb4.mono hb3.size);go_ret;exact⟨_,rfl,hv5,hb34.trans (hb5.mono hb34.size)⟩
theorem X6{s t:Sz}{b d:Value}{p q:List aj}{w:World}(e:Pk s p)(h:Pk t q)(i:(t.mul ⟨1,1,0,1⟩).ok)(hp:ai w b p)(hq:ai w d q):Calls Tryz.prog 35 #[b,d] w (aP w (gp p q)):=Sg e.wr h.wr hp hq
end Go.Proofs.YtopclbeomcggiaaGreat
end
section
namespace Q
open Go Go.Proofs.YtopclbeomcggiaaGreat
def Z9 (s:Sz) (n:Nat):Sz:=⟨s.D^n,s.B^n,s.E*n,s.N^n⟩
theorem WL:Bd ⟨1,1,0,1⟩ (bW 1):=zP dK
theorem WM:Pk ⟨1,1,0,1⟩ (bW 1):=⟨bQ.const 1,WL,dK⟩
namespace Pk
variable {s t:Sz} {p q:List aj}
theorem var(v:Nat):Pk ⟨1,1,1,1⟩ (sF v):=⟨bQ.var v,by
 obtain rfl|rfl|rfl|h:v=0\/v=1\/v=2\/3<=v:=oM
 ·exact zP dK
 ·exact zP dK
 ·exact zP dK
 ·obtain⟨u,rfl⟩:∃u,v=u+3:=⟨v - 3,oM⟩
  exact zP (dK:Y9 1 1 1 [((0,0,0,1),1)]=true),dK⟩
end Pk
end Q
namespace Go.Proofs.YtopclbeomcggiaaGreat
open Go.RowKit Q
end Go.Proofs.YtopclbeomcggiaaGreat
end
section
namespace Q
open Go Go.Proofs.YtopclbeomcggiaaGreat
theorem Si{m g:aj}{a:List aj}(ha:bQ (m::a))(hz:g.2≠0)(d:(m.1.sub g.1).nat=true):bQ [gQ m g] :=
 Bt d (by
  show m.2/g.2≠0;have:=(ha.2 m sM).1;intro h;rw[Rat.div_def]at h
  exact jm this (λb=>hz (by rw[<-Rat.inv_inv g.2,b,Rat.inv_zero])) h)
theorem BL{a:List aj}(hv:bQ a){E:Ex}{c:Rat}(hc:c≠0)(k:∀t∈a,E=t.1\/E.gt t.1=true)(i:cf a E=c):∃a',a=(E,c)::a':=by
 obtain⟨t,d,he⟩:=QP (l:=a) (e:=E) (by rw[i];exact hc)
 cases a with
 | nil=>cases d
 | cons m a =>
  have j:m.1=E:=by
   rcases k m sM with h|h
   ·exact h.symm
   ·rcases List.mem_cons.1 d with rfl|d
    ·exact he
    ·have b:=hv.1.head t d;rw[he]at b;rw[Ex.gt_asymm h]at b;cases b
  have b:=hv.cf_head;rw[j,i]at b;exact⟨a,by rw[<-j,b]⟩
theorem BM{x g:aj}{s ts:List aj}(i:bQ (x::s))(hb:bQ (g::ts)):(∀t∈aZ (x::s) (g::ts),x.1.add g.1=t.1\/(x.1.add g.1).gt t.1=true)/\cf (aZ (x::s) (g::ts)) (x.1.add g.1)=x.2*g.2:=by
 refine⟨mf (P:=λe=>x.1.add g.1=e\/(x.1.add g.1).gt e=true) λt j=>?_,?_⟩
 ·obtain⟨a,ha,b,d,rfl⟩:=nC j;by_cases h:x.1=a.1/\g.1=b.1
  ·exact .inl (by simp only[mulT,h.1,h.2])
  ·exact .inr (uE (i.1.head_or a ha) (hb.1.head_or b d) h)
 ·rw[aZ,nW,if_pos (Ex.nat_add i.nat.head hb.nat.head),rf i.1 hb.1]
theorem Dw{x g:aj}(hz:g.2≠0):gQ (x.1.add g.1,x.2*g.2) g=x:=by
 obtain⟨e,c⟩:=x;unfold gQ;refine Prod.ext ?_ ?_
 ·show(e.add g.1).sub g.1=e;simp only[Ex.add,Ex.sub];refine Ex.ext' ?_ ?_ ?_ ?_<;>simp only<;>omega
 ·show c*g.2/g.2=c;exact Rat.mul_div_cancel hz
theorem Dx{x:aj}{s b d:List aj}(e:bQ (x::s))(hb:bQ b)(hd:bQ d):gp (oH (aZ (x::s) b) d) (aZ b [x])=oH (aZ s b) d :=
 zi (bQ.sub _ _) (bQ.add _ _) λy=>by have i:bQ [x]:=⟨List.pairwise_singleton _ _,λt h=>e.2 t (by simp at h;simp[h])⟩;rw[ev_sub y (bQ.add _ _).nat (bQ.mul _ _),ev_add y (bQ.mul _ _).nat hd.nat,ev_mul y e.nat hb.nat,ev_mul y hb.nat i.nat,ev_add y (bQ.mul _ _).nat hd.nat,ev_mul y e.tail.nat hb.nat,lu,lu,jv];grind
theorem yG{p:List aj}(hp:bQ p):oH p []=p:=by rw[oH,List.append_nil,BV hp]
theorem jB{c:Rat}(h:Dv 1 c):∃z:Int,c=(z:Rat):=by obtain⟨k,b⟩:=h;exact⟨k,by rw[<-b,show((1:Nat):Rat)=1 from rfl,Rat.mul_one]⟩
theorem WN{z:Int}{n:Nat}(h:bJ (z:Rat)<=(n:Rat)):z.natAbs<=n:=by rw[rabs_int]at h;exact Rat.natCast_le_natCast.1 h
end Q
end
section
namespace Q
namespace MP
def dv (D:Nat) (p:MP):Prop:=∀t∈p.l,Dv D t.2
def am (p:MP):Rat:=bF p.l
theorem am_nonneg(p:MP):0<=p.am:=mM _
theorem yH{D:Nat}{l:List aj}(h:∀t∈l,Dv D t.2):∀t∈canon l,Dv D t.2:=(Cc (l:=l) (r:=[]) (p:=λ_=>True) (λ_ _=>trivial) (λ_ _=>trivial) h (λ_ h=>by cases h)).2.2.2
theorem PZ(l:List aj):∀r,bF (l.foldl ins r)<=bF r+bF l:=by
 induction l with
 | nil=>intro r;simp only[List.foldl_nil,bF];grind
 | cons m l b=>intro r;have:=b (ins r m);have:=Cb r m;simp only[List.foldl_cons,bF];grind
theorem qD(l:List aj):bF (canon l)<=bF l:=by have:=PZ l [];simp only[bF]at this;unfold canon;grind
theorem Dy{D:Nat}{p q:MP}(h:p.dv D)(b:q.dv D):(p+q).dv D:=yH λt d=>(List.mem_append.1 d).elim (h t) (b t)
theorem Sj{D d:Nat}{p q:MP}(h:p.dv D)(e:q.dv d):(p*q).dv (D*d):=yH λt i=>by obtain⟨a,ha,b,hb,rfl⟩:=nC i;exact(h a ha).mul (e b hb)
theorem jr{p q:MP}(h:p.dv 1)(b:q.dv 1):(p*q).dv 1:=Sj h b
theorem Sk{D:Nat}{r:Rat}(h:Dv D r):(c r).dv D:=λt b=>by
 have b:t∈bW r:=b;unfold bW at b;split at b
 ·cases b
 ·rw[List.mem_singleton.1 b];exact h
theorem UN{D b:Nat}(hd:D∣b){p:MP}(h:p.dv D):p.dv b:=λt d=>(h t d).dvd hd
theorem zQ{p:List aj}{c:Rat}{t:aj}(h:t∈bS p c):∃s∈p,t=(s.1,s.2*c):=by
 unfold bS at h;split at h
 ·cases h
 ·obtain⟨s,b,rfl⟩:=List.mem_map.1 h;exact⟨s,b,rfl⟩
theorem Sl{D:Nat}{p:MP}(h:p.dv D):(-p).dv D:=λt d=>by obtain⟨s,b,rfl⟩:=zQ (p:=p.l) (c:=-1) d;have:=(h s b).neg;have e:s.2*-1=-s.2:=gR;show Dv D (s.2*-1);rw[e];exact this
theorem Mm(p q:MP):p-q=p+-q:=gR
theorem Dz{D:Nat}{p q:MP}(h:p.dv D)(b:q.dv D):(p-q).dv D:=by rw[Mm];exact Dy h (Sl b)
theorem Ib(D:Nat):(0:MP).dv D:=λ_ h=>by cases h
theorem WO(D:Nat):(1:MP).dv D:=Sk (r:=1) (Dv.int D 1)
theorem xw(D:Nat)(k:Int):(c (k:Rat)).dv D:=Sk (Dv.int D k)
theorem Mo(p q:MP):(p+q).am<=p.am+q.am:=by have:=qD (p.l++q.l);rw[uB]at this;exact this
theorem DC(p q:MP):(p*q).am<=p.am*q.am:=by have:=qD (prods p.l q.l);rw[Ce]at this;exact this
theorem NZ:(0:MP).am=0:=rfl
theorem Mq(r:Rat):(c r).am=bJ r:=by
 show bF (bW r)=_;unfold bW;split
 ·rename_i h;rw[h];rfl
 ·simp only[bF];grind
theorem rT:bJ 1=1:=dM
theorem WP:(1:MP).am=1:=by rw[<-Aw,Mq,rT]
theorem WQ(p:MP):(-p).am<=p.am:=by
 have e:-p=c (-1)*p:=by refine ext' λx=>?_;rw[ev_neg,ev_mul,ev_c];grind
 have:=DC (c (-1)) p;rw[Mq]at this;rw[e];have b:bJ (-1)=1:=dM;rw[b]at this;grind
theorem Mr(p q:MP):(p-q).am<=p.am+q.am:=by have:=Mo p (-q);have:=WQ q;rw[Mm];grind
theorem WR(l:List aj)(e:Ex):bJ (cf l e)<=bF l:=by
 induction l with
 | nil=>simp only[jK,bF];decide
 | cons t l j =>
  rw[bK];simp only[bF];have h:=Ca (if t.1=e then t.2 else 0) (cf l e)
  have i:bJ (if t.1=e then t.2 else 0)<=bJ t.2:=by
   split
   ·exact Rat.le_refl
   ·have b:=fV t.2;have d:bJ 0=0:=dM;rw[d];exact b
  grind
theorem FX{D:Nat}{l:List aj}(h:∀t∈l,Dv D t.2)(e:Ex):Dv D (cf l e):=by
 induction l with
 | nil=>rw[jK];exact Dv.zero D
 | cons t l d =>
  rw[bK];refine Dv.add ?_ (d λs b=>h s (by simp[b]));split
  ·exact h t sM
  ·exact Dv.zero D
theorem Ms{p:MP}{t:aj}(h:t∈p.l):cf p.l t.1=t.2:=Le (List.Pairwise.imp (λh=>Ex.gt_ne h) p.v.1) h
theorem yI{D:Nat}{f:Nat->MP}:∀{n:Nat},(∀j,j<n->(f j).dv D)->(cO f n).dv D
 | 0,_=>Ib D
 | n+1,h=>Dy (yI λj b=>h j (by omega)) (h n (by omega))
theorem N7{K:Rat}{f:Nat->MP}:∀{n:Nat},(∀j,j<n->(f j).am<=K)->(cO f n).am<=(n:Rat)*K
 | 0,_=>by rw[cO,NZ];have e:((0:Nat):Rat)=0:=rfl;rw[e];grind
 | n+1,h=>by have b:=N7 (n:=n) λj k=>h j oM;have d:=h n oM;have i:=Mo (cO f n) (f n);rw[cO,Rat.natCast_add];have e:((1:Nat):Rat)=1:=rfl;rw[e];grind
theorem WS(p q:MP)(e:Ex):cf (p+q).l e=cf p.l e+cf q.l e:=lf_add _ p q
theorem Ic(f:Nat->MP)(e:Ex):∀n,cf (cO f n).l e=ja (λj=>cf (f j).l e) n
 | 0=>rfl
 | n+1=>by rw[cO,WS,Ic f e n];rfl
theorem qW(r:Rat)(p:MP)(e:Ex):cf (c r*p).l e=r*cf p.l e:=by
 show Lf _ _=_;rw[lf_mul];by_cases h:r=0
 ·rw[h];show(0:Rat)=_;grind
 ·have:(c r).l=[(e0,r)]:=by show bW r=_;rw[bW,if_neg h]
  rw[this,oQ,Lc];simp only[Ex.zero_add];show r*cf p.l e+0=_;grind
theorem JX{f:Nat->Rat}{g:Nat->Int}:∀{n:Nat},(∀i,i<n->f i=(g i:Rat))->ja f n=(wX g n:Rat)
 | 0,_=>rfl
 | n+1,h=>by rw[ja,wX,JX λi b=>h i (by omega),h n (by omega),Rat.intCast_add]
def Lb (v R j w:Nat):Nat:=if w<v then CU R (j%R^v) w else if w=v then j/R^v else 0
def P5 (v R j:Nat):Ex:=((Lb v R j 0:Int),(Lb v R j 1:Int),(Lb v R j 2:Int),(Lb v R j 3:Int))
theorem Ie(v R j:Nat){w:Nat}(b:w<4):(P5 v R j).get w=Lb v R j w:=by
 rcases w with _|_|_|_|w
 ·rfl
 ·rfl
 ·rfl
 ·rfl
 ·omega
theorem UO(v R j:Nat):(P5 v R j).nat=true:=by rw[Ex.nat_iff];simp only[P5];omega
theorem Ex.ext4{e f:Ex}(h:∀w,w<4->e.get w=f.get w):e=f:=Ex.ext' (h 0 oM) (h 1 oM) (h 2 oM) (h 3 oM)
def mo (v R j:Nat):MP:=⟨[(P5 v R j,1)],Bt (UO v R j) (by decide)⟩
theorem VM(v R j:Nat):(mo v R j).dv 1:=λt b=>by rw[List.mem_singleton.1 b];exact Dv.int 1 1
theorem X7(v R j:Nat):(mo v R j).am=1:=by show bJ 1+0=(1:Rat);rw[rT];decide +kernel
theorem Mt(v R j:Nat){w:Nat}(b:w<4):(mo v R j).deg w=Lb v R j w:=by show max (-1) ((P5 v R j).get w)=_;rw[Ie _ _ _ b];omega
theorem WT{v R:Nat}(b:0<R)(j:Nat){w:Nat}(h:w<v):Lb v R j w<R:=by rw[Lb,if_pos h];exact CV b _ _
theorem Ig(v R j:Nat):Lb v R j v=j/R^v:=by rw[Lb,if_neg oM,if_pos rfl]
theorem UQ{v R:Nat}(hv:v<4)(d:0<R){i j:Nat}(h:P5 v R i=P5 v R j):i=j:=by
 have b:∀w,w<4->Lb v R i w=Lb v R j w:=λw b=>by have:=congrArg (Ex.get · w) h;simp only[Ie _ _ _ b]at this;omega
 have e:=b v hv;rw[Ig,Ig]at e
 have k:i%R^v=j%R^v:=Ho d v _ _ (Nat.mod_lt _ (Nat.pow_pos d)) (Nat.mod_lt _ (Nat.pow_pos d)) λw h=>by have:=b w oM;rw[Lb,Lb,if_pos h,if_pos h]at this;exact this
 have:=Nat.div_add_mod i (R^v);have:=Nat.div_add_mod j (R^v);rw[e,k]at *;omega
theorem JY{W:Nat}:∀(n:Nat)(y:Nat->Nat),(∀i,i<n->y i<W)->∀i,i<n->CU W (oP W y n) i=y i
 | 0,_,_=>λi b=>by omega
 | n+1,y,h=>λi b=>by
  have h0:=h 0 oM
  cases i with
  | zero=>rw[CU,oP,Nat.add_mul_mod_self_left,Nat.mod_eq_of_lt h0]
  | succ i =>
   rw[CU,oP,Nat.add_mul_div_left _ _ oM,Nat.div_eq_of_lt h0,Nat.zero_add];exact JY n _ (λi b=>h (i+1) oM) i oM
theorem WU{v R:Nat}(hv:v<4)(n:0<R){e:Ex}(h0:e.nat=true)(j:∀w,w<v->e.get w<R)(h:∀w,v<w->w<4->e.get w=0):∃r,r<R^v/\e=P5 v R (r+R^v*(e.get v).toNat):=by
 have k:∀i,i<v->(e.get i).toNat<R:=λi o=>by have:=j i o;have:=Ex.nat_get h0 i;omega
 refine⟨oP R (λw=>(e.get w).toNat) v,yg v _ k,Ex.ext4 λw m=>?_⟩;have b:=yg v _ k;rw[Ie _ _ _ m,Lb];have:=Ex.nat_get h0 w;by_cases d:w<v
 ·rw[if_pos d,Nat.add_mul_mod_self_left,Nat.mod_eq_of_lt b,JY v _ k w d];omega
 ·rw[if_neg d];by_cases l:w=v
  ·subst l;rw[if_pos rfl,Nat.add_mul_div_left _ _ (Nat.pow_pos n),Nat.div_eq_of_lt b,Nat.zero_add];omega
  ·rw[if_neg l,h w oM m];rfl
def uy (v R A:Nat) (p q:MP) (j:Nat):MP:=if j<A then mo v R j*p else mo v R (j-A)*q
theorem FY{v R j H:Nat}{p:MP}(h:p.am<=(H:Rat)):(mo v R j*p).am<=(H:Rat):=by have:=DC (mo v R j) p;rw[X7]at this;grind
theorem JZ{v:Nat}(hv:v<4){p q:MP}(lp:p.lo (v+1))(lq:q.lo (v+1))(ip:p.dv 1)(iq:q.dv 1){m n k d H R X:Nat}(hm:p.deg v<=m)(hn:q.deg v<=n)(ar:k<m)(au:k<n)
  (hp:∀w,w<v->p.deg w<=d) (hq:∀w,w<v->q.deg w<=d) (ap:p.am<=(H:Rat)) (aq:q.am<=(H:Rat)) (hR:0<R)
  (Y:(2*((m+n-2*k)*R^v*(X*H))+1)^((m+n-2*k-1)*(R+d)^v)<(X+1)^((m+n-2*k)*R^v)) :
  ∃S T:MP,(S≠0\/T≠0)/\S.deg v<n-k/\(S*p+T*q).deg v<=k/\(∀w,w<v->(S*p+T*q).deg w<=((R-1+d:Nat):Int))/\(S*p+T*q).dv 1/\(S*p+T*q).am<=(((m+n-2*k)*R^v*(X*H):Nat):Rat)/\(S*p+T*q).lo (v+1):=by
 obtain⟨u,hu⟩:∃u,u=m+n - 2*k:=⟨_,rfl⟩;rw[<-hu]at Y ⊢;obtain⟨b,hS⟩:∃b,b=n - k:=⟨_,rfl⟩;obtain⟨L,hT⟩:∃L,L=m - k:=⟨_,rfl⟩;have C:u=b+L:=oM;obtain⟨Q,hQ⟩:∃Q,Q=R^v:=⟨_,rfl⟩;have J:0<Q:=by rw[hQ];exact Nat.pow_pos hR
 rw[<-hQ]at Y ⊢;obtain⟨O,a6⟩:∃O,O=R+d:=⟨_,rfl⟩;rw[<-a6]at Y;obtain⟨B,I⟩:∃B,B=O^v:=⟨_,rfl⟩;have al:0<B:=by rw[I];exact Nat.pow_pos oM
 rw[<-I]at Y
 have hdvB:∀j,(uy v R (b*Q) p q j).dv 1:=λj=>by
  unfold uy;split
  ·exact jr (VM _ _ _) ip
  ·exact jr (VM _ _ _) iq
 have hamB:∀j,(uy v R (b*Q) p q j).am<=(H:Rat):=λj=>by
  unfold uy;split
  ·exact FY ap
  ·exact FY aq
 have ab:∀j e,∃z:Int,cf (uy v R (b*Q) p q j).l e=(z:Rat)/\z.natAbs<=H:=λj e=>by obtain⟨z,hz⟩:=jB (FX (hdvB j) e);refine⟨z,hz,WN ?_⟩;rw[<-hz];exact Rat.le_trans (WR _ _) (hamB j)
 have ac:∃M:Nat->Ex->Int,∀j e,cf (uy v R (b*Q) p q j).l e=(M j e:Rat)/\(M j e).natAbs<=H :=
  ⟨λj e=>(cf (uy v R (b*Q) p q j).l e).num,λj e=>by
   obtain⟨z,hz,ag⟩:=ab j e
   simp only[hz];exact⟨rfl,ag⟩⟩
 obtain⟨M,hM⟩:=ac;obtain⟨s,s1,⟨j0,j1,j2⟩,s3⟩:=WC (e:=(u - 1)*B) (n:=u*Q) (H:=H) (X:=X) (λi j=>M j (P5 v O (i+B*(k+1)))) (λi j _ _=>(hM j _).2) Y
 let S:MP:=cO (λj=>c (s j:Rat)*mo v R j) (b*Q)
 let T:MP:=cO (λj=>c (s (b*Q+j):Rat)*mo v R j) (L*Q)
 have G:S*p+T*q=cO (λj=>c (s j:Rat)*uy v R (b*Q) p q j) (u*Q):=by
  rw[C,Nat.add_mul,wY,<-vW,<-vW]
  congr 1
  ·refine dI λj E=>?_;simp only[uy,if_pos E];grind
  ·refine dI λj E=>?_;simp only[uy,if_neg (oM:¬b*Q+j<b*Q),(oM:b*Q+j-b*Q=j)];grind
 have a2:∀(r:Rat)(w:Nat),(c r).fr w:=λr w=>by
  by_cases h:r=0
  ·rw[h];exact qR w
  ·exact sI one_ne (zo h) (sN w)
 have a5:∀j w,w<v->(mo v R j).deg w<=(R-1:Nat):=λj w F=>by rw[Mt _ _ _ oM];have:=WT hR j F;omega
 have K:∀j,(mo v R j).deg v=((j/Q:Nat):Int):=λj=>by rw[Mt _ _ _ hv,Ig,hQ]
 have hi:∀j w,v<w->w<4->(mo v R j).deg w=0:=λj w o y=>by rw[Mt _ _ _ y,Lb,if_neg oM,if_neg oM];rfl
 have aa:∀j w,w<v->(uy v R (b*Q) p q j).deg w<=(R-1+d:Nat):=λj w F=>by
  unfold uy;split
  ·exact Int.le_trans (dh w _ _ (a5 j w F) (hp w F) oM) oM
  ·exact Int.le_trans (dh w _ _ (a5 _ w F) (hq w F) oM) oM
 have a8:∀j w,v<w->w<4->(uy v R (b*Q) p q j).deg w<=0:=λj w o y=>by
  unfold uy;split
  ·exact Int.le_trans (dh w _ _ (Int.le_of_eq (hi _ w o y)) (lp w o y) oM) oM
  ·exact Int.le_trans (dh w _ _ (Int.le_of_eq (hi _ w o y)) (lq w o y) oM) oM
 have a9:∀j,j<u*Q->(uy v R (b*Q) p q j).deg v<=(m+n-k-1:Nat):=λj E=>by
  unfold uy;split
  ·rename_i h;have o:j/Q<b:=(Nat.div_lt_iff_lt_mul J).2 h;have y:=K j;obtain⟨c,hc⟩:∃c:Nat,c=j/Q:=⟨_,rfl⟩;rw[<-hc]at o y;exact Int.le_trans (dh v _ _ (Int.le_of_eq y) hm oM) oM
  ·rename_i h;have o:(j - b*Q)/Q<L:=(Nat.div_lt_iff_lt_mul J).2 (by rw[C,Nat.add_mul]at E;omega);have y:=K (j - b*Q);obtain⟨c,hc⟩:∃c:Nat,c=(j - b*Q)/Q:=⟨_,rfl⟩;rw[<-hc]at o y;exact Int.le_trans (dh v _ _ (Int.le_of_eq y) hn oM) oM
 have hd:∀(w:Nat)(D:Nat),(∀j,j<u*Q->(uy v R (b*Q) p q j).deg w<=D)->(S*p+T*q).deg w<=D:=λw D h=>by rw[G];refine qx oM λj E=>?_;have:=dh w (c (s j:Rat)) _ (a2 _ w) (h j E) oM;omega
 have a3:∀w,w<v->(S*p+T*q).deg w<=(R-1+d:Nat):=λw F=>hd w _ λj _=>aa j w F;have a1:∀w,v<w->w<4->(S*p+T*q).deg w<=0:=λw o y=>hd w 0 λj _=>a8 j w o y;have ao:(S*p+T*q).deg v<=(m+n-k-1:Nat):=hd v _ a9
 have a4:∀(f:Nat->Int)(N:Nat),cO (λj=>c (f j:Rat)*mo v R j) N=0->∀j,j<N->f j=0:=by
  intro f N h0 j E;have o:=congrArg (λg=>cf g.l (P5 v R j)) h0;simp only[Ic]at o;rw[Ch E λi hi ad=>?_,qW]at o
  ·have e1:cf (mo v R j).l (P5 v R j)=1:=by show cf [_] _=_;rw[bK,jK,if_pos rfl];exact Rat.add_zero _
   have e2:cf (0:MP).l (P5 v R j)=0:=rfl;rw[e1,e2]at o;exact Rat.intCast_inj.1 (by rw[Rat.mul_one]at o;exact o)
  ·rw[qW]
   have:cf (mo v R i).l (P5 v R j)=0:=by show cf [_] _=_;rw[bK,jK,if_neg λh=>ad (UQ hv hR h)];exact Rat.add_zero _
   rw[this];grind
 have Z:(S*p+T*q).dv 1:=by rw[G];exact yI λj _=>jr (xw 1 _) (hdvB j)
 refine⟨S,T,?_,?_,?_,a3,Z,?_,λw o y=>a1 w o y⟩
 ·by_cases W:S=0
  ·refine .inr λa7=>j2 ?_;rcases Nat.lt_or_ge j0 (b*Q)with h|h
   ·exact a4 s _ W j0 h
   ·have an:u*Q=b*Q+L*Q:=by rw[C,Nat.add_mul]
    have:=a4 (λj=>s (b*Q+j)) (L*Q) a7 (j0-b*Q) oM;simp only[(oM:b*Q+(j0-b*Q)=j0)]at this;exact this
  ·exact .inl W
 ·have:S.deg v<=(b-1:Nat):=qx oM λj E=>by
   have o:j/Q<b:=(Nat.div_lt_iff_lt_mul J).2 E;have y:=K j;obtain⟨x,hc⟩:∃x:Nat,x=j/Q:=⟨_,rfl⟩;rw[<-hc]at o y;have:=dh v (c (s j:Rat)) (mo v R j) (a2 _ v) (Int.le_of_eq y) oM;omega
  omega
 ·by_cases a0:S*p+T*q=0
  ·rw[a0,deg_zero];omega
  ·rcases Int.lt_or_le k ((S*p+T*q).deg v)with hlt|lv
   ·exfalso;obtain⟨t,ht,e⟩:=rG (λh=>a0 (zero_iff.2 h)) (S*p+T*q).v.nat v;have e':t.1.get v=(S*p+T*q).deg v:=e;have tn:=(S*p+T*q).v.nat t ht
    obtain⟨r,r1,r2⟩:=WU hv (oM:0<O) tn (λw F=>by
     have:=dR ht w;have h':aD (S*p+T*q).l w<=(R-1+d:Nat):=a3 w F;omega) (λw o y=>by
     have:=dR ht w;have h':aD (S*p+T*q).l w<=0:=a1 w o y;have:=Ex.nat_get tn w;omega)
    rw[<-I]at r1 r2;obtain⟨l,hl⟩:∃l,l=(t.1.get v).toNat:=⟨_,rfl⟩;rw[<-hl]at r2;have av:k+1<=l/\l<k+1+(u - 1):=oM
    have hi:r+B*(l-(k+1))<(u-1)*B:=by have:=Nat.mul_le_mul_left B (oM:l-(k+1)+1<=u-1);rw[Nat.mul_succ,Nat.mul_comm B (u-1)]at this;omega
    have h3:=s3 _ hi
    have e3:r+B*(l-(k+1))+B*(k+1)=r+B*l:=by rw[Nat.add_assoc,<-Nat.mul_add];congr 2;omega
    simp only[e3,<-r2]at h3
    have h4:cf (S*p+T*q).l t.1=0:=by rw[G,Ic,JX (g:=λj=>s j*M j t.1) λi _=>by rw[qW,(hM i _).1,Rat.intCast_mul],h3];rfl
    rw[Ms ht]at h4;exact((S*p+T*q).v.2 t ht).1 h4
   ·exact lv
 ·rw[G];have:(((u*Q*(X*H):Nat)):Rat)=((u*Q:Nat):Rat)*((X*H:Nat):Rat):=by rw[Rat.natCast_mul]
  rw[this];refine N7 λj _=>?_;have o:=DC (c (s j:Rat)) (uy v R (b*Q) p q j);rw[Mq]at o;refine Rat.le_trans o ?_;rw[Rat.natCast_mul];refine sD ?_ (hamB j) (fV _) Rat.natCast_nonneg;have y:=s1 j;unfold bJ;split
  ·rw[<-Rat.intCast_neg,<-iN];exact Rat.intCast_le_intCast.2 oM
  ·rw[<-iN];exact Rat.intCast_le_intCast.2 oM
end MP
end Q
end
section
namespace Q
def QD (p:Nat):Prop:=1<p/\∀m,m∣p->m=1\/m=p
theorem WV:∀n:Nat,1<n->∃p,QD p/\p∣n:=λn=>by
 induction n using Nat.strongRecOn with
 | _ n ih =>
  intro h;by_cases hp:QD n
  ·exact⟨n,hp,Nat.dvd_refl n⟩
  ·have:∃m,m∣n/\m≠1/\m≠n:=by
    rcases Classical.em (∃m,m∣n/\m≠1/\m≠n)with h'|h'
    ·exact h'
    ·exfalso;apply hp;refine⟨h,λm hm=>?_⟩;rcases Classical.em (m=1)with b|b
     ·exact .inl b
     ·rcases Classical.em (m=n)with d|d
      ·exact .inr d
      ·exact absurd ⟨m,hm,b,d⟩ h'
   obtain⟨m,hm,b,d⟩:=this;have lv:=Nat.le_of_dvd oM hm;have h0:m≠0:=λe=>by rw[e]at hm;have:=Nat.eq_zero_of_zero_dvd hm;omega
   obtain⟨p,hp,hd⟩:=ih m oM oM;exact⟨p,hp,Nat.dvd_trans hd hm⟩
theorem BN{p:Nat}(hp:QD p){a b:Int}(h:(p:Int)∣a*b):(p:Int)∣a\/(p:Int)∣b:=by
 rcases hp.2 _ (Nat.gcd_dvd_left p a.natAbs)with h1|h1
 ·right;have d:p∣a.natAbs*b.natAbs:=by rw[<-Int.natAbs_mul];exact Int.ofNat_dvd_left.1 h
  exact Int.ofNat_dvd_left.2 (Nat.Coprime.dvd_of_dvd_mul_left h1 d)
 ·left;have:=Nat.gcd_dvd_right p a.natAbs;rw[h1]at this;exact Int.ofNat_dvd_left.2 this
namespace MP
theorem tQ(r:Rat)(p:MP):c r*p=⟨bS p.l r,p.v.scale r⟩:=ext' λx=>by rw[ev_mul,ev_c];have:=Q.ev_scale x p.l r;show r*Q.ev x p.l=Q.ev x (bS p.l r);rw[this];grind
theorem tT(r:Rat)(p:MP):(c r*p).am=bJ r*p.am:=by
 rw[tQ];show bF (bS p.l r)=bJ r*bF p.l;unfold bS;split
 ·rename_i h;rw[h];show(0:Rat)=_;have e:bJ 0=0:=dM;rw[e];grind
 ·induction p.l with
  | nil=>simp only[List.map_nil,bF];grind
  | cons t l b=>simp only[List.map_cons,bF,jS]at *;grind
theorem DD{r:Rat}{p:MP}{t:aj}(h:t∈(c r*p).l):∃s∈p.l,t=(s.1,s.2*r):=by rw[tQ]at h;exact zQ h
theorem rU{D:Nat}{p:MP}(h:p.dv D):(c (D:Rat)*p).dv 1:=λt e=>by obtain⟨s,d,rfl⟩:=DD e;obtain⟨k,b⟩:=h s d;exact⟨k,by show s.2*D*((1:Nat):Rat)=k;rw[b,show((1:Nat):Rat)=1 from rfl,Rat.mul_one]⟩
theorem jQ{D:Nat}(h:0<D):(D:Rat)≠0:=λb=>by have:(D:Rat)=((0:Nat):Rat):=b;have:=Rat.natCast_inj.1 this;omega
theorem Mv{D:Nat}(h0:0<D){p:MP}(h:(c (D:Rat)*p).dv 1):p.dv D:=λt b=>by
 have e:cf (c (D:Rat)*p).l t.1=D*t.2:=by rw[qW,Ms b]
 obtain⟨z,hz⟩:=jB (FX h t.1);exact⟨z,by rw[<-hz,e];grind⟩
def DF (p:Nat) (P:MP):Prop:=∃P':MP,P'.dv 1/\P=c (p:Rat)*P'
theorem Ih{p:Nat}{a b:MP}(h:DF p a)(d:DF p b):DF p (a+b):=by obtain⟨x,e,rfl⟩:=h;obtain⟨y,i,rfl⟩:=d;exact⟨x+y,Dy e i,gR⟩
theorem UR{p:Nat}{a b:MP}(h:DF p a)(d:DF p b):DF p (a-b):=by obtain⟨x,e,rfl⟩:=h;obtain⟨y,i,rfl⟩:=d;exact⟨x - y,Dz e i,gR⟩
theorem N8{p:Nat}{a b:MP}(h:DF p a)(d:b.dv 1):DF p (a*b):=by obtain⟨x,e,rfl⟩:=h;exact⟨x*b,jr e d,gR⟩
theorem Sm{p:Nat}{a b:MP}(h:DF p b)(d:a.dv 1):DF p (a*b):=by obtain⟨x,e,rfl⟩:=h;exact⟨a*x,jr d e,gR⟩
theorem vg(p:Nat):DF p 0:=⟨0,Ib 1,gR⟩
theorem UT(f:Ex->Rat)(b:aj->Bool)(l:List aj):Lf f l=Lf f (l.filter b)+Lf f (l.filter λt=>!b t):=by
 induction l with
 | nil=>simp only[List.filter_nil,Lf];grind
 | cons t l d=>cases hb:b t<;>simp only[List.filter_cons,hb,Lf,d,Bool.not_true,Bool.not_false,if_true,if_false,Bool.false_eq_true]<;>grind
def Ua (b:aj->Bool) (p:MP):MP:=⟨p.l.filter b,p.v.sublist List.filter_sublist⟩
theorem Ii(b:aj->Bool)(p:MP):p=Ua b p+Ua (λt=>!b t) p:=O9 λf=>by rw[lf_add];exact UT f b p.l
theorem Mw{D:Nat}{b:aj->Bool}{p:MP}(h:p.dv D):(Ua b p).dv D:=λt d=>h t (List.mem_filter.1 d).1
def wJ (p:Nat) (t:aj):Bool:=decide (t.2.num%(p:Int)=0)
theorem Ij{p:Nat}(hp:0<p){P:MP}(h:P.dv 1):DF p (Ua (wJ p) P):=by
 refine⟨c ((p:Rat)⁻¹)*Ua (wJ p) P,λt n=>?_,?_⟩
 ·obtain⟨s,m,rfl⟩:=DD n;have d:s∈P.l.filter (wJ p):=m;obtain⟨i,j⟩:=List.mem_filter.1 d;obtain⟨z,hz⟩:=jB (h s i);have b:s.2.num%(p:Int)=0:=of_decide_eq_true j;rw[hz]at b;have b:z%(p:Int)=0:=b;obtain⟨k,rfl⟩:=Int.dvd_of_emod_eq_zero b;refine⟨k,?_⟩;show s.2*(p:Rat)⁻¹*((1:Nat):Rat)=k;rw[hz,Rat.intCast_mul,iN,show((1:Nat):Rat)=1 from rfl];have:=Rat.mul_inv_cancel _ (jQ hp);grind
 ·have e:c (p:Rat)*c ((p:Rat)⁻¹)=1:=by rw[mR,Rat.mul_inv_cancel _ (jQ hp)];rfl
  grind
theorem UU{G H:MP}{s t:aj}{l r:List aj}(b:G.l=s::l)(d:H.l=t::r):cf (G*H).l (s.1.add t.1)=s.2*t.2:=by have e:cf (G*H).l (s.1.add t.1)=cf (prods G.l H.l) (s.1.add t.1):=(iB (G.v.nat.prods H.v.nat)).cf _;rw[e,b,d];exact rf (by rw[<-b];exact G.v.1) (by rw[<-d];exact H.v.1)
theorem FZ{p:Nat}(hp:QD p){G H:MP}(K:G.dv 1)(C:H.dv 1)(h:DF p (G*H)):DF p G\/DF p H:=by
 have k:0<p:=by have:=hp.1;omega
 have E:=Ii (wJ p) G;have F:=Ii (wJ p) H;have L:=Ij k K;have zH:=Ij k C;obtain⟨i,b⟩:∃g,g=Ua (λt=>!wJ p t) G:=⟨_,rfl⟩;obtain⟨j,d⟩:∃g,g=Ua (λt=>!wJ p t) H:=⟨_,rfl⟩;have u:i.dv 1:=by rw[b];exact Mw K
 have D:j.dv 1:=by rw[d];exact Mw C
 rw[<-b]at E;rw[<-d]at F
 cases hGl:i.l with
 | nil=>left;rw[E,zero_iff.2 hGl];exact Ih L (vg p)
 | cons s l =>
  cases hHl:j.l with
  | nil=>right;rw[F,zero_iff.2 hHl];exact Ih zH (vg p)
  | cons t r =>
   exfalso
   have hz:DF p (i*j):=by have e:i*j=G*H-(Ua (wJ p) G*H+i*Ua (wJ p) H):=gR;rw[e];exact UR h (Ih (N8 L C) (Sm zH u))
   obtain⟨W,S,M⟩:=hz;have B:=UU hGl hHl;rw[M,qW]at B;obtain⟨z,hz⟩:=jB (FX S (s.1.add t.1));obtain⟨x,I⟩:=jB (u s (by rw[hGl];simp));obtain⟨y,J⟩:=jB (D t (by rw[hHl];simp));rw[hz,I,J,<-iN,<-Rat.intCast_mul,<-Rat.intCast_mul]at B;have N:=Rat.intCast_inj.1 B;have n:s∈i.l:=by rw[hGl];simp
   have q:t∈j.l:=by rw[hHl];simp
   rw[b]at n;rw[d]at q;have O:s∈G.l.filter (λt=>!wJ p t):=n;have R:t∈H.l.filter (λt=>!wJ p t):=q;have m:=(List.mem_filter.1 O).2;have o:=(List.mem_filter.1 R).2;simp only[wJ,Bool.not_eq_true',decide_eq_false_iff_not,I,J]at m o;rcases BN hp ⟨z,N.symm⟩with h|h
   ·exact m (Int.emod_eq_zero_of_dvd h)
   ·exact o (Int.emod_eq_zero_of_dvd h)
def pz (G:MP):Prop:=G.dv 1/\∀p,QD p->¬DF p G
theorem tV{n:Nat}(h:1<=n):(1:Rat)<=(n:Rat):=by have e:(1:Rat)=((1:Nat):Rat):=rfl;rw[e];exact Rat.natCast_le_natCast.2 h
theorem rabs_int{z:Int}(h:z≠0):(1:Rat)<=bJ (z:Rat):=by
 unfold bJ;have e:(1:Rat)=((1:Int):Rat):=rfl;split
 ·rename_i b;have e0:(0:Rat)=((0:Int):Rat):=rfl;rw[e0]at b;have:z<0:=Rat.intCast_lt_intCast.1 b;rw[e,<-Rat.intCast_neg];exact Rat.intCast_le_intCast.2 oM
 ·rename_i b;have e0:(0:Rat)=((0:Int):Rat):=rfl;rw[e0]at b;have:¬z<0:=λhz=>b (Rat.intCast_lt_intCast.2 hz);rw[e];exact Rat.intCast_le_intCast.2 oM
theorem je{p:MP}(h:p≠0):∃t l,p.l=t::l:=by
 cases e:p.l with
 | nil=>exact absurd (zero_iff.2 e) h
 | cons t l=>exact⟨t,l,rfl⟩
theorem F5{p:MP}(h:p.dv 1)(h0:p≠0):1<=p.am:=by
 obtain⟨t,l,e⟩:=je h0;have b:t∈p.l:=by rw[e];simp
 obtain⟨z,hz⟩:=jB (h t b);have d:=uC b
 have i:(1:Rat)<=bJ t.2:=by rw[hz];refine rabs_int λe0=>(p.v.2 t b).1 ?_;rw[hz,e0];rfl
 show 1<=bF p.l;grind
theorem zR{r:Rat}(h:r≠0):c r≠0:=Bz (zo h)
theorem VN:∀(k:Nat)(P:MP),P≠0->P.dv 1->P.am<=(2:Rat)^k->∃r:Rat,r≠0/\pz (c r*P)
 | k,P,h0,h1,h2=>by
  by_cases hz:∃p,QD p/\DF p P
  ·obtain⟨p,hp,d,n,e⟩:=hz;have b:0<p:=by have:=hp.1;omega
   have i:d≠0:=λo=>h0 (by rw[e,o];grind)
   have ha:(p:Rat)*d.am=P.am:=by rw[e,tT,bT (by have:(0:Rat)<=(p:Rat):=Rat.natCast_nonneg;exact this)]
   have hg:=F5 n i
   have l:(2:Rat)<=(p:Rat):=by have j:(2:Rat)=((2:Nat):Rat):=rfl;rw[j];exact Rat.natCast_le_natCast.2 hp.1
   have hm:(2:Rat)*d.am<=(p:Rat)*d.am:=Rat.mul_le_mul_of_nonneg_right l gR
   cases k with
   | zero=>exfalso;rw[Rat.pow_zero]at h2;grind
   | succ k =>
    rw[Rat.pow_succ]at h2;obtain⟨r,q,m⟩:=VN k d i n gR;refine⟨r*(p:Rat)⁻¹,jm q (λh=>jQ b (by have:=Rat.mul_inv_cancel _ (jQ b);rw[h]at this;grind)),?_⟩
    have j:c (r*(p:Rat)⁻¹)*P=c r*d:=by
     rw[e,<-mR];have e:c ((p:Rat)⁻¹)*c (p:Rat)=1:=by rw[mR,Rat.inv_mul_cancel _ (jQ b)];rfl
     grind
    rw[j];exact m
  ·refine⟨1,dM,?_⟩;have e:c 1*P=P:=by rw[Aw];grind
   rw[e];exact⟨h1,λp hp h=>hz ⟨p,hp,h⟩⟩
theorem Sn:∀l:List aj,∃D,0<D/\∀t∈l,Dv D t.2
 | []=>⟨1,by omega,λ_ h=>by cases h⟩
 | t::l=>by
  obtain⟨D,d,b⟩:=Sn l
  have j:Dv t.2.den t.2:=⟨t.2.num,by
   have d:(t.2.den:Rat)≠0:=jQ t.2.den_pos;have b:=Rat.num_divInt_den t.2;rw[Rat.divInt_eq_div,iN]at b;have i:(t.2.num:Rat)/(t.2.den:Rat)*(t.2.den:Rat)=t.2.num:=Rat.div_mul_cancel d
   rwa[b]at i⟩
  refine⟨t.2.den*D,Nat.mul_pos t.2.den_pos d,λs e=>?_⟩;rcases List.mem_cons.1 e with rfl|e
  ·exact j.dvd (Nat.dvd_mul_right _ _)
  ·exact(b s e).dvd (Nat.dvd_mul_left _ _)
theorem MB(r:Rat):∃k:Nat,r<=(2:Rat)^k:=by
 have j:∀n:Nat,(n:Rat)<=(2:Rat)^n:=λn=>by
  induction n with
  | zero=>rw[Rat.pow_zero];decide
  | succ n o =>
   have b:(1:Rat)<=(2:Rat)^n:=by have:=(zh (T:=2) dM (Nat.zero_le n)).2;rwa[Rat.pow_zero]at this
   rw[Rat.pow_succ,Rat.natCast_add];have e:((1:Nat):Rat)=1:=rfl;rw[e];grind
 refine⟨r.num.natAbs,Rat.le_trans ?_ (j _)⟩
 have b:r*(r.den:Rat)=r.num:=by have b:(r.den:Rat)≠0:=jQ r.den_pos;have d:=Rat.num_divInt_den r;rw[Rat.divInt_eq_div,iN]at d;have h:(r.num:Rat)/(r.den:Rat)*(r.den:Rat)=r.num:=Rat.div_mul_cancel b;rwa[d]at h
 rcases zk r with hr|hr
 ·have:(0:Rat)<=(r.num.natAbs:Rat):=Rat.natCast_nonneg;grind
 ·have i:(1:Rat)<=(r.den:Rat):=by
   have e:(1:Rat)=((1:Nat):Rat):=rfl;rw[e];exact Rat.natCast_le_natCast.2 r.den_pos
  have l:r*1<=r*(r.den:Rat):=Rat.mul_le_mul_of_nonneg_left i hr;have m:(r.num:Rat)<=(r.num.natAbs:Rat):=by rw[<-iN];exact Rat.intCast_le_intCast.2 oM
  grind
theorem VO{P:MP}(h:P≠0):∃r:Rat,r≠0/\pz (c r*P):=by obtain⟨D,b,d⟩:=Sn P.l;obtain⟨k,i⟩:=MB (c (D:Rat)*P).am;obtain⟨r,j,hp⟩:=VN k (c (D:Rat)*P) (mul_ne (zR (jQ b)) h) (rU d) i;refine⟨r*D,jm j (jQ b),?_⟩;rw[<-mR];have e:c r*c (D:Rat)*P=c r*(c (D:Rat)*P):=gR;rw[e];exact hp
theorem Sr{F G H:MP}(o:F.dv 1)(m:pz G)(e:F=G*H):H.dv 1:=by
 obtain⟨D,j,d⟩:=Sn H.l
 have key:∀D:Nat,0<D->H.dv D->H.dv 1:=λD=>by
  induction D using Nat.strongRecOn with
  | _ D ih =>
   intro j d;rcases Nat.eq_or_lt_of_le (oM:1<=D)with e1|hlt
   ·rw[<-e1]at d;exact d
   ·obtain⟨p,hp,b,rfl⟩:=WV D hlt;have k:=hp.1;have i:0<b:=Nat.pos_of_mul_pos_left j
    have hz:DF p (G*(c ((p*b:Nat):Rat)*H)):=⟨c (b:Rat)*F,jr (Sk ⟨b,by rw[show((1:Nat):Rat)=1 from rfl,Rat.mul_one,iN]⟩) o,by
     rw[e,Rat.natCast_mul,<-mR];grind⟩
    rcases FZ hp m.1 (rU d) hz with h|h
    ·exact absurd h (m.2 p hp)
    ·obtain⟨K,q,n⟩:=h
     have:c (b:Rat)*H=K:=cancel (zR (jQ (by omega:0<p))) (by
      rw[<-n,Rat.natCast_mul,<-mR];grind)
     refine ih b ?_ i (Mv i (by rw[this];exact q));have:=Nat.mul_le_mul_right b k;omega
 exact key D j d
def at' (w:Nat) (r:Rat) (p:MP):MP:=⟨xR p.l w r,bQ.eval _ _ _⟩
theorem rV(x:Pt)(w:Nat)(r:Rat)(p:MP):(at' w r p).ev x=p.ev (x.put w r):=Q.ev_eval x p.v.nat w r
theorem WW(w:Nat)(r:Rat)(p q:MP):at' w r (p+q)=at' w r p+at' w r q:=ext' λx=>by rw[rV,ev_add,ev_add,rV,rV]
theorem DI(w:Nat)(r:Rat)(p q:MP):at' w r (p*q)=at' w r p*at' w r q:=ext' λx=>by rw[rV,ev_mul,ev_mul,rV,rV]
theorem WX(w:Nat)(r:Rat)(p q:MP):at' w r (p-q)=at' w r p-at' w r q:=ext' λx=>by rw[rV,ev_sub,ev_sub,rV,rV]
theorem Zt(w:Nat)(r s:Rat):at' w r (c s)=c s:=ext' λx=>by rw[rV,ev_c,ev_c]
theorem Su{w:Nat}(r:Rat){p:MP}(h:p.fr w):at' w r p=p:=ext' λx=>by
 rw[rV];have e:=split w p (N:=1) (by have i:p.deg w<=0:=h;omega);have j:∀y:Pt,p.ev y=(p.co w 0).ev y:=λy=>by rw[G5 h]
 show Lf (xP (x.put w r)) p.l=Lf (xP x) p.l;refine iZ λt b=>?_;rw[GQ,fr_get h b];have d:t.1.put w 0=t.1:=by rw[<-fr_get h b,Ex.put_get]
 rw[d];simp[Rat.pow_zero]
theorem N9(w:Nat)(r:Rat)(p:MP):(at' w r p).fr w:=O8 _ _ _
theorem Ik{w:Nat}(r:Rat)(p:MP){u d:Nat}(j:w<4)(hu:u<4)(h:p.deg u<=d):(at' w r p).deg u<=d:=by
 have:∀t∈(at' w r p).l,t.1.get u<=d:=by
  refine mf (P:=λe=>e.get u<=d) λt b=>?_;obtain⟨s,i,rfl⟩:=List.mem_map.1 b;have m:=dR i u;have k:aD p.l u<=d:=h;by_cases hc:w=u
  ·subst hc;show(s.1.put w 0).get w<=d;rw[Ex.get_put];omega
  ·show(s.1.put w 0).get u<=d;rw[Ex.get_put_ne _ j hu hc];omega
 rcases(gz (λt=>t.1.get u) (at' w r p).l (-1)).2.2 with e|⟨t,b,e⟩
 ·show aD _ u<=_;unfold aD;rw[e];omega
 ·show aD _ u<=_;unfold aD;rw[<-e];exact this t b
theorem X8{n:Nat}(j:n<4){p:MP}(h:p.lo (n+1))(r:Rat):(at' n r p).lo n:=λw d b=>by
 rcases Nat.eq_or_lt_of_le d with e|hlt
 ·subst e;exact N9 _ _ _
 ·have i:p.deg w<=(0:Nat):=h w hlt b;exact Ik r p j b i
theorem Sv{D:Nat}{p:MP}(h:p.dv D)(w:Nat)(i:Int):(at' w (i:Rat) p).dv D:=yH λt e=>by
 obtain⟨s,d,rfl⟩:=List.mem_map.1 e
 have b:Dv 1 ((i:Rat)^(s.1.get w).toNat):=by
  induction (s.1.get w).toNat with
  | zero=>rw[Rat.pow_zero];exact Dv.int 1 1
  | succ n j=>rw[Rat.pow_succ];exact j.mul (Dv.int 1 i)
 have:=(h s d).mul b;rw[nU]at this;exact this
theorem X9{p:MP}{w d i T:Nat}(hd:p.deg w<=d)(q:i<=T)(m:1<=T):(at' w ((i:Nat):Rat) p).am<=p.am*(T:Rat)^d:=by
 have n:=qD (evalL p.l w (i:Rat));refine Rat.le_trans n ?_
 have o:∀t∈p.l,bJ (t.2*(i:Rat)^(t.1.get w).toNat)<=bJ t.2*(T:Rat)^d:=λt s=>by
  rw[jS]
  refine sD Rat.le_refl ?_ (fV _) (by
   exact(zh (T:=(T:Rat)) (tV m) (nL d)).1)
  have r:(t.1.get w).toNat<=d:=by have:=dR s w;have u:aD p.l w<=d:=hd;omega
  have j:∀k:Nat,0<=(i:Rat)^k/\(i:Rat)^k<=(T:Rat)^k:=λk=>by
   induction k with
   | zero=>rw[Rat.pow_zero,Rat.pow_zero];exact⟨dM,Rat.le_refl⟩
   | succ k h =>
    rw[Rat.pow_succ,Rat.pow_succ];have e:(i:Rat)<=(T:Rat):=Rat.natCast_le_natCast.2 q;have b:(0:Rat)<=(i:Rat):=Rat.natCast_nonneg;exact⟨Rat.mul_nonneg h.1 b,sD h.2 e h.1 (Rat.le_trans b e)⟩
  rw[bT (j _).1];exact Rat.le_trans (j _).2 (zh (T:=(T:Rat)) (tV m) r).2
 exact GN o
def J2 (w:Nat) (r:Rat):MP:=xk w 1-c r
theorem ow(r:Rat)(w:Nat):(c r).fr w:=by
 by_cases h:r=0
 ·rw[h];exact qR w
 ·exact sI one_ne (zo h) (sN w)
theorem Il(w:Nat)(r:Rat):(J2 w r).deg w=1:=by
 have b:(J2 w r).co w 1=1:=by rw[J2,co_sub,fP,if_pos rfl,Lh (ow r w) oM];grind
 have d:=nD w (xk w 1) (c r);rw[deg_xk]at d;have e:(c r).deg w<=0:=ow r w;rcases Int.lt_or_le ((J2 w r).deg w) 1 with h|h
 ·exfalso;rw[co_above oM]at b;exact one_ne b.symm
 ·have:(J2 w r).deg w<=max ((1:Nat):Int) ((c r).deg w):=d;omega
theorem Sw(w:Nat)(r:Rat):J2 w r≠0:=λh=>by have:=Il w r;rw[h,deg_zero]at this;omega
theorem Sy(x:Pt)(w:Nat)(r:Rat):(J2 w r).ev x=x.get w-r:=by rw[J2,ev_sub,ev_xk,ev_c,Rat.pow_succ,Rat.pow_zero];grind
theorem SA(w:Nat)(r:Rat):∀k:Nat,J2 w r∣xk w k-c (r^k)
 | 0=>⟨0,ext' λx=>by rw[ev_sub,ev_xk,ev_c,ev_mul,ev_zero,Rat.pow_zero,Rat.pow_zero];grind⟩
 | k+1=>by obtain⟨q,hq⟩:=SA w r k;refine⟨xk w 1*q+c (r^k),ext' λx=>?_⟩;have:=congrArg (MP.ev x) hq;simp only[ev_sub,ev_mul,ev_add,ev_xk,ev_c,Sy,Rat.pow_succ,Rat.pow_zero]at *;grind
theorem SB(w:Nat)(r:Rat)(p:MP):J2 w r∣p-at' w r p:=by
 obtain⟨N,s⟩:∃N,N=(p.deg w).toNat+1:=⟨_,rfl⟩;have e:=split w p (N:=N) (by have:=deg_ge w p;omega)
 have b:∀(f:Nat->MP) n,at' w r (cO f n)=cO (λi=>at' w r (f i)) n:=λf n=>by
  induction n with
  | zero=>rfl
  | succ n q=>rw[cO,WW,q];rfl
 have o:∀k,at' w r (xk w k)=c (r^k):=λk=>ext' λx=>by
  rw[rV,ev_xk,ev_c];have:(x.put w r).get w=r:=by rcases w with _|_|_|w<;>rfl
  rw[this]
 have j:p-at' w r p=cO (λn=>p.co w n*(xk w n-c (r^n))) N:=by
  have l:at' w r p=cO (λn=>p.co w n*c (r^n)) N:=by have d:=congrArg (at' w r) e;rw[b]at d;rw[d];exact dI λi _=>by rw[DI,Su r (co_fr _ _ _),o]
  rw[l];have h:=Mm (cO (λn=>p.co w n*xk w n) N) (cO (λn=>p.co w n*c (r^n)) N);rw[<-e]at h;rw[h,<-Jp];have m:p+cO (λi=>-(p.co w i*c (r^i))) N=cO (λn=>p.co w n*xk w n) N+cO (λi=>-(p.co w i*c (r^i))) N:=by rw[<-e]
  rw[m,<-CR];exact dI λi _=>gR
 rw[j];exact dvd_msum λi _=>dvd_mul_of' (SA w r i) _
theorem SC(w:Nat)(r s:Rat):at' w s (J2 w r)=c (s-r):=ext' λx=>by
 rw[rV,Sy,ev_c];have:(x.put w s).get w=s:=by rcases w with _|_|_|w<;>rfl
 rw[this]
theorem WY{w i T:Nat}(h:i<=T):(J2 w ((i:Nat):Rat)).am<=((T+1:Nat):Rat):=by
 have b:=Mr (xk w 1) (c ((i:Nat):Rat));rw[Mq,bT Rat.natCast_nonneg]at b;have d:(xk w 1).am=1:=by show bJ 1+0=(1:Rat);rw[rT];decide +kernel
 rw[d]at b;have j:((i:Nat):Rat)<=(T:Rat):=Rat.natCast_le_natCast.2 h;have e:((1:Nat):Rat)=1:=rfl;show(xk w 1-c ((i:Nat):Rat)).am<=_;rw[Rat.natCast_add,e];grind
theorem SE{w T:Nat}{M:Rat}:∀(k:Nat)(M:Rat)(G:MP),0<=M->G.deg w<=k->∀L:List Nat,L.length=k+1->L.Nodup->(∀i∈L,i<=T/\(at' w ((i:Nat):Rat) G).am<=M)->G.am<=((2*T+3:Nat):Rat)^k*M
 | 0,M,G,hM,hd,L,hL,_,h=>by obtain⟨i,rfl⟩:=List.length_eq_one_iff.1 hL;have:=(h i sM).2;rw[Su _ hd]at this;rw[Rat.pow_zero];grind
 | k+1,M,G,hM,hd,L,hL,hn,h=>by
  cases L with
  | nil=>simp at hL
  | cons i L =>
   obtain⟨b,e⟩:=SB w ((i:Nat):Rat) G;have s:=h i sM;have m:=List.nodup_cons.1 hn;have D:G=J2 w ((i:Nat):Rat)*b+at' w ((i:Nat):Rat) G:=gR
   have r:b.deg w<=k:=by
    by_cases h0:b=0
    ·rw[h0,deg_zero];omega
    ·have d:=nD w G (at' w ((i:Nat):Rat) G);rw[e,deg_mul (Sw _ _) h0,Il]at d;have o:(at' w ((i:Nat):Rat) G).deg w<=0:=N9 _ _ _;omega
   have hv:∀j∈L,j<=T/\(at' w ((j:Nat):Rat) b).am<=2*M:=λj z=>by
    have l:=h j (by simp[z]);refine⟨l.1,?_⟩;have d:=congrArg (at' w ((j:Nat):Rat)) e;rw[WX,DI,SC,Su _ (N9 w _ G)]at d;have o:=Mr (at' w ((j:Nat):Rat) G) (at' w ((i:Nat):Rat) G);rw[d,tT]at o
    have x:(j:Int)-i≠0:=λK=>by have u:j=i:=oM;exact m.1 (by rw[<-u];exact z)
    have n:=rabs_int x
    have B:((((j:Int)-i:Int)):Rat)=((j:Nat):Rat)-((i:Nat):Rat):=by rw[Rat.intCast_sub,iN,iN]
    rw[B]at n;have y:=am_nonneg (at' w ((j:Nat):Rat) b);have E:1*(at' w ((j:Nat):Rat) b).am<=bJ (((j:Nat):Rat)-((i:Nat):Rat))*(at' w ((j:Nat):Rat) b).am:=Rat.mul_le_mul_of_nonneg_right n y;have F:=s.2;have I:=l.2;grind
   have H:=SE (w:=w) (T:=T) (M:=M) k (2*M) b gR r L (by simpa using hL) m.2 hv;obtain⟨P,p⟩:∃P,P=((2*T+3:Nat):Rat)^k:=⟨_,rfl⟩
   have q:1<=P:=by have:=(zh (T:=((2*T+3:Nat):Rat)) (tV oM) (Nat.zero_le k)).2;rw[Rat.pow_zero]at this;rw[p];exact this
   have d:=Mo (J2 w ((i:Nat):Rat)*b) (at' w ((i:Nat):Rat) G);rw[<-D]at d;have o:=DC (J2 w ((i:Nat):Rat)) b;have n:=WY (w:=w) s.1;have y:=am_nonneg b;have E:(J2 w ((i:Nat):Rat)).am*b.am<=((T+1:Nat):Rat)*(P*(2*M)):=sD n (by rw[p];exact H) (am_nonneg _) (Rat.mul_nonneg gR gR);have F:=s.2;rw[Rat.pow_succ,<-p]
   have C:((2*T+3:Nat):Rat)=2*((T+1:Nat):Rat)+1:=by have:2*T+3=2*(T+1)+1:=oM;rw[this,Rat.natCast_add,Rat.natCast_mul];rfl
   rw[C];have J:M<=P*M:=by have:=Rat.mul_le_mul_of_nonneg_right q hM;grind
   grind
theorem J3{w:Nat}:∀(L:List Nat)(F:MP),F≠0->L.Nodup->(∀i∈L,at' w ((i:Nat):Rat) F=0)->(L.length:Int)<=F.deg w
 | [],F,h0,_,_=>by have:=deg_pos h0 w;simpa using this
 | i::L,F,h0,hn,h=>by
  have b:=List.nodup_cons.1 hn;obtain⟨k,e⟩:=SB w ((i:Nat):Rat) F;rw[h i sM]at e;have e:F=J2 w ((i:Nat):Rat)*k:=gR;have d:k≠0:=λd=>h0 (by rw[e,d];grind)
  have o:=J3 L k d b.2 λj n=>by
   have m:=h j (by simp[n]);rw[e,DI,SC]at m;rcases mul_eq_zero.1 m with h3|h3
   ·exfalso;by_cases l:((j:Nat):Rat)-((i:Nat):Rat)=0
    ·have:((j:Nat):Rat)=((i:Nat):Rat):=gR;exact b.1 (by rw[<-Rat.natCast_inj.1 this];exact n)
    ·exact zR l h3
   ·exact h3
  rw[e,deg_mul (Sw _ _) d,Il];simp only[List.length_cons];omega
instance:DecidableEq MP:=λp q=>decidable_of_iff (p.l=q.l) ⟨MP.eq_of,λh=>by rw[h]⟩
theorem P6{a b:Rat}(h:a=b):a<=b:=by rw[h];exact Rat.le_refl
def qN (d:Nat->Nat):Nat->Nat
 | 0=>1
 | n+1=>(4*d n+3)^d n*(2*d n+1)^d n*qN d n
theorem MC{α:Type}(p:α->Bool)(l:List α):(l.filter p).length+(l.filter λx=>!p x).length=l.length:=by
 induction l with
 | nil=>rfl
 | cons x l b=>cases h:p x<;>simp[List.filter_cons,h]<;>omega
theorem fac(d:Nat->Nat):∀(n:Nat),n<=4->∀F G H:MP,F=G*H->F≠0->G.dv 1->H.dv 1->F.lo n->(∀w,w<n->F.deg w<=d w)->G.am<=(qN d n:Rat)*F.am
 | 0,_,F,G,H,e,h0,iG,iH,lF,_=>by have C:=gV h0 (by rw[e];exact dvd_mul_right _ _) lF;have D:=gV h0 (by rw[e];exact dvd_mul_left _ _) lF;obtain⟨g,rfl⟩:=kL C;obtain⟨h,rfl⟩:=kL D;have B:c h≠0:=λu=>h0 (by rw[e,u];grind);have m:=F5 iH B;rw[e,tT,Mq,show((qN d 0:Nat):Rat)=1 from rfl];have:=Rat.mul_le_mul_of_nonneg_left m (fV g);grind
 | n+1,hn,F,G,H,e,h0,iG,iH,lF,hd=>by
  obtain⟨L,hL⟩:∃L:List Nat,L=(List.range (2*d n+1)).filter (λi=>decide (at' n ((i:Nat):Rat) F≠0)):=⟨_,rfl⟩
  have hz:=J3 (w:=n) ((List.range (2*d n+1)).filter (λi=>!decide (at' n ((i:Nat):Rat) F≠0))) F h0 (List.nodup_range.sublist List.filter_sublist) λi b=>by have:=(List.mem_filter.1 b).2;simpa using this
  have k:=MC (λi:Nat=>decide (at' n ((i:Nat):Rat) F≠0)) (List.range (2*d n+1));rw[List.length_range,<-hL]at k;have j:=hd n oM;have q:L.Nodup:=by rw[hL];exact List.nodup_range.sublist List.filter_sublist
  have r:(1:Nat)<=2*d n+1:=oM;have y:G≠0:=λh=>h0 (by rw[e,h];grind);have p:G.deg n<=d n:=Int.le_trans (dvd_deg h0 (by rw[e];exact dvd_mul_right _ _) n) j
  have l:∀i∈L,i<=2*d n/\(at' n ((i:Nat):Rat) G).am<=(qN d n:Rat)*(F.am*((2*d n+1:Nat):Rat)^d n):=λi b=>by rw[hL]at b;obtain⟨m,o⟩:=List.mem_filter.1 b;have m:=List.mem_range.1 m;have o:at' n ((i:Nat):Rat) F≠0:=of_decide_eq_true o;refine⟨oM,?_⟩;have x:=fac d n oM _ _ _ (by rw[<-DI,<-e]:at' n ((i:Nat):Rat) F=at' n ((i:Nat):Rat) G*at' n ((i:Nat):Rat) H) o (by rw[<-iN];exact Sv iG n _) (by rw[<-iN];exact Sv iH n _) (X8 oM lF _) λw E=>Ik _ F oM oM (hd w oM);exact Rat.le_trans x (Rat.mul_le_mul_of_nonneg_left (X9 j oM r) Rat.natCast_nonneg)
  have z:0<=(qN d n:Rat)*(F.am*((2*d n+1:Nat):Rat)^d n):=Rat.mul_nonneg Rat.natCast_nonneg (Rat.mul_nonneg (am_nonneg F) (zh (T:=((2*d n+1:Nat):Rat)) (tV r) (nL _)).1);have:=SE (w:=n) (T:=2*d n) (M:=0) (d n) _ G z p (L.take (d n+1)) (by rw[List.length_take];omega) (q.sublist (List.take_sublist _ _)) λi b=>l i (List.mem_of_mem_take b);refine Rat.le_trans this ?_;rw[qN,Rat.natCast_mul,Rat.natCast_mul,Rat.natCast_pow,Rat.natCast_pow];have s:2*(2*d n)+3=4*d n+3:=oM;rw[s];refine P6 ?_;grind
end MP
end Q
end
section
namespace Q
def lK (f:Nat->Nat):Nat->Nat
 | 0=>0
 | n+1=>lK f n+f n
theorem DJ{f g:Nat->Nat}:∀{n:Nat},(∀i,i<n->f i=g i)->lK f n=lK g n
 | 0,_=>rfl
 | n+1,h=>by rw[lK,lK,DJ λi b=>h i (by omega),h n (by omega)]
theorem J4(f g:Nat->Nat):∀n,lK (λi=>f i+g i) n=lK f n+lK g n
 | 0=>rfl
 | n+1=>by rw[lK,J4 f g n,lK,lK];omega
theorem J5(c:Nat)(f:Nat->Nat):∀n,lK (λi=>c*f i) n=c*lK f n
 | 0=>rfl
 | n+1=>by rw[lK,J5 c f n,lK,Nat.mul_add]
theorem vY(f:Nat->Nat):∀n,lK f (n+1)=f 0+lK (λi=>f (i+1)) n
 | 0=>by simp[lK]
 | n+1=>by rw[lK,vY f n,lK];omega
theorem J6{p:Nat}{f:Nat->Nat}:∀{n:Nat},(∀i,i<n->p∣f i)->p∣lK f n
 | 0,_=>Nat.dvd_zero p
 | n+1,h=>Nat.dvd_add (J6 λi b=>h i (by omega)) (h n (by omega))
def ch:Nat->Nat->Nat
 | _,0=>1
 | 0,_+1=>0
 | n+1,k+1=>ch n k+ch n (k+1)
theorem yJ(n:Nat):ch n 0=1:=by cases n<;>rfl
theorem DK:∀{n k:Nat},n<k->ch n k=0
 | _,0,h=>by omega
 | 0,_+1,_=>rfl
 | n+1,k+1,h=>by rw[ch,DK (show n<k by omega),DK (show n<k+1 by omega)]
theorem Oa:∀n,ch n n=1
 | 0=>rfl
 | n+1=>by rw[ch,Oa n,DK (Nat.lt_succ_self n)]
theorem Io:∀n k,(k+1)*ch (n+1) (k+1)=(n+1)*ch n k
 | 0,0=>rfl
 | 0,k+1=>by have e:ch 1 (k+2)=0:=DK oM;rw[e];rfl
 | n+1,0=>by have h:=Io n 0;have e:ch (n+2) 1=ch (n+1) 0+ch (n+1) 1:=rfl;rw[yJ]at h;rw[show n+1+1=n+2 from rfl,e,yJ];rw[show 0+1=1 from rfl]at h;omega
 | n+1,k+1=>by have d:=Io n k;have i:=Io n (k+1);have e:ch (n+2) (k+2)=ch (n+1) (k+1)+ch (n+1) (k+2):=rfl;have b:ch (n+1) (k+1)=ch n k+ch n (k+1):=rfl;rw[e];have j:(k+1+1)*(ch (n+1) (k+1)+ch (n+1) (k+2))=(k+1)*ch (n+1) (k+1)+ch (n+1) (k+1)+(k+1+1)*ch (n+1) (k+2):=gR;rw[j,d,i,b];grind
theorem VP(x:Nat):∀n,(x+1)^n=lK (λk=>ch n k*x^k) (n+1)
 | 0=>by simp[lK,ch]
 | n+1=>by
  rw[Nat.pow_succ,VP x n,vY (λk=>ch (n+1) k*x^k)]
  have d:lK (λi=>ch (n+1) (i+1)*x^(i+1)) (n+1)=x*lK (λk=>ch n k*x^k) (n+1)+lK (λi=>ch n (i+1)*x^(i+1)) (n+1):=by rw[<-J5,<-J4];refine DJ λi _=>?_;show(ch n i+ch n (i+1))*x^(i+1)=_;rw[Nat.pow_succ];grind
  rw[d]
  have e:lK (λi=>ch n (i+1)*x^(i+1)) (n+1)=lK (λi=>ch n (i+1)*x^(i+1)) n:=by rw[lK,DK (Nat.lt_succ_self n)];omega
  have b:=vY (λk=>ch n k*x^k) n;rw[e,yJ,Nat.pow_zero];rw[yJ,Nat.pow_zero]at b;have h:lK (λk=>ch n k*x^k) (n+1)*(x+1)=x*lK (λk=>ch n k*x^k) (n+1)+lK (λk=>ch n k*x^k) (n+1):=gR;rw[h,b];omega
theorem DL{p:Nat}(hp:QD p){a b:Nat}(h:p∣a*b):p∣a\/p∣b:=by have:=BN hp (a:=a) (b:=b) (by rw[<-Int.natCast_mul];exact Int.ofNat_dvd.2 h);exact this.imp Int.ofNat_dvd.1 Int.ofNat_dvd.1
theorem SF{p:Nat}(hp:QD p){k:Nat}(h0:0<k)(d:k<p):p∣ch p k:=by
 obtain⟨j,rfl⟩:∃j,k=j+1:=⟨k - 1,oM⟩;obtain⟨n,rfl⟩:∃n,p=n+1:=⟨p - 1,oM⟩;rcases DL hp (a:=j+1) (b:=ch (n+1) (j+1)) ⟨ch n j,Io n j⟩with h|h
 ·have:=Nat.le_of_dvd h0 h;omega
 ·exact h
theorem Zu{p:Nat}(hp:QD p)(x:Nat):(x+1)^p%p=(x^p+1)%p:=by have d:=hp.1;obtain⟨n,rfl⟩:∃n,p=n+1:=⟨p - 1,oM⟩;rw[VP x (n+1),lK,vY,yJ,Oa,Nat.pow_zero];obtain⟨k,b⟩:(n+1)∣lK (λi=>ch (n+1) (i+1)*x^(i+1)) n:=J6 λi h=>Nat.dvd_mul_right_of_dvd (SF hp oM oM) _;rw[b];have e:1*1+(n+1)*k+1*x^(n+1)=(x^(n+1)+1)+(n+1)*k:=oM;rw[e,Nat.add_mul_mod_self_left]
theorem Ob{p:Nat}(hp:QD p):∀x:Nat,x^p%p=x%p
 | 0=>by rw[Nat.zero_pow (by have:=hp.1;omega)]
 | x+1=>by rw[Zu hp,Nat.add_mod,Ob hp x,<-Nat.add_mod]
theorem WZ{p:Nat}(hp:QD p){x:Nat}(h:¬p∣x):x^(p-2)*x%p=1:=by
 have m:=hp.1;have i:=Ob hp x;obtain⟨n,rfl⟩:∃n,p=n+2:=⟨p - 2,oM⟩;rw[Nat.add_sub_cancel];have e:x^(n+2)=x*(x^n*x):=by rw[Nat.pow_succ,Nat.pow_succ];grind
 rw[e]at i
 have k:((n+2:Nat):Int)∣(x:Int)*((x^n*x:Nat)-1:Int):=by
  have b:=Int.emod_emod_of_dvd
  have:((x*(x^n*x):Nat):Int)%((n+2:Nat):Int)=(x:Int)%((n+2:Nat):Int):=by rw[<-Int.natCast_emod,<-Int.natCast_emod,i]
  have d:=Int.dvd_of_emod_eq_zero (Int.emod_eq_emod_iff_emod_sub_eq_zero.1 this)
  have j:(x:Int)*((x^n*x:Nat)-1:Int)=((x*(x^n*x):Nat):Int)-x:=by rw[Int.natCast_mul x];grind
  rw[j];exact d
 rcases BN hp k with b|b
 ·exact absurd (Int.ofNat_dvd.1 b) h
 ·have d:=Int.emod_eq_zero_of_dvd b;have l:=Int.emod_eq_emod_iff_emod_sub_eq_zero.2 d
  have o:((x^n*x%(n+2):Nat):Int)=1:=by rw[Int.natCast_emod,l];exact Int.emod_eq_of_lt oM oM
  omega
def Za (p n:Nat):Nat->Bool
 | 0=>true
 | f+1=>match p%(n-f)with
  | 0=>false
  | _+1=>Za p n f
theorem SG{p n:Nat}:∀{f:Nat},Za p n f=true->∀k,n-f<k->k<=n->¬k∣p
 | 0,_=>λk d b=>by omega
 | f+1,h=>λk d b hd=>by
  rw[Za]at h;split at h
  ·cases h
  ·rename_i hm;rcases Nat.eq_or_lt_of_le (show n - f<=k by omega)with e|hlt
   ·rw[e]at hm;rw[Nat.mod_eq_zero_of_dvd hd]at hm;cases hm
   ·exact SG h k hlt b hd
theorem W9:Za 2147483647 46340 46339=true:=dK
theorem DN:QD pr:=by
 refine⟨dM,λm hm=>?_⟩;rw[jI]at *;obtain⟨k,b⟩:=hm;have h0:∀j,1<j->j<=46340->¬j∣2147483647:=λj i d=>SG W9 j oM d;rcases Nat.lt_or_ge m 2 with h|h
 ·left;rcases Nat.eq_zero_or_pos m with e|h'
  ·rw[e,Nat.zero_mul]at b;cases b
  ·omega
 ·rcases Nat.lt_or_ge m 46341 with d|d
  ·exact absurd ⟨k,b⟩ (h0 m oM oM)
  ·rcases Nat.lt_or_ge k 46341 with h3|h3
   ·rcases Nat.lt_or_ge k 2 with h4|h4
    ·right;rcases Nat.eq_zero_or_pos k with e|h'
     ·rw[e,Nat.mul_zero]at b;cases b
     ·obtain rfl:k=1:=oM;omega
    ·exact absurd ⟨m,by rw[b];exact Nat.mul_comm _ _⟩ (h0 k oM oM)
   ·have:=Nat.mul_le_mul d h3;omega
theorem Oc:∀(f out a n:Nat),n<2^f->out<pr->zD f out a n=out*a^n%pr
 | 0,out,a,n,h,b=>by
  obtain rfl:n=0:=by simpa using h
  rw[zD,Nat.pow_zero,nU,Nat.mod_eq_of_lt b]
 | f+1,out,a,n,h,b=>by
  rw[zD];split
  ·rename_i h0;rw[h0,Nat.pow_zero,nU,Nat.mod_eq_of_lt b]
  ·have d:(if n%2=1 then out*a%pr else out)<pr:=by
    split
    ·exact Nat.mod_lt _ dM
    ·exact b
   rw[Oc f _ _ _ (by rw[Nat.pow_succ]at h;omega) d]
   have i:(a*a%pr)^(n/2)%pr=a^(2*(n/2))%pr:=by rw[<-Nat.pow_mod,Nat.pow_mul,Nat.pow_two]
   have j:=Nat.div_add_mod n 2;split
   ·rename_i b;rw[Nat.mul_mod,i,<-Nat.mul_mod,Nat.mod_mul_mod];have e:n=2*(n/2)+1:=oM
    conv=>rhs;rw[e,Nat.pow_succ]
    congr 1;grind
   ·rw[Nat.mul_mod,i,<-Nat.mul_mod];have e:n=2*(n/2):=oM
    conv=>rhs;rw[e]
theorem Od(a:Nat){n:Nat}(h:n<18446744073709551616):jN a n=a^n%pr:=by rw[jN,Oc 64 1 a n (by simpa using h) dM,Nat.one_mul]
theorem ME{x:Nat}(h0:0<x)(h:x<pr):jN x (pr-2)*x%pr=1:=by rw[Od x dM,Nat.mod_mul_mod];exact WZ DN λhd=>by have:=Nat.le_of_dvd h0 hd;omega
end Q
end
section
namespace Q
open Go Go.Proofs.YtopclbeomcggiaaGreat
def SH (x:Pt) (v:Nat) (L:List (List aj)):Rat:=ja (λi=>ev x (L.getD i [])*x.get v^i) L.length
theorem DR(c:Rat)(f:Nat->Rat):∀n,ja (λi=>c*f i) n=c*ja f n
 | 0=>by simp[ja]
 | n+1=>by simp only[ja,DR c f n];grind
theorem DT(a:Nat)(g:Nat->Rat):∀n,ja (λi=>if a<=i then g (i-a)else 0) (a+n)=ja g n
 | 0=>by
  have:∀k,k<=a->ja (λi=>if a<=i then g (i-a)else 0) k=0:=by
   intro k
   induction k with
   | zero=>intro _;rfl
   | succ k b=>intro h;simp only[ja];rw[b oM,if_neg oM];grind
  rw[Nat.add_zero,this a (nL _)];rfl
 | n+1=>by rw[<-Nat.add_assoc];simp only[ja];rw[DT a g n,if_pos oM,Nat.add_sub_cancel_left]
def Be (L:List (List aj)):Prop:=∀c∈L,bQ c
theorem Be.get{L:List (List aj)}(h:Be L)(i:Nat):bQ (L.getD i []):=by
 rw[jD]
 cases hi:L[i]? with
 | none=>exact bQ.nil
 | some c=>exact h c (List.mem_of_getElem? hi)
theorem MF{D R:List (List aj)}{i:Nat}(h:i<R.length-1):(fZ D R).getD i []=if R.length-1-(D.length-1)<=i then gp (aZ (R.getD i []) (D.getD (D.length-1) [])) (aZ (R.getD (R.length-1) []) (D.getD (i-(R.length-1-(D.length-1))) []))else aZ (R.getD i []) (D.getD (D.length-1) []):=by rw[jD];simp[fZ,h]
theorem DU(D R:List (List aj)):Be (fZ D R):=λc hc=>by
 simp only[fZ,List.mem_map]at hc;obtain⟨i,-,rfl⟩:=hc;split
 ·exact bQ.sub _ _
 ·exact bQ.mul _ _
theorem SI(x:Pt)(v:Nat){D R:List (List aj)}(d:Be D)(e:Be R)(p:1<=D.length)(q:D.length-1<R.length) :
  SH x v (fZ D R)=ev x (D.getD (D.length-1) [])*SH x v R-ev x (R.getD (R.length-1) [])*x.get v^(R.length-1-(D.length-1))*SH x v D:=by
 obtain⟨n,m⟩:∃n,D.length=n+1:=⟨D.length - 1,oM⟩;obtain⟨a,ha⟩:∃a,R.length=a+n+1:=⟨R.length - 1 - n,oM⟩;have e1:R.length - 1=a+n:=oM;have k:D.length - 1=n:=oM;have l:a+n - n=a:=oM;unfold SH;rw[iL,e1,k,l]
 have o:ja (λi=>ev x ((fZ D R).getD i [])*x.get v^i) (a+n)=ja (λi=>ev x (D.getD n [])*(ev x (R.getD i [])*x.get v^i)+(if a<=i then(λj=>(-(ev x (R.getD (a+n) [])*x.get v^a))*(ev x (D.getD j [])*x.get v^j)) (i-a)else 0)) (a+n):=by
  refine mG λi r=>?_;rw[MF oM,e1,k,l];by_cases b:a<=i
  ·rw[if_pos b,if_pos b,ev_sub x (bQ.mul _ _).nat (bQ.mul _ _),ev_mul x (e.get _).nat (d.get _).nat,ev_mul x (e.get _).nat (d.get _).nat];have:x.get v^i=x.get v^a*x.get v^(i-a):=by rw[<-qf];congr 1;omega
   simp only;rw[this];grind
  ·rw[if_neg b,if_neg b,ev_mul x (e.get _).nat (d.get _).nat];grind
 have h:=DT a (λj=>(-(ev x (R.getD (a+n) [])*x.get v^a))*(ev x (D.getD j [])*x.get v^j)) n;rw[o,Cf,h,DR,DR,ha,m];simp only[ja];rw[qf];grind
def AP (v:Nat) (D:List (List aj)):Nat->List (List aj)->List aj
 | 0,_=>[]
 | f+1,R=>if D.length-1<R.length then oH (aZ (aZ (R.getD (R.length-1) []) (rF (sF v) (R.length-1-(D.length-1)))) (rF (D.getD (D.length-1) []) (R.length-1-(D.length-1)))) (AP v D f (fZ D R))else []
theorem F6(v:Nat)(D:List (List aj)):∀f R,bQ (AP v D f R)
 | 0,_=>bQ.nil
 | f+1,R=>by unfold AP;split;exact bQ.add _ _;exact bQ.nil
theorem zS(D:List (List aj)):∀f R,Be R->Be (gH D f R)
 | 0,_,h=>h
 | f+1,R,h=>by unfold gH;split;exact zS D f _ (DU D R);exact h
theorem Oe(x:Pt)(v:Nat){D:List (List aj)}(d:Be D)(e:1<=D.length):∀f R,Be R->R.length<=D.length-1+f ->
  ev x (D.getD (D.length-1) [])^(R.length-(D.length-1))*SH x v R-SH x v (gH D f R)=ev x (AP v D f R)*SH x v D
 | 0,R,_,h=>by have:R.length-(D.length-1)=0:=oM;simp only[gH,AP];rw[this,Rat.pow_zero,jv];grind
 | f+1,R,hR,h=>by
  unfold gH AP;by_cases b:D.length-1<R.length
  ·rw[if_pos b,if_pos b];have i:=Oe x v d e f (fZ D R) (DU D R) (by rw[iL];omega);have j:=SI x v d hR e b;rw[iL]at i;have e1:R.length-(D.length-1)=(R.length-1-(D.length-1))+1:=oM;rw[ev_add x (bQ.mul _ _).nat (F6 v D f _).nat,ev_mul x (bQ.mul _ _).nat (bQ.pow _ _).nat,ev_mul x (hR.get _).nat (bQ.pow _ _).nat,ev_pow x (d.get _).nat,ev_pow x (bQ.var v).nat,QM,e1,Rat.pow_succ];grind
  ·rw[if_neg b,if_neg b];have:R.length-(D.length-1)=0:=oM;rw[this,Rat.pow_zero,jv];grind
def WF (f:Ex->Nat):List aj->Nat
 | []=>0
 | t::l=>f t.1+WF f l
theorem qD(l:List aj):bF (canon l)<=bF l:=by
 have h:∀(l r:List aj),bF (l.foldl ins r)<=bF r+bF l:=λl=>by
  induction l with
  | nil=>intro r;simp only[List.foldl_nil,bF];grind
  | cons m l b=>intro r;have:=b (ins r m);have:=Cb r m;simp only[List.foldl_cons,bF];grind
 have:=h l [];simp only[bF]at this;unfold canon;grind
theorem P7(l:List aj)(q:aj):prods l [q]=l.map λs=>mulT s q:=by
 induction l with
 | nil=>rfl
 | cons s l b=>rw[kJ,b];rfl
theorem SK(p:List aj)(c:Rat)(e:Ex):cf (bS p c) e=cf p e*c:=by
 unfold bS;split
 ·rename_i h;rw[jK,h];grind
 ·unfold cf;rw[zg _ _ (λb=>c*(if b=e then 1 else 0)) p (λt _=>gR),xO];grind
def Xa (a ts:List aj) (q:aj):List aj:=a++ts.map λt=>(t.1.add q.1,-(t.2*q.2))
theorem Xb{m g:aj}{a ts:List aj}(hm:m.1.nat=true)(hz:g.2≠0):gp (m::a) (aZ (g::ts) [gQ m g])=canon (Xa a ts (gQ m g)):=by
 unfold gp oH;refine uA λe he=>?_;rw[pR,SK,aZ,nW,if_pos he,P7,List.map_cons,bK,bK,Xa,pR]
 have b:(mulT g (gQ m g)).1=m.1:=by simp only[mulT,gQ,Ex.add,Ex.sub];refine Ex.ext' ?_ ?_ ?_ ?_<;>simp only<;>omega
 have d:(mulT g (gQ m g)).2=m.2:=by simp only[mulT,gQ];rw[Rat.mul_comm];exact Rat.div_mul_cancel hz
 have h:cf (ts.map λt=>(t.1.add (gQ m g).1,-(t.2*(gQ m g).2))) e=- cf (ts.map λs=>mulT s (gQ m g)) e:=by
  induction ts with
  | nil=>simp only[List.map_nil,jK];grind
  | cons t ts i=>rw[List.map_cons,List.map_cons,bK,bK,i];simp only[mulT];grind
 rw[b,d,h];grind
structure Hgt (h:Ex->Nat) (g:Ex) (ts:List aj):Prop where
 one:∀m:Ex,m.nat=true->(m.sub g).nat=true->1<=h m
 dec:∀m:Ex,m.nat=true->(m.sub g).nat=true->∀t∈ts,h (t.1.add (m.sub g))+1<=h m
def hf (h:Ex->Nat) (e:Ex):Nat:=2^(h e+1)-1
structure Jn (h:Ex->Nat) (H G:Nat) (e:Ex) (c:Rat):Prop where
 b:h e<=H
 x:e.1<=2+2*((H-h e:Nat):Int)/\e.2.1<=2+2*((H-h e:Nat):Int)/\e.2.2.1<=2+2*((H-h e:Nat):Int)/\e.2.2.2<=2+2*((H-h e:Nat):Int)
 d:Dv (G^(H-h e)) c
end Q
end
