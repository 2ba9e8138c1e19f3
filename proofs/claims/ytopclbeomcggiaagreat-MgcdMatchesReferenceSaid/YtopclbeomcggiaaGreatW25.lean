/- mpoly.Coeffs. -/
import Derived.Test.YtopclbeomcggiaaGreatW17
import Derived.Test.YtopclbeomcggiaaGreatW22
import Derived.Test.YtopclbeomcggiaaGreatW24
set_option linter.unusedVariables false
set_option linter.unusedSimpArgs false
set_option maxHeartbeats 16000000
set_option maxRecDepth 100000
section
namespace Go.Proofs.YtopclbeomcggiaaGreat
open Go.RowKit Q Go.WideMaps Go.Maps
theorem fw:aO.ok aJ:=aW dM
structure kG (base:Nat) (w:World) (vs:List Value) (Ls:List (List ai)):Prop where
 len:vs.length=Ls.length
 own:∀(n:Nat) v l,vs[n]?=some v->Ls[n]?=some l->bV base w v l
 dis:∀(m n:Nat) a b,m≠n->vs[m]?=some a->vs[n]?=some b->a.ownBlock=none\/a.ownBlock≠b.ownBlock
theorem kG.on{base:Nat}{w w':World}{vs:List Value}{Ls:List (List ai)}(h:kG base w vs Ls)(hb:Below w.heap.size w w'):kG base w' vs Ls :=
 ⟨h.len,λn v l b d=>(h.own n v l b d).on hb,h.dis⟩
theorem xJ{α:Type}{N n:Nat}{a b:α}(h:(List.replicate N a)[n]?=some b):b=a:=by
 rw[List.getElem?_replicate]at h;split at h
 ·cases h;rfl
 ·cases h
theorem kG.start(base:Nat)(w:World)(N:Nat):kG base w (List.replicate N (.slice none 0 0)) (List.replicate N []):=by
 refine⟨sM,λn v l d h=>?_,λm n a b _ d _=>.inl ?_⟩
 ·have e1:=xJ d;have e:=xJ h;subst e1 e;exact di.nil _ _ _
 ·rw[xJ d];rfl
theorem kG.lr{g:Option Nat}{T:TypeId}{base:Nat}{w w':World}{vs:List Value}{Ls:List (List ai)}(h:kG base w vs Ls)(m:Lr g T w w')(q:uT≠T)(j:aJ≠T):kG base w' vs Ls :=
 ⟨h.len,λn v l d i=>(h.own n v l d i).lr m q (by
  have r:=(h.own n v l d i).okr
  cases hv:v.ownBlock with
  | none=>exact .inl rfl
  | some k =>
   right;intro e;have u:=r k hv;have p:=(m.2 k e.symm).1;obtain⟨x,⟨_,b⟩,_⟩:=h.own n v l d i;rcases b with ⟨rfl,_⟩|⟨s,cap,o,rfl,_,hg,_⟩
   ·simp[Value.ownBlock]at hv
   ·simp[Value.ownBlock]at hv;subst hv
    exact j (p _ _ _ hg)),h.dis⟩
theorem kG.blk{base:Nat}{w:World}{vs:List Value}{Ls:List (List ai)}(h:kG base w vs Ls){n:Nat}{v:Value}(hv:vs[n]?=some v){k:Nat}(d:v.ownBlock=some k):base<=k/\k<w.heap.size:=by
 have b:n<Ls.length:=by rw[<-h.len];exact(gS.1 hv).1
 exact(h.own n v _ hv (gE b)).base_le k d
theorem kG.lrB{r base:Nat}{T:TypeId}{w w':World}{vs:List Value}{Ls:List (List ai)}(h:kG base w vs Ls)(j:Lr (some r) T w w')(i:uT≠T)(b:∀(n:Nat) v,vs[n]?=some v->v.ownBlock≠some r):kG base w' vs Ls :=
 ⟨h.len,λn v l d e=>(h.own n v l d e).lr j i (.inr (b n v d)),h.dis⟩
theorem dV{g:Option Nat}{α:Type}{e:El α}{w:World}{v:Value}{t:α}(h:∃b cs,some b≠g/\v=.slice (some ⟨b,0,none⟩) 1 1/\bS e.T w b 0 cs/\e.E w cs t):bU e w v [t]:=by obtain⟨b,cs,_,rfl,d,i⟩:=h;exact⟨_,1,cs,rfl,nL _,λ_=>⟨b,0,rfl,d⟩,eO.single i⟩
theorem kG.set{base:Nat}{w w':World}{vs:List Value}{Ls:List (List ai)}{n:Nat}{v v':Value}{z:List ai}(h:kG base w vs Ls)(hv:vs[n]?=some v)(B:Lr v.ownBlock aJ w w')(C:bV base w' v' z)
  (j:v'.ownBlock=v.ownBlock\/∃k,v'.ownBlock=some k/\w.heap.size<=k):kG base w' (vs.set n v') (Ls.set n z):=by
 have p:n<vs.length:=(gS.1 hv).1;refine⟨by simp[h.len],λm u l d i=>?_,λm k a b o d i=>?_⟩
 ·rw[List.getElem?_set]at d i;by_cases r:n=m
  ·subst r;rw[if_pos rfl,if_pos p]at d;rw[if_pos rfl,if_pos (by rw[<-h.len];exact p)]at i;cases d;cases i;exact C
  ·rw[if_neg r]at d i;exact(h.own m u l d i).lr B (aW dM) (h.dis m n u v (Ne.symm r) d hv)
 ·rw[List.getElem?_set]at d i
  have s:∀(m:Nat)(a:Value),vs[m]?=some a->∀k,a.ownBlock=some k->k<w.heap.size:=λm a ha k x=>by
   have y:m<Ls.length:=by rw[<-h.len];exact(gS.1 ha).1
   exact((h.own m a _ ha (gE y)).base_le k x).2
  by_cases hm:n=m
  ·subst hm;rw[if_pos rfl,if_pos p]at d;cases d;rw[if_neg o]at i;rcases j with j|⟨q,j,hq⟩
   ·rw[j];exact h.dis n k v b o hv i
   ·right;intro e;have:=s k b i q (by rw[<-e,j]);omega
  ·rw[if_neg hm]at d;by_cases x:n=k
   ·subst x;rw[if_pos rfl,if_pos p]at i;cases i;rcases j with j|⟨q,j,hq⟩
    ·rw[j];exact h.dis m n a v o d hv
    ·right;intro e;have:=s m a d q (by rw[e,j]);omega
   ·rw[if_neg x]at i;exact h.dis m k a b o d i
theorem uz{w:World}:∀{vs:List Value}{Ls:List (List ai)},vs.length=Ls.length->(∀(n:Nat) v l,vs[n]?=some v->Ls[n]?=some l->ak w v l)->eO uq.E w vs Ls
 | [],[],_,_=>rfl
 | v::vs,l::Ls,h,hp=>⟨[v],vs,rfl,⟨v,rfl,hp 0 v l rfl rfl⟩,uz (by simpa using h) (λn v l b d=>hp (n+1) v l (by simpa using b) (by simpa using d))⟩
 | [],_::_,h,_=>by simp at h
 | _::_,[],h,_=>by simp at h
theorem KT{base g:Nat}{w:World}{vs:List Value}{Ls:List (List ai)}(e:Blk w g polyT vs)(h:kG base w vs Ls):je w (.slice (some ⟨g,0,none⟩) vs.length vs.length) Ls :=
 ⟨_,vs.length,vs,by rw[h.len],by rw[h.len];exact nL _,e.at,uz h.len (λn v l b d=>(h.own n v l b d).isSl)⟩
theorem Ac(p:List ai){k:Nat}{t:ai}(h:p[k]?=some t)(v:Nat)(n:Int):aN (p.take (k+1)) v n=aN (p.take k) v n++if t.1.get v=n then [(t.1.put v 0,t.2)]else []:=by
 rw[List.take_add_one,h];unfold aN;rw[List.filter_append,List.map_append]
 congr 1
 simp only[Option.toList_some,List.filter_cons,List.filter_nil];split<;>split<;>simp_all
def ni (p:List ai) (v N k:Nat):List (List ai):=(List.range N).map λn:Nat=>aN (p.take k) v n
theorem qi(p:List ai)(v:Nat){N n:Nat}(k:Nat)(h:n<N):(ni p v N k)[n]?=some (aN (p.take k) v n):=by simp[ni,h]
theorem IR(p:List ai)(v N:Nat){k:Nat}{t:ai}(h:p[k]?=some t){n:Nat}(i:t.1.get v=n)(d:n<N):ni p v N (k+1)=(ni p v N k).set n (aN (p.take k) v n++[(t.1.put v 0,t.2)]):=by
 apply List.ext_getElem?;intro m;rw[List.getElem?_set];by_cases hm:m<N
 ·rw[qi _ _ _ hm,Ac p h];by_cases b:n=m
  ·subst b;rw[if_pos rfl,if_pos i,if_pos (by simpa[ni]using d)]
  ·rw[if_neg b,qi _ _ _ hm,if_neg oM,List.append_nil]
 ·rw[gN (by simp[ni];omega)];split
  ·rename_i e;subst e;omega
  ·rw[gN (by simp[ni];omega)]
theorem IU(p:List ai)(v N:Nat):ni p v N 0=List.replicate N []:=by
 apply List.ext_getElem?;intro m;by_cases hm:m<N
 ·rw[qi _ _ _ hm];simp[aN,hm]
 ·rw[gN (by simp[ni];omega),gN (by simp;omega)]
end Go.Proofs.YtopclbeomcggiaaGreat
end
section
namespace Q
open Go Go.RowKit Go.Proofs.YtopclbeomcggiaaGreat
def af.box {g:Option Nat} {T:TypeId} (T':TypeId) (B:Nat) (cs:List Value):af (Lr g T) :=
 af.of (λv w=>∃b,some b≠g/\B<=b/\v=.pointer (some ⟨b,0,none⟩)/\Blk w b T' cs) (λ_ _ _ hb ⟨b,h1,h2,h3,h4⟩=>⟨b,h1,h2,h3,h4.lr hb h1⟩)
theorem nk{g:Option Nat}{T T':TypeId}{w:World}{P:Program}{o:Oper}{A:Act}{i B:Nat}{pu fr:Nat->Bool}{φ:Nat->Value->World->Prop}{Q:Exit->Act->World->Prop}{cs:List Value}(hp:pu i=false)(hf:fr i=false)(e:fK g T w)(k:B<=w.heap.size)
  (d:(execOp A.eval o).run P w=.ok (.value (.pointer (some ⟨w.heap.size,0,none⟩))) (w.alloc (.cells cs.toArray T')))
  (j:∀v w',(∃b,some b≠g/\B<=b/\v=.pointer (some ⟨b,0,none⟩)/\Blk w' b T' cs)->φ i v w'):o.wp P A w (jW (Lr g T) pu fr φ o i A w) Q:=by
 refine iM hp hf ((Below.refl _ _).alloc (nL _) _) (j _ _ ⟨w.heap.size,λh=>?_,k,rfl,Blk.new w T' cs⟩) d;have:=(e _ h.symm).1;omega
end Q
namespace Go.Proofs.YtopclbeomcggiaaGreat
open Go.RowKit Q Go.WideMaps Go.Maps
theorem uA(w:World)(e:Ex)(r:List Value)(h:r.length=4):(Instr.build 43 #[(0,.agg (bC e).toArray),(1,.agg r.toArray)]).run Tryz.prog w=.ok (.agg (bC e++r).toArray) w:=by
 match r,h with
 | [a,b,c,d],_ =>
  obtain⟨e1,e2,e3,e4⟩:=e;simp only[bC,List.cons_append,List.nil_append];go_simp
def mO:Value->Nat
 | .slice _ n _=>n
 | _=>0
theorem fI{T:TypeId}{w:World}{b off:Nat}{e:Ex}{r:List Value}(h:bS T w b off (bC e++r)):w.rangeAt b off (bC e):=by have:=(h.take 4).range;rwa[show(bC e++r).take 4=bC e from rfl]at this
theorem gU{T:TypeId}{w:World}{b off:Nat}{e:Ex}{r:List Value}(h:bS T w b off (bC e++r)):w.rangeAt b (off+4) r:=by have:=(h.drop 4).range;rwa[show(bC e++r).drop 4=r from rfl]at this
theorem nu{α:Type}{l:List α}{i:Nat}{s:α}{r:List α}(h:l.drop i=s::r):l.drop (i+1)=r/\l[i]?=some s/\i<l.length:=by
 have b:i<l.length:=by
  rcases Nat.lt_or_ge i l.length with h'|h'
  ·exact h'
  ·rw[List.drop_of_length_le h']at h;cases h
 rw[List.drop_eq_getElem_cons b]at h;simp only[List.cons.injEq]at h;exact⟨h.2,by rw[gE b,h.1],b⟩
theorem mergeP_gt{s t:ai}{p q:List ai}(h:s.1.gt t.1=true):dD (s::p) (t::q)=s::dD p (t::q):=by rw[dD,if_pos h]
theorem mergeP_lt{s t:ai}{p q:List ai}(h:t.1.gt s.1=true):dD (s::p) (t::q)=t::dD (s::p) q:=by rw[dD,if_neg (by rw[Ex.gt_asymm h];simp),if_pos h]
theorem mergeP_eq'{s t:ai}{p q:List ai}(h:s.1=t.1):dD (s::p) (t::q)=if s.2+t.2=0 then dD p q else(s.1,s.2+t.2)::dD p q:=by rw[dD,if_neg (by rw[h,Ex.gt_irrefl];simp),if_neg (by rw[h,Ex.gt_irrefl];simp)]
def wh (w:World) (l:List ai) (e:Ending) (w':World):Prop:=∃v,e=.returned v/\bV w.heap.size w' v l/\Below w.heap.size w w'
theorem wh.poly{w:World}{l:List ai}{e:Ending}{w':World}(h:wh w l e w'):aS w l e w':=let ⟨v,h1,h2,h3⟩:=h;⟨v,h1,h2.isSl,h3⟩
theorem Tw(vp vq:Value)(p q:List ai)(w:World)(hp:ak w vp p)(hq:ak w vq q)(rp:∀t∈p,Rk t.2)(rq:∀t∈q,Rk t.2)(lp:p.length<=100000000)(lq:q.length<=100000000) :
  Calls Tryz.prog 106 #[vp,vq] w (wh w (dD p q)):=by
 obtain⟨ap,cp,rfl,b2⟩:=hp.shape;obtain⟨aq,cq,rfl,b3⟩:=hq.shape;replace rp:=zH rp;replace rq:=zH rq;obtain⟨R,hR⟩:∃R,R=dD p q:=⟨_,rfl⟩;rw[<-hR];obtain⟨i,hi1,hi2,hi3,hi4⟩:=M6
 go_enter Tryz.func106,Tryz.ntmps106
 go_wp2_with (at_make;refine wpList_make_own _ rfl _ _ 27 rfl w.heap.size aJ i _ 8 Tryz.underlying27 hi1 hi2 hi3 .i64 .i64 _ (p.length+q.length) rfl rfl sM (by rw[hi4];omega) (by unfold maxLen;omega) (nL _) ?_;intro W a7 ac)
 have hown0:bV w.heap.size W (.slice (some ⟨w.heap.size,0,none⟩) 0 (p.length+q.length)) []:=⟨[],a7,rfl⟩;have hb0:Below w.heap.size w W:=(Below.refl _ _).grown ac (nL _) (λk I=>by cases I);replace hR:=zH hR;clear a7 ac hi1 hi2 hi3 hi4
 go_loopw [0,1,5] (λY vb o wr=>∃(i j:Nat)(L:List ai),Hid (ak w Y (p.drop i))/\Hid (ak w vb (q.drop j))/\Hid (bV w.heap.size wr o L)/\Hid (R=L++dD (p.drop i) (q.drop j))/\L.length<=i+j/\i<=p.length/\j<=q.length/\Below w.heap.size w wr) (λY vb _ _=>mO Y+mO vb)
 case atStart=>exact⟨0,0,[],zH hp,zH hq,zH hown0,zH (by rw[hR.out];simp),sM,oM,oM,hb0⟩
 case round =>
  clear hown0 hb0;obtain⟨i,j,L,ha,F,D,hR,b0,b4,b6,r⟩:=hrel
  have z:p.drop i=[]\/q.drop j=[]->R=L++p.drop i++q.drop j:=by
   rintro (h|h)
   ·rw[hR.out,h,nK];simp
   ·rw[hR.out,h,mergeP_nil];simp
  replace z:=zH z;have hl1:(p.drop i).length<=100000000:=by rw[List.length_drop];omega
  have hl2:(q.drop j).length<=100000000:=by rw[List.length_drop];omega
  by_cases M:p.drop i=[]\/q.drop j=[]
  ·have a0:=z.out M;have ha1:=ha.out.on r;have hb1:=F.out.on r;obtain⟨aa,u,rfl,a8⟩:=ha.out.shape;obtain⟨ab,y,rfl,a9⟩:=F.out.shape
   have hz:((p.drop i).length:Int)=0\/((q.drop j).length:Int)=0:=by
    rcases M with h|h
    ·left;rw[h];rfl
    ·right;rw[h];rfl
   have G:=D.out.base_le;replace a0:=zH a0;generalize hPP:p.drop i=P at *;generalize hQQ:q.drop j=Q2 at *;clear hPP hQQ M z hR;rcases hz with hz|hz
   ·go_wp2_with (first
     | (at_builtin;refine fV rfl _ _ 27 rfl Tryz.underlying27 bG rfl rfl hown5 (F.out.on hb5) (by simp;omega) hb5.size ?_;intro v6 w6 hown6 hl6 hv6;have hb6:=hb5.trans (hl6.belowAt hb5.size (λk I=>(hbe5 k I).1)))
     | (at_builtin;refine fV rfl _ _ 27 rfl Tryz.underlying27 bG rfl rfl D.out ha1 oM r.size ?_;intro v5 w5 hown5 hl5 hv5;have hb5:=r.trans (hl5.belowAt r.size (λk I=>(G k I).1));have hbe5:=hown5.base_le))
    all_goals
     go_ret;exact⟨_,rfl,by rw[a0.out];exact hown6,hb6⟩
   ·go_wp2_with (first
     | (at_builtin;refine fV rfl _ _ 27 rfl Tryz.underlying27 bG rfl rfl hown5 (F.out.on hb5) (by simp;omega) hb5.size ?_;intro v6 w6 hown6 hl6 hv6;have hb6:=hb5.trans (hl6.belowAt hb5.size (λk I=>(hbe5 k I).1)))
     | (at_builtin;refine fV rfl _ _ 27 rfl Tryz.underlying27 bG rfl rfl D.out ha1 oM r.size ?_;intro v5 w5 hown5 hl5 hv5;have hb5:=r.trans (hl5.belowAt r.size (λk I=>(G k I).1));have hbe5:=hown5.base_le))
    all_goals
     go_ret;exact⟨_,rfl,by rw[a0.out];exact hown6,hb6⟩
  ·clear z
   obtain⟨s,p2,hP⟩:∃s p2,p.drop i=s::p2:=by
    cases h:p.drop i with
    | nil=>exact absurd (.inl h) M
    | cons s p2=>exact⟨s,p2,rfl⟩
   obtain⟨t,q2,hQ⟩:∃t q2,q.drop j=t::q2:=by
    cases h:q.drop j with
    | nil=>exact absurd (.inr h) M
    | cons t q2=>exact⟨t,q2,rfl⟩
   obtain⟨hp1,au,b5⟩:=nu hP;obtain⟨hq1,av,b7⟩:=nu hQ;have ao:Rk s.2:=rp.out _ (List.mem_of_getElem? au);have ar:Rk t.2:=rq.out _ (List.mem_of_getElem? av);rw[hP]at ha hR hl1;rw[hQ]at F hR hl2;clear M;obtain⟨aa,u,rfl,a8⟩:=ha.out.shape;obtain⟨ab,y,rfl,a9⟩:=F.out.shape;obtain⟨l,m,ax,rfl,-,al,N⟩:=ha.out.get (j:=0) (t:=s) rfl;obtain⟨n,ob,ay,rfl,-,an,Z⟩:=F.out.get (j:=0) (t:=t) rfl;obtain⟨ra,rfl,a1⟩:=al;obtain⟨rb,rfl,a2⟩:=an;change bS aJ w l (m+0*8) _ at N;change bS aJ w n (ob+0*8) _ at Z;have B:=ha.out.drop 1;have C:=F.out.drop 1;rw[List.drop_succ_cons,List.drop_zero]at B C;change ak w (.slice (if u=1 then some ⟨l,m,none⟩else(some ⟨l,m,none⟩:Option Addr).map (·.add (1*8))) _ _) _ at B;change ak w (.slice (if y=1 then some ⟨n,ob,none⟩else(some ⟨n,ob,none⟩:Option Addr).map (·.add (1*8))) _ _) _ at C;simp only[List.length_cons,Nat.add_sub_cancel]at B C a8 a9 hl1 hl2;have G:=D.out.base_le;replace G:=zH G;simp only[List.length_cons];change ak w (.slice (if u=1 then some ⟨l,m,none⟩else(some ⟨l,m,none⟩:Option Addr).map (·.add (1*8))) (p2.length+1 - 1) (u - 1)) _ at B;change ak w (.slice (if y=1 then some ⟨n,ob,none⟩else(some ⟨n,ob,none⟩:Option Addr).map (·.add (1*8))) (q2.length+1 - 1) (y - 1)) _ at C
   have hca1:1<=p2.length+1/\p2.length+1<=u:=⟨oM,a8⟩;have hcb1:1<=q2.length+1/\q2.length+1<=y:=⟨oM,a9⟩;have hlen8a:(bC s.1++ra).length=8:=by rw[List.length_append,a1.len];rfl
   have hlen8b:(bC t.1++rb).length=8:=by rw[List.length_append,a2.len];rfl
   go_upto_region 3 with (fail)
   refine aC mixed (none) (0) (fK.none) [.eq (.slice (some ⟨l,m,none⟩) (p2.length+1) u),.eq (.pointer (some ⟨l,m+0*8,none⟩)),.eq (.pointer (some ⟨l,m+0*8,none⟩)),.eq (.agg (bC s.1).toArray),.eq (.slice (some ⟨n,ob,none⟩) (q2.length+1) y),.eq (.pointer (some ⟨n,ob+0*8,none⟩)),.eq (.pointer (some ⟨n,ob+0*8,none⟩)),.eq (.agg (bC t.1).toArray),.ret (.int .i64 (vY s.1 t.1))] [22,23,24,25,26,27,28,29,30] rfl rfl rfl rfl ⟨λ_ _ a _ _ _=>xM rfl (a 0 rfl),λ_ _ _ _ _ e=>pI rfl Tryz.underlying27 l m 0 oM (e.1 rfl) rfl,λ_ _ _ _ _ e=>ae rfl (wV rfl (e.1 rfl)),λ_ _ _ hL _ e=>pL rfl (fI (N.on (r.trans (hL.below.mono r.size)))) Tryz.underlying36 (show(bC s.1).length=4 from rfl) (e.1 rfl),λ_ _ a _ _ _=>xM rfl (a 1 rfl),λ_ _ _ _ _ e=>pI rfl Tryz.underlying27 n ob 0 oM (e.1 rfl) rfl,λ_ _ _ _ _ e=>ae rfl (wV rfl (e.1 rfl)),λ_ _ _ hL _ e=>pL rfl (fI (Z.on (r.trans (hL.below.mono r.size)))) Tryz.underlying36 (show(bC t.1).length=4 from rfl) (e.1 rfl),λA _ _ _ hS he=>have hb:=hS rfl;have h25:=eT 25 (he.1 rfl);have h29:=eT 29 (he.2.1 rfl);have hf0:=eF A 117;cP (f:=117) (args:=#[.agg (bC s.1).toArray,.agg (bC t.1).toArray]) (KP _ _ _),trivial⟩ ?_
   ·intro W1 hL1;have hbW1:=hL1.below;simp only[aT,af.eq,af.ret,lZ];go_frame;have hbw1:=r.trans (hbW1.mono r.size);have hown1:=D.out.on hbW1;have b:∀k,u5.ownBlock=some k->w.heap.size<=k:=λk I=>(G.out k I).1;clear hL1 hbW1 D G r;rcases Cv s.1 t.1 with ⟨hg,hc⟩|⟨hg,hc⟩|⟨hg,hc⟩
    ·rw[hc];rw[mergeP_gt hg]at hR
     go_upto_region 9 with (fail)
     refine aC mixed (u5.ownBlock) (aJ) (hown1.okr) [.eq (u5),.eq (.slice (some ⟨l,m,none⟩) (p2.length+1) u),.eq (.pointer (some ⟨l,m+0*8,none⟩)),.eq (.agg (bC s.1++ra).toArray),.new1 aO fw (s),.row aO (w.heap.size) W1.heap.size (L++[s]),.eq (.slice (some ⟨l,m,none⟩) (p2.length+1) u),.eq (.slice (if u=1 then some ⟨l,m,none⟩else(some ⟨l,m,none⟩:Option Addr).map (·.add (1*8))) (p2.length+1-1) (u-1)),(.asPure (.row aO (w.heap.size) W1.heap.size (L++[s])))] [59,60,61,62,63,64,65,66,5] rfl rfl rfl rfl ⟨λ_ _ a _ _ _=>xM rfl (a 5 rfl),λ_ _ a _ _ _=>xM rfl (a 0 rfl),λ_ _ _ _ _ e=>pI rfl Tryz.underlying27 l m 0 oM (e.1 rfl) rfl,λ_ w1 _ hL _ he=>have d:Below w.heap.size w w1:=hbw1.trans (hL.belowAt hbw1.size b);pL rfl ((N.on d).range) Tryz.underlying43 (hlen8a) (he.1 rfl),?_,?_,λ_ _ a _ _ _=>xM rfl (a 0 rfl),λA w1 _ _ _ he=>have h65:=eT 65 (he.1 rfl);have hc0:=eC A (.int .i64 1);ae rfl (aB rfl rfl (jE rfl (by simp only[Option.map_some,Option.map_none];rw[h65,show A.eval (.const (.int .i64 1))=_ from rfl];exact gT Tryz.underlying27 kM w1 _ _ _ 1 .i64 _ (by first|rfl|simp|omega) (hca1.1) (hca1.2)))),?_,trivial⟩ ?_
     ·intro A w1 hA hL hS he;have d:Below w.heap.size w w1:=hbw1.trans (hL.belowAt hbw1.size b);have h62:=eT 62 (he.1 rfl);refine ae rfl ?_;have hE:(aO:El _).E w1 _ (s):=⟨ra,rfl,a1.on d⟩;refine fo rfl rfl ((hown1.okr).lr hL) hE (bu rfl ?_) (λ_ _ h=>h);simp only[List.map_toArray,List.map_cons,List.map_nil,h62];exact bK _ _ ((aO).len hE)
     ·intro A w1 hA hL hS he;have hb:=hS rfl;have d:Below w.heap.size w w1:=hbw1.trans (hL.belowAt hbw1.size b);have h59:=eT 59 (he.1 rfl);obtain⟨v63,h63,f63⟩:=fT 63 (he.2.1 rfl);exact ae rfl (dL rfl rfl rfl Tryz.underlying27 bG h59 h63 (hown1.on hb) rfl rfl (dV f63) (by simp;omega) (d.size) hL.1.size (λ_ _ h1 h2=>⟨h1,h2⟩))
     ·intro A w1 hA hL hS he;obtain⟨v64,h64,f64⟩:=fT 64 (he.1 rfl);exact ae rfl (aB (c:=v64) rfl f64 (by show Result.ok (Next.value (A.eval (.tmp 64))) w1=_;rw[h64]))
     ·intro W2 hL2;simp only[aT,af.eq,af.new1,af.row,af.asPure,af.of,af.fragile,lZ];rintro v63 - v64 - v5 ⟨hown5,a4⟩;go_frame;have hbW2:=hbw1.trans (hL2.belowAt hbw1.size b);generalize hva:Value.slice (if u=1 then some ⟨l,m,none⟩else(some ⟨l,m,none⟩:Option Addr).map (·.add (1*8))) (p2.length+1 - 1) (u - 1)=Y at B ⊢;have J:mO Y=p2.length:=by rw[<-hva];rfl
      clear hva;go_wp2;go_roundw
      case measure=>rw[show mO _=_ from J];simp[mO]
      case rel=>exact⟨i+1,j,L++[s],zH (by rw[hp1];exact B),zH (by rw[hQ];exact F.out),zH hown5,zH (by rw[hR.out,hp1,hQ];simp),by simp;omega,oM,oM,hbW2⟩
    ·rw[hc];rw[mergeP_lt hg]at hR
     go_upto_region 11 with (fail)
     refine aC mixed (u5.ownBlock) (aJ) (hown1.okr) [.eq (u5),.eq (.slice (some ⟨n,ob,none⟩) (q2.length+1) y),.eq (.pointer (some ⟨n,ob+0*8,none⟩)),.eq (.agg (bC t.1++rb).toArray),.new1 aO fw (t),.row aO (w.heap.size) W1.heap.size (L++[t]),.eq (.slice (some ⟨n,ob,none⟩) (q2.length+1) y),.eq (.slice (if y=1 then some ⟨n,ob,none⟩else(some ⟨n,ob,none⟩:Option Addr).map (·.add (1*8))) (q2.length+1-1) (y-1)),(.asPure (.row aO (w.heap.size) W1.heap.size (L++[t])))] [70,71,72,73,74,75,76,77,5] rfl rfl rfl rfl ⟨λ_ _ a _ _ _=>xM rfl (a 5 rfl),λ_ _ a _ _ _=>xM rfl (a 1 rfl),λ_ _ _ _ _ e=>pI rfl Tryz.underlying27 n ob 0 oM (e.1 rfl) rfl,λ_ w1 _ hL _ he=>have d:Below w.heap.size w w1:=hbw1.trans (hL.belowAt hbw1.size b);pL rfl ((Z.on d).range) Tryz.underlying43 (hlen8b) (he.1 rfl),?_,?_,λ_ _ a _ _ _=>xM rfl (a 1 rfl),λA w1 _ _ _ he=>have h76:=eT 76 (he.1 rfl);have hc0:=eC A (.int .i64 1);ae rfl (aB rfl rfl (jE rfl (by simp only[Option.map_some,Option.map_none];rw[h76,show A.eval (.const (.int .i64 1))=_ from rfl];exact gT Tryz.underlying27 kM w1 _ _ _ 1 .i64 _ (by first|rfl|simp|omega) (hcb1.1) (hcb1.2)))),?_,trivial⟩ ?_
     ·intro A w1 hA hL hS he;have d:Below w.heap.size w w1:=hbw1.trans (hL.belowAt hbw1.size b);have h73:=eT 73 (he.1 rfl);refine ae rfl ?_;have hE:(aO:El _).E w1 _ (t):=⟨rb,rfl,a2.on d⟩;refine fo rfl rfl ((hown1.okr).lr hL) hE (bu rfl ?_) (λ_ _ h=>h);simp only[List.map_toArray,List.map_cons,List.map_nil,h73];exact bK _ _ ((aO).len hE)
     ·intro A w1 hA hL hS he;have hb:=hS rfl;have d:Below w.heap.size w w1:=hbw1.trans (hL.belowAt hbw1.size b);have h70:=eT 70 (he.1 rfl);obtain⟨v74,h74,f74⟩:=fT 74 (he.2.1 rfl);exact ae rfl (dL rfl rfl rfl Tryz.underlying27 bG h70 h74 (hown1.on hb) rfl rfl (dV f74) (by simp;omega) (d.size) hL.1.size (λ_ _ h1 h2=>⟨h1,h2⟩))
     ·intro A w1 hA hL hS he;obtain⟨v75,h75,f75⟩:=fT 75 (he.1 rfl);exact ae rfl (aB (c:=v75) rfl f75 (by show Result.ok (Next.value (A.eval (.tmp 75))) w1=_;rw[h75]))
     ·intro W2 hL2;simp only[aT,af.eq,af.new1,af.row,af.asPure,af.of,af.fragile,lZ];rintro v63 - v64 - v5 ⟨hown5,a4⟩;go_frame;have hbW2:=hbw1.trans (hL2.belowAt hbw1.size b);generalize hva:Value.slice (if y=1 then some ⟨n,ob,none⟩else(some ⟨n,ob,none⟩:Option Addr).map (·.add (1*8))) (q2.length+1 - 1) (y - 1)=Y at C ⊢;have J:mO Y=q2.length:=by rw[<-hva];rfl
      clear hva;go_wp2;go_roundw
      case measure=>rw[show mO _=_ from J];simp[mO]
      case rel=>exact⟨i,j+1,L++[t],zH (by rw[hP];exact ha.out),zH (by rw[hq1];exact C),zH hown5,zH (by rw[hR.out,hq1,hP];simp),by simp;omega,oM,oM,hbW2⟩
    ·rw[hc];rw[mergeP_eq' hg]at hR
     go_upto_region 4 with (fail)
     refine aC mixed (none) (0) (fK.none) [.eq (.slice (some ⟨l,m,none⟩) (p2.length+1) u),.eq (.pointer (some ⟨l,m+0*8,none⟩)),.eq (.pointer (some ⟨l,m+0*8+4,none⟩)),.eq (.agg (ra).toArray),.eq (.slice (some ⟨n,ob,none⟩) (q2.length+1) y),.eq (.pointer (some ⟨n,ob+0*8,none⟩)),.eq (.pointer (some ⟨n,ob+0*8+4,none⟩)),.eq (.agg (rb).toArray),.rat dM ((s.2+t.2)),.box 41 W1.heap.size [.bool false,.slice none 0 0,.bool false,.slice none 0 0]] [31,32,33,34,35,36,37,38,39,7] rfl rfl rfl rfl ⟨λ_ _ a _ _ _=>xM rfl (a 0 rfl),λ_ _ _ _ _ e=>pI rfl Tryz.underlying27 l m 0 oM (e.1 rfl) rfl,λ_ _ _ _ _ e=>ae rfl (EU rfl (e.1 rfl)),λ_ w1 _ hL _ he=>have d:Below w.heap.size w w1:=hbw1.trans (hL.below.mono hbw1.size);pL rfl (gU (N.on d)) Tryz.underlying41 (a1.len) (he.1 rfl),λ_ _ a _ _ _=>xM rfl (a 1 rfl),λ_ _ _ _ _ e=>pI rfl Tryz.underlying27 n ob 0 oM (e.1 rfl) rfl,λ_ _ _ _ _ e=>ae rfl (EU rfl (e.1 rfl)),λ_ w1 _ hL _ he=>have d:Below w.heap.size w w1:=hbw1.trans (hL.below.mono hbw1.size);pL rfl (gU (Z.on d)) Tryz.underlying41 (a2.len) (he.1 rfl),λA w1 _ hL hS he=>have hb:=hS rfl;have d:Below w.heap.size w w1:=hbw1.trans (hL.below.mono hbw1.size);have h34:=eT 34 (he.1 rfl);have h38:=eT 38 (he.2.1 rfl);have hf0:=eF A 113;cP (f:=113) (args:=#[.agg (ra).toArray,.agg (rb).toArray]) (Io _ _ _ _ _ (a1.on d).rat (a2.on d).rat ao ar),?_,trivial⟩ ?_
     ·intro A w1 hA hL hS he;refine ae rfl ?_;refine nk rfl rfl ((fK.none).lr hL) hL.1.size (by generalize A.eval=ev at *;go_simp) (λ_ _ h=>h)
     ·intro W2 hL2;have hbW2:=hbw1.trans (hL2.below.mono hbw1.size);simp only[aT,af.eq,af.rat,af.box,af.of,lZ];rintro v39 h39 v7 ⟨x,-,aE,rfl,B7⟩;obtain⟨n5,a5,k5,c5,n6,a6,k6,c6,rfl⟩:=fE h39;go_frame;have hown2:=hown1.on hL2.below;have aw:w.heap.size<=x:=by have:=hbw1.size;omega
      clear hL2
      go_upto_region 5 with (refine az rfl _ (.tmp 7) (.tmp 39) rfl _ _ _ _ rfl rfl B7 rfl dA dJ ?_;intro W3 R3 gr3)
      have hl3:Lr (some x) 41 W2 W3:=⟨gr3,λk I=>by cases I;exact⟨B7.noOther,R3.noOther⟩⟩
      have ag:u5.ownBlock≠some x:=by intro h;have h1:=(hown2.okr x h).2;exact absurd (h1 _ _ _ B7) dM
      have hown3:=hown2.lr hl3 (aW dM) (.inr ag);have a3:=h39.lr hl3 dM;have hbW3:=hbW2.trans (hl3.belowAt hbW2.size (λk I=>by cases I;exact aw));have hsgn:=λW hb=>pF _ _ W (a3.on (w':=W) hb);have y1:=R3.at1 0 _ rfl;have y2:=R3.at1 1 _ rfl;have y3:=R3.at1 2 _ rfl;have y4:=R3.at1 3 _ rfl;clear hl3 gr3 B7 hown2 hbW2;by_cases hz:s.2+t.2=0
      ·have hs0:jm (s.2+t.2).num=0:=by rw[hz];rfl
       rw[if_pos hz]at hR;rw[hs0]at hsgn
       go_upto_region 7 with (go_at_call 86;refine(hsgn _ (Below.refl _ _)).mono ?_;rintro en W4 ⟨rfl,hb4⟩)
       have hown4:=hown3.on hb4;have hbW4:=hbW3.trans (hb4.mono hbW3.size);refine aC mixed (none) (0) (fK.none) [.eq (.slice (some ⟨l,m,none⟩) (p2.length+1) u),.eq (.slice (if u=1 then some ⟨l,m,none⟩else(some ⟨l,m,none⟩:Option Addr).map (·.add (1*8))) (p2.length+1-1) (u-1)),.eq (.slice (some ⟨n,ob,none⟩) (q2.length+1) y),.eq (.slice (if y=1 then some ⟨n,ob,none⟩else(some ⟨n,ob,none⟩:Option Addr).map (·.add (1*8))) (q2.length+1-1) (y-1)),.eq (.slice (if u=1 then some ⟨l,m,none⟩else(some ⟨l,m,none⟩:Option Addr).map (·.add (1*8))) (p2.length+1-1) (u-1))] [52,53,54,55,0] rfl rfl rfl rfl ⟨λ_ _ a _ _ _=>xM rfl (a 0 rfl),λA w1 _ _ _ he=>have h52:=eT 52 (he.1 rfl);have hc0:=eC A (.int .i64 1);ae rfl (aB rfl rfl (jE rfl (by simp only[Option.map_some,Option.map_none];rw[h52,show A.eval (.const (.int .i64 1))=_ from rfl];exact gT Tryz.underlying27 kM w1 _ _ _ 1 .i64 _ (by first|rfl|simp|omega) (hca1.1) (hca1.2)))),λ_ _ a _ _ _=>xM rfl (a 1 rfl),λA w1 _ _ _ he=>have h54:=eT 54 (he.1 rfl);have hc0:=eC A (.int .i64 1);ae rfl (aB rfl rfl (jE rfl (by simp only[Option.map_some,Option.map_none];rw[h54,show A.eval (.const (.int .i64 1))=_ from rfl];exact gT Tryz.underlying27 kM w1 _ _ _ 1 .i64 _ (by first|rfl|simp|omega) (hcb1.1) (hcb1.2)))),λA _ _ _ _ he=>have h53:=eT 53 (he.1 rfl);pZ rfl,trivial⟩ ?_
       ·intro W5 hL5;simp only[aT,af.eq,lZ];go_frame;have hown5:=hown4.on hL5.below;have hbW5:=hbW4.trans (hL5.below.mono hbW4.size);generalize hva:Value.slice (if u=1 then some ⟨l,m,none⟩else(some ⟨l,m,none⟩:Option Addr).map (·.add (1*8))) (p2.length+1 - 1) (u - 1)=Y at B ⊢;generalize hvb:Value.slice (if y=1 then some ⟨n,ob,none⟩else(some ⟨n,ob,none⟩:Option Addr).map (·.add (1*8))) (q2.length+1 - 1) (y - 1)=vb at C ⊢;have J:mO Y=p2.length:=by rw[<-hva];rfl
        have X:mO vb=q2.length:=by rw[<-hvb];rfl
        clear hva hvb;go_wp2;go_roundw
        case measure=>rw[show mO _=_ from J,show mO _=_ from X];simp[mO];omega
        case rel=>exact⟨i+1,j+1,L,zH (by rw[hp1];exact B),zH (by rw[hq1];exact C),zH hown5,zH (by rw[hR.out,hp1,hq1]),oM,oM,oM,hbW5⟩
      ·have hs0:=sj hz;rw[if_neg hz]at hR;generalize jm (s.2+t.2).num=sg at hs0 hsgn;have hs1:(sg==0)=false:=by simpa using hs0
       go_upto_region 6 with (go_at_call 86;refine(hsgn _ (Below.refl _ _)).mono ?_;rintro en W4 ⟨rfl,hb4⟩)
       have hown4:=hown3.on hb4;have hbW4:=hbW3.trans (hb4.mono hbW3.size);have R4:=R3.on hb4;have h394:=a3.on hb4;have hxo4:some x≠u5.ownBlock:=λh=>ag h.symm;obtain⟨rc,S⟩:∃rc,rc=[Value.bool n5,.slice a5 k5 c5,.bool n6,.slice a6 k6 c6]:=⟨_,rfl⟩;have ad:rc.length=4:=by rw[S];rfl
       rw[show(Value.agg #[.bool n5,.slice a5 k5 c5,.bool n6,.slice a6 k6 c6])=.agg rc.toArray by rw[S]]at h394;rw[<-S]at R4;refine aC mixed (u5.ownBlock) (aJ) (hown4.okr) [.eq (u5),.eq (.slice (some ⟨l,m,none⟩) (p2.length+1) u),.eq (.pointer (some ⟨l,m+0*8,none⟩)),.eq (.pointer (some ⟨l,m+0*8,none⟩)),.eq (.agg (bC s.1).toArray),.eq (.agg (rc).toArray),.eq (.agg (bC s.1++rc).toArray),.new1 aO fw ((s.1,s.2+t.2)),.row aO (w.heap.size) W4.heap.size (L++[(s.1,s.2+t.2)])] [43,44,45,46,47,48,49,50,51] rfl rfl rfl rfl ⟨λ_ _ a _ _ _=>xM rfl (a 5 rfl),λ_ _ a _ _ _=>xM rfl (a 0 rfl),λ_ _ _ _ _ e=>pI rfl Tryz.underlying27 l m 0 oM (e.1 rfl) rfl,λ_ _ _ _ _ e=>ae rfl (wV rfl (e.1 rfl)),λ_ w1 _ hL _ he=>have d:Below w.heap.size w w1:=hbW4.trans (hL.belowAt hbW4.size b);pL rfl (fI (N.on d)) Tryz.underlying36 (show(bC s.1).length=4 from rfl) (he.1 rfl),λ_ _ a hL _ _=>pL rfl ((R4.lr hL hxo4).range 0 rc (λj v h=>by rw[Nat.zero_add];exact h)) Tryz.underlying41 (ad) (a 7 rfl),λ_ _ _ _ _ he=>have h47:=eT 47 (he.1 rfl);have h48:=eT 48 (he.2.1 rfl);ae rfl (aB rfl rfl (oK rfl (by simp only[List.map_toArray,List.map_cons,List.map_nil,h47,h48];exact uA _ _ _ (ad)))),?_,?_,trivial⟩ ?_
       ·intro A w1 hA hL hS he;have hb:=hS rfl;have h49:=eT 49 (he.1 rfl);refine ae rfl ?_;have hE:(aO:El _).E w1 _ ((s.1,s.2+t.2)):=⟨_,rfl,(h394.on hb).cellsC⟩;refine fo rfl rfl ((hown4.okr).lr hL) hE (bu rfl ?_) (λ_ _ h=>h);simp only[List.map_toArray,List.map_cons,List.map_nil,h49];exact bK _ _ ((aO).len hE)
       ·intro A w1 hA hL hS he;have hb:=hS rfl;have d:Below w.heap.size w w1:=hbW4.trans (hL.belowAt hbW4.size b);have h43:=eT 43 (he.1 rfl);obtain⟨v50,h50,f50⟩:=fT 50 (he.2.1 rfl);exact ae rfl (dL rfl rfl rfl Tryz.underlying27 bG h43 h50 (hown4.on hb) rfl rfl (dV f50) (by simp;omega) (d.size) hL.1.size (λ_ _ h1 h2=>⟨h1,h2⟩))
       ·intro W5 hL5;simp only[aT,af.eq,af.new1,af.row,af.asPure,af.of,af.fragile,lZ];rintro v50 - v51 ⟨hown5,a4⟩;go_frame;have hbW5:=hbW4.trans (hL5.belowAt hbW4.size b)
        go_upto_region 7 with (fail)
        refine aC mixed (none) (0) (fK.none) [.eq (.slice (some ⟨l,m,none⟩) (p2.length+1) u),.eq (.slice (if u=1 then some ⟨l,m,none⟩else(some ⟨l,m,none⟩:Option Addr).map (·.add (1*8))) (p2.length+1-1) (u-1)),.eq (.slice (some ⟨n,ob,none⟩) (q2.length+1) y),.eq (.slice (if y=1 then some ⟨n,ob,none⟩else(some ⟨n,ob,none⟩:Option Addr).map (·.add (1*8))) (q2.length+1-1) (y-1)),.eq (.slice (if u=1 then some ⟨l,m,none⟩else(some ⟨l,m,none⟩:Option Addr).map (·.add (1*8))) (p2.length+1-1) (u-1))] [52,53,54,55,0] rfl rfl rfl rfl ⟨λ_ _ a _ _ _=>xM rfl (a 0 rfl),λA w1 _ _ _ he=>have h52:=eT 52 (he.1 rfl);have hc0:=eC A (.int .i64 1);ae rfl (aB rfl rfl (jE rfl (by simp only[Option.map_some,Option.map_none];rw[h52,show A.eval (.const (.int .i64 1))=_ from rfl];exact gT Tryz.underlying27 kM w1 _ _ _ 1 .i64 _ (by first|rfl|simp|omega) (hca1.1) (hca1.2)))),λ_ _ a _ _ _=>xM rfl (a 1 rfl),λA w1 _ _ _ he=>have h54:=eT 54 (he.1 rfl);have hc0:=eC A (.int .i64 1);ae rfl (aB rfl rfl (jE rfl (by simp only[Option.map_some,Option.map_none];rw[h54,show A.eval (.const (.int .i64 1))=_ from rfl];exact gT Tryz.underlying27 kM w1 _ _ _ 1 .i64 _ (by first|rfl|simp|omega) (hcb1.1) (hcb1.2)))),λA _ _ _ _ he=>have h53:=eT 53 (he.1 rfl);pZ rfl,trivial⟩ ?_
        ·intro W6 hL6;simp only[aT,af.eq,lZ];go_frame;have hown6:=hown5.on hL6.below;have hbW6:=hbW5.trans (hL6.below.mono hbW5.size);generalize hva:Value.slice (if u=1 then some ⟨l,m,none⟩else(some ⟨l,m,none⟩:Option Addr).map (·.add (1*8))) (p2.length+1 - 1) (u - 1)=Y at B ⊢;generalize hvb:Value.slice (if y=1 then some ⟨n,ob,none⟩else(some ⟨n,ob,none⟩:Option Addr).map (·.add (1*8))) (q2.length+1 - 1) (y - 1)=vb at C ⊢;have J:mO Y=p2.length:=by rw[<-hva];rfl
         have X:mO vb=q2.length:=by rw[<-hvb];rfl
         clear hva hvb;go_wp2;go_roundw
         case measure=>rw[show mO _=_ from J,show mO _=_ from X];simp[mO];omega
         case rel=>exact⟨i+1,j+1,L++[(s.1,s.2+t.2)],zH (by rw[hp1];exact B),zH (by rw[hq1];exact C),zH hown6,zH (by rw[hR.out,hp1,hq1];simp),by simp;omega,oM,oM,hbW6⟩
end Go.Proofs.YtopclbeomcggiaaGreat
end
section
namespace Q
open Go Go.RowKit in
theorem OT{P:Program}{ops:List Oper}{Q:Exit->Act->World->Prop}{w0:World}{g:Option Nat}{T T':TypeId}{B:Nat}{cs:List Value}(n:fK g T w0)(q:B<=w0.heap.size){e:List (af (Lr g T))}{D:Nat->Bool}
  (h:∀i,D i=true->∃o,ops[i]?=some o/\o.guard=none/\PK e i=false/\PL e i=false/\qD e i=(af.box T' B cs:af (Lr g T)).p/\∀(A:Act) w,(execOp A.eval o).run P w=.ok (.value (.pointer (some ⟨w.heap.size,0,none⟩))) (w.alloc (.cells cs.toArray T'))) :
  ED (Lr g T) (PK e) (PL e) P ops (qD e) e.length Q w0 D:=by
 intro i o s l r;obtain⟨u,j,hg,hp,hf,d,k⟩:=h i l;rw[r]at j;cases j;refine⟨hg,λv w m hv=>?_,λA w m=>?_⟩
 ·rw[d]at hv;obtain⟨b,-,-,rfl,hb⟩:=hv;exact⟨b,rfl,hb.lt⟩
 ·unfold Oper.wp;rw[k A w];refine⟨_,rfl,?_,?_,w.heap.size,rfl,nL _⟩
  ·rw[if_neg (by rw[hp];simp),if_neg (by rw[hf];simp)];exact(Below.refl _ _).alloc (nL _) _
  ·rw[d];refine⟨w.heap.size,λh=>?_,Nat.le_trans q m.1.size,rfl,Blk.new w T' cs⟩;have:=(n.lr m _ h.symm).1;omega
theorem Tx{a b s q r:Int}(p:1<=s)(hb:1<=b)(e:a*s=q*(b*s)+r)(n:0<=r)(o:r<b*s):q=a/b/\r=(a%b)*s:=by
 have i:r=(a-q*b)*s:=by rw[Int.sub_mul,Int.mul_assoc];omega
 have l:0<=a-q*b:=by
  rcases(oM:a - q*b<0\/0<=a - q*b)with h|h
  ·have:=Int.mul_neg_of_neg_of_pos h (oM:0<s);omega
  ·exact h
 have m:a-q*b<b:=by
  rcases(oM:a - q*b<b\/b<=a - q*b)with h|h
  ·exact h
  ·have:=Int.mul_le_mul_of_nonneg_right h (oM:0<=s);omega
 have j:a=(a-q*b)+b*q:=by rw[Int.mul_comm b q];omega
 have d:a/b=q:=by rw[j,Int.add_mul_ediv_left _ _ oM,Int.ediv_eq_zero_of_lt l m,Int.zero_add]
 have k:a%b=a-q*b:=by have:=Int.mul_ediv_add_emod a b;rw[d,Int.mul_comm]at this;omega
 exact⟨d.symm,by rw[k];exact i⟩
end Q
namespace Go.Proofs.YtopclbeomcggiaaGreat
open Go.RowKit Q
theorem wm{v:Value}(l:List Int)(W:World)(h:cO W v l)(b:l.length<=1000000000):Calls Tryz.prog 103 #[v,.bool false] W (kY W (ah l)):=by have:=iC false v l W h b;rwa[show fZ false (ah l)=ah l from by simp[fZ]]at this
theorem IV(v1 v2:Value)(l1 l2:List Int)(w:World)(h1:cO w v1 l1)(h2:cO w v2 l2)(n2:gL l2)(c1:aF (ah l1).natAbs<=CT)(c2:aF (ah l2).natAbs<=CT)(b1:l1.length<=600000000)(b2:l2.length<=600000000)(hl:2<=l2.length) :
  Calls Tryz.prog 139 #[v1,v2] w (MV w (ah l1/ah l2) (ah l1%ah l2)):=by
 have u1:=h1;have u2:=h2;obtain⟨ao1,cap1,rfl,hc1,L1,m1⟩:=h1;obtain⟨ao2,cap2,rfl,hc2,L2,m2⟩:=h2;obtain⟨p2,o2,rfl,aE⟩:=m2 (by rw[dG];omega);obtain⟨N,hN⟩:∃N,l2.length=N+2:=⟨l2.length - 2,oM⟩;have bt:((N:Int)+2==1)=false:=by simp;omega
 have ag:=xm L2 n2 (n:=N+1) hN;have b8:=L2.getD (N+1);rw[aP]at b8;rw[hN]at hc2 u2 ⊢;obtain⟨x,hx⟩:∃x,x=l2.getD (N+1) 0:=⟨_,rfl⟩;rw[<-hx]at ag b8;have NB:N<=600000000:=oM;replace hN:=zH hN;replace hx:=zH hx
 go_enter Tryz.func139,Tryz.ntmps139
 go_upto_region 1 with (fail)
 refine xc λW hb0 B1 B2 bA=>?_;have j:=(aE.on hb0).ucell (N+1) (by have:=hN.out;omega);rw[<-hx.out]at j;go_wp2;clear j
 go_loopw [8] (λvs wr=>∃s:Int,vs=.int .u32 s/\1<=s/\s<4294967296/\Below W.heap.size W wr) (λvs _=>4294967296-(intOf vs).toNat)
 case atStart=>exact⟨1,rfl,oM,oM,Below.refl _ _⟩
 case round =>
  obtain⟨s,rfl,s0,s1,F⟩:=hrel;have j:=(aE.on (hb0.trans (F.mono hb0.size))).ucell (N+1) (by have:=hN.out;omega);rw[<-hx.out]at j;have hxs0:0<=x*s:=Int.mul_nonneg oM oM;have hxs1:x*s<=4294967295*4294967295:=Int.mul_le_mul oM oM oM oM;have hxs2:s<=x*s:=by have:=Int.mul_le_mul_of_nonneg_right ag (oM:0<=s);omega
  have br:(N:Int)+2 - 1=((N+1:Nat):Int):=oM;obtain⟨y,hy⟩:∃y,y=x*s:=⟨_,rfl⟩;rw[<-hy]at hxs0 hxs1 hxs2;by_cases D:y<2147483648
  ·have hs3:s<2147483648:=oM;rw[hy]at D hxs0 hxs1;replace hy:=zH hy
   go_wp2_with (refine aj rfl (.tmp 32) (.tmp 35) _ rfl _ Tryz.underlying37 _ _ _ bD _ _ _ rfl _ _ rfl (N+1) oM oM p2 o2 rfl ?_;rw[nU])
   go_roundw
   case rel=>exact⟨2*s,nM,oM,oM,F⟩
   case measure=>simp[intOf];omega
  ·rw[hy]at D hxs0 hxs1;replace hy:=zH hy;have hs:0<=s/\s<bv:=by rw[aP];omega
   have Z:fZ false (ah [s])=s:=by simp[ah,fZ]
   have b6:aF s.natAbs<=32:=jL (k:=32) (oM:s.natAbs<2^32);have B:Below wr.heap.size wr (wr.alloc (.cells #[.int .u32 s] uT)):=(Below.refl _ _).alloc (nL _) _;have M:=iC false _ [s] _ (cO.newOne wr hs) sM;rw[Z]at M;replace M:=zH M;replace Z:=zH Z
   go_upto_region 8 with (first
    | (refine aj rfl (.tmp 32) (.tmp 35) _ rfl _ Tryz.underlying37 _ _ _ bD _ _ _ rfl _ _ rfl (N+1) oM oM p2 o2 rfl ?_;rw[nU])
    | (go_at_call 103;refine M.out.mono ?_;rintro e w3 hret;obtain⟨n4,a4,k4,q4,rfl,i4,hb3⟩:=eD hret;clear hret))
   clear D hxs0 hxs1 hxs2 j M Z;refine jb λW3 hb7 BF b7=>?_;have hb13:Below wr.heap.size wr W3:=(B.trans (hb3.mono B.size)).trans (hb7.mono (B.trans (hb3.mono B.size)).size);have hb03:Below W.heap.size W W3:=F.trans (hb13.mono F.size);have aw:=B1.on hb03;have al:=B2.on hb03;have av:=i4.on hb7;have L:=hb0.trans (hb03.mono hb0.size);have U1:=u1.on L;have U2:=u2.on L;have hlt3:W.heap.size<=w3.heap.size:=Nat.le_trans F.size (B.trans (hb3.mono B.size)).size;clear hb7 hb3 B hb13 i4 F;generalize w3.heap.size=g at *;have k1:aF (ah l1).natAbs<=CS:=Nat.le_trans c1 (by have q1:=nQ;have q2:=mM;omega);have k2:aF (ah l2).natAbs<=CS:=Nat.le_trans c2 (by have q1:=nQ;have q2:=mM;omega);have ks:aF s.natAbs<=CS:=Nat.le_trans b6 (by have q1:=nQ;have q2:=mM;omega);have M1:=zH (λW (hb:Below W3.heap.size W3 W)=>wm l1 W (U1.on hb) oM);have M2:=zH (λW (hb:Below W3.heap.size W3 W)=>wm l2 W (U2.on hb) oM);refine Gh mixed (none) (0) (fK.none) [.eq (.slice ao1 l1.length cap1),.int dM ((ah l1)),.eq (.agg #[.bool n4,.slice a4 k4 q4]),.int dM ((ah l1*s)),.eq (.slice (some ⟨p2,o2,none⟩) (N+2) cap2),.int dM ((ah l2)),.eq (.agg #[.bool n4,.slice a4 k4 q4]),.int dM ((ah l2*s)),.eq (.agg #[.bool false,.slice none 0 0]),.box 39 W3.heap.size [.bool false,.slice none 0 0],.box 39 W3.heap.size [.bool false,.slice none 0 0],.box 39 W3.heap.size [.bool false,.slice none 0 0]] [48,49,50,51,52,53,54,55,56,10,11,12] (λi=>i==9 || i==10 || i==11) 8 56 (.agg #[.bool false,.slice none 0 0]) (OT (fK.none) (nL _) λi hi=>by simp only[Bool.or_eq_true,beq_iff_eq]at hi;rcases hi with (rfl|rfl)|rfl<;>exact⟨_,rfl,rfl,rfl,rfl,rfl,λA w=>by go_simp⟩) (OH ⟨_,rfl,rfl,rfl,rfl,rfl,λA w=>by go_simp⟩) rfl rfl rfl rfl rfl ⟨λ_ _ a _ _ _=>xM rfl (a 0 rfl),λA _ _ _ hS he=>have hb:=hS rfl;have h48:=eT 48 (he.1 rfl);have hf0:=eF A 103;have hc0:=eC A (.bool false);cP (f:=103) (args:=#[.slice ao1 l1.length cap1,(.bool false)]) (M1.out _ hb),λA _ hA hL _ _=>have hb:=hL.below;have h9:A.eval (.tmp 9)=.pointer (some ⟨g,0,none⟩):=hA 9 rfl;have c0:=((BF).on hb).at1 0 _ rfl;have c1:=((BF).on hb).at1 1 _ rfl;pZ rfl,?_,λ_ _ a _ _ _=>xM rfl (a 1 rfl),λA _ _ _ hS he=>have hb:=hS rfl;have h52:=eT 52 (he.1 rfl);have hf0:=eF A 103;have hc0:=eC A (.bool false);cP (f:=103) (args:=#[.slice (some ⟨p2,o2,none⟩) (N+2) cap2,(.bool false)]) (M2.out _ hb),λA _ hA hL _ _=>have hb:=hL.below;have h9:A.eval (.tmp 9)=.pointer (some ⟨g,0,none⟩):=hA 9 rfl;have c0:=((BF).on hb).at1 0 _ rfl;have c1:=((BF).on hb).at1 1 _ rfl;pZ rfl,?_,λA _ _ _ _ _=>pZ rfl,?_,?_,?_,trivial⟩ ?_
   ·intro A w1 hA hL hS he;have hb:=hS rfl;obtain⟨v49,h49,f49⟩:=fT 49 (he.1 rfl);have h50:=eT 50 (he.2.1 rfl);have hf0:=eF A 105;refine ae rfl ?_;refine dI (f:=105) (args:=#[v49,.agg #[.bool n4,.slice a4 k4 q4]]) rfl rfl ?_ ?_
    ·exact gZ
    ·obtain⟨n49,m49,rfl,i49⟩:=f49;refine(lL _ _ _ _ _ _ _ i49 (av.on hb) k1 ks).mono ?_;rintro e w' ⟨neg,m,rfl,hi,J⟩;exact⟨_,rfl,J,neg,m,rfl,hi⟩
   ·intro A w1 hA hL hS he;have hb:=hS rfl;obtain⟨v53,h53,f53⟩:=fT 53 (he.1 rfl);have h54:=eT 54 (he.2.1 rfl);have hf0:=eF A 105;refine ae rfl ?_;refine dI (f:=105) (args:=#[v53,.agg #[.bool n4,.slice a4 k4 q4]]) rfl rfl ?_ ?_
    ·exact gZ
    ·obtain⟨n53,m53,rfl,i53⟩:=f53;refine(lL _ _ _ _ _ _ _ i53 (av.on hb) k2 ks).mono ?_;rintro e w' ⟨neg,m,rfl,hi,J⟩;exact⟨_,rfl,J,neg,m,rfl,hi⟩
   ·intro A w1 hA hL hS he;refine ae rfl ?_;refine nk rfl rfl ((fK.none).lr hL) hL.1.size (by generalize A.eval=ev at *;go_simp) (λ_ _ h=>h)
   ·intro A w1 hA hL hS he;refine ae rfl ?_;refine nk rfl rfl ((fK.none).lr hL) hL.1.size (by generalize A.eval=ev at *;go_simp) (λ_ _ h=>h)
   ·intro A w1 hA hL hS he;refine ae rfl ?_;refine nk rfl rfl ((fK.none).lr hL) hL.1.size (by generalize A.eval=ev at *;go_simp) (λ_ _ h=>h)
   ·intro W4 vs hL4 Y;have d1:=Y 9 10 sM sM dM rfl rfl;have d2:=Y 9 11 sM sM dM rfl rfl;have d3:=Y 10 11 sM sM dM rfl rfl;clear Y;have hb4:=hL4.below;simp (config:={ maxSteps:=2000000 }) only[ul,uf,af.pin,af.eq,af.int,af.box,af.of,Nat.reduceBEq,Nat.reduceAdd,Bool.or_false,Bool.false_or,cond_false,cond_true,Bool.or_true,Bool.true_or,List.length_cons,List.length_nil,List.drop_succ_cons,List.drop_zero];rintro _ - _ ⟨n5,m5,rfl,i5⟩ _ - _ ⟨n6,m6,rfl,i6⟩ _ ⟨⟨g1,-,hg1,rfl,G1⟩,h9⟩ _ ⟨⟨g2,-,hg2,rfl,G2⟩,h10⟩ _ ⟨⟨g3,-,hg3,rfl,G3⟩,h11⟩;rw[<-h9,<-h10]at d1;rw[<-h9,<-h11]at d2;rw[<-h10,<-h11]at d3;clear h9 h10 h11 hL4;have d1:g1≠g2:=λh=>d1 (by rw[h]);have d2:g1≠g3:=λh=>d2 (by rw[h]);have d3:g2≠g3:=λh=>d3 (by rw[h]);have a9:=aw.on hb4;have aa:=al.on hb4;have hlt1:w.heap.size+1<W3.heap.size:=al.lt;go_frame;refine zX rfl _ 10 51 rfl dM dM rfl g1 _ _ _ rfl rfl G1 rfl aK i5.ones λW5 R5 gr5=>?_;have H2:=G2.grown gr5 (Ne.symm d1);have H3:=G3.grown gr5 (Ne.symm d2);have j5:=i5.stored gr5 G1 dM;have j6:=i6.stored gr5 G1 dM;refine zX rfl _ 11 55 rfl dM dM rfl g2 _ _ _ rfl rfl H2 rfl aK j6.ones λW6 R6 gr6=>?_;have K1:=R5.grown gr6 d1;have K3:=H3.grown gr6 (Ne.symm d3);have k5:=j5.stored gr6 H2 dM;have k6:=j6.stored gr6 H2 dM;refine⟨?_,.inl rfl⟩;go_frame;have bh:w.heap.size+1<g1:=oM
    have bj:w.heap.size+1<g2:=oM;have bl:w.heap.size+1<g3:=oM;have o:=L.trans (hb4.mono L.size);have p:=o.trans (aH gr5 o.size oM);have u:=p.trans (aH gr6 p.size oM);have C1:=(a9.grown gr5 oM).grown gr6 oM;have C2:=(aa.grown gr5 oM).grown gr6 oM;clear i5 i6 j5 j6 G1 G2 G3 H2 H3 R5 gr5 gr6 hb4 o p aw al a9 aa BF M1 M2 U1 U2 av L hb03 hlt3 b7 ks
    go_upto_region 9 with (refine az rfl _ (.tmp 12) (.tmp 56) rfl _ _ _ _ rfl rfl K3 rfl aK (by simp[Value.oneCell']) ?_;intro W7 R7 gr7)
    have a0:=k5.stored gr7 K3 dM;have a1:=k6.stored gr7 K3 dM;have P1:=K1.grown gr7 d2;have P2:=R6.grown gr7 d3;have E1:=C1.grown gr7 oM;have E2:=C2.grown gr7 oM;have hb7:=u.trans (aH gr7 u.size oM);obtain⟨a5,x5,y5,rfl,-,-⟩:=a0.shape;obtain⟨a6,x6,y6,rfl,-,-⟩:=a1.shape
    have hD1:1<=ah l2*s:=by have h1:=n2.pos L2 (by have:=hN.out;omega);have:=Int.mul_le_mul_of_nonneg_right (oM:1<=ah l2) (oM:0<=s);omega
    have hA0:0<=ah l1*s:=Int.mul_nonneg (aU L1) oM
    have I:aF (ah l1*s).natAbs<=CS:=by have h1:=gB (ah l1).natAbs s.natAbs;rw[<-Int.natAbs_mul]at h1;have q1:=nQ;have q2:=mM;omega
    have an:aF (ah l2*s).natAbs<=CS:=by have h1:=gB (ah l2).natAbs s.natAbs;rw[<-Int.natAbs_mul]at h1;have q1:=nQ;have q2:=mM;omega
    obtain⟨A0,hA⟩:∃A0,A0=ah l1*s:=⟨_,rfl⟩;obtain⟨D0,hD⟩:∃D0,D0=ah l2*s:=⟨_,rfl⟩;rw[<-hA]at hA0 I a0;rw[<-hD]at hD1 an a1;replace hA:=zH hA;replace hD:=zH hD
    have G:Hid (∃r q,uk g1 r W7/\uk g2 D0 W7/\uk g3 q W7/\0<=r/\0<=q/\A0=q*D0+r/\r.natAbs=A0.natAbs) :=
     zH ⟨A0,0,⟨_,_,_,_,P1,a0⟩,⟨_,_,_,_,P2,a1⟩,⟨_,_,_,_,R7,[],⟨none,0,rfl,nL _,aG.nil,At.nil⟩,gL.nil,(λh=>by cases h),rfl⟩,hA0,Int.le_refl _,oM,rfl⟩
    have d:=zH (And.intro E1 E2);clear P1 P2 R7 gr7 E1 E2 a0 a1 k5 k6 K1 K3 R6 C1 C2 u k1 k2 b6;generalize A0.natAbs=n0 at G
    go_loopg [] n0 (λn wr=>Hid (∃r q,uk g1 r wr/\uk g2 D0 wr/\uk g3 q wr/\0<=r/\0<=q/\A0=q*D0+r/\r.natAbs=n)/\Below w.heap.size w wr/\Hid (Blk wr w.heap.size 39 [.bool false,.slice none 0 0]/\Blk wr (w.heap.size+1) 39 [.bool false,.slice none 0 0]))
    case atStart=>exact⟨G,hb7,d⟩
    case round =>
     clear G hb7 d;obtain⟨G,hb,d⟩:=hrel;obtain⟨r,q,⟨nr,ar,kr,cr,X,ir⟩,⟨nd,ad,kd,cd,Bd,id⟩,⟨nq,aq,kq,cq,S,iq⟩,hr0,hq0,he,hn⟩:=G.out;clear G;have bz:r<=A0:=by have:=Int.mul_nonneg hq0 (oM:0<=D0);omega
     have bw:q<=A0:=by have:=mZ (oM:1<=D0) hq0;omega
     have b4:aF r.natAbs<=CS:=iT oM I;have bc:aF q.natAbs<=CS:=iT oM I;obtain⟨lr,-,-,-,-,bp,ur,bb,-,a3,-,er⟩:=ir.openS b4;obtain⟨ld,-,-,-,-,bo,ud,ba,-,a2,-,ed⟩:=id.openS an;have vr:ah lr=r:=by have h0:=aU bb;cases nr<;>simp[fZ]at er<;>omega
     have vd:ah ld=D0:=by have h0:=aU ba;cases nd<;>simp[fZ]at ed<;>omega
     have C:=xA _ _ lr ld wr ur ud oM oM a3 a2;rw[vr,vd]at C
     have b9:1<=ld.length:=by
      rcases Nat.eq_zero_or_pos ld.length with h|h
      ·rw[List.length_eq_zero_iff.1 h]at vd;simp[ah]at vd;omega
      ·exact h
     replace he:=zH he;replace hn:=zH hn;replace d:=d.out;replace vr:=zH vr;replace vd:=zH vd;clear er ed;have u1:=X.at1 1 _ rfl;have u2:=Bd.at1 1 _ rfl;by_cases D:r<D0
     ·rw[decide_eq_true D]at C
      go_upto_region 13 with (go_at_call 102;refine C.mono ?_;rintro e w2 ⟨rfl,hb2⟩)
      have u1:=(X.on hb2).at1 1 _ rfl;have b5:=Cu _ lr s w2 (ur.on hb2) oM s0 s1
      go_upto_region 14 with (go_at_call 157;refine b5.mono ?_;rintro e w3 ⟨v,l,rr,rfl,hu,bs,ap,hrr0,hrr1,hb3⟩)
      have hb23:=hb2.trans (hb3.mono hb2.size);have ao:=Tx (a:=ah l1) (b:=ah l2) (s:=s) (q:=q) (r:=r) s0 (by have:=n2.pos L2 (by have:=hN.out;omega);omega) (by rw[<-hA.out,<-hD.out];exact he.out) hr0 (by rw[<-hD.out];exact D)
      have hm:ah l=ah l1%ah l2:=by rw[vr.out]at ap;have x1:=(WL (oM:0<s) ap hrr0 hrr1).1;have x2:=(WL (z:=r) (r:=0) (oM:0<s) (by rw[Int.add_zero];exact ao.2) (Int.le_refl _) oM).1;rw[<-x1,x2]
      have au:=ao.1;have Bq3:=S.on hb23;have iq3:=iq.on hb23;have F1:=d.1.on hb23;have F2:=d.2.on hb23;have ab:=hb.trans (hb23.mono hb.size);have M3:=zH (λW (hb:Below w3.heap.size w3 W)=>wm l W (hu.on hb) oM);rw[hm]at M3;replace hm:=zH hm;replace au:=zH au;clear b5 C u2 u1 ap ao hb2 hb3 hb23 hb X Bd S ir id iq d ur ud;refine aC mixed (none) (0) (fK.none) [.eq (.agg #[.bool nq,.slice aq kq cq]),.eq (v),.int dM ((ah l1%ah l2))] [83,84,85] rfl rfl rfl rfl ⟨λA _ hA hL _ _=>have hb:=hL.below;have h12:A.eval (.tmp 12)=.pointer (some ⟨g3,0,none⟩):=hA 12 rfl;have c0:=((Bq3).on hb).at1 0 _ rfl;have c1:=((Bq3).on hb).at1 1 _ rfl;pZ rfl,λ_ _ a _ _ _=>xM rfl (a 14 rfl),λA _ _ _ hS he=>have hb:=hS rfl;have h84:=eT 84 (he.1 rfl);have hf0:=eF A 103;have hc0:=eC A (.bool false);cP (f:=103) (args:=#[v,(.bool false)]) (M3.out _ hb),trivial⟩ ?_
      ·intro W4 hL4;have hb4:=hL4.below;simp only[aT,af.eq,af.int,af.of,lZ];rintro _ ⟨n8,m8,rfl,i8⟩;go_frame;have G1:=F1.on hb4;have G2:=F2.on hb4;have iq4:=iq3.on hb4;rw[au.out]at iq4
       go_wp2_with (first
        | (refine az rfl _ (.tmp 4) (.tmp 83) rfl _ _ _ _ rfl rfl G1 rfl aK iq4.ones ?_;intro W5 R5 gr5;have H2:=G2.grown gr5 oM;have iq5:=iq4.stored gr5 G1 dM;have i85:=i8.stored gr5 G1 dM)
        | (refine az rfl _ (.tmp 5) (.tmp 85) rfl _ _ _ _ rfl rfl H2 rfl aK i85.ones ?_;intro W6 R6 gr6))
       have o:=ab.trans (hb4.mono ab.size);have p:=o.trans (aH gr5 o.size oM);have u:=p.trans (aH gr6 p.size oM);exact bodyPost_ret (ut rfl _ _ _ _ Tryz.underlying39 rfl rfl rfl (R5.grown gr6 oM) R6 aK aK) rfl ⟨_,_,_,_,rfl,iq5.stored gr6 H2 dM,i85.stored gr6 H2 dM,u⟩
     ·rw[decide_eq_false D]at C;have kQ:ah ld<=ah lr:=by rw[vr.out,vd.out];omega
      have bd:=ur.limbs;have b3:=Vm ur.limbs ud.limbs a3 a2 b9 kQ;rw[vr.out,vd.out]at b3;obtain⟨hE1,hE2⟩:=b3;have b0:=zH (λW (hb:Below wr.heap.size wr W)=>Gq _ _ lr ld W (ur.on hb) (ud.on hb) a3 a2 b9 kQ oM);generalize KE lr ld=E at *;have bq:E<=r:=by have:=mZ (oM:1<=D0) (oM:0<=E);omega
      have ay:aF E.natAbs<=CS:=iT oM I;have ax:aF (E*D0).natAbs<=CS:=iT (by have:=Int.mul_nonneg (oM:0<=E) (oM:0<=D0);omega) I;have hED1:D0<=E*D0:=by have:=Int.mul_le_mul_of_nonneg_right hE1 (oM:0<=D0);omega
      clear kQ bd
      go_upto_region 10 with (go_at_call 102;refine C.mono ?_;rintro e w2 ⟨rfl,hb2⟩)
      clear u1 u2;have u1:=(X.on hb2).at1 1 _ rfl;have u2:=(Bd.on hb2).at1 1 _ rfl
      go_upto_region 11 with (go_at_call 158;refine(b0.out w2 hb2).mono ?_;rintro e w3 hret;obtain⟨n4,a4,k4,q4,rfl,i4,hb3⟩:=eD hret;clear hret)
      clear u1 u2 b0 C;refine jb λW4 hb4 BE hsz4=>?_;have hb24:Below wr.heap.size wr W4:=(hb2.trans (hb3.mono hb2.size)).trans (hb4.mono (hb2.trans (hb3.mono hb2.size)).size);have x4:=i4.on hb4;have bn:wr.heap.size<=w3.heap.size:=(hb2.trans (hb3.mono hb2.size)).size;have bi:=X.lt;have bk:=Bd.lt;have bm:=S.lt;replace X:=X.on hb24;replace Bd:=Bd.on hb24;replace S:=S.on hb24;replace ir:=ir.on hb24;replace id:=id.on hb24;replace iq:=iq.on hb24;have F1:=d.1.on hb24;have F2:=d.2.on hb24;replace hb:=hb.trans (hb24.mono hb.size);clear hb2 hb3 hb4 hb24 i4 d ur ud a3 a2;generalize w3.heap.size=g4 at *;have u1:=S.at1 0 _ rfl;have u2:=S.at1 1 _ rfl;have u3:=BE.at1 0 _ rfl;have u4:=BE.at1 1 _ rfl
      go_upto_region 12 with (first
       | (go_at_call 108;refine(xC _ _ _ _ q E W4 iq x4 bc ay).mono ?_;rintro e w5 hret;obtain⟨n7,a7,k7,q7,rfl,i7,hb5⟩:=eD hret;clear hret;have Bq5:=S.on hb5)
       | (refine az rfl _ (.tmp 12) (.tmp 70) rfl _ _ _ _ rfl rfl Bq5 rfl aK i7.ones ?_;intro W6 R6 gr6))
      have j7:=i7.stored gr6 Bq5 dM;have Br6:=(X.on hb5).grown gr6 d2;have Bd6:=(Bd.on hb5).grown gr6 d3;have BE6:=(BE.on hb5).grown gr6 oM;have ir6:=(ir.on hb5).stored gr6 Bq5 dM;have id6:=(id.on hb5).stored gr6 Bq5 dM;have be:=(x4.on hb5).stored gr6 Bq5 dM;have F16:=(F1.on hb5).grown gr6 oM;have F26:=(F2.on hb5).grown gr6 oM;have hb6:Below w.heap.size w W6:=(hb.trans (hb5.mono hb.size)).trans (aH gr6 (hb.trans (hb5.mono hb.size)).size oM);clear u1 u2 u3 u4 X Bd BE S Bq5 ir id iq x4 i7 gr6 F1 F2 hb hb5;refine aC mixed (none) (0) (fK.none) [.eq (.agg #[.bool nr,.slice ar kr cr]),.eq (.agg #[.bool n4,.slice a4 k4 q4]),.eq (.agg #[.bool nd,.slice ad kd cd]),.int dM ((E*D0)),.int dM ((r-E*D0))] [71,72,73,74,75] rfl rfl rfl rfl ⟨λA _ hA hL _ _=>have hb:=hL.below;have h10:A.eval (.tmp 10)=.pointer (some ⟨g1,0,none⟩):=hA 10 rfl;have c0:=((Br6).on hb).at1 0 _ rfl;have c1:=((Br6).on hb).at1 1 _ rfl;pZ rfl,λA _ hA hL _ _=>have hb:=hL.below;have h13:A.eval (.tmp 13)=.pointer (some ⟨g4,0,none⟩):=hA 13 rfl;have c0:=((BE6).on hb).at1 0 _ rfl;have c1:=((BE6).on hb).at1 1 _ rfl;pZ rfl,λA _ hA hL _ _=>have hb:=hL.below;have h11:A.eval (.tmp 11)=.pointer (some ⟨g2,0,none⟩):=hA 11 rfl;have c0:=((Bd6).on hb).at1 0 _ rfl;have c1:=((Bd6).on hb).at1 1 _ rfl;pZ rfl,λA _ _ _ hS he=>have hb:=hS rfl;have h72:=eT 72 (he.1 rfl);have h73:=eT 73 (he.2.1 rfl);have hf0:=eF A 105;cP (f:=105) (args:=#[.agg #[.bool n4,.slice a4 k4 q4],.agg #[.bool nd,.slice ad kd cd]]) (lL _ _ _ _ _ _ _ (be.on hb) (id6.on hb) ay an),?_,trivial⟩ ?_
      ·intro A w1 hA hL hS he;have hb:=hS rfl;have h71:=eT 71 (he.1 rfl);obtain⟨v74,h74,f74⟩:=fT 74 (he.2.1 rfl);have hf0:=eF A 140;refine ae rfl ?_;refine dI (f:=140) (args:=#[.agg #[.bool nr,.slice ar kr cr],v74]) rfl rfl ?_ ?_
       ·exact gZ
       ·obtain⟨n74,m74,rfl,i74⟩:=f74;refine(IK _ _ _ _ _ _ _ (ir6.on hb) i74 b4 ax).mono ?_;rintro e w' ⟨neg,m,rfl,hi,J⟩;exact⟨_,rfl,J,neg,m,rfl,hi⟩
      ·intro W7 hL7;have hb7:=hL7.below;simp only[aT,af.eq,af.int,af.of,lZ];rintro _ - _ ⟨n8,m8,rfl,i8⟩;obtain⟨a8,k8,q8,rfl,-,-⟩:=i8.shape;go_frame;have Br7:=Br6.on hb7;have Bd7:=Bd6.on hb7;have Bq7:=R6.on hb7;have id7:=id6.on hb7;have j77:=j7.on hb7;have F17:=F16.on hb7;have F27:=F26.on hb7;have ac:=hb6.trans (hb7.mono hb6.size)
       go_wp2_with (refine az rfl _ (.tmp 10) (.tmp 75) rfl _ _ _ _ rfl rfl Br7 rfl aK i8.ones ?_;intro W8 R8 gr8)
       have e8:=i8.stored gr8 Br7 dM;have Bd8:=Bd7.grown gr8 (Ne.symm d1);have Bq8:=Bq7.grown gr8 (Ne.symm d2);have id8:=id7.stored gr8 Br7 dM;have iq8:=j77.stored gr8 Br7 dM;have F18:=F17.grown gr8 oM;have F28:=F27.grown gr8 oM;have hb8:=ac.trans (aH gr8 ac.size oM);go_roundg ((r-E*D0).natAbs)
       case measure=>have:=hn.out;omega
       case rel=>exact⟨zH ⟨r-E*D0,q+E,⟨_,_,_,_,R8,e8⟩,⟨_,_,_,_,Bd8,id8⟩,⟨_,_,_,_,Bq8,iq8⟩,oM,oM,by rw[he.out,Int.add_mul];omega,rfl⟩,hb8,zH ⟨F18,F28⟩⟩
end Go.Proofs.YtopclbeomcggiaaGreat
end
section
namespace Go.Proofs.YtopclbeomcggiaaGreat
open Go.RowKit Q Go.WideMaps Go.Maps
theorem OU(v:Value)(l:List ai)(w:World)(h:ak w v l)(r:l.length<=100000000):Calls Tryz.prog 87 #[v] w (wh w l):=by
 obtain⟨o,cap,s,rfl,p,i,hex⟩:=id h;have n:=Go.Lib.run_eql_slice_nil (P:=Tryz.prog) w 27 43 o l.length cap 0 0 Tryz.underlying27
 cases o with
 | none =>
  have j:l=[]:=by
   cases l with
   | nil=>rfl
   | cons t l =>
    obtain⟨b,off,e,_⟩:=i (by rw[hex.length];simp[aO]);cases e
  subst j;simp only[List.length_nil,Option.isNone_none]at n ⊢
  go_enter Tryz.func87,Tryz.ntmps87
  go_wp2;go_ret;exact⟨_,rfl,di.nil _ _ _,Below.refl _ _⟩
 | some a =>
  have d:Below w.heap.size w (w.alloc (.cells #[] aJ)):=(Below.refl _ _).alloc (nL _) _;have m:bV w.heap.size (w.alloc (.cells #[] aJ)) (.slice (some ⟨w.heap.size,0,none⟩) 0 0) []:=⟨[],World.ownsRow_lit w #[] 0 (nL _) (by unfold maxLen;omega) sM,rfl⟩;have h1:=h.on d;clear i
  go_enter Tryz.func87,Tryz.ntmps87
  go_wp2_with (at_builtin;refine fV rfl _ _ 27 rfl Tryz.underlying27 bG rfl rfl m h1 (by simp;omega) d.size ?_;intro v5 w5 hown5 hl5 hv5)
  go_ret;exact⟨_,rfl,by simpa using hown5,d.trans (hl5.belowAt d.size (λk q=>by cases q;exact nL _))⟩
theorem OV{w:World}{e:List Value}{l:List ai}{k:Nat}{t:ai}{i:List Value}{q:Rat}(h:eO aO.E w e l)(o:l[k]?=some t)(u:gM w i q) :
  eO aO.E w (e.take (k*8+4)++i++e.drop (k*8+8)) (l.set k (t.1,q)):=by
 have d:k<l.length:=(gS.1 o).1;obtain⟨c,⟨r,rfl,x⟩,hq⟩:=h.at' o
 have e1:e.take (k*8+4)=e.take (k*8)++bC t.1:=by
  rw[List.take_add]
  congr 1
  apply List.ext_getElem?;intro j;rw[List.getElem?_take,List.getElem?_drop];by_cases b:j<4
  ·rw[if_pos b];have:=hq j (by simp only[aO];omega);rw[show aO.sz=8 from rfl]at this;rw[this,List.getElem?_append_left (by simpa[bC]using b)]
  ·rw[if_neg b,gN (by simp[bC];omega)]
 have p:l.set k (t.1,q)=l.take k++[(t.1,q)]++l.drop (k+1):=by
  apply List.ext_getElem?;intro j;rw[List.getElem?_set];by_cases b:k=j
  ·subst b;rw[if_pos rfl,if_pos d,List.append_assoc,List.getElem?_append_right (by simp;omega)];simp[Nat.min_eq_left (Nat.le_of_lt d)]
  ·rw[if_neg b];rcases Nat.lt_or_ge j k with h'|h'
   ·rw[List.append_assoc,List.getElem?_append_left (by simp;omega),List.getElem?_take,if_pos h']
   ·rw[List.getElem?_append_right (by simp;omega),List.getElem?_drop]
    congr 1;simp;omega
 rw[e1,p];have m:=h.take k;have n:=h.drop (k+1);rw[show aO.sz=8 from rfl]at m n;rw[(oM:k*8+8=(k+1)*8)];have s:eO aO.E w (bC t.1++i) [(t.1,q)]:=eO.single ⟨i,rfl,u⟩;have:=(m.append s).append n;simpa[List.append_assoc]using this
theorem QJ{base:Nat}{w:World}{g n cap:Nat}{l:List ai}(N:bV base w (.slice (some ⟨g,0,none⟩) n cap) l) :
  ∃C,Blk w g aJ C/\n=l.length/\l.length*8<=C.length/\∀k t u q w',l[k]?=some t->gM w' u q->Blk w' g aJ (C.take (k*8+4)++u++C.drop (k*8+8))->Lr (some g) aJ w w'->bV base w' (.slice (some ⟨g,0,none⟩) n cap) (l.set k (t.1,q)):=by
 obtain⟨d,⟨s,o⟩,hex⟩:=N;rcases o with ⟨h,_⟩|⟨O,z,b,h,x,hg,m,y,j,p⟩
 ·simp at h
 ·simp only[Value.slice.injEq,sJ,Addr.mk.injEq,and_true,true_and]at h;obtain⟨rfl,rfl,rfl⟩:=h;have J:b.toList.length=b.size:=Array.length_toList;have B:b.size=cap*8:=j;have r:b.toList.take (l.length*8)=d:=p;have F:d.length=l.length*8:=s;clear j p s;have M:l.length*8<=cap*8:=Nat.mul_le_mul_right 8 m;have kQ:l.length*8<=b.toList.length:=oM;have e:b.toList=d++b.toList.drop (l.length*8):=by rw[<-r,List.take_append_drop]
  have i:Blk w g aJ b.toList:=hg;generalize b.toList=C at *;refine⟨C,i,rfl,kQ,λk t u q w' D E I L=>?_⟩;have K:k<l.length:=(gS.1 D).1;have R:=E.len;refine⟨d.take (k*8+4)++u++d.drop (k*8+8),⟨?_,.inr ⟨g,cap,_,sM,x,I,by simpa using m,y,?_,?_⟩⟩,OV (hex.lr fw L) D E⟩
  ·show _=_*8;simp only[List.length_append,List.length_take,List.length_drop,List.length_set];omega
  ·show _=_*8;simp only[List.size_toArray,List.length_append,List.length_take,List.length_drop];omega
  ·show List.take (_*8) _=_;rw[List.length_set];have H:C.take (k*8+4)=d.take (k*8+4):=by rw[e,List.take_append_of_le_length oM]
   have G:C.drop (k*8+8)=d.drop (k*8+8)++C.drop (l.length*8):=by
    conv=>lhs;rw[e]
    rw[List.drop_append_of_le_length oM]
   rw[H,G,<-List.append_assoc,List.take_append_of_le_length (by simp;omega),tL (by simp;omega)]
theorem OW{base:Nat}{w:World}{v:Value}{l:List ai}(m:bV base w v l)(k:0<l.length):∃g cap,v=.slice (some ⟨g,0,none⟩) l.length cap/\base<=g:=by
 obtain⟨p,⟨n,d⟩,hex⟩:=id m;rcases d with ⟨h,o⟩|⟨j,b,i,h,e,_⟩
 ·omega
 ·exact⟨j,b,h,e⟩
def PM (p:List ai) (c:Rat) (k:Nat):List ai:=(p.take k).map (λt=>(t.1,t.2*c))++p.drop k
theorem Ty(p:List ai)(c:Rat)(k:Nat):(PM p c k).length=p.length:=by simp[PM];omega
theorem M8{p:List ai}{c:Rat}{k:Nat}{t:ai}(h:p[k]?=some t):(PM p c k)[k]?=some t:=by
 have b:=(gS.1 h).1;rw[PM,List.getElem?_append_right (by simp;omega),List.getElem?_drop,<-h]
 congr 1;simp;omega
theorem Tz{p:List ai}{c:Rat}{k:Nat}{t:ai}(h:p[k]?=some t):(PM p c k).set k (t.1,t.2*c)=PM p c (k+1):=by have b:=(gS.1 h).1;rw[PM,List.set_append_right _ _ (by simp;omega),show k-(List.map (λt=>(t.1,t.2*c)) (p.take k)).length=0 by simp;omega,List.drop_eq_getElem_cons b,List.set_cons_zero,PM,List.take_add_one,h];simp
theorem QK(p:List ai)(c:Rat):PM p c p.length=p.map λt=>(t.1,t.2*c):=by simp[PM]
theorem E8(D L:Value)(p:List ai)(c:Rat)(w:World)(hp:ak w D p)(hc:bM w L c)(u:Rk c)(n:∀t∈p,Rk t.2)(z:p.length<=100000000) :
  Calls Tryz.prog 48 #[D,L] w (aS w (bN p c)):=by
 obtain⟨s1,a1,l1,c1,s2,a2,l2,c2,rfl⟩:=fE hc;replace n:=zH n
 go_enter Tryz.func48,Tryz.ntmps48
 go_upto_region 1 with (fail)
 refine jb λW0 hb0 B3 hsz0=>?_;have d:=pF _ _ W0 (hc.on hb0);have x1:=B3.at1 0 _ rfl;have x2:=B3.at1 1 _ rfl;have x3:=B3.at1 2 _ rfl;have x4:=B3.at1 3 _ rfl;by_cases hz:c=0
 ·have hs0:jm c.num=0:=by rw[hz];rfl
  rw[hs0]at d
  go_wp2_with (go_at_call 86;refine d.mono ?_;rintro en W4 ⟨rfl,hb4⟩)
  go_ret;exact⟨_,rfl,by rw[bN,if_pos hz];exact bU.nil _ _,hb0.trans (hb4.mono hb0.size)⟩
 ·have hs0:=sj hz;generalize jm c.num=sg at hs0 d;have hs1:(sg==0)=false:=by simpa using hs0
  go_upto_region 3 with (go_at_call 86;refine d.mono ?_;rintro en W4 ⟨rfl,hb4⟩)
  have q:=OU D p W4 (hp.on (hb0.trans (hb4.mono hb0.size))) z;have B4:=B3.on hb4;have hb04:=hb0.trans (hb4.mono hb0.size);clear x1 x2 x3 x4 d B3 hb4 hs1 hs0 hb0
  go_upto_region 4 with (go_at_call 87;refine q.mono ?_;rintro en W5 ⟨v5,rfl,b,hb5⟩)
  have hb05:=hb04.trans (hb5.mono hb04.size);have B5:=B4.on hb5;have S:w.heap.size<W4.heap.size:=B4.lt;generalize W4.heap.size=base at *;clear hb5 B4 hb04 q;rcases Nat.eq_zero_or_pos p.length with hp0|hp0
  ·obtain⟨X,cap,rfl,F⟩:=b.shape;have B:p=[]:=List.length_eq_zero_iff.1 hp0;subst B;simp only[List.length_nil]at b ⊢;go_wp2
   go_loopw [14] (λi wr=>i=.int .i64 0/\wr=W5) (λ_ _=>0)
   case atStart=>exact⟨rfl,rfl⟩
   case round =>
    obtain⟨rfl,rfl⟩:=hrel;go_wp2;go_ret;exact⟨_,rfl,by rw[bN,if_neg hz];exact b.isSl,hb05⟩
  ·obtain⟨g,cap,rfl,N⟩:=OW b hp0;go_wp2
   go_loopw [14] (λi wr=>∃k:Nat,k<=p.length/\i=.int .i64 k/\Hid (bV base wr (.slice (some ⟨g,0,none⟩) p.length cap) (PM p c k))/\Below w.heap.size w wr/\Hid (Blk wr w.heap.size 41 [.bool s1,.slice a1 l1 c1,.bool s2,.slice a2 l2 c2])) (λi _=>p.length-(intOf i).toNat)
   case atStart=>exact⟨0,oM,rfl,zH (by simpa[PM]using b),hb05,zH B5⟩
   case round =>
    clear b hb05 B5;obtain⟨k,G,rfl,b,j,hB⟩:=hrel;by_cases m:k<p.length
    ·have l:p[k]?=some p[k]:=gE m;generalize p[k]=t at l;obtain⟨Y,J,cs,he,-,hE,hC⟩:=b.out.isSl.get (M8 (c:=c) l);simp only[sJ,Addr.mk.injEq,and_true]at he;obtain⟨rfl,rfl⟩:=he;obtain⟨r,rfl,hr⟩:=hE;have x:Rk t.2:=n.out _ (List.mem_of_getElem? l);have I:(k:Int)<p.length:=oM;have o:=hB.out;change bS aJ wr g (0+k*8) _ at hC
     go_upto_region 7 with (fail)
     refine aC mixed (none) (0) (fK.none) [.eq (.slice (some ⟨g,0,none⟩) p.length cap),.eq (.int .i64 k),.eq (.slice (some ⟨g,0,none⟩) p.length cap),.eq (.int .i64 k),.eq (.pointer (some ⟨g,0+k*8,none⟩)),.eq (.pointer (some ⟨g,0+k*8+4,none⟩)),.eq (.agg (r).toArray),.eq (.agg #[.bool s1,.slice a1 l1 c1,.bool s2,.slice a2 l2 c2]),.rat dM ((t.2*c)),.eq (.pointer (some ⟨g,0+k*8,none⟩)),.eq (.pointer (some ⟨g,0+k*8+4,none⟩))] [17,18,19,20,21,22,23,24,25,26,27] rfl rfl rfl rfl ⟨λ_ _ a _ _ _=>xM rfl (a 5 rfl),λ_ _ a _ _ _=>xM rfl (a 6 rfl),λ_ _ a _ _ _=>xM rfl (a 5 rfl),λ_ _ a _ _ _=>xM rfl (a 6 rfl),λ_ _ _ _ _ e=>pI rfl Tryz.underlying27 g 0 k (m) (e.1 rfl) (e.2.1 rfl),λ_ _ _ _ _ e=>ae rfl (EU rfl (e.1 rfl)),λ_ _ _ hL _ e=>pL rfl (gU (hC.on hL.below)) Tryz.underlying41 (hr.len) (e.1 rfl),λA _ hA hL _ _=>have hb:=hL.below;have h3:A.eval (.tmp 3)=.pointer (some ⟨w.heap.size,0,none⟩):=hA 3 rfl;have c0:=((o).on hb).at1 0 _ rfl;have c1:=((o).on hb).at1 1 _ rfl;have c2:=((o).on hb).at1 2 _ rfl;have c3:=((o).on hb).at1 3 _ rfl;pZ rfl,λA _ _ _ hS he=>have hb:=hS rfl;have h23:=eT 23 (he.1 rfl);have h24:=eT 24 (he.2.1 rfl);have hf0:=eF A 88;cP (f:=88) (args:=#[.agg (r).toArray,.agg #[.bool s1,.slice a1 l1 c1,.bool s2,.slice a2 l2 c2]]) (Cj _ _ _ _ _ (hr.on hb).rat (hc.on (j.trans (hb.mono j.size))) x u),λ_ _ _ _ _ e=>pI rfl Tryz.underlying27 g 0 k (m) (e.1 rfl) (e.2.1 rfl),λ_ _ _ _ _ e=>ae rfl (EU rfl (e.1 rfl)),trivial⟩ ?_
     ·intro W2 hL2;have hb2:=hL2.below;simp only[aT,af.eq,af.rat,af.of,lZ];rintro v25 h25;obtain⟨n5,a5,k5,c5,n6,a6,k6,c6,rfl⟩:=fE h25;go_frame;obtain⟨C,M,-,y,s⟩:=QJ (b.out.on hb2);rw[Ty]at y;have hbr2:=j.trans (hb2.mono j.size);have hB2:=hB.out.on hb2;clear b hB o hC hL2 hb2 hr
      go_upto_region 8 with (refine mF rfl _ (.tmp 27) (.tmp 25) rfl g (0+k*8+4) aJ _ _ rfl rfl M (by simp;omega) dA dJ ?_;intro W3 R3 hl3)
      simp only[Nat.zero_add,List.size_toArray,List.length_cons,List.length_nil,Nat.add_assoc]at R3;have hown3:=s k t _ (t.2*c) W3 (M8 l) ((h25.lr hl3 dM).cellsC) (by simpa[Nat.add_assoc]using R3) hl3;rw[Tz l]at hown3;have hB3:=hB2.lr hl3 (by simp;omega);have hbr3:=hbr2.trans (hl3.belowAt hbr2.size (λk G=>by cases G;omega));go_wp2;go_roundw
      case measure=>simp[intOf];omega
      case rel=>exact⟨k+1,oM,nM,zH hown3,hbr3,zH hB3⟩
    ·obtain rfl:k=p.length:=oM;rw[QK]at b;go_wp2;go_ret;exact⟨_,rfl,by rw[bN,if_neg hz];exact b.out.isSl,j⟩
end Go.Proofs.YtopclbeomcggiaaGreat
end
