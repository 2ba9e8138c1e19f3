/- mpoly.From and mpoly.Eval. -/
import Derived.Test.YtopclbeomcggiaaGreatW23
set_option linter.unusedVariables false
set_option linter.unusedSimpArgs false
set_option maxHeartbeats 16000000
set_option maxRecDepth 100000
section
namespace Go.Proofs.YtopclbeomcggiaaGreat
open Go.RowKit Q Go.WideMaps Go.Maps
theorem wD (e:Ex) (v:Nat) (hv:v<4) (x:Int) (r:List Value):(bR e++r).set v (.int .i64 x)=bR (e.put v x)++r:=by
 obtain rfl|rfl|rfl|rfl:v=0\/v=1\/v=2\/v=3:=by omega
 all_goals rfl
theorem sQ (e:Ex) (v:Nat) (hv:v<4) (r:List Value):(bR e++r)[v]?=some (.int .i64 (e.get v)):=by
 rw [List.getElem?_append_left (by simpa [bR] using hv)];exact zL e v hv
theorem SC.pre {l a r:List ai} (h:SC l) (e:l=a++r) (x:Ex):Rk (cf a x):=by
 have:=h.c a.length x;rw [e,List.take_left] at this;exact this
theorem rE (v:Nat):∀ (l r:List (List ai)) (i:Int),fromL v i (l++r)=fromL v i l++fromL v (i+l.length) r
 | [],r,i=>by simp [fromL]
 | p::l,r,i=>by
  rw [List.cons_append,fromL,fromL,rE v l r,List.append_assoc]
  congr 3
  simp only [List.length_cons];omega
theorem Bf (v:Nat) {L:List (List ai)} {k:Nat} {p:List ai} (h:L[k]?=some p):fromL v 0 (L.take (k+1))=fromL v 0 (L.take k)++gD p v k:=by
 have hk:k<L.length:=(List.getElem?_eq_some_iff.1 h).1;rw [List.take_add_one,h,rE,List.length_take,Nat.min_eq_left (by omega)];simp [fromL]
theorem sS (v:Nat) {L:List (List ai)} {k:Nat} {p:List ai} (h:L[k]?=some p) (j:Nat):∃ r,fromL v 0 L=(fromL v 0 (L.take k)++(gD p v k).take j)++r:=by
 have e:L=L.take (k+1)++L.drop (k+1):=(List.take_append_drop _ _).symm;refine⟨(gD p v k).drop j++fromL v (0+(L.take (k+1)).length) (L.drop (k+1)),?_⟩
 conv=>lhs;rw [e]
 rw [rE,Bf v h];simp only [List.append_assoc];rw [<- List.append_assoc (List.take j _),List.take_append_drop]
theorem PP (vl:Value) (L:List (List ai)) (v:Nat) (w:World) (h:fG w vl L) (hv:v<4) (hok:SC (fromL v 0 L)) (hl:L.length<=100000000) (hls:∀ p∈L,p.length<=100000000):Calls Tryz.prog 120 #[vl,.int .i64 v] w (aX w (sG L v)):=by
 obtain⟨ap,cp,rfl,hcp⟩:=h.shape;replace hok:=zH hok;replace hls:=zH hls;have hv4:(v:Int)<4:=by omega
 have hmm:=run_makeMap (P:=Tryz.prog) 91 w
 go_enter Tryz.func120,Tryz.ntmps120
 go_upto_region 2 with (fail)
 have hS:kJ (w.alloc (.map #[] 0)) w.heap.size []:=kJ.made w;have hbw:Below w.heap.size w (w.alloc (.map #[] 0)):=(Below.refl _ _).alloc (Nat.le_refl _) _;obtain⟨W,hW⟩:∃ W,W=w.alloc (.map #[] 0):=⟨_,rfl⟩;rw [<- hW] at hS hbw ⊢;clear hW hmm;go_wp2
 go_loopw [13] (fun i wr=>∃ k:Nat,k<=L.length/\i=.int .i64 k/\Hid (kJ wr w.heap.size (fromL v 0 (L.take k)))/\Below w.heap.size w wr) (fun i _=>L.length-(intOf i).toNat)
 case atStart=>exact⟨0,by omega,rfl,zH hS,hbw⟩
 case round =>
  clear hS hbw;obtain⟨k,hk,rfl,hS,hb⟩:=hrel;by_cases hkl:k<L.length
  ·have hjp:L[k]?=some L[k]:=List.getElem?_eq_getElem hkl;obtain⟨b',off,cs,rfl,-,hE,hC⟩:=h.get hjp;have hpl:L[k].length<=100000000:=hls.out _ (List.getElem_mem hkl);generalize L[k]=p at hjp hE hpl;obtain⟨pv,rfl,hpv⟩:=hE;obtain⟨aq,cq,rfl,hcq⟩:=hpv.shape;have hc0:=(hC.on hb).cell 0 (by simp);simp only [Nat.add_zero,List.getElem?_cons_zero] at hc0;change wr.cell? ⟨b',off+k*1,none⟩=_ at hc0;rw [Nat.mul_one] at hc0;have hkl':(k:Int)<L.length:=by omega
   have hS1:Hid (kJ wr w.heap.size (fromL v 0 (L.take k)++(gD p v k).take 0)):=zH (by simpa using hS.out);clear hS hC
   go_wp2_with (refine aj rfl _ _ 75 rfl polyT Tryz.underlying75 _ 1 24 (by kernel_rfl) _ _ _ rfl .i64 _ rfl k rfl hkl b' off rfl ?_)
   go_loopw [20] (fun i wr2=>∃ j:Nat,j<=p.length/\i=.int .i64 j/\Hid (kJ wr2 w.heap.size (fromL v 0 (L.take k)++(gD p v k).take j))/\Below w.heap.size w wr2/\w.heap.size<wr2.heap.size) (fun i _=>p.length-(intOf i).toNat)
   case atStart=>exact⟨0,by omega,rfl,hS1,hb,hS1.out.lt⟩
   case round =>
    clear hS1 hb hc0;obtain⟨j,hj,rfl,hS,hb,hwl⟩:=hrel;by_cases hjl:j<p.length
    ·have hjq:p[j]?=some p[j]:=List.getElem?_eq_getElem hjl;obtain⟨b'',off',cs,rfl,-,hE,hC⟩:=(hpv.on hb).get hjq;generalize p[j]=t at hjq hE;obtain⟨e,q⟩:=t;obtain⟨r,rfl,n1,a1,k1,c1,n2,a2,k2,c2,rfl,i1,i2⟩:=hE;have hr:=hC.range
     have hshift:(gD p v k).take (j+1)=(gD p v k).take j++[(e.put v (e.get v+k),q)]:=by
      rw [List.take_add_one,gD,List.getElem?_map,hjq];rfl
     have hIn:InR (e.put v (e.get v+k))/\Rk q:=hok.out.r (e.put v (e.get v+k),q) (by
      obtain⟨r',hr'⟩:=sS v hjp (j+1)
      rw [hr',hshift];simp)
     have hcfr:Rk (cf (fromL v 0 (L.take k)++(gD p v k).take j) (e.put v (e.get v+k))):=by
      obtain⟨r',hr'⟩:=sS v hjp j;exact hok.out.pre hr' _
     have hlen:(fromL v 0 (L.take k)++(gD p v k).take j).length<=1000000000:=by
      obtain⟨r',hr'⟩:=sS v hjp j;have:=hok.out.n;rw [hr',List.length_append] at this;omega
     have hwb:-9223372036854775808<=e.get v+k/\e.get v+k<=9223372036854775807:=by
      have hh:=hIn.1;have hg:=Ex.get_put e v (e.get v+k);generalize e.put v (e.get v+k)=e' at hh hg;obtain⟨h1,h2,h3,h4⟩:=hh;obtain rfl|rfl|rfl|rfl:v=0\/v=1\/v=2\/v=3:=by omega
      ·have:=gX h1;rw [show e'.1=e'.get 0 from rfl,hg] at this;exact this
      ·have:=gX h2;rw [show e'.2.1=e'.get 1 from rfl,hg] at this;exact this
      ·have:=gX h3;rw [show e'.2.2.1=e'.get 2 from rfl,hg] at this;exact this
      ·have:=gX h4;rw [show e'.2.2.2=e'.get 3 from rfl,hg] at this;exact this
     have hjl':(j:Int)<p.length:=by omega
     have hrat:=zH (show bV wr (.agg #[.bool n1,.slice a1 k1 c1,.bool n2,.slice a2 k2 c2]) q from⟨n1,a1,k1,c1,n2,a2,k2,c2,rfl,i1,i2⟩);have hnext:fromL v 0 (L.take k)++(gD p v k).take (j+1)=(fromL v 0 (L.take k)++(gD p v k).take j)++[(e.put v (e.get v+k),q)]:=by rw [hshift,List.append_assoc]
     replace hnext:=zH hnext;have hset:=wD e v hv (e.get v+k) [.bool n1,.slice a1 k1 c1,.bool n2,.slice a2 k2 c2];have hat:=sQ e v hv [.bool n1,.slice a1 k1 c1,.bool n2,.slice a2 k2 c2];obtain⟨e',he'⟩:∃ e',e'=e.put v (e.get v+k):=⟨_,rfl⟩;rw [<- he'] at hset hnext hcfr hIn;have hwr:IntKind.i64.wrap (e.get v+k)=e.get v+k:=mJ hwb;clear hshift he' hwb hC i1 i2;obtain⟨e1,e2,e3,e4⟩:=e;obtain⟨g1,g2,g3,g4⟩:=e';generalize Ex.get (e1,e2,e3,e4) v=x at hset hat hwr;simp only [bR,List.cons_append,List.nil_append] at hr hset hat
     go_upto_region 8 with (first
      | (refine aj rfl _ _ 27 rfl aN Tryz.underlying27 _ 8 96 (by kernel_rfl) _ _ _ rfl .i64 _ rfl j rfl hjl b'' off' rfl ?_)
      | (refine wpList_load_mid rfl 43 _ rfl _ _ rfl _ _ hr Tryz.underlying43 rfl (by kernel_rfl) ?_))
     refine jI fun W2 hb2 B hsz2=>?_;have hS2:=zH (hS.out.on hb2);have hbW2:=hb.trans (hb2.mono hb.size);have hrat2:=hrat.out.on hb2;have z:=B.at1 v _ hat;have hf:=B.frozen v;clear hb2 hS hr hrat hb;generalize wr.heap.size=r at *
     go_upto_region 9 with (fail)
     have hl3:=aY (j:=v) B (.int .i64 (x+k));have B3:=B.set v (.int .i64 (x+k));have hb3:Below w.heap.size W2 (W2.setCell ⟨r,v,none⟩ (.int .i64 (x+k))):=bI (by omega) _;rw [hset] at B3;generalize W2.setCell ⟨r,v,none⟩ (.int .i64 (x+k))=W3 at *;have hS3:=zH (hS2.out.lr hl3 (by decide) (by simp;omega));have hrat3:=hrat2.lr hl3 (by decide);have hbW3:=hbW2.trans hb3;clear z hf hset hat hl3 hS2 hrat2 hbW2;have z1:=B3.at1 0 _ rfl;have z2:=B3.at1 1 _ rfl;have z3:=B3.at1 2 _ rfl;have z4:=B3.at1 3 _ rfl;have y1:=B3.at1 4 _ rfl;have y2:=B3.at1 5 _ rfl;have y3:=B3.at1 6 _ rfl;have y4:=B3.at1 7 _ rfl;have hcall:=Hg w.heap.size _ (g1,g2,g3,g4) q _ W3 hS3.out hIn.1 hrat3 hIn.2 hcfr hlen;rw [<- hnext.out] at hcall;simp only [NE,bR] at hcall
     go_wp2_with (go_at_call 90;refine hcall.mono ?_;rintro e w6 ⟨rfl,hS6,hsz6,hg6⟩)
     have hl6:Lr (some w.heap.size) 0 W3 w6:=LM hS3.out hS6 hg6;go_roundw
     case measure=>simp [intOf];omega
     case rel=>exact⟨j+1,by omega,by go_num,zH hS6,hbW3.trans (hl6.belowAt hbW3.size (fun k hk=>by cases hk;exact Nat.le_refl _)),hS6.lt⟩
    ·obtain rfl:j=p.length:=by omega
     rw [show (gD p v k).take p.length=gD p v k from List.take_of_length_le (by simp [gD]),<- Bf v hjp] at hS;go_wp2;go_roundw
     case measure=>simp [intOf];omega
     case rel=>exact⟨k+1,by omega,by go_num,hS,hb⟩
  ·obtain rfl:k=L.length:=by omega
   rw [List.take_of_length_le (Nat.le_refl _)] at hS;have hcall:=yS _ _ wr hS.out (by have:=hok.out.n;omega)
   go_wp2_with (go_at_call 91;refine hcall.mono ?_;rintro e w2 ⟨v2,rfl,hv2,hb2⟩)
   go_ret;exact⟨_,rfl,hv2,hb.trans (hb2.mono hb.size)⟩
end Go.Proofs.YtopclbeomcggiaaGreat
end
section
namespace Q
open Go Go.RowKit Go.Proofs.YtopclbeomcggiaaGreat
theorem lT {P:Program} {w:World} {ops:Array Oper} {rest:List Oper} {o:Oper} {a:Act} {Q:Exit->Act->World->Prop} (hg:o.guard=none) (ty:TypeId) (x y:Operand) (hop:o.op=.store ty x y)
  (g off:Nat) (T:TypeId) (cs:List Value) (vs:Array Value) (hx:a.eval x=.pointer (some ⟨g,off,none⟩)) (hy:a.eval y=.agg vs) (hB:Blk w g T cs) (hl:off+vs.size<=cs.length)
  (hi:(P.info? ty).map (·.size)=some vs.size) (h1:vs.all (·.oneCell')=true)
  (hK:∀ w',Blk w' g T (cs.take off++vs.toList++cs.drop (off+vs.size))->Lr (some g) T w w'->wpList P ops Q rest (a.put o.dst undef) w'):wpList P ops Q (o::rest) a w:=by
 refine wpList_store_mid hg ty x y hop g off vs hx hy (hB.there off _ hl) hi h1 ?_;obtain⟨h1,h2⟩:=eU vs.toList off w cs hB (by simpa using hl);refine hK _ (by simpa using h1) ⟨h2,fun k hk=>by cases hk;exact⟨hB.noOther,h1.noOther⟩⟩
def Xq (w:World) (a:Addr):Nat:=match w.cell? a with
 | some (.int _ x)=>x.toNat
 | _=>0
end Q
namespace Go.Proofs.YtopclbeomcggiaaGreat
open Go.RowKit Q Go.WideMaps Go.Maps
theorem Ex.get_bounds {e:Ex} (h:InR e) {v:Nat} (hv:v<4):-9223372036854775808<=e.get v/\e.get v<=9223372036854775807:=by
 obtain⟨h1,h2,h3,h4⟩:=h;obtain rfl|rfl|rfl|rfl:v=0\/v=1\/v=2\/v=3:=by omega
 ·exact gX h1
 ·exact gX h2
 ·exact gX h3
 ·exact gX h4
def Yk (c:RK):List Value:=[.bool c.n,.slice c.a c.k c.c,.bool c.n',.slice c.a' c.k' c.c']
theorem fw:aO.ok aN:=bu (by decide)
structure jR (base:Nat) (w:World) (vs:List Value) (Ls:List (List ai)):Prop where
 len:vs.length=Ls.length
 own:∀ (n:Nat) v l,vs[n]?=some v->Ls[n]?=some l->cK base w v l
 dis:∀ (m n:Nat) a b,m≠n->vs[m]?=some a->vs[n]?=some b->a.ownBlock=none\/a.ownBlock≠b.ownBlock
theorem jR.on {base:Nat} {w w':World} {vs:List Value} {Ls:List (List ai)} (h:jR base w vs Ls) (hb:Below w.heap.size w w'):jR base w' vs Ls :=
 ⟨h.len,fun n v l h1 h2=>(h.own n v l h1 h2).on hb,h.dis⟩
theorem rF {α:Type} {N n:Nat} {a b:α} (h:(List.replicate N a)[n]?=some b):b=a:=by
 rw [List.getElem?_replicate] at h;split at h
 ·cases h;rfl
 ·cases h
theorem jR.start (base:Nat) (w:World) (N:Nat):jR base w (List.replicate N (.slice none 0 0)) (List.replicate N []):=by
 refine⟨by simp,fun n v l h1 h2=>?_,fun m n a b _ h1 _=>.inl ?_⟩
 ·have e1:=rF h1;have e2:=rF h2;subst e1 e2;exact cB.nil _ _ _
 ·rw [rF h1];rfl
theorem jR.lr {g:Option Nat} {T:TypeId} {base:Nat} {w w':World} {vs:List Value} {Ls:List (List ai)} (h:jR base w vs Ls) (hl:Lr g T w w') (hT:uT≠T) (hT':aN≠T):jR base w' vs Ls :=
 ⟨h.len,fun n v l h1 h2=>(h.own n v l h1 h2).lr hl hT (by
  have ho:=(h.own n v l h1 h2).okr
  cases hv:v.ownBlock with
  | none=>exact .inl rfl
  | some k =>
   right;intro e;have h3:=ho k hv;have h4:=(hl.2 k e.symm).1;obtain⟨xs,⟨_,hrow⟩,_⟩:=h.own n v l h1 h2;rcases hrow with ⟨rfl,_⟩|⟨g',cap,cur,rfl,_,hg,_⟩
   ·simp [Value.ownBlock] at hv
   ·simp [Value.ownBlock] at hv;subst hv
    exact hT' (h4 _ _ _ hg)),h.dis⟩
theorem jR.blk {base:Nat} {w:World} {vs:List Value} {Ls:List (List ai)} (h:jR base w vs Ls) {n:Nat} {v:Value} (hv:vs[n]?=some v) {k:Nat} (hk:v.ownBlock=some k):base<=k/\k<w.heap.size:=by
 have hml:n<Ls.length:=by rw [<- h.len];exact (List.getElem?_eq_some_iff.1 hv).1
 exact (h.own n v _ hv (List.getElem?_eq_getElem hml)).base_le k hk
theorem jR.lrB {r base:Nat} {T:TypeId} {w w':World} {vs:List Value} {Ls:List (List ai)} (h:jR base w vs Ls) (hl:Lr (some r) T w w') (hT:uT≠T) (hne:∀ (n:Nat) v,vs[n]?=some v->v.ownBlock≠some r):jR base w' vs Ls :=
 ⟨h.len,fun n v l h1 h2=>(h.own n v l h1 h2).lr hl hT (.inr (hne n v h1)),h.dis⟩
theorem dV {g:Option Nat} {α:Type} {e:El α} {w:World} {v:Value} {t:α} (h:∃ b cs,some b≠g/\v=.slice (some ⟨b,0,none⟩) 1 1/\bO e.T w b 0 cs/\e.E w cs t):bS e w v [t]:=by
 obtain⟨b,cs,_,rfl,h3,h4⟩:=h;exact⟨_,1,cs,rfl,Nat.le_refl _,fun _=>⟨b,0,rfl,h3⟩,dS.single h4⟩
theorem jR.set {base:Nat} {w w':World} {vs:List Value} {Ls:List (List ai)} {n:Nat} {v v':Value} {l':List ai} (h:jR base w vs Ls) (hv:vs[n]?=some v) (hl:Lr v.ownBlock aN w w') (ho:cK base w' v' l')
  (hn:v'.ownBlock=v.ownBlock\/∃ k,v'.ownBlock=some k/\w.heap.size<=k):jR base w' (vs.set n v') (Ls.set n l'):=by
 have hnl:n<vs.length:=(List.getElem?_eq_some_iff.1 hv).1;refine⟨by simp [h.len],fun m u l h1 h2=>?_,fun m k a b hmk h1 h2=>?_⟩
 ·rw [List.getElem?_set] at h1 h2;by_cases hmn:n=m
  ·subst hmn;rw [if_pos rfl,if_pos hnl] at h1;rw [if_pos rfl,if_pos (by rw [<- h.len];exact hnl)] at h2;cases h1;cases h2;exact ho
  ·rw [if_neg hmn] at h1 h2;exact (h.own m u l h1 h2).lr hl (bu (by decide)) (h.dis m n u v (Ne.symm hmn) h1 hv)
 ·rw [List.getElem?_set] at h1 h2
  have hlt:∀ (m:Nat) (a:Value),vs[m]?=some a->∀ k,a.ownBlock=some k->k<w.heap.size:=fun m a ha k hk=>by
   have hml:m<Ls.length:=by rw [<- h.len];exact (List.getElem?_eq_some_iff.1 ha).1
   exact ((h.own m a _ ha (List.getElem?_eq_getElem hml)).base_le k hk).2
  by_cases hm:n=m
  ·subst hm;rw [if_pos rfl,if_pos hnl] at h1;cases h1;rw [if_neg hmk] at h2;rcases hn with hn|⟨q,hn,hq⟩
   ·rw [hn];exact h.dis n k v b hmk hv h2
   ·right;intro e;have:=hlt k b h2 q (by rw [<- e,hn]);omega
  ·rw [if_neg hm] at h1;by_cases hk:n=k
   ·subst hk;rw [if_pos rfl,if_pos hnl] at h2;cases h2;rcases hn with hn|⟨q,hn,hq⟩
    ·rw [hn];exact h.dis m n a v hmk h1 hv
    ·right;intro e;have:=hlt m a h1 q (by rw [e,hn]);omega
   ·rw [if_neg hk] at h2;exact h.dis m k a b hmk h1 h2
theorem sU {w:World}:∀ {vs:List Value} {Ls:List (List ai)},vs.length=Ls.length->(∀ (n:Nat) v l,vs[n]?=some v->Ls[n]?=some l->ak w v l)->dS oF.E w vs Ls
 | [],[],_,_=>rfl
 | v::vs,l::Ls,h,hp=>⟨[v],vs,rfl,⟨v,rfl,hp 0 v l rfl rfl⟩,sU (by simpa using h) (fun n v l h1 h2=>hp (n+1) v l (by simpa using h1) (by simpa using h2))⟩
 | [],_::_,h,_=>by simp at h
 | _::_,[],h,_=>by simp at h
theorem JM {base g:Nat} {w:World} {vs:List Value} {Ls:List (List ai)} (hB:Blk w g polyT vs) (h:jR base w vs Ls):fG w (.slice (some ⟨g,0,none⟩) vs.length vs.length) Ls :=
 ⟨_,vs.length,vs,by rw [h.len],by rw [h.len];exact Nat.le_refl _,hB.at,sU h.len (fun n v l h1 h2=>(h.own n v l h1 h2).isSl)⟩
theorem yT (p:List ai) {k:Nat} {t:ai} (h:p[k]?=some t) (v:Nat) (n:Int):aD (p.take (k+1)) v n=aD (p.take k) v n++if t.1.get v=n then [(t.1.put v 0,t.2)] else []:=by
 rw [List.take_add_one,h];unfold aD;rw [List.filter_append,List.map_append]
 congr 1
 simp only [Option.toList_some,List.filter_cons,List.filter_nil];split <;> split <;> simp_all
def mE (p:List ai) (v N k:Nat):List (List ai):=(List.range N).map fun n:Nat=>aD (p.take k) v n
theorem oH (p:List ai) (v:Nat) {N n:Nat} (k:Nat) (h:n<N):(mE p v N k)[n]?=some (aD (p.take k) v n):=by simp [mE,h]
theorem Hl (p:List ai) (v N:Nat) {k:Nat} {t:ai} (h:p[k]?=some t) {n:Nat} (hn:t.1.get v=n) (hN:n<N):mE p v N (k+1)=(mE p v N k).set n (aD (p.take k) v n++[(t.1.put v 0,t.2)]):=by
 apply List.ext_getElem?;intro m;rw [List.getElem?_set];by_cases hm:m<N
 ·rw [oH _ _ _ hm,yT p h];by_cases hmn:n=m
  ·subst hmn;rw [if_pos rfl,if_pos hn,if_pos (by simpa [mE] using hN)]
  ·rw [if_neg hmn,oH _ _ _ hm,if_neg (by omega),List.append_nil]
 ·rw [List.getElem?_eq_none (by simp [mE];omega)];split
  ·rename_i e;subst e;omega
  ·rw [List.getElem?_eq_none (by simp [mE];omega)]
theorem Hm (p:List ai) (v N:Nat):mE p v N 0=List.replicate N []:=by
 apply List.ext_getElem?;intro m;by_cases hm:m<N
 ·rw [oH _ _ _ hm];simp [aD,hm]
 ·rw [List.getElem?_eq_none (by simp [mE];omega),List.getElem?_eq_none (by simp;omega)]
end Go.Proofs.YtopclbeomcggiaaGreat
end
section
namespace Q
open Go Go.RowKit Go.Proofs.YtopclbeomcggiaaGreat
def af.box {g:Option Nat} {T:TypeId} (T':TypeId) (B:Nat) (cs:List Value):af (Lr g T) :=
 af.of (fun v w=>∃ b,some b≠g/\B<=b/\v=.pointer (some ⟨b,0,none⟩)/\Blk w b T' cs) (fun _ _ _ hb ⟨b,h1,h2,h3,h4⟩=>⟨b,h1,h2,h3,h4.lr hb h1⟩)
theorem uk {g:Option Nat} {T T':TypeId} {w:World} {P:Program} {o:Oper} {A:Act} {i B:Nat} {pu fr:Nat->Bool} {φ:Nat->Value->World->Prop} {Q:Exit->Act->World->Prop} {cs:List Value} (hp:pu i=false) (hf:fr i=false) (hok:gp g T w) (hB:B<=w.heap.size)
  (hrun:(execOp A.eval o).run P w=.ok (.value (.pointer (some ⟨w.heap.size,0,none⟩))) (w.alloc (.cells cs.toArray T')))
  (hφ:∀ v w',(∃ b,some b≠g/\B<=b/\v=.pointer (some ⟨b,0,none⟩)/\Blk w' b T' cs)->φ i v w'):o.wp P A w (jK (Lr g T) pu fr φ o i A w) Q:=by
 refine iW hp hf ((Below.refl _ _).alloc (Nat.le_refl _) _) (hφ _ _ ⟨w.heap.size,fun h=>?_,hB,rfl,Blk.new w T' cs⟩) hrun;have:=(hok _ h.symm).1;omega
end Q
namespace Go.Proofs.YtopclbeomcggiaaGreat
open Go.RowKit Q Go.WideMaps Go.Maps
theorem sV (w:World) (e:Ex) (r:List Value) (h:r.length=4):(Instr.build 43 #[(0,.agg (bR e).toArray),(1,.agg r.toArray)]).run Tryz.prog w=.ok (.agg (bR e++r).toArray) w:=by
 match r,h with
 | [a,b,c,d],_ =>
  obtain⟨e1,e2,e3,e4⟩:=e;simp only [bR,List.cons_append,List.nil_append];go_simp
def mg:Value->Nat
 | .slice _ n _=>n
 | _=>0
theorem fA {T:TypeId} {w:World} {b off:Nat} {e:Ex} {r:List Value} (h:bO T w b off (bR e++r)):w.rangeAt b off (bR e):=by
 have:=(h.take 4).range;rwa [show (bR e++r).take 4=bR e from rfl] at this
theorem gY {T:TypeId} {w:World} {b off:Nat} {e:Ex} {r:List Value} (h:bO T w b off (bR e++r)):w.rangeAt b (off+4) r:=by
 have:=(h.drop 4).range;rwa [show (bR e++r).drop 4=r from rfl] at this
theorem mF {α:Type} {l:List α} {i:Nat} {s:α} {r:List α} (h:l.drop i=s::r):l.drop (i+1)=r/\l[i]?=some s/\i<l.length:=by
 have hi:i<l.length:=by
  rcases Nat.lt_or_ge i l.length with h'|h'
  ·exact h'
  ·rw [List.drop_of_length_le h'] at h;cases h
 rw [List.drop_eq_getElem_cons hi] at h;simp only [List.cons.injEq] at h;exact⟨h.2,by rw [List.getElem?_eq_getElem hi,h.1],hi⟩
theorem mergeP_gt {s t:ai} {p q:List ai} (h:s.1.gt t.1=true):dD (s::p) (t::q)=s::dD p (t::q):=by rw [dD,if_pos h]
theorem mergeP_lt {s t:ai} {p q:List ai} (h:t.1.gt s.1=true):dD (s::p) (t::q)=t::dD (s::p) q:=by rw [dD,if_neg (by rw [Ex.gt_asymm h];simp),if_pos h]
theorem mergeP_eq' {s t:ai} {p q:List ai} (h:s.1=t.1):dD (s::p) (t::q)=if s.2+t.2=0 then dD p q else (s.1,s.2+t.2)::dD p q:=by
 rw [dD,if_neg (by rw [h,Ex.gt_irrefl];simp),if_neg (by rw [h,Ex.gt_irrefl];simp)]
def xV (w:World) (l:List ai) (e:Ending) (w':World):Prop:=∃ v,e=.returned v/\cK w.heap.size w' v l/\Below w.heap.size w w'
theorem xV.poly {w:World} {l:List ai} {e:Ending} {w':World} (h:xV w l e w'):aX w l e w':=let ⟨v,h1,h2,h3⟩:=h;⟨v,h1,h2.isSl,h3⟩
theorem SE (vp vq:Value) (p q:List ai) (w:World) (hp:ak w vp p) (hq:ak w vq q) (rp:∀ t∈p,Rk t.2) (rq:∀ t∈q,Rk t.2) (lp:p.length<=100000000) (lq:q.length<=100000000) :
  Calls Tryz.prog 106 #[vp,vq] w (xV w (dD p q)):=by
 obtain⟨ap,cp,rfl,hcp⟩:=hp.shape;obtain⟨aq,cq,rfl,hcq⟩:=hq.shape;replace rp:=zH rp;replace rq:=zH rq;obtain⟨R,hR⟩:∃ R,R=dD p q:=⟨_,rfl⟩;rw [<- hR];obtain⟨i,hi1,hi2,hi3,hi4⟩:=LK
 go_enter Tryz.func106,Tryz.ntmps106
 go_wp2_with (at_make;refine wpList_make_own _ rfl _ _ 27 rfl w.heap.size aN i _ 8 Tryz.underlying27 hi1 hi2 hi3 .i64 .i64 _ (p.length+q.length) rfl rfl (by simp) (by rw [hi4];omega) (by unfold maxLen;omega) (Nat.le_refl _) ?_;intro W hrow hgW)
 have hown0:cK w.heap.size W (.slice (some ⟨w.heap.size,0,none⟩) 0 (p.length+q.length)) []:=⟨[],hrow,rfl⟩;have hb0:Below w.heap.size w W:=(Below.refl _ _).grown hgW (Nat.le_refl _) (fun k hk=>by cases hk);replace hR:=zH hR;clear hrow hgW hi1 hi2 hi3 hi4
 go_loopw [0,1,5] (fun va vb o wr=>∃ (i j:Nat) (L:List ai),Hid (ak w va (p.drop i))/\Hid (ak w vb (q.drop j))/\Hid (cK w.heap.size wr o L)/\Hid (R=L++dD (p.drop i) (q.drop j))/\L.length<=i+j/\i<=p.length/\j<=q.length/\Below w.heap.size w wr) (fun va vb _ _=>mg va+mg vb)
 case atStart=>exact⟨0,0,[],zH hp,zH hq,zH hown0,zH (by rw [hR.out];simp),by simp,by omega,by omega,hb0⟩
 case round =>
  clear hown0 hb0;obtain⟨i,j,L,ha,hb',hown,hR,hLl,hil,hjl,hbr⟩:=hrel
  have hexit:p.drop i=[]\/q.drop j=[]->R=L++p.drop i++q.drop j:=by
   rintro (h|h)
   ·rw [hR.out,h,mQ];simp
   ·rw [hR.out,h,mergeP_nil];simp
  replace hexit:=zH hexit;have hl1:(p.drop i).length<=100000000:=by rw [List.length_drop];omega
  have hl2:(q.drop j).length<=100000000:=by rw [List.length_drop];omega
  by_cases hne:p.drop i=[]\/q.drop j=[]
  ·have hRe:=hexit.out hne;have ha1:=ha.out.on hbr;have hb1:=hb'.out.on hbr;obtain⟨aa,ca,rfl,hca⟩:=ha.out.shape;obtain⟨ab,cb,rfl,hcb⟩:=hb'.out.shape
   have hz:((p.drop i).length:Int)=0\/((q.drop j).length:Int)=0:=by
    rcases hne with h|h
    ·left;rw [h];rfl
    ·right;rw [h];rfl
   have hbe:=hown.out.base_le;replace hRe:=zH hRe;generalize hPP:p.drop i=P at *;generalize hQQ:q.drop j=Q2 at *;clear hPP hQQ hne hexit hR;rcases hz with hz|hz
   ·go_wp2_with (first
     | (at_builtin;refine fM rfl _ _ 27 rfl Tryz.underlying27 bK rfl rfl hown5 (hb'.out.on hb5) (by simp;omega) hb5.size ?_;intro v6 w6 hown6 hl6 hv6;have hb6:=hb5.trans (hl6.belowAt hb5.size (fun k hk=>(hbe5 k hk).1)))
     | (at_builtin;refine fM rfl _ _ 27 rfl Tryz.underlying27 bK rfl rfl hown.out ha1 (by omega) hbr.size ?_;intro v5 w5 hown5 hl5 hv5;have hb5:=hbr.trans (hl5.belowAt hbr.size (fun k hk=>(hbe k hk).1));have hbe5:=hown5.base_le))
    all_goals
     go_ret;exact⟨_,rfl,by rw [hRe.out];exact hown6,hb6⟩
   ·go_wp2_with (first
     | (at_builtin;refine fM rfl _ _ 27 rfl Tryz.underlying27 bK rfl rfl hown5 (hb'.out.on hb5) (by simp;omega) hb5.size ?_;intro v6 w6 hown6 hl6 hv6;have hb6:=hb5.trans (hl6.belowAt hb5.size (fun k hk=>(hbe5 k hk).1)))
     | (at_builtin;refine fM rfl _ _ 27 rfl Tryz.underlying27 bK rfl rfl hown.out ha1 (by omega) hbr.size ?_;intro v5 w5 hown5 hl5 hv5;have hb5:=hbr.trans (hl5.belowAt hbr.size (fun k hk=>(hbe k hk).1));have hbe5:=hown5.base_le))
    all_goals
     go_ret;exact⟨_,rfl,by rw [hRe.out];exact hown6,hb6⟩
  ·clear hexit
   obtain⟨s,p2,hP⟩:∃ s p2,p.drop i=s::p2:=by
    cases h:p.drop i with
    | nil=>exact absurd (.inl h) hne
    | cons s p2=>exact⟨s,p2,rfl⟩
   obtain⟨t,q2,hQ⟩:∃ t q2,q.drop j=t::q2:=by
    cases h:q.drop j with
    | nil=>exact absurd (.inr h) hne
    | cons t q2=>exact⟨t,q2,rfl⟩
   obtain⟨hp1,hpi,hip⟩:=mF hP;obtain⟨lY,hqj,hjq⟩:=mF hQ;have hks:Rk s.2:=rp.out _ (List.mem_of_getElem? hpi);have hkt:Rk t.2:=rq.out _ (List.mem_of_getElem? hqj);rw [hP] at ha hR hl1;rw [hQ] at hb' hR hl2;clear hne;obtain⟨aa,ca,rfl,hca⟩:=ha.out.shape;obtain⟨ab,cb,rfl,hcb⟩:=hb'.out.shape;obtain⟨ba,oa,csa,rfl,-,hEa,hCa⟩:=ha.out.get (j:=0) (t:=s) rfl;obtain⟨bb,ob,csb,rfl,-,hEb,hCb⟩:=hb'.out.get (j:=0) (t:=t) rfl;obtain⟨ra,rfl,hra⟩:=hEa;obtain⟨rb,rfl,hrb⟩:=hEb;change bO aN w ba (oa+0*8) _ at hCa;change bO aN w bb (ob+0*8) _ at hCb;have hPa:=ha.out.drop 1;have hPb:=hb'.out.drop 1;rw [List.drop_succ_cons,List.drop_zero] at hPa hPb;change ak w (.slice (if ca=1 then some ⟨ba,oa,none⟩ else (some ⟨ba,oa,none⟩:Option Addr).map (·.add (1*8))) _ _) _ at hPa;change ak w (.slice (if cb=1 then some ⟨bb,ob,none⟩ else (some ⟨bb,ob,none⟩:Option Addr).map (·.add (1*8))) _ _) _ at hPb;simp only [List.length_cons,Nat.add_sub_cancel] at hPa hPb hca hcb hl1 hl2;have hbe:=hown.out.base_le;replace hbe:=zH hbe;simp only [List.length_cons];change ak w (.slice (if ca=1 then some ⟨ba,oa,none⟩ else (some ⟨ba,oa,none⟩:Option Addr).map (·.add (1*8))) (p2.length+1 - 1) (ca - 1)) _ at hPa;change ak w (.slice (if cb=1 then some ⟨bb,ob,none⟩ else (some ⟨bb,ob,none⟩:Option Addr).map (·.add (1*8))) (q2.length+1 - 1) (cb - 1)) _ at hPb
   have hca1:1<=p2.length+1/\p2.length+1<=ca:=⟨by omega,hca⟩;have hcb1:1<=q2.length+1/\q2.length+1<=cb:=⟨by omega,hcb⟩;have hlen8a:(bR s.1++ra).length=8:=by rw [List.length_append,hra.len];rfl
   have hlen8b:(bR t.1++rb).length=8:=by rw [List.length_append,hrb.len];rfl
   go_upto_region 3 with (fail)
   refine aF mixed (none) (0) (gp.none) [.eq (.slice (some ⟨ba,oa,none⟩) (p2.length+1) ca),.eq (.pointer (some ⟨ba,oa+0*8,none⟩)),.eq (.pointer (some ⟨ba,oa+0*8,none⟩)),.eq (.agg (bR s.1).toArray),.eq (.slice (some ⟨bb,ob,none⟩) (q2.length+1) cb),.eq (.pointer (some ⟨bb,ob+0*8,none⟩)),.eq (.pointer (some ⟨bb,ob+0*8,none⟩)),.eq (.agg (bR t.1).toArray),.ret (.int .i64 (uV s.1 t.1))] [22,23,24,25,26,27,28,29,30] rfl rfl rfl rfl ⟨?_,?_,?_,?_,?_,?_,?_,?_,?_,trivial⟩ ?_
   ·exact fun _ _ a _ _ _=>xM rfl (a 0 rfl)
   ·exact fun _ _ _ _ _ e=>pI rfl Tryz.underlying27 ba oa 0 (by omega) (e.1 rfl) rfl
   ·exact fun _ _ _ _ _ e=>ae rfl (yQ rfl (e.1 rfl))
   ·exact fun _ _ _ hL _ e=>pL rfl (fA (hCa.on (hbr.trans (hL.below.mono hbr.size)))) Tryz.underlying36 (show (bR s.1).length=4 from rfl) (e.1 rfl)
   ·exact fun _ _ a _ _ _=>xM rfl (a 1 rfl)
   ·exact fun _ _ _ _ _ e=>pI rfl Tryz.underlying27 bb ob 0 (by omega) (e.1 rfl) rfl
   ·exact fun _ _ _ _ _ e=>ae rfl (yQ rfl (e.1 rfl))
   ·exact fun _ _ _ hL _ e=>pL rfl (fA (hCb.on (hbr.trans (hL.below.mono hbr.size)))) Tryz.underlying36 (show (bR t.1).length=4 from rfl) (e.1 rfl)
   ·intro A w1 hA hL hS he;have hb:=hS rfl;have h25:=eT 25 (he.1 rfl);have h29:=eT 29 (he.2.1 rfl);have hf0:=eF A 117;exact cP (f:=117) (args:=#[.agg (bR s.1).toArray,.agg (bR t.1).toArray]) (JI _ _ _)
   ·intro W1 hL1;have hbW1:=hL1.below;simp only [aU,af.eq,af.ret,lZ];go_frame;have hbw1:=hbr.trans (hbW1.mono hbr.size);have hown1:=hown.out.on hbW1;have hbase:∀ k,u5.ownBlock=some k->w.heap.size<=k:=fun k hk=>(hbe.out k hk).1;clear hL1 hbW1 hown hbe hbr;rcases Bc s.1 t.1 with ⟨hg,hc⟩|⟨hg,hc⟩|⟨hg,hc⟩
    ·rw [hc];rw [mergeP_gt hg] at hR
     go_upto_region 9 with (fail)
     refine aF mixed (u5.ownBlock) (aN) (hown1.okr) [.eq (u5),.eq (.slice (some ⟨ba,oa,none⟩) (p2.length+1) ca),.eq (.pointer (some ⟨ba,oa+0*8,none⟩)),.eq (.agg (bR s.1++ra).toArray),.new1 aO fw (s),.row aO (w.heap.size) W1.heap.size (L++[s]),.eq (.slice (some ⟨ba,oa,none⟩) (p2.length+1) ca),.eq (.slice (if ca=1 then some ⟨ba,oa,none⟩ else (some ⟨ba,oa,none⟩:Option Addr).map (·.add (1*8))) (p2.length+1-1) (ca-1)),(.asPure (.row aO (w.heap.size) W1.heap.size (L++[s])))] [59,60,61,62,63,64,65,66,5] rfl rfl rfl rfl ⟨?_,?_,?_,?_,?_,?_,?_,?_,?_,trivial⟩ ?_
     ·exact fun _ _ a _ _ _=>xM rfl (a 5 rfl)
     ·exact fun _ _ a _ _ _=>xM rfl (a 0 rfl)
     ·exact fun _ _ _ _ _ e=>pI rfl Tryz.underlying27 ba oa 0 (by omega) (e.1 rfl) rfl
     ·intro A w1 hA hL hS he;have hbw:Below w.heap.size w w1:=hbw1.trans (hL.belowAt hbw1.size hbase);exact pL rfl ((hCa.on hbw).range) Tryz.underlying43 (hlen8a) (he.1 rfl)
     ·intro A w1 hA hL hS he;have hbw:Below w.heap.size w w1:=hbw1.trans (hL.belowAt hbw1.size hbase);have h62:=eT 62 (he.1 rfl);refine ae rfl ?_;have hE:(aO:El _).E w1 _ (s):=⟨ra,rfl,hra.on hbw⟩;refine fo rfl rfl ((hown1.okr).lr hL) hE (bC rfl ?_) (fun _ _ h=>h);simp only [List.map_toArray,List.map_cons,List.map_nil,h62];exact bN _ _ ((aO).len hE)
     ·intro A w1 hA hL hS he;have hb:=hS rfl;have hbw:Below w.heap.size w w1:=hbw1.trans (hL.belowAt hbw1.size hbase);have h59:=eT 59 (he.1 rfl);obtain⟨v63,h63,f63⟩:=fT 63 (he.2.1 rfl);exact ae rfl (dO rfl rfl rfl Tryz.underlying27 bK h59 h63 (hown1.on hb) rfl rfl (dV f63) (by simp;omega) (hbw.size) hL.1.size (fun _ _ h1 h2=>⟨h1,h2⟩))
     ·exact fun _ _ a _ _ _=>xM rfl (a 0 rfl)
     ·intro A w1 hA hL hS he;have h65:=eT 65 (he.1 rfl);have hc0:=eC A (.int .i64 1);exact ae rfl (aC rfl rfl (iA rfl (by simp only [Option.map_some,Option.map_none];rw [h65,show A.eval (.const (.int .i64 1))=_ from rfl];exact fP Tryz.underlying27 (by kernel_rfl) w1 _ _ _ 1 .i64 _ (by first|rfl|simp|omega) (hca1.1) (hca1.2))))
     ·intro A w1 hA hL hS he;obtain⟨v64,h64,f64⟩:=fT 64 (he.1 rfl);exact ae rfl (aC (c:=v64) rfl f64 (by show Result.ok (Next.value (A.eval (.tmp 64))) w1=_;rw [h64]))
     ·intro W2 hL2;simp only [aU,af.eq,af.new1,af.row,af.asPure,af.of,af.fragile,lZ];rintro v63 - v64 - v5 ⟨hown5,hnew⟩;go_frame;have hbW2:=hbw1.trans (hL2.belowAt hbw1.size hbase);generalize hva:Value.slice (if ca=1 then some ⟨ba,oa,none⟩ else (some ⟨ba,oa,none⟩:Option Addr).map (·.add (1*8))) (p2.length+1 - 1) (ca - 1)=va at hPa ⊢;have hsv:mg va=p2.length:=by rw [<- hva];rfl
      clear hva;go_wp2;go_roundw
      case measure=>rw [show mg _=_ from hsv];simp [mg]
      case rel=>exact⟨i+1,j,L++[s],zH (by rw [hp1];exact hPa),zH (by rw [hQ];exact hb'.out),zH hown5,zH (by rw [hR.out,hp1,hQ];simp),by simp;omega,by omega,by omega,hbW2⟩
    ·rw [hc];rw [mergeP_lt hg] at hR
     go_upto_region 11 with (fail)
     refine aF mixed (u5.ownBlock) (aN) (hown1.okr) [.eq (u5),.eq (.slice (some ⟨bb,ob,none⟩) (q2.length+1) cb),.eq (.pointer (some ⟨bb,ob+0*8,none⟩)),.eq (.agg (bR t.1++rb).toArray),.new1 aO fw (t),.row aO (w.heap.size) W1.heap.size (L++[t]),.eq (.slice (some ⟨bb,ob,none⟩) (q2.length+1) cb),.eq (.slice (if cb=1 then some ⟨bb,ob,none⟩ else (some ⟨bb,ob,none⟩:Option Addr).map (·.add (1*8))) (q2.length+1-1) (cb-1)),(.asPure (.row aO (w.heap.size) W1.heap.size (L++[t])))] [70,71,72,73,74,75,76,77,5] rfl rfl rfl rfl ⟨?_,?_,?_,?_,?_,?_,?_,?_,?_,trivial⟩ ?_
     ·exact fun _ _ a _ _ _=>xM rfl (a 5 rfl)
     ·exact fun _ _ a _ _ _=>xM rfl (a 1 rfl)
     ·exact fun _ _ _ _ _ e=>pI rfl Tryz.underlying27 bb ob 0 (by omega) (e.1 rfl) rfl
     ·intro A w1 hA hL hS he;have hbw:Below w.heap.size w w1:=hbw1.trans (hL.belowAt hbw1.size hbase);exact pL rfl ((hCb.on hbw).range) Tryz.underlying43 (hlen8b) (he.1 rfl)
     ·intro A w1 hA hL hS he;have hbw:Below w.heap.size w w1:=hbw1.trans (hL.belowAt hbw1.size hbase);have h73:=eT 73 (he.1 rfl);refine ae rfl ?_;have hE:(aO:El _).E w1 _ (t):=⟨rb,rfl,hrb.on hbw⟩;refine fo rfl rfl ((hown1.okr).lr hL) hE (bC rfl ?_) (fun _ _ h=>h);simp only [List.map_toArray,List.map_cons,List.map_nil,h73];exact bN _ _ ((aO).len hE)
     ·intro A w1 hA hL hS he;have hb:=hS rfl;have hbw:Below w.heap.size w w1:=hbw1.trans (hL.belowAt hbw1.size hbase);have h70:=eT 70 (he.1 rfl);obtain⟨v74,h74,f74⟩:=fT 74 (he.2.1 rfl);exact ae rfl (dO rfl rfl rfl Tryz.underlying27 bK h70 h74 (hown1.on hb) rfl rfl (dV f74) (by simp;omega) (hbw.size) hL.1.size (fun _ _ h1 h2=>⟨h1,h2⟩))
     ·exact fun _ _ a _ _ _=>xM rfl (a 1 rfl)
     ·intro A w1 hA hL hS he;have h76:=eT 76 (he.1 rfl);have hc0:=eC A (.int .i64 1);exact ae rfl (aC rfl rfl (iA rfl (by simp only [Option.map_some,Option.map_none];rw [h76,show A.eval (.const (.int .i64 1))=_ from rfl];exact fP Tryz.underlying27 (by kernel_rfl) w1 _ _ _ 1 .i64 _ (by first|rfl|simp|omega) (hcb1.1) (hcb1.2))))
     ·intro A w1 hA hL hS he;obtain⟨v75,h75,f75⟩:=fT 75 (he.1 rfl);exact ae rfl (aC (c:=v75) rfl f75 (by show Result.ok (Next.value (A.eval (.tmp 75))) w1=_;rw [h75]))
     ·intro W2 hL2;simp only [aU,af.eq,af.new1,af.row,af.asPure,af.of,af.fragile,lZ];rintro v63 - v64 - v5 ⟨hown5,hnew⟩;go_frame;have hbW2:=hbw1.trans (hL2.belowAt hbw1.size hbase);generalize hva:Value.slice (if cb=1 then some ⟨bb,ob,none⟩ else (some ⟨bb,ob,none⟩:Option Addr).map (·.add (1*8))) (q2.length+1 - 1) (cb - 1)=va at hPb ⊢;have hsv:mg va=q2.length:=by rw [<- hva];rfl
      clear hva;go_wp2;go_roundw
      case measure=>rw [show mg _=_ from hsv];simp [mg]
      case rel=>exact⟨i,j+1,L++[t],zH (by rw [hP];exact ha.out),zH (by rw [lY];exact hPb),zH hown5,zH (by rw [hR.out,lY,hP];simp),by simp;omega,by omega,by omega,hbW2⟩
    ·rw [hc];rw [mergeP_eq' hg] at hR
     go_upto_region 4 with (fail)
     refine aF mixed (none) (0) (gp.none) [.eq (.slice (some ⟨ba,oa,none⟩) (p2.length+1) ca),.eq (.pointer (some ⟨ba,oa+0*8,none⟩)),.eq (.pointer (some ⟨ba,oa+0*8+4,none⟩)),.eq (.agg (ra).toArray),.eq (.slice (some ⟨bb,ob,none⟩) (q2.length+1) cb),.eq (.pointer (some ⟨bb,ob+0*8,none⟩)),.eq (.pointer (some ⟨bb,ob+0*8+4,none⟩)),.eq (.agg (rb).toArray),.rat (by decide) ((s.2+t.2)),.box 41 W1.heap.size [.bool false,.slice none 0 0,.bool false,.slice none 0 0]] [31,32,33,34,35,36,37,38,39,7] rfl rfl rfl rfl ⟨?_,?_,?_,?_,?_,?_,?_,?_,?_,?_,trivial⟩ ?_
     ·exact fun _ _ a _ _ _=>xM rfl (a 0 rfl)
     ·exact fun _ _ _ _ _ e=>pI rfl Tryz.underlying27 ba oa 0 (by omega) (e.1 rfl) rfl
     ·exact fun _ _ _ _ _ e=>ae rfl (Fe rfl (e.1 rfl))
     ·intro A w1 hA hL hS he;have hbw:Below w.heap.size w w1:=hbw1.trans (hL.below.mono hbw1.size);exact pL rfl (gY (hCa.on hbw)) Tryz.underlying41 (hra.len) (he.1 rfl)
     ·exact fun _ _ a _ _ _=>xM rfl (a 1 rfl)
     ·exact fun _ _ _ _ _ e=>pI rfl Tryz.underlying27 bb ob 0 (by omega) (e.1 rfl) rfl
     ·exact fun _ _ _ _ _ e=>ae rfl (Fe rfl (e.1 rfl))
     ·intro A w1 hA hL hS he;have hbw:Below w.heap.size w w1:=hbw1.trans (hL.below.mono hbw1.size);exact pL rfl (gY (hCb.on hbw)) Tryz.underlying41 (hrb.len) (he.1 rfl)
     ·intro A w1 hA hL hS he;have hb:=hS rfl;have hbw:Below w.heap.size w w1:=hbw1.trans (hL.below.mono hbw1.size);have h34:=eT 34 (he.1 rfl);have h38:=eT 38 (he.2.1 rfl);have hf0:=eF A 113;exact cP (f:=113) (args:=#[.agg (ra).toArray,.agg (rb).toArray]) (GH _ _ _ _ _ (hra.on hbw).rat (hrb.on hbw).rat hks hkt)
     ·intro A w1 hA hL hS he;refine ae rfl ?_;refine uk rfl rfl ((gp.none).lr hL) hL.1.size (by generalize A.eval=ev at *;go_simp) (fun _ _ h=>h)
     ·intro W2 hL2;have hbW2:=hbw1.trans (hL2.below.mono hbw1.size);simp only [aU,af.eq,af.rat,af.box,af.of,lZ];rintro v39 h39 v7 ⟨x,-,hBx,rfl,B7⟩;obtain⟨n5,a5,k5,c5,n6,a6,k6,c6,rfl⟩:=fQ h39;go_frame;have hown2:=hown1.on hL2.below;have hxw:w.heap.size<=x:=by have:=hbw1.size;omega
      clear hL2
      go_upto_region 5 with (refine aA rfl _ (.tmp 7) (.tmp 39) rfl _ _ _ _ rfl rfl B7 rfl dL dQ ?_;intro W3 R3 gr3)
      have hl3:Lr (some x) 41 W2 W3:=⟨gr3,fun k hk=>by cases hk;exact⟨B7.noOther,R3.noOther⟩⟩
      have hxo:u5.ownBlock≠some x:=by
       intro h;have h1:=(hown2.okr x h).2;exact absurd (h1 _ _ _ B7) (by decide)
      have hown3:=hown2.lr hl3 (bu (by decide)) (.inr hxo);have h39':=h39.lr hl3 (by decide);have hbW3:=hbW2.trans (hl3.belowAt hbW2.size (fun k hk=>by cases hk;exact hxw));have hsgn:=fun W hb=>nR _ _ W (h39'.on (w':=W) hb);have y1:=R3.at1 0 _ rfl;have y2:=R3.at1 1 _ rfl;have y3:=R3.at1 2 _ rfl;have y4:=R3.at1 3 _ rfl;clear hl3 gr3 B7 hown2 hbW2;by_cases hz:s.2+t.2=0
      ·have hs0:iV (s.2+t.2).num=0:=by rw [hz];rfl
       rw [if_pos hz] at hR;rw [hs0] at hsgn
       go_upto_region 7 with (go_at_call 86;refine (hsgn _ (Below.refl _ _)).mono ?_;rintro en W4 ⟨rfl,hb4⟩)
       have hown4:=hown3.on hb4;have hbW4:=hbW3.trans (hb4.mono hbW3.size);refine aF mixed (none) (0) (gp.none) [.eq (.slice (some ⟨ba,oa,none⟩) (p2.length+1) ca),.eq (.slice (if ca=1 then some ⟨ba,oa,none⟩ else (some ⟨ba,oa,none⟩:Option Addr).map (·.add (1*8))) (p2.length+1-1) (ca-1)),.eq (.slice (some ⟨bb,ob,none⟩) (q2.length+1) cb),.eq (.slice (if cb=1 then some ⟨bb,ob,none⟩ else (some ⟨bb,ob,none⟩:Option Addr).map (·.add (1*8))) (q2.length+1-1) (cb-1)),.eq (.slice (if ca=1 then some ⟨ba,oa,none⟩ else (some ⟨ba,oa,none⟩:Option Addr).map (·.add (1*8))) (p2.length+1-1) (ca-1))] [52,53,54,55,0] rfl rfl rfl rfl ⟨?_,?_,?_,?_,?_,trivial⟩ ?_
       ·exact fun _ _ a _ _ _=>xM rfl (a 0 rfl)
       ·intro A w1 hA hL hS he;have h52:=eT 52 (he.1 rfl);have hc0:=eC A (.int .i64 1);exact ae rfl (aC rfl rfl (iA rfl (by simp only [Option.map_some,Option.map_none];rw [h52,show A.eval (.const (.int .i64 1))=_ from rfl];exact fP Tryz.underlying27 (by kernel_rfl) w1 _ _ _ 1 .i64 _ (by first|rfl|simp|omega) (hca1.1) (hca1.2))))
       ·exact fun _ _ a _ _ _=>xM rfl (a 1 rfl)
       ·intro A w1 hA hL hS he;have h54:=eT 54 (he.1 rfl);have hc0:=eC A (.int .i64 1);exact ae rfl (aC rfl rfl (iA rfl (by simp only [Option.map_some,Option.map_none];rw [h54,show A.eval (.const (.int .i64 1))=_ from rfl];exact fP Tryz.underlying27 (by kernel_rfl) w1 _ _ _ 1 .i64 _ (by first|rfl|simp|omega) (hcb1.1) (hcb1.2))))
       ·intro A w1 hA hL hS he;have h53:=eT 53 (he.1 rfl);exact pZ rfl
       ·intro W5 hL5;simp only [aU,af.eq,lZ];go_frame;have hown5:=hown4.on hL5.below;have hbW5:=hbW4.trans (hL5.below.mono hbW4.size);generalize hva:Value.slice (if ca=1 then some ⟨ba,oa,none⟩ else (some ⟨ba,oa,none⟩:Option Addr).map (·.add (1*8))) (p2.length+1 - 1) (ca - 1)=va at hPa ⊢;generalize hvb:Value.slice (if cb=1 then some ⟨bb,ob,none⟩ else (some ⟨bb,ob,none⟩:Option Addr).map (·.add (1*8))) (q2.length+1 - 1) (cb - 1)=vb at hPb ⊢;have hsv:mg va=p2.length:=by rw [<- hva];rfl
        have hsv':mg vb=q2.length:=by rw [<- hvb];rfl
        clear hva hvb;go_wp2;go_roundw
        case measure=>rw [show mg _=_ from hsv,show mg _=_ from hsv'];simp [mg];omega
        case rel=>exact⟨i+1,j+1,L,zH (by rw [hp1];exact hPa),zH (by rw [lY];exact hPb),zH hown5,zH (by rw [hR.out,hp1,lY]),by omega,by omega,by omega,hbW5⟩
      ·have hs0:=rD hz;rw [if_neg hz] at hR;generalize iV (s.2+t.2).num=sg at hs0 hsgn;have hs1:(sg == 0)=false:=by simpa using hs0
       go_upto_region 6 with (go_at_call 86;refine (hsgn _ (Below.refl _ _)).mono ?_;rintro en W4 ⟨rfl,hb4⟩)
       have hown4:=hown3.on hb4;have hbW4:=hbW3.trans (hb4.mono hbW3.size);have R4:=R3.on hb4;have h394:=h39'.on hb4;have hxo4:some x≠u5.ownBlock:=fun h=>hxo h.symm;obtain⟨rc,hrcE⟩:∃ rc,rc=[Value.bool n5,.slice a5 k5 c5,.bool n6,.slice a6 k6 c6]:=⟨_,rfl⟩;have hrc:rc.length=4:=by rw [hrcE];rfl
       rw [show (Value.agg #[.bool n5,.slice a5 k5 c5,.bool n6,.slice a6 k6 c6])=.agg rc.toArray by rw [hrcE]] at h394;rw [<- hrcE] at R4;refine aF mixed (u5.ownBlock) (aN) (hown4.okr) [.eq (u5),.eq (.slice (some ⟨ba,oa,none⟩) (p2.length+1) ca),.eq (.pointer (some ⟨ba,oa+0*8,none⟩)),.eq (.pointer (some ⟨ba,oa+0*8,none⟩)),.eq (.agg (bR s.1).toArray),.eq (.agg (rc).toArray),.eq (.agg (bR s.1++rc).toArray),.new1 aO fw ((s.1,s.2+t.2)),.row aO (w.heap.size) W4.heap.size (L++[(s.1,s.2+t.2)])] [43,44,45,46,47,48,49,50,51] rfl rfl rfl rfl ⟨?_,?_,?_,?_,?_,?_,?_,?_,?_,trivial⟩ ?_
       ·exact fun _ _ a _ _ _=>xM rfl (a 5 rfl)
       ·exact fun _ _ a _ _ _=>xM rfl (a 0 rfl)
       ·exact fun _ _ _ _ _ e=>pI rfl Tryz.underlying27 ba oa 0 (by omega) (e.1 rfl) rfl
       ·exact fun _ _ _ _ _ e=>ae rfl (yQ rfl (e.1 rfl))
       ·intro A w1 hA hL hS he;have hbw:Below w.heap.size w w1:=hbW4.trans (hL.belowAt hbW4.size hbase);exact pL rfl (fA (hCa.on hbw)) Tryz.underlying36 (show (bR s.1).length=4 from rfl) (he.1 rfl)
       ·exact fun _ _ a hL _ _=>pL rfl ((R4.lr hL hxo4).range 0 rc (fun j v h=>by rw [Nat.zero_add];exact h)) Tryz.underlying41 (hrc) (a 7 rfl)
       ·intro A w1 hA hL hS he;have h47:=eT 47 (he.1 rfl);have h48:=eT 48 (he.2.1 rfl);exact ae rfl (aC rfl rfl (nI rfl (by simp only [List.map_toArray,List.map_cons,List.map_nil,h47,h48];exact sV _ _ _ (hrc))))
       ·intro A w1 hA hL hS he;have hb:=hS rfl;have h49:=eT 49 (he.1 rfl);refine ae rfl ?_;have hE:(aO:El _).E w1 _ ((s.1,s.2+t.2)):=⟨_,rfl,(h394.on hb).cellsC⟩;refine fo rfl rfl ((hown4.okr).lr hL) hE (bC rfl ?_) (fun _ _ h=>h);simp only [List.map_toArray,List.map_cons,List.map_nil,h49];exact bN _ _ ((aO).len hE)
       ·intro A w1 hA hL hS he;have hb:=hS rfl;have hbw:Below w.heap.size w w1:=hbW4.trans (hL.belowAt hbW4.size hbase);have h43:=eT 43 (he.1 rfl);obtain⟨v50,h50,f50⟩:=fT 50 (he.2.1 rfl);exact ae rfl (dO rfl rfl rfl Tryz.underlying27 bK h43 h50 (hown4.on hb) rfl rfl (dV f50) (by simp;omega) (hbw.size) hL.1.size (fun _ _ h1 h2=>⟨h1,h2⟩))
       ·intro W5 hL5;simp only [aU,af.eq,af.new1,af.row,af.asPure,af.of,af.fragile,lZ];rintro v50 - v51 ⟨hown5,hnew⟩;go_frame;have hbW5:=hbW4.trans (hL5.belowAt hbW4.size hbase)
        go_upto_region 7 with (fail)
        refine aF mixed (none) (0) (gp.none) [.eq (.slice (some ⟨ba,oa,none⟩) (p2.length+1) ca),.eq (.slice (if ca=1 then some ⟨ba,oa,none⟩ else (some ⟨ba,oa,none⟩:Option Addr).map (·.add (1*8))) (p2.length+1-1) (ca-1)),.eq (.slice (some ⟨bb,ob,none⟩) (q2.length+1) cb),.eq (.slice (if cb=1 then some ⟨bb,ob,none⟩ else (some ⟨bb,ob,none⟩:Option Addr).map (·.add (1*8))) (q2.length+1-1) (cb-1)),.eq (.slice (if ca=1 then some ⟨ba,oa,none⟩ else (some ⟨ba,oa,none⟩:Option Addr).map (·.add (1*8))) (p2.length+1-1) (ca-1))] [52,53,54,55,0] rfl rfl rfl rfl ⟨?_,?_,?_,?_,?_,trivial⟩ ?_
        ·exact fun _ _ a _ _ _=>xM rfl (a 0 rfl)
        ·intro A w1 hA hL hS he;have h52:=eT 52 (he.1 rfl);have hc0:=eC A (.int .i64 1);exact ae rfl (aC rfl rfl (iA rfl (by simp only [Option.map_some,Option.map_none];rw [h52,show A.eval (.const (.int .i64 1))=_ from rfl];exact fP Tryz.underlying27 (by kernel_rfl) w1 _ _ _ 1 .i64 _ (by first|rfl|simp|omega) (hca1.1) (hca1.2))))
        ·exact fun _ _ a _ _ _=>xM rfl (a 1 rfl)
        ·intro A w1 hA hL hS he;have h54:=eT 54 (he.1 rfl);have hc0:=eC A (.int .i64 1);exact ae rfl (aC rfl rfl (iA rfl (by simp only [Option.map_some,Option.map_none];rw [h54,show A.eval (.const (.int .i64 1))=_ from rfl];exact fP Tryz.underlying27 (by kernel_rfl) w1 _ _ _ 1 .i64 _ (by first|rfl|simp|omega) (hcb1.1) (hcb1.2))))
        ·intro A w1 hA hL hS he;have h53:=eT 53 (he.1 rfl);exact pZ rfl
        ·intro W6 hL6;simp only [aU,af.eq,lZ];go_frame;have hown6:=hown5.on hL6.below;have hbW6:=hbW5.trans (hL6.below.mono hbW5.size);generalize hva:Value.slice (if ca=1 then some ⟨ba,oa,none⟩ else (some ⟨ba,oa,none⟩:Option Addr).map (·.add (1*8))) (p2.length+1 - 1) (ca - 1)=va at hPa ⊢;generalize hvb:Value.slice (if cb=1 then some ⟨bb,ob,none⟩ else (some ⟨bb,ob,none⟩:Option Addr).map (·.add (1*8))) (q2.length+1 - 1) (cb - 1)=vb at hPb ⊢;have hsv:mg va=p2.length:=by rw [<- hva];rfl
         have hsv':mg vb=q2.length:=by rw [<- hvb];rfl
         clear hva hvb;go_wp2;go_roundw
         case measure=>rw [show mg _=_ from hsv,show mg _=_ from hsv'];simp [mg];omega
         case rel=>exact⟨i+1,j+1,L++[(s.1,s.2+t.2)],zH (by rw [hp1];exact hPa),zH (by rw [lY];exact hPb),zH hown6,zH (by rw [hR.out,hp1,lY];simp),by simp;omega,by omega,by omega,hbW6⟩
theorem NH (v:Value) (l:List ai) (w:World) (h:ak w v l) (hl:l.length<=100000000):Calls Tryz.prog 87 #[v] w (xV w l):=by
 obtain⟨ao,cap,xs,rfl,hcap,hat,hex⟩:=id h;have heq:=Go.Lib.run_eql_slice_nil (P:=Tryz.prog) w 27 43 ao l.length cap 0 0 Tryz.underlying27
 cases ao with
 | none =>
  have hnil:l=[]:=by
   cases l with
   | nil=>rfl
   | cons t l =>
    obtain⟨b,off,e,_⟩:=hat (by rw [hex.length];simp [aO]);cases e
  subst hnil;simp only [List.length_nil,Option.isNone_none] at heq ⊢
  go_enter Tryz.func87,Tryz.ntmps87
  go_wp2;go_ret;exact⟨_,rfl,cB.nil _ _ _,Below.refl _ _⟩
 | some a =>
  have hbe:Below w.heap.size w (w.alloc (.cells #[] aN)):=(Below.refl _ _).alloc (Nat.le_refl _) _;have hown:cK w.heap.size (w.alloc (.cells #[] aN)) (.slice (some ⟨w.heap.size,0,none⟩) 0 0) []:=⟨[],World.ownsRow_lit w #[] 0 (Nat.le_refl _) (by unfold maxLen;omega) (by simp),rfl⟩;have h1:=h.on hbe;clear hat
  go_enter Tryz.func87,Tryz.ntmps87
  go_wp2_with (at_builtin;refine fM rfl _ _ 27 rfl Tryz.underlying27 bK rfl rfl hown h1 (by simp;omega) hbe.size ?_;intro v5 w5 hown5 hl5 hv5)
  go_ret;exact⟨_,rfl,by simpa using hown5,hbe.trans (hl5.belowAt hbe.size (fun k hk=>by cases hk;exact Nat.le_refl _))⟩
theorem NI {w:World} {xs:List Value} {l:List ai} {k:Nat} {t:ai} {r':List Value} {q:Rat} (h:dS aO.E w xs l) (hk:l[k]?=some t) (hr:gM w r' q) :
  dS aO.E w (xs.take (k*8+4)++r'++xs.drop (k*8+8)) (l.set k (t.1,q)):=by
 have hkl:k<l.length:=(List.getElem?_eq_some_iff.1 hk).1;obtain⟨c,⟨r,rfl,hrr⟩,hq⟩:=h.at' hk
 have e1:xs.take (k*8+4)=xs.take (k*8)++bR t.1:=by
  rw [List.take_add]
  congr 1
  apply List.ext_getElem?;intro j;rw [List.getElem?_take,List.getElem?_drop];by_cases hj:j<4
  ·rw [if_pos hj];have:=hq j (by simp only [aO];omega);rw [show aO.sz=8 from rfl] at this;rw [this,List.getElem?_append_left (by simpa [bR] using hj)]
  ·rw [if_neg hj,List.getElem?_eq_none (by simp [bR];omega)]
 have e2:l.set k (t.1,q)=l.take k++[(t.1,q)]++l.drop (k+1):=by
  apply List.ext_getElem?;intro j;rw [List.getElem?_set];by_cases hj:k=j
  ·subst hj;rw [if_pos rfl,if_pos hkl,List.append_assoc,List.getElem?_append_right (by simp;omega)];simp [Nat.min_eq_left (Nat.le_of_lt hkl)]
  ·rw [if_neg hj];rcases Nat.lt_or_ge j k with h'|h'
   ·rw [List.append_assoc,List.getElem?_append_left (by simp;omega),List.getElem?_take,if_pos h']
   ·rw [List.getElem?_append_right (by simp;omega),List.getElem?_drop]
    congr 1;simp;omega
 rw [e1,e2];have h1:=h.take k;have h2:=h.drop (k+1);rw [show aO.sz=8 from rfl] at h1 h2;rw [show k*8+8=(k+1)*8 by omega];have h3:dS aO.E w (bR t.1++r') [(t.1,q)]:=dS.single ⟨r',rfl,hr⟩;have:=(h1.append h3).append h2;simpa [List.append_assoc] using this
theorem PQ {base:Nat} {w:World} {g n cap:Nat} {l:List ai} (ho:cK base w (.slice (some ⟨g,0,none⟩) n cap) l) :
  ∃ C,Blk w g aN C/\n=l.length/\l.length*8<=C.length/\∀ k t r' q w',l[k]?=some t->gM w' r' q->Blk w' g aN (C.take (k*8+4)++r'++C.drop (k*8+8))->Lr (some g) aN w w'->cK base w' (.slice (some ⟨g,0,none⟩) n cap) (l.set k (t.1,q)):=by
 obtain⟨xs,⟨hxl,hrow⟩,hex⟩:=ho;rcases hrow with ⟨h,_⟩|⟨g',cap',cur,h,hbg,hg,hnc,hcm,hcs,htk⟩
 ·simp at h
 ·simp only [Value.slice.injEq,Option.some.injEq,Addr.mk.injEq,and_true,true_and] at h;obtain⟨rfl,rfl,rfl⟩:=h;have hcl:cur.toList.length=cur.size:=Array.length_toList;have hcs':cur.size=cap*8:=hcs;have htk':cur.toList.take (l.length*8)=xs:=htk;have hxl':xs.length=l.length*8:=hxl;clear hcs htk hxl;have hn8:l.length*8<=cap*8:=Nat.mul_le_mul_right 8 hnc;have nz:l.length*8<=cur.toList.length:=by omega
  have e:cur.toList=xs++cur.toList.drop (l.length*8):=by rw [<- htk',List.take_append_drop]
  have hBlk:Blk w g aN cur.toList:=hg;generalize cur.toList=C at *;refine⟨C,hBlk,rfl,nz,fun k t r' q w' hk hr hB hl=>?_⟩;have hkl:k<l.length:=(List.getElem?_eq_some_iff.1 hk).1;have h4:=hr.len;refine⟨xs.take (k*8+4)++r'++xs.drop (k*8+8),⟨?_,.inr ⟨g,cap,_,by simp,hbg,hB,by simpa using hnc,hcm,?_,?_⟩⟩,NI (hex.lr fw hl) hk hr⟩
  ·show _=_*8;simp only [List.length_append,List.length_take,List.length_drop,List.length_set];omega
  ·show _=_*8;simp only [List.size_toArray,List.length_append,List.length_take,List.length_drop];omega
  ·show List.take (_*8) _=_;rw [List.length_set];have et:C.take (k*8+4)=xs.take (k*8+4):=by rw [e,List.take_append_of_le_length (by omega)]
   have ed:C.drop (k*8+8)=xs.drop (k*8+8)++C.drop (l.length*8):=by
    conv=>lhs;rw [e]
    rw [List.drop_append_of_le_length (by omega)]
   rw [et,ed,<- List.append_assoc,List.take_append_of_le_length (by simp;omega),List.take_of_length_le (by simp;omega)]
theorem NJ {base:Nat} {w:World} {v:Value} {l:List ai} (ho:cK base w v l) (hne:0<l.length):∃ g cap,v=.slice (some ⟨g,0,none⟩) l.length cap/\base<=g:=by
 obtain⟨xs,⟨hxl,hrow⟩,hex⟩:=id ho;rcases hrow with ⟨h,h0⟩|⟨g',cap',cur,h,hbg,_⟩
 ·omega
 ·exact⟨g',cap',h,hbg⟩
def OM (p:List ai) (c:Rat) (k:Nat):List ai:=(p.take k).map (fun t=>(t.1,t.2*c))++p.drop k
theorem SF (p:List ai) (c:Rat) (k:Nat):(OM p c k).length=p.length:=by simp [OM];omega
theorem LP {p:List ai} {c:Rat} {k:Nat} {t:ai} (h:p[k]?=some t):(OM p c k)[k]?=some t:=by
 have hk:=(List.getElem?_eq_some_iff.1 h).1;rw [OM,List.getElem?_append_right (by simp;omega),List.getElem?_drop,<- h]
 congr 1;simp;omega
theorem SG {p:List ai} {c:Rat} {k:Nat} {t:ai} (h:p[k]?=some t):(OM p c k).set k (t.1,t.2*c)=OM p c (k+1):=by
 have hk:=(List.getElem?_eq_some_iff.1 h).1;rw [OM,List.set_append_right _ _ (by simp;omega),show k-(List.map (fun t=>(t.1,t.2*c)) (p.take k)).length=0 by simp;omega,List.drop_eq_getElem_cons hk,List.set_cons_zero,OM,List.take_add_one,h];simp
theorem PR (p:List ai) (c:Rat):OM p c p.length=p.map fun t=>(t.1,t.2*c):=by simp [OM]
theorem DT (vp vc:Value) (p:List ai) (c:Rat) (w:World) (hp:ak w vp p) (hc:bV w vc c) (hkc:Rk c) (hkp:∀ t∈p,Rk t.2) (hpl:p.length<=100000000) :
  Calls Tryz.prog 48 #[vp,vc] w (aX w (bY p c)):=by
 obtain⟨s1,a1,l1,c1,s2,a2,l2,c2,rfl⟩:=fQ hc;replace hkp:=zH hkp
 go_enter Tryz.func48,Tryz.ntmps48
 go_upto_region 1 with (fail)
 refine jI fun W0 hb0 B3 hsz0=>?_;have hsgn:=nR _ _ W0 (hc.on hb0);have x1:=B3.at1 0 _ rfl;have x2:=B3.at1 1 _ rfl;have x3:=B3.at1 2 _ rfl;have x4:=B3.at1 3 _ rfl;by_cases hz:c=0
 ·have hs0:iV c.num=0:=by rw [hz];rfl
  rw [hs0] at hsgn
  go_wp2_with (go_at_call 86;refine hsgn.mono ?_;rintro en W4 ⟨rfl,hb4⟩)
  go_ret;exact⟨_,rfl,by rw [bY,if_pos hz];exact bS.nil _ _,hb0.trans (hb4.mono hb0.size)⟩
 ·have hs0:=rD hz;generalize iV c.num=sg at hs0 hsgn;have hs1:(sg == 0)=false:=by simpa using hs0
  go_upto_region 3 with (go_at_call 86;refine hsgn.mono ?_;rintro en W4 ⟨rfl,hb4⟩)
  have hcl:=NH vp p W4 (hp.on (hb0.trans (hb4.mono hb0.size))) hpl;have B4:=B3.on hb4;have hb04:=hb0.trans (hb4.mono hb0.size);clear x1 x2 x3 x4 hsgn B3 hb4 hs1 hs0 hb0
  go_upto_region 4 with (go_at_call 87;refine hcl.mono ?_;rintro en W5 ⟨v5,rfl,hown,hb5⟩)
  have hb05:=hb04.trans (hb5.mono hb04.size);have B5:=B4.on hb5;have hlt:w.heap.size<W4.heap.size:=B4.lt;generalize W4.heap.size=base at *;clear hb5 B4 hb04 hcl;rcases Nat.eq_zero_or_pos p.length with hp0|hp0
  ·obtain⟨ao,cap,rfl,hcap⟩:=hown.shape;have hpn:p=[]:=List.length_eq_zero_iff.1 hp0;subst hpn;simp only [List.length_nil] at hown ⊢;go_wp2
   go_loopw [14] (fun i wr=>i=.int .i64 0/\wr=W5) (fun _ _=>0)
   case atStart=>exact⟨rfl,rfl⟩
   case round =>
    obtain⟨rfl,rfl⟩:=hrel;go_wp2;go_ret;exact⟨_,rfl,by rw [bY,if_neg hz];exact hown.isSl,hb05⟩
  ·obtain⟨g,cap,rfl,hbg⟩:=NJ hown hp0;go_wp2
   go_loopw [14] (fun i wr=>∃ k:Nat,k<=p.length/\i=.int .i64 k/\Hid (cK base wr (.slice (some ⟨g,0,none⟩) p.length cap) (OM p c k))/\Below w.heap.size w wr/\Hid (Blk wr w.heap.size 41 [.bool s1,.slice a1 l1 c1,.bool s2,.slice a2 l2 c2])) (fun i _=>p.length-(intOf i).toNat)
   case atStart=>exact⟨0,by omega,rfl,zH (by simpa [OM] using hown),hb05,zH B5⟩
   case round =>
    clear hown hb05 B5;obtain⟨k,hk,rfl,hown,hbr,hB⟩:=hrel;by_cases hkl:k<p.length
    ·have hjq:p[k]?=some p[k]:=List.getElem?_eq_getElem hkl;generalize p[k]=t at hjq;obtain⟨b',off',cs,he,-,hE,hC⟩:=hown.out.isSl.get (LP (c:=c) hjq);simp only [Option.some.injEq,Addr.mk.injEq,and_true] at he;obtain⟨rfl,rfl⟩:=he;obtain⟨r,rfl,hr⟩:=hE;have hkt:Rk t.2:=hkp.out _ (List.mem_of_getElem? hjq);have hkl':(k:Int)<p.length:=by omega
     have BB:=hB.out;change bO aN wr g (0+k*8) _ at hC
     go_upto_region 7 with (fail)
     refine aF mixed (none) (0) (gp.none) [.eq (.slice (some ⟨g,0,none⟩) p.length cap),.eq (.int .i64 k),.eq (.slice (some ⟨g,0,none⟩) p.length cap),.eq (.int .i64 k),.eq (.pointer (some ⟨g,0+k*8,none⟩)),.eq (.pointer (some ⟨g,0+k*8+4,none⟩)),.eq (.agg (r).toArray),.eq (.agg #[.bool s1,.slice a1 l1 c1,.bool s2,.slice a2 l2 c2]),.rat (by decide) ((t.2*c)),.eq (.pointer (some ⟨g,0+k*8,none⟩)),.eq (.pointer (some ⟨g,0+k*8+4,none⟩))] [17,18,19,20,21,22,23,24,25,26,27] rfl rfl rfl rfl ⟨?_,?_,?_,?_,?_,?_,?_,?_,?_,?_,?_,trivial⟩ ?_
     ·exact fun _ _ a _ _ _=>xM rfl (a 5 rfl)
     ·exact fun _ _ a _ _ _=>xM rfl (a 6 rfl)
     ·exact fun _ _ a _ _ _=>xM rfl (a 5 rfl)
     ·exact fun _ _ a _ _ _=>xM rfl (a 6 rfl)
     ·exact fun _ _ _ _ _ e=>pI rfl Tryz.underlying27 g 0 k (hkl) (e.1 rfl) (e.2.1 rfl)
     ·exact fun _ _ _ _ _ e=>ae rfl (Fe rfl (e.1 rfl))
     ·exact fun _ _ _ hL _ e=>pL rfl (gY (hC.on hL.below)) Tryz.underlying41 (hr.len) (e.1 rfl)
     ·intro A w1 hA hL hS he;have hb:=hL.below;have h3:A.eval (.tmp 3)=.pointer (some ⟨w.heap.size,0,none⟩):=hA 3 rfl;have c0:=((BB).on hb).at1 0 _ rfl;have c1:=((BB).on hb).at1 1 _ rfl;have c2:=((BB).on hb).at1 2 _ rfl;have c3:=((BB).on hb).at1 3 _ rfl;exact pZ rfl
     ·intro A w1 hA hL hS he;have hb:=hS rfl;have h23:=eT 23 (he.1 rfl);have h24:=eT 24 (he.2.1 rfl);have hf0:=eF A 88;exact cP (f:=88) (args:=#[.agg (r).toArray,.agg #[.bool s1,.slice a1 l1 c1,.bool s2,.slice a2 l2 c2]]) (Au _ _ _ _ _ (hr.on hb).rat (hc.on (hbr.trans (hb.mono hbr.size))) hkt hkc)
     ·exact fun _ _ _ _ _ e=>pI rfl Tryz.underlying27 g 0 k (hkl) (e.1 rfl) (e.2.1 rfl)
     ·exact fun _ _ _ _ _ e=>ae rfl (Fe rfl (e.1 rfl))
     ·intro W2 hL2;have hb2:=hL2.below;simp only [aU,af.eq,af.rat,af.of,lZ];rintro v25 h25;obtain⟨n5,a5,k5,c5,n6,a6,k6,c6,rfl⟩:=fQ h25;go_frame;obtain⟨C,BC,-,hlC,hset⟩:=PQ (hown.out.on hb2);rw [SF] at hlC;have hbr2:=hbr.trans (hb2.mono hbr.size);have hB2:=hB.out.on hb2;clear hown hB BB hC hL2 hb2 hr
      go_upto_region 8 with (refine lT rfl _ (.tmp 27) (.tmp 25) rfl g (0+k*8+4) aN _ _ rfl rfl BC (by simp;omega) dL dQ ?_;intro W3 R3 hl3)
      simp only [Nat.zero_add,List.size_toArray,List.length_cons,List.length_nil,Nat.add_assoc] at R3;have hown3:=hset k t _ (t.2*c) W3 (LP hjq) ((h25.lr hl3 (by decide)).cellsC) (by simpa [Nat.add_assoc] using R3) hl3;rw [SG hjq] at hown3;have hB3:=hB2.lr hl3 (by simp;omega);have hbr3:=hbr2.trans (hl3.belowAt hbr2.size (fun k hk=>by cases hk;omega));go_wp2;go_roundw
      case measure=>simp [intOf];omega
      case rel=>exact⟨k+1,by omega,by go_num,zH hown3,hbr3,zH hB3⟩
    ·obtain rfl:k=p.length:=by omega
     rw [PR] at hown;go_wp2;go_ret;exact⟨_,rfl,by rw [bY,if_neg hz];exact hown.out.isSl,hbr⟩
end Go.Proofs.YtopclbeomcggiaaGreat
namespace Q
open Go Go.RowKit Q Go.Proofs.YtopclbeomcggiaaGreat
theorem cB.base_mono {α:Type} {e:El α} {base b':Nat} {w:World} {v:Value} {l:List α} (h:cB e base w v l) (hb:b'<=base):cB e b' w v l:=by
 obtain⟨xs,⟨h1,h2⟩,h3⟩:=h;refine⟨xs,⟨h1,?_⟩,h3⟩;rcases h2 with h2|⟨g,cap,cur,h4,h5,h6⟩
 ·exact .inl h2
 ·exact .inr ⟨g,cap,cur,h4,Nat.le_trans hb h5,h6⟩
end Q
namespace Go.Proofs.YtopclbeomcggiaaGreat
open Go.RowKit Q Go.WideMaps Go.Maps
theorem SH (q:Rat):q*(-1)=-q:=by grind
theorem Rk.neg {q:Rat} (h:Rk q):Rk (-q):=by
 unfold Rk at *;rw [Rat.neg_den,Rat.neg_num,Int.natAbs_neg];exact h
theorem Rk.m1:Rk (-1):=⟨by unfold iT;decide,by unfold iT;decide⟩
theorem DU (p:List ai):bY p (-1)=p.map fun t=>(t.1,t.2*(-1)):=by rw [bY,if_neg (by decide)]
theorem Ho {p:List ai} (h:∀ t∈p,Rk t.2):∀ t∈bY p (-1),Rk t.2:=by
 rw [DU];intro t ht;obtain⟨s,hs,rfl⟩:=List.mem_map.1 ht;simp only [SH];exact (h s hs).neg
theorem LQ (vp vq:Value) (p q:List ai) (w:World) (hp:ak w vp p) (hq:ak w vq q) (rp:∀ t∈p,Rk t.2) (rq:∀ t∈q,Rk t.2) (lp:p.length<=100000000) (lq:q.length<=100000000) (vlp:aV p) (vlq:aV q) :
  Calls Tryz.prog 74 #[vp,vq] w (xV w (dK p q)):=by
 have hl:=Ho rq;have hll:(bY q (-1)).length<=100000000:=by rw [DU];simpa using lq
 have hm:=xN vlp (vlq.scale (-1))
 go_enter Tryz.func74,Tryz.ntmps74
 go_wp2_with (first
  | (go_at_call 47;refine (ru (-1) _ (by omega) (by omega)).mono ?_;rintro en W1 ⟨v7,rfl,h7,hb1⟩)
  | (go_at_call 48;refine (DT _ _ q (-1) _ (hq.on hb1) h7 Rk.m1 rq lq).mono ?_;rintro en W2 ⟨v8,rfl,h8,hb2⟩)
  | (go_at_call 106;refine (SE _ _ p _ _ (hp.on (hb1.trans (hb2.mono hb1.size))) h8 rp hl lp hll).mono ?_;rintro en W3 ⟨v9,rfl,h9,hb3⟩))
 go_ret;have hb12:=hb1.trans (hb2.mono hb1.size)
 exact⟨_,rfl,by
  rw [dK,<- hm]
  exact h9.base_mono hb12.size,hb12.trans (hb3.mono hb12.size)⟩
theorem Fu (vp vq:Value) (p q:List ai) (w:World) (hp:ak w vp p) (hq:ak w vq q) (rp:∀ t∈p,Rk t.2) (rq:∀ t∈q,Rk t.2) (lp:p.length<=100000000) (lq:q.length<=100000000) (vlp:aV p) (vlq:aV q) :
  Calls Tryz.prog 74 #[vp,vq] w (aX w (dK p q)):=(LQ vp vq p q w hp hq rp rq lp lq vlp vlq).mono fun _ _ h=>h.poly
theorem CW {p:List ai} {v k:Nat} {t:ai} (h:p[k]?=some t):dA (p.take (k+1)) v=dA (p.take k) v++(if 0<t.1.get v then [(t.1.put v (t.1.get v-1),t.2*(t.1.get v:Rat))] else []):=by
 rw [List.take_add_one,h];simp only [dA,Option.toList_some,List.filter_append,List.map_append]
 congr 1
 by_cases hz:0<t.1.get v
 ·simp [hz]
 ·simp [hz]
theorem Ht (vp:Value) (p:List ai) (v:Nat) (w:World) (hp:ak w vp p) (hv:v<4) (hkp:∀ t∈p,Rk t.2/\t.1.get v<=100000000/\Rk (t.1.get v:Rat)) (hpl:p.length<=100000000) :
  Calls Tryz.prog 73 #[vp,.int .i64 v] w (aX w (dA p v)):=by
 obtain⟨ap,cp,rfl,hcp⟩:=hp.shape;replace hkp:=zH hkp;have hv4:(v:Int)<4:=by omega
 go_enter Tryz.func73,Tryz.ntmps73
 go_wp2
 go_loopw [11,5] (fun i o wr=>∃ k:Nat,k<=p.length/\i=.int .i64 k/\Hid (cK w.heap.size wr o (dA (p.take k) v))/\(dA (p.take k) v).length<=k/\Below w.heap.size w wr) (fun i _ _=>p.length-(intOf i).toNat)
 case atStart=>exact⟨0,by omega,rfl,zH (cB.nil _ _ _),by simp [dA],Below.refl _ _⟩
 case round =>
  obtain⟨k,hk,rfl,hown,hln,hb⟩:=hrel;by_cases hkl:k<p.length
  ·have hjq:p[k]?=some p[k]:=List.getElem?_eq_getElem hkl;obtain⟨b'',off',cs,rfl,-,hE,hC⟩:=(hp.on hb).get hjq;generalize p[k]=t at hjq hE;have hsn:=CW (v:=v) hjq;obtain⟨e,q⟩:=t;obtain⟨r,rfl,n1,x1,k1,d1,n2,x2,k2,d2,rfl,i1,i2⟩:=hE;have hr:=hC.range;have hkl':(k:Int)<p.length:=by omega
   have hmem:=List.mem_of_getElem? hjq;have hrat:=zH (show bV wr (.agg #[.bool n1,.slice x1 k1 d1,.bool n2,.slice x2 k2 d2]) q from⟨n1,x1,k1,d1,n2,x2,k2,d2,rfl,i1,i2⟩);obtain⟨hkq,hlx,hkx⟩:=hkp.out _ hmem;simp only at hkq hlx hkx hsn;have hgp:Ex.get e v=Ex.get e v:=rfl;have hat:=sQ e v hv [.bool n1,.slice x1 k1 d1,.bool n2,.slice x2 k2 d2];have hset:=wD e v hv (Ex.get e v - 1);generalize hE':Ex.put e v (Ex.get e v - 1)=E' at *;generalize hx:Ex.get e v=x at *;clear hC i1 i2 hE' hx hgp;replace hsn:=zH hsn;obtain⟨e1,e2,e3,e4⟩:=e;simp only [bR,List.cons_append,List.nil_append] at hr hat
   go_upto_region 5 with (first
    | (refine aj rfl _ _ 27 rfl aN Tryz.underlying27 _ 8 96 (by kernel_rfl) _ _ _ rfl .i64 _ rfl k rfl hkl b'' off' rfl ?_)
    | (refine wpList_load_mid rfl 43 _ rfl _ _ rfl _ _ hr Tryz.underlying43 rfl (by kernel_rfl) ?_))
   refine jI fun W2 hb2 B hsz2=>?_;have hown2:=zH (hown.out.on hb2);have hbe:=hown.out.base_le;have hbW2:=hb.trans (hb2.mono hb.size);have hrat2:=hrat.out.on hb2;have hws:w.heap.size<=wr.heap.size:=hb.size;have hno:∀ g,u5.ownBlock=some g->g<wr.heap.size:=fun g hg=>(hbe g hg).2;have hbase:∀ g,u5.ownBlock=some g->w.heap.size<=g:=fun g hg=>(hbe g hg).1;clear hb2 hown hr hrat hb hsz2 hbe;generalize wr.heap.size=r at *;have z:=B.at1 v _ hat;by_cases hx0:0<x
   ·go_upto_region 7 with (fail)
    have hwr:IntKind.i64.wrap (x-1)=x-1:=mJ (by omega);have z':=B.at1 v _ hat;have hf:=B.frozen v
    go_upto_region 8 with (fail)
    have hl3:=aY (j:=v) B (.int .i64 (x-1));have B3:=B.set v (.int .i64 (x-1));have hset3:=hset [.bool n1,.slice x1 k1 d1,.bool n2,.slice x2 k2 d2];simp only [bR,List.cons_append,List.nil_append] at hset3;rw [hset3] at B3;have hne:u5.ownBlock≠some r:=fun h=>by have:=hno r h;simp at this
    have hown3:=hown2.out.lr hl3 (bu (by decide)) (.inr hne);have hrat3:=hrat2.lr hl3 (by decide);have hbW3:=hbW2.trans (hl3.belowAt hbW2.size (fun k hk=>by cases hk;exact hws));rw [if_pos hx0] at hsn;obtain⟨g1,g2,g3,g4⟩:=E';simp only [bR,List.cons_append,List.nil_append] at B3;generalize W2.setCell ⟨r,v,none⟩ (.int .i64 (x - 1))=W3 at *;clear hl3 hset3 hset z z' hf hwr hown2 hrat2 B hbW2 hat;refine aF mixed (none) (0) (gp.none) [.eq (.pointer (some ⟨r,4,none⟩)),.eq (.agg #[.bool n1,.slice x1 k1 d1,.bool n2,.slice x2 k2 d2]),.eq (.int .i64 x),.rat (by decide) ((x:Rat)),.rat (by decide) ((q*(x:Rat))),.eq (.pointer (some ⟨r,4,none⟩))] [28,29,30,31,32,33] rfl rfl rfl rfl ⟨?_,?_,?_,?_,?_,?_,trivial⟩ ?_
    ·intro A w1 hA hL hS he;have h7:A.eval (.tmp 7)=.pointer (some ⟨r,0,none⟩):=hA 7 rfl;exact pZ rfl
    ·intro A w1 hA hL hS he;have hb:=hL.below;have h28:=eT 28 (he.1 rfl);have c0:=((B3).on hb).at1 4 _ rfl;have c1:=((B3).on hb).at1 5 _ rfl;have c2:=((B3).on hb).at1 6 _ rfl;have c3:=((B3).on hb).at1 7 _ rfl;exact pZ rfl
    ·exact fun _ _ a _ _ _=>xM rfl (a 8 rfl)
    ·intro A w1 hA hL hS he;have hb:=hS rfl;have h30:=eT 30 (he.1 rfl);have hf0:=eF A 47;exact cP (f:=47) (args:=#[.int .i64 x]) (ru _ _ (by omega) (by omega))
    ·intro A w1 hA hL hS he;have hb:=hS rfl;have h29:=eT 29 (he.1 rfl);obtain⟨v31,h31,f31⟩:=fT 31 (he.2.1 rfl);have hf0:=eF A 88;exact cP (f:=88) (args:=#[.agg #[.bool n1,.slice x1 k1 d1,.bool n2,.slice x2 k2 d2],v31]) (Au _ _ _ _ _ (hrat3.on hb) f31 hkq hkx)
    ·intro A w1 hA hL hS he;have h7:A.eval (.tmp 7)=.pointer (some ⟨r,0,none⟩):=hA 7 rfl;exact pZ rfl
    ·intro W4 hL4;have hb4:=hL4.below;simp only [aU,af.eq,af.rat,af.of,lZ];rintro v31 h31 v32 h32;obtain⟨n5,a5,k5,c5,n6,a6,k6,c6,rfl⟩:=fQ h32;go_frame;have hown4:=hown3.on hb4;have B4:=B3.on hb4;have hbW4:=hbW3.trans (hb4.mono hbW3.size);clear hown3 B3 hL4 hb4 h31 hrat3
     go_upto_region 9 with (refine lT rfl _ (.tmp 33) (.tmp 32) rfl r 4 aN _ _ rfl rfl B4 (by simp) dL dQ ?_;intro W5 R5 hl5)
     change Blk W5 r aN (bR (g1,g2,g3,g4)++[.bool n5,.slice a5 k5 c5,.bool n6,.slice a6 k6 c6]) at R5;have hown5:=hown4.lr hl5 (bu (by decide)) (.inr hne);have h325:=h32.lr hl5 (by decide);have hbW5:=hbW4.trans (hl5.belowAt hbW4.size (fun k hk=>by cases hk;exact hws));have hne':some r≠u5.ownBlock:=fun h=>hne h.symm;obtain⟨rc,hrcE⟩:∃ rc,rc=[Value.bool n5,.slice a5 k5 c5,.bool n6,.slice a6 k6 c6]:=⟨_,rfl⟩;have hrc:rc.length=4:=by rw [hrcE];rfl
     have h8:(bR (g1,g2,g3,g4)++rc).length=8:=by rw [List.length_append,hrc];rfl
     rw [show (Value.agg #[.bool n5,.slice a5 k5 c5,.bool n6,.slice a6 k6 c6])=.agg rc.toArray by rw [hrcE]] at h325;rw [<- hrcE] at R5;clear hown4 B4 hl5 hbW4 h32;refine aP trivial (u5.ownBlock) (aN) (hown5.okr) [.eq (u5),.eq (.agg (bR (g1,g2,g3,g4)++rc).toArray),.new1 aO fw (((g1,g2,g3,g4),q*(x:Rat))),.row aO (w.heap.size) W5.heap.size (dA (p.take k) v++[((g1,g2,g3,g4),q*(x:Rat))])] [34,35,36,37] rfl rfl rfl rfl ⟨?_,?_,?_,?_,trivial⟩ ?_
     ·exact fun _ _ a _ _ _=>xM rfl (a 5 rfl)
     ·exact fun _ _ a hL _ _=>pL rfl ((R5.lr hL hne').range 0 _ (fun j v h=>by rw [Nat.zero_add];exact h)) Tryz.underlying43 (h8) (a 7 rfl)
     ·intro A w1 hA hL hS he;have h35:=eT 35 (he.1 rfl);refine ae rfl ?_;have hE:(aO:El _).E w1 _ (((g1,g2,g3,g4),q*(x:Rat))):=⟨_,rfl,(h325.lr hL (by decide)).cellsC⟩;refine fo rfl rfl ((hown5.okr).lr hL) hE (bC rfl ?_) (fun _ _ h=>h);simp only [List.map_toArray,List.map_cons,List.map_nil,h35];exact bN _ _ ((aO).len hE)
     ·intro A w1 hA hL hS he;have hb:=hS rfl;have hbw:Below w.heap.size w w1:=hbW5.trans (hL.belowAt hbW5.size hbase);have h34:=eT 34 (he.1 rfl);obtain⟨v36,h36,f36⟩:=fT 36 (he.2.1 rfl);exact ae rfl (dO rfl rfl rfl Tryz.underlying27 bK h34 h36 (hown5.on hb) rfl rfl (dV f36) (by simp;omega) (hbw.size) hL.1.size (fun _ _ h1 h2=>⟨h1,h2⟩))
     ·intro W6 hL6;simp only [aU,af.eq,af.new1,af.row,af.asPure,af.of,af.fragile,lZ];rintro v36 - v37 ⟨hown6,hnew⟩;go_frame;have hbW6:=hbW5.trans (hL6.belowAt hbW5.size hbase);have hpl':(dA (p.take (k+1)) v).length<=k+1:=by rw [hsn.out];simp;omega
      go_wp2;go_roundw
      case measure=>simp [intOf];omega
      case rel=>exact⟨k+1,by omega,by go_num,zH (by rw [hsn.out];exact hown6),hpl',hbW6⟩
   ·have hx0':¬ (0:Int)<x:=hx0;rw [if_neg hx0,List.append_nil] at hsn;go_wp2;go_roundw
    case measure=>simp [intOf];omega
    case rel=>exact⟨k+1,by omega,by go_num,zH (by rw [hsn.out];exact hown2.out),by rw [hsn.out];omega,hbW2⟩
  ·obtain rfl:k=p.length:=by omega
   rw [List.take_of_length_le (Nat.le_refl _)] at hown;go_wp2;go_ret;exact⟨_,rfl,hown.out.isSl,hb⟩
end Go.Proofs.YtopclbeomcggiaaGreat
end
section
namespace Q
end Q
namespace Go.Proofs.YtopclbeomcggiaaGreat
open Go.RowKit Q Go.WideMaps Go.Maps
end Go.Proofs.YtopclbeomcggiaaGreat
end
