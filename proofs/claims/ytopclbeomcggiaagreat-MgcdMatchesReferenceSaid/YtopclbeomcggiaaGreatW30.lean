/- The reference's polynomials: Deg, Coeff, Coeffs. -/
import Derived.Test.YtopclbeomcggiaaGreatW28
set_option linter.unusedVariables false
set_option linter.unusedSimpArgs false
set_option maxHeartbeats 16000000
set_option maxRecDepth 100000
namespace Go.Proofs.YtopclbeomcggiaaGreat
open Go.RowKit Q Go.WideMaps Go.Maps
theorem kH(s:Value)(p:List ai)(v:Nat)(w:World)(h:ak w s p)(hv:v<4)(q:p.length<=100000000):Calls Tryz.prog 27 #[s,.int .i64 v] w (rE w (.int .i64 (aD p v))):=by
 obtain⟨u,cap,rfl,m⟩:=h.shape;obtain⟨R,j⟩:∃R,R=aD p v:=⟨_,rfl⟩;rw[<-j];replace j:=zH j;replace h:=zH h;have hv4:(v:Int)<4:=oM
 go_enter Tryz.func27,Tryz.ntmps27
 go_wp2
 go_loopw [5,6] (λd i wr=>∃k:Nat,k<=p.length/\i=.int .i64 k/\d=.int .i64 (aD (p.take k) v)/\Below w.heap.size w wr) (λ_ i _=>p.length-(intOf i).toNat)
 case atStart=>exact⟨0,oM,rfl,rfl,Below.refl _ _⟩
 case round =>
  obtain⟨k,y,rfl,rfl,hb⟩:=hrel;by_cases b:k<p.length
  ·have n:p[k]?=some p[k]:=gE b
   have bY:aD (p.take (k+1)) v=max (aD (p.take k) v) (p[k].1.get v):=by unfold aD;rw[List.take_succ_eq_append_getElem b,List.foldl_append];rfl
   generalize p[k]=t at n bY;obtain⟨l,off,r,rfl,-,hC⟩:=fB (h.out.on hb) n;have o:(k:Int)<p.length:=oM
   have z:wr.cell? ⟨l,off+k*8+v,none⟩=some (.int .i64 (t.1.get v)):=by rw[hC.cell v (by simp[bC];omega)];exact qh t.1 v hv r
   generalize t.1.get v=x at *;generalize aD (p.take k) v=d at *;replace bY:=zH bY;clear hC
   go_wp2_with (refine aj rfl _ _ 27 rfl aJ Tryz.underlying27 _ 8 96 kM _ _ _ rfl .i64 _ rfl k rfl b l off rfl ?_)
   go_roundw
   case measure=>simp[intOf];omega
   case rel=>exact⟨k+1,oM,nM,by rw[bY.out],hb⟩
  ·obtain rfl:k=p.length:=oM;rw[tL (nL _),<-j.out];go_wp2;go_ret;exact⟨rfl,hb⟩
theorem Lh{w:World}{r:List Value}{q:Rat}{e:Ex}(h:gM w r q):(bC e++r).toArray.all (·.oneCell')=true:=by
 rw[Array.all_eq_true_iff_forall_mem];intro v hv;rcases List.mem_append.1 (by simpa using hv)with hv|hv
 ·exact AP e v hv
 ·exact h.one v hv
theorem wI(Y:Value)(p:List ai)(v:Nat)(n:Int)(w:World)(hp:ak w Y p)(hv:v<4)(lp:p.length<=100000000):Calls Tryz.prog 80 #[Y,.int .i64 v,.int .i64 n] w (aS w (aN p v n)):=by
 obtain⟨ap,cp,rfl,a0⟩:=hp.shape;have hv4:(v:Int)<4:=oM;obtain⟨R,hR⟩:∃R,R=aN p v n:=⟨_,rfl⟩;rw[<-hR];replace hR:=zH hR
 go_enter Tryz.func80,Tryz.ntmps80
 go_wp2;have hown0:=gX aO w;have hb0:Below w.heap.size w (w.alloc (.cells #[] aJ)):=(Below.refl _ _).alloc (nL _) _;change bV w.heap.size (w.alloc (.cells #[] 43)) _ _ at hown0;change Below w.heap.size w (w.alloc (.cells #[] 43))at hb0;replace hp:=zH hp
 go_loopw [7,8] (λo i wr=>∃k:Nat,k<=p.length/\i=.int .i64 k/\Hid (bV w.heap.size wr o (aN (p.take k) v n))/\(aN (p.take k) v n).length<=k/\Below w.heap.size w wr) (λ_ i _=>p.length-(intOf i).toNat)
 case atStart=>exact⟨0,oM,rfl,zH hown0,by simp[aN],hb0⟩
 case round =>
  clear hown0 hb0;obtain⟨k,I,rfl,d,a1,l⟩:=hrel;by_cases D:k<p.length
  ·have s:p[k]?=some p[k]:=gE D;generalize p[k]=t at s;have b:=Ac p s v n;obtain⟨Z,op,x,rfl,q,hC⟩:=fB (hp.out.on l) s;have u:=q.len;have h8:(bC t.1++x).length=8:=by rw[List.length_append,u];rfl
   have hr:=hC.range;have S:(k:Int)<p.length:=oM;clear hC
   go_upto_region 6 with (first
    | (refine aj rfl _ _ 27 rfl aJ Tryz.underlying27 _ 8 96 kM _ _ _ rfl .i64 _ rfl k rfl D Z op rfl ?_)
    | (refine wpList_load_mid rfl 43 _ rfl _ _ rfl _ _ hr Tryz.underlying43 rfl (by rw[h8];kernel_rfl) ?_)
    | (refine az rfl _ (.tmp 9) (.tmp 20) rfl _ _ _ _ rfl rfl (Blk.new wr aJ [.int .i64 0,.int .i64 0,.int .i64 0,.int .i64 0,.bool false,.slice none 0 0,.bool false,.slice none 0 0]) (by simp[bC,u]) (by simp only[List.size_toArray,h8];exact za) (Lh q) ?_;intro W3 R3 gr3))
   have y:Blk W3 wr.heap.size aJ (bC t.1++x):=by simpa using R3
   have C:Below wr.heap.size wr (wr.alloc (.cells #[.int .i64 0,.int .i64 0,.int .i64 0,.int .i64 0,.bool false,.slice none 0 0,.bool false,.slice none 0 0] aJ)):=(Below.refl _ _).alloc (nL _) _;have hb3:Below wr.heap.size wr W3:=C.trans (aH gr3 sM (nL _));have hbr3:=l.trans (hb3.mono l.size);have hown3:=d.out.on hb3;have hrc3:=q.on hb3;have N:w.heap.size<=wr.heap.size:=l.size;have F:u7.ownBlock≠some wr.heap.size:=λh=>by have:=(d.out.base_le _ h).2;omega
   have m:∀k,u7.ownBlock=some k->w.heap.size<=k:=λk I=>(d.out.base_le k I).1;clear hr R3 gr3 C hb3 q d l;generalize wr.heap.size=mb at *;have B:=qh t.1 v hv x;have z:=y.at1 v _ B;have r:=uY t.1 v hv 0 x;by_cases G:t.1.get v=n
   ·have e1:(t.1.get v==n)=true:=by simpa using G
    rw[if_pos G]at b;have hf:=y.frozen v
    go_upto_region 8 with (fail)
    have hl4:=aY (j:=v) y (.int .i64 0);have B4:=y.set v (.int .i64 0);rw[r]at B4;have hown4:=hown3.lr hl4 (aW dM) (.inr F);have hrc4:=hrc3.lr hl4 dM;have hbr4:=hbr3.trans (hl4.belowAt hbr3.size (λk I=>by cases I;exact N));generalize W3.setCell ⟨mb,v,none⟩ (.int .i64 0)=W4 at *;have M:some mb≠u7.ownBlock:=λh=>F h.symm;obtain⟨E,hE⟩:∃E,E=t.1.put v 0:=⟨_,rfl⟩;rw[<-hE]at B4 b;have J:(bC E++x).length=8:=by rw[List.length_append,u];rfl
    replace b:=zH b;clear hl4 z hf y hown3 hrc3 hbr3 B r hE e1 G;refine aR trivial (u7.ownBlock) (aJ) (hown4.okr) [.eq (u7),.eq (.agg (bC E++x).toArray),.new1 aO fw ((E,t.2)),.row aO (w.heap.size) W4.heap.size (aN (p.take k) v n++[(E,t.2)])] [30,31,32,33] rfl rfl rfl rfl ⟨λ_ _ a _ _ _=>xM rfl (a 7 rfl),λ_ _ a hL _ _=>pL rfl ((B4.lr hL M).cells.range) Tryz.underlying43 (J) (a 9 rfl),?_,?_,trivial⟩ ?_
    ·intro A w1 hA hL hS he;have h31:=eT 31 (he.1 rfl);refine ae rfl ?_;have hE:(aO:El _).E w1 _ ((E,t.2)):=⟨_,rfl,hrc4.lr hL dM⟩;refine fo rfl rfl ((hown4.okr).lr hL) hE (bu rfl ?_) (λ_ _ h=>h);simp only[List.map_toArray,List.map_cons,List.map_nil,h31];exact bK _ _ ((aO).len hE)
    ·intro A w1 hA hL hS he;have hb:=hS rfl;have L:Below w.heap.size w w1:=hbr4.trans (hL.belowAt hbr4.size m);have h30:=eT 30 (he.1 rfl);obtain⟨v32,h32,f32⟩:=fT 32 (he.2.1 rfl);exact ae rfl (dL rfl rfl rfl Tryz.underlying27 bG h30 h32 (hown4.on hb) rfl rfl (dV f32) (by simp only[List.length_cons,List.length_nil];omega) (L.size) hL.1.size (λ_ _ h1 h2=>⟨h1,h2⟩))
    ·intro W5 hL5;simp only[aT,af.eq,af.new1,af.row,af.asPure,af.of,af.fragile,lZ];rintro v32 - v33 ⟨hown5,X⟩;go_frame;have hbW5:=hbr4.trans (hL5.belowAt hbr4.size m);go_wp2;go_roundw
     case measure=>simp[intOf];omega
     case rel=>exact⟨k+1,oM,nM,zH (by rw[b.out];exact hown5),by rw[b.out,List.length_append];simp only[List.length_cons,List.length_nil];omega,hbW5⟩
   ·have e1:(t.1.get v==n)=false:=by simpa using G
    rw[if_neg G,List.append_nil]at b;replace b:=zH b;go_wp2;go_roundw
    case measure=>simp[intOf];omega
    case rel=>exact⟨k+1,oM,nM,zH (by rw[b.out];exact hown3),by rw[b.out];omega,hbr3⟩
  ·obtain rfl:k=p.length:=oM;rw[tL (nL _)]at d;go_wp2;go_ret;exact⟨_,rfl,by rw[hR.out];exact d.out.isSl,l⟩
theorem Jj(D:Value)(p:List ai)(v:Nat)(w:World)(hp:ak w D p)(hv:v<4)(hd:aD p v<=100000000)(C:p.length<=100000000):Calls Tryz.prog 63 #[D,.int .i64 v] w (IA w (aA p v)):=by
 obtain⟨ap,cp,rfl,F⟩:=hp.shape;have x:=zH (λW (hb:Below w.heap.size w W)=>kH _ p v W (hp.on hb) hv C);have z:=zH (λW (hb:Below w.heap.size w W) (n:Nat)=>wI _ p v n W (hp.on hb) hv C);have G:=rH p v;obtain⟨R,hR⟩:∃R,R=aA p v:=⟨_,rfl⟩;rw[<-hR];have m:R=(List.range (aD p v+1).toNat).map λn:Nat=>aN p v n:=hR;clear hR;generalize aD p v=d at *;replace m:=zH m;replace hp:=zH hp
 go_enter Tryz.func63,Tryz.ntmps63
 go_wp2;have hown0:=gX uq w;have hb0:Below w.heap.size w (w.alloc (.cells #[] polyT)):=(Below.refl _ _).alloc (nL _) _;change Cs w.heap.size (w.alloc (.cells #[] 27)) _ _ at hown0;change Below w.heap.size w (w.alloc (.cells #[] 27))at hb0
 go_loopw [5,6] (λo i wr=>∃k:Nat,(k:Int)<=d+1/\i=.int .i64 k/\Hid (Cs w.heap.size wr o ((List.range k).map λn:Nat=>aN p v n))/\Below w.heap.size w wr) (λ_ i _=>(d+1).toNat-(intOf i).toNat)
 case atStart=>exact⟨0,oM,rfl,zH hown0,hb0⟩
 case round =>
  clear hown0 hb0;obtain⟨k,B,rfl,l,b⟩:=hrel;by_cases I:(k:Int)<=d
  ·have s:(List.range (k+1)).map (λn:Nat=>aN p v n)=(List.range k).map (λn:Nat=>aN p v n)++[aN p v k]:=by rw[List.range_succ,List.map_append];rfl
   have y:((List.range k).map λn:Nat=>aN p v n).length+([aN p v k]:List (List ai)).length<=1000000000:=by simp;omega
   have j:∀(W:World)(a:Option Addr)(c:Nat),Below wr.heap.size wr W->ak W (.slice a (aN p v k).length c) (aN p v k) ->
     Cs w.heap.size (W.alloc (.cells #[.slice a (aN p v k).length c] 27)) u5 ((List.range k).map λn:Nat=>aN p v n) /\
     je (W.alloc (.cells #[.slice a (aN p v k).length c] 27)) (.slice (some ⟨W.heap.size,0,none⟩) 1 1) [aN p v k] /\
     Below w.heap.size w (W.alloc (.cells #[.slice a (aN p v k).length c] 27)):=λW a c hb h=>by
    have q:Below W.heap.size W (W.alloc (.cells #[.slice a (aN p v k).length c] 27)):=(Below.refl _ _).alloc (nL _) _;exact⟨l.out.on (hb.trans (q.mono hb.size)),mh (e:=uq) (Blk.new W polyT [.slice a (aN p v k).length c]) ⟨_,rfl,h.on q⟩,(b.trans (hb.mono b.size)).trans (q.mono (b.trans (hb.mono b.size)).size)⟩
   have r:∀k,u5.ownBlock=some k->w.heap.size<=k:=λk B=>(l.out.base_le k B).1;replace j:=zH j;replace s:=zH s
   go_wp2_with (first
    | (go_at_call 27;refine(x.out _ b).mono ?_;rintro en w2 ⟨rfl,hb2⟩)
    | (go_at_call 80;refine(z.out _ (b.trans (hb2.mono b.size)) k).mono ?_;rintro en w3 ⟨v3,rfl,hv3,hb3⟩;obtain⟨a3,c3,rfl,-⟩:=hv3.shape)
    | (at_builtin;refine dU rfl _ _ 75 rfl Tryz.underlying75 IC rfl rfl (j.out _ _ _ (hb2.trans (hb3.mono hb2.size)) hv3).1 (j.out _ _ _ (hb2.trans (hb3.mono hb2.size)) hv3).2.1 y (j.out _ _ _ (hb2.trans (hb3.mono hb2.size)) hv3).2.2.size ?_;intro v8 w8 hown8 hl8 hv8))
   have u:=(j.out _ _ _ (hb2.trans (hb3.mono hb2.size)) hv3).2.2;go_roundw
   case measure=>simp[intOf];omega
   case rel=>exact⟨k+1,oM,nM,zH (by rw[s.out];exact hown8),u.trans (hl8.belowAt u.size r)⟩
  ·have e1:(d+1).toNat=k:=oM;rw[e1]at m
   go_wp2_with (go_at_call 27;refine(x.out _ b).mono ?_;rintro en w2 ⟨rfl,hb2⟩)
   go_ret;exact⟨_,rfl,by rw[m.out];exact(l.out.on hb2).isSl,b.trans (hb2.mono b.size)⟩
end Go.Proofs.YtopclbeomcggiaaGreat
