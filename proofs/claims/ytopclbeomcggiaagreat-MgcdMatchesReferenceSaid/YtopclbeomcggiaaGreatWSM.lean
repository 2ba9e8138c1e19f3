/- quadratureref08.Made. -/
import Derived.Test.YtopclbeomcggiaaGreatW33
set_option linter.unusedVariables false
set_option linter.unusedSimpArgs false
set_option maxHeartbeats 16000000
set_option maxRecDepth 100000
namespace Go.Proofs.YtopclbeomcggiaaGreat
open Go.RowKit Q Go.WideMaps Go.Maps
theorem SC(x:Int):IntKind.u8.wrap x=x%256:=IntKind.wrap_u8 x
theorem zO(vl:Value)(L:List AA)(w:World)(hL:wM w vl L):Calls Tryz.prog 11 #[vl] w (aS w (wL L)):=by
 obtain⟨al,cl,rfl,a7⟩:=hL.shape;have y:=λ(u:Value)(W:World)(h:ak W u (zz L))=>Fb u _ _ W h (Dn L) RD
 go_enter Tryz.func11,Tryz.ntmps11
 go_wp2;have hown0:=gX aO w;have hb0:Below w.heap.size w (w.alloc (.cells #[] aJ)):=(Below.refl _ _).alloc (nL _) _;change bV w.heap.size (w.alloc (.cells #[] 43)) _ _ at hown0;change Below w.heap.size w (w.alloc (.cells #[] 43))at hb0;replace hL:=zH hL;replace y:=zH y
 go_loopw [3,4] (λo i wr=>∃k:Nat,k<=L.length/\k<=3/\i=.int .i64 k/\Hid (bV w.heap.size wr o ((L.take k).map ou))/\Below w.heap.size w wr) (λ_ i _=>3-(intOf i).toNat)
 case atStart=>exact⟨0,oM,oM,rfl,zH hown0,hb0⟩
 case round =>
  clear hown0 hb0;obtain⟨k,z,a8,rfl,l,p⟩:=hrel;by_cases h1:k<L.length
  ·have g1:(k:Int)<(L.length:Int):=oM;by_cases h2:k<3
   ·have g2:(k:Int)<3:=oM;have I:L[k]?=some L[k]:=gE h1;generalize L[k]=t at I;obtain⟨T9,b,off,rfl,J,hC⟩:=hL.out.get I;have z3:wr.cell? ⟨b,off+k*4+3,none⟩=some (.int .i8 t.2.2.2):=(hC.on p).cell 3 (by simp[tJ]);have c1:=J.2.2.2.1;have c2:=J.2.2.2.2;have X:(t.2.2.2.tmod 6).natAbs<6:=by rw[Int.natAbs_tmod];exact Nat.mod_lt _ dM
    have a3:=zH (I8 ou I);have G:=zH hC;clear hC
    go_upto_region 6 with (first
     | (refine aj rfl _ _ 22 rfl 62 Tryz.underlying22 _ 4 4 kM _ _ _ rfl .i64 _ rfl k rfl h1 b off rfl ?_)
     | (go_at_call 24;refine(gG _ _ oM oM).mono ?_;rintro e w1 ⟨v1,rfl,hv1,hb1⟩;obtain⟨N1,A1,K1,C1,N2,A2,K2,C2,rfl⟩:=fE hv1))
    refine jb λW2 hb2 B hsz2=>?_;have M:=(hv1.on hb2).cellsC (cs:=[.bool N1,.slice A1 K1 C1,.bool N2,.slice A2 K2 C2]);have hB2:Blk W2 w1.heap.size aJ [.int .i64 0,.int .i64 0,.int .i64 0,.int .i64 0,.bool N1,.slice A1 K1 C1,.bool N2,.slice A2 K2 C2]:=B;have hown2:=l.out.on (hb1.trans (hb2.mono hb1.size));have hbr2:=p.trans ((hb1.trans (hb2.mono hb1.size)).mono p.size);have hC2:=G.out.on hbr2;have x:u3.ownBlock≠some w1.heap.size:=λh=>by have:=(l.out.base_le _ h).2;have:=hb1.size;omega
    have C:w.heap.size<=w1.heap.size:=by have:=p.size;have:=hb1.size;omega
    obtain⟨q,hq⟩:∃q:Rat,q=((t.2.2.2.tmod 6:Int):Rat):=⟨_,rfl⟩;rw[<-hq]at M;obtain⟨m0,hm0⟩:∃m,m=t.1%256%3:=⟨_,rfl⟩;obtain⟨m1,hm1⟩:∃m,m=t.2.1%256%3:=⟨_,rfl⟩;obtain⟨m2,hm2⟩:∃m,m=t.2.2.1%256%2:=⟨_,rfl⟩;have N:Hid (ou t=((m0,m1,m2,0),q)):=zH (by rw[ou,hq,hm0,hm1,hm2]);have x0:W2.cell? ⟨b,off+k*4,none⟩=some (.int .i8 t.1):=hC2.cell 0 (by simp[tJ]);have x1:W2.cell? ⟨b,off+k*4+1,none⟩=some (.int .i8 t.2.1):=hC2.cell 1 (by simp[tJ]);have x2:W2.cell? ⟨b,off+k*4+2,none⟩=some (.int .i8 t.2.2.1):=hC2.cell 2 (by simp[tJ]);have y0:=hB2.at1 0 _ rfl;have y1:=hB2.at1 1 _ rfl;have y2:=hB2.at1 2 _ rfl;have f0:=hB2.frozen 0;have f1:=hB2.frozen 1;have f2:=hB2.frozen 2;have p0:IntKind.u8.wrap t.1=t.1%256:=SC _;have p1:IntKind.u8.wrap t.2.1=t.2.1%256:=SC _;have p2:IntKind.u8.wrap t.2.2.1=t.2.2.1%256:=SC _;have r0:(t.1%256).tmod 3=m0:=by rw[hm0];exact Int.tmod_eq_emod_of_nonneg oM
    have r1:(t.2.1%256).tmod 3=m1:=by rw[hm1];exact Int.tmod_eq_emod_of_nonneg oM
    have r2:(t.2.2.1%256).tmod 2=m2:=by rw[hm2];exact Int.tmod_eq_emod_of_nonneg oM
    have q0:0<=m0/\m0<=2:=oM;have q1:0<=m1/\m1<=2:=oM;have q2:0<=m2/\m2<=1:=oM;have w0:IntKind.i64.wrap m0=m0:=lW oM oM;have a4:IntKind.i64.wrap m1=m1:=lW oM oM;have w2:IntKind.i64.wrap m2=m2:=lW oM oM;have a6:b≠w1.heap.size:=λh=>by have h3:=(G.out.on p).lt;have:=hb1.size;omega
    have d:=hB2.on (oZ (Below.refl _ _) 1);have s:=M.on (oZ (Below.refl W2.heap.size W2) 1);have r:=hown2.on (oZ (Below.refl W2.heap.size W2) 1);have n:=oZ hbr2 1;have Y:t.1%256%3=m0:=hm0.symm;have Z:t.2.1%256%3=m1:=hm1.symm;have a0:t.2.2.1%256%2=m2:=hm2.symm;have s0:0<=t.1%256/\t.1%256<256:=oM;have s1:0<=t.2.1%256/\t.2.1%256<256:=oM;have s2:0<=t.2.2.1%256/\t.2.2.1%256<256:=oM;replace hq:=zH hq;clear hv1 hb1 hb2 B hsz2 l z3 X c1 c2 p M hown2 hbr2 hC2 hm0 hm1 hm2 J hB2 G;generalize w1.heap.size=mb at *
    go_cut [26,27,28,29,30,31,32,33,34,35,36,37,38,39,40,41,42,43,44,45,46,47,48,49,50,51,52,53,54,55] (λ_ _ _ _ _ _ _ _ _ _ _ _ _ _ _ _ _ _ _ _ _ _ _ _ _ _ _ _ _ _ wd=>Hid (Blk wd mb aJ (bC (m0,m1,m2,0)++[.bool N1,.slice A1 K1 C1,.bool N2,.slice A2 K2 C2]))/\Hid (gM wd [.bool N1,.slice A1 K1 C1,.bool N2,.slice A2 K2 C2] q)/\Hid (bV w.heap.size wd u3 ((L.take k).map ou))/\Below w.heap.size w wd)
    case first =>
     go_region_with (fail)
     all_goals first
      | (have hB9:=((d.set 0 (.int .i64 m0)).set 1 (.int .i64 m1)).set 2 (.int .i64 m2);have hl9:=((aY (j:=0) d (.int .i64 m0)).trans (aY (j:=1) (d.set 0 (.int .i64 m0)) (.int .i64 m1))).trans (aY (j:=2) ((d.set 0 (.int .i64 m0)).set 1 (.int .i64 m1)) (.int .i64 m2));go_wp2;go_meet;case rel=>exact⟨zH hB9,zH (s.lr hl9 dM),zH (r.lr hl9 (aW dM) (.inr x)),n.trans (hl9.belowAt n.size (λk z=>by cases z;exact C))⟩)
      | (have hB9:=((d.set 0 (.int .i64 m0)).set 2 (.int .i64 m2)).set 1 (.int .i64 m1);have hl9:=((aY (j:=0) d (.int .i64 m0)).trans (aY (j:=2) (d.set 0 (.int .i64 m0)) (.int .i64 m2))).trans (aY (j:=1) ((d.set 0 (.int .i64 m0)).set 2 (.int .i64 m2)) (.int .i64 m1));go_wp2;go_meet;case rel=>exact⟨zH hB9,zH (s.lr hl9 dM),zH (r.lr hl9 (aW dM) (.inr x)),n.trans (hl9.belowAt n.size (λk z=>by cases z;exact C))⟩)
      | (have hB9:=((d.set 1 (.int .i64 m1)).set 0 (.int .i64 m0)).set 2 (.int .i64 m2);have hl9:=((aY (j:=1) d (.int .i64 m1)).trans (aY (j:=0) (d.set 1 (.int .i64 m1)) (.int .i64 m0))).trans (aY (j:=2) ((d.set 1 (.int .i64 m1)).set 0 (.int .i64 m0)) (.int .i64 m2));go_wp2;go_meet;case rel=>exact⟨zH hB9,zH (s.lr hl9 dM),zH (r.lr hl9 (aW dM) (.inr x)),n.trans (hl9.belowAt n.size (λk z=>by cases z;exact C))⟩)
      | (have hB9:=((d.set 1 (.int .i64 m1)).set 2 (.int .i64 m2)).set 0 (.int .i64 m0);have hl9:=((aY (j:=1) d (.int .i64 m1)).trans (aY (j:=2) (d.set 1 (.int .i64 m1)) (.int .i64 m2))).trans (aY (j:=0) ((d.set 1 (.int .i64 m1)).set 2 (.int .i64 m2)) (.int .i64 m0));go_wp2;go_meet;case rel=>exact⟨zH hB9,zH (s.lr hl9 dM),zH (r.lr hl9 (aW dM) (.inr x)),n.trans (hl9.belowAt n.size (λk z=>by cases z;exact C))⟩)
      | (have hB9:=((d.set 2 (.int .i64 m2)).set 0 (.int .i64 m0)).set 1 (.int .i64 m1);have hl9:=((aY (j:=2) d (.int .i64 m2)).trans (aY (j:=0) (d.set 2 (.int .i64 m2)) (.int .i64 m0))).trans (aY (j:=1) ((d.set 2 (.int .i64 m2)).set 0 (.int .i64 m0)) (.int .i64 m1));go_wp2;go_meet;case rel=>exact⟨zH hB9,zH (s.lr hl9 dM),zH (r.lr hl9 (aW dM) (.inr x)),n.trans (hl9.belowAt n.size (λk z=>by cases z;exact C))⟩)
      | (have hB9:=((d.set 2 (.int .i64 m2)).set 1 (.int .i64 m1)).set 0 (.int .i64 m0);have hl9:=((aY (j:=2) d (.int .i64 m2)).trans (aY (j:=1) (d.set 2 (.int .i64 m2)) (.int .i64 m1))).trans (aY (j:=0) ((d.set 2 (.int .i64 m2)).set 1 (.int .i64 m1)) (.int .i64 m0));go_wp2;go_meet;case rel=>exact⟨zH hB9,zH (s.lr hl9 dM),zH (r.lr hl9 (aW dM) (.inr x)),n.trans (hl9.belowAt n.size (λk z=>by cases z;exact C))⟩)
    case rest =>
     clear y0 y1 y2 f0 f1 f2 p0 p1 p2 r0 r1 r2 w0 a4 w2 x0 x1 x2 d s r n Y Z a0 s0 s1 s2;obtain⟨hB,hr,l,p⟩:=hcut;replace l:=l.out;replace hr:=hr.out;replace hB:=hB.out;have D:∀k,u3.ownBlock=some k->w.heap.size<=k:=λk z=>(l.base_le k z).1;have a2:some mb≠u3.ownBlock:=λh=>x h.symm;have a9:((L.take k).map ou).length<=3:=by simp;omega
     have h8:(bC (m0,m1,m2,0)++[Value.bool N1,.slice A1 K1 C1,.bool N2,.slice A2 K2 C2]).length=8:=rfl;obtain⟨rc,S⟩:∃rc,rc=[Value.bool N1,.slice A1 K1 C1,.bool N2,.slice A2 K2 C2]:=⟨_,rfl⟩;rw[<-S]at hB hr h8;obtain⟨E,hE⟩:∃E:Ex,E=(m0,m1,m2,0):=⟨_,rfl⟩;have hmt2:Hid (ou t=(E,q)):=zH (by rw[N.out,hE]);rw[<-hE]at hB h8;clear S hE N
     go_upto_region 7 with (fail)
     refine aR trivial (u3.ownBlock) (aJ) (l.okr) [.eq (u3),.eq (.agg (bC E++rc).toArray),.new1 aO fw ((E,q)),.row aO (w.heap.size) wc.heap.size (((L.take k).map ou)++[(E,q)])] [56,57,58,59] rfl rfl rfl rfl ⟨λ_ _ a _ _ _=>xM rfl (a 3 rfl),λ_ _ a hL _ _=>pL rfl ((hB.lr hL a2).cells.range) Tryz.underlying43 (h8) (a 5 rfl),?_,?_,trivial⟩ ?_
     ·intro A w1 hA hL hS he;have h57:=eT 57 (he.1 rfl);refine ae rfl ?_;have hE:(aO:El _).E w1 _ ((E,q)):=⟨_,rfl,hr.lr hL dM⟩;refine fo rfl rfl ((l.okr).lr hL) hE (bu rfl ?_) (λ_ _ h=>h);simp only[List.map_toArray,List.map_cons,List.map_nil,h57];exact Ar _ _ ((aO).len hE)
     ·intro A w1 hA hL hS he;have hb:=hS rfl;have a1:Below w.heap.size w w1:=p.trans (hL.belowAt p.size D);have h56:=eT 56 (he.1 rfl);obtain⟨v58,h58,f58⟩:=fT 58 (he.2.1 rfl);exact ae rfl (dL rfl rfl rfl Tryz.underlying26 bG h56 h58 (l.on hb) rfl rfl (dV f58) (by simp only[List.length_cons,List.length_nil];omega) (a1.size) hL.1.size (λ_ _ h1 h2=>⟨h1,h2⟩))
     ·intro W5 hL5;simp only[aT,af.eq,af.new1,af.row,af.asPure,af.of,af.fragile,lZ];rintro v58 - v59 ⟨hown5,a5⟩;go_frame;have hbW5:=p.trans (hL5.belowAt p.size D);go_wp2;go_roundw
      case measure=>simp[intOf];omega
      case rel=>exact⟨k+1,oM,oM,nM,zH (by rw[a3.out,hmt2.out];exact hown5),hbW5⟩
   ·have g2:¬(k:Int)<3:=oM;obtain rfl:k=3:=oM;have hf:=λu h=>y.out u wr h;have F:ak wr u3 (zz L):=l.out.isSl;clear l
    go_wp2_with (go_at_call 43;refine(hf _ F).mono ?_;rintro e w9 ⟨v9,rfl,hv9,hb9⟩)
    go_ret;exact⟨_,rfl,hv9,p.trans (hb9.mono p.size)⟩
  ·have g1:¬(k:Int)<(L.length:Int):=oM;have hf:=λu h=>y.out u wr h
   have F:ak wr u3 (zz L):=by have:=l.out.isSl;rwa[show L.take k=L.take 3 by rw[tL oM,tL oM]]at this
   clear l
   go_wp2_with (go_at_call 43;refine(hf _ F).mono ?_;rintro e w9 ⟨v9,rfl,hv9,hb9⟩)
   go_ret;exact⟨_,rfl,hv9,p.trans (hb9.mono p.size)⟩
end Go.Proofs.YtopclbeomcggiaaGreat
