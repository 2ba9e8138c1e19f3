/- quadratureref08.Made. -/
import Derived.Test.YtopclbeomcggiaaGreatW31
set_option linter.unusedVariables false
set_option linter.unusedSimpArgs false
set_option maxHeartbeats 16000000
set_option maxRecDepth 100000
namespace Go.Proofs.YtopclbeomcggiaaGreat
open Go.RowKit Q Go.WideMaps Go.Maps
theorem RG (x:Int):IntKind.u8.wrap x=x % 256:=IntKind.wrap_u8 x
theorem OC (vl:Value) (L:List uK) (w:World) (hL:tH w vl L):Calls Tryz.prog 11 #[vl] w (aX w (FT L)):=by
 obtain⟨al,cl,rfl,hcl⟩:=hL.shape;have hfin:=fun (u:Value) (W:World) (h:ak W u (yl L))=>DW u _ _ W h (BR L) QN
 go_enter Tryz.func11,Tryz.ntmps11
 go_wp2;have hown0:=fV aO w;have hb0:Below w.heap.size w (w.alloc (.cells #[] aN)):=(Below.refl _ _).alloc (Nat.le_refl _) _;change cK w.heap.size (w.alloc (.cells #[] 43)) _ _ at hown0;change Below w.heap.size w (w.alloc (.cells #[] 43)) at hb0;replace hL:=zH hL;replace hfin:=zH hfin
 go_loopw [3,4] (fun o i wr=>∃ k:Nat,k<=L.length/\k<=3/\i=.int .i64 k/\Hid (cK w.heap.size wr o ((L.take k).map nk))/\Below w.heap.size w wr) (fun _ i _=>3-(intOf i).toNat)
 case atStart=>exact⟨0,by omega,by omega,rfl,zH hown0,hb0⟩
 case round =>
  clear hown0 hb0;obtain⟨k,hk,hkn,rfl,hown,hbr⟩:=hrel;by_cases h1:k<L.length
  ·have g1:(k:Int)<(L.length:Int):=by omega
   by_cases h2:k<3
   ·have g2:(k:Int)<3:=by omega
    have hjq:L[k]?=some L[k]:=List.getElem?_eq_getElem h1;generalize L[k]=t at hjq;obtain⟨T9,b,off,rfl,hok,hC⟩:=hL.out.get hjq;have z3:wr.cell? ⟨b,off+k*4+3,none⟩=some (.int .i8 t.2.2.2):=(hC.on hbr).cell 3 (by simp [oN]);have c1:=hok.2.2.2.1;have c2:=hok.2.2.2.2;have ctm:(t.2.2.2.tmod 6).natAbs<6:=by rw [Int.natAbs_tmod];exact Nat.mod_lt _ (by decide)
    have hsn:=zH (Bl nk hjq);have hcC:=zH hC;clear hC
    go_upto_region 6 with (first
     | (refine aj rfl _ _ 22 rfl 62 Tryz.underlying22 _ 4 4 (by kernel_rfl) _ _ _ rfl .i64 _ rfl k rfl h1 b off rfl ?_)
     | (go_at_call 24;refine (jh _ _ (by omega) (by omega)).mono ?_;rintro e w1 ⟨v1,rfl,hv1,hb1⟩;obtain⟨N1,A1,K1,C1,N2,A2,K2,C2,rfl⟩:=fQ hv1))
    refine jI fun W2 hb2 B hsz2=>?_;have hvr:=(hv1.on hb2).cellsC (cs:=[.bool N1,.slice A1 K1 C1,.bool N2,.slice A2 K2 C2]);have hB2:Blk W2 w1.heap.size aN [.int .i64 0,.int .i64 0,.int .i64 0,.int .i64 0,.bool N1,.slice A1 K1 C1,.bool N2,.slice A2 K2 C2]:=B;have hown2:=hown.out.on (hb1.trans (hb2.mono hb1.size));have hbr2:=hbr.trans ((hb1.trans (hb2.mono hb1.size)).mono hbr.size);have hC2:=hcC.out.on hbr2;have hxo:u3.ownBlock≠some w1.heap.size:=fun h=>by have:=(hown.out.base_le _ h).2;have:=hb1.size;omega
    have hwm:w.heap.size<=w1.heap.size:=by have:=hbr.size;have:=hb1.size;omega
    obtain⟨q,hq⟩:∃ q:Rat,q=((t.2.2.2.tmod 6:Int):Rat):=⟨_,rfl⟩;rw [<- hq] at hvr;obtain⟨m0,hm0⟩:∃ m,m=t.1 % 256 % 3:=⟨_,rfl⟩;obtain⟨m1,hm1⟩:∃ m,m=t.2.1 % 256 % 3:=⟨_,rfl⟩;obtain⟨m2,hm2⟩:∃ m,m=t.2.2.1 % 256 % 2:=⟨_,rfl⟩;have hmt:Hid (nk t=((m0,m1,m2,0),q)):=zH (by rw [nk,hq,hm0,hm1,hm2]);have x0:W2.cell? ⟨b,off+k*4,none⟩=some (.int .i8 t.1):=hC2.cell 0 (by simp [oN]);have x1:W2.cell? ⟨b,off+k*4+1,none⟩=some (.int .i8 t.2.1):=hC2.cell 1 (by simp [oN]);have x2:W2.cell? ⟨b,off+k*4+2,none⟩=some (.int .i8 t.2.2.1):=hC2.cell 2 (by simp [oN]);have y0:=hB2.at1 0 _ rfl;have y1:=hB2.at1 1 _ rfl;have y2:=hB2.at1 2 _ rfl;have f0:=hB2.frozen 0;have f1:=hB2.frozen 1;have f2:=hB2.frozen 2;have p0:IntKind.u8.wrap t.1=t.1 % 256:=RG _;have p1:IntKind.u8.wrap t.2.1=t.2.1 % 256:=RG _;have p2:IntKind.u8.wrap t.2.2.1=t.2.2.1 % 256:=RG _;have r0:(t.1 % 256).tmod 3=m0:=by rw [hm0];exact Int.tmod_eq_emod_of_nonneg (by omega)
    have r1:(t.2.1 % 256).tmod 3=m1:=by rw [hm1];exact Int.tmod_eq_emod_of_nonneg (by omega)
    have r2:(t.2.2.1 % 256).tmod 2=m2:=by rw [hm2];exact Int.tmod_eq_emod_of_nonneg (by omega)
    have q0:0<=m0/\m0<=2:=by omega
    have q1:0<=m1/\m1<=2:=by omega
    have q2:0<=m2/\m2<=1:=by omega
    have w0:IntKind.i64.wrap m0=m0:=kG (by omega) (by omega);have w1':IntKind.i64.wrap m1=m1:=kG (by omega) (by omega);have w2:IntKind.i64.wrap m2=m2:=kG (by omega) (by omega);have hbm:b≠w1.heap.size:=fun h=>by have h3:=(hcC.out.on hbr).lt;have:=hb1.size;omega
    have hBd:=hB2.on (pV (Below.refl _ _) 1);have hvrd:=hvr.on (pV (Below.refl W2.heap.size W2) 1);have hownd:=hown2.on (pV (Below.refl W2.heap.size W2) 1);have hbrd:=pV hbr2 1;have e0':t.1 % 256 % 3=m0:=hm0.symm;have e1':t.2.1 % 256 % 3=m1:=hm1.symm;have e2':t.2.2.1 % 256 % 2=m2:=hm2.symm;have s0:0<=t.1 % 256/\t.1 % 256<256:=by omega
    have s1:0<=t.2.1 % 256/\t.2.1 % 256<256:=by omega
    have s2:0<=t.2.2.1 % 256/\t.2.2.1 % 256<256:=by omega
    replace hq:=zH hq;clear hv1 hb1 hb2 B hsz2 hown z3 ctm c1 c2 hbr hvr hown2 hbr2 hC2 hm0 hm1 hm2 hok hB2 hcC;generalize w1.heap.size=mb at *
    go_cut [26,27,28,29,30,31,32,33,34,35,36,37,38,39,40,41,42,43,44,45,46,47,48,49,50,51,52,53,54,55] (fun _ _ _ _ _ _ _ _ _ _ _ _ _ _ _ _ _ _ _ _ _ _ _ _ _ _ _ _ _ _ wd=>Hid (Blk wd mb aN (bR (m0,m1,m2,0)++[.bool N1,.slice A1 K1 C1,.bool N2,.slice A2 K2 C2]))/\Hid (gM wd [.bool N1,.slice A1 K1 C1,.bool N2,.slice A2 K2 C2] q)/\Hid (cK w.heap.size wd u3 ((L.take k).map nk))/\Below w.heap.size w wd)
    case first =>
     go_region_with (fail)
     all_goals first
      | (have hB9:=((hBd.set 0 (.int .i64 m0)).set 1 (.int .i64 m1)).set 2 (.int .i64 m2);have hl9:=((aY (j:=0) hBd (.int .i64 m0)).trans (aY (j:=1) (hBd.set 0 (.int .i64 m0)) (.int .i64 m1))).trans (aY (j:=2) ((hBd.set 0 (.int .i64 m0)).set 1 (.int .i64 m1)) (.int .i64 m2));go_wp2;go_meet;case rel=>exact⟨zH hB9,zH (hvrd.lr hl9 (by decide)),zH (hownd.lr hl9 (bu (by decide)) (.inr hxo)),hbrd.trans (hl9.belowAt hbrd.size (fun k hk=>by cases hk;exact hwm))⟩)
      | (have hB9:=((hBd.set 0 (.int .i64 m0)).set 2 (.int .i64 m2)).set 1 (.int .i64 m1);have hl9:=((aY (j:=0) hBd (.int .i64 m0)).trans (aY (j:=2) (hBd.set 0 (.int .i64 m0)) (.int .i64 m2))).trans (aY (j:=1) ((hBd.set 0 (.int .i64 m0)).set 2 (.int .i64 m2)) (.int .i64 m1));go_wp2;go_meet;case rel=>exact⟨zH hB9,zH (hvrd.lr hl9 (by decide)),zH (hownd.lr hl9 (bu (by decide)) (.inr hxo)),hbrd.trans (hl9.belowAt hbrd.size (fun k hk=>by cases hk;exact hwm))⟩)
      | (have hB9:=((hBd.set 1 (.int .i64 m1)).set 0 (.int .i64 m0)).set 2 (.int .i64 m2);have hl9:=((aY (j:=1) hBd (.int .i64 m1)).trans (aY (j:=0) (hBd.set 1 (.int .i64 m1)) (.int .i64 m0))).trans (aY (j:=2) ((hBd.set 1 (.int .i64 m1)).set 0 (.int .i64 m0)) (.int .i64 m2));go_wp2;go_meet;case rel=>exact⟨zH hB9,zH (hvrd.lr hl9 (by decide)),zH (hownd.lr hl9 (bu (by decide)) (.inr hxo)),hbrd.trans (hl9.belowAt hbrd.size (fun k hk=>by cases hk;exact hwm))⟩)
      | (have hB9:=((hBd.set 1 (.int .i64 m1)).set 2 (.int .i64 m2)).set 0 (.int .i64 m0);have hl9:=((aY (j:=1) hBd (.int .i64 m1)).trans (aY (j:=2) (hBd.set 1 (.int .i64 m1)) (.int .i64 m2))).trans (aY (j:=0) ((hBd.set 1 (.int .i64 m1)).set 2 (.int .i64 m2)) (.int .i64 m0));go_wp2;go_meet;case rel=>exact⟨zH hB9,zH (hvrd.lr hl9 (by decide)),zH (hownd.lr hl9 (bu (by decide)) (.inr hxo)),hbrd.trans (hl9.belowAt hbrd.size (fun k hk=>by cases hk;exact hwm))⟩)
      | (have hB9:=((hBd.set 2 (.int .i64 m2)).set 0 (.int .i64 m0)).set 1 (.int .i64 m1);have hl9:=((aY (j:=2) hBd (.int .i64 m2)).trans (aY (j:=0) (hBd.set 2 (.int .i64 m2)) (.int .i64 m0))).trans (aY (j:=1) ((hBd.set 2 (.int .i64 m2)).set 0 (.int .i64 m0)) (.int .i64 m1));go_wp2;go_meet;case rel=>exact⟨zH hB9,zH (hvrd.lr hl9 (by decide)),zH (hownd.lr hl9 (bu (by decide)) (.inr hxo)),hbrd.trans (hl9.belowAt hbrd.size (fun k hk=>by cases hk;exact hwm))⟩)
      | (have hB9:=((hBd.set 2 (.int .i64 m2)).set 1 (.int .i64 m1)).set 0 (.int .i64 m0);have hl9:=((aY (j:=2) hBd (.int .i64 m2)).trans (aY (j:=1) (hBd.set 2 (.int .i64 m2)) (.int .i64 m1))).trans (aY (j:=0) ((hBd.set 2 (.int .i64 m2)).set 1 (.int .i64 m1)) (.int .i64 m0));go_wp2;go_meet;case rel=>exact⟨zH hB9,zH (hvrd.lr hl9 (by decide)),zH (hownd.lr hl9 (bu (by decide)) (.inr hxo)),hbrd.trans (hl9.belowAt hbrd.size (fun k hk=>by cases hk;exact hwm))⟩)
    case rest =>
     clear y0 y1 y2 f0 f1 f2 p0 p1 p2 r0 r1 r2 w0 w1' w2 x0 x1 x2 hBd hvrd hownd hbrd e0' e1' e2' s0 s1 s2;obtain⟨hB,hr,hown,hbr⟩:=hcut;replace hown:=hown.out;replace hr:=hr.out;replace hB:=hB.out;have hbase:∀ k,u3.ownBlock=some k->w.heap.size<=k:=fun k hk=>(hown.base_le k hk).1;have hne:some mb≠u3.ownBlock:=fun h=>hxo h.symm;have hlt:((L.take k).map nk).length<=3:=by simp;omega
     have h8:(bR (m0,m1,m2,0)++[Value.bool N1,.slice A1 K1 C1,.bool N2,.slice A2 K2 C2]).length=8:=rfl;obtain⟨rc,hrc⟩:∃ rc,rc=[Value.bool N1,.slice A1 K1 C1,.bool N2,.slice A2 K2 C2]:=⟨_,rfl⟩;rw [<- hrc] at hB hr h8;obtain⟨E,hE⟩:∃ E:Ex,E=(m0,m1,m2,0):=⟨_,rfl⟩;have hmt2:Hid (nk t=(E,q)):=zH (by rw [hmt.out,hE]);rw [<- hE] at hB h8;clear hrc hE hmt
     go_upto_region 7 with (fail)
     refine aP trivial (u3.ownBlock) (aN) (hown.okr) [.eq (u3),.eq (.agg (bR E++rc).toArray),.new1 aO fw ((E,q)),.row aO (w.heap.size) wc.heap.size (((L.take k).map nk)++[(E,q)])] [56,57,58,59] rfl rfl rfl rfl ⟨?_,?_,?_,?_,trivial⟩ ?_
     ·exact fun _ _ a _ _ _=>xM rfl (a 3 rfl)
     ·exact fun _ _ a hL _ _=>pL rfl ((hB.lr hL hne).cells.range) Tryz.underlying43 (h8) (a 5 rfl)
     ·intro A w1 hA hL hS he;have h57:=eT 57 (he.1 rfl);refine ae rfl ?_;have hE:(aO:El _).E w1 _ ((E,q)):=⟨_,rfl,hr.lr hL (by decide)⟩;refine fo rfl rfl ((hown.okr).lr hL) hE (bC rfl ?_) (fun _ _ h=>h);simp only [List.map_toArray,List.map_cons,List.map_nil,h57];exact zq _ _ ((aO).len hE)
     ·intro A w1 hA hL hS he;have hb:=hS rfl;have hbw:Below w.heap.size w w1:=hbr.trans (hL.belowAt hbr.size hbase);have h56:=eT 56 (he.1 rfl);obtain⟨v58,h58,f58⟩:=fT 58 (he.2.1 rfl);exact ae rfl (dO rfl rfl rfl Tryz.underlying26 bK h56 h58 (hown.on hb) rfl rfl (dV f58) (by simp only [List.length_cons,List.length_nil];omega) (hbw.size) hL.1.size (fun _ _ h1 h2=>⟨h1,h2⟩))
     ·intro W5 hL5;simp only [aU,af.eq,af.new1,af.row,af.asPure,af.of,af.fragile,lZ];rintro v58 - v59 ⟨hown5,hnew⟩;go_frame;have hbW5:=hbr.trans (hL5.belowAt hbr.size hbase);go_wp2;go_roundw
      case measure=>simp [intOf];omega
      case rel=>exact⟨k+1,by omega,by omega,by go_num,zH (by rw [hsn.out,hmt2.out];exact hown5),hbW5⟩
   ·have g2:¬ (k:Int)<3:=by omega
    obtain rfl:k=3:=by omega
    have hf:=fun u h=>hfin.out u wr h;have hisl:ak wr u3 (yl L):=hown.out.isSl;clear hown
    go_wp2_with (go_at_call 43;refine (hf _ hisl).mono ?_;rintro e w9 ⟨v9,rfl,hv9,hb9⟩)
    go_ret;exact⟨_,rfl,hv9,hbr.trans (hb9.mono hbr.size)⟩
  ·have g1:¬ (k:Int)<(L.length:Int):=by omega
   have hf:=fun u h=>hfin.out u wr h
   have hisl:ak wr u3 (yl L):=by
    have:=hown.out.isSl;rwa [show L.take k=L.take 3 by rw [List.take_of_length_le (by omega),List.take_of_length_le (by omega)]] at this
   clear hown
   go_wp2_with (go_at_call 43;refine (hf _ hisl).mono ?_;rintro e w9 ⟨v9,rfl,hv9,hb9⟩)
   go_ret;exact⟨_,rfl,hv9,hbr.trans (hb9.mono hbr.size)⟩
end Go.Proofs.YtopclbeomcggiaaGreat
