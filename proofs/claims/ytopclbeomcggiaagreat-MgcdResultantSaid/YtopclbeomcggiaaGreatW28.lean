/- The reference's polynomials: times. -/
import Derived.Test.YtopclbeomcggiaaGreatW26
set_option linter.unusedVariables false
set_option linter.unusedSimpArgs false
set_option maxHeartbeats 16000000
set_option maxRecDepth 100000
section
namespace Q
def kK (p:List ai) (m:ai):List ai:=if m.2=0 then [] else p.map fun s=>mulT s m
def uJ (e f:Ex):Nat->Ex
 | 0=>e
 | k+1=>(uJ e f k).put k (e.get k+f.get k)
theorem J9 (e f:Ex):uJ e f 4=e.add f:=rfl
theorem NY (e f:Ex) (k:Nat) (h:k<4):(uJ e f k).get k=e.get k:=by
 obtain rfl|rfl|rfl|rfl:k=0\/k=1\/k=2\/k=3:=by omega
 all_goals rfl
theorem XM (m g:Ex) (v:Nat) (h:v<4):(Ex.add m g).get v=m.get v+g.get v:=by
 obtain rfl|rfl|rfl|rfl:v=0\/v=1\/v=2\/v=3:=by omega
 all_goals rfl
theorem aV.times {p:List ai} {m:ai} (h:aV p) (hm:m.1.nat=true):aV (kK p m):=by
 unfold kK;split
 ·exact aV.nil
 ·rename_i hz;refine⟨h.1.map fun s _ t _ hst=>?_,fun t ht=>?_⟩
  ·show (s.1.add m.1).gt (t.1.add m.1)=true;rw [Ex.add_comm s.1,Ex.add_comm t.1,Ex.gt_add];exact hst
  ·obtain⟨s,hs,rfl⟩:=List.mem_map.1 ht;exact⟨je (h.2 s hs).1 hz,Ex.nat_add (h.2 s hs).2 hm⟩
theorem Qm (x:Pt) {p:List ai} (h:dh p) {m:ai} (hm:m.1.nat=true):ev x (kK p m)=ev x p*(m.2*kP x m.1):=by
 unfold kK;split
 ·rename_i hz;rw [hz,di];grind
 ·induction p with
  | nil=>rw [List.map_nil,di];grind
  | cons s p ih =>
   rw [List.map_cons,jY,jY,ih h.tail];simp only [mulT];rw [ES x h.head hm];grind
end Q
namespace Go.Proofs.YtopclbeomcggiaaGreat
open Go.RowKit Q Go.WideMaps Go.Maps
theorem Qn (e:Ex):(bR e).toArray.all (·.oneCell')=true:=by
 rw [Array.all_eq_true_iff_forall_mem];intro v hv;exact zI e v (by simpa using hv)
theorem Mf (e:Ex) (v:Nat) (hv:v<4):(bR e)[v]?=some (.int .i64 (e.get v)):=by
 obtain rfl|rfl|rfl|rfl:v=0\/v=1\/v=2\/v=3:=by omega
 all_goals rfl
theorem Qo (e:Ex) (v:Nat) (hv:v<4) (x:Int):(bR e).set v (.int .i64 x)=bR (e.put v x):=by
 obtain rfl|rfl|rfl|rfl:v=0\/v=1\/v=2\/v=3:=by omega
 all_goals rfl
theorem BK (vp:Value) (p:List ai) (cs:List Value) (m:ai) (w:World) (hp:ak w vp p) (hm:qf w cs m) (rp:∀ t∈p,Rs t.2) (rm:Rs m.2) (hin:∀ t∈p,InR (t.1.add m.1)) (lp:p.length<=100000000) :
  Calls Tryz.prog 44 #[vp,.agg cs.toArray] w (aX w (kK p m)):=by
 obtain⟨ap,cp,rfl,hcp⟩:=hp.shape;obtain⟨r,rfl,hr⟩:=hm;have h4:=hr.len;replace rp:=zH rp;replace hin:=zH hin;obtain⟨R,hR⟩:∃ R,R=kK p m:=⟨_,rfl⟩;rw [<- hR];replace hR:=zH hR
 go_enter Tryz.func44,Tryz.ntmps44
 go_upto_region 1 with (fail)
 refine jI fun W hb0 B hsz=>?_;go_wp2;have hba:Below W.heap.size W (W.alloc (.cells #[] aN)):=(Below.refl _ _).alloc (Nat.le_refl _) _;have hown0:=Nw aO (w:=W) (base:=w.heap.size+1) B.lt;have hbW:=hb0.trans (hba.mono hb0.size);have B0:=B.on hba;change cK (w.heap.size+1) (W.alloc (.cells #[] 43)) _ _ at hown0;change Below w.heap.size w (W.alloc (.cells #[] 43)) at hbW;change Blk (W.alloc (.cells #[] 43)) _ _ _ at B0;clear hba B hb0;replace hp:=zH hp
 go_loopw [5,6] (fun o vi wr=>∃ k:Nat,vi=.int .i64 k/\k<=p.length/\Hid (m.2=0->k=0)/\Hid (cK (w.heap.size+1) wr o ((p.take k).map fun s=>mulT s m))/\Hid (Blk wr w.heap.size aN (bR m.1++r))/\Below w.heap.size w wr) (fun _ vi _=>p.length-(intOf vi).toNat)
 case atStart=>exact⟨0,rfl,by omega,zH (fun _=>rfl),zH hown0,zH B0,hbW⟩
 case round =>
  clear hown0 B0 hbW hsz;obtain⟨k,rfl,hk,hz0,hown,hB,hbr⟩:=hrel;by_cases hkl:k<p.length
  ·have hkl':(k:Int)<(p.length:Int):=by omega
   have BB:=hB.out;have hsgn:=fun W (hb:Below wr.heap.size wr W)=>xW _ _ W (hr.on (hbr.trans (hb.mono hbr.size))).rat;have hjq:p[k]?=some p[k]:=List.getElem?_eq_getElem hkl;generalize p[k]=s at hjq;obtain⟨ba,oa,ra,rfl,hra,hCa⟩:=iO hp.out hjq;have hla:=hra.len
   go_upto_region 3 with (fail)
   by_cases hz:m.2=0
   ·have hk0:=hz0.out hz;have hs0:iV m.2.num=0:=by rw [hz];rfl
    rw [hs0] at hsgn;replace hk0:=zH hk0;refine aP trivial (none) (0) (gp.none) [.eq (.int .i64 k),.eq (.slice (some ⟨ba,oa,none⟩) p.length cp),.eq (.int .i64 p.length),.eq (.bool true),.eq (.bool true),.eq (.pointer (some ⟨w.heap.size,0+4,none⟩)),.eq (.agg (r).toArray),.ret (.int .i64 0),.eq (.bool false),.eq (.bool false)] [10,11,12,13,14,15,16,17,18,19] rfl rfl rfl rfl ⟨?_,?_,?_,?_,?_,?_,?_,?_,?_,?_,trivial⟩ ?_
    ·exact fun _ _ a _ _ _=>xM rfl (a 6 rfl)
    ·exact fun _ _ a _ _ _=>xM rfl (a 0 rfl)
    ·intro A w1 hA hL hS he;have h11:=eT 11 (he.1 rfl);exact pZ rfl
    ·intro A w1 hA hL hS he;have h10:=eT 10 (he.1 rfl);have h12:=eT 12 (he.2.1 rfl);exact pZ rfl
    ·exact fun _ _ _ _ _ e=>xM rfl (e.1 rfl)
    ·exact fun _ _ a _ _ e=>aJ rfl rfl (e.1 rfl) (Fe rfl (a 3 rfl))
    ·exact fun _ _ _ hL _ e=>aJ rfl rfl (e.2.1 rfl) (xL rfl (ul (BB.on hL.below)) Tryz.underlying41 (h4) (e.1 rfl))
    ·intro A w1 hA hL hS he;have hb:=hS rfl;have h14:=eT 14 (he.2.1 rfl);have h16:=eT 16 (he.1 rfl);have hf0:=eF A 67;exact cY (f:=67) (args:=#[.agg (r).toArray]) h14 (hsgn _ hb)
    ·intro A w1 hA hL hS he;have h14:=eT 14 (he.2.1 rfl);have h17:=eT 17 (he.1 rfl);have hc0:=eC A (.int .i64 0);exact yZ h14 rfl
    ·exact fun _ _ _ _ _ e=>pK rfl (e.1 rfl) (e.2.1 rfl)
    ·intro W2 hL2;simp only [aU,af.eq,af.ret,lZ];go_frame;go_wp2;go_ret;refine⟨_,rfl,?_,hbr.trans (hL2.below.mono hbr.size)⟩;have:=(hown.out.on hL2.below).isSl;rw [hk0.out] at this;rw [hR.out,kK,if_pos hz];simpa using this
   ·have hs0:=rD hz;generalize iV m.2.num=sg at hs0 hsgn;have hs1:(sg != 0)=true:=by simpa using hs0
    refine aP trivial (none) (0) (gp.none) [.eq (.int .i64 k),.eq (.slice (some ⟨ba,oa,none⟩) p.length cp),.eq (.int .i64 p.length),.eq (.bool true),.eq (.bool true),.eq (.pointer (some ⟨w.heap.size,0+4,none⟩)),.eq (.agg (r).toArray),.ret (.int .i64 sg),.eq (.bool true),.eq (.bool true)] [10,11,12,13,14,15,16,17,18,19] rfl rfl rfl rfl ⟨?_,?_,?_,?_,?_,?_,?_,?_,?_,?_,trivial⟩ ?_
    ·exact fun _ _ a _ _ _=>xM rfl (a 6 rfl)
    ·exact fun _ _ a _ _ _=>xM rfl (a 0 rfl)
    ·intro A w1 hA hL hS he;have h11:=eT 11 (he.1 rfl);exact pZ rfl
    ·intro A w1 hA hL hS he;have h10:=eT 10 (he.1 rfl);have h12:=eT 12 (he.2.1 rfl);exact pZ rfl
    ·exact fun _ _ _ _ _ e=>xM rfl (e.1 rfl)
    ·exact fun _ _ a _ _ e=>aJ rfl rfl (e.1 rfl) (Fe rfl (a 3 rfl))
    ·exact fun _ _ _ hL _ e=>aJ rfl rfl (e.2.1 rfl) (xL rfl (ul (BB.on hL.below)) Tryz.underlying41 (h4) (e.1 rfl))
    ·intro A w1 hA hL hS he;have hb:=hS rfl;have h14:=eT 14 (he.2.1 rfl);have h16:=eT 16 (he.1 rfl);have hf0:=eF A 67;exact cY (f:=67) (args:=#[.agg (r).toArray]) h14 (hsgn _ hb)
    ·intro A w1 hA hL hS he;have h14:=eT 14 (he.2.1 rfl);have h17:=eT 17 (he.1 rfl);have hc0:=eC A (.int .i64 0);exact yZ h14 rfl
    ·exact fun _ _ _ _ _ e=>pK rfl (e.1 rfl) (e.2.1 rfl)
    ·intro W2 hL2;simp only [aU,af.eq,af.ret,lZ];go_frame;have hown2:=hown.out.on hL2.below;have BB2:=BB.on hL2.below;have hbr2:=hbr.trans (hL2.below.mono hbr.size);clear hsgn hL2 BB hown hB hbr hs0 hs1
     go_upto_region 5 with (fail)
     refine aP trivial (none) (0) (gp.none) [.eq (.slice (some ⟨ba,oa,none⟩) p.length cp),.eq (.int .i64 k),.eq (.pointer (some ⟨ba,oa+k*8,none⟩)),.eq (.pointer (some ⟨ba,oa+k*8,none⟩)),.eq (.agg (bR s.1).toArray),.box 36 W2.heap.size [.int .i64 0,.int .i64 0,.int .i64 0,.int .i64 0]] [22,23,24,25,26,7] rfl rfl rfl rfl ⟨?_,?_,?_,?_,?_,?_,trivial⟩ ?_
     ·exact fun _ _ a _ _ _=>xM rfl (a 0 rfl)
     ·exact fun _ _ a _ _ _=>xM rfl (a 6 rfl)
     ·exact fun _ _ _ _ _ e=>pI rfl Tryz.underlying27 ba oa k (hkl) (e.1 rfl) (e.2.1 rfl)
     ·exact fun _ _ _ _ _ e=>ae rfl (yQ rfl (e.1 rfl))
     ·intro A w1 hA hL hS he;have hb:=hL.below;have hbw:Below w.heap.size w w1:=hbr2.trans (hb.mono hbr2.size);exact pL rfl (fA (hCa.on hbw)) Tryz.underlying36 (show (bR s.1).length=4 from rfl) (he.1 rfl)
     ·intro A w1 hA hL hS he;refine ae rfl ?_;refine uk rfl rfl ((gp.none).lr hL) hL.1.size (by generalize A.eval=ev at *;go_simp) (fun _ _ h=>h)
     ·intro W3 hL3;have hb3:=hL3.below;simp only [aU,af.eq,af.box,af.of,lZ];rintro v7 ⟨x,-,hBx,rfl,B7⟩;go_frame;have hown3:=hown2.on hb3;have BB3:=BB2.on hb3;have hbr3:=hbr2.trans (hb3.mono hbr2.size);have hxw:w.heap.size<x:=by have:=BB2.lt;omega
      clear hL3 hb3 hown2 BB2
      go_upto_region 6 with (refine aA rfl _ (.tmp 7) (.tmp 26) rfl _ _ _ _ rfl rfl B7 rfl (by kernel_rfl) (Qn _) ?_;intro W4 R4 gr4)
      have hl4:Lr (some x) 36 W3 W4:=⟨gr4,fun k hk=>by cases hk;exact⟨B7.noOther,R4.noOther⟩⟩
      have hxo:u5.ownBlock≠some x:=by
       intro h;have h1:=(hown3.okr x h).2;exact absurd (h1 _ _ _ B7) (by decide)
      have hown4:=hown3.lr hl4 (bu (by decide)) (.inr hxo);have BB4:=BB3.lr hl4 (by simp;omega);have hbr4:=hbr3.trans (hl4.belowAt hbr3.size (fun k hk=>by cases hk;omega));have hst:Hid (Blk W4 x 36 (bR (uJ s.1 m.1 0))):=zH (by simpa [uJ] using R4);clear hl4 gr4 B7 hown3 BB3 hbr3 R4 hBx;go_wp2
      go_loopw [8] (fun i wr=>∃ j:Nat,j<=4/\i=.int .i64 j/\Hid (Blk wr x 36 (bR (uJ s.1 m.1 j)))/\Hid (Blk wr w.heap.size aN (bR m.1++r))/\Hid (cK (w.heap.size+1) wr u5 ((p.take k).map fun s=>mulT s m))/\Below w.heap.size w wr) (fun i _=>4-(intOf i).toNat)
      case atStart=>exact⟨0,by omega,rfl,hst,zH BB4,zH hown4,hbr4⟩
      case round =>
       clear hst BB4 hown4 hbr4 hbr2;obtain⟨j,hj,rfl,hX,hB,hown,hbr⟩:=hrel;have BX:=hX.out;have BB:=hB.out;have hino:=hin.out s (List.mem_of_getElem? hjq);by_cases hj4:j<4
       ·have hj4':(j:Int)<4:=by omega
        have hat:=Mf (uJ s.1 m.1 j) j hj4;rw [NY _ _ _ hj4] at hat;have hset:=Qo (uJ s.1 m.1 j) j hj4 (s.1.get j+m.1.get j);have hwr:IntKind.i64.wrap (s.1.get j+m.1.get j)=s.1.get j+m.1.get j:=mJ (by rw [<- XM _ _ j hj4];exact Ex.get_bounds hino hj4);have hmat:=sQ m.1 j hj4 r;have f1:∀ W',Below wr.heap.size wr W'->W'.cell? ⟨x,j,none⟩=some (.int .i64 (s.1.get j)):=fun W' h=>(BX.on h).at1 j _ hat;have f2:∀ W',Below wr.heap.size wr W'->W'.cell? ⟨w.heap.size,j,none⟩=some (.int .i64 (m.1.get j)):=fun W' h=>(BB.on h).at1 j _ hmat;have hsucc:uJ s.1 m.1 (j+1)=Ex.put (uJ s.1 m.1 j) j (s.1.get j+m.1.get j):=rfl;generalize s.1.get j=a at *;generalize m.1.get j=b at *;replace hsucc:=zH hsucc;clear hmat hino
        go_upto_region 9 with (fail)
        refine aF mixed (none) (0) (gp.none) [.eq (.int .i64 j),.eq (.pointer (some ⟨x,j,none⟩)),.eq (.int .i64 a),.eq (.int .i64 j),.eq (.pointer (some ⟨w.heap.size,0,none⟩)),.eq (.pointer (some ⟨w.heap.size,j,none⟩)),.eq (.int .i64 b),.eq (.int .i64 (a+b)),.eq (.pointer (some ⟨x,j,none⟩))] [31,32,33,34,35,36,37,38,39] rfl rfl rfl rfl ⟨?_,?_,?_,?_,?_,?_,?_,?_,?_,trivial⟩ ?_
        ·exact fun _ _ a _ _ _=>xM rfl (a 8 rfl)
        ·intro A w1 hA hL hS he;have h7:A.eval (.tmp 7)=.pointer (some ⟨x,0,none⟩):=hA 7 rfl;have h31:=eT 31 (he.1 rfl);exact pZ rfl
        ·intro A w1 hA hL hS he;have h32:=eT 32 (he.1 rfl);refine ae rfl ?_;have c0:=f1 w1 hL.below;exact aC rfl rfl gZ
        ·exact fun _ _ a _ _ _=>xM rfl (a 8 rfl)
        ·exact fun _ _ a _ _ _=>ae rfl (yQ rfl (a 3 rfl))
        ·intro A w1 hA hL hS he;have h35:=eT 35 (he.1 rfl);have h34:=eT 34 (he.2.1 rfl);exact pZ rfl
        ·intro A w1 hA hL hS he;have h36:=eT 36 (he.1 rfl);refine ae rfl ?_;have c0:=f2 w1 hL.below;exact aC rfl rfl gZ
        ·intro A w1 hA hL hS he;have h33:=eT 33 (he.1 rfl);have h37:=eT 37 (he.2.1 rfl);exact pZ rfl
        ·intro A w1 hA hL hS he;have h7:A.eval (.tmp 7)=.pointer (some ⟨x,0,none⟩):=hA 7 rfl;have h31:=eT 31 (he.1 rfl);exact pZ rfl
        ·intro W2 hL2;have hb2:=hL2.below;simp only [aU,af.eq,lZ];go_frame;have B2:=BX.on hb2;have z:=B2.at1 j _ hat;have hf:=B2.frozen j;have hown2:=hown.out.on hb2;have BB2:=BB.on hb2;have hbr2:=hbr.trans (hb2.mono hbr.size);have hl3:=aY (j:=j) B2 (.int .i64 (a+b));have B3:=B2.set j (.int .i64 (a+b));rw [hset] at B3;clear f1 f2 hL2;go_wp2;go_roundw
         case rel=>exact⟨j+1,by omega,by go_num,zH (by rw [hsucc.out];exact B3),zH (BB2.lr hl3 (by simp;omega)),zH (hown2.lr hl3 (bu (by decide)) (.inr hxo)),hbr2.trans (hl3.belowAt hbr2.size (fun k hk=>by cases hk;omega))⟩
         case measure=>simp [intOf];omega
       ·obtain rfl:j=4:=by omega
        rw [J9] at BX;have hks:Rs s.2:=rp.out s (List.mem_of_getElem? hjq);have hsn:=zH (Bl (fun s=>mulT s m) hjq);have hlt:((p.take k).map fun s=>mulT s m).length<=100000000:=by simp;omega
        replace hown:=hown.out;have hbase:∀ k,u5.ownBlock=some k->w.heap.size<=k:=fun k hk=>by have:=(hown.base_le k hk).1;omega
        have hneb:some w.heap.size≠u5.ownBlock:=fun h=>by have:=(hown.base_le _ h.symm).1;omega
        have hnex:some x≠u5.ownBlock:=fun h=>hxo h.symm;obtain⟨E,hE⟩:∃ E,E=s.1.add m.1:=⟨_,rfl⟩;have hmt:mulT s m=(E,s.2*m.2):=by rw [hE];rfl
        rw [<- hE] at BX;replace hmt:=zH hmt;clear hE hino
        go_upto_region 10 with (fail)
        refine aF mixed (u5.ownBlock) (aN) (hown.okr) [.eq (u5),.eq (.agg (bR E).toArray),.eq (.slice (some ⟨ba,oa,none⟩) p.length cp),.eq (.int .i64 k),.eq (.pointer (some ⟨ba,oa+k*8,none⟩)),.eq (.pointer (some ⟨ba,oa+k*8+4,none⟩)),.eq (.agg (ra).toArray),.eq (.pointer (some ⟨w.heap.size,0+4,none⟩)),.eq (.agg (r).toArray),.rat (by decide) ((s.2*m.2)),.term (by decide) ((E),(s.2*m.2)),.new1 aO fw ((E,s.2*m.2)),.row aO (w.heap.size+1) wr.heap.size (((p.take k).map fun s=>mulT s m)++[(E,s.2*m.2)])] [40,41,42,43,44,45,46,47,48,49,50,51,52] rfl rfl rfl rfl ⟨?_,?_,?_,?_,?_,?_,?_,?_,?_,?_,?_,?_,?_,trivial⟩ ?_
        ·exact fun _ _ a _ _ _=>xM rfl (a 5 rfl)
        ·exact fun _ _ a hL _ _=>pL rfl ((BX.lr hL hnex).cells.range) Tryz.underlying36 (show (bR E).length=4 from rfl) (a 7 rfl)
        ·exact fun _ _ a _ _ _=>xM rfl (a 0 rfl)
        ·exact fun _ _ a _ _ _=>xM rfl (a 6 rfl)
        ·exact fun _ _ _ _ _ e=>pI rfl Tryz.underlying27 ba oa k (hkl) (e.1 rfl) (e.2.1 rfl)
        ·exact fun _ _ _ _ _ e=>ae rfl (Fe rfl (e.1 rfl))
        ·intro A w1 hA hL hS he;have hbw:Below w.heap.size w w1:=hbr.trans (hL.belowAt hbr.size hbase);exact pL rfl (gY (hCa.on hbw)) Tryz.underlying41 (hla) (he.1 rfl)
        ·exact fun _ _ a _ _ _=>ae rfl (Fe rfl (a 3 rfl))
        ·exact fun _ _ _ hL _ e=>pL rfl (ul (BB.lr hL hneb)) Tryz.underlying41 (h4) (e.1 rfl)
        ·intro A w1 hA hL hS he;have hb:=hS rfl;have hbw:Below w.heap.size w w1:=hbr.trans (hL.belowAt hbr.size hbase);have h46:=eT 46 (he.1 rfl);have h48:=eT 48 (he.2.1 rfl);have hf0:=eF A 75;exact cP (f:=75) (args:=#[.agg (ra).toArray,.agg (r).toArray]) (PS _ _ _ _ _ (hra.on hbw).rat (hr.on hbw).rat hks rm)
        ·intro A w1 hA hL hS he;have h41:=eT 41 (he.1 rfl);obtain⟨v49,h49,f49⟩:=fT 49 (he.2.1 rfl);refine ae rfl ?_;obtain⟨n_,a_,k_,c_,n',a',k',c',rfl⟩:=fQ f49;exact iW (c:=.agg (_++[.bool n_,.slice a_ k_ c_,.bool n',.slice a' k' c']).toArray) rfl rfl (Below.refl _ _) ⟨_,rfl,⟨_,rfl,f49.cellsC⟩⟩ (nI rfl (by simp only [List.map_toArray,List.map_cons,List.map_nil,h41,h49];exact sV _ _ _ rfl))
        ·intro A w1 hA hL hS he;obtain⟨v50,h50,f50⟩:=fT 50 (he.1 rfl);refine ae rfl ?_;obtain⟨c50,rfl,e50⟩:=f50;refine fo rfl rfl ((hown.okr).lr hL) (e:=aO) (t:=(E,s.2*m.2)) e50 (bC rfl ?_) (fun _ _ h=>h);simp only [List.map_toArray,List.map_cons,List.map_nil,h50];exact bN _ _ (aO.len e50)
        ·intro A w1 hA hL hS he;have hb:=hS rfl;have h40:=eT 40 (he.1 rfl);obtain⟨v51,h51,f51⟩:=fT 51 (he.2.1 rfl);exact ae rfl (dO rfl rfl rfl Tryz.underlying27 bK h40 h51 (hown.on hb) rfl rfl (dV f51) (by simp only [List.length_cons,List.length_nil];omega) ((BB.lr hL hneb).lt) hL.1.size (fun _ _ h1 h2=>⟨h1,h2⟩))
        ·intro W5 hL5;simp only [aU,af.eq,af.rat,af.term,af.new1,af.row,af.asPure,af.of,af.fragile,lZ];rintro v49 - v50 - v51 - v52 ⟨hown5,hnew⟩;go_frame;have hbW5:=hbr.trans (hL5.belowAt hbr.size hbase);have BB5:=BB.lr hL5 hneb;go_wp2;go_roundw
         case measure=>simp [intOf];omega
         case rel=>exact⟨k+1,by go_num,by omega,zH (fun h=>absurd h hz),zH (by rw [hsn.out,hmt.out];exact hown5),zH BB5,hbW5⟩
  ·obtain rfl:k=p.length:=by omega
   rw [List.take_of_length_le (Nat.le_refl _)] at hown;go_wp2;go_ret;refine⟨_,rfl,?_,hbr⟩;rw [hR.out,kK];split
   ·rename_i h;have h1:=hz0.out h;have h2:p=[]:=List.eq_nil_of_length_eq_zero h1;subst h2;exact hown.out.isSl
   ·exact hown.out.isSl
end Go.Proofs.YtopclbeomcggiaaGreat
end
section
namespace Q
def Xu:List ai->List ai->Bool
 | _,[]=>true
 | [],_::_=>false
 | s::_,t::_=>s.1.gt t.1
def XN:List ai->List ai->Bool
 | [],_=>true
 | _::_,[]=>false
 | s::_,t::_=>t.1.gt s.1
theorem Qp {P Q:List ai} (h:Xu P Q=true) (hne:P≠[]\/Q≠[]):∃ s P2,P=s::P2/\dD P Q=s::dD P2 Q:=by
 cases Q with
 | nil=>cases P with
  | nil=>simp at hne
  | cons s P2=>exact⟨s,P2,rfl,by rw [Q.mergeP_nil,Q.mergeP_nil]⟩
 | cons t Q2=>cases P with
  | nil=>cases h
  | cons s P2=>exact⟨s,P2,rfl,Go.Proofs.YtopclbeomcggiaaGreat.mergeP_gt h⟩
theorem NZ {P Q:List ai} (h:Xu P Q=false):∃ t Q2,Q=t::Q2:=by
 cases Q with
 | nil=>cases P <;> cases h
 | cons t Q2=>exact⟨t,Q2,rfl⟩
theorem Qq {P Q2:List ai} {t:ai} (h:XN P (t::Q2)=true):dD P (t::Q2)=t::dD P Q2:=by
 cases P with
 | nil=>rw [mQ,mQ]
 | cons s P2=>exact Go.Proofs.YtopclbeomcggiaaGreat.mergeP_lt h
theorem N7 {P Q2:List ai} {t:ai} (h1:Xu P (t::Q2)=false) (h:XN P (t::Q2)=false):∃ s P2,P=s::P2/\s.1=t.1/\dD P (t::Q2)=if s.2+t.2=0 then dD P2 Q2 else (s.1,s.2+t.2)::dD P2 Q2:=by
 cases P with
 | nil=>cases h
 | cons s P2 =>
  have he:s.1=t.1:=by
   rcases Classical.em (s.1=t.1) with e|e
   ·exact e
   ·have:=Ex.gt_total (show s.1.gt t.1=false from h1) e;rw [show t.1.gt s.1=false from h] at this;cases this
  exact⟨s,P2,rfl,he,Go.Proofs.YtopclbeomcggiaaGreat.mergeP_eq' he⟩
end Q
namespace Go.Proofs.YtopclbeomcggiaaGreat
open Go.RowKit Q Go.WideMaps Go.Maps
theorem Qs (vp vq:Value) (p q:List ai) (w:World) (hp:ak w vp p) (hq:ak w vq q) (rp:∀ t∈p,Rs t.2) (rq:∀ t∈q,Rs t.2) (lp:p.length<=100000000) (lq:q.length<=100000000) :
  Calls Tryz.prog 39 #[vp,vq] w (xV w (dD p q)):=by
 obtain⟨ap,cp,rfl,hcp⟩:=hp.shape;obtain⟨aq,cq,rfl,hcq⟩:=hq.shape;replace rp:=zH rp;replace rq:=zH rq;obtain⟨R,hR⟩:∃ R,R=dD p q:=⟨_,rfl⟩;rw [<- hR];replace hR:=zH hR
 go_enter Tryz.func39,Tryz.ntmps39
 go_wp2;have hown0:=fV aO w;have hb0:Below w.heap.size w (w.alloc (.cells #[] aN)):=(Below.refl _ _).alloc (Nat.le_refl _) _;change cK w.heap.size (w.alloc (.cells #[] 43)) _ _ at hown0;change Below w.heap.size w (w.alloc (.cells #[] 43)) at hb0;replace hp:=zH hp;replace hq:=zH hq
 go_loopw [5,6,7] (fun o vi vj wr=>∃ (i j:Nat) (M:List ai),vi=.int .i64 i/\vj=.int .i64 j/\i<=p.length/\j<=q.length/\Hid (cK w.heap.size wr o M)/\Hid (R=M++dD (p.drop i) (q.drop j))/\M.length<=i+j/\Below w.heap.size w wr) (fun _ vi vj _=>p.length+q.length-((intOf vi).toNat+(intOf vj).toNat))
 case atStart=>exact⟨0,0,[],rfl,rfl,by omega,by omega,zH hown0,zH (by simpa using hR.out),by simp,hb0⟩
 case round =>
  clear hown0 hb0;obtain⟨i,j,M,rfl,rfl,hi,hj,hown,hR,hM,hbr⟩:=hrel;by_cases hd:i<p.length\/j<q.length
  ·have hnd:p.drop i≠[]\/q.drop j≠[]:=by
    rcases hd with h|h
    ·left;intro e;have:=congrArg List.length e;simp at this;omega
    ·right;intro e;have:=congrArg List.length e;simp at this;omega
   have hd1:¬ i<p.length->j<q.length:=fun h=>by omega
   replace hnd:=zH hnd;clear hd
   go_upto_region 2 with (fail)
   go_cut [10,11,12,13,14,15,16,17,18,19] (fun _ _ _ _ _ _ _ _ _ v19 wc=>v19=.bool true/\wr=wc)
   case first =>
    by_cases hil:i<p.length
    ·have g1:(i:Int)<(p.length:Int):=by omega
     go_wp2;go_meet
     case rel=>exact⟨rfl,rfl⟩
    ·have g1:¬ (i:Int)<(p.length:Int):=by omega
     have g2:(j:Int)<(q.length:Int):=by have:=hd1 hil;omega
     go_wp2;go_meet
     case rel=>exact⟨rfl,rfl⟩
   case rest =>
   obtain⟨rfl,rfl⟩:=hcut
   go_upto_region 3 with (fail)
   obtain⟨g1,hg1⟩:∃ g,g=Xu (p.drop i) (q.drop j):=⟨_,rfl⟩;replace hg1:=zH hg1
   go_cut [20,21,22,23,24,25,26,27,28,29,30,31,32,33,34,35,36,37,38,39,40,41,42] (fun _ _ _ _ _ _ _ _ _ _ _ _ _ _ _ _ _ _ _ _ _ _ v42 wc=>v42=.bool g1/\Below wr.heap.size wr wc)
   case first =>
    clear hown hR;by_cases hjl:j<q.length
    ·have e1:((j:Int) == (q.length:Int))=false:=by simp;omega
     have e2:¬ (j:Int)=(q.length:Int):=by omega
     by_cases hil:i<p.length
     ·have e3:(i:Int)<(p.length:Int):=by omega
      have hpi:p[i]?=some p[i]:=List.getElem?_eq_getElem hil;have hqj:q[j]?=some q[j]:=List.getElem?_eq_getElem hjl;have hg:g1=p[i].1.gt q[j].1:=by rw [hg1.out,List.drop_eq_getElem_cons hil,List.drop_eq_getElem_cons hjl];rfl
      generalize p[i]=s at hpi hg;generalize q[j]=t at hqj hg;obtain⟨ba,oa,ra,rfl,hra,hCa⟩:=iO hp.out hpi;obtain⟨bq,oq,rb,rfl,hrb,hCb⟩:=iO hq.out hqj;refine aF mixed (none) (0) (gp.none) [.eq (.int .i64 j),.eq (.slice (some ⟨bq,oq,none⟩) q.length cq),.eq (.int .i64 q.length),.eq (.bool false),.eq (.bool false),.eq (.int .i64 i),.eq (.slice (some ⟨ba,oa,none⟩) p.length cp),.eq (.int .i64 p.length),.eq (.bool true),.eq (.bool true),.eq (.slice (some ⟨ba,oa,none⟩) p.length cp),.eq (.int .i64 i),.eq (.pointer (some ⟨ba,oa+i*8,none⟩)),.eq (.pointer (some ⟨ba,oa+i*8,none⟩)),.eq (.agg (bR s.1).toArray),.eq (.slice (some ⟨bq,oq,none⟩) q.length cq),.eq (.int .i64 j),.eq (.pointer (some ⟨bq,oq+j*8,none⟩)),.eq (.pointer (some ⟨bq,oq+j*8,none⟩)),.eq (.agg (bR t.1).toArray),.ret (.bool (s.1.gt t.1)),.eq (.bool (s.1.gt t.1)),.eq (.bool (s.1.gt t.1))] [20,21,22,23,24,25,26,27,28,29,30,31,32,33,34,35,36,37,38,39,40,41,42] rfl rfl rfl rfl ⟨?_,?_,?_,?_,?_,?_,?_,?_,?_,?_,?_,?_,?_,?_,?_,?_,?_,?_,?_,?_,?_,?_,?_,trivial⟩ ?_
      ·exact fun _ _ a _ _ _=>xM rfl (a 7 rfl)
      ·exact fun _ _ a _ _ _=>xM rfl (a 1 rfl)
      ·intro A w1 hA hL hS he;have h21:=eT 21 (he.1 rfl);exact pZ rfl
      ·intro A w1 hA hL hS he;have h20:=eT 20 (he.1 rfl);have h22:=eT 22 (he.2.1 rfl);exact pZ rfl
      ·exact fun _ _ _ _ _ e=>xM rfl (e.1 rfl)
      ·exact fun _ _ a _ _ e=>yM (e.1 rfl) rfl (a 6 rfl)
      ·exact fun _ _ a _ _ e=>yM (e.1 rfl) rfl (a 0 rfl)
      ·intro A w1 hA hL hS he;have h24:=eT 24 (he.2.1 rfl);have h26:=eT 26 (he.1 rfl);exact yZ h24 rfl
      ·intro A w1 hA hL hS he;have h24:=eT 24 (he.2.2.1 rfl);have h25:=eT 25 (he.1 rfl);have h27:=eT 27 (he.2.1 rfl);exact yZ h24 rfl
      ·exact fun _ _ _ _ _ e=>yM (e.2.1 rfl) rfl (e.1 rfl)
      ·exact fun _ _ a _ _ e=>yM (e.1 rfl) rfl (a 0 rfl)
      ·exact fun _ _ a _ _ e=>yM (e.1 rfl) rfl (a 6 rfl)
      ·exact fun _ _ _ _ _ e=>aJ rfl rfl (e.2.2.1 rfl) (xI rfl Tryz.underlying27 ba oa i (hil) (e.1 rfl) (e.2.1 rfl))
      ·exact fun _ _ _ _ _ e=>aJ rfl rfl (e.2.1 rfl) (yQ rfl (e.1 rfl))
      ·intro A w1 hA hL hS he;have hb:=hL.below;have hbw:Below w.heap.size w w1:=hbr.trans (hb.mono hbr.size);exact aJ rfl rfl (he.2.1 rfl) (xL rfl (fA (hCa.on hbw)) Tryz.underlying36 (show (bR s.1).length=4 from rfl) (he.1 rfl))
      ·exact fun _ _ a _ _ e=>yM (e.1 rfl) rfl (a 1 rfl)
      ·exact fun _ _ a _ _ e=>yM (e.1 rfl) rfl (a 7 rfl)
      ·exact fun _ _ _ _ _ e=>aJ rfl rfl (e.2.2.1 rfl) (xI rfl Tryz.underlying27 bq oq j (hjl) (e.1 rfl) (e.2.1 rfl))
      ·exact fun _ _ _ _ _ e=>aJ rfl rfl (e.2.1 rfl) (yQ rfl (e.1 rfl))
      ·intro A w1 hA hL hS he;have hb:=hL.below;have hbw:Below w.heap.size w w1:=hbr.trans (hb.mono hbr.size);exact aJ rfl rfl (he.2.1 rfl) (xL rfl (fA (hCb.on hbw)) Tryz.underlying36 (show (bR t.1).length=4 from rfl) (he.1 rfl))
      ·intro A w1 hA hL hS he;have hb:=hS rfl;have h29:=eT 29 (he.2.2.1 rfl);have h34:=eT 34 (he.1 rfl);have h39:=eT 39 (he.2.1 rfl);have hf0:=eF A 68;exact cY (f:=68) (args:=#[.agg (bR s.1).toArray,.agg (bR t.1).toArray]) h29 (sW s.1 t.1 _)
      ·exact fun _ _ _ _ _ e=>aJ rfl rfl (e.2.2.1 rfl) (iM rfl (e.1 rfl) rfl (e.2.1 rfl))
      ·exact fun _ _ _ _ _ e=>pK rfl (e.1 rfl) (e.2.1 rfl)
      ·intro W2 hL2;simp only [aU,af.eq,af.ret,lZ];go_frame;go_wp2;go_meet
       case rel=>exact⟨by rw [hg],hL2.below⟩
     ·have e3:¬ (i:Int)<(p.length:Int):=by omega
      have hg:g1=false:=by rw [hg1.out,List.drop_of_length_le (by omega),List.drop_eq_getElem_cons hjl];rfl
      refine aF mixed (none) (0) (gp.none) [.eq (.int .i64 j),.eq (.slice aq q.length cq),.eq (.int .i64 q.length),.eq (.bool false),.eq (.bool false),.eq (.int .i64 i),.eq (.slice ap p.length cp),.eq (.int .i64 p.length),.eq (.bool false),.eq (.bool false),.eq undef,.eq undef,.eq undef,.eq undef,.eq undef,.eq undef,.eq undef,.eq undef,.eq undef,.eq undef,.eq undef,.eq (.bool false),.eq (.bool false)] [20,21,22,23,24,25,26,27,28,29,30,31,32,33,34,35,36,37,38,39,40,41,42] rfl rfl rfl rfl ⟨?_,?_,?_,?_,?_,?_,?_,?_,?_,?_,?_,?_,?_,?_,?_,?_,?_,?_,?_,?_,?_,?_,?_,trivial⟩ ?_
      ·exact fun _ _ a _ _ _=>xM rfl (a 7 rfl)
      ·exact fun _ _ a _ _ _=>xM rfl (a 1 rfl)
      ·intro A w1 hA hL hS he;have h21:=eT 21 (he.1 rfl);exact pZ rfl
      ·intro A w1 hA hL hS he;have h20:=eT 20 (he.1 rfl);have h22:=eT 22 (he.2.1 rfl);exact pZ rfl
      ·exact fun _ _ _ _ _ e=>xM rfl (e.1 rfl)
      ·exact fun _ _ a _ _ e=>yM (e.1 rfl) rfl (a 6 rfl)
      ·exact fun _ _ a _ _ e=>yM (e.1 rfl) rfl (a 0 rfl)
      ·intro A w1 hA hL hS he;have h24:=eT 24 (he.2.1 rfl);have h26:=eT 26 (he.1 rfl);exact yZ h24 rfl
      ·intro A w1 hA hL hS he;have h24:=eT 24 (he.2.2.1 rfl);have h25:=eT 25 (he.1 rfl);have h27:=eT 27 (he.2.1 rfl);exact yZ h24 rfl
      ·exact fun _ _ _ _ _ e=>yM (e.2.1 rfl) rfl (e.1 rfl)
      ·exact fun _ _ _ _ _ e=>nO false (e.1 rfl)
      ·exact fun _ _ _ _ _ e=>nO false (e.1 rfl)
      ·exact fun _ _ _ _ _ e=>nO false (e.2.2.1 rfl)
      ·exact fun _ _ _ _ _ e=>nO false (e.2.1 rfl)
      ·exact fun _ _ _ _ _ e=>nO false (e.2.1 rfl)
      ·exact fun _ _ _ _ _ e=>nO false (e.1 rfl)
      ·exact fun _ _ _ _ _ e=>nO false (e.1 rfl)
      ·exact fun _ _ _ _ _ e=>nO false (e.2.2.1 rfl)
      ·exact fun _ _ _ _ _ e=>nO false (e.2.1 rfl)
      ·exact fun _ _ _ _ _ e=>nO false (e.2.1 rfl)
      ·exact fun _ _ _ _ _ e=>nO false (e.2.2.1 rfl)
      ·exact fun _ _ _ _ _ e=>aJ rfl rfl (e.2.2.1 rfl) (iM rfl (e.1 rfl) rfl rfl)
      ·exact fun _ _ _ _ _ e=>pK rfl (e.1 rfl) (e.2.1 rfl)
      ·intro W2 hL2;simp only [aU,af.eq,af.ret,lZ];go_frame;go_wp2;go_meet
       case rel=>exact⟨by rw [hg],hL2.below⟩
    ·have e2:(j:Int)=(q.length:Int):=by omega
     have e1:((j:Int) == (q.length:Int))=true:=by simp;omega
     have hg:g1=true:=by rw [hg1.out,List.drop_of_length_le (l:=q) (by omega)];rfl
     refine aF mixed (none) (0) (gp.none) [.eq (.int .i64 j),.eq (.slice aq q.length cq),.eq (.int .i64 q.length),.eq (.bool true),.eq (.bool true),.eq undef,.eq undef,.eq undef,.eq undef,.eq undef,.eq undef,.eq undef,.eq undef,.eq undef,.eq undef,.eq undef,.eq undef,.eq undef,.eq undef,.eq undef,.eq undef,.eq undef,.eq (.bool true)] [20,21,22,23,24,25,26,27,28,29,30,31,32,33,34,35,36,37,38,39,40,41,42] rfl rfl rfl rfl ⟨?_,?_,?_,?_,?_,?_,?_,?_,?_,?_,?_,?_,?_,?_,?_,?_,?_,?_,?_,?_,?_,?_,?_,trivial⟩ ?_
     ·exact fun _ _ a _ _ _=>xM rfl (a 7 rfl)
     ·exact fun _ _ a _ _ _=>xM rfl (a 1 rfl)
     ·intro A w1 hA hL hS he;have h21:=eT 21 (he.1 rfl);exact pZ rfl
     ·intro A w1 hA hL hS he;have h20:=eT 20 (he.1 rfl);have h22:=eT 22 (he.2.1 rfl);exact pZ rfl
     ·exact fun _ _ _ _ _ e=>xM rfl (e.1 rfl)
     ·exact fun _ _ _ _ _ e=>nO true (e.1 rfl)
     ·exact fun _ _ _ _ _ e=>nO true (e.1 rfl)
     ·exact fun _ _ _ _ _ e=>nO true (e.2.1 rfl)
     ·exact fun _ _ _ _ _ e=>nO true (e.2.2.1 rfl)
     ·exact fun _ _ _ _ _ e=>nO true (e.2.1 rfl)
     ·exact fun _ _ _ _ _ e=>gN rfl rfl (e.1 rfl) rfl
     ·exact fun _ _ _ _ _ e=>gN rfl rfl (e.1 rfl) rfl
     ·exact fun _ _ _ _ _ e=>gN rfl rfl (e.2.2.1 rfl) rfl
     ·exact fun _ _ _ _ _ e=>gN rfl rfl (e.2.1 rfl) rfl
     ·exact fun _ _ _ _ _ e=>gN rfl rfl (e.2.1 rfl) rfl
     ·exact fun _ _ _ _ _ e=>gN rfl rfl (e.1 rfl) rfl
     ·exact fun _ _ _ _ _ e=>gN rfl rfl (e.1 rfl) rfl
     ·exact fun _ _ _ _ _ e=>gN rfl rfl (e.2.2.1 rfl) rfl
     ·exact fun _ _ _ _ _ e=>gN rfl rfl (e.2.1 rfl) rfl
     ·exact fun _ _ _ _ _ e=>gN rfl rfl (e.2.1 rfl) rfl
     ·exact fun _ _ _ _ _ e=>gN rfl rfl (e.2.2.1 rfl) rfl
     ·exact fun _ _ _ _ _ e=>nO true (e.2.2.1 rfl)
     ·exact fun _ _ _ _ _ e=>ae rfl (iM rfl (e.1 rfl) rfl rfl)
     ·intro W2 hL2;simp only [aU,af.eq,af.ret,lZ];go_frame;go_wp2;go_meet
      case rel=>exact⟨by rw [hg],hL2.below⟩
   case rest =>
    obtain⟨rfl,hbc⟩:=hcut;replace hbr:=hbr.trans (hbc.mono hbr.size);replace hown:=zH (hown.out.on hbc);clear hbc hd1;cases g1
    ·obtain⟨t,Q2,hQ⟩:=NZ hg1.out.symm;obtain⟨lY,hqj,hjl⟩:=mF hQ;rw [hQ] at hg1 hR;have hjl':(j:Int)<(q.length:Int):=by omega
     obtain⟨bq,oq,rb,rfl,hrb,hCb⟩:=iO hq.out hqj;have hlb:=hrb.len;clear hnd
     go_upto_region 6 with (fail)
     obtain⟨g2,hg2⟩:∃ g,g=XN (p.drop i) (t::Q2):=⟨_,rfl⟩;replace hg2:=zH hg2;replace hQ:=zH hQ;replace lY:=zH lY
     go_cut [52,53,54,55,56,57,58,59,60,61,62,63,64,65,66,67,68] (fun _ _ _ _ _ _ _ _ _ _ _ _ _ _ _ _ v68 wd=>v68=.bool g2/\Below wc.heap.size wc wd)
     case first =>
      clear hown hR;by_cases hil:i<p.length
      ·have e1:((i:Int) == (p.length:Int))=false:=by simp;omega
       have e2:¬ (i:Int)=(p.length:Int):=by omega
       have hpi:p[i]?=some p[i]:=List.getElem?_eq_getElem hil;have hg:g2=t.1.gt p[i].1:=by rw [hg2.out,List.drop_eq_getElem_cons hil];rfl
       generalize p[i]=s at hpi hg;obtain⟨ba,oa,ra,rfl,hra,hCa⟩:=iO hp.out hpi;refine aF mixed (none) (0) (gp.none) [.eq (.int .i64 i),.eq (.slice (some ⟨ba,oa,none⟩) p.length cp),.eq (.int .i64 p.length),.eq (.bool false),.eq (.bool false),.eq (.slice (some ⟨bq,oq,none⟩) q.length cq),.eq (.int .i64 j),.eq (.pointer (some ⟨bq,oq+j*8,none⟩)),.eq (.pointer (some ⟨bq,oq+j*8,none⟩)),.eq (.agg (bR t.1).toArray),.eq (.slice (some ⟨ba,oa,none⟩) p.length cp),.eq (.int .i64 i),.eq (.pointer (some ⟨ba,oa+i*8,none⟩)),.eq (.pointer (some ⟨ba,oa+i*8,none⟩)),.eq (.agg (bR s.1).toArray),.ret (.bool (t.1.gt s.1)),.eq (.bool (t.1.gt s.1))] [52,53,54,55,56,57,58,59,60,61,62,63,64,65,66,67,68] rfl rfl rfl rfl ⟨?_,?_,?_,?_,?_,?_,?_,?_,?_,?_,?_,?_,?_,?_,?_,?_,?_,trivial⟩ ?_
       ·exact fun _ _ a _ _ _=>xM rfl (a 6 rfl)
       ·exact fun _ _ a _ _ _=>xM rfl (a 0 rfl)
       ·intro A w1 hA hL hS he;have h53:=eT 53 (he.1 rfl);exact pZ rfl
       ·intro A w1 hA hL hS he;have h52:=eT 52 (he.1 rfl);have h54:=eT 54 (he.2.1 rfl);exact pZ rfl
       ·exact fun _ _ _ _ _ e=>xM rfl (e.1 rfl)
       ·exact fun _ _ a _ _ e=>yM (e.1 rfl) rfl (a 1 rfl)
       ·exact fun _ _ a _ _ e=>yM (e.1 rfl) rfl (a 7 rfl)
       ·exact fun _ _ _ _ _ e=>aJ rfl rfl (e.2.2.1 rfl) (xI rfl Tryz.underlying27 bq oq j (hjl) (e.1 rfl) (e.2.1 rfl))
       ·exact fun _ _ _ _ _ e=>aJ rfl rfl (e.2.1 rfl) (yQ rfl (e.1 rfl))
       ·intro A w1 hA hL hS he;have hb:=hL.below;have hbw:Below w.heap.size w w1:=hbr.trans (hb.mono hbr.size);exact aJ rfl rfl (he.2.1 rfl) (xL rfl (fA (hCb.on hbw)) Tryz.underlying36 (show (bR t.1).length=4 from rfl) (he.1 rfl))
       ·exact fun _ _ a _ _ e=>yM (e.1 rfl) rfl (a 0 rfl)
       ·exact fun _ _ a _ _ e=>yM (e.1 rfl) rfl (a 6 rfl)
       ·exact fun _ _ _ _ _ e=>aJ rfl rfl (e.2.2.1 rfl) (xI rfl Tryz.underlying27 ba oa i (hil) (e.1 rfl) (e.2.1 rfl))
       ·exact fun _ _ _ _ _ e=>aJ rfl rfl (e.2.1 rfl) (yQ rfl (e.1 rfl))
       ·intro A w1 hA hL hS he;have hb:=hL.below;have hbw:Below w.heap.size w w1:=hbr.trans (hb.mono hbr.size);exact aJ rfl rfl (he.2.1 rfl) (xL rfl (fA (hCa.on hbw)) Tryz.underlying36 (show (bR s.1).length=4 from rfl) (he.1 rfl))
       ·intro A w1 hA hL hS he;have hb:=hS rfl;have h56:=eT 56 (he.2.2.1 rfl);have h61:=eT 61 (he.1 rfl);have h66:=eT 66 (he.2.1 rfl);have hf0:=eF A 68;exact cY (f:=68) (args:=#[.agg (bR t.1).toArray,.agg (bR s.1).toArray]) h56 (sW t.1 s.1 _)
       ·exact fun _ _ _ _ _ e=>pK rfl (e.1 rfl) (e.2.1 rfl)
       ·intro W2 hL2;simp only [aU,af.eq,af.ret,lZ];go_frame;go_wp2;go_meet
        case rel=>exact⟨by rw [hg],hL2.below⟩
      ·have e2:(i:Int)=(p.length:Int):=by omega
       have e1:((i:Int) == (p.length:Int))=true:=by simp;omega
       have hg:g2=true:=by rw [hg2.out,List.drop_of_length_le (l:=p) (by omega)];rfl
       refine aF mixed (none) (0) (gp.none) [.eq (.int .i64 i),.eq (.slice ap p.length cp),.eq (.int .i64 p.length),.eq (.bool true),.eq (.bool true),.eq undef,.eq undef,.eq undef,.eq undef,.eq undef,.eq undef,.eq undef,.eq undef,.eq undef,.eq undef,.eq undef,.eq (.bool true)] [52,53,54,55,56,57,58,59,60,61,62,63,64,65,66,67,68] rfl rfl rfl rfl ⟨?_,?_,?_,?_,?_,?_,?_,?_,?_,?_,?_,?_,?_,?_,?_,?_,?_,trivial⟩ ?_
       ·exact fun _ _ a _ _ _=>xM rfl (a 6 rfl)
       ·exact fun _ _ a _ _ _=>xM rfl (a 0 rfl)
       ·intro A w1 hA hL hS he;have h53:=eT 53 (he.1 rfl);exact pZ rfl
       ·intro A w1 hA hL hS he;have h52:=eT 52 (he.1 rfl);have h54:=eT 54 (he.2.1 rfl);exact pZ rfl
       ·exact fun _ _ _ _ _ e=>xM rfl (e.1 rfl)
       ·exact fun _ _ _ _ _ e=>nO true (e.1 rfl)
       ·exact fun _ _ _ _ _ e=>nO true (e.1 rfl)
       ·exact fun _ _ _ _ _ e=>nO true (e.2.2.1 rfl)
       ·exact fun _ _ _ _ _ e=>nO true (e.2.1 rfl)
       ·exact fun _ _ _ _ _ e=>nO true (e.2.1 rfl)
       ·exact fun _ _ _ _ _ e=>nO true (e.1 rfl)
       ·exact fun _ _ _ _ _ e=>nO true (e.1 rfl)
       ·exact fun _ _ _ _ _ e=>nO true (e.2.2.1 rfl)
       ·exact fun _ _ _ _ _ e=>nO true (e.2.1 rfl)
       ·exact fun _ _ _ _ _ e=>nO true (e.2.1 rfl)
       ·exact fun _ _ _ _ _ e=>nO true (e.2.2.1 rfl)
       ·exact fun _ _ _ _ _ e=>ae rfl (iM rfl (e.1 rfl) rfl rfl)
       ·intro W2 hL2;simp only [aU,af.eq,af.ret,lZ];go_frame;go_wp2;go_meet
        case rel=>exact⟨by rw [hg],hL2.below⟩
     case rest =>
      obtain⟨rfl,hbc⟩:=hcut;replace hbr:=hbr.trans (hbc.mono hbr.size);have hown:=hown.out.on hbc;clear hbc;have hbase:∀ k,u5.ownBlock=some k->w.heap.size<=k:=fun k hk=>(hown.base_le k hk).1;cases g2
      ·obtain⟨s,P2,hP,hst,hmg⟩:=N7 hg1.out.symm hg2.out.symm;obtain⟨hp1,hpi,hil⟩:=mF hP;obtain⟨ba,oa,ra,rfl,hra,hCa⟩:=iO hp.out hpi;have hla:=hra.len;have hks:Rs s.2:=rp.out s (List.mem_of_getElem? hpi);have hkt:Rs t.2:=rq.out t (List.mem_of_getElem? hqj);rw [hmg] at hR;have hil':(i:Int)<(p.length:Int):=by omega
       clear hmg hg1 hg2;replace hp1:=zH hp1;replace hP:=zH hP;replace hst:=zH hst
       go_upto_region 9 with (fail)
       refine aF mixed (none) (0) (gp.none) [.eq (.slice (some ⟨ba,oa,none⟩) p.length cp),.eq (.int .i64 i),.eq (.pointer (some ⟨ba,oa+i*8,none⟩)),.eq (.pointer (some ⟨ba,oa+i*8+4,none⟩)),.eq (.agg (ra).toArray),.eq (.slice (some ⟨bq,oq,none⟩) q.length cq),.eq (.int .i64 j),.eq (.pointer (some ⟨bq,oq+j*8,none⟩)),.eq (.pointer (some ⟨bq,oq+j*8+4,none⟩)),.eq (.agg (rb).toArray),.rat (by decide) ((s.2+t.2)),.box 41 wc.heap.size [.bool false,.slice none 0 0,.bool false,.slice none 0 0]] [78,79,80,81,82,83,84,85,86,87,88,8] rfl rfl rfl rfl ⟨?_,?_,?_,?_,?_,?_,?_,?_,?_,?_,?_,?_,trivial⟩ ?_
       ·exact fun _ _ a _ _ _=>xM rfl (a 0 rfl)
       ·exact fun _ _ a _ _ _=>xM rfl (a 6 rfl)
       ·exact fun _ _ _ _ _ e=>pI rfl Tryz.underlying27 ba oa i (hil) (e.1 rfl) (e.2.1 rfl)
       ·exact fun _ _ _ _ _ e=>ae rfl (Fe rfl (e.1 rfl))
       ·intro A w1 hA hL hS he;have hb:=hL.below;have hbw:Below w.heap.size w w1:=hbr.trans (hb.mono hbr.size);exact pL rfl (gY (hCa.on hbw)) Tryz.underlying41 (hla) (he.1 rfl)
       ·exact fun _ _ a _ _ _=>xM rfl (a 1 rfl)
       ·exact fun _ _ a _ _ _=>xM rfl (a 7 rfl)
       ·exact fun _ _ _ _ _ e=>pI rfl Tryz.underlying27 bq oq j (hjl) (e.1 rfl) (e.2.1 rfl)
       ·exact fun _ _ _ _ _ e=>ae rfl (Fe rfl (e.1 rfl))
       ·intro A w1 hA hL hS he;have hb:=hL.below;have hbw:Below w.heap.size w w1:=hbr.trans (hb.mono hbr.size);exact pL rfl (gY (hCb.on hbw)) Tryz.underlying41 (hlb) (he.1 rfl)
       ·intro A w1 hA hL hS he;have hb:=hS rfl;have hbw:Below w.heap.size w w1:=hbr.trans (hb.mono hbr.size);have h82:=eT 82 (he.1 rfl);have h87:=eT 87 (he.2.1 rfl);have hf0:=eF A 81;exact cP (f:=81) (args:=#[.agg (ra).toArray,.agg (rb).toArray]) (Hu _ _ _ _ _ (hra.on hbw).rat (hrb.on hbw).rat hks hkt)
       ·intro A w1 hA hL hS he;refine ae rfl ?_;refine uk rfl rfl ((gp.none).lr hL) hL.1.size (by generalize A.eval=ev at *;go_simp) (fun _ _ h=>h)
       ·intro W2 hL2;have hbW2:=hbr.trans (hL2.below.mono hbr.size);simp only [aU,af.eq,af.rat,af.box,af.of,lZ];rintro v88 h88 v8 ⟨x,-,hBx,rfl,B8⟩;obtain⟨n5,a5,k5,c5,n6,a6,k6,c6,rfl⟩:=fQ h88;go_frame;have hown2:=hown.on hL2.below;have hxw:w.heap.size<=x:=by have:=hbr.size;omega
        clear hL2
        go_upto_region 10 with (refine aA rfl _ (.tmp 8) (.tmp 88) rfl _ _ _ _ rfl rfl B8 rfl dL dQ ?_;intro W3 R3 gr3)
        have hl3:Lr (some x) 41 W2 W3:=⟨gr3,fun k hk=>by cases hk;exact⟨B8.noOther,R3.noOther⟩⟩
        have hxo:u5.ownBlock≠some x:=by
         intro h;have h1:=(hown2.okr x h).2;exact absurd (h1 _ _ _ B8) (by decide)
        have hown3:=hown2.lr hl3 (bu (by decide)) (.inr hxo);have h88':=h88.lr hl3 (by decide);have hbW3:=hbW2.trans (hl3.belowAt hbW2.size (fun k hk=>by cases hk;exact hxw));have hsgn:=fun W hb=>xW _ _ W (h88'.on (w':=W) hb);have y1:=R3.at1 0 _ rfl;have y2:=R3.at1 1 _ rfl;have y3:=R3.at1 2 _ rfl;have y4:=R3.at1 3 _ rfl;clear hl3 gr3 B8 hown2 hbW2;by_cases hz:s.2+t.2=0
        ·have hs0:iV (s.2+t.2).num=0:=by rw [hz];rfl
         rw [if_pos hz] at hR;rw [hs0] at hsgn
         go_wp2_with (go_at_call 67;refine (hsgn _ (Below.refl _ _)).mono ?_;rintro en W4 ⟨rfl,hb4⟩)
         have hown4:=hown3.on hb4;have hbW4:=hbW3.trans (hb4.mono hbW3.size);go_roundw
         case measure=>simp [intOf];omega
         case rel=>exact⟨i+1,j+1,M,by go_num,by go_num,by omega,by omega,zH hown4,zH (by rw [hR.out,hp1.out,lY.out]),by omega,hbW4⟩
        ·have hs0:=rD hz;rw [if_neg hz] at hR;generalize iV (s.2+t.2).num=sg at hs0 hsgn;have hs1:(sg != 0)=true:=by simpa using hs0
         go_upto_region 11 with (go_at_call 67;refine (hsgn _ (Below.refl _ _)).mono ?_;rintro en W4 ⟨rfl,hb4⟩)
         have hown4:=hown3.on hb4;have hbW4:=hbW3.trans (hb4.mono hbW3.size);have R4:=R3.on hb4;have h884:=h88'.on hb4;have hxo4:some x≠u5.ownBlock:=fun h=>hxo h.symm;obtain⟨rc,hrcE⟩:∃ rc,rc=[Value.bool n5,.slice a5 k5 c5,.bool n6,.slice a6 k6 c6]:=⟨_,rfl⟩;have hrc:rc.length=4:=by rw [hrcE];rfl
         rw [show (Value.agg #[.bool n5,.slice a5 k5 c5,.bool n6,.slice a6 k6 c6])=.agg rc.toArray by rw [hrcE]] at h884;rw [<- hrcE] at R4;clear hbW3 hown3 R3 h88 h88' hsgn y1 y2 y3 y4;refine aF mixed (u5.ownBlock) (aN) (hown4.okr) [.eq (u5),.eq (.slice (some ⟨ba,oa,none⟩) p.length cp),.eq (.int .i64 i),.eq (.pointer (some ⟨ba,oa+i*8,none⟩)),.eq (.pointer (some ⟨ba,oa+i*8,none⟩)),.eq (.agg (bR s.1).toArray),.eq (.agg (rc).toArray),.eq (.agg (bR s.1++rc).toArray),.new1 aO fw ((s.1,s.2+t.2)),.row aO (w.heap.size) W4.heap.size (M++[(s.1,s.2+t.2)])] [92,93,94,95,96,97,98,99,100,101] rfl rfl rfl rfl ⟨?_,?_,?_,?_,?_,?_,?_,?_,?_,?_,trivial⟩ ?_
         ·exact fun _ _ a _ _ _=>xM rfl (a 5 rfl)
         ·exact fun _ _ a _ _ _=>xM rfl (a 0 rfl)
         ·exact fun _ _ a _ _ _=>xM rfl (a 6 rfl)
         ·exact fun _ _ _ _ _ e=>pI rfl Tryz.underlying27 ba oa i (hil) (e.1 rfl) (e.2.1 rfl)
         ·exact fun _ _ _ _ _ e=>ae rfl (yQ rfl (e.1 rfl))
         ·intro A w1 hA hL hS he;have hbw:Below w.heap.size w w1:=hbW4.trans (hL.belowAt hbW4.size hbase);exact pL rfl (fA (hCa.on hbw)) Tryz.underlying36 (show (bR s.1).length=4 from rfl) (he.1 rfl)
         ·exact fun _ _ a hL _ _=>pL rfl ((R4.lr hL hxo4).range 0 rc (fun j v h=>by rw [Nat.zero_add];exact h)) Tryz.underlying41 (hrc) (a 8 rfl)
         ·intro A w1 hA hL hS he;have h97:=eT 97 (he.1 rfl);have h98:=eT 98 (he.2.1 rfl);exact ae rfl (aC rfl rfl (nI rfl (by simp only [List.map_toArray,List.map_cons,List.map_nil,h97,h98];exact sV _ _ _ (hrc))))
         ·intro A w1 hA hL hS he;have hb:=hS rfl;have h99:=eT 99 (he.1 rfl);refine ae rfl ?_;have hE:(aO:El _).E w1 _ ((s.1,s.2+t.2)):=⟨_,rfl,(h884.on hb).cellsC⟩;refine fo rfl rfl ((hown4.okr).lr hL) hE (bC rfl ?_) (fun _ _ h=>h);simp only [List.map_toArray,List.map_cons,List.map_nil,h99];exact bN _ _ ((aO).len hE)
         ·intro A w1 hA hL hS he;have hb:=hS rfl;have hbw:Below w.heap.size w w1:=hbW4.trans (hL.belowAt hbW4.size hbase);have h92:=eT 92 (he.1 rfl);obtain⟨v100,h100,f100⟩:=fT 100 (he.2.1 rfl);exact ae rfl (dO rfl rfl rfl Tryz.underlying27 bK h92 h100 (hown4.on hb) rfl rfl (dV f100) (by simp;omega) (hbw.size) hL.1.size (fun _ _ h1 h2=>⟨h1,h2⟩))
         ·intro W5 hL5;simp only [aU,af.eq,af.new1,af.row,af.asPure,af.of,af.fragile,lZ];rintro v100 - v101 ⟨hown5,hnew⟩;go_frame;have hbW5:=hbW4.trans (hL5.belowAt hbW4.size hbase);go_wp2;go_roundw
          case measure=>simp [intOf];omega
          case rel=>exact⟨i+1,j+1,M++[(s.1,s.2+t.2)],by go_num,by go_num,by omega,by omega,zH hown5,zH (by rw [hR.out,hp1.out,lY.out];simp),by simp;omega,hbW5⟩
      ·have hmg:=Qq hg2.out.symm;rw [hmg] at hR;clear hmg hg1 hg2;have h8:(bR t.1++rb).length=8:=by rw [List.length_append,hlb];rfl
       go_upto_region 7 with (fail)
       refine aP trivial (u5.ownBlock) (aN) (hown.okr) [.eq (u5),.eq (.slice (some ⟨bq,oq,none⟩) q.length cq),.eq (.int .i64 j),.eq (.pointer (some ⟨bq,oq+j*8,none⟩)),.eq (.agg (bR t.1++rb).toArray),.new1 aO fw (t),.row aO (w.heap.size) wc.heap.size (M++[t])] [69,70,71,72,73,74,75] rfl rfl rfl rfl ⟨?_,?_,?_,?_,?_,?_,?_,trivial⟩ ?_
       ·exact fun _ _ a _ _ _=>xM rfl (a 5 rfl)
       ·exact fun _ _ a _ _ _=>xM rfl (a 1 rfl)
       ·exact fun _ _ a _ _ _=>xM rfl (a 7 rfl)
       ·exact fun _ _ _ _ _ e=>pI rfl Tryz.underlying27 bq oq j (hjl) (e.1 rfl) (e.2.1 rfl)
       ·intro A w1 hA hL hS he;have hbw:Below w.heap.size w w1:=hbr.trans (hL.belowAt hbr.size hbase);exact pL rfl ((hCb.on hbw).range) Tryz.underlying43 (h8) (he.1 rfl)
       ·intro A w1 hA hL hS he;have hbw:Below w.heap.size w w1:=hbr.trans (hL.belowAt hbr.size hbase);have h73:=eT 73 (he.1 rfl);refine ae rfl ?_;have hE:(aO:El _).E w1 _ (t):=⟨_,rfl,hrb.on hbw⟩;refine fo rfl rfl ((hown.okr).lr hL) hE (bC rfl ?_) (fun _ _ h=>h);simp only [List.map_toArray,List.map_cons,List.map_nil,h73];exact bN _ _ ((aO).len hE)
       ·intro A w1 hA hL hS he;have hb:=hS rfl;have hbw:Below w.heap.size w w1:=hbr.trans (hL.belowAt hbr.size hbase);have h69:=eT 69 (he.1 rfl);obtain⟨v74,h74,f74⟩:=fT 74 (he.2.1 rfl);exact ae rfl (dO rfl rfl rfl Tryz.underlying27 bK h69 h74 (hown.on hb) rfl rfl (dV f74) (by simp;omega) (hbw.size) hL.1.size (fun _ _ h1 h2=>⟨h1,h2⟩))
       ·intro W5 hL5;simp only [aU,af.eq,af.new1,af.row,af.asPure,af.of,af.fragile,lZ];rintro v74 - v75 ⟨hown5,hnew⟩;go_frame;have hbW5:=hbr.trans (hL5.belowAt hbr.size hbase);go_wp2;go_roundw
        case measure=>simp [intOf];omega
        case rel=>exact⟨i,j+1,M++[t],rfl,by go_num,by omega,by omega,zH hown5,zH (by rw [hR.out,lY.out];simp),by simp;omega,hbW5⟩
    ·obtain⟨s,P2,hP,hmg⟩:=Qp hg1.out.symm hnd.out;obtain⟨hp1,hpi,hil⟩:=mF hP;obtain⟨ba,oa,ra,rfl,hra,hCa⟩:=iO hp.out hpi;have hla:=hra.len;rw [hmg] at hR;have hil':(i:Int)<(p.length:Int):=by omega
     clear hmg hg1 hnd hP;replace hp1:=zH hp1;have h8:(bR s.1++ra).length=8:=by rw [List.length_append,hla];rfl
     replace hown:=hown.out;have hbase:∀ k,u5.ownBlock=some k->w.heap.size<=k:=fun k hk=>(hown.base_le k hk).1
     go_upto_region 4 with (fail)
     refine aP trivial (u5.ownBlock) (aN) (hown.okr) [.eq (u5),.eq (.slice (some ⟨ba,oa,none⟩) p.length cp),.eq (.int .i64 i),.eq (.pointer (some ⟨ba,oa+i*8,none⟩)),.eq (.agg (bR s.1++ra).toArray),.new1 aO fw (s),.row aO (w.heap.size) wc.heap.size (M++[s])] [43,44,45,46,47,48,49] rfl rfl rfl rfl ⟨?_,?_,?_,?_,?_,?_,?_,trivial⟩ ?_
     ·exact fun _ _ a _ _ _=>xM rfl (a 5 rfl)
     ·exact fun _ _ a _ _ _=>xM rfl (a 0 rfl)
     ·exact fun _ _ a _ _ _=>xM rfl (a 6 rfl)
     ·exact fun _ _ _ _ _ e=>pI rfl Tryz.underlying27 ba oa i (hil) (e.1 rfl) (e.2.1 rfl)
     ·intro A w1 hA hL hS he;have hbw:Below w.heap.size w w1:=hbr.trans (hL.belowAt hbr.size hbase);exact pL rfl ((hCa.on hbw).range) Tryz.underlying43 (h8) (he.1 rfl)
     ·intro A w1 hA hL hS he;have hbw:Below w.heap.size w w1:=hbr.trans (hL.belowAt hbr.size hbase);have h47:=eT 47 (he.1 rfl);refine ae rfl ?_;have hE:(aO:El _).E w1 _ (s):=⟨_,rfl,hra.on hbw⟩;refine fo rfl rfl ((hown.okr).lr hL) hE (bC rfl ?_) (fun _ _ h=>h);simp only [List.map_toArray,List.map_cons,List.map_nil,h47];exact bN _ _ ((aO).len hE)
     ·intro A w1 hA hL hS he;have hb:=hS rfl;have hbw:Below w.heap.size w w1:=hbr.trans (hL.belowAt hbr.size hbase);have h43:=eT 43 (he.1 rfl);obtain⟨v48,h48,f48⟩:=fT 48 (he.2.1 rfl);exact ae rfl (dO rfl rfl rfl Tryz.underlying27 bK h43 h48 (hown.on hb) rfl rfl (dV f48) (by simp;omega) (hbw.size) hL.1.size (fun _ _ h1 h2=>⟨h1,h2⟩))
     ·intro W5 hL5;simp only [aU,af.eq,af.new1,af.row,af.asPure,af.of,af.fragile,lZ];rintro v48 - v49 ⟨hown5,hnew⟩;go_frame;have hbW5:=hbr.trans (hL5.belowAt hbr.size hbase);go_wp2;go_roundw
      case measure=>simp [intOf];omega
      case rel=>exact⟨i+1,j,M++[s],by go_num,rfl,by omega,by omega,zH hown5,zH (by rw [hR.out,hp1.out];simp),by simp;omega,hbW5⟩
  ·have hi':i=p.length:=by omega
   have hj':j=q.length:=by omega
   rw [hi',hj',List.drop_length,List.drop_length,mergeP_nil,List.append_nil] at hR;have g1:¬ (i:Int)<(p.length:Int):=by omega
   have g2:¬ (j:Int)<(q.length:Int):=by omega
   clear hi' hj';go_wp2;go_ret;exact⟨_,rfl,by rw [hR.out];exact hown.out,hbr⟩
theorem Iy (vp vq:Value) (p q:List ai) (w:World) (hp:ak w vp p) (hq:ak w vq q) (rp:∀ t∈p,Rs t.2) (rq:∀ t∈q,Rs t.2) (lp:p.length<=100000000) (lq:q.length<=100000000) :
  Calls Tryz.prog 39 #[vp,vq] w (aX w (dD p q)):=(Qs vp vq p q w hp hq rp rq lp lq).mono fun _ _ h=>h.poly
theorem Iz (vp:Value) (p:List ai) (v:Nat) (w:World) (h:ak w vp p) (hv:v<4) (hlen:p.length<=100000000):Calls Tryz.prog 27 #[vp,.int .i64 v] w (rO w (.int .i64 (aG p v))):=by
 obtain⟨ao,cap,rfl,hcap⟩:=h.shape;obtain⟨R,HR⟩:∃ R,R=aG p v:=⟨_,rfl⟩;rw [<- HR];replace HR:=zH HR;replace h:=zH h;have hv4:(v:Int)<4:=by omega
 go_enter Tryz.func27,Tryz.ntmps27
 go_wp2
 go_loopw [5,6] (fun d i wr=>∃ k:Nat,k<=p.length/\i=.int .i64 k/\d=.int .i64 (aG (p.take k) v)/\Below w.heap.size w wr) (fun _ i _=>p.length-(intOf i).toNat)
 case atStart=>exact⟨0,by omega,rfl,rfl,Below.refl _ _⟩
 case round =>
  obtain⟨k,hk,rfl,rfl,hb⟩:=hrel;by_cases hkl:k<p.length
  ·have hj:p[k]?=some p[k]:=List.getElem?_eq_getElem hkl
   have dG:aG (p.take (k+1)) v=max (aG (p.take k) v) (p[k].1.get v):=by
    unfold aG;rw [List.take_succ_eq_append_getElem hkl,List.foldl_append];rfl
   generalize p[k]=t at hj dG;obtain⟨b',off,r,rfl,-,hC⟩:=iO (h.out.on hb) hj;have hkl':(k:Int)<p.length:=by omega
   have z:wr.cell? ⟨b',off+k*8+v,none⟩=some (.int .i64 (t.1.get v)):=by
    rw [hC.cell v (by simp [bR];omega)];exact sQ t.1 v hv r
   generalize t.1.get v=x at *;generalize aG (p.take k) v=d at *;replace dG:=zH dG;clear hC
   go_wp2_with (refine aj rfl _ _ 27 rfl aN Tryz.underlying27 _ 8 96 (by kernel_rfl) _ _ _ rfl .i64 _ rfl k rfl hkl b' off rfl ?_)
   go_roundw
   case measure=>simp [intOf];omega
   case rel=>exact⟨k+1,by omega,by go_num,by rw [dG.out],hb⟩
  ·obtain rfl:k=p.length:=by omega
   rw [List.take_of_length_le (Nat.le_refl _),<- HR.out];go_wp2;go_ret;exact⟨rfl,hb⟩
theorem Kc {w:World} {r:List Value} {q:Rat} {e:Ex} (h:gM w r q):(bR e++r).toArray.all (·.oneCell')=true:=by
 rw [Array.all_eq_true_iff_forall_mem];intro v hv;rcases List.mem_append.1 (by simpa using hv) with hv|hv
 ·exact zI e v hv
 ·exact h.one v hv
theorem Ke (vp:Value) (p:List ai) (v:Nat) (n:Int) (w:World) (hp:ak w vp p) (hv:v<4) (lp:p.length<=100000000):Calls Tryz.prog 80 #[vp,.int .i64 v,.int .i64 n] w (aX w (aD p v n)):=by
 obtain⟨ap,cp,rfl,hcp⟩:=hp.shape;have hv4:(v:Int)<4:=by omega
 obtain⟨R,hR⟩:∃ R,R=aD p v n:=⟨_,rfl⟩;rw [<- hR];replace hR:=zH hR
 go_enter Tryz.func80,Tryz.ntmps80
 go_wp2;have hown0:=fV aO w;have hb0:Below w.heap.size w (w.alloc (.cells #[] aN)):=(Below.refl _ _).alloc (Nat.le_refl _) _;change cK w.heap.size (w.alloc (.cells #[] 43)) _ _ at hown0;change Below w.heap.size w (w.alloc (.cells #[] 43)) at hb0;replace hp:=zH hp
 go_loopw [7,8] (fun o i wr=>∃ k:Nat,k<=p.length/\i=.int .i64 k/\Hid (cK w.heap.size wr o (aD (p.take k) v n))/\(aD (p.take k) v n).length<=k/\Below w.heap.size w wr) (fun _ i _=>p.length-(intOf i).toNat)
 case atStart=>exact⟨0,by omega,rfl,zH hown0,by simp [aD],hb0⟩
 case round =>
  clear hown0 hb0;obtain⟨k,hk,rfl,hown,hln,hbr⟩:=hrel;by_cases hkl:k<p.length
  ·have hjq:p[k]?=some p[k]:=List.getElem?_eq_getElem hkl;generalize p[k]=t at hjq;have hsn:=yT p hjq v n;obtain⟨bp,op,rc,rfl,hrc,hC⟩:=iO (hp.out.on hbr) hjq;have hlc:=hrc.len;have h8:(bR t.1++rc).length=8:=by rw [List.length_append,hlc];rfl
   have hr:=hC.range;have hkl':(k:Int)<p.length:=by omega
   clear hC
   go_upto_region 6 with (first
    | (refine aj rfl _ _ 27 rfl aN Tryz.underlying27 _ 8 96 (by kernel_rfl) _ _ _ rfl .i64 _ rfl k rfl hkl bp op rfl ?_)
    | (refine wpList_load_mid rfl 43 _ rfl _ _ rfl _ _ hr Tryz.underlying43 rfl (by rw [h8];kernel_rfl) ?_)
    | (refine aA rfl _ (.tmp 9) (.tmp 20) rfl _ _ _ _ rfl rfl (Blk.new wr aN [.int .i64 0,.int .i64 0,.int .i64 0,.int .i64 0,.bool false,.slice none 0 0,.bool false,.slice none 0 0]) (by simp [bR,hlc]) (by simp only [List.size_toArray,h8];exact xR) (Kc hrc) ?_;intro W3 R3 gr3))
   have BB:Blk W3 wr.heap.size aN (bR t.1++rc):=by simpa using R3
   have hba:Below wr.heap.size wr (wr.alloc (.cells #[.int .i64 0,.int .i64 0,.int .i64 0,.int .i64 0,.bool false,.slice none 0 0,.bool false,.slice none 0 0] aN)):=(Below.refl _ _).alloc (Nat.le_refl _) _;have hb3:Below wr.heap.size wr W3:=hba.trans (aM gr3 (by simp) (Nat.le_refl _));have hbr3:=hbr.trans (hb3.mono hbr.size);have hown3:=hown.out.on hb3;have hrc3:=hrc.on hb3;have hwm:w.heap.size<=wr.heap.size:=hbr.size;have hom:u7.ownBlock≠some wr.heap.size:=fun h=>by have:=(hown.out.base_le _ h).2;omega
   have hbase:∀ k,u7.ownBlock=some k->w.heap.size<=k:=fun k hk=>(hown.out.base_le k hk).1;clear hr R3 gr3 hba hb3 hrc hown hbr;generalize wr.heap.size=mb at *;have hat:=sQ t.1 v hv rc;have z:=BB.at1 v _ hat;have hset:=wD t.1 v hv 0 rc;by_cases hx:t.1.get v=n
   ·have e1:(t.1.get v == n)=true:=by simpa using hx
    rw [if_pos hx] at hsn;have hf:=BB.frozen v
    go_upto_region 8 with (fail)
    have hl4:=aY (j:=v) BB (.int .i64 0);have B4:=BB.set v (.int .i64 0);rw [hset] at B4;have hown4:=hown3.lr hl4 (bu (by decide)) (.inr hom);have hrc4:=hrc3.lr hl4 (by decide);have hbr4:=hbr3.trans (hl4.belowAt hbr3.size (fun k hk=>by cases hk;exact hwm));generalize W3.setCell ⟨mb,v,none⟩ (.int .i64 0)=W4 at *;have hne:some mb≠u7.ownBlock:=fun h=>hom h.symm;obtain⟨E,hE⟩:∃ E,E=t.1.put v 0:=⟨_,rfl⟩;rw [<- hE] at B4 hsn;have h8':(bR E++rc).length=8:=by rw [List.length_append,hlc];rfl
    replace hsn:=zH hsn;clear hl4 z hf BB hown3 hrc3 hbr3 hat hset hE e1 hx;refine aP trivial (u7.ownBlock) (aN) (hown4.okr) [.eq (u7),.eq (.agg (bR E++rc).toArray),.new1 aO fw ((E,t.2)),.row aO (w.heap.size) W4.heap.size (aD (p.take k) v n++[(E,t.2)])] [30,31,32,33] rfl rfl rfl rfl ⟨?_,?_,?_,?_,trivial⟩ ?_
    ·exact fun _ _ a _ _ _=>xM rfl (a 7 rfl)
    ·exact fun _ _ a hL _ _=>pL rfl ((B4.lr hL hne).cells.range) Tryz.underlying43 (h8') (a 9 rfl)
    ·intro A w1 hA hL hS he;have h31:=eT 31 (he.1 rfl);refine ae rfl ?_;have hE:(aO:El _).E w1 _ ((E,t.2)):=⟨_,rfl,hrc4.lr hL (by decide)⟩;refine fo rfl rfl ((hown4.okr).lr hL) hE (bC rfl ?_) (fun _ _ h=>h);simp only [List.map_toArray,List.map_cons,List.map_nil,h31];exact bN _ _ ((aO).len hE)
    ·intro A w1 hA hL hS he;have hb:=hS rfl;have hbw:Below w.heap.size w w1:=hbr4.trans (hL.belowAt hbr4.size hbase);have h30:=eT 30 (he.1 rfl);obtain⟨v32,h32,f32⟩:=fT 32 (he.2.1 rfl);exact ae rfl (dO rfl rfl rfl Tryz.underlying27 bK h30 h32 (hown4.on hb) rfl rfl (dV f32) (by simp only [List.length_cons,List.length_nil];omega) (hbw.size) hL.1.size (fun _ _ h1 h2=>⟨h1,h2⟩))
    ·intro W5 hL5;simp only [aU,af.eq,af.new1,af.row,af.asPure,af.of,af.fragile,lZ];rintro v32 - v33 ⟨hown5,hnew⟩;go_frame;have hbW5:=hbr4.trans (hL5.belowAt hbr4.size hbase);go_wp2;go_roundw
     case measure=>simp [intOf];omega
     case rel=>exact⟨k+1,by omega,by go_num,zH (by rw [hsn.out];exact hown5),by rw [hsn.out,List.length_append];simp only [List.length_cons,List.length_nil];omega,hbW5⟩
   ·have e1:(t.1.get v == n)=false:=by simpa using hx
    rw [if_neg hx,List.append_nil] at hsn;replace hsn:=zH hsn;go_wp2;go_roundw
    case measure=>simp [intOf];omega
    case rel=>exact⟨k+1,by omega,by go_num,zH (by rw [hsn.out];exact hown3),by rw [hsn.out];omega,hbr3⟩
  ·obtain rfl:k=p.length:=by omega
   rw [List.take_of_length_le (Nat.le_refl _)] at hown;go_wp2;go_ret;exact⟨_,rfl,by rw [hR.out];exact hown.out.isSl,hbr⟩
theorem yV (vp:Value) (p:List ai) (v:Nat) (w:World) (hp:ak w vp p) (hv:v<4) (hd:aG p v<=100000000) (lp:p.length<=100000000):Calls Tryz.prog 63 #[vp,.int .i64 v] w (GZ w (aB p v)):=by
 obtain⟨ap,cp,rfl,hcp⟩:=hp.shape;have hdg:=zH (fun W (hb:Below w.heap.size w W)=>Iz _ p v W (hp.on hb) hv lp);have hcf:=zH (fun W (hb:Below w.heap.size w W) (n:Nat)=>Ke _ p v n W (hp.on hb) hv lp);have hge:=ug p v;obtain⟨R,hR⟩:∃ R,R=aB p v:=⟨_,rfl⟩;rw [<- hR];have hR':R=(List.range (aG p v+1).toNat).map fun n:Nat=>aD p v n:=hR;clear hR;generalize aG p v=d at *;replace hR':=zH hR';replace hp:=zH hp
 go_enter Tryz.func63,Tryz.ntmps63
 go_wp2;have hown0:=fV oF w;have hb0:Below w.heap.size w (w.alloc (.cells #[] polyT)):=(Below.refl _ _).alloc (Nat.le_refl _) _;change A7 w.heap.size (w.alloc (.cells #[] 27)) _ _ at hown0;change Below w.heap.size w (w.alloc (.cells #[] 27)) at hb0
 go_loopw [5,6] (fun o i wr=>∃ k:Nat,(k:Int)<=d+1/\i=.int .i64 k/\Hid (A7 w.heap.size wr o ((List.range k).map fun n:Nat=>aD p v n))/\Below w.heap.size w wr) (fun _ i _=>(d+1).toNat-(intOf i).toNat)
 case atStart=>exact⟨0,by omega,rfl,zH hown0,hb0⟩
 case round =>
  clear hown0 hb0;obtain⟨k,hk,rfl,hown,hbr⟩:=hrel;by_cases hkd:(k:Int)<=d
  ·have hsn:(List.range (k+1)).map (fun n:Nat=>aD p v n)=(List.range k).map (fun n:Nat=>aD p v n)++[aD p v k]:=by rw [List.range_succ,List.map_append];rfl
   have hlen:((List.range k).map fun n:Nat=>aD p v n).length+([aD p v k]:List (List ai)).length<=1000000000:=by simp;omega
   have happ:∀ (W:World) (a:Option Addr) (c:Nat),Below wr.heap.size wr W->ak W (.slice a (aD p v k).length c) (aD p v k) ->
     A7 w.heap.size (W.alloc (.cells #[.slice a (aD p v k).length c] 27)) u5 ((List.range k).map fun n:Nat=>aD p v n) /\
     fG (W.alloc (.cells #[.slice a (aD p v k).length c] 27)) (.slice (some ⟨W.heap.size,0,none⟩) 1 1) [aD p v k] /\
     Below w.heap.size w (W.alloc (.cells #[.slice a (aD p v k).length c] 27)):=fun W a c hb h=>by
    have hba:Below W.heap.size W (W.alloc (.cells #[.slice a (aD p v k).length c] 27)):=(Below.refl _ _).alloc (Nat.le_refl _) _;exact⟨hown.out.on (hb.trans (hba.mono hb.size)),jv (e:=oF) (Blk.new W polyT [.slice a (aD p v k).length c]) ⟨_,rfl,h.on hba⟩,(hbr.trans (hb.mono hbr.size)).trans (hba.mono (hbr.trans (hb.mono hbr.size)).size)⟩
   have hbase:∀ k,u5.ownBlock=some k->w.heap.size<=k:=fun k hk=>(hown.out.base_le k hk).1;replace happ:=zH happ;replace hsn:=zH hsn
   go_wp2_with (first
    | (go_at_call 27;refine (hdg.out _ hbr).mono ?_;rintro en w2 ⟨rfl,hb2⟩)
    | (go_at_call 80;refine (hcf.out _ (hbr.trans (hb2.mono hbr.size)) k).mono ?_;rintro en w3 ⟨v3,rfl,hv3,hb3⟩;obtain⟨a3,c3,rfl,-⟩:=hv3.shape)
    | (at_builtin;refine cZ rfl _ _ 75 rfl Tryz.underlying75 sK rfl rfl (happ.out _ _ _ (hb2.trans (hb3.mono hb2.size)) hv3).1 (happ.out _ _ _ (hb2.trans (hb3.mono hb2.size)) hv3).2.1 hlen (happ.out _ _ _ (hb2.trans (hb3.mono hb2.size)) hv3).2.2.size ?_;intro v8 w8 hown8 hl8 hv8))
   have hbw:=(happ.out _ _ _ (hb2.trans (hb3.mono hb2.size)) hv3).2.2;go_roundw
   case measure=>simp [intOf];omega
   case rel=>exact⟨k+1,by omega,by go_num,zH (by rw [hsn.out];exact hown8),hbw.trans (hl8.belowAt hbw.size hbase)⟩
  ·have e1:(d+1).toNat=k:=by omega
   rw [e1] at hR'
   go_wp2_with (go_at_call 27;refine (hdg.out _ hbr).mono ?_;rintro en w2 ⟨rfl,hb2⟩)
   go_ret;exact⟨_,rfl,by rw [hR'.out];exact (hown.out.on hb2).isSl,hbr.trans (hb2.mono hbr.size)⟩
end Go.Proofs.YtopclbeomcggiaaGreat
end
