/- law08.MgcdResultant: the walk. -/
import Derived.Test.YtopclbeomcggiaaGreatW35
import Derived.Test.YtopclbeomcggiaaGreatW39
import Derived.Test.YtopclbeomcggiaaGreatWSJ
set_option linter.unusedVariables false
set_option linter.unusedSimpArgs false
set_option maxHeartbeats 16000000
set_option maxRecDepth 100000
namespace Go.Proofs.YtopclbeomcggiaaGreat
open Go.RowKit Q Go.WideMaps Go.Maps
theorem OE (sA sB sC:Value) (z:Int) (k:Nat) (a b s t g:List ai) (da db dg:Int) (sa sb:Sz) (w:World) (Ka:Pk sa a) (Kb:Pk sb b) (Ks:Pk M7 s) (Kt:Pk M7 t)
  (hz:IntKind.i64.wrap z=z) (hk:z.tmod 2=k) (hnil:Hid ((a=[]\/b=[])->s=[])) (hab:IntKind.i64.wrap (da*db)=da*db) (hd:Hid (¬ (a=[]\/b=[])->(da*db).tmod 2=1/\s=dK [] t\/¬ (da*db).tmod 2=1/\s=t)) (hg:Hid (¬ (a=[]\/b=[])->(s=[]↔0<dg)))
  (m1:Hid (∀ W,Below w.heap.size w W->Calls Tryz.prog 28 #[sA] W (aX W a)))
  (m2:Hid (∀ W,Below w.heap.size w W->Calls Tryz.prog 28 #[sB] W (aX W b)))
  (r1:Hid (∀ W va vb,ak W va a->ak W vb b->Calls Tryz.prog 33 #[va,vb,.int .i64 k] W (aX W s)))
  (r2:Hid (∀ W va vb,ak W va b->ak W vb a->Calls Tryz.prog 33 #[va,vb,.int .i64 k] W (aX W t)))
  (q1:Hid (∀ W va vb,ak W va a->ak W vb b->Calls Tryz.prog 34 #[va,vb,.int .i64 k] W (aX W s)))
  (q2:Hid (∀ W va vb,ak W va b->ak W vb a->Calls Tryz.prog 34 #[va,vb,.int .i64 k] W (aX W t)))
  (g1:Hid (∀ W va vb,ak W va a->ak W vb b->Calls Tryz.prog 16 #[va,vb] W (aX W g)))
  (d1:Hid (∀ W va,ak W va a->Calls Tryz.prog 27 #[va,.int .i64 k] W (rO W (.int .i64 da))))
  (d2:Hid (∀ W va,ak W va b->Calls Tryz.prog 27 #[va,.int .i64 k] W (rO W (.int .i64 db))))
  (d3:Hid (∀ W va,ak W va g->Calls Tryz.prog 27 #[va,.int .i64 k] W (rO W (.int .i64 dg)))) :
  Calls Tryz.prog 8 #[.agg #[sA,sB,sC],.int .u8 z] w (rO w (.bool true)):=by
 obtain⟨o1,-,o3⟩:=CB;replace hz:=zH hz;replace hk:=zH hk;replace hab:=zH hab
 go_enter Tryz.func8,Tryz.ntmps8
 go_upto_region 2 with (go_at_call 10;refine (Jh _).mono ?_;rintro e w1 ⟨rfl,hb1⟩)
 have hbA:=(Below.refl w.heap.size w).alloc (Nat.le_refl _) (.cells #[sA,sB,sC] 24);have hb0:=hbA.trans (hb1.mono hbA.size);have BB:Blk w1 w.heap.size 24 [sA,sB,sC]:=(show Blk (w.alloc (.cells #[sA,sB,sC] 24)) w.heap.size 24 [sA,sB,sC] from Blk.new w _ [sA,sB,sC]).on hb1;have hz':=hz.out;have hk':=hk.out;refine aF mixed (none) (0) (gp.none) [.eq (.pointer (some ⟨w.heap.size,0,none⟩)),.eq (sA),.poly (by decide) (by decide) (a),.eq (.pointer (some ⟨w.heap.size,1,none⟩)),.eq (sB),.poly (by decide) (by decide) (b),.eq (.int .u8 z),.eq (.int .i64 z),.eq (.int .i64 (k:Int)),.poly (by decide) (by decide) (a),.poly (by decide) (by decide) (b)] [13,14,15,16,17,18,19,20,21,6,7] rfl rfl rfl rfl ⟨?_,?_,?_,?_,?_,?_,?_,?_,?_,?_,?_,trivial⟩ ?_
 ·intro A w1 hA hL hS he;have h2:A.eval (.tmp 2)=.pointer (some ⟨w.heap.size,0,none⟩):=hA 2 rfl;exact pZ rfl
 ·intro A w1 hA hL hS he;have hb:=hL.below;have h13:=eT 13 (he.1 rfl);have c0:=((BB).on hb).at1 0 _ rfl;exact pZ rfl
 ·intro A w1 hA hL hS he;have hb:=hS rfl;have h14:=eT 14 (he.1 rfl);have hf0:=eF A 28;exact cP (f:=28) (args:=#[sA]) (m1.out _ (hb0.trans (hb.mono hb0.size)))
 ·intro A w1 hA hL hS he;have h2:A.eval (.tmp 2)=.pointer (some ⟨w.heap.size,0,none⟩):=hA 2 rfl;exact pZ rfl
 ·intro A w1 hA hL hS he;have hb:=hL.below;have h16:=eT 16 (he.1 rfl);have c0:=((BB).on hb).at1 1 _ rfl;exact pZ rfl
 ·intro A w1 hA hL hS he;have hb:=hS rfl;have h17:=eT 17 (he.1 rfl);have hf0:=eF A 28;exact cP (f:=28) (args:=#[sB]) (m2.out _ (hb0.trans (hb.mono hb0.size)))
 ·exact fun _ _ a _ _ _=>xM rfl (a 1 rfl)
 ·intro A w1 hA hL hS he;have h19:=eT 19 (he.1 rfl);exact pZ rfl
 ·intro A w1 hA hL hS he;have h20:=eT 20 (he.1 rfl);have hc0:=eC A (.int .i64 2);exact pZ rfl
 ·intro A w1 hA hL hS he;obtain⟨v15,h15,f15⟩:=fT 15 (he.1 rfl);exact ae rfl (iW (c:=v15) rfl rfl (Below.refl _ _) f15 (by show Result.ok (Next.value (A.eval (.tmp 15))) w1=_;rw [h15]))
 ·intro A w1 hA hL hS he;obtain⟨v18,h18,f18⟩:=fT 18 (he.1 rfl);exact ae rfl (iW (c:=v18) rfl rfl (Below.refl _ _) f18 (by show Result.ok (Next.value (A.eval (.tmp 18))) w1=_;rw [h18]))
 intro w2 hL;simp only [aU,af.eq,af.poly,af.ret,af.of,lZ];rintro _ - _ - va ha vb hB;go_frame;have hb:=hL.below;replace hb0:=hb0.trans (hb.mono hb0.size);clear hL hb m1 m2 hz hk hz' hk' hbA hb1 BB
 go_upto_region 4 with (first
  | (go_at_call 33;refine (r2.out _ _ _ (hB.on hb3) (ha.on hb3)).mono ?_;rintro e w4 ⟨vt,rfl,ht,hb4⟩)
  | (go_at_call 33;refine (r1.out _ _ _ ha hB).mono ?_;rintro e w3 ⟨vs,rfl,hs,hb3⟩))
 have hb:=hb3.trans (hb4.mono hb3.size);replace hb0:=hb0.trans (hb.mono hb0.size);replace ha:=ha.on hb;replace hB:=hB.on hb;replace hs:=hs.on hb4;clear hb hb3 hb4 r1 r2;refine aP trivial (none) (0) (gp.none) [.eq (vs),.eq (va),.eq (vb),.eq (.int .i64 (k:Int)),.poly (by decide) (by decide) (s),.ret (.bool true),.eq (.bool false),.eq (.bool false),.eq (vt),.eq (vb),.eq (va),.eq (.int .i64 (k:Int)),.poly (by decide) (by decide) (t),.ret (.bool true),.eq (.bool false),.eq (.bool false)] [30,31,32,33,34,35,36,37,38,39,40,41,42,43,44,45] rfl rfl rfl rfl ⟨?_,?_,?_,?_,?_,?_,?_,?_,?_,?_,?_,?_,?_,?_,?_,?_,trivial⟩ ?_
 ·exact fun _ _ a _ _ _=>xM rfl (a 9 rfl)
 ·exact fun _ _ a _ _ _=>xM rfl (a 6 rfl)
 ·exact fun _ _ a _ _ _=>xM rfl (a 7 rfl)
 ·exact fun _ _ a _ _ _=>xM rfl (a 8 rfl)
 ·intro A w1 hA hL hS he;have hb:=hS rfl;have h31:=eT 31 (he.1 rfl);have h32:=eT 32 (he.2.1 rfl);have h33:=eT 33 (he.2.2.1 rfl);have hf0:=eF A 34;exact cP (f:=34) (args:=#[va,vb,.int .i64 (k:Int)]) (q1.out _ _ _ (ha.on hb) (hB.on hb))
 ·intro A w1 hA hL hS he;have hb:=hS rfl;have h30:=eT 30 (he.1 rfl);obtain⟨v34,h34,f34⟩:=fT 34 (he.2.1 rfl);have hf0:=eF A 13;exact cP (f:=13) (args:=#[vs,v34]) (Ie Ks Ks rfl (hs.on hb) f34)
 ·intro A w1 hA hL hS he;have h35:=eT 35 (he.1 rfl);exact pZ rfl
 ·intro A w1 hA hL hS he;have h36:=eT 36 (he.1 rfl);exact pZ rfl
 ·exact fun _ _ a _ _ e=>yM (e.1 rfl) rfl (a 10 rfl)
 ·exact fun _ _ a _ _ e=>yM (e.1 rfl) rfl (a 7 rfl)
 ·exact fun _ _ a _ _ e=>yM (e.1 rfl) rfl (a 6 rfl)
 ·exact fun _ _ a _ _ e=>yM (e.1 rfl) rfl (a 8 rfl)
 ·intro A w1 hA hL hS he;have hb:=hS rfl;have h37:=eT 37 (he.2.2.2.1 rfl);have h39:=eT 39 (he.1 rfl);have h40:=eT 40 (he.2.1 rfl);have h41:=eT 41 (he.2.2.1 rfl);have hf0:=eF A 34;exact cY (f:=34) (args:=#[vb,va,.int .i64 (k:Int)]) h37 (q2.out _ _ _ (hB.on hb) (ha.on hb))
 ·intro A w1 hA hL hS he;have hb:=hS rfl;have h37:=eT 37 (he.2.2.2.1 rfl);have h38:=eT 38 (he.1 rfl);obtain⟨v42,h42,f42⟩:=fT 42 (he.2.1 rfl);have hf0:=eF A 13;exact cY (f:=13) (args:=#[vt,v42]) h37 (Ie Kt Kt rfl (ht.on hb) f42)
 ·intro A w1 hA hL hS he;have h37:=eT 37 (he.2.1 rfl);have h43:=eT 43 (he.1 rfl);exact yZ h37 rfl
 ·intro A w1 hA hL hS he;have h37:=eT 37 (he.1 rfl);have h44:=eT 44 (he.2.1 rfl);have hc0:=eC A (.bool true);exact pZ rfl
 intro w5 hL;simp only [aU,af.eq,af.poly,af.ret,af.of,lZ];rintro _ - _ -;go_frame;have hb:=hL.below;replace hb0:=hb0.trans (hb.mono hb0.size);replace ha:=ha.on hb;replace hB:=hB.on hb;replace hs:=hs.on hb;replace ht:=ht.on hb;clear hL hb q1 q2;obtain⟨aa,ca,rfl,-⟩:=ha.shape;obtain⟨ab,cb,rfl,-⟩:=hB.shape;obtain⟨az,cz,rfl,-⟩:=hs.shape;by_cases hn:a=[]\/b=[]
 ·obtain rfl:=hnil.out hn;clear hd hg hnil hab ht hs d1 d2 d3 g1;simp only [List.length_nil];rcases hn with rfl|rfl
  ·clear ha hB;simp only [List.length_nil];go_wp2;go_ret;exact⟨rfl,hb0⟩
  ·clear hB;by_cases h0:a=[]
   ·subst h0;simp only [List.length_nil];go_wp2;go_ret;exact⟨rfl,hb0⟩
   ·have hne:((a.length:Int) == 0)=false:=by have:=List.length_pos_iff.2 h0;simp;omega
    clear ha;simp only [List.length_nil];generalize a.length=n at *;go_wp2;go_ret;exact⟨rfl,hb0⟩
 ·have hd':=hd.out hn;have hg':=zH (hg.out hn);have na0:a≠[]:=fun h=>hn (.inl h);have nb0:b≠[]:=fun h=>hn (.inr h);have hna:((a.length:Int) == 0)=false:=by have:=List.length_pos_iff.2 na0;simp;exact na0
  have hnb:((b.length:Int) == 0)=false:=by have:=List.length_pos_iff.2 nb0;simp;exact nb0
  clear na0 nb0;replace hn:=zH hn;clear hd hg hnil;obtain⟨la,hla⟩:∃ x,x=a.length:=⟨_,rfl⟩;obtain⟨lb,hlb⟩:∃ x,x=b.length:=⟨_,rfl⟩;rw [<- hla] at hna ha ⊢;rw [<- hlb] at hnb hB ⊢;clear hla hlb
  obtain⟨bb,hbs,hbd⟩:∃ bb,Hid (((s.length:Int) == 0)=bb)/\Hid (decide (dg > 0)=bb):=by
   by_cases h:s=[]
   ·exact⟨true,zH (by rw [h];rfl),zH (decide_eq_true (hg'.out.1 h))⟩
   ·exact⟨false,zH (by have:=List.length_pos_iff.2 h;simp;omega),zH (decide_eq_false fun e=>h (hg'.out.2 e))⟩
  have hbe:Hid (decide (0<dg)=bb):=hbd;have hab':=hab.out;rcases hd' with ⟨ho,hst⟩|⟨ho,hst⟩
  ·replace hst:=zH hst;have hsu:=zH (fun W (h1:ak W vt t)=>Qw (vp:=.slice none 0 0) (Pk.nil (s:=M7) o1) Kt o3 (bS.nil aO W) h1)
   go_upto_region 11 with (first
    | (go_at_call 35;refine (hsu.out w7 (ht.on hb67)).mono ?_;rintro e w8 ⟨vq,rfl,hq,hb8⟩)
    | (go_at_call 27;refine (d2.out w6 _ (hB.on hb6)).mono ?_;rintro e w7 ⟨rfl,hb7⟩;have hb67:=hb6.trans (hb7.mono hb6.size))
    | (go_at_call 27;refine (d1.out w5 _ ha).mono ?_;rintro e w6 ⟨rfl,hb6⟩))
   have hb:=hb67.trans (hb8.mono hb67.size);rw [<- hst.out] at hq;replace hb0:=hb0.trans (hb.mono hb0.size);replace ha:=ha.on hb;replace hB:=hB.on hb;replace hs:=hs.on hb;clear hb hb6 hb7 hb8 hb67 hsu d1 d2 ht hst hab hab' ho;refine aP trivial (none) (0) (gp.none) [.eq (.slice az s.length cz),.eq (vq),.ret (.bool true),.eq (.bool true),.eq (.slice az s.length cz),.eq (.int .i64 s.length),.eq (.bool bb),.eq (.slice aa la ca),.eq (.slice ab lb cb),.poly (by decide) (by decide) (g),.eq (.int .i64 (k:Int)),.ret (.int .i64 dg),.eq (.bool bb),.eq (.bool true),.eq (.bool true),.eq (.bool true),.eq (.bool true),.eq (.bool true)] [72,73,74,75,76,77,78,79,80,81,82,83,84,85,86,87,88,89] rfl rfl rfl rfl ⟨?_,?_,?_,?_,?_,?_,?_,?_,?_,?_,?_,?_,?_,?_,?_,?_,?_,?_,trivial⟩ ?_
   ·exact fun _ _ a _ _ _=>xM rfl (a 9 rfl)
   ·exact fun _ _ a _ _ _=>xM rfl (a 11 rfl)
   ·intro A w1 hA hL hS he;have hb:=hS rfl;have h72:=eT 72 (he.1 rfl);have h73:=eT 73 (he.2.1 rfl);have hf0:=eF A 13;exact cP (f:=13) (args:=#[.slice az s.length cz,vq]) (Ie Ks Ks rfl (hs.on hb) (hq.on hb))
   ·intro A w1 hA hL hS he;have h74:=eT 74 (he.1 rfl);exact pZ rfl
   ·exact fun _ _ a _ _ e=>yM (e.1 rfl) rfl (a 9 rfl)
   ·intro A w1 hA hL hS he;have h75:=eT 75 (he.2.1 rfl);have h76:=eT 76 (he.1 rfl);exact yZ h75 rfl
   ·intro A w1 hA hL hS he;have h75:=eT 75 (he.2.1 rfl);have h77:=eT 77 (he.1 rfl);have hc0:=eC A (.int .i64 0);refine aJ rfl rfl h75 ?_;have hx:=hbs.out;exact aC rfl rfl gZ
   ·exact fun _ _ a _ _ e=>yM (e.1 rfl) rfl (a 6 rfl)
   ·exact fun _ _ a _ _ e=>yM (e.1 rfl) rfl (a 7 rfl)
   ·intro A w1 hA hL hS he;have hb:=hS rfl;have h75:=eT 75 (he.2.2.1 rfl);have h79:=eT 79 (he.1 rfl);have h80:=eT 80 (he.2.1 rfl);have hf0:=eF A 16;exact cY (f:=16) (args:=#[.slice aa la ca,.slice ab lb cb]) h75 (g1.out _ _ _ (ha.on hb) (hB.on hb))
   ·exact fun _ _ a _ _ e=>yM (e.1 rfl) rfl (a 8 rfl)
   ·intro A w1 hA hL hS he;have hb:=hS rfl;have h75:=eT 75 (he.2.2.2.1 rfl);obtain⟨v81,h81,f81⟩:=fT 81 (he.1 rfl);have h82:=eT 82 (he.2.1 rfl);have hf0:=eF A 27;exact cY (f:=27) (args:=#[v81,.int .i64 (k:Int)]) h75 (d3.out _ _ f81)
   ·intro A w1 hA hL hS he;have h75:=eT 75 (he.2.1 rfl);have h83:=eT 83 (he.1 rfl);have hc0:=eC A (.int .i64 0);refine aJ rfl rfl h75 ?_;have hx:=hbd.out;have hy:=hbe.out;exact aC rfl rfl gZ
   ·intro A w1 hA hL hS he;have h75:=eT 75 (he.2.2.1 rfl);have h78:=eT 78 (he.1 rfl);have h84:=eT 84 (he.2.1 rfl);refine aJ rfl rfl h75 ?_;have hx:(bb == bb)=true:=by cases bb <;> rfl
    exact aC rfl rfl gZ
   ·intro A w1 hA hL hS he;have h75:=eT 75 (he.1 rfl);have h85:=eT 85 (he.2.1 rfl);have hc0:=eC A (.bool false);exact pZ rfl
   ·exact fun _ _ _ _ _ e=>xM rfl (e.1 rfl)
   ·exact fun _ _ a _ _ e=>yM (e.1 rfl) rfl (a 5 rfl)
   ·intro A w1 hA hL hS he;have h87:=eT 87 (he.1 rfl);have h88:=eT 88 (he.2.1 rfl);have hc0:=eC A (.bool false);exact pZ rfl
   intro w9 hL;simp only [aU,af.eq,af.poly,af.ret,af.of,lZ];rintro _ -;go_frame;replace hb0:=hb0.trans (hL.below.mono hb0.size);clear hL;go_wp2;go_ret;exact⟨rfl,hb0⟩
  ·obtain rfl:=hst
   go_upto_region 11 with (first
    | (go_at_call 27;refine (d2.out w6 _ (hB.on hb6)).mono ?_;rintro e w7 ⟨rfl,hb7⟩)
    | (go_at_call 27;refine (d1.out w5 _ ha).mono ?_;rintro e w6 ⟨rfl,hb6⟩))
   have hb:=hb6.trans (hb7.mono hb6.size);obtain⟨vq,hvq⟩:∃ vq,vq=vt:=⟨_,rfl⟩;rw [<- hvq] at ht ⊢;have hq:=ht.on hb;replace hb0:=hb0.trans (hb.mono hb0.size);replace ha:=ha.on hb;replace hB:=hB.on hb;replace hs:=hs.on hb;clear hb hb6 hb7 d1 d2 ht hvq hab hab' ho;refine aP trivial (none) (0) (gp.none) [.eq (.slice az s.length cz),.eq (vq),.ret (.bool true),.eq (.bool true),.eq (.slice az s.length cz),.eq (.int .i64 s.length),.eq (.bool bb),.eq (.slice aa la ca),.eq (.slice ab lb cb),.poly (by decide) (by decide) (g),.eq (.int .i64 (k:Int)),.ret (.int .i64 dg),.eq (.bool bb),.eq (.bool true),.eq (.bool true),.eq (.bool true),.eq (.bool true),.eq (.bool true)] [72,73,74,75,76,77,78,79,80,81,82,83,84,85,86,87,88,89] rfl rfl rfl rfl ⟨?_,?_,?_,?_,?_,?_,?_,?_,?_,?_,?_,?_,?_,?_,?_,?_,?_,?_,trivial⟩ ?_
   ·exact fun _ _ a _ _ _=>xM rfl (a 9 rfl)
   ·exact fun _ _ a _ _ _=>xM rfl (a 11 rfl)
   ·intro A w1 hA hL hS he;have hb:=hS rfl;have h72:=eT 72 (he.1 rfl);have h73:=eT 73 (he.2.1 rfl);have hf0:=eF A 13;exact cP (f:=13) (args:=#[.slice az s.length cz,vq]) (Ie Ks Ks rfl (hs.on hb) (hq.on hb))
   ·intro A w1 hA hL hS he;have h74:=eT 74 (he.1 rfl);exact pZ rfl
   ·exact fun _ _ a _ _ e=>yM (e.1 rfl) rfl (a 9 rfl)
   ·intro A w1 hA hL hS he;have h75:=eT 75 (he.2.1 rfl);have h76:=eT 76 (he.1 rfl);exact yZ h75 rfl
   ·intro A w1 hA hL hS he;have h75:=eT 75 (he.2.1 rfl);have h77:=eT 77 (he.1 rfl);have hc0:=eC A (.int .i64 0);refine aJ rfl rfl h75 ?_;have hx:=hbs.out;exact aC rfl rfl gZ
   ·exact fun _ _ a _ _ e=>yM (e.1 rfl) rfl (a 6 rfl)
   ·exact fun _ _ a _ _ e=>yM (e.1 rfl) rfl (a 7 rfl)
   ·intro A w1 hA hL hS he;have hb:=hS rfl;have h75:=eT 75 (he.2.2.1 rfl);have h79:=eT 79 (he.1 rfl);have h80:=eT 80 (he.2.1 rfl);have hf0:=eF A 16;exact cY (f:=16) (args:=#[.slice aa la ca,.slice ab lb cb]) h75 (g1.out _ _ _ (ha.on hb) (hB.on hb))
   ·exact fun _ _ a _ _ e=>yM (e.1 rfl) rfl (a 8 rfl)
   ·intro A w1 hA hL hS he;have hb:=hS rfl;have h75:=eT 75 (he.2.2.2.1 rfl);obtain⟨v81,h81,f81⟩:=fT 81 (he.1 rfl);have h82:=eT 82 (he.2.1 rfl);have hf0:=eF A 27;exact cY (f:=27) (args:=#[v81,.int .i64 (k:Int)]) h75 (d3.out _ _ f81)
   ·intro A w1 hA hL hS he;have h75:=eT 75 (he.2.1 rfl);have h83:=eT 83 (he.1 rfl);have hc0:=eC A (.int .i64 0);refine aJ rfl rfl h75 ?_;have hx:=hbd.out;have hy:=hbe.out;exact aC rfl rfl gZ
   ·intro A w1 hA hL hS he;have h75:=eT 75 (he.2.2.1 rfl);have h78:=eT 78 (he.1 rfl);have h84:=eT 84 (he.2.1 rfl);refine aJ rfl rfl h75 ?_;have hx:(bb == bb)=true:=by cases bb <;> rfl
    exact aC rfl rfl gZ
   ·intro A w1 hA hL hS he;have h75:=eT 75 (he.1 rfl);have h85:=eT 85 (he.2.1 rfl);have hc0:=eC A (.bool false);exact pZ rfl
   ·exact fun _ _ _ _ _ e=>xM rfl (e.1 rfl)
   ·exact fun _ _ a _ _ e=>yM (e.1 rfl) rfl (a 5 rfl)
   ·intro A w1 hA hL hS he;have h87:=eT 87 (he.1 rfl);have h88:=eT 88 (he.2.1 rfl);have hc0:=eC A (.bool false);exact pZ rfl
   intro w9 hL;simp only [aU,af.eq,af.poly,af.ret,af.of,lZ];rintro _ -;go_frame;replace hb0:=hb0.trans (hL.below.mono hb0.size);clear hL;go_wp2;go_ret;exact⟨rfl,hb0⟩
end Go.Proofs.YtopclbeomcggiaaGreat
