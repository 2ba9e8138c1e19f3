/- law08.MgcdResultant: the walk. -/
import Derived.Test.YtopclbeomcggiaaGreatZ40
import Derived.Test.YtopclbeomcggiaaGreatZ54
import Derived.Test.YtopclbeomcggiaaGreatZSJ
set_option linter.unusedVariables false
set_option linter.unusedSimpArgs false
set_option maxHeartbeats 16000000
set_option maxRecDepth 100000
namespace Go.Proofs.YtopclbeomcggiaaGreat
open Go.RowKit Q Go.WideMaps Go.Maps
theorem RH(r u I:Value)(z:Int)(k:Nat)(a b s t g:List ai)(da J dg:Int)(sa sb:Sz)(w:World)(Ka:Pk sa a)(Kb:Pk sb b)(F:Pk Qd s)(Kt:Pk Qd t)
  (hz:IntKind.i64.wrap z=z) (hk:z.tmod 2=k) (p:Hid ((a=[]\/b=[])->s=[])) (l:IntKind.i64.wrap (da*J)=da*J) (hd:Hid (¬(a=[]\/b=[])->(da*J).tmod 2=1/\s=dL [] t\/¬(da*J).tmod 2=1/\s=t)) (hg:Hid (¬(a=[]\/b=[])->(s=[]↔0<dg)))
  (m1:Hid (∀W,Below w.heap.size w W->Calls Tryz.prog 28 #[r] W (aN W a)))
  (m2:Hid (∀W,Below w.heap.size w W->Calls Tryz.prog 28 #[u] W (aN W b)))
  (r1:Hid (∀W d i,aj W d a->aj W i b->Calls Tryz.prog 33 #[d,i,.int .i64 k] W (aN W s)))
  (r2:Hid (∀W d i,aj W d b->aj W i a->Calls Tryz.prog 33 #[d,i,.int .i64 k] W (aN W t)))
  (q1:Hid (∀W d i,aj W d a->aj W i b->Calls Tryz.prog 34 #[d,i,.int .i64 k] W (aN W s)))
  (q2:Hid (∀W d i,aj W d b->aj W i a->Calls Tryz.prog 34 #[d,i,.int .i64 k] W (aN W t)))
  (g1:Hid (∀W d i,aj W d a->aj W i b->Calls Tryz.prog 16 #[d,i] W (aN W g)))
  (d1:Hid (∀W d,aj W d a->Calls Tryz.prog 27 #[d,.int .i64 k] W (oP W (.int .i64 da))))
  (d2:Hid (∀W d,aj W d b->Calls Tryz.prog 27 #[d,.int .i64 k] W (oP W (.int .i64 J))))
  (d3:Hid (∀W d,aj W d g->Calls Tryz.prog 27 #[d,.int .i64 k] W (oP W (.int .i64 dg)))) :
  Calls Tryz.prog 8 #[.agg #[r,u,I],.int .u8 z] w (oP w (.bool true)):=by
 obtain⟨o1,-,o3⟩:=Fq;replace hz:=zH hz;replace hk:=zH hk;replace l:=zH l
 go_enter Tryz.func8,Tryz.ntmps8
 go_upto_region 2 with (go_at_call 10;refine(oO _).mono ?_;rintro e w1 ⟨rfl,hb1⟩)
 have C:=(Below.refl w.heap.size w).alloc (nL _) (.cells #[r,u,I] 24);have hb0:=C.trans (hb1.mono C.size);have BB:Blk w1 w.heap.size 24 [r,u,I]:=(show Blk (w.alloc (.cells #[r,u,I] 24)) w.heap.size 24 [r,u,I]from Blk.new w _ [r,u,I]).on hb1;have a4:=hz.out;have a1:=hk.out;refine aD mixed (none) (0) (eQ.none) [.eq (.pointer (some ⟨w.heap.size,0,none⟩)),.eq (r),.poly dM dM (a),.eq (.pointer (some ⟨w.heap.size,1,none⟩)),.eq (u),.poly dM dM (b),.eq (.int .u8 z),.eq (.int .i64 z),.eq (.int .i64 (k:Int)),.poly dM dM (a),.poly dM dM (b)] [13,14,15,16,17,18,19,20,21,6,7] rfl rfl rfl rfl ⟨λA _ hA _ _ _=>have h2:A.eval (.tmp 2)=.pointer (some ⟨w.heap.size,0,none⟩):=hA 2 rfl;pZ rfl,λA _ _ hL _ he=>have hb:=hL.below;have h13:=eT 13 (he.1 rfl);have c0:=((BB).on hb).at1 0 _ rfl;pZ rfl,λA _ _ _ hS he=>have hb:=hS rfl;have h14:=eT 14 (he.1 rfl);have hf0:=eF A 28;cP (f:=28) (args:=#[r]) (m1.out _ (hb0.trans (hb.mono hb0.size))),λA _ hA _ _ _=>have h2:A.eval (.tmp 2)=.pointer (some ⟨w.heap.size,0,none⟩):=hA 2 rfl;pZ rfl,λA _ _ hL _ he=>have hb:=hL.below;have h16:=eT 16 (he.1 rfl);have c0:=((BB).on hb).at1 1 _ rfl;pZ rfl,λA _ _ _ hS he=>have hb:=hS rfl;have h17:=eT 17 (he.1 rfl);have hf0:=eF A 28;cP (f:=28) (args:=#[u]) (m2.out _ (hb0.trans (hb.mono hb0.size))),λ_ _ a _ _ _=>xM rfl (a 1 rfl),λA _ _ _ _ he=>have h19:=eT 19 (he.1 rfl);pZ rfl,λA _ _ _ _ he=>have h20:=eT 20 (he.1 rfl);have hc0:=eC A (.int .i64 2);pZ rfl,?_,?_,trivial⟩ ?_
 ·intro A w1 hA hL hS he;obtain⟨v15,h15,f15⟩:=fT 15 (he.1 rfl);exact af rfl (gT (c:=v15) rfl rfl (Below.refl _ _) f15 (by show Result.ok (Next.value (A.eval (.tmp 15))) w1=_;rw[h15]))
 ·intro A w1 hA hL hS he;obtain⟨v18,h18,f18⟩:=fT 18 (he.1 rfl);exact af rfl (gT (c:=v18) rfl rfl (Below.refl _ _) f18 (by show Result.ok (Next.value (A.eval (.tmp 18))) w1=_;rw[h18]))
 intro w2 hL;simp only[aQ,ae.eq,ae.poly,ae.ret,ae.of,lZ];rintro _ - _ - d ha i hB;go_frame;have hb:=hL.below;replace hb0:=hb0.trans (hb.mono hb0.size);clear hL hb m1 m2 hz hk a4 a1 C hb1 BB
 go_upto_region 4 with (first
  | (go_at_call 33;refine(r2.out _ _ _ (hB.on hb3) (ha.on hb3)).mono ?_;rintro e w4 ⟨vt,rfl,q,hb4⟩)
  | (go_at_call 33;refine(r1.out _ _ _ ha hB).mono ?_;rintro e w3 ⟨vs,rfl,m,hb3⟩))
 have hb:=hb3.trans (hb4.mono hb3.size);replace hb0:=hb0.trans (hb.mono hb0.size);replace ha:=ha.on hb;replace hB:=hB.on hb;replace m:=m.on hb4;clear hb hb3 hb4 r1 r2;refine aI trivial (none) (0) (eQ.none) [.eq (vs),.eq (d),.eq (i),.eq (.int .i64 (k:Int)),.poly dM dM (s),.ret (.bool true),.eq (.bool false),.eq (.bool false),.eq (vt),.eq (i),.eq (d),.eq (.int .i64 (k:Int)),.poly dM dM (t),.ret (.bool true),.eq (.bool false),.eq (.bool false)] [30,31,32,33,34,35,36,37,38,39,40,41,42,43,44,45] rfl rfl rfl rfl ⟨λ_ _ a _ _ _=>xM rfl (a 9 rfl),λ_ _ a _ _ _=>xM rfl (a 6 rfl),λ_ _ a _ _ _=>xM rfl (a 7 rfl),λ_ _ a _ _ _=>xM rfl (a 8 rfl),λA _ _ _ hS he=>have hb:=hS rfl;have h31:=eT 31 (he.1 rfl);have h32:=eT 32 (he.2.1 rfl);have h33:=eT 33 (he.2.2.1 rfl);have hf0:=eF A 34;cP (f:=34) (args:=#[d,i,.int .i64 (k:Int)]) (q1.out _ _ _ (ha.on hb) (hB.on hb)),?_,λA _ _ _ _ he=>have h35:=eT 35 (he.1 rfl);pZ rfl,λA _ _ _ _ he=>have h36:=eT 36 (he.1 rfl);pZ rfl,λ_ _ a _ _ e=>yM (e.1 rfl) rfl (a 10 rfl),λ_ _ a _ _ e=>yM (e.1 rfl) rfl (a 7 rfl),λ_ _ a _ _ e=>yM (e.1 rfl) rfl (a 6 rfl),λ_ _ a _ _ e=>yM (e.1 rfl) rfl (a 8 rfl),λA _ _ _ hS he=>have hb:=hS rfl;have h37:=eT 37 (he.2.2.2.1 rfl);have h39:=eT 39 (he.1 rfl);have h40:=eT 40 (he.2.1 rfl);have h41:=eT 41 (he.2.2.1 rfl);have hf0:=eF A 34;cY (f:=34) (args:=#[i,d,.int .i64 (k:Int)]) h37 (q2.out _ _ _ (hB.on hb) (ha.on hb)),?_,λA _ _ _ _ he=>have h37:=eT 37 (he.2.1 rfl);have h43:=eT 43 (he.1 rfl);yZ h37 rfl,λA _ _ _ _ he=>have h37:=eT 37 (he.1 rfl);have h44:=eT 44 (he.2.1 rfl);have hc0:=eC A (.bool true);pZ rfl,trivial⟩ ?_
 ·intro A w1 hA hL hS he;have hb:=hS rfl;have h30:=eT 30 (he.1 rfl);obtain⟨v34,h34,f34⟩:=fT 34 (he.2.1 rfl);have hf0:=eF A 13;exact cP (f:=13) (args:=#[vs,v34]) (sK F F rfl (m.on hb) f34)
 ·intro A w1 hA hL hS he;have hb:=hS rfl;have h37:=eT 37 (he.2.2.2.1 rfl);have h38:=eT 38 (he.1 rfl);obtain⟨v42,h42,f42⟩:=fT 42 (he.2.1 rfl);have hf0:=eF A 13;exact cY (f:=13) (args:=#[vt,v42]) h37 (sK Kt Kt rfl (q.on hb) f42)
 intro w5 hL;simp only[aQ,ae.eq,ae.poly,ae.ret,ae.of,lZ];rintro _ - _ -;go_frame;have hb:=hL.below;replace hb0:=hb0.trans (hb.mono hb0.size);replace ha:=ha.on hb;replace hB:=hB.on hb;replace m:=m.on hb;replace q:=q.on hb;clear hL hb q1 q2;obtain⟨aa,ca,rfl,-⟩:=ha.shape;obtain⟨ab,cb,rfl,-⟩:=hB.shape;obtain⟨G,cz,rfl,-⟩:=m.shape;by_cases B:a=[]\/b=[]
 ·obtain rfl:=p.out B;clear hd hg p l q m d1 d2 d3 g1;simp only[List.length_nil];rcases B with rfl|rfl
  ·clear ha hB;simp only[List.length_nil];go_wp2;go_ret;exact⟨rfl,hb0⟩
  ·clear hB;by_cases h0:a=[]
   ·subst h0;simp only[List.length_nil];go_wp2;go_ret;exact⟨rfl,hb0⟩
   ·have a5:((a.length:Int)==0)=false:=by have:=List.length_pos_iff.2 h0;simp;omega
    clear ha;simp only[List.length_nil];generalize a.length=n at *;go_wp2;go_ret;exact⟨rfl,hb0⟩
 ·have a0:=hd.out B;have N:=zH (hg.out B);have na0:a≠[]:=λh=>B (.inl h);have nb0:b≠[]:=λh=>B (.inr h);have a2:((a.length:Int)==0)=false:=by have:=List.length_pos_iff.2 na0;simp;exact na0
  have a3:((b.length:Int)==0)=false:=by have:=List.length_pos_iff.2 nb0;simp;exact nb0
  clear na0 nb0;replace B:=zH B;clear hd hg p;obtain⟨la,S⟩:∃x,x=a.length:=⟨_,rfl⟩;obtain⟨lb,X⟩:∃x,x=b.length:=⟨_,rfl⟩;rw[<-S]at a2 ha ⊢;rw[<-X]at a3 hB ⊢;clear S X
  obtain⟨j,M,D⟩:∃j,Hid (((s.length:Int)==0)=j)/\Hid (decide (dg > 0)=j):=by
   by_cases h:s=[]
   ·exact⟨true,zH (by rw[h];rfl),zH (decide_eq_true (N.out.1 h))⟩
   ·exact⟨false,zH (by have:=List.length_pos_iff.2 h;simp;omega),zH (decide_eq_false λe=>h (N.out.2 e))⟩
  have L:Hid (decide (0<dg)=j):=D;have y:=l.out;rcases a0 with ⟨ho,o⟩|⟨ho,o⟩
  ·replace o:=zH o;have Y:=zH (λW (h1:aj W vt t)=>TP (vp:=.slice none 0 0) (Pk.nil (s:=Qd) o1) Kt o3 (bZ.nil aT W) h1)
   go_upto_region 11 with (first
    | (go_at_call 35;refine(Y.out w7 (q.on hb67)).mono ?_;rintro e w8 ⟨vq,rfl,hq,hb8⟩)
    | (go_at_call 27;refine(d2.out w6 _ (hB.on hb6)).mono ?_;rintro e w7 ⟨rfl,hb7⟩;have hb67:=hb6.trans (hb7.mono hb6.size))
    | (go_at_call 27;refine(d1.out w5 _ ha).mono ?_;rintro e w6 ⟨rfl,hb6⟩))
   have hb:=hb67.trans (hb8.mono hb67.size);rw[<-o.out]at hq;replace hb0:=hb0.trans (hb.mono hb0.size);replace ha:=ha.on hb;replace hB:=hB.on hb;replace m:=m.on hb;clear hb hb6 hb7 hb8 hb67 Y d1 d2 q o l y ho;refine aI trivial (none) (0) (eQ.none) [.eq (.slice G s.length cz),.eq (vq),.ret (.bool true),.eq (.bool true),.eq (.slice G s.length cz),.eq (.int .i64 s.length),.eq (.bool j),.eq (.slice aa la ca),.eq (.slice ab lb cb),.poly dM dM (g),.eq (.int .i64 (k:Int)),.ret (.int .i64 dg),.eq (.bool j),.eq (.bool true),.eq (.bool true),.eq (.bool true),.eq (.bool true),.eq (.bool true)] [72,73,74,75,76,77,78,79,80,81,82,83,84,85,86,87,88,89] rfl rfl rfl rfl ⟨λ_ _ a _ _ _=>xM rfl (a 9 rfl),λ_ _ a _ _ _=>xM rfl (a 11 rfl),λA _ _ _ hS he=>have hb:=hS rfl;have h72:=eT 72 (he.1 rfl);have h73:=eT 73 (he.2.1 rfl);have hf0:=eF A 13;cP (f:=13) (args:=#[.slice G s.length cz,vq]) (sK F F rfl (m.on hb) (hq.on hb)),λA _ _ _ _ he=>have h74:=eT 74 (he.1 rfl);pZ rfl,λ_ _ a _ _ e=>yM (e.1 rfl) rfl (a 9 rfl),λA _ _ _ _ he=>have h75:=eT 75 (he.2.1 rfl);have h76:=eT 76 (he.1 rfl);yZ h75 rfl,?_,λ_ _ a _ _ e=>yM (e.1 rfl) rfl (a 6 rfl),λ_ _ a _ _ e=>yM (e.1 rfl) rfl (a 7 rfl),λA _ _ _ hS he=>have hb:=hS rfl;have h75:=eT 75 (he.2.2.1 rfl);have h79:=eT 79 (he.1 rfl);have h80:=eT 80 (he.2.1 rfl);have hf0:=eF A 16;cY (f:=16) (args:=#[.slice aa la ca,.slice ab lb cb]) h75 (g1.out _ _ _ (ha.on hb) (hB.on hb)),λ_ _ a _ _ e=>yM (e.1 rfl) rfl (a 8 rfl),?_,?_,?_,λA _ _ _ _ he=>have h75:=eT 75 (he.1 rfl);have h85:=eT 85 (he.2.1 rfl);have hc0:=eC A (.bool false);pZ rfl,λ_ _ _ _ _ e=>xM rfl (e.1 rfl),λ_ _ a _ _ e=>yM (e.1 rfl) rfl (a 5 rfl),λA _ _ _ _ he=>have h87:=eT 87 (he.1 rfl);have h88:=eT 88 (he.2.1 rfl);have hc0:=eC A (.bool false);pZ rfl,trivial⟩ ?_
   ·intro A w1 hA hL hS he;have h75:=eT 75 (he.2.1 rfl);have h77:=eT 77 (he.1 rfl);have hc0:=eC A (.int .i64 0);refine aF rfl rfl h75 ?_;have hx:=M.out;exact aC rfl rfl gZ
   ·intro A w1 hA hL hS he;have hb:=hS rfl;have h75:=eT 75 (he.2.2.2.1 rfl);obtain⟨v81,h81,f81⟩:=fT 81 (he.1 rfl);have h82:=eT 82 (he.2.1 rfl);have hf0:=eF A 27;exact cY (f:=27) (args:=#[v81,.int .i64 (k:Int)]) h75 (d3.out _ _ f81)
   ·intro A w1 hA hL hS he;have h75:=eT 75 (he.2.1 rfl);have h83:=eT 83 (he.1 rfl);have hc0:=eC A (.int .i64 0);refine aF rfl rfl h75 ?_;have hx:=D.out;have hy:=L.out;exact aC rfl rfl gZ
   ·intro A w1 hA hL hS he;have h75:=eT 75 (he.2.2.1 rfl);have h78:=eT 78 (he.1 rfl);have h84:=eT 84 (he.2.1 rfl);refine aF rfl rfl h75 ?_;have hx:(j==j)=true:=by cases j<;>rfl
    exact aC rfl rfl gZ
   intro w9 hL;simp only[aQ,ae.eq,ae.poly,ae.ret,ae.of,lZ];rintro _ -;go_frame;replace hb0:=hb0.trans (hL.below.mono hb0.size);clear hL;go_wp2;go_ret;exact⟨rfl,hb0⟩
  ·obtain rfl:=o
   go_upto_region 11 with (first
    | (go_at_call 27;refine(d2.out w6 _ (hB.on hb6)).mono ?_;rintro e w7 ⟨rfl,hb7⟩)
    | (go_at_call 27;refine(d1.out w5 _ ha).mono ?_;rintro e w6 ⟨rfl,hb6⟩))
   have hb:=hb6.trans (hb7.mono hb6.size);obtain⟨vq,Z⟩:∃vq,vq=vt:=⟨_,rfl⟩;rw[<-Z]at q ⊢;have hq:=q.on hb;replace hb0:=hb0.trans (hb.mono hb0.size);replace ha:=ha.on hb;replace hB:=hB.on hb;replace m:=m.on hb;clear hb hb6 hb7 d1 d2 q Z l y ho;refine aI trivial (none) (0) (eQ.none) [.eq (.slice G s.length cz),.eq (vq),.ret (.bool true),.eq (.bool true),.eq (.slice G s.length cz),.eq (.int .i64 s.length),.eq (.bool j),.eq (.slice aa la ca),.eq (.slice ab lb cb),.poly dM dM (g),.eq (.int .i64 (k:Int)),.ret (.int .i64 dg),.eq (.bool j),.eq (.bool true),.eq (.bool true),.eq (.bool true),.eq (.bool true),.eq (.bool true)] [72,73,74,75,76,77,78,79,80,81,82,83,84,85,86,87,88,89] rfl rfl rfl rfl ⟨λ_ _ a _ _ _=>xM rfl (a 9 rfl),λ_ _ a _ _ _=>xM rfl (a 11 rfl),λA _ _ _ hS he=>have hb:=hS rfl;have h72:=eT 72 (he.1 rfl);have h73:=eT 73 (he.2.1 rfl);have hf0:=eF A 13;cP (f:=13) (args:=#[.slice G s.length cz,vq]) (sK F F rfl (m.on hb) (hq.on hb)),λA _ _ _ _ he=>have h74:=eT 74 (he.1 rfl);pZ rfl,λ_ _ a _ _ e=>yM (e.1 rfl) rfl (a 9 rfl),λA _ _ _ _ he=>have h75:=eT 75 (he.2.1 rfl);have h76:=eT 76 (he.1 rfl);yZ h75 rfl,?_,λ_ _ a _ _ e=>yM (e.1 rfl) rfl (a 6 rfl),λ_ _ a _ _ e=>yM (e.1 rfl) rfl (a 7 rfl),λA _ _ _ hS he=>have hb:=hS rfl;have h75:=eT 75 (he.2.2.1 rfl);have h79:=eT 79 (he.1 rfl);have h80:=eT 80 (he.2.1 rfl);have hf0:=eF A 16;cY (f:=16) (args:=#[.slice aa la ca,.slice ab lb cb]) h75 (g1.out _ _ _ (ha.on hb) (hB.on hb)),λ_ _ a _ _ e=>yM (e.1 rfl) rfl (a 8 rfl),?_,?_,?_,λA _ _ _ _ he=>have h75:=eT 75 (he.1 rfl);have h85:=eT 85 (he.2.1 rfl);have hc0:=eC A (.bool false);pZ rfl,λ_ _ _ _ _ e=>xM rfl (e.1 rfl),λ_ _ a _ _ e=>yM (e.1 rfl) rfl (a 5 rfl),λA _ _ _ _ he=>have h87:=eT 87 (he.1 rfl);have h88:=eT 88 (he.2.1 rfl);have hc0:=eC A (.bool false);pZ rfl,trivial⟩ ?_
   ·intro A w1 hA hL hS he;have h75:=eT 75 (he.2.1 rfl);have h77:=eT 77 (he.1 rfl);have hc0:=eC A (.int .i64 0);refine aF rfl rfl h75 ?_;have hx:=M.out;exact aC rfl rfl gZ
   ·intro A w1 hA hL hS he;have hb:=hS rfl;have h75:=eT 75 (he.2.2.2.1 rfl);obtain⟨v81,h81,f81⟩:=fT 81 (he.1 rfl);have h82:=eT 82 (he.2.1 rfl);have hf0:=eF A 27;exact cY (f:=27) (args:=#[v81,.int .i64 (k:Int)]) h75 (d3.out _ _ f81)
   ·intro A w1 hA hL hS he;have h75:=eT 75 (he.2.1 rfl);have h83:=eT 83 (he.1 rfl);have hc0:=eC A (.int .i64 0);refine aF rfl rfl h75 ?_;have hx:=D.out;have hy:=L.out;exact aC rfl rfl gZ
   ·intro A w1 hA hL hS he;have h75:=eT 75 (he.2.2.1 rfl);have h78:=eT 78 (he.1 rfl);have h84:=eT 84 (he.2.1 rfl);refine aF rfl rfl h75 ?_;have hx:(j==j)=true:=by cases j<;>rfl
    exact aC rfl rfl gZ
   intro w9 hL;simp only[aQ,ae.eq,ae.poly,ae.ret,ae.of,lZ];rintro _ -;go_frame;replace hb0:=hb0.trans (hL.below.mono hb0.size);clear hL;go_wp2;go_ret;exact⟨rfl,hb0⟩
end Go.Proofs.YtopclbeomcggiaaGreat
