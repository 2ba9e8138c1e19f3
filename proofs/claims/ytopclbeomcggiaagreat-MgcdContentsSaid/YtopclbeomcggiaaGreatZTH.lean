/- law08.MgcdContents: the walks. -/
import Derived.Test.YtopclbeomcggiaaGreatZ36
import Derived.Test.YtopclbeomcggiaaGreatZSJ
import Derived.Test.YtopclbeomcggiaaGreatZSM
set_option linter.unusedVariables false
set_option linter.unusedSimpArgs false
set_option maxHeartbeats 16000000
set_option maxRecDepth 100000
namespace Q
open Go Go.Proofs.YtopclbeomcggiaaGreat
theorem Xh:Pk ⟨1,1,0,1⟩ [(e0,(1:Rat))]:=⟨aY.const 1,TJ dK,dK⟩
end Q
namespace Go.Proofs.YtopclbeomcggiaaGreat
open Go.RowKit Q Go.WideMaps Go.Maps
def Cn (f:FuncId) (k:Nat) (a c:List ai):Prop:=∀W u,aj W u a->Calls Tryz.prog f #[u,.int .i64 k] W (aN W c)
theorem FQ(j l o:Value)(z:Int)(k:Nat)(a b c d p:List ai)(sc sg I J:Sz)(w:World)(y:Pk sc a)(Kb:Pk sc b)(o1:(sc.mul sc).ok)(q:Pk sg c)(B:Pk I d)(G:Pk J p)(o2:(sg.mul J).ok)(o3:(sg.mul I).ok)(k4:k<4)
  (hz:IntKind.i64.wrap z=z) (s:z.tmod 4=k) (i:Hid (a.length=0/\c.length=0/\p.length=0\/a.length≠0/\aO c p=a/\aH c k=0))
  (m1:Hid (∀W,Below w.heap.size w W->Calls Tryz.prog 11 #[j] W (aN W a)))
  (m2:Hid (∀W,Below w.heap.size w W->Calls Tryz.prog 11 #[l] W (aN W b)))
  (c1:Hid (Cn 18 k a c))
  (c2:Hid (Cn 18 k b d))
  (c3:Hid (Cn 20 k a p))
  (c4:Hid (a.length≠0->Cn 18 k p [(e0,(1:Rat))]))
  (c5:Hid (a.length≠0->Cn 18 k (aO a b) (aO c d))) :
  Calls Tryz.prog 6 #[.agg #[j,l,o],.int .u8 z] w (oP w (.bool true)):=by
 have hn1:=zH (λW=>fE 1 [(e0,(1:Rat))] W oM oM dK dK);have K1:=Xh;replace hz:=zH hz;replace s:=zH s
 go_enter Tryz.func6,Tryz.ntmps6
 go_upto_region 2 with (go_at_call 10;refine(oO _).mono ?_;rintro e w1 ⟨rfl,hb1⟩)
 have n:=(Below.refl w.heap.size w).alloc (nL _) (.cells #[j,l,o] 24);have hb0:=n.trans (hb1.mono n.size);have x:Blk w1 w.heap.size 24 [j,l,o]:=(show Blk (w.alloc (.cells #[j,l,o] 24)) w.heap.size 24 [j,l,o]from Blk.new w _ [j,l,o]).on hb1;have D:=hz.out;have C:=s.out;refine aD mixed (none) (0) (eQ.none) [.eq (.pointer (some ⟨w.heap.size,0,none⟩)),.eq (j),.poly dM dM (a),.eq (.pointer (some ⟨w.heap.size,1,none⟩)),.eq (l),.poly dM dM (b),.eq (.int .u8 z),.eq (.int .i64 z),.eq (.int .i64 (k:Int)),.poly dM dM (a),.poly dM dM (b)] [13,14,15,16,17,18,19,20,21,6,7] rfl rfl rfl rfl ⟨λA _ hA _ _ _=>have h2:A.eval (.tmp 2)=.pointer (some ⟨w.heap.size,0,none⟩):=hA 2 rfl;pZ rfl,λA _ _ hL _ he=>have hb:=hL.below;have h13:=eT 13 (he.1 rfl);have c0:=((x).on hb).at1 0 _ rfl;pZ rfl,λA _ _ _ hS he=>have hb:=hS rfl;have h14:=eT 14 (he.1 rfl);have hf0:=eF A 11;cP (f:=11) (args:=#[j]) (m1.out _ (hb0.trans (hb.mono hb0.size))),λA _ hA _ _ _=>have h2:A.eval (.tmp 2)=.pointer (some ⟨w.heap.size,0,none⟩):=hA 2 rfl;pZ rfl,λA _ _ hL _ he=>have hb:=hL.below;have h16:=eT 16 (he.1 rfl);have c0:=((x).on hb).at1 1 _ rfl;pZ rfl,λA _ _ _ hS he=>have hb:=hS rfl;have h17:=eT 17 (he.1 rfl);have hf0:=eF A 11;cP (f:=11) (args:=#[l]) (m2.out _ (hb0.trans (hb.mono hb0.size))),λ_ _ a _ _ _=>xM rfl (a 1 rfl),λA _ _ _ _ he=>have h19:=eT 19 (he.1 rfl);pZ rfl,λA _ _ _ _ he=>have h20:=eT 20 (he.1 rfl);have hc0:=eC A (.int .i64 4);pZ rfl,?_,?_,trivial⟩ ?_
 ·intro A w1 hA hL hS he;obtain⟨v15,h15,f15⟩:=fT 15 (he.1 rfl);exact af rfl (gT (c:=v15) rfl rfl (Below.refl _ _) f15 (by show Result.ok (Next.value (A.eval (.tmp 15))) w1=_;rw[h15]))
 ·intro A w1 hA hL hS he;obtain⟨v18,h18,f18⟩:=fT 18 (he.1 rfl);exact af rfl (gT (c:=v18) rfl rfl (Below.refl _ _) f18 (by show Result.ok (Next.value (A.eval (.tmp 18))) w1=_;rw[h18]))
 intro w2 hL;simp only[aQ,ae.eq,ae.poly,ae.ret,ae.of,lZ];rintro _ - _ - m ha vb hB;go_frame;have hb:=hL.below;replace hb0:=hb0.trans (hb.mono hb0.size);clear hL hb m1 m2 hz s D C n hb1 x
 go_upto_region 3 with (fail)
 refine aI trivial (none) (0) (eQ.none) [.eq (m),.eq (.int .i64 (k:Int)),.poly dM dM (c),.eq (vb),.eq (.int .i64 (k:Int)),.poly dM dM (d),.eq (m),.eq (.int .i64 (k:Int)),.poly dM dM (p)] [22,23,24,25,26,27,28,29,30] rfl rfl rfl rfl ⟨λ_ _ a _ _ _=>xM rfl (a 6 rfl),λ_ _ a _ _ _=>xM rfl (a 8 rfl),λA _ _ _ hS he=>have hb:=hS rfl;have h22:=eT 22 (he.1 rfl);have h23:=eT 23 (he.2.1 rfl);have hf0:=eF A 18;cP (f:=18) (args:=#[m,.int .i64 (k:Int)]) (c1.out _ _ (ha.on hb)),λ_ _ a _ _ _=>xM rfl (a 7 rfl),λ_ _ a _ _ _=>xM rfl (a 8 rfl),λA _ _ _ hS he=>have hb:=hS rfl;have h25:=eT 25 (he.1 rfl);have h26:=eT 26 (he.2.1 rfl);have hf0:=eF A 18;cP (f:=18) (args:=#[vb,.int .i64 (k:Int)]) (c2.out _ _ (hB.on hb)),λ_ _ a _ _ _=>xM rfl (a 6 rfl),λ_ _ a _ _ _=>xM rfl (a 8 rfl),λA _ _ _ hS he=>have hb:=hS rfl;have h28:=eT 28 (he.1 rfl);have h29:=eT 29 (he.2.1 rfl);have hf0:=eF A 20;cP (f:=20) (args:=#[m,.int .i64 (k:Int)]) (c3.out _ _ (ha.on hb)),trivial⟩ ?_;intro w3 hL;simp only[aQ,ae.eq,ae.poly,ae.ret,ae.of,lZ];rintro vc hc vd hd vp hp;go_frame;have hb:=hL.below;replace hb0:=hb0.trans (hb.mono hb0.size);replace ha:=ha.on hb;replace hB:=hB.on hb;clear hL hb c1 c2 c3
 go_upto_region 4 with (fail)
 refine aI trivial (none) (0) (eQ.none) [.eq (vc),.ret (.bool true),.eq (.bool false),.eq (.bool false),.eq (vd),.ret (.bool true),.eq (.bool false),.eq (.bool false),.eq (.bool false),.eq (vp),.ret (.bool true),.eq (.bool false),.eq (.bool false)] [31,32,33,34,35,36,37,38,39,40,41,42,43] rfl rfl rfl rfl ⟨λ_ _ a _ _ _=>xM rfl (a 9 rfl),λA _ _ _ hS he=>have hb:=hS rfl;have h31:=eT 31 (he.1 rfl);have hf0:=eF A 22;cP (f:=22) (args:=#[vc]) (um q (hc.on hb)),λA _ _ _ _ he=>have h32:=eT 32 (he.1 rfl);pZ rfl,λ_ _ _ _ _ e=>xM rfl (e.1 rfl),λ_ _ a _ _ e=>yM (e.1 rfl) rfl (a 10 rfl),λA _ _ _ hS he=>have hb:=hS rfl;have h34:=eT 34 (he.2.1 rfl);have h35:=eT 35 (he.1 rfl);have hf0:=eF A 22;cY (f:=22) (args:=#[vd]) h34 (um B (hd.on hb)),λA _ _ _ _ he=>have h34:=eT 34 (he.2.1 rfl);have h36:=eT 36 (he.1 rfl);yZ h34 rfl,λ_ _ _ _ _ e=>pK rfl (e.1 rfl) (e.2.1 rfl),λ_ _ _ _ _ e=>xM rfl (e.1 rfl),λ_ _ a _ _ e=>yM (e.1 rfl) rfl (a 11 rfl),λA _ _ _ hS he=>have hb:=hS rfl;have h39:=eT 39 (he.2.1 rfl);have h40:=eT 40 (he.1 rfl);have hf0:=eF A 22;cY (f:=22) (args:=#[vp]) h39 (um G (hp.on hb)),λA _ _ _ _ he=>have h39:=eT 39 (he.2.1 rfl);have h41:=eT 41 (he.1 rfl);yZ h39 rfl,λ_ _ _ _ _ e=>pK rfl (e.1 rfl) (e.2.1 rfl),trivial⟩ ?_;intro w4 hL;simp only[aQ,ae.eq,ae.poly,ae.ret,ae.of,lZ];go_frame
 have hb:=hL.below;replace hb0:=hb0.trans (hb.mono hb0.size);replace ha:=ha.on hb;replace hB:=hB.on hb;replace hc:=hc.on hb;replace hd:=hd.on hb;replace hp:=hp.on hb;clear hL hb;obtain⟨L,M,rfl,-⟩:=ha.shape;rcases i.out with ⟨h1,h2,h3⟩|⟨h1,h2,h3⟩
 ·have n1:(((a.length:Nat):Int)==0)=true:=by rw[h1];rfl
  have n2:(((c.length:Nat):Int)==0)=true:=by rw[h2];rfl
  have n3:(((p.length:Nat):Int)==0)=true:=by rw[h3];rfl
  obtain⟨N,S,rfl,-⟩:=hc.shape;obtain⟨ap,cp,rfl,-⟩:=hp.shape;clear c4 c5 i h1 h2 h3 ha hB hc hd hp;go_wp2;go_ret;exact⟨rfl,hb0⟩
 ·have n1:(((a.length:Nat):Int)==0)=false:=by simp;intro h;exact h1 (by rw[h];rfl)
  go_upto_region 8 with (fail)
  have c4:=zH (c4.out h1);have c5:=zH (c5.out h1);have e1:=zH h2;have e2:=zH h3;obtain⟨m,r⟩:∃u:Value,u=.slice L a.length M:=⟨_,rfl⟩;rw[<-r]at ha ⊢;clear n1 h1 h2 h3 i r;have F:=q.mul B o3;refine aI trivial (none) (0) (eQ.none) (.eq (vc)::.eq (vp)::.poly dM dM (a)::.eq (m)::.ret (.bool true)::.eq (.bool true)::.eq (vc)::.eq (.int .i64 (k:Int))::.ret (.int .i64 0)::.eq (.bool true)::.eq (.bool true)::.eq (.bool true)::.eq (vp)::.eq (.int .i64 (k:Int))::.poly dM dM ([(e0,(1:Rat))])::.poly dM dM ([(e0,(1:Rat))])::.ret (.bool true)::.eq (.bool true)::.eq (.bool true)::.eq (m)::.eq (vb)::.poly dM dM ((aO a b))::.eq (.int .i64 (k:Int))::.poly dM dM ((aO c d))::.eq (vc)::.eq (vd)::.poly dM dM ((aO c d))::.ret (.bool true)::.eq (.bool true)::.eq (.bool true)::.eq (.bool true)::.eq (.bool true)::[]) (58::59::60::61::62::63::64::65::66::67::68::69::70::71::72::73::74::75::76::77::78::79::80::81::82::83::84::85::86::87::88::89::[]) rfl rfl rfl rfl ⟨?_,?_,?_,?_,?_,?_,?_,?_,?_,?_,?_,?_,?_,?_,?_,?_,?_,?_,?_,?_,?_,?_,?_,?_,?_,?_,?_,?_,?_,?_,?_,?_,trivial⟩ ?_
  ·exact λ_ _ a _ _ _=>xM rfl (a 9 rfl)
  ·exact λ_ _ a _ _ _=>xM rfl (a 11 rfl)
  ·intro A w1 hA hL hS he;have hb:=hS rfl;have h58:=eT 58 (he.1 rfl);have h59:=eT 59 (he.2.1 rfl);have hf0:=eF A 12;exact cP (f:=12) (args:=#[vc,vp]) (e1.out▸uz q G o2 (hc.on hb) (hp.on hb))
  ·exact λ_ _ a _ _ _=>xM rfl (a 6 rfl)
  ·intro A w1 hA hL hS he;have hb:=hS rfl;obtain⟨v60,h60,f60⟩:=fT 60 (he.1 rfl);have h61:=eT 61 (he.2.1 rfl);have hf0:=eF A 13;exact cP (f:=13) (args:=#[v60,m]) (sK y y rfl f60 (ha.on hb))
  ·exact λ_ _ _ _ _ e=>xM rfl (e.1 rfl)
  ·exact λ_ _ a _ _ e=>yM (e.1 rfl) rfl (a 9 rfl)
  ·exact λ_ _ a _ _ e=>yM (e.1 rfl) rfl (a 8 rfl)
  ·intro A w1 hA hL hS he;have hb:=hS rfl;have h63:=eT 63 (he.2.2.1 rfl);have h64:=eT 64 (he.1 rfl);have h65:=eT 65 (he.2.1 rfl);have hf0:=eF A 27;exact cY (f:=27) (args:=#[vc,.int .i64 (k:Int)]) h63 (e2.out▸YY q k4 (hc.on hb))
  ·intro A w1 hA hL hS he;have h63:=eT 63 (he.2.1 rfl);have h66:=eT 66 (he.1 rfl);have hc0:=eC A (.int .i64 0);exact yZ h63 rfl
  ·intro A w1 hA hL hS he;have h63:=eT 63 (he.1 rfl);have h67:=eT 67 (he.2.1 rfl);have hc0:=eC A (.bool false);exact pZ rfl
  ·exact λ_ _ _ _ _ e=>xM rfl (e.1 rfl)
  ·exact λ_ _ a _ _ e=>yM (e.1 rfl) rfl (a 11 rfl)
  ·exact λ_ _ a _ _ e=>yM (e.1 rfl) rfl (a 8 rfl)
  ·intro A w1 hA hL hS he;have hb:=hS rfl;have h69:=eT 69 (he.2.2.1 rfl);have h70:=eT 70 (he.1 rfl);have h71:=eT 71 (he.2.1 rfl);have hf0:=eF A 18;exact cY (f:=18) (args:=#[vp,.int .i64 (k:Int)]) h69 (c4.out _ _ (hp.on hb))
  ·intro A w1 hA hL hS he;have hb:=hS rfl;have h69:=eT 69 (he.2.1 rfl);have hf0:=eF A 26;have hc0:=eC A (.int .i64 1);exact cY (f:=26) (args:=#[(.int .i64 1)]) h69 (hn1.out _)
  ·intro A w1 hA hL hS he;have hb:=hS rfl;have h69:=eT 69 (he.2.2.2.1 rfl);obtain⟨v72,h72,f72⟩:=fT 72 (he.1 rfl);obtain⟨v73,h73,f73⟩:=fT 73 (he.2.1 rfl);have hf0:=eF A 13;exact cY (f:=13) (args:=#[v72,v73]) h69 (sK K1 K1 rfl f72 f73)
  ·intro A w1 hA hL hS he;have h69:=eT 69 (he.1 rfl);have h74:=eT 74 (he.2.1 rfl);have hc0:=eC A (.bool false);exact pZ rfl
  ·exact λ_ _ _ _ _ e=>xM rfl (e.1 rfl)
  ·exact λ_ _ a _ _ e=>yM (e.1 rfl) rfl (a 6 rfl)
  ·exact λ_ _ a _ _ e=>yM (e.1 rfl) rfl (a 7 rfl)
  ·intro A w1 hA hL hS he;have hb:=hS rfl;have h76:=eT 76 (he.2.2.1 rfl);have h77:=eT 77 (he.1 rfl);have h78:=eT 78 (he.2.1 rfl);have hf0:=eF A 12;exact cY (f:=12) (args:=#[m,vb]) h76 (uz y Kb o1 (ha.on hb) (hB.on hb))
  ·exact λ_ _ a _ _ e=>yM (e.1 rfl) rfl (a 8 rfl)
  ·intro A w1 hA hL hS he;have hb:=hS rfl;have h76:=eT 76 (he.2.2.2.1 rfl);obtain⟨v79,h79,f79⟩:=fT 79 (he.1 rfl);have h80:=eT 80 (he.2.1 rfl);have hf0:=eF A 18;exact cY (f:=18) (args:=#[v79,.int .i64 (k:Int)]) h76 (c5.out _ _ f79)
  ·exact λ_ _ a _ _ e=>yM (e.1 rfl) rfl (a 9 rfl)
  ·exact λ_ _ a _ _ e=>yM (e.1 rfl) rfl (a 10 rfl)
  ·intro A w1 hA hL hS he;have hb:=hS rfl;have h76:=eT 76 (he.2.2.2.1 rfl);have h82:=eT 82 (he.1 rfl);have h83:=eT 83 (he.2.1 rfl);have hf0:=eF A 12;exact cY (f:=12) (args:=#[vc,vd]) h76 (uz q B o3 (hc.on hb) (hd.on hb))
  ·intro A w1 hA hL hS he;have hb:=hS rfl;have h76:=eT 76 (he.2.2.2.1 rfl);obtain⟨v81,h81,f81⟩:=fT 81 (he.1 rfl);obtain⟨v84,h84,f84⟩:=fT 84 (he.2.1 rfl);have hf0:=eF A 13;exact cY (f:=13) (args:=#[v81,v84]) h76 (sK F F rfl f81 f84)
  ·intro A w1 hA hL hS he;have h76:=eT 76 (he.1 rfl);have h85:=eT 85 (he.2.1 rfl);have hc0:=eC A (.bool false);exact pZ rfl
  ·exact λ_ _ _ _ _ e=>xM rfl (e.1 rfl)
  ·exact λ_ _ a _ _ e=>yM (e.1 rfl) rfl (a 5 rfl)
  ·intro A w1 hA hL hS he;have h87:=eT 87 (he.1 rfl);have h88:=eT 88 (he.2.1 rfl);have hc0:=eC A (.bool false);exact pZ rfl
  intro w9 hL;simp only[aQ,ae.eq,ae.poly,ae.ret,ae.of,lZ];rintro _ - _ - _ - _ - _ - _ -;go_frame;replace hb0:=hb0.trans (hL.below.mono hb0.size);clear hL;go_wp2;go_ret;exact⟨rfl,hb0⟩
end Go.Proofs.YtopclbeomcggiaaGreat
