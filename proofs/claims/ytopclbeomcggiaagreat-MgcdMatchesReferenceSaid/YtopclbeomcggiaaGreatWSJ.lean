/- law08.sanity: the fixed examples hold. -/
import Derived.Test.YtopclbeomcggiaaGreatWSG
set_option linter.unusedVariables false
set_option linter.unusedSimpArgs false
set_option maxHeartbeats 16000000
set_option maxRecDepth 100000
namespace Q
open Go Go.RowKit Go.Proofs.YtopclbeomcggiaaGreat
def af.fac {T:TypeId} (L:List (List ai × Nat)):af (Lr none T):=af.of (λv w=>Fv w v L) (λ_ _ _ hb h=>h.on hb.below)
def af.fac1 {T:TypeId} (f:List ai × Nat):af (Lr none T):=af.of (λv w=>∃u,v=.agg #[u,.int .i64 (f.2:Int)]/\ak w u f.1) (λ_ _ _ hb ⟨u,e,h⟩=>⟨u,e,h.on hb.below⟩)
end Q
namespace Go.Proofs.YtopclbeomcggiaaGreat
open Go.RowKit Q Go.WideMaps Go.Maps
section
variable {P:Program} {T:TypeId} {w:World} {o:Oper} {A:Act} {i:Nat} {pu fr:Nat->Bool} {φ:Nat->Value->World->Prop} {R:Exit->Act->World->Prop} {v u:Value} {p q:List ai}
theorem Uy(v:Value)(k:Int)(w:World)(h:ak w v p):(Instr.build 54 #[(0,v),(1,.int .i64 k)]).run Tryz.prog w=.ok (.agg #[v,.int .i64 k]) w:=by
 obtain⟨a,c,rfl,-⟩:=bU.shape h
 kernel_rfl
theorem FU{x:Operand}{k:Nat}(hp:pu i=false)(hf:fr i=false)(d:o.op=.build 54 #[(0,x),(1,.const (.int .i64 (k:Int)))])(e:A.eval x=v)(hc:A.eval (.const (.int .i64 (k:Int)))=.int .i64 (k:Int))(h:ak w v p)
  (b:∀v w,(∃u,v=.agg #[u,.int .i64 (k:Int)]/\ak w u p)->φ i v w:=by intro _ _ h;exact h):o.wp Tryz.prog A w (jW (Lr none T) pu fr φ o i A w) R:=by
 refine iM (c:=.agg #[v,.int .i64 (k:Int)]) hp hf (Below.refl _ _) (b _ _ ⟨v,rfl,h⟩) (oK d ?_);simp only[List.map_toArray,List.map_cons,List.map_nil,e,hc];exact Uy v k w h
theorem SE(v u:Value)(j k:Int)(w:World)(h:ak w v p)(b:ak w u q):(Instr.buildSlice 50 2 #[(0,.agg #[v,.int .i64 j]),(1,.agg #[u,.int .i64 k])]).run Tryz.prog w=.ok (.slice (some ⟨w.heap.size,0,none⟩) 2 2) (w.alloc (.cells #[v,.int .i64 j,u,.int .i64 k] 54)):=by
 obtain⟨a,c,rfl,-⟩:=bU.shape h;obtain⟨a',c',rfl,-⟩:=bU.shape b
 kernel_rfl
theorem PH{x y:Operand}{j k:Nat}(hp:pu i=false)(hf:fr i=false)(n:o.op=.buildSlice 50 2 #[(0,x),(1,y)])(r:A.eval x=v)(s:A.eval y=u)(h:∃z,v=.agg #[z,.int .i64 (j:Int)]/\ak w z p)(m:∃z,u=.agg #[z,.int .i64 (k:Int)]/\ak w z q)
  (l:∀v w,Fv w v [(p,j),(q,k)]->φ i v w:=by intro _ _ h;exact h):o.wp Tryz.prog A w (jW (Lr none T) pu fr φ o i A w) R:=by
 obtain⟨z,rfl,hz⟩:=h;obtain⟨d,rfl,e⟩:=m;have b:Below w.heap.size w (w.alloc (.cells #[z,.int .i64 (j:Int),d,.int .i64 (k:Int)] 54)):=(Below.refl _ _).alloc (nL _) _;refine iM hp hf b (l _ _ ⟨_,2,[z,.int .i64 (j:Int),d,.int .i64 (k:Int)],rfl,nL _,(Blk.new w 54 [z,.int .i64 (j:Int),d,.int .i64 (k:Int)]).at,⟨[z,.int .i64 (j:Int)],[d,.int .i64 (k:Int)],rfl,⟨z,rfl,hz.on b⟩,eO.single ⟨d,rfl,e.on b⟩⟩⟩) (bu n ?_);simp only[List.map_toArray,List.map_cons,List.map_nil,r,s];exact SE z d j k w hz e
end
theorem Uz{w:World}{v u:Value}{p q r:List ai}(e:Jz p q 0=some r)(h:CY p=true)(b:CY q=true)(hp:ak w v p)(hq:ak w u q):Calls Tryz.prog 33 #[v,u,.int .i64 0] w (aS w r):=Ew v u p q r 0 w hp hq (kI h) (kI b) dM e
theorem J8(w:World):Calls Tryz.prog 10 #[] w (rE w (.bool true)):=by
 go_enter Tryz.func10,Tryz.ntmps10
 have hb0:Below w.heap.size w w:=Below.refl _ _
 go_upto_region 1 with (fail)
 refine aR trivial (none) (0) (fK.none) [.poly dM dM ([tm 1 1 0]),.poly dM dM ([tm 1 0 1]),.poly dM dM ([tm 1 0 1,tm 1 1 0])] [13,14,15] rfl rfl rfl rfl ⟨λA _ _ _ hS _=>have hb:=hS rfl;have hf0:=eF A 40;cP (f:=40) (args:=#[]) (jG _),λA _ _ _ hS _=>have hb:=hS rfl;have hf0:=eF A 41;cP (f:=41) (args:=#[]) (qN _),?_,trivial⟩ ?_
 ·intro A w1 hA hL hS he;have hb:=hS rfl;obtain⟨v13,h13,f13⟩:=fT 13 (he.1 rfl);obtain⟨v14,h14,f14⟩:=fT 14 (he.2.1 rfl);have hf0:=eF A 39;exact cP (f:=39) (args:=#[v13,v14]) (Ai VU dK dK f13 f14)
 intro w1 hL;simp only[aT,af.eq,af.poly,af.rat,af.ret,af.fac,af.fac1,af.of,lZ];rintro _ - _ - vsum hsum;go_frame;have hb:=hL.below;replace hb0:=hb0.trans (hb.mono hb0.size);clear hL hb
 go_upto_region 2 with (fail)
 refine aR trivial (none) (0) (fK.none) [.poly dM dM ([tm 1 1 0]),.poly dM dM ([tm 1 0 0]),.poly dM dM ([tm 1 1 0,tm 1 0 0]),.poly dM dM ([tm 1 1 0]),.poly dM dM ([tm 1 0 0]),.poly dM dM ([tm 1 1 0,tm 1 0 0]),.poly dM dM ([tm 1 2 0,tm 2 1 0,tm 1 0 0])] [16,17,18,19,20,21,22] rfl rfl rfl rfl ⟨λA _ _ _ hS _=>have hb:=hS rfl;have hf0:=eF A 40;cP (f:=40) (args:=#[]) (jG _),λA _ _ _ hS _=>have hb:=hS rfl;have hf0:=eF A 26;have hc0:=eC A (.int .i64 1);cP (f:=26) (args:=#[(.int .i64 1)]) (fJ 1 [tm 1 0 0] _ oM oM dK dK),?_,λA _ _ _ hS _=>have hb:=hS rfl;have hf0:=eF A 40;cP (f:=40) (args:=#[]) (jG _),λA _ _ _ hS _=>have hb:=hS rfl;have hf0:=eF A 26;have hc0:=eC A (.int .i64 1);cP (f:=26) (args:=#[(.int .i64 1)]) (fJ 1 [tm 1 0 0] _ oM oM dK dK),?_,?_,trivial⟩ ?_
 ·intro A w1 hA hL hS he;have hb:=hS rfl;obtain⟨v16,h16,f16⟩:=fT 16 (he.1 rfl);obtain⟨v17,h17,f17⟩:=fT 17 (he.2.1 rfl);have hf0:=eF A 39;exact cP (f:=39) (args:=#[v16,v17]) (Ai JA dK dK f16 f17)
 ·intro A w1 hA hL hS he;have hb:=hS rfl;obtain⟨v19,h19,f19⟩:=fT 19 (he.1 rfl);obtain⟨v20,h20,f20⟩:=fT 20 (he.2.1 rfl);have hf0:=eF A 39;exact cP (f:=39) (args:=#[v19,v20]) (Ai JA dK dK f19 f20)
 ·intro A w1 hA hL hS he;have hb:=hS rfl;obtain⟨v18,h18,f18⟩:=fT 18 (he.1 rfl);obtain⟨v21,h21,f21⟩:=fT 21 (he.2.1 rfl);have hf0:=eF A 12;exact cP (f:=12) (args:=#[v18,v21]) (Aj Xf dK dK f18 f21)
 intro w2 hL;simp only[aT,af.eq,af.poly,af.rat,af.ret,af.fac,af.fac1,af.of,lZ];rintro _ - _ - _ - _ - _ - _ - vsq hsq;go_frame;have hb:=hL.below;replace hsum:=hsum.on hb;replace hb0:=hb0.trans (hb.mono hb0.size);clear hL hb
 go_upto_region 3 with (fail)
 refine aR trivial (none) (0) (fK.none) [.eq (vsum),.poly dM dM ([tm 1 1 0]),.poly dM dM ([tm 1 0 1]),.poly dM dM ([tm (-1) 0 1,tm 1 1 0]),.poly dM dM ([tm (-1) 0 2,tm 1 2 0])] [23,24,25,26,27] rfl rfl rfl rfl ⟨λ_ _ a _ _ _=>xM rfl (a 1 rfl),λA _ _ _ hS _=>have hb:=hS rfl;have hf0:=eF A 40;cP (f:=40) (args:=#[]) (jG _),λA _ _ _ hS _=>have hb:=hS rfl;have hf0:=eF A 41;cP (f:=41) (args:=#[]) (qN _),?_,?_,trivial⟩ ?_
 ·intro A w1 hA hL hS he;have hb:=hS rfl;obtain⟨v24,h24,f24⟩:=fT 24 (he.1 rfl);obtain⟨v25,h25,f25⟩:=fT 25 (he.2.1 rfl);have hf0:=eF A 35;exact cP (f:=35) (args:=#[v24,v25]) (Nr VV dK dK f24 f25)
 ·intro A w1 hA hL hS he;have hb:=hS rfl;have h23:=eT 23 (he.1 rfl);obtain⟨v26,h26,f26⟩:=fT 26 (he.2.1 rfl);have hf0:=eF A 12;exact cP (f:=12) (args:=#[vsum,v26]) (Aj Yy dK dK (hsum.on hb) f26)
 intro w3 hL;simp only[aT,af.eq,af.poly,af.rat,af.ret,af.fac,af.fac1,af.of,lZ];rintro _ - _ - _ - va ha;go_frame;have hb:=hL.below;replace hsum:=hsum.on hb;replace hsq:=hsq.on hb;replace hb0:=hb0.trans (hb.mono hb0.size);clear hL hb
 go_upto_region 4 with (fail)
 refine aR trivial (none) (0) (fK.none) [.poly dM dM ([tm 1 0 1]),.eq (vsum),.poly dM dM ([tm 1 0 2,tm 1 1 1])] [28,29,30] rfl rfl rfl rfl ⟨λA _ _ _ hS _=>have hb:=hS rfl;have hf0:=eF A 41;cP (f:=41) (args:=#[]) (qN _),λ_ _ a _ _ _=>xM rfl (a 1 rfl),?_,trivial⟩ ?_
 ·intro A w1 hA hL hS he;have hb:=hS rfl;obtain⟨v28,h28,f28⟩:=fT 28 (he.1 rfl);have h29:=eT 29 (he.2.1 rfl);have hf0:=eF A 12;exact cP (f:=12) (args:=#[v28,vsum]) (Aj Yz dK dK f28 (hsum.on hb))
 intro w4 hL;simp only[aT,af.eq,af.poly,af.rat,af.ret,af.fac,af.fac1,af.of,lZ];rintro _ - vb hbb;go_frame;have hb:=hL.below;replace hsum:=hsum.on hb;replace hsq:=hsq.on hb;replace ha:=ha.on hb;replace hb0:=hb0.trans (hb.mono hb0.size);clear hL hb
 go_upto_region 5 with (fail)
 refine aR trivial (none) (0) (fK.none) [.poly dM dM ([tm 1 0 1]),.poly dM dM ([tm 1 1 0]),.poly dM dM ([tm 1 0 0]),.poly dM dM ([tm 1 1 0,tm 1 0 0]),.poly dM dM ([tm 1 1 1,tm 1 0 1]),.rat dM (((2:Int):Rat)),.poly dM dM ([tm 2 1 1,tm 2 0 1])] [31,32,33,34,35,36,37] rfl rfl rfl rfl ⟨λA _ _ _ hS _=>have hb:=hS rfl;have hf0:=eF A 41;cP (f:=41) (args:=#[]) (qN _),λA _ _ _ hS _=>have hb:=hS rfl;have hf0:=eF A 40;cP (f:=40) (args:=#[]) (jG _),λA _ _ _ hS _=>have hb:=hS rfl;have hf0:=eF A 26;have hc0:=eC A (.int .i64 1);cP (f:=26) (args:=#[(.int .i64 1)]) (fJ 1 [tm 1 0 0] _ oM oM dK dK),?_,?_,λA _ _ _ hS _=>have hb:=hS rfl;have hf0:=eF A 24;have hc0:=eC A (.int .i64 2);cP (f:=24) (args:=#[(.int .i64 2)]) (gG 2 _ oM oM),?_,trivial⟩ ?_
 ·intro A w1 hA hL hS he;have hb:=hS rfl;obtain⟨v32,h32,f32⟩:=fT 32 (he.1 rfl);obtain⟨v33,h33,f33⟩:=fT 33 (he.2.1 rfl);have hf0:=eF A 39;exact cP (f:=39) (args:=#[v32,v33]) (Ai JA dK dK f32 f33)
 ·intro A w1 hA hL hS he;have hb:=hS rfl;obtain⟨v31,h31,f31⟩:=fT 31 (he.1 rfl);obtain⟨v34,h34,f34⟩:=fT 34 (he.2.1 rfl);have hf0:=eF A 12;exact cP (f:=12) (args:=#[v31,v34]) (Aj VW dK dK f31 f34)
 ·intro A w1 hA hL hS he;have hb:=hS rfl;obtain⟨v35,h35,f35⟩:=fT 35 (he.1 rfl);obtain⟨v36,h36,f36⟩:=fT 36 (he.2.1 rfl);have hf0:=eF A 42;exact cP (f:=42) (args:=#[v35,v36]) (A7 YA dK dK f35 f36)
 intro w5 hL;simp only[aT,af.eq,af.poly,af.rat,af.ret,af.fac,af.fac1,af.of,lZ];rintro _ - _ - _ - _ - _ - _ - vc hc;go_frame;have hb:=hL.below;replace hsum:=hsum.on hb;replace hsq:=hsq.on hb;replace ha:=ha.on hb;replace hbb:=hbb.on hb;replace hb0:=hb0.trans (hb.mono hb0.size);clear hL hb
 go_upto_region 6 with (fail)
 refine aR trivial (none) (0) (fK.none) [.poly dM dM ([tm 1 1 0]),.poly dM dM ([tm 1 0 1]),.poly dM dM ([tm 1 1 1]),.eq (vsq),.poly dM dM ([tm 1 3 1,tm 2 2 1,tm 1 1 1]),.fac [([tm 1 1 0],1),([tm 1 1 0,tm 1 0 0],2)]] [38,39,40,41,42,43] rfl rfl rfl rfl ⟨λA _ _ _ hS _=>have hb:=hS rfl;have hf0:=eF A 40;cP (f:=40) (args:=#[]) (jG _),λA _ _ _ hS _=>have hb:=hS rfl;have hf0:=eF A 41;cP (f:=41) (args:=#[]) (qN _),?_,λ_ _ a _ _ _=>xM rfl (a 2 rfl),?_,?_,trivial⟩ ?_
 ·intro A w1 hA hL hS he;have hb:=hS rfl;obtain⟨v38,h38,f38⟩:=fT 38 (he.1 rfl);obtain⟨v39,h39,f39⟩:=fT 39 (he.2.1 rfl);have hf0:=eF A 12;exact cP (f:=12) (args:=#[v38,v39]) (Aj Xg dK dK f38 f39)
 ·intro A w1 hA hL hS he;have hb:=hS rfl;obtain⟨v40,h40,f40⟩:=fT 40 (he.1 rfl);have h41:=eT 41 (he.2.1 rfl);have hf0:=eF A 12;exact cP (f:=12) (args:=#[v40,vsq]) (Aj YB dK dK f40 (hsq.on hb))
 ·intro A w1 hA hL hS he;have hb:=hS rfl;obtain⟨v42,h42,f42⟩:=fT 42 (he.1 rfl);have hf0:=eF A 29;have hc0:=eC A (.int .i64 0);exact cP (f:=29) (args:=#[v42,(.int .i64 0)]) (Xz YC dK f42)
 intro w6 hL;simp only[aT,af.eq,af.poly,af.rat,af.ret,af.fac,af.fac1,af.of,lZ];rintro _ - _ - _ - _ - vl hl;go_frame;have hb:=hL.below;replace hsum:=hsum.on hb;replace ha:=ha.on hb;replace hbb:=hbb.on hb;replace hc:=hc.on hb;replace hb0:=hb0.trans (hb.mono hb0.size);clear hL hb;clear hsq
 go_upto_region 7 with (fail)
 refine aR trivial (none) (0) (fK.none) [.poly dM dM ([tm 1 1 0]),.poly dM dM ([tm 2 0 0]),.poly dM dM ([tm 1 1 0,tm 2 0 0]),.rat dM (((2:Int):Rat)),.poly dM dM ([tm 2 1 0,tm 4 0 0]),.poly dM dM ([tm 1 1 0,tm 2 0 0]),.poly dM dM ([tm 1 1 0]),.poly dM dM ([tm 2 0 0]),.poly dM dM ([tm 1 1 0,tm 2 0 0]),.ret (.bool true),.eq (.bool true),.poly dM dM ([]),.eq (.int .i64 0),.eq (.bool true),.eq (.bool true)] [44,45,46,47,48,49,50,51,52,53,54,55,56,57,58] rfl rfl rfl rfl ⟨λA _ _ _ hS _=>have hb:=hS rfl;have hf0:=eF A 40;cP (f:=40) (args:=#[]) (jG _),λA _ _ _ hS _=>have hb:=hS rfl;have hf0:=eF A 26;have hc0:=eC A (.int .i64 2);cP (f:=26) (args:=#[(.int .i64 2)]) (fJ 2 [tm 2 0 0] _ oM oM dK dK),?_,λA _ _ _ hS _=>have hb:=hS rfl;have hf0:=eF A 24;have hc0:=eC A (.int .i64 2);cP (f:=24) (args:=#[(.int .i64 2)]) (gG 2 _ oM oM),?_,?_,λA _ _ _ hS _=>have hb:=hS rfl;have hf0:=eF A 40;cP (f:=40) (args:=#[]) (jG _),λA _ _ _ hS _=>have hb:=hS rfl;have hf0:=eF A 26;have hc0:=eC A (.int .i64 2);cP (f:=26) (args:=#[(.int .i64 2)]) (fJ 2 [tm 2 0 0] _ oM oM dK dK),?_,?_,λ_ _ _ _ _ e=>xM rfl (e.1 rfl),λA _ _ _ hS he=>have hb:=hS rfl;have h54:=eT 54 (he.1 rfl);have hf0:=eF A 14;have hc0:=eC A (.slice none 0 0);cY (f:=14) (args:=#[(.slice none 0 0)]) h54 (Dh _ _ (bU.nil _ _)),?_,λA _ _ _ _ he=>have h54:=eT 54 (he.2.1 rfl);have h56:=eT 56 (he.1 rfl);have hc0:=eC A (.int .i64 0);yZ h54 rfl,λ_ _ _ _ _ e=>pK rfl (e.1 rfl) (e.2.1 rfl),trivial⟩ ?_
 ·intro A w1 hA hL hS he;have hb:=hS rfl;obtain⟨v44,h44,f44⟩:=fT 44 (he.1 rfl);obtain⟨v45,h45,f45⟩:=fT 45 (he.2.1 rfl);have hf0:=eF A 39;exact cP (f:=39) (args:=#[v44,v45]) (Ai UR dK dK f44 f45)
 ·intro A w1 hA hL hS he;have hb:=hS rfl;obtain⟨v46,h46,f46⟩:=fT 46 (he.1 rfl);obtain⟨v47,h47,f47⟩:=fT 47 (he.2.1 rfl);have hf0:=eF A 42;exact cP (f:=42) (args:=#[v46,v47]) (A7 VX dK dK f46 f47)
 ·intro A w1 hA hL hS he;have hb:=hS rfl;obtain⟨v48,h48,f48⟩:=fT 48 (he.1 rfl);have hf0:=eF A 14;exact cP (f:=14) (args:=#[v48]) (Xw YD dK f48)
 ·intro A w1 hA hL hS he;have hb:=hS rfl;obtain⟨v50,h50,f50⟩:=fT 50 (he.1 rfl);obtain⟨v51,h51,f51⟩:=fT 51 (he.2.1 rfl);have hf0:=eF A 39;exact cP (f:=39) (args:=#[v50,v51]) (Ai UR dK dK f50 f51)
 ·intro A w1 hA hL hS he;have hb:=hS rfl;obtain⟨v49,h49,f49⟩:=fT 49 (he.1 rfl);obtain⟨v52,h52,f52⟩:=fT 52 (he.2.1 rfl);have hf0:=eF A 13;exact cP (f:=13) (args:=#[v49,v52]) (qo dK f49 f52)
 ·intro A w1 hA hL hS he;have h54:=eT 54 (he.2.1 rfl);obtain⟨v55,h55,f55⟩:=fT 55 (he.1 rfl);refine aQ rfl rfl h54 ?_;obtain⟨d,i,b,-⟩:=bU.shape f55;subst b;simp only[List.length_nil]at *;exact aB rfl rfl gZ
 intro w7 hL;simp only[aT,af.eq,af.poly,af.rat,af.ret,af.fac,af.fac1,af.of,lZ]
 intros
 go_frame;have hb:=hL.below;replace hsum:=hsum.on hb;replace ha:=ha.on hb;replace hbb:=hbb.on hb;replace hc:=hc.on hb;replace hl:=hl.on hb;replace hb0:=hb0.trans (hb.mono hb0.size);clear hL hb
 go_upto_region 8 with (fail)
 refine aR trivial (none) (0) (fK.none) [.eq (va),.eq (vb),.poly dM dM ([tm 1 0 1,tm 1 1 0]),.eq (vsum),.ret (.bool true),.eq (.bool true),.poly dM dM ([tm 1 1 0]),.rat dM (((3:Int):Rat)),.poly dM dM ([tm 3 1 0]),.poly dM dM ([tm 1 1 0]),.poly dM dM ([tm 1 1 0]),.ret (.bool true),.eq (.bool true),.eq (.bool true),.poly dM dM ([tm 1 1 0]),.poly dM dM ([tm 1 0 1]),.poly dM dM ([tm 1 0 0]),.poly dM dM ([tm 1 0 0]),.ret (.bool true),.eq (.bool true),.eq (.bool true),.poly dM dM ([tm 4 0 0]),.poly dM dM ([tm 6 0 0]),.poly dM dM ([tm 1 0 0]),.poly dM dM ([tm 1 0 0]),.ret (.bool true),.eq (.bool true),.eq (.bool true),.poly dM dM ([]),.eq (.int .i64 0),.eq (.bool true),.eq (.bool true)] [59,60,61,62,63,64,65,66,67,68,69,70,71,72,73,74,75,76,77,78,79,80,81,82,83,84,85,86,87,88,89,90] rfl rfl rfl rfl ⟨?_,?_,?_,?_,?_,?_,?_,?_,?_,?_,?_,?_,?_,?_,?_,?_,?_,?_,?_,?_,?_,?_,?_,?_,?_,?_,?_,?_,?_,?_,?_,?_,trivial⟩ ?_
 ·exact λ_ _ a _ _ _=>xM rfl (a 3 rfl)
 ·exact λ_ _ a _ _ _=>xM rfl (a 4 rfl)
 ·intro A w1 hA hL hS he;have hb:=hS rfl;have h59:=eT 59 (he.1 rfl);have h60:=eT 60 (he.2.1 rfl);have hf0:=eF A 16;exact cP (f:=16) (args:=#[va,vb]) (RA Xh dK dK (ha.on hb) (hbb.on hb))
 ·exact λ_ _ a _ _ _=>xM rfl (a 1 rfl)
 ·intro A w1 hA hL hS he;have hb:=hS rfl;obtain⟨v61,h61,f61⟩:=fT 61 (he.1 rfl);have h62:=eT 62 (he.2.1 rfl);have hf0:=eF A 13;exact cP (f:=13) (args:=#[v61,vsum]) (qo dK f61 (hsum.on hb))
 ·exact λ_ _ _ _ _ e=>xM rfl (e.1 rfl)
 ·intro A w1 hA hL hS he;have hb:=hS rfl;have h64:=eT 64 (he.1 rfl);have hf0:=eF A 40;exact cY (f:=40) (args:=#[]) h64 (jG _)
 ·intro A w1 hA hL hS he;have hb:=hS rfl;have h64:=eT 64 (he.2.1 rfl);have hf0:=eF A 24;have hc0:=eC A (.int .i64 3);exact cY (f:=24) (args:=#[(.int .i64 3)]) h64 (gG 3 _ oM oM)
 ·intro A w1 hA hL hS he;have hb:=hS rfl;have h64:=eT 64 (he.2.2.2.1 rfl);obtain⟨v65,h65,f65⟩:=fT 65 (he.1 rfl);obtain⟨v66,h66,f66⟩:=fT 66 (he.2.1 rfl);have hf0:=eF A 42;exact cY (f:=42) (args:=#[v65,v66]) h64 (A7 Xi dK dK f65 f66)
 ·intro A w1 hA hL hS he;have hb:=hS rfl;have h64:=eT 64 (he.2.2.1 rfl);obtain⟨v67,h67,f67⟩:=fT 67 (he.1 rfl);have hf0:=eF A 16;have hc0:=eC A (.slice none 0 0);exact cY (f:=16) (args:=#[(.slice none 0 0),v67]) h64 (RA Xj dK dK (bU.nil _ _) f67)
 ·intro A w1 hA hL hS he;have hb:=hS rfl;have h64:=eT 64 (he.2.1 rfl);have hf0:=eF A 40;exact cY (f:=40) (args:=#[]) h64 (jG _)
 ·intro A w1 hA hL hS he;have hb:=hS rfl;have h64:=eT 64 (he.2.2.2.1 rfl);obtain⟨v68,h68,f68⟩:=fT 68 (he.1 rfl);obtain⟨v69,h69,f69⟩:=fT 69 (he.2.1 rfl);have hf0:=eF A 13;exact cY (f:=13) (args:=#[v68,v69]) h64 (qo dK f68 f69)
 ·exact λ_ _ _ _ _ e=>pK rfl (e.1 rfl) (e.2.1 rfl)
 ·exact λ_ _ _ _ _ e=>xM rfl (e.1 rfl)
 ·intro A w1 hA hL hS he;have hb:=hS rfl;have h72:=eT 72 (he.1 rfl);have hf0:=eF A 40;exact cY (f:=40) (args:=#[]) h72 (jG _)
 ·intro A w1 hA hL hS he;have hb:=hS rfl;have h72:=eT 72 (he.2.1 rfl);have hf0:=eF A 41;exact cY (f:=41) (args:=#[]) h72 (qN _)
 ·intro A w1 hA hL hS he;have hb:=hS rfl;have h72:=eT 72 (he.2.2.2.1 rfl);obtain⟨v73,h73,f73⟩:=fT 73 (he.1 rfl);obtain⟨v74,h74,f74⟩:=fT 74 (he.2.1 rfl);have hf0:=eF A 16;exact cY (f:=16) (args:=#[v73,v74]) h72 (RA Xk dK dK f73 f74)
 ·intro A w1 hA hL hS he;have hb:=hS rfl;have h72:=eT 72 (he.2.1 rfl);have hf0:=eF A 26;have hc0:=eC A (.int .i64 1);exact cY (f:=26) (args:=#[(.int .i64 1)]) h72 (fJ 1 [tm 1 0 0] _ oM oM dK dK)
 ·intro A w1 hA hL hS he;have hb:=hS rfl;have h72:=eT 72 (he.2.2.2.1 rfl);obtain⟨v75,h75,f75⟩:=fT 75 (he.1 rfl);obtain⟨v76,h76,f76⟩:=fT 76 (he.2.1 rfl);have hf0:=eF A 13;exact cY (f:=13) (args:=#[v75,v76]) h72 (qo dK f75 f76)
 ·exact λ_ _ _ _ _ e=>pK rfl (e.1 rfl) (e.2.1 rfl)
 ·exact λ_ _ _ _ _ e=>xM rfl (e.1 rfl)
 ·intro A w1 hA hL hS he;have hb:=hS rfl;have h79:=eT 79 (he.1 rfl);have hf0:=eF A 26;have hc0:=eC A (.int .i64 4);exact cY (f:=26) (args:=#[(.int .i64 4)]) h79 (fJ 4 [tm 4 0 0] _ oM oM dK dK)
 ·intro A w1 hA hL hS he;have hb:=hS rfl;have h79:=eT 79 (he.2.1 rfl);have hf0:=eF A 26;have hc0:=eC A (.int .i64 6);exact cY (f:=26) (args:=#[(.int .i64 6)]) h79 (fJ 6 [tm 6 0 0] _ oM oM dK dK)
 ·intro A w1 hA hL hS he;have hb:=hS rfl;have h79:=eT 79 (he.2.2.2.1 rfl);obtain⟨v80,h80,f80⟩:=fT 80 (he.1 rfl);obtain⟨v81,h81,f81⟩:=fT 81 (he.2.1 rfl);have hf0:=eF A 16;exact cY (f:=16) (args:=#[v80,v81]) h79 (RA Xl dK dK f80 f81)
 ·intro A w1 hA hL hS he;have hb:=hS rfl;have h79:=eT 79 (he.2.1 rfl);have hf0:=eF A 26;have hc0:=eC A (.int .i64 1);exact cY (f:=26) (args:=#[(.int .i64 1)]) h79 (fJ 1 [tm 1 0 0] _ oM oM dK dK)
 ·intro A w1 hA hL hS he;have hb:=hS rfl;have h79:=eT 79 (he.2.2.2.1 rfl);obtain⟨v82,h82,f82⟩:=fT 82 (he.1 rfl);obtain⟨v83,h83,f83⟩:=fT 83 (he.2.1 rfl);have hf0:=eF A 13;exact cY (f:=13) (args:=#[v82,v83]) h79 (qo dK f82 f83)
 ·exact λ_ _ _ _ _ e=>pK rfl (e.1 rfl) (e.2.1 rfl)
 ·exact λ_ _ _ _ _ e=>xM rfl (e.1 rfl)
 ·intro A w1 hA hL hS he;have hb:=hS rfl;have h86:=eT 86 (he.1 rfl);have hf0:=eF A 16;have hc0:=eC A (.slice none 0 0);exact cY (f:=16) (args:=#[(.slice none 0 0),(.slice none 0 0)]) h86 (RA Xm dK dK (bU.nil _ _) (bU.nil _ _))
 ·intro A w1 hA hL hS he;have h86:=eT 86 (he.2.1 rfl);obtain⟨v87,h87,f87⟩:=fT 87 (he.1 rfl);refine aQ rfl rfl h86 ?_;obtain⟨d,i,b,-⟩:=bU.shape f87;subst b;simp only[List.length_nil]at *;exact aB rfl rfl gZ
 ·intro A w1 hA hL hS he;have h86:=eT 86 (he.2.1 rfl);have h88:=eT 88 (he.1 rfl);have hc0:=eC A (.int .i64 0);exact yZ h86 rfl
 ·exact λ_ _ _ _ _ e=>pK rfl (e.1 rfl) (e.2.1 rfl)
 intro w8 hL;simp only[aT,af.eq,af.poly,af.rat,af.ret,af.fac,af.fac1,af.of,lZ]
 intros
 go_frame;have hb:=hL.below;replace hc:=hc.on hb;replace hl:=hl.on hb;replace hb0:=hb0.trans (hb.mono hb0.size);clear hL hb;clear hsum ha hbb
 go_upto_region 9 with (fail)
 refine aR trivial (none) (0) (fK.none) [.eq (vc),.poly dM dM ([tm 1 0 1]),.poly dM dM ([tm 1 0 1]),.ret (.bool true),.eq (.bool true),.eq (vc),.poly dM dM ([tm 2 1 0,tm 2 0 0]),.poly dM dM ([tm 1 1 0]),.poly dM dM ([tm 1 0 0]),.poly dM dM ([tm 1 1 0,tm 1 0 0]),.rat dM (((2:Int):Rat)),.poly dM dM ([tm 2 1 0,tm 2 0 0]),.ret (.bool true),.eq (.bool true)] [91,92,93,94,95,96,97,98,99,100,101,102,103,104] rfl rfl rfl rfl ⟨λ_ _ a _ _ _=>xM rfl (a 5 rfl),λA _ _ _ hS he=>have hb:=hS rfl;have h91:=eT 91 (he.1 rfl);have hf0:=eF A 18;have hc0:=eC A (.int .i64 0);cP (f:=18) (args:=#[vc,(.int .i64 0)]) (Xx Xn dK (hc.on hb)),λA _ _ _ hS _=>have hb:=hS rfl;have hf0:=eF A 41;cP (f:=41) (args:=#[]) (qN _),?_,λ_ _ _ _ _ e=>xM rfl (e.1 rfl),λ_ _ a _ _ e=>yM (e.1 rfl) rfl (a 5 rfl),λA _ _ _ hS he=>have hb:=hS rfl;have h95:=eT 95 (he.2.1 rfl);have h96:=eT 96 (he.1 rfl);have hf0:=eF A 20;have hc0:=eC A (.int .i64 0);cY (f:=20) (args:=#[vc,(.int .i64 0)]) h95 (Xy Xo dK (hc.on hb)),λA _ _ _ hS he=>have hb:=hS rfl;have h95:=eT 95 (he.2.1 rfl);have hf0:=eF A 40;cY (f:=40) (args:=#[]) h95 (jG _),λA _ _ _ hS he=>have hb:=hS rfl;have h95:=eT 95 (he.2.1 rfl);have hf0:=eF A 26;have hc0:=eC A (.int .i64 1);cY (f:=26) (args:=#[(.int .i64 1)]) h95 (fJ 1 [tm 1 0 0] _ oM oM dK dK),?_,λA _ _ _ hS he=>have hb:=hS rfl;have h95:=eT 95 (he.2.1 rfl);have hf0:=eF A 24;have hc0:=eC A (.int .i64 2);cY (f:=24) (args:=#[(.int .i64 2)]) h95 (gG 2 _ oM oM),?_,?_,λ_ _ _ _ _ e=>pK rfl (e.1 rfl) (e.2.1 rfl),trivial⟩ ?_
 ·intro A w1 hA hL hS he;have hb:=hS rfl;obtain⟨v92,h92,f92⟩:=fT 92 (he.1 rfl);obtain⟨v93,h93,f93⟩:=fT 93 (he.2.1 rfl);have hf0:=eF A 13;exact cP (f:=13) (args:=#[v92,v93]) (qo dK f92 f93)
 ·intro A w1 hA hL hS he;have hb:=hS rfl;have h95:=eT 95 (he.2.2.2.1 rfl);obtain⟨v98,h98,f98⟩:=fT 98 (he.1 rfl);obtain⟨v99,h99,f99⟩:=fT 99 (he.2.1 rfl);have hf0:=eF A 39;exact cY (f:=39) (args:=#[v98,v99]) h95 (Ai JA dK dK f98 f99)
 ·intro A w1 hA hL hS he;have hb:=hS rfl;have h95:=eT 95 (he.2.2.2.1 rfl);obtain⟨v100,h100,f100⟩:=fT 100 (he.1 rfl);obtain⟨v101,h101,f101⟩:=fT 101 (he.2.1 rfl);have hf0:=eF A 42;exact cY (f:=42) (args:=#[v100,v101]) h95 (A7 VY dK dK f100 f101)
 ·intro A w1 hA hL hS he;have hb:=hS rfl;have h95:=eT 95 (he.2.2.2.1 rfl);obtain⟨v97,h97,f97⟩:=fT 97 (he.1 rfl);obtain⟨v102,h102,f102⟩:=fT 102 (he.2.1 rfl);have hf0:=eF A 13;exact cY (f:=13) (args:=#[v97,v102]) h95 (qo dK f97 f102)
 intro w9 hL;simp only[aT,af.eq,af.poly,af.rat,af.ret,af.fac,af.fac1,af.of,lZ]
 intros
 go_frame;have hb:=hL.below;replace hl:=hl.on hb;replace hb0:=hb0.trans (hb.mono hb0.size);clear hL hb;clear hc
 go_upto_region 10 with (fail)
 refine aR trivial (none) (0) (fK.none) [.eq (vl),.poly dM dM ([tm 1 1 0]),.fac1 ([tm 1 1 0],1),.poly dM dM ([tm 1 1 0]),.poly dM dM ([tm 1 0 0]),.poly dM dM ([tm 1 1 0,tm 1 0 0]),.fac1 ([tm 1 1 0,tm 1 0 0],2),.fac [([tm 1 1 0],1),([tm 1 1 0,tm 1 0 0],2)],.ret (.bool true),.eq (.bool true),.poly dM dM ([tm 1 0 1]),.fac [],.eq (.int .i64 0),.eq (.bool true),.eq (.bool true)] [105,106,107,108,109,110,111,112,113,114,115,116,117,118,119] rfl rfl rfl rfl ⟨λ_ _ a _ _ _=>xM rfl (a 6 rfl),λA _ _ _ hS _=>have hb:=hS rfl;have hf0:=eF A 40;cP (f:=40) (args:=#[]) (jG _),?_,λA _ _ _ hS _=>have hb:=hS rfl;have hf0:=eF A 40;cP (f:=40) (args:=#[]) (jG _),λA _ _ _ hS _=>have hb:=hS rfl;have hf0:=eF A 26;have hc0:=eC A (.int .i64 1);cP (f:=26) (args:=#[(.int .i64 1)]) (fJ 1 [tm 1 0 0] _ oM oM dK dK),?_,?_,?_,?_,λ_ _ _ _ _ e=>xM rfl (e.1 rfl),λA _ _ _ hS he=>have hb:=hS rfl;have h114:=eT 114 (he.1 rfl);have hf0:=eF A 41;cY (f:=41) (args:=#[]) h114 (qN _),?_,?_,λA _ _ _ _ he=>have h114:=eT 114 (he.2.1 rfl);have h117:=eT 117 (he.1 rfl);have hc0:=eC A (.int .i64 0);yZ h114 rfl,λ_ _ _ _ _ e=>pK rfl (e.1 rfl) (e.2.1 rfl),trivial⟩ ?_
 ·intro A w1 hA hL hS he;obtain⟨v106,h106,f106⟩:=fT 106 (he.1 rfl);have hc0:=eC A (.int .i64 1);refine ae rfl ?_;exact FU (k:=1) rfl rfl rfl h106 rfl f106
 ·intro A w1 hA hL hS he;have hb:=hS rfl;obtain⟨v108,h108,f108⟩:=fT 108 (he.1 rfl);obtain⟨v109,h109,f109⟩:=fT 109 (he.2.1 rfl);have hf0:=eF A 39;exact cP (f:=39) (args:=#[v108,v109]) (Ai JA dK dK f108 f109)
 ·intro A w1 hA hL hS he;obtain⟨v110,h110,f110⟩:=fT 110 (he.1 rfl);have hc0:=eC A (.int .i64 2);refine ae rfl ?_;exact FU (k:=2) rfl rfl rfl h110 rfl f110
 ·intro A w1 hA hL hS he;obtain⟨v107,h107,f107⟩:=fT 107 (he.1 rfl);obtain⟨v111,h111,f111⟩:=fT 111 (he.2.1 rfl);refine ae rfl ?_;exact PH rfl rfl rfl h107 h111 f107 f111
 ·intro A w1 hA hL hS he;have hb:=hS rfl;have h105:=eT 105 (he.1 rfl);obtain⟨v112,h112,f112⟩:=fT 112 (he.2.1 rfl);have hf0:=eF A 30;exact cP (f:=30) (args:=#[vl,v112]) (LJ _ _ [([tm 1 1 0],1),([tm 1 1 0,tm 1 0 0],2)] _ (hl.on hb) f112 dK dM)
 ·intro A w1 hA hL hS he;have hb:=hS rfl;have h114:=eT 114 (he.2.2.1 rfl);obtain⟨v115,h115,f115⟩:=fT 115 (he.1 rfl);have hf0:=eF A 29;have hc0:=eC A (.int .i64 0);exact cY (f:=29) (args:=#[v115,(.int .i64 0)]) h114 (Xz Xp dK f115)
 ·intro A w1 hA hL hS he;have h114:=eT 114 (he.2.1 rfl);obtain⟨v116,h116,f116⟩:=fT 116 (he.1 rfl);refine aQ rfl rfl h114 ?_;obtain⟨d,i,b,-⟩:=bU.shape f116;subst b;simp only[List.length_nil]at *;exact aB rfl rfl gZ
 intro w10 hL;simp only[aT,af.eq,af.poly,af.rat,af.ret,af.fac,af.fac1,af.of,lZ]
 intros
 go_frame;have hb:=hL.below;replace hb0:=hb0.trans (hb.mono hb0.size);clear hL hb;clear hl
 go_upto_region 11 with (fail)
 refine aR trivial (none) (0) (fK.none) [.poly dM dM ([tm 1 1 0]),.poly dM dM ([tm 1 1 0]),.poly dM dM ([tm 1 2 0]),.poly dM dM ([tm 1 0 1]),.poly dM dM ([tm (-1) 0 1,tm 1 2 0]),.poly dM dM ([tm 1 1 0]),.poly dM dM ([tm 1 0 0]),.poly dM dM ([tm 1 1 0,tm (-1) 0 0]),.poly dM dM ([tm (-1) 0 1,tm 1 0 0]),.poly dM dM ([tm 1 0 0]),.poly dM dM ([tm 1 0 1]),.poly dM dM ([tm (-1) 0 1,tm 1 0 0]),.ret (.bool true)] [120,121,122,123,124,125,126,127,128,129,130,131,132] rfl rfl rfl rfl ⟨λA _ _ _ hS _=>have hb:=hS rfl;have hf0:=eF A 40;cP (f:=40) (args:=#[]) (jG _),λA _ _ _ hS _=>have hb:=hS rfl;have hf0:=eF A 40;cP (f:=40) (args:=#[]) (jG _),?_,λA _ _ _ hS _=>have hb:=hS rfl;have hf0:=eF A 41;cP (f:=41) (args:=#[]) (qN _),?_,λA _ _ _ hS _=>have hb:=hS rfl;have hf0:=eF A 40;cP (f:=40) (args:=#[]) (jG _),λA _ _ _ hS _=>have hb:=hS rfl;have hf0:=eF A 26;have hc0:=eC A (.int .i64 1);cP (f:=26) (args:=#[(.int .i64 1)]) (fJ 1 [tm 1 0 0] _ oM oM dK dK),?_,?_,λA _ _ _ hS _=>have hb:=hS rfl;have hf0:=eF A 26;have hc0:=eC A (.int .i64 1);cP (f:=26) (args:=#[(.int .i64 1)]) (fJ 1 [tm 1 0 0] _ oM oM dK dK),λA _ _ _ hS _=>have hb:=hS rfl;have hf0:=eF A 41;cP (f:=41) (args:=#[]) (qN _),?_,?_,trivial⟩ ?_
 ·intro A w1 hA hL hS he;have hb:=hS rfl;obtain⟨v120,h120,f120⟩:=fT 120 (he.1 rfl);obtain⟨v121,h121,f121⟩:=fT 121 (he.2.1 rfl);have hf0:=eF A 12;exact cP (f:=12) (args:=#[v120,v121]) (Aj Q.sw_xx dK dK f120 f121)
 ·intro A w1 hA hL hS he;have hb:=hS rfl;obtain⟨v122,h122,f122⟩:=fT 122 (he.1 rfl);obtain⟨v123,h123,f123⟩:=fT 123 (he.2.1 rfl);have hf0:=eF A 35;exact cP (f:=35) (args:=#[v122,v123]) (Nr VZ dK dK f122 f123)
 ·intro A w1 hA hL hS he;have hb:=hS rfl;obtain⟨v125,h125,f125⟩:=fT 125 (he.1 rfl);obtain⟨v126,h126,f126⟩:=fT 126 (he.2.1 rfl);have hf0:=eF A 35;exact cP (f:=35) (args:=#[v125,v126]) (Nr V3 dK dK f125 f126)
 ·intro A w1 hA hL hS he;have hb:=hS rfl;obtain⟨v124,h124,f124⟩:=fT 124 (he.1 rfl);obtain⟨v127,h127,f127⟩:=fT 127 (he.2.1 rfl);have hf0:=eF A 33;have hc0:=eC A (.int .i64 0);exact cP (f:=33) (args:=#[v124,v127,(.int .i64 0)]) (Uz Xq dK dK f124 f127)
 ·intro A w1 hA hL hS he;have hb:=hS rfl;obtain⟨v129,h129,f129⟩:=fT 129 (he.1 rfl);obtain⟨v130,h130,f130⟩:=fT 130 (he.2.1 rfl);have hf0:=eF A 35;exact cP (f:=35) (args:=#[v129,v130]) (Nr V4 dK dK f129 f130)
 ·intro A w1 hA hL hS he;have hb:=hS rfl;obtain⟨v128,h128,f128⟩:=fT 128 (he.1 rfl);obtain⟨v131,h131,f131⟩:=fT 131 (he.2.1 rfl);have hf0:=eF A 13;exact cP (f:=13) (args:=#[v128,v131]) (qo dK f128 f131)
 intro w11 hL;simp only[aT,af.eq,af.poly,af.rat,af.ret,af.fac,af.fac1,af.of,lZ]
 intros
 go_frame;have hb:=hL.below;replace hb0:=hb0.trans (hb.mono hb0.size);clear hL hb
 go_upto_region 12 with (fail)
 refine aR trivial (none) (0) (fK.none) [.poly dM dM ([tm 2 0 0]),.poly dM dM ([tm 3 0 0]),.poly dM dM ([tm 1 0 0]),.poly dM dM ([tm 1 0 0]),.ret (.bool true),.eq (.bool true),.poly dM dM ([tm 2 0 0]),.poly dM dM ([tm 1 1 0]),.poly dM dM ([tm 1 1 0]),.poly dM dM ([tm 1 2 0]),.poly dM dM ([tm 4 0 0]),.poly dM dM ([tm 4 0 0]),.ret (.bool true),.eq (.bool true),.eq (.bool true),.poly dM dM ([tm 1 0 0]),.poly dM dM ([]),.eq (.int .i64 0),.eq (.bool true),.eq (.bool true)] [133,134,135,136,137,138,139,140,141,142,143,144,145,146,147,148,149,150,151,152] rfl rfl rfl rfl ⟨λA _ _ _ hS _=>have hb:=hS rfl;have hf0:=eF A 26;have hc0:=eC A (.int .i64 2);cP (f:=26) (args:=#[(.int .i64 2)]) (fJ 2 [tm 2 0 0] _ oM oM dK dK),λA _ _ _ hS _=>have hb:=hS rfl;have hf0:=eF A 26;have hc0:=eC A (.int .i64 3);cP (f:=26) (args:=#[(.int .i64 3)]) (fJ 3 [tm 3 0 0] _ oM oM dK dK),?_,λA _ _ _ hS _=>have hb:=hS rfl;have hf0:=eF A 26;have hc0:=eC A (.int .i64 1);cP (f:=26) (args:=#[(.int .i64 1)]) (fJ 1 [tm 1 0 0] _ oM oM dK dK),?_,λ_ _ _ _ _ e=>xM rfl (e.1 rfl),λA _ _ _ hS he=>have hb:=hS rfl;have h138:=eT 138 (he.1 rfl);have hf0:=eF A 26;have hc0:=eC A (.int .i64 2);cY (f:=26) (args:=#[(.int .i64 2)]) h138 (fJ 2 [tm 2 0 0] _ oM oM dK dK),λA _ _ _ hS he=>have hb:=hS rfl;have h138:=eT 138 (he.2.1 rfl);have hf0:=eF A 40;cY (f:=40) (args:=#[]) h138 (jG _),λA _ _ _ hS he=>have hb:=hS rfl;have h138:=eT 138 (he.2.1 rfl);have hf0:=eF A 40;cY (f:=40) (args:=#[]) h138 (jG _),?_,?_,λA _ _ _ hS he=>have hb:=hS rfl;have h138:=eT 138 (he.2.1 rfl);have hf0:=eF A 26;have hc0:=eC A (.int .i64 4);cY (f:=26) (args:=#[(.int .i64 4)]) h138 (fJ 4 [tm 4 0 0] _ oM oM dK dK),?_,λ_ _ _ _ _ e=>pK rfl (e.1 rfl) (e.2.1 rfl),λ_ _ _ _ _ e=>xM rfl (e.1 rfl),λA _ _ _ hS he=>have hb:=hS rfl;have h147:=eT 147 (he.1 rfl);have hf0:=eF A 26;have hc0:=eC A (.int .i64 1);cY (f:=26) (args:=#[(.int .i64 1)]) h147 (fJ 1 [tm 1 0 0] _ oM oM dK dK),?_,?_,λA _ _ _ _ he=>have h147:=eT 147 (he.2.1 rfl);have h150:=eT 150 (he.1 rfl);have hc0:=eC A (.int .i64 0);yZ h147 rfl,λ_ _ _ _ _ e=>pK rfl (e.1 rfl) (e.2.1 rfl),trivial⟩ ?_
 ·intro A w1 hA hL hS he;have hb:=hS rfl;obtain⟨v133,h133,f133⟩:=fT 133 (he.1 rfl);obtain⟨v134,h134,f134⟩:=fT 134 (he.2.1 rfl);have hf0:=eF A 33;have hc0:=eC A (.int .i64 0);exact cP (f:=33) (args:=#[v133,v134,(.int .i64 0)]) (Uz Xr dK dK f133 f134)
 ·intro A w1 hA hL hS he;have hb:=hS rfl;obtain⟨v135,h135,f135⟩:=fT 135 (he.1 rfl);obtain⟨v136,h136,f136⟩:=fT 136 (he.2.1 rfl);have hf0:=eF A 13;exact cP (f:=13) (args:=#[v135,v136]) (qo dK f135 f136)
 ·intro A w1 hA hL hS he;have hb:=hS rfl;have h138:=eT 138 (he.2.2.2.1 rfl);obtain⟨v140,h140,f140⟩:=fT 140 (he.1 rfl);obtain⟨v141,h141,f141⟩:=fT 141 (he.2.1 rfl);have hf0:=eF A 12;exact cY (f:=12) (args:=#[v140,v141]) h138 (Aj Q.sw_xx dK dK f140 f141)
 ·intro A w1 hA hL hS he;have hb:=hS rfl;have h138:=eT 138 (he.2.2.2.1 rfl);obtain⟨v139,h139,f139⟩:=fT 139 (he.1 rfl);obtain⟨v142,h142,f142⟩:=fT 142 (he.2.1 rfl);have hf0:=eF A 33;have hc0:=eC A (.int .i64 0);exact cY (f:=33) (args:=#[v139,v142,(.int .i64 0)]) h138 (Uz Xt dK dK f139 f142)
 ·intro A w1 hA hL hS he;have hb:=hS rfl;have h138:=eT 138 (he.2.2.2.1 rfl);obtain⟨v143,h143,f143⟩:=fT 143 (he.1 rfl);obtain⟨v144,h144,f144⟩:=fT 144 (he.2.1 rfl);have hf0:=eF A 13;exact cY (f:=13) (args:=#[v143,v144]) h138 (qo dK f143 f144)
 ·intro A w1 hA hL hS he;have hb:=hS rfl;have h147:=eT 147 (he.2.2.1 rfl);obtain⟨v148,h148,f148⟩:=fT 148 (he.1 rfl);have hf0:=eF A 33;have hc0:=eC A (.slice none 0 0);have hc1:=eC A (.int .i64 0);exact cY (f:=33) (args:=#[(.slice none 0 0),v148,(.int .i64 0)]) h147 (Uz Xu dK dK (bU.nil _ _) f148)
 ·intro A w1 hA hL hS he;have h147:=eT 147 (he.2.1 rfl);obtain⟨v149,h149,f149⟩:=fT 149 (he.1 rfl);refine aQ rfl rfl h147 ?_;obtain⟨d,i,b,-⟩:=bU.shape f149;subst b;simp only[List.length_nil]at *;exact aB rfl rfl gZ
 intro w12 hL;simp only[aT,af.eq,af.poly,af.rat,af.ret,af.fac,af.fac1,af.of,lZ]
 intros
 go_frame;have hb:=hL.below;replace hb0:=hb0.trans (hb.mono hb0.size);clear hL hb;go_wp2;go_ret;exact⟨rfl,hb0⟩
end Go.Proofs.YtopclbeomcggiaaGreat
