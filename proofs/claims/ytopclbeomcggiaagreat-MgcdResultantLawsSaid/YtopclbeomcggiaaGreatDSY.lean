/- law08.MgcdResultantLaws: the walk. -/
import Derived.Test.YtopclbeomcggiaaGreatD38
import Derived.Test.YtopclbeomcggiaaGreatD42
import Derived.Test.YtopclbeomcggiaaGreatDSG
import Derived.Test.YtopclbeomcggiaaGreatDSJ
set_option linter.unusedVariables false
set_option linter.unusedSimpArgs false
namespace Q
def szR : Sz:=⟨1,2 ^ 100,40,41⟩
theorem szR_ok : szR.ok ∧ (szR.mul szR).ok ∧ (szR.mul ⟨1,1,0,1⟩).ok ∧ (sz8.mul sz8).ok ∧ (sz8.mul ⟨1,1,0,1⟩).ok:=by decide +kernel
end Q
namespace Go.Proofs.YtopclbeomcggiaaGreat
open Go.RowKit Q Go.WideMaps Go.Maps
set_option maxHeartbeats 16000000 in
set_option maxRecDepth 100000 in
theorem reslaws_main (sA sB sC : Value) (z : Int) (k : Nat) (a b c l p q s t : List Trm) (d : Int) (w : World) (Ka : Pk sz8 a) (Kb : Pk sz8 b) (Kc : Pk sz8 c) (Kl : Pk sz8 l) (Kp : Pk szR p) (Kq : Pk szR q) (Ks : Pk szR s) (Kt : Pk szR t) (hk4 : k < 4)
  (hz : IntKind.i64.wrap z=z) (hk : z.tmod 2=k) (hd : Hid (d=1 ∧ s=subP [] t ∨ ¬ d.tmod 2=1 ∧ s=t))
  (m1 : Hid (∀ W,Below w.heap.size w W → Calls Tryz.prog 28 #[sA] W (RetPoly W a)))
  (m2 : Hid (∀ W,Below w.heap.size w W → Calls Tryz.prog 28 #[sB] W (RetPoly W b)))
  (m3 : Hid (∀ W,Below w.heap.size w W → Calls Tryz.prog 28 #[sC] W (RetPoly W c)))
  (r1 : Hid (∀ W va vb,IsPoly W va a → IsPoly W vb b → Calls Tryz.prog 33 #[va,vb,.int .i64 k] W (RetPoly W p)))
  (r2 : Hid (∀ W va vb,IsPoly W va a → IsPoly W vb c → Calls Tryz.prog 33 #[va,vb,.int .i64 k] W (RetPoly W q)))
  (r3 : Hid (∀ W va vb,IsPoly W va a → IsPoly W vb (subP (varP k) l) → Calls Tryz.prog 33 #[va,vb,.int .i64 k] W (RetPoly W s)))
  (r4 : Hid (∀ W va vb,IsPoly W va a → IsPoly W vb (mulP b c) → Calls Tryz.prog 33 #[va,vb,.int .i64 k] W (RetPoly W (mulP p q))))
  (d1 : Hid (∀ W vb vq,IsPoly W vb b → IsRat W vq 1 → Calls Tryz.prog 36 #[vb,.int .i64 k,vq] W (RetPoly W l)))
  (d2 : Hid (∀ W va vb,IsPoly W va a → IsPoly W vb l → Calls Tryz.prog 38 #[va,.int .i64 k,vb] W (RetPoly W t)))
  (d3 : Hid (∀ W va,IsPoly W va a → Calls Tryz.prog 27 #[va,.int .i64 k] W (Ret W (.int .i64 d)))) :
  Calls Tryz.prog 9 #[.agg #[sA,sB,sC],.int .u8 z] w (Ret w (.bool true)):=by
 obtain ⟨o1,o2,o3,o4,o5⟩:=szR_ok
 have hw2:=Lib.hid (fun W=>(whole2_any 1 W (by omega) (by omega) : Calls Tryz.prog 24 #[.int .i64 1] W (RetRat W 1)))
 have KV:=Pk.var k
 replace hz:=Lib.hid hz
 replace hk:=Lib.hid hk
 go_enter Tryz.func9,Tryz.ntmps9
 go_upto_region 2 with (go_at_call 10; refine (sanity8_any _).mono ?_; rintro e w1 ⟨rfl,hb1⟩)
 have hbA:=(Below.refl w.heap.size w).alloc (Nat.le_refl _) (.cells #[sA,sB,sC] 24)
 have hb0:=hbA.trans (hb1.mono hbA.size)
 have BB : Blk w1 w.heap.size 24 [sA,sB,sC]:=(show Blk (w.alloc (.cells #[sA,sB,sC] 24)) w.heap.size 24 [sA,sB,sC] from Blk.new w _ [sA,sB,sC]).on hb1
 have hz':=hz.out
 have hk':=hk.out
 refine wp_region_L mixed (none) (0) (Okr.none) [.eq (.pointer (some ⟨w.heap.size,0,none⟩)),.eq (sA),.poly (by decide) (by decide) (a),.eq (.pointer (some ⟨w.heap.size,1,none⟩)),.eq (sB),.poly (by decide) (by decide) (b),.eq (.pointer (some ⟨w.heap.size,2,none⟩)),.eq (sC),.poly (by decide) (by decide) (c),.eq (.int .u8 z),.eq (.int .i64 z),.eq (.int .i64 (k : Int)),.poly (by decide) (by decide) (a),.poly (by decide) (by decide) (b),.poly (by decide) (by decide) (c)] [16,17,18,19,20,21,22,23,24,25,26,27,6,7,8] rfl rfl rfl rfl ⟨?_,?_,?_,?_,?_,?_,?_,?_,?_,?_,?_,?_,?_,?_,?_,trivial⟩ ?_
 ·intro A w1 hA hL hS he
  have h2 : A.eval (.tmp 2)=.pointer (some ⟨w.heap.size,0,none⟩):=hA 2 rfl
  refine goOn_plain rfl (stepG_pure rfl rfl ?_)
  generalize A.eval=ev at *
  go_simp
 ·intro A w1 hA hL hS he
  have hb:=hL.below
  have h16 : A.eval (.tmp 16)=_:=he.1 rfl
  have c0:=((BB).on hb).at1 0 _ rfl
  refine goOn_plain rfl (stepG_pure rfl rfl ?_)
  generalize A.eval=ev at *
  go_simp
 ·intro A w1 hA hL hS he
  have hb:=hS rfl
  have h17 : A.eval (.tmp 17)=_:=he.1 rfl
  have hf0 : A.eval (.func 28)=.func (.func 28) #[] #[]:=rfl
  refine goOn_plain rfl ?_
  refine stepG_call (f:=28) (args:=#[sA]) rfl rfl ?_ ?_
  ·generalize A.eval=ev at *
   go_simp
  ·refine (m1.out _ (hb0.trans (hb.mono hb0.size))).mono ?_
   rintro e w' ⟨v,rfl,hi,hb'⟩
   exact ⟨_,rfl,hb',hi⟩
 ·intro A w1 hA hL hS he
  have h2 : A.eval (.tmp 2)=.pointer (some ⟨w.heap.size,0,none⟩):=hA 2 rfl
  refine goOn_plain rfl (stepG_pure rfl rfl ?_)
  generalize A.eval=ev at *
  go_simp
 ·intro A w1 hA hL hS he
  have hb:=hL.below
  have h19 : A.eval (.tmp 19)=_:=he.1 rfl
  have c0:=((BB).on hb).at1 1 _ rfl
  refine goOn_plain rfl (stepG_pure rfl rfl ?_)
  generalize A.eval=ev at *
  go_simp
 ·intro A w1 hA hL hS he
  have hb:=hS rfl
  have h20 : A.eval (.tmp 20)=_:=he.1 rfl
  have hf0 : A.eval (.func 28)=.func (.func 28) #[] #[]:=rfl
  refine goOn_plain rfl ?_
  refine stepG_call (f:=28) (args:=#[sB]) rfl rfl ?_ ?_
  ·generalize A.eval=ev at *
   go_simp
  ·refine (m2.out _ (hb0.trans (hb.mono hb0.size))).mono ?_
   rintro e w' ⟨v,rfl,hi,hb'⟩
   exact ⟨_,rfl,hb',hi⟩
 ·intro A w1 hA hL hS he
  have h2 : A.eval (.tmp 2)=.pointer (some ⟨w.heap.size,0,none⟩):=hA 2 rfl
  refine goOn_plain rfl (stepG_pure rfl rfl ?_)
  generalize A.eval=ev at *
  go_simp
 ·intro A w1 hA hL hS he
  have hb:=hL.below
  have h22 : A.eval (.tmp 22)=_:=he.1 rfl
  have c0:=((BB).on hb).at1 2 _ rfl
  refine goOn_plain rfl (stepG_pure rfl rfl ?_)
  generalize A.eval=ev at *
  go_simp
 ·intro A w1 hA hL hS he
  have hb:=hS rfl
  have h23 : A.eval (.tmp 23)=_:=he.1 rfl
  have hf0 : A.eval (.func 28)=.func (.func 28) #[] #[]:=rfl
  refine goOn_plain rfl ?_
  refine stepG_call (f:=28) (args:=#[sC]) rfl rfl ?_ ?_
  ·generalize A.eval=ev at *
   go_simp
  ·refine (m3.out _ (hb0.trans (hb.mono hb0.size))).mono ?_
   rintro e w' ⟨v,rfl,hi,hb'⟩
   exact ⟨_,rfl,hb',hi⟩
 ·exact fun A w1 hA hL hS he=>goOn_plain rfl (stepG_mv rfl rfl (hA 1 rfl))
 ·intro A w1 hA hL hS he
  have h25 : A.eval (.tmp 25)=_:=he.1 rfl
  refine goOn_plain rfl (stepG_pure rfl rfl ?_)
  generalize A.eval=ev at *
  go_simp
 ·intro A w1 hA hL hS he
  have h26 : A.eval (.tmp 26)=_:=he.1 rfl
  have hc0 : A.eval (.const (.int .i64 2))=.int .i64 2:=rfl
  refine goOn_plain rfl (stepG_pure rfl rfl ?_)
  generalize A.eval=ev at *
  go_simp
 ·intro A w1 hA hL hS he
  have f18 : ((.poly (by decide) (by decide) (a) : FactL (Lr (none) (0)))).p (A.eval (.tmp 18)) w1:=he.1 rfl
  obtain ⟨v18,h18⟩ : ∃ v,A.eval (.tmp 18)=v:=⟨_,rfl⟩
  rw [h18] at f18
  refine goOn_plain rfl ?_
  exact stepG_value (c:=v18) rfl rfl (Below.refl _ _) f18 (by show Result.ok (Next.value (A.eval (.tmp 18))) w1=_; rw [h18])
 ·intro A w1 hA hL hS he
  have f21 : ((.poly (by decide) (by decide) (b) : FactL (Lr (none) (0)))).p (A.eval (.tmp 21)) w1:=he.1 rfl
  obtain ⟨v21,h21⟩ : ∃ v,A.eval (.tmp 21)=v:=⟨_,rfl⟩
  rw [h21] at f21
  refine goOn_plain rfl ?_
  exact stepG_value (c:=v21) rfl rfl (Below.refl _ _) f21 (by show Result.ok (Next.value (A.eval (.tmp 21))) w1=_; rw [h21])
 ·intro A w1 hA hL hS he
  have f24 : ((.poly (by decide) (by decide) (c) : FactL (Lr (none) (0)))).p (A.eval (.tmp 24)) w1:=he.1 rfl
  obtain ⟨v24,h24⟩ : ∃ v,A.eval (.tmp 24)=v:=⟨_,rfl⟩
  rw [h24] at f24
  refine goOn_plain rfl ?_
  exact stepG_value (c:=v24) rfl rfl (Below.refl _ _) f24 (by show Result.ok (Next.value (A.eval (.tmp 24))) w1=_; rw [h24])
 intro w2 hL
 simp only [TailL,FactL.eq,FactL.poly,FactL.ret,FactL.of,List.length_cons,List.length_nil,List.drop_succ_cons,List.drop_zero]
 rintro _ - _ - _ - va ha vb hB vc hc
 go_frame
 have hb:=hL.below
 replace hb0:=hb0.trans (hb.mono hb0.size)
 clear hL hb m1 m2 m3 hz hk hz' hk' hbA hb1 BB
 go_upto_region 3 with (fail)
 refine wp_region_S trivial (none) (0) (Okr.none) [.eq (va),.eq (vb),.eq (.int .i64 (k : Int)),.poly (by decide) (by decide) (p),.eq (va),.eq (vc),.eq (.int .i64 (k : Int)),.poly (by decide) (by decide) (q)] [28,29,30,31,32,33,34,35] rfl rfl rfl rfl ⟨?_,?_,?_,?_,?_,?_,?_,?_,trivial⟩ ?_
 ·exact fun A w1 hA hL hS he=>goOn_plain rfl (stepG_mv rfl rfl (hA 6 rfl))
 ·exact fun A w1 hA hL hS he=>goOn_plain rfl (stepG_mv rfl rfl (hA 7 rfl))
 ·exact fun A w1 hA hL hS he=>goOn_plain rfl (stepG_mv rfl rfl (hA 9 rfl))
 ·intro A w1 hA hL hS he
  have hb:=hS rfl
  have h28 : A.eval (.tmp 28)=_:=he.1 rfl
  have h29 : A.eval (.tmp 29)=_:=he.2.1 rfl
  have h30 : A.eval (.tmp 30)=_:=he.2.2.1 rfl
  have hf0 : A.eval (.func 33)=.func (.func 33) #[] #[]:=rfl
  refine goOn_plain rfl ?_
  refine stepG_call (f:=33) (args:=#[va,vb,.int .i64 (k : Int)]) rfl rfl ?_ ?_
  ·generalize A.eval=ev at *
   go_simp
  ·refine (r1.out _ _ _ (ha.on hb) (hB.on hb)).mono ?_
   rintro e w' ⟨v,rfl,hi,hb'⟩
   exact ⟨_,rfl,hb',hi⟩
 ·exact fun A w1 hA hL hS he=>goOn_plain rfl (stepG_mv rfl rfl (hA 6 rfl))
 ·exact fun A w1 hA hL hS he=>goOn_plain rfl (stepG_mv rfl rfl (hA 8 rfl))
 ·exact fun A w1 hA hL hS he=>goOn_plain rfl (stepG_mv rfl rfl (hA 9 rfl))
 ·intro A w1 hA hL hS he
  have hb:=hS rfl
  have h32 : A.eval (.tmp 32)=_:=he.1 rfl
  have h33 : A.eval (.tmp 33)=_:=he.2.1 rfl
  have h34 : A.eval (.tmp 34)=_:=he.2.2.1 rfl
  have hf0 : A.eval (.func 33)=.func (.func 33) #[] #[]:=rfl
  refine goOn_plain rfl ?_
  refine stepG_call (f:=33) (args:=#[va,vc,.int .i64 (k : Int)]) rfl rfl ?_ ?_
  ·generalize A.eval=ev at *
   go_simp
  ·refine (r2.out _ _ _ (ha.on hb) (hc.on hb)).mono ?_
   rintro e w' ⟨v,rfl,hi,hb'⟩
   exact ⟨_,rfl,hb',hi⟩
 intro w3 hL
 simp only [TailL,FactL.eq,FactL.poly,FactL.ret,FactL.of,List.length_cons,List.length_nil,List.drop_succ_cons,List.drop_zero]
 rintro vp hp vq hq
 go_frame
 have hb:=hL.below
 replace hb0:=hb0.trans (hb.mono hb0.size)
 replace ha:=ha.on hb
 replace hB:=hB.on hb
 replace hc:=hc.on hb
 clear hL hb r1 r2
 go_upto_region 4 with (fail)
 refine wp_region_S trivial (none) (0) (Okr.none) [.eq (vp),.ret (.bool true),.eq (.bool false),.eq (.bool false),.eq (vq),.ret (.bool true),.eq (.bool false),.eq (.bool false)] [36,37,38,39,40,41,42,43] rfl rfl rfl rfl ⟨?_,?_,?_,?_,?_,?_,?_,?_,trivial⟩ ?_
 ·exact fun A w1 hA hL hS he=>goOn_plain rfl (stepG_mv rfl rfl (hA 10 rfl))
 ·intro A w1 hA hL hS he
  have hb:=hS rfl
  have h36 : A.eval (.tmp 36)=_:=he.1 rfl
  have hf0 : A.eval (.func 22)=.func (.func 22) #[] #[]:=rfl
  refine goOn_plain rfl ?_
  refine stepG_call (f:=22) (args:=#[vp]) rfl rfl ?_ ?_
  ·generalize A.eval=ev at *
   go_simp
  ·refine (valid7K Kp (hp.on hb)).mono ?_
   rintro e w' ⟨rfl,hb'⟩
   exact ⟨_,rfl,hb',rfl⟩
 ·intro A w1 hA hL hS he
  have h37 : A.eval (.tmp 37)=_:=he.1 rfl
  refine goOn_plain rfl (stepG_pure rfl rfl ?_)
  generalize A.eval=ev at *
  go_simp
 ·exact fun A w1 hA hL hS he=>goOn_plain rfl (stepG_mv rfl rfl (he.1 rfl))
 ·exact fun A w1 hA hL hS he=>goOn_yes rfl rfl (he.1 rfl) (stepG_mv rfl rfl (hA 11 rfl))
 ·intro A w1 hA hL hS he
  have hb:=hS rfl
  have h39 : A.eval (.tmp 39)=_:=he.2.1 rfl
  have h40 : A.eval (.tmp 40)=_:=he.1 rfl
  have hf0 : A.eval (.func 22)=.func (.func 22) #[] #[]:=rfl
  refine goOn_yes rfl rfl h39 ?_
  refine stepG_call (f:=22) (args:=#[vq]) rfl rfl ?_ ?_
  ·generalize A.eval=ev at *
   go_simp
  ·refine (valid7K Kq (hq.on hb)).mono ?_
   rintro e w' ⟨rfl,hb'⟩
   exact ⟨_,rfl,hb',rfl⟩
 ·intro A w1 hA hL hS he
  have h39 : A.eval (.tmp 39)=_:=he.2.1 rfl
  have h41 : A.eval (.tmp 41)=_:=he.1 rfl
  refine goOn_yes rfl rfl h39 ?_
  refine stepG_pure rfl rfl ?_
  generalize A.eval=ev at *
  go_simp
 ·exact fun A w1 hA hL hS he=>goOn_plain rfl (stepG_pk rfl (he.1 rfl) rfl (he.2.1 rfl))
 intro w4 hL
 simp only [TailL,FactL.eq,FactL.poly,FactL.ret,FactL.of,List.length_cons,List.length_nil,List.drop_succ_cons,List.drop_zero]
 go_frame
 have hb:=hL.below
 replace hb0:=hb0.trans (hb.mono hb0.size)
 replace ha:=ha.on hb
 replace hB:=hB.on hb
 replace hc:=hc.on hb
 replace hp:=hp.on hb
 replace hq:=hq.on hb
 clear hL hb
 go_upto_region 6 with (fail)
 refine wp_region_S trivial (none) (0) (Okr.none) [.eq (vb),.eq (.int .i64 (k : Int)),.rat (by decide) ((1 : Rat)),.poly (by decide) (by decide) (l)] [44,45,46,47] rfl rfl rfl rfl ⟨?_,?_,?_,?_,trivial⟩ ?_
 ·exact fun A w1 hA hL hS he=>goOn_plain rfl (stepG_mv rfl rfl (hA 7 rfl))
 ·exact fun A w1 hA hL hS he=>goOn_plain rfl (stepG_mv rfl rfl (hA 9 rfl))
 ·intro A w1 hA hL hS he
  have hb:=hS rfl
  have hf0 : A.eval (.func 24)=.func (.func 24) #[] #[]:=rfl
  have hc0 : A.eval (.const (.int .i64 1))=.int .i64 1:=rfl
  refine goOn_plain rfl ?_
  refine stepG_call (f:=24) (args:=#[(.int .i64 1)]) rfl rfl ?_ ?_
  ·generalize A.eval=ev at *
   go_simp
  ·refine (hw2.out _).mono ?_
   rintro e w' ⟨v,rfl,hi,hb'⟩
   exact ⟨_,rfl,hb',hi⟩
 ·intro A w1 hA hL hS he
  have hb:=hS rfl
  have h44 : A.eval (.tmp 44)=_:=he.1 rfl
  have h45 : A.eval (.tmp 45)=_:=he.2.1 rfl
  have f46 : ((.rat (by decide) ((1 : Rat)) : FactL (Lr (none) (0)))).p (A.eval (.tmp 46)) w1:=he.2.2.1 rfl
  obtain ⟨v46,h46⟩ : ∃ v,A.eval (.tmp 46)=v:=⟨_,rfl⟩
  rw [h46] at f46
  have hf0 : A.eval (.func 36)=.func (.func 36) #[] #[]:=rfl
  refine goOn_plain rfl ?_
  refine stepG_call (f:=36) (args:=#[vb,.int .i64 (k : Int),v46]) rfl rfl ?_ ?_
  ·generalize A.eval=ev at *
   go_simp
  ·refine (d1.out _ _ _ (hB.on hb) f46).mono ?_
   rintro e w' ⟨v,rfl,hi,hb'⟩
   exact ⟨_,rfl,hb',hi⟩
 intro w5 hL
 simp only [TailL,FactL.eq,FactL.poly,FactL.rat,FactL.ret,FactL.of,List.length_cons,List.length_nil,List.drop_succ_cons,List.drop_zero]
 rintro _ - vl hl
 go_frame
 have hb:=hL.below
 replace hb0:=hb0.trans (hb.mono hb0.size)
 replace ha:=ha.on hb
 replace hB:=hB.on hb
 replace hc:=hc.on hb
 replace hp:=hp.on hb
 replace hq:=hq.on hb
 clear hL hb d1 hw2
 go_upto_region 7 with (fail)
 refine wp_region_S trivial (none) (0) (Okr.none) [.eq (va),.eq (.int .i64 (k : Int)),.poly (by decide) (by decide) ((varP k)),.eq (vl),.poly (by decide) (by decide) ((subP (varP k) l)),.eq (.int .i64 (k : Int)),.poly (by decide) (by decide) (s),.eq (va),.eq (.int .i64 (k : Int)),.eq (vl),.poly (by decide) (by decide) (t)] [48,49,50,51,52,53,54,55,56,57,58] rfl rfl rfl rfl ⟨?_,?_,?_,?_,?_,?_,?_,?_,?_,?_,?_,trivial⟩ ?_
 ·exact fun A w1 hA hL hS he=>goOn_plain rfl (stepG_mv rfl rfl (hA 6 rfl))
 ·exact fun A w1 hA hL hS he=>goOn_plain rfl (stepG_mv rfl rfl (hA 9 rfl))
 ·intro A w1 hA hL hS he
  have hb:=hS rfl
  have h49 : A.eval (.tmp 49)=_:=he.1 rfl
  have hf0 : A.eval (.func 37)=.func (.func 37) #[] #[]:=rfl
  refine goOn_plain rfl ?_
  refine stepG_call (f:=37) (args:=#[.int .i64 (k : Int)]) rfl rfl ?_ ?_
  ·generalize A.eval=ev at *
   go_simp
  ·refine (var7_any k _ hk4).mono ?_
   rintro e w' ⟨v,rfl,hi,hb'⟩
   exact ⟨_,rfl,hb',hi⟩
 ·exact fun A w1 hA hL hS he=>goOn_plain rfl (stepG_mv rfl rfl (hA 12 rfl))
 ·intro A w1 hA hL hS he
  have hb:=hS rfl
  have f50 : ((.poly (by decide) (by decide) ((varP k)) : FactL (Lr (none) (0)))).p (A.eval (.tmp 50)) w1:=he.1 rfl
  obtain ⟨v50,h50⟩ : ∃ v,A.eval (.tmp 50)=v:=⟨_,rfl⟩
  rw [h50] at f50
  have h51 : A.eval (.tmp 51)=_:=he.2.1 rfl
  have hf0 : A.eval (.func 35)=.func (.func 35) #[] #[]:=rfl
  refine goOn_plain rfl ?_
  refine stepG_call (f:=35) (args:=#[v50,vl]) rfl rfl ?_ ?_
  ·generalize A.eval=ev at *
   go_simp
  ·refine (sub7K KV Kl o5 f50 (hl.on hb)).mono ?_
   rintro e w' ⟨v,rfl,hi,hb'⟩
   exact ⟨_,rfl,hb',hi⟩
 ·exact fun A w1 hA hL hS he=>goOn_plain rfl (stepG_mv rfl rfl (hA 9 rfl))
 ·intro A w1 hA hL hS he
  have hb:=hS rfl
  have h48 : A.eval (.tmp 48)=_:=he.1 rfl
  have f52 : ((.poly (by decide) (by decide) ((subP (varP k) l)) : FactL (Lr (none) (0)))).p (A.eval (.tmp 52)) w1:=he.2.1 rfl
  obtain ⟨v52,h52⟩ : ∃ v,A.eval (.tmp 52)=v:=⟨_,rfl⟩
  rw [h52] at f52
  have h53 : A.eval (.tmp 53)=_:=he.2.2.1 rfl
  have hf0 : A.eval (.func 33)=.func (.func 33) #[] #[]:=rfl
  refine goOn_plain rfl ?_
  refine stepG_call (f:=33) (args:=#[va,v52,.int .i64 (k : Int)]) rfl rfl ?_ ?_
  ·generalize A.eval=ev at *
   go_simp
  ·refine (r3.out _ _ _ (ha.on hb) f52).mono ?_
   rintro e w' ⟨v,rfl,hi,hb'⟩
   exact ⟨_,rfl,hb',hi⟩
 ·exact fun A w1 hA hL hS he=>goOn_plain rfl (stepG_mv rfl rfl (hA 6 rfl))
 ·exact fun A w1 hA hL hS he=>goOn_plain rfl (stepG_mv rfl rfl (hA 9 rfl))
 ·exact fun A w1 hA hL hS he=>goOn_plain rfl (stepG_mv rfl rfl (hA 12 rfl))
 ·intro A w1 hA hL hS he
  have hb:=hS rfl
  have h55 : A.eval (.tmp 55)=_:=he.1 rfl
  have h56 : A.eval (.tmp 56)=_:=he.2.1 rfl
  have h57 : A.eval (.tmp 57)=_:=he.2.2.1 rfl
  have hf0 : A.eval (.func 38)=.func (.func 38) #[] #[]:=rfl
  refine goOn_plain rfl ?_
  refine stepG_call (f:=38) (args:=#[va,.int .i64 (k : Int),vl]) rfl rfl ?_ ?_
  ·generalize A.eval=ev at *
   go_simp
  ·refine (d2.out _ _ _ (ha.on hb) (hl.on hb)).mono ?_
   rintro e w' ⟨v,rfl,hi,hb'⟩
   exact ⟨_,rfl,hb',hi⟩
 intro w6 hL
 simp only [TailL,FactL.eq,FactL.poly,FactL.rat,FactL.ret,FactL.of,List.length_cons,List.length_nil,List.drop_succ_cons,List.drop_zero]
 rintro _ - _ - vs hs v4 h4
 go_frame
 have hb:=hL.below
 replace hb0:=hb0.trans (hb.mono hb0.size)
 replace ha:=ha.on hb
 replace hB:=hB.on hb
 replace hc:=hc.on hb
 replace hp:=hp.on hb
 replace hq:=hq.on hb
 clear hL hb hl r3 d2 KV Kl
 have KM:=Kp.mul Kq o2
 have hde:=d3.out w6 va ha
 rcases hd.out with ⟨rfl,hst⟩ | ⟨hd1,hst⟩
 ·replace hst:=Lib.hid hst
  have hsu:=fun W (h1 : IsPoly W v4 t)=>sub7K (vp:=.slice none 0 0) (Pk.nil (s:=szR) o1) Kt o3 (IsSl.nil elTerm W) h1
  replace hsu:=Lib.hid hsu
  go_upto_region 10 with (first
   | (go_at_call 27; refine hde.mono ?_; rintro e w7 ⟨rfl,hb7⟩)
   | (go_at_call 35; refine (hsu.out w7 (h4.on hb7)).mono ?_; rintro e w8 ⟨vt,rfl,ht,hb8⟩))
  have hb:=hb7.trans (hb8.mono hb7.size)
  rw [← hst.out] at ht
  replace hb0:=hb0.trans (hb.mono hb0.size)
  replace ha:=ha.on hb
  replace hB:=hB.on hb
  replace hc:=hc.on hb
  replace hp:=hp.on hb
  replace hq:=hq.on hb
  replace hs:=hs.on hb
  clear hb hb7 hb8 hsu d3 hde h4 hst hd
  refine wp_region_S trivial (none) (0) (Okr.none) [.eq (va),.eq (vb),.eq (vc),.poly (by decide) (by decide) ((mulP b c)),.eq (.int .i64 (k : Int)),.poly (by decide) (by decide) ((mulP p q)),.eq (vp),.eq (vq),.poly (by decide) (by decide) ((mulP p q)),.ret (.bool true),.eq (.bool true),.eq (vs),.eq (vt),.ret (.bool true),.eq (.bool true),.eq (.bool true),.eq (.bool true),.eq (.bool true)] [66,67,68,69,70,71,72,73,74,75,76,77,78,79,80,81,82,83] rfl rfl rfl rfl ⟨?_,?_,?_,?_,?_,?_,?_,?_,?_,?_,?_,?_,?_,?_,?_,?_,?_,?_,trivial⟩ ?_
  ·exact fun A w1 hA hL hS he=>goOn_plain rfl (stepG_mv rfl rfl (hA 6 rfl))
  ·exact fun A w1 hA hL hS he=>goOn_plain rfl (stepG_mv rfl rfl (hA 7 rfl))
  ·exact fun A w1 hA hL hS he=>goOn_plain rfl (stepG_mv rfl rfl (hA 8 rfl))
  ·intro A w1 hA hL hS he
   have hb:=hS rfl
   have h67 : A.eval (.tmp 67)=_:=he.1 rfl
   have h68 : A.eval (.tmp 68)=_:=he.2.1 rfl
   have hf0 : A.eval (.func 12)=.func (.func 12) #[] #[]:=rfl
   refine goOn_plain rfl ?_
   refine stepG_call (f:=12) (args:=#[vb,vc]) rfl rfl ?_ ?_
   ·generalize A.eval=ev at *
    go_simp
   ·refine (mul7K Kb Kc o4 (hB.on hb) (hc.on hb)).mono ?_
    rintro e w' ⟨v,rfl,hi,hb'⟩
    exact ⟨_,rfl,hb',hi⟩
  ·exact fun A w1 hA hL hS he=>goOn_plain rfl (stepG_mv rfl rfl (hA 9 rfl))
  ·intro A w1 hA hL hS he
   have hb:=hS rfl
   have h66 : A.eval (.tmp 66)=_:=he.1 rfl
   have f69 : ((.poly (by decide) (by decide) ((mulP b c)) : FactL (Lr (none) (0)))).p (A.eval (.tmp 69)) w1:=he.2.1 rfl
   obtain ⟨v69,h69⟩ : ∃ v,A.eval (.tmp 69)=v:=⟨_,rfl⟩
   rw [h69] at f69
   have h70 : A.eval (.tmp 70)=_:=he.2.2.1 rfl
   have hf0 : A.eval (.func 33)=.func (.func 33) #[] #[]:=rfl
   refine goOn_plain rfl ?_
   refine stepG_call (f:=33) (args:=#[va,v69,.int .i64 (k : Int)]) rfl rfl ?_ ?_
   ·generalize A.eval=ev at *
    go_simp
   ·refine (r4.out _ _ _ (ha.on hb) f69).mono ?_
    rintro e w' ⟨v,rfl,hi,hb'⟩
    exact ⟨_,rfl,hb',hi⟩
  ·exact fun A w1 hA hL hS he=>goOn_plain rfl (stepG_mv rfl rfl (hA 10 rfl))
  ·exact fun A w1 hA hL hS he=>goOn_plain rfl (stepG_mv rfl rfl (hA 11 rfl))
  ·intro A w1 hA hL hS he
   have hb:=hS rfl
   have h72 : A.eval (.tmp 72)=_:=he.1 rfl
   have h73 : A.eval (.tmp 73)=_:=he.2.1 rfl
   have hf0 : A.eval (.func 12)=.func (.func 12) #[] #[]:=rfl
   refine goOn_plain rfl ?_
   refine stepG_call (f:=12) (args:=#[vp,vq]) rfl rfl ?_ ?_
   ·generalize A.eval=ev at *
    go_simp
   ·refine (mul7K Kp Kq o2 (hp.on hb) (hq.on hb)).mono ?_
    rintro e w' ⟨v,rfl,hi,hb'⟩
    exact ⟨_,rfl,hb',hi⟩
  ·intro A w1 hA hL hS he
   have hb:=hS rfl
   have f71 : ((.poly (by decide) (by decide) ((mulP p q)) : FactL (Lr (none) (0)))).p (A.eval (.tmp 71)) w1:=he.1 rfl
   obtain ⟨v71,h71⟩ : ∃ v,A.eval (.tmp 71)=v:=⟨_,rfl⟩
   rw [h71] at f71
   have f74 : ((.poly (by decide) (by decide) ((mulP p q)) : FactL (Lr (none) (0)))).p (A.eval (.tmp 74)) w1:=he.2.1 rfl
   obtain ⟨v74,h74⟩ : ∃ v,A.eval (.tmp 74)=v:=⟨_,rfl⟩
   rw [h74] at f74
   have hf0 : A.eval (.func 13)=.func (.func 13) #[] #[]:=rfl
   refine goOn_plain rfl ?_
   refine stepG_call (f:=13) (args:=#[v71,v74]) rfl rfl ?_ ?_
   ·generalize A.eval=ev at *
    go_simp
   ·refine (sameK KM KM rfl f71 f74).mono ?_
    rintro e w' ⟨rfl,hb'⟩
    exact ⟨_,rfl,hb',rfl⟩
  ·exact fun A w1 hA hL hS he=>goOn_plain rfl (stepG_mv rfl rfl (he.1 rfl))
  ·exact fun A w1 hA hL hS he=>goOn_yes rfl rfl (he.1 rfl) (stepG_mv rfl rfl (hA 13 rfl))
  ·exact fun A w1 hA hL hS he=>goOn_yes rfl rfl (he.1 rfl) (stepG_mv rfl rfl (hA 14 rfl))
  ·intro A w1 hA hL hS he
   have hb:=hS rfl
   have h76 : A.eval (.tmp 76)=_:=he.2.2.1 rfl
   have h77 : A.eval (.tmp 77)=_:=he.1 rfl
   have h78 : A.eval (.tmp 78)=_:=he.2.1 rfl
   have hf0 : A.eval (.func 13)=.func (.func 13) #[] #[]:=rfl
   refine goOn_yes rfl rfl h76 ?_
   refine stepG_call (f:=13) (args:=#[vs,vt]) rfl rfl ?_ ?_
   ·generalize A.eval=ev at *
    go_simp
   ·refine (sameK Ks Ks rfl (hs.on hb) (ht.on hb)).mono ?_
    rintro e w' ⟨rfl,hb'⟩
    exact ⟨_,rfl,hb',rfl⟩
  ·intro A w1 hA hL hS he
   have h76 : A.eval (.tmp 76)=_:=he.1 rfl
   have h79 : A.eval (.tmp 79)=_:=he.2.1 rfl
   have hc0 : A.eval (.const (.bool false))=.bool false:=rfl
   refine goOn_plain rfl (stepG_pure rfl rfl ?_)
   generalize A.eval=ev at *
   go_simp
  ·exact fun A w1 hA hL hS he=>goOn_plain rfl (stepG_mv rfl rfl (he.1 rfl))
  ·exact fun A w1 hA hL hS he=>goOn_yes rfl rfl (he.1 rfl) (stepG_mv rfl rfl (hA 5 rfl))
  ·intro A w1 hA hL hS he
   have h81 : A.eval (.tmp 81)=_:=he.1 rfl
   have h82 : A.eval (.tmp 82)=_:=he.2.1 rfl
   have hc0 : A.eval (.const (.bool false))=.bool false:=rfl
   refine goOn_plain rfl (stepG_pure rfl rfl ?_)
   generalize A.eval=ev at *
   go_simp
  intro w9 hL
  simp only [TailL,FactL.eq,FactL.poly,FactL.ret,FactL.of,List.length_cons,List.length_nil,List.drop_succ_cons,List.drop_zero]
  rintro _ - _ - _ -
  go_frame
  replace hb0:=hb0.trans (hL.below.mono hb0.size)
  clear hL
  go_wp2
  go_ret
  exact ⟨rfl,hb0⟩
 ·obtain rfl:=hst
  go_upto_region 10 with (go_at_call 27; refine hde.mono ?_; rintro e w7 ⟨rfl,hb7⟩)
  obtain ⟨vt,hvt⟩ : ∃ vt,vt=v4:=⟨_,rfl⟩
  rw [← hvt] at h4 ⊢
  have ht:=h4.on hb7
  replace hb0:=hb0.trans (hb7.mono hb0.size)
  replace ha:=ha.on hb7
  replace hB:=hB.on hb7
  replace hc:=hc.on hb7
  replace hp:=hp.on hb7
  replace hq:=hq.on hb7
  replace hs:=hs.on hb7
  clear hb7 d3 hde h4 hvt hd hd1
  refine wp_region_S trivial (none) (0) (Okr.none) [.eq (va),.eq (vb),.eq (vc),.poly (by decide) (by decide) ((mulP b c)),.eq (.int .i64 (k : Int)),.poly (by decide) (by decide) ((mulP p q)),.eq (vp),.eq (vq),.poly (by decide) (by decide) ((mulP p q)),.ret (.bool true),.eq (.bool true),.eq (vs),.eq (vt),.ret (.bool true),.eq (.bool true),.eq (.bool true),.eq (.bool true),.eq (.bool true)] [66,67,68,69,70,71,72,73,74,75,76,77,78,79,80,81,82,83] rfl rfl rfl rfl ⟨?_,?_,?_,?_,?_,?_,?_,?_,?_,?_,?_,?_,?_,?_,?_,?_,?_,?_,trivial⟩ ?_
  ·exact fun A w1 hA hL hS he=>goOn_plain rfl (stepG_mv rfl rfl (hA 6 rfl))
  ·exact fun A w1 hA hL hS he=>goOn_plain rfl (stepG_mv rfl rfl (hA 7 rfl))
  ·exact fun A w1 hA hL hS he=>goOn_plain rfl (stepG_mv rfl rfl (hA 8 rfl))
  ·intro A w1 hA hL hS he
   have hb:=hS rfl
   have h67 : A.eval (.tmp 67)=_:=he.1 rfl
   have h68 : A.eval (.tmp 68)=_:=he.2.1 rfl
   have hf0 : A.eval (.func 12)=.func (.func 12) #[] #[]:=rfl
   refine goOn_plain rfl ?_
   refine stepG_call (f:=12) (args:=#[vb,vc]) rfl rfl ?_ ?_
   ·generalize A.eval=ev at *
    go_simp
   ·refine (mul7K Kb Kc o4 (hB.on hb) (hc.on hb)).mono ?_
    rintro e w' ⟨v,rfl,hi,hb'⟩
    exact ⟨_,rfl,hb',hi⟩
  ·exact fun A w1 hA hL hS he=>goOn_plain rfl (stepG_mv rfl rfl (hA 9 rfl))
  ·intro A w1 hA hL hS he
   have hb:=hS rfl
   have h66 : A.eval (.tmp 66)=_:=he.1 rfl
   have f69 : ((.poly (by decide) (by decide) ((mulP b c)) : FactL (Lr (none) (0)))).p (A.eval (.tmp 69)) w1:=he.2.1 rfl
   obtain ⟨v69,h69⟩ : ∃ v,A.eval (.tmp 69)=v:=⟨_,rfl⟩
   rw [h69] at f69
   have h70 : A.eval (.tmp 70)=_:=he.2.2.1 rfl
   have hf0 : A.eval (.func 33)=.func (.func 33) #[] #[]:=rfl
   refine goOn_plain rfl ?_
   refine stepG_call (f:=33) (args:=#[va,v69,.int .i64 (k : Int)]) rfl rfl ?_ ?_
   ·generalize A.eval=ev at *
    go_simp
   ·refine (r4.out _ _ _ (ha.on hb) f69).mono ?_
    rintro e w' ⟨v,rfl,hi,hb'⟩
    exact ⟨_,rfl,hb',hi⟩
  ·exact fun A w1 hA hL hS he=>goOn_plain rfl (stepG_mv rfl rfl (hA 10 rfl))
  ·exact fun A w1 hA hL hS he=>goOn_plain rfl (stepG_mv rfl rfl (hA 11 rfl))
  ·intro A w1 hA hL hS he
   have hb:=hS rfl
   have h72 : A.eval (.tmp 72)=_:=he.1 rfl
   have h73 : A.eval (.tmp 73)=_:=he.2.1 rfl
   have hf0 : A.eval (.func 12)=.func (.func 12) #[] #[]:=rfl
   refine goOn_plain rfl ?_
   refine stepG_call (f:=12) (args:=#[vp,vq]) rfl rfl ?_ ?_
   ·generalize A.eval=ev at *
    go_simp
   ·refine (mul7K Kp Kq o2 (hp.on hb) (hq.on hb)).mono ?_
    rintro e w' ⟨v,rfl,hi,hb'⟩
    exact ⟨_,rfl,hb',hi⟩
  ·intro A w1 hA hL hS he
   have hb:=hS rfl
   have f71 : ((.poly (by decide) (by decide) ((mulP p q)) : FactL (Lr (none) (0)))).p (A.eval (.tmp 71)) w1:=he.1 rfl
   obtain ⟨v71,h71⟩ : ∃ v,A.eval (.tmp 71)=v:=⟨_,rfl⟩
   rw [h71] at f71
   have f74 : ((.poly (by decide) (by decide) ((mulP p q)) : FactL (Lr (none) (0)))).p (A.eval (.tmp 74)) w1:=he.2.1 rfl
   obtain ⟨v74,h74⟩ : ∃ v,A.eval (.tmp 74)=v:=⟨_,rfl⟩
   rw [h74] at f74
   have hf0 : A.eval (.func 13)=.func (.func 13) #[] #[]:=rfl
   refine goOn_plain rfl ?_
   refine stepG_call (f:=13) (args:=#[v71,v74]) rfl rfl ?_ ?_
   ·generalize A.eval=ev at *
    go_simp
   ·refine (sameK KM KM rfl f71 f74).mono ?_
    rintro e w' ⟨rfl,hb'⟩
    exact ⟨_,rfl,hb',rfl⟩
  ·exact fun A w1 hA hL hS he=>goOn_plain rfl (stepG_mv rfl rfl (he.1 rfl))
  ·exact fun A w1 hA hL hS he=>goOn_yes rfl rfl (he.1 rfl) (stepG_mv rfl rfl (hA 13 rfl))
  ·exact fun A w1 hA hL hS he=>goOn_yes rfl rfl (he.1 rfl) (stepG_mv rfl rfl (hA 14 rfl))
  ·intro A w1 hA hL hS he
   have hb:=hS rfl
   have h76 : A.eval (.tmp 76)=_:=he.2.2.1 rfl
   have h77 : A.eval (.tmp 77)=_:=he.1 rfl
   have h78 : A.eval (.tmp 78)=_:=he.2.1 rfl
   have hf0 : A.eval (.func 13)=.func (.func 13) #[] #[]:=rfl
   refine goOn_yes rfl rfl h76 ?_
   refine stepG_call (f:=13) (args:=#[vs,vt]) rfl rfl ?_ ?_
   ·generalize A.eval=ev at *
    go_simp
   ·refine (sameK Ks Ks rfl (hs.on hb) (ht.on hb)).mono ?_
    rintro e w' ⟨rfl,hb'⟩
    exact ⟨_,rfl,hb',rfl⟩
  ·intro A w1 hA hL hS he
   have h76 : A.eval (.tmp 76)=_:=he.1 rfl
   have h79 : A.eval (.tmp 79)=_:=he.2.1 rfl
   have hc0 : A.eval (.const (.bool false))=.bool false:=rfl
   refine goOn_plain rfl (stepG_pure rfl rfl ?_)
   generalize A.eval=ev at *
   go_simp
  ·exact fun A w1 hA hL hS he=>goOn_plain rfl (stepG_mv rfl rfl (he.1 rfl))
  ·exact fun A w1 hA hL hS he=>goOn_yes rfl rfl (he.1 rfl) (stepG_mv rfl rfl (hA 5 rfl))
  ·intro A w1 hA hL hS he
   have h81 : A.eval (.tmp 81)=_:=he.1 rfl
   have h82 : A.eval (.tmp 82)=_:=he.2.1 rfl
   have hc0 : A.eval (.const (.bool false))=.bool false:=rfl
   refine goOn_plain rfl (stepG_pure rfl rfl ?_)
   generalize A.eval=ev at *
   go_simp
  intro w9 hL
  simp only [TailL,FactL.eq,FactL.poly,FactL.ret,FactL.of,List.length_cons,List.length_nil,List.drop_succ_cons,List.drop_zero]
  rintro _ - _ - _ -
  go_frame
  replace hb0:=hb0.trans (hL.below.mono hb0.size)
  clear hL
  go_wp2
  go_ret
  exact ⟨rfl,hb0⟩
end Go.Proofs.YtopclbeomcggiaaGreat
