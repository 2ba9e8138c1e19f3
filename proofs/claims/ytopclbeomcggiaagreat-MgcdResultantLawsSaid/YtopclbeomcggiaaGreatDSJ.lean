/- law08.sanity: the fixed examples hold. -/
import Derived.Test.YtopclbeomcggiaaGreatD34
import Derived.Test.YtopclbeomcggiaaGreatDSG
set_option linter.unusedVariables false
set_option linter.unusedSimpArgs false
namespace Q
open Go Go.RowKit Go.Proofs.YtopclbeomcggiaaGreat
def FactL.fac {T : TypeId} (L : List (List Trm × Nat)) : FactL (Lr none T):=FactL.of (fun v w=>IsFac w v L) (fun _ _ _ hb h=>h.on hb.below)
def FactL.fac1 {T : TypeId} (f : List Trm × Nat) : FactL (Lr none T):=FactL.of (fun v w=>∃ u,v=.agg #[u,.int .i64 (f.2 : Int)] ∧ IsPoly w u f.1) (fun _ _ _ hb ⟨u,e,h⟩=>⟨u,e,h.on hb.below⟩)
end Q
namespace Go.Proofs.YtopclbeomcggiaaGreat
open Go.RowKit Q Go.WideMaps Go.Maps
section
variable {P : Program} {T : TypeId} {w : World} {o : Oper} {A : Act} {i : Nat} {pu fr : Nat → Bool} {φ : Nat → Value → World → Prop} {R : Exit → Act → World → Prop} {v u : Value} {p q : List Trm}
theorem run_fac (v : Value) (k : Int) (w : World) (h : IsPoly w v p) : (Instr.build 54 #[(0,v),(1,.int .i64 k)]).run Tryz.prog w=.ok (.agg #[v,.int .i64 k]) w:=by
 obtain ⟨a,c,rfl,-⟩:=IsSl.shape h
 kernel_rfl
theorem step_fac1 {x : Operand} {k : Nat} (hp : pu i=false) (hf : fr i=false) (ho : o.op=.build 54 #[(0,x),(1,.const (.int .i64 (k : Int)))]) (hx : A.eval x=v) (hc : A.eval (.const (.int .i64 (k : Int)))=.int .i64 (k : Int)) (h : IsPoly w v p)
  (hφ : ∀ v w,(∃ u,v=.agg #[u,.int .i64 (k : Int)] ∧ IsPoly w u p) → φ i v w:=by intro _ _ h; exact h) : o.wp Tryz.prog A w (AfterG (Lr none T) pu fr φ o i A w) R:=by
 refine stepG_value (c:=.agg #[v,.int .i64 (k : Int)]) hp hf (Below.refl _ _) (hφ _ _ ⟨v,rfl,h⟩) (execOp_build ho ?_)
 simp only [List.map_toArray,List.map_cons,List.map_nil,hx,hc]
 exact run_fac v k w h
theorem run_fac2 (v u : Value) (j k : Int) (w : World) (h : IsPoly w v p) (h' : IsPoly w u q) : (Instr.buildSlice 50 2 #[(0,.agg #[v,.int .i64 j]),(1,.agg #[u,.int .i64 k])]).run Tryz.prog w=.ok (.slice (some ⟨w.heap.size,0,none⟩) 2 2) (w.alloc (.cells #[v,.int .i64 j,u,.int .i64 k] 54)):=by
 obtain ⟨a,c,rfl,-⟩:=IsSl.shape h
 obtain ⟨a',c',rfl,-⟩:=IsSl.shape h'
 kernel_rfl
theorem step_fac2 {x y : Operand} {j k : Nat} (hp : pu i=false) (hf : fr i=false) (ho : o.op=.buildSlice 50 2 #[(0,x),(1,y)]) (hx : A.eval x=v) (hy : A.eval y=u) (h : ∃ z,v=.agg #[z,.int .i64 (j : Int)] ∧ IsPoly w z p) (h' : ∃ z,u=.agg #[z,.int .i64 (k : Int)] ∧ IsPoly w z q)
  (hφ : ∀ v w,IsFac w v [(p,j),(q,k)] → φ i v w:=by intro _ _ h; exact h) : o.wp Tryz.prog A w (AfterG (Lr none T) pu fr φ o i A w) R:=by
 obtain ⟨z,rfl,hz⟩:=h
 obtain ⟨z',rfl,hz'⟩:=h'
 have hbe : Below w.heap.size w (w.alloc (.cells #[z,.int .i64 (j : Int),z',.int .i64 (k : Int)] 54)):=(Below.refl _ _).alloc (Nat.le_refl _) _
 refine stepG_value hp hf hbe (hφ _ _ ⟨_,2,[z,.int .i64 (j : Int),z',.int .i64 (k : Int)],rfl,Nat.le_refl _,(Blk.new w 54 [z,.int .i64 (j : Int),z',.int .i64 (k : Int)]).at,⟨[z,.int .i64 (j : Int)],[z',.int .i64 (k : Int)],rfl,⟨z,rfl,hz.on hbe⟩,Elems.single ⟨z',rfl,hz'.on hbe⟩⟩⟩) (execOp_buildSlice ho ?_)
 simp only [List.map_toArray,List.map_cons,List.map_nil,hx,hy]
 exact run_fac2 z z' j k w hz hz'
end
theorem resW {w : World} {v u : Value} {p q r : List Trm} (e : resO p q 0=some r) (h : wpB p=true) (h' : wpB q=true) (hp : IsPoly w v p) (hq : IsPoly w u q) : Calls Tryz.prog 33 #[v,u,.int .i64 0] w (RetPoly w r):=resultant_any v u p q r 0 w hp hq (wpB_wp h) (wpB_wp h') (by decide) e
set_option maxHeartbeats 16000000 in
set_option maxRecDepth 100000 in
theorem sanity8_any (w : World) : Calls Tryz.prog 10 #[] w (Ret w (.bool true)):=by
 go_enter Tryz.func10,Tryz.ntmps10
 have hb0 : Below w.heap.size w w:=Below.refl _ _
 go_upto_region 1 with (fail)
 refine wp_region_S trivial (none) (0) (Okr.none) [.poly (by decide) (by decide) ([tm 1 1 0]),.poly (by decide) (by decide) ([tm 1 0 1]),.poly (by decide) (by decide) ([tm 1 0 1,tm 1 1 0])] [13,14,15] rfl rfl rfl rfl ⟨?_,?_,?_,trivial⟩ ?_
 ·intro A w1 hA hL hS he
  have hb:=hS rfl
  have hf0 : A.eval (.func 40)=.func (.func 40) #[] #[]:=rfl
  refine goOn_plain rfl ?_
  refine stepG_call (f:=40) (args:=#[]) rfl rfl ?_ ?_
  ·generalize A.eval=ev at *
   go_simp
  ·refine (x8_any _).mono ?_
   rintro e w' ⟨v,rfl,hi,hb'⟩
   exact ⟨_,rfl,hb',hi⟩
 ·intro A w1 hA hL hS he
  have hb:=hS rfl
  have hf0 : A.eval (.func 41)=.func (.func 41) #[] #[]:=rfl
  refine goOn_plain rfl ?_
  refine stepG_call (f:=41) (args:=#[]) rfl rfl ?_ ?_
  ·generalize A.eval=ev at *
   go_simp
  ·refine (y8_any _).mono ?_
   rintro e w' ⟨v,rfl,hi,hb'⟩
   exact ⟨_,rfl,hb',hi⟩
 ·intro A w1 hA hL hS he
  have hb:=hS rfl
  have f13 : ((.poly (by decide) (by decide) ([tm 1 1 0]) : FactL (Lr (none) (0)))).p (A.eval (.tmp 13)) w1:=he.1 rfl
  obtain ⟨v13,h13⟩ : ∃ v,A.eval (.tmp 13)=v:=⟨_,rfl⟩
  rw [h13] at f13
  have f14 : ((.poly (by decide) (by decide) ([tm 1 0 1]) : FactL (Lr (none) (0)))).p (A.eval (.tmp 14)) w1:=he.2.1 rfl
  obtain ⟨v14,h14⟩ : ∃ v,A.eval (.tmp 14)=v:=⟨_,rfl⟩
  rw [h14] at f14
  have hf0 : A.eval (.func 39)=.func (.func 39) #[] #[]:=rfl
  refine goOn_plain rfl ?_
  refine stepG_call (f:=39) (args:=#[v13,v14]) rfl rfl ?_ ?_
  ·generalize A.eval=ev at *
   go_simp
  ·refine (addW7 sw_sum (by decide +kernel) (by decide +kernel) f13 f14).mono ?_
   rintro e w' ⟨v,rfl,hi,hb'⟩
   exact ⟨_,rfl,hb',hi⟩
 intro w1 hL
 simp only [TailL,FactL.eq,FactL.poly,FactL.rat,FactL.ret,FactL.fac,FactL.fac1,FactL.of,List.length_cons,List.length_nil,List.drop_succ_cons,List.drop_zero]
 rintro _ - _ - vsum hsum
 go_frame
 have hb:=hL.below
 replace hb0:=hb0.trans (hb.mono hb0.size)
 clear hL hb
 go_upto_region 2 with (fail)
 refine wp_region_S trivial (none) (0) (Okr.none) [.poly (by decide) (by decide) ([tm 1 1 0]),.poly (by decide) (by decide) ([tm 1 0 0]),.poly (by decide) (by decide) ([tm 1 1 0,tm 1 0 0]),.poly (by decide) (by decide) ([tm 1 1 0]),.poly (by decide) (by decide) ([tm 1 0 0]),.poly (by decide) (by decide) ([tm 1 1 0,tm 1 0 0]),.poly (by decide) (by decide) ([tm 1 2 0,tm 2 1 0,tm 1 0 0])] [16,17,18,19,20,21,22] rfl rfl rfl rfl ⟨?_,?_,?_,?_,?_,?_,?_,trivial⟩ ?_
 ·intro A w1 hA hL hS he
  have hb:=hS rfl
  have hf0 : A.eval (.func 40)=.func (.func 40) #[] #[]:=rfl
  refine goOn_plain rfl ?_
  refine stepG_call (f:=40) (args:=#[]) rfl rfl ?_ ?_
  ·generalize A.eval=ev at *
   go_simp
  ·refine (x8_any _).mono ?_
   rintro e w' ⟨v,rfl,hi,hb'⟩
   exact ⟨_,rfl,hb',hi⟩
 ·intro A w1 hA hL hS he
  have hb:=hS rfl
  have hf0 : A.eval (.func 26)=.func (.func 26) #[] #[]:=rfl
  have hc0 : A.eval (.const (.int .i64 1))=.int .i64 1:=rfl
  refine goOn_plain rfl ?_
  refine stepG_call (f:=26) (args:=#[(.int .i64 1)]) rfl rfl ?_ ?_
  ·generalize A.eval=ev at *
   go_simp
  ·refine (num8_any 1 [tm 1 0 0] _ (by omega) (by omega) (by decide +kernel) (by decide +kernel)).mono ?_
   rintro e w' ⟨v,rfl,hi,hb'⟩
   exact ⟨_,rfl,hb',hi⟩
 ·intro A w1 hA hL hS he
  have hb:=hS rfl
  have f16 : ((.poly (by decide) (by decide) ([tm 1 1 0]) : FactL (Lr (none) (0)))).p (A.eval (.tmp 16)) w1:=he.1 rfl
  obtain ⟨v16,h16⟩ : ∃ v,A.eval (.tmp 16)=v:=⟨_,rfl⟩
  rw [h16] at f16
  have f17 : ((.poly (by decide) (by decide) ([tm 1 0 0]) : FactL (Lr (none) (0)))).p (A.eval (.tmp 17)) w1:=he.2.1 rfl
  obtain ⟨v17,h17⟩ : ∃ v,A.eval (.tmp 17)=v:=⟨_,rfl⟩
  rw [h17] at f17
  have hf0 : A.eval (.func 39)=.func (.func 39) #[] #[]:=rfl
  refine goOn_plain rfl ?_
  refine stepG_call (f:=39) (args:=#[v16,v17]) rfl rfl ?_ ?_
  ·generalize A.eval=ev at *
   go_simp
  ·refine (addW7 sw_x1 (by decide +kernel) (by decide +kernel) f16 f17).mono ?_
   rintro e w' ⟨v,rfl,hi,hb'⟩
   exact ⟨_,rfl,hb',hi⟩
 ·intro A w1 hA hL hS he
  have hb:=hS rfl
  have hf0 : A.eval (.func 40)=.func (.func 40) #[] #[]:=rfl
  refine goOn_plain rfl ?_
  refine stepG_call (f:=40) (args:=#[]) rfl rfl ?_ ?_
  ·generalize A.eval=ev at *
   go_simp
  ·refine (x8_any _).mono ?_
   rintro e w' ⟨v,rfl,hi,hb'⟩
   exact ⟨_,rfl,hb',hi⟩
 ·intro A w1 hA hL hS he
  have hb:=hS rfl
  have hf0 : A.eval (.func 26)=.func (.func 26) #[] #[]:=rfl
  have hc0 : A.eval (.const (.int .i64 1))=.int .i64 1:=rfl
  refine goOn_plain rfl ?_
  refine stepG_call (f:=26) (args:=#[(.int .i64 1)]) rfl rfl ?_ ?_
  ·generalize A.eval=ev at *
   go_simp
  ·refine (num8_any 1 [tm 1 0 0] _ (by omega) (by omega) (by decide +kernel) (by decide +kernel)).mono ?_
   rintro e w' ⟨v,rfl,hi,hb'⟩
   exact ⟨_,rfl,hb',hi⟩
 ·intro A w1 hA hL hS he
  have hb:=hS rfl
  have f19 : ((.poly (by decide) (by decide) ([tm 1 1 0]) : FactL (Lr (none) (0)))).p (A.eval (.tmp 19)) w1:=he.1 rfl
  obtain ⟨v19,h19⟩ : ∃ v,A.eval (.tmp 19)=v:=⟨_,rfl⟩
  rw [h19] at f19
  have f20 : ((.poly (by decide) (by decide) ([tm 1 0 0]) : FactL (Lr (none) (0)))).p (A.eval (.tmp 20)) w1:=he.2.1 rfl
  obtain ⟨v20,h20⟩ : ∃ v,A.eval (.tmp 20)=v:=⟨_,rfl⟩
  rw [h20] at f20
  have hf0 : A.eval (.func 39)=.func (.func 39) #[] #[]:=rfl
  refine goOn_plain rfl ?_
  refine stepG_call (f:=39) (args:=#[v19,v20]) rfl rfl ?_ ?_
  ·generalize A.eval=ev at *
   go_simp
  ·refine (addW7 sw_x1 (by decide +kernel) (by decide +kernel) f19 f20).mono ?_
   rintro e w' ⟨v,rfl,hi,hb'⟩
   exact ⟨_,rfl,hb',hi⟩
 ·intro A w1 hA hL hS he
  have hb:=hS rfl
  have f18 : ((.poly (by decide) (by decide) ([tm 1 1 0,tm 1 0 0]) : FactL (Lr (none) (0)))).p (A.eval (.tmp 18)) w1:=he.1 rfl
  obtain ⟨v18,h18⟩ : ∃ v,A.eval (.tmp 18)=v:=⟨_,rfl⟩
  rw [h18] at f18
  have f21 : ((.poly (by decide) (by decide) ([tm 1 1 0,tm 1 0 0]) : FactL (Lr (none) (0)))).p (A.eval (.tmp 21)) w1:=he.2.1 rfl
  obtain ⟨v21,h21⟩ : ∃ v,A.eval (.tmp 21)=v:=⟨_,rfl⟩
  rw [h21] at f21
  have hf0 : A.eval (.func 12)=.func (.func 12) #[] #[]:=rfl
  refine goOn_plain rfl ?_
  refine stepG_call (f:=12) (args:=#[v18,v21]) rfl rfl ?_ ?_
  ·generalize A.eval=ev at *
   go_simp
  ·refine (mulW7 sw_sq (by decide +kernel) (by decide +kernel) f18 f21).mono ?_
   rintro e w' ⟨v,rfl,hi,hb'⟩
   exact ⟨_,rfl,hb',hi⟩
 intro w2 hL
 simp only [TailL,FactL.eq,FactL.poly,FactL.rat,FactL.ret,FactL.fac,FactL.fac1,FactL.of,List.length_cons,List.length_nil,List.drop_succ_cons,List.drop_zero]
 rintro _ - _ - _ - _ - _ - _ - vsq hsq
 go_frame
 have hb:=hL.below
 replace hsum:=hsum.on hb
 replace hb0:=hb0.trans (hb.mono hb0.size)
 clear hL hb
 go_upto_region 3 with (fail)
 refine wp_region_S trivial (none) (0) (Okr.none) [.eq (vsum),.poly (by decide) (by decide) ([tm 1 1 0]),.poly (by decide) (by decide) ([tm 1 0 1]),.poly (by decide) (by decide) ([tm (-1) 0 1,tm 1 1 0]),.poly (by decide) (by decide) ([tm (-1) 0 2,tm 1 2 0])] [23,24,25,26,27] rfl rfl rfl rfl ⟨?_,?_,?_,?_,?_,trivial⟩ ?_
 ·exact fun A w1 hA hL hS he=>goOn_plain rfl (stepG_mv rfl rfl (hA 1 rfl))
 ·intro A w1 hA hL hS he
  have hb:=hS rfl
  have hf0 : A.eval (.func 40)=.func (.func 40) #[] #[]:=rfl
  refine goOn_plain rfl ?_
  refine stepG_call (f:=40) (args:=#[]) rfl rfl ?_ ?_
  ·generalize A.eval=ev at *
   go_simp
  ·refine (x8_any _).mono ?_
   rintro e w' ⟨v,rfl,hi,hb'⟩
   exact ⟨_,rfl,hb',hi⟩
 ·intro A w1 hA hL hS he
  have hb:=hS rfl
  have hf0 : A.eval (.func 41)=.func (.func 41) #[] #[]:=rfl
  refine goOn_plain rfl ?_
  refine stepG_call (f:=41) (args:=#[]) rfl rfl ?_ ?_
  ·generalize A.eval=ev at *
   go_simp
  ·refine (y8_any _).mono ?_
   rintro e w' ⟨v,rfl,hi,hb'⟩
   exact ⟨_,rfl,hb',hi⟩
 ·intro A w1 hA hL hS he
  have hb:=hS rfl
  have f24 : ((.poly (by decide) (by decide) ([tm 1 1 0]) : FactL (Lr (none) (0)))).p (A.eval (.tmp 24)) w1:=he.1 rfl
  obtain ⟨v24,h24⟩ : ∃ v,A.eval (.tmp 24)=v:=⟨_,rfl⟩
  rw [h24] at f24
  have f25 : ((.poly (by decide) (by decide) ([tm 1 0 1]) : FactL (Lr (none) (0)))).p (A.eval (.tmp 25)) w1:=he.2.1 rfl
  obtain ⟨v25,h25⟩ : ∃ v,A.eval (.tmp 25)=v:=⟨_,rfl⟩
  rw [h25] at f25
  have hf0 : A.eval (.func 35)=.func (.func 35) #[] #[]:=rfl
  refine goOn_plain rfl ?_
  refine stepG_call (f:=35) (args:=#[v24,v25]) rfl rfl ?_ ?_
  ·generalize A.eval=ev at *
   go_simp
  ·refine (subW7 sw_xmy (by decide +kernel) (by decide +kernel) f24 f25).mono ?_
   rintro e w' ⟨v,rfl,hi,hb'⟩
   exact ⟨_,rfl,hb',hi⟩
 ·intro A w1 hA hL hS he
  have hb:=hS rfl
  have h23 : A.eval (.tmp 23)=_:=he.1 rfl
  have f26 : ((.poly (by decide) (by decide) ([tm (-1) 0 1,tm 1 1 0]) : FactL (Lr (none) (0)))).p (A.eval (.tmp 26)) w1:=he.2.1 rfl
  obtain ⟨v26,h26⟩ : ∃ v,A.eval (.tmp 26)=v:=⟨_,rfl⟩
  rw [h26] at f26
  have hf0 : A.eval (.func 12)=.func (.func 12) #[] #[]:=rfl
  refine goOn_plain rfl ?_
  refine stepG_call (f:=12) (args:=#[vsum,v26]) rfl rfl ?_ ?_
  ·generalize A.eval=ev at *
   go_simp
  ·refine (mulW7 sw_a (by decide +kernel) (by decide +kernel) (hsum.on hb) f26).mono ?_
   rintro e w' ⟨v,rfl,hi,hb'⟩
   exact ⟨_,rfl,hb',hi⟩
 intro w3 hL
 simp only [TailL,FactL.eq,FactL.poly,FactL.rat,FactL.ret,FactL.fac,FactL.fac1,FactL.of,List.length_cons,List.length_nil,List.drop_succ_cons,List.drop_zero]
 rintro _ - _ - _ - va ha
 go_frame
 have hb:=hL.below
 replace hsum:=hsum.on hb
 replace hsq:=hsq.on hb
 replace hb0:=hb0.trans (hb.mono hb0.size)
 clear hL hb
 go_upto_region 4 with (fail)
 refine wp_region_S trivial (none) (0) (Okr.none) [.poly (by decide) (by decide) ([tm 1 0 1]),.eq (vsum),.poly (by decide) (by decide) ([tm 1 0 2,tm 1 1 1])] [28,29,30] rfl rfl rfl rfl ⟨?_,?_,?_,trivial⟩ ?_
 ·intro A w1 hA hL hS he
  have hb:=hS rfl
  have hf0 : A.eval (.func 41)=.func (.func 41) #[] #[]:=rfl
  refine goOn_plain rfl ?_
  refine stepG_call (f:=41) (args:=#[]) rfl rfl ?_ ?_
  ·generalize A.eval=ev at *
   go_simp
  ·refine (y8_any _).mono ?_
   rintro e w' ⟨v,rfl,hi,hb'⟩
   exact ⟨_,rfl,hb',hi⟩
 ·exact fun A w1 hA hL hS he=>goOn_plain rfl (stepG_mv rfl rfl (hA 1 rfl))
 ·intro A w1 hA hL hS he
  have hb:=hS rfl
  have f28 : ((.poly (by decide) (by decide) ([tm 1 0 1]) : FactL (Lr (none) (0)))).p (A.eval (.tmp 28)) w1:=he.1 rfl
  obtain ⟨v28,h28⟩ : ∃ v,A.eval (.tmp 28)=v:=⟨_,rfl⟩
  rw [h28] at f28
  have h29 : A.eval (.tmp 29)=_:=he.2.1 rfl
  have hf0 : A.eval (.func 12)=.func (.func 12) #[] #[]:=rfl
  refine goOn_plain rfl ?_
  refine stepG_call (f:=12) (args:=#[v28,vsum]) rfl rfl ?_ ?_
  ·generalize A.eval=ev at *
   go_simp
  ·refine (mulW7 sw_b (by decide +kernel) (by decide +kernel) f28 (hsum.on hb)).mono ?_
   rintro e w' ⟨v,rfl,hi,hb'⟩
   exact ⟨_,rfl,hb',hi⟩
 intro w4 hL
 simp only [TailL,FactL.eq,FactL.poly,FactL.rat,FactL.ret,FactL.fac,FactL.fac1,FactL.of,List.length_cons,List.length_nil,List.drop_succ_cons,List.drop_zero]
 rintro _ - vb hbb
 go_frame
 have hb:=hL.below
 replace hsum:=hsum.on hb
 replace hsq:=hsq.on hb
 replace ha:=ha.on hb
 replace hb0:=hb0.trans (hb.mono hb0.size)
 clear hL hb
 go_upto_region 5 with (fail)
 refine wp_region_S trivial (none) (0) (Okr.none) [.poly (by decide) (by decide) ([tm 1 0 1]),.poly (by decide) (by decide) ([tm 1 1 0]),.poly (by decide) (by decide) ([tm 1 0 0]),.poly (by decide) (by decide) ([tm 1 1 0,tm 1 0 0]),.poly (by decide) (by decide) ([tm 1 1 1,tm 1 0 1]),.rat (by decide) (((2 : Int) : Rat)),.poly (by decide) (by decide) ([tm 2 1 1,tm 2 0 1])] [31,32,33,34,35,36,37] rfl rfl rfl rfl ⟨?_,?_,?_,?_,?_,?_,?_,trivial⟩ ?_
 ·intro A w1 hA hL hS he
  have hb:=hS rfl
  have hf0 : A.eval (.func 41)=.func (.func 41) #[] #[]:=rfl
  refine goOn_plain rfl ?_
  refine stepG_call (f:=41) (args:=#[]) rfl rfl ?_ ?_
  ·generalize A.eval=ev at *
   go_simp
  ·refine (y8_any _).mono ?_
   rintro e w' ⟨v,rfl,hi,hb'⟩
   exact ⟨_,rfl,hb',hi⟩
 ·intro A w1 hA hL hS he
  have hb:=hS rfl
  have hf0 : A.eval (.func 40)=.func (.func 40) #[] #[]:=rfl
  refine goOn_plain rfl ?_
  refine stepG_call (f:=40) (args:=#[]) rfl rfl ?_ ?_
  ·generalize A.eval=ev at *
   go_simp
  ·refine (x8_any _).mono ?_
   rintro e w' ⟨v,rfl,hi,hb'⟩
   exact ⟨_,rfl,hb',hi⟩
 ·intro A w1 hA hL hS he
  have hb:=hS rfl
  have hf0 : A.eval (.func 26)=.func (.func 26) #[] #[]:=rfl
  have hc0 : A.eval (.const (.int .i64 1))=.int .i64 1:=rfl
  refine goOn_plain rfl ?_
  refine stepG_call (f:=26) (args:=#[(.int .i64 1)]) rfl rfl ?_ ?_
  ·generalize A.eval=ev at *
   go_simp
  ·refine (num8_any 1 [tm 1 0 0] _ (by omega) (by omega) (by decide +kernel) (by decide +kernel)).mono ?_
   rintro e w' ⟨v,rfl,hi,hb'⟩
   exact ⟨_,rfl,hb',hi⟩
 ·intro A w1 hA hL hS he
  have hb:=hS rfl
  have f32 : ((.poly (by decide) (by decide) ([tm 1 1 0]) : FactL (Lr (none) (0)))).p (A.eval (.tmp 32)) w1:=he.1 rfl
  obtain ⟨v32,h32⟩ : ∃ v,A.eval (.tmp 32)=v:=⟨_,rfl⟩
  rw [h32] at f32
  have f33 : ((.poly (by decide) (by decide) ([tm 1 0 0]) : FactL (Lr (none) (0)))).p (A.eval (.tmp 33)) w1:=he.2.1 rfl
  obtain ⟨v33,h33⟩ : ∃ v,A.eval (.tmp 33)=v:=⟨_,rfl⟩
  rw [h33] at f33
  have hf0 : A.eval (.func 39)=.func (.func 39) #[] #[]:=rfl
  refine goOn_plain rfl ?_
  refine stepG_call (f:=39) (args:=#[v32,v33]) rfl rfl ?_ ?_
  ·generalize A.eval=ev at *
   go_simp
  ·refine (addW7 sw_x1 (by decide +kernel) (by decide +kernel) f32 f33).mono ?_
   rintro e w' ⟨v,rfl,hi,hb'⟩
   exact ⟨_,rfl,hb',hi⟩
 ·intro A w1 hA hL hS he
  have hb:=hS rfl
  have f31 : ((.poly (by decide) (by decide) ([tm 1 0 1]) : FactL (Lr (none) (0)))).p (A.eval (.tmp 31)) w1:=he.1 rfl
  obtain ⟨v31,h31⟩ : ∃ v,A.eval (.tmp 31)=v:=⟨_,rfl⟩
  rw [h31] at f31
  have f34 : ((.poly (by decide) (by decide) ([tm 1 1 0,tm 1 0 0]) : FactL (Lr (none) (0)))).p (A.eval (.tmp 34)) w1:=he.2.1 rfl
  obtain ⟨v34,h34⟩ : ∃ v,A.eval (.tmp 34)=v:=⟨_,rfl⟩
  rw [h34] at f34
  have hf0 : A.eval (.func 12)=.func (.func 12) #[] #[]:=rfl
  refine goOn_plain rfl ?_
  refine stepG_call (f:=12) (args:=#[v31,v34]) rfl rfl ?_ ?_
  ·generalize A.eval=ev at *
   go_simp
  ·refine (mulW7 sw_yx1 (by decide +kernel) (by decide +kernel) f31 f34).mono ?_
   rintro e w' ⟨v,rfl,hi,hb'⟩
   exact ⟨_,rfl,hb',hi⟩
 ·intro A w1 hA hL hS he
  have hb:=hS rfl
  have hf0 : A.eval (.func 24)=.func (.func 24) #[] #[]:=rfl
  have hc0 : A.eval (.const (.int .i64 2))=.int .i64 2:=rfl
  refine goOn_plain rfl ?_
  refine stepG_call (f:=24) (args:=#[(.int .i64 2)]) rfl rfl ?_ ?_
  ·generalize A.eval=ev at *
   go_simp
  ·refine (whole2_any 2 _ (by omega) (by omega)).mono ?_
   rintro e w' ⟨v,rfl,hi,hb'⟩
   exact ⟨_,rfl,hb',hi⟩
 ·intro A w1 hA hL hS he
  have hb:=hS rfl
  have f35 : ((.poly (by decide) (by decide) ([tm 1 1 1,tm 1 0 1]) : FactL (Lr (none) (0)))).p (A.eval (.tmp 35)) w1:=he.1 rfl
  obtain ⟨v35,h35⟩ : ∃ v,A.eval (.tmp 35)=v:=⟨_,rfl⟩
  rw [h35] at f35
  have f36 : ((.rat (by decide) (((2 : Int) : Rat)) : FactL (Lr (none) (0)))).p (A.eval (.tmp 36)) w1:=he.2.1 rfl
  obtain ⟨v36,h36⟩ : ∃ v,A.eval (.tmp 36)=v:=⟨_,rfl⟩
  rw [h36] at f36
  have hf0 : A.eval (.func 42)=.func (.func 42) #[] #[]:=rfl
  refine goOn_plain rfl ?_
  refine stepG_call (f:=42) (args:=#[v35,v36]) rfl rfl ?_ ?_
  ·generalize A.eval=ev at *
   go_simp
  ·refine (scaleW7 sw_c (by decide +kernel) (by decide +kernel) f35 f36).mono ?_
   rintro e w' ⟨v,rfl,hi,hb'⟩
   exact ⟨_,rfl,hb',hi⟩
 intro w5 hL
 simp only [TailL,FactL.eq,FactL.poly,FactL.rat,FactL.ret,FactL.fac,FactL.fac1,FactL.of,List.length_cons,List.length_nil,List.drop_succ_cons,List.drop_zero]
 rintro _ - _ - _ - _ - _ - _ - vc hc
 go_frame
 have hb:=hL.below
 replace hsum:=hsum.on hb
 replace hsq:=hsq.on hb
 replace ha:=ha.on hb
 replace hbb:=hbb.on hb
 replace hb0:=hb0.trans (hb.mono hb0.size)
 clear hL hb
 go_upto_region 6 with (fail)
 refine wp_region_S trivial (none) (0) (Okr.none) [.poly (by decide) (by decide) ([tm 1 1 0]),.poly (by decide) (by decide) ([tm 1 0 1]),.poly (by decide) (by decide) ([tm 1 1 1]),.eq (vsq),.poly (by decide) (by decide) ([tm 1 3 1,tm 2 2 1,tm 1 1 1]),.fac [([tm 1 1 0],1),([tm 1 1 0,tm 1 0 0],2)]] [38,39,40,41,42,43] rfl rfl rfl rfl ⟨?_,?_,?_,?_,?_,?_,trivial⟩ ?_
 ·intro A w1 hA hL hS he
  have hb:=hS rfl
  have hf0 : A.eval (.func 40)=.func (.func 40) #[] #[]:=rfl
  refine goOn_plain rfl ?_
  refine stepG_call (f:=40) (args:=#[]) rfl rfl ?_ ?_
  ·generalize A.eval=ev at *
   go_simp
  ·refine (x8_any _).mono ?_
   rintro e w' ⟨v,rfl,hi,hb'⟩
   exact ⟨_,rfl,hb',hi⟩
 ·intro A w1 hA hL hS he
  have hb:=hS rfl
  have hf0 : A.eval (.func 41)=.func (.func 41) #[] #[]:=rfl
  refine goOn_plain rfl ?_
  refine stepG_call (f:=41) (args:=#[]) rfl rfl ?_ ?_
  ·generalize A.eval=ev at *
   go_simp
  ·refine (y8_any _).mono ?_
   rintro e w' ⟨v,rfl,hi,hb'⟩
   exact ⟨_,rfl,hb',hi⟩
 ·intro A w1 hA hL hS he
  have hb:=hS rfl
  have f38 : ((.poly (by decide) (by decide) ([tm 1 1 0]) : FactL (Lr (none) (0)))).p (A.eval (.tmp 38)) w1:=he.1 rfl
  obtain ⟨v38,h38⟩ : ∃ v,A.eval (.tmp 38)=v:=⟨_,rfl⟩
  rw [h38] at f38
  have f39 : ((.poly (by decide) (by decide) ([tm 1 0 1]) : FactL (Lr (none) (0)))).p (A.eval (.tmp 39)) w1:=he.2.1 rfl
  obtain ⟨v39,h39⟩ : ∃ v,A.eval (.tmp 39)=v:=⟨_,rfl⟩
  rw [h39] at f39
  have hf0 : A.eval (.func 12)=.func (.func 12) #[] #[]:=rfl
  refine goOn_plain rfl ?_
  refine stepG_call (f:=12) (args:=#[v38,v39]) rfl rfl ?_ ?_
  ·generalize A.eval=ev at *
   go_simp
  ·refine (mulW7 sw_xy (by decide +kernel) (by decide +kernel) f38 f39).mono ?_
   rintro e w' ⟨v,rfl,hi,hb'⟩
   exact ⟨_,rfl,hb',hi⟩
 ·exact fun A w1 hA hL hS he=>goOn_plain rfl (stepG_mv rfl rfl (hA 2 rfl))
 ·intro A w1 hA hL hS he
  have hb:=hS rfl
  have f40 : ((.poly (by decide) (by decide) ([tm 1 1 1]) : FactL (Lr (none) (0)))).p (A.eval (.tmp 40)) w1:=he.1 rfl
  obtain ⟨v40,h40⟩ : ∃ v,A.eval (.tmp 40)=v:=⟨_,rfl⟩
  rw [h40] at f40
  have h41 : A.eval (.tmp 41)=_:=he.2.1 rfl
  have hf0 : A.eval (.func 12)=.func (.func 12) #[] #[]:=rfl
  refine goOn_plain rfl ?_
  refine stepG_call (f:=12) (args:=#[v40,vsq]) rfl rfl ?_ ?_
  ·generalize A.eval=ev at *
   go_simp
  ·refine (mulW7 sw_f (by decide +kernel) (by decide +kernel) f40 (hsq.on hb)).mono ?_
   rintro e w' ⟨v,rfl,hi,hb'⟩
   exact ⟨_,rfl,hb',hi⟩
 ·intro A w1 hA hL hS he
  have hb:=hS rfl
  have f42 : ((.poly (by decide) (by decide) ([tm 1 3 1,tm 2 2 1,tm 1 1 1]) : FactL (Lr (none) (0)))).p (A.eval (.tmp 42)) w1:=he.1 rfl
  obtain ⟨v42,h42⟩ : ∃ v,A.eval (.tmp 42)=v:=⟨_,rfl⟩
  rw [h42] at f42
  have hf0 : A.eval (.func 29)=.func (.func 29) #[] #[]:=rfl
  have hc0 : A.eval (.const (.int .i64 0))=.int .i64 0:=rfl
  refine goOn_plain rfl ?_
  refine stepG_call (f:=29) (args:=#[v42,(.int .i64 0)]) rfl rfl ?_ ?_
  ·generalize A.eval=ev at *
   go_simp
  ·refine (sqfW sw_l (by decide +kernel) f42).mono ?_
   rintro e w' ⟨v,rfl,hi,hb'⟩
   exact ⟨_,rfl,hb',hi⟩
 intro w6 hL
 simp only [TailL,FactL.eq,FactL.poly,FactL.rat,FactL.ret,FactL.fac,FactL.fac1,FactL.of,List.length_cons,List.length_nil,List.drop_succ_cons,List.drop_zero]
 rintro _ - _ - _ - _ - vl hl
 go_frame
 have hb:=hL.below
 replace hsum:=hsum.on hb
 replace ha:=ha.on hb
 replace hbb:=hbb.on hb
 replace hc:=hc.on hb
 replace hb0:=hb0.trans (hb.mono hb0.size)
 clear hL hb
 clear hsq
 go_upto_region 7 with (fail)
 refine wp_region_S trivial (none) (0) (Okr.none) [.poly (by decide) (by decide) ([tm 1 1 0]),.poly (by decide) (by decide) ([tm 2 0 0]),.poly (by decide) (by decide) ([tm 1 1 0,tm 2 0 0]),.rat (by decide) (((2 : Int) : Rat)),.poly (by decide) (by decide) ([tm 2 1 0,tm 4 0 0]),.poly (by decide) (by decide) ([tm 1 1 0,tm 2 0 0]),.poly (by decide) (by decide) ([tm 1 1 0]),.poly (by decide) (by decide) ([tm 2 0 0]),.poly (by decide) (by decide) ([tm 1 1 0,tm 2 0 0]),.ret (.bool true),.eq (.bool true),.poly (by decide) (by decide) ([]),.eq (.int .i64 0),.eq (.bool true),.eq (.bool true)] [44,45,46,47,48,49,50,51,52,53,54,55,56,57,58] rfl rfl rfl rfl ⟨?_,?_,?_,?_,?_,?_,?_,?_,?_,?_,?_,?_,?_,?_,?_,trivial⟩ ?_
 ·intro A w1 hA hL hS he
  have hb:=hS rfl
  have hf0 : A.eval (.func 40)=.func (.func 40) #[] #[]:=rfl
  refine goOn_plain rfl ?_
  refine stepG_call (f:=40) (args:=#[]) rfl rfl ?_ ?_
  ·generalize A.eval=ev at *
   go_simp
  ·refine (x8_any _).mono ?_
   rintro e w' ⟨v,rfl,hi,hb'⟩
   exact ⟨_,rfl,hb',hi⟩
 ·intro A w1 hA hL hS he
  have hb:=hS rfl
  have hf0 : A.eval (.func 26)=.func (.func 26) #[] #[]:=rfl
  have hc0 : A.eval (.const (.int .i64 2))=.int .i64 2:=rfl
  refine goOn_plain rfl ?_
  refine stepG_call (f:=26) (args:=#[(.int .i64 2)]) rfl rfl ?_ ?_
  ·generalize A.eval=ev at *
   go_simp
  ·refine (num8_any 2 [tm 2 0 0] _ (by omega) (by omega) (by decide +kernel) (by decide +kernel)).mono ?_
   rintro e w' ⟨v,rfl,hi,hb'⟩
   exact ⟨_,rfl,hb',hi⟩
 ·intro A w1 hA hL hS he
  have hb:=hS rfl
  have f44 : ((.poly (by decide) (by decide) ([tm 1 1 0]) : FactL (Lr (none) (0)))).p (A.eval (.tmp 44)) w1:=he.1 rfl
  obtain ⟨v44,h44⟩ : ∃ v,A.eval (.tmp 44)=v:=⟨_,rfl⟩
  rw [h44] at f44
  have f45 : ((.poly (by decide) (by decide) ([tm 2 0 0]) : FactL (Lr (none) (0)))).p (A.eval (.tmp 45)) w1:=he.2.1 rfl
  obtain ⟨v45,h45⟩ : ∃ v,A.eval (.tmp 45)=v:=⟨_,rfl⟩
  rw [h45] at f45
  have hf0 : A.eval (.func 39)=.func (.func 39) #[] #[]:=rfl
  refine goOn_plain rfl ?_
  refine stepG_call (f:=39) (args:=#[v44,v45]) rfl rfl ?_ ?_
  ·generalize A.eval=ev at *
   go_simp
  ·refine (addW7 sw_x2 (by decide +kernel) (by decide +kernel) f44 f45).mono ?_
   rintro e w' ⟨v,rfl,hi,hb'⟩
   exact ⟨_,rfl,hb',hi⟩
 ·intro A w1 hA hL hS he
  have hb:=hS rfl
  have hf0 : A.eval (.func 24)=.func (.func 24) #[] #[]:=rfl
  have hc0 : A.eval (.const (.int .i64 2))=.int .i64 2:=rfl
  refine goOn_plain rfl ?_
  refine stepG_call (f:=24) (args:=#[(.int .i64 2)]) rfl rfl ?_ ?_
  ·generalize A.eval=ev at *
   go_simp
  ·refine (whole2_any 2 _ (by omega) (by omega)).mono ?_
   rintro e w' ⟨v,rfl,hi,hb'⟩
   exact ⟨_,rfl,hb',hi⟩
 ·intro A w1 hA hL hS he
  have hb:=hS rfl
  have f46 : ((.poly (by decide) (by decide) ([tm 1 1 0,tm 2 0 0]) : FactL (Lr (none) (0)))).p (A.eval (.tmp 46)) w1:=he.1 rfl
  obtain ⟨v46,h46⟩ : ∃ v,A.eval (.tmp 46)=v:=⟨_,rfl⟩
  rw [h46] at f46
  have f47 : ((.rat (by decide) (((2 : Int) : Rat)) : FactL (Lr (none) (0)))).p (A.eval (.tmp 47)) w1:=he.2.1 rfl
  obtain ⟨v47,h47⟩ : ∃ v,A.eval (.tmp 47)=v:=⟨_,rfl⟩
  rw [h47] at f47
  have hf0 : A.eval (.func 42)=.func (.func 42) #[] #[]:=rfl
  refine goOn_plain rfl ?_
  refine stepG_call (f:=42) (args:=#[v46,v47]) rfl rfl ?_ ?_
  ·generalize A.eval=ev at *
   go_simp
  ·refine (scaleW7 sw_2x2 (by decide +kernel) (by decide +kernel) f46 f47).mono ?_
   rintro e w' ⟨v,rfl,hi,hb'⟩
   exact ⟨_,rfl,hb',hi⟩
 ·intro A w1 hA hL hS he
  have hb:=hS rfl
  have f48 : ((.poly (by decide) (by decide) ([tm 2 1 0,tm 4 0 0]) : FactL (Lr (none) (0)))).p (A.eval (.tmp 48)) w1:=he.1 rfl
  obtain ⟨v48,h48⟩ : ∃ v,A.eval (.tmp 48)=v:=⟨_,rfl⟩
  rw [h48] at f48
  have hf0 : A.eval (.func 14)=.func (.func 14) #[] #[]:=rfl
  refine goOn_plain rfl ?_
  refine stepG_call (f:=14) (args:=#[v48]) rfl rfl ?_ ?_
  ·generalize A.eval=ev at *
   go_simp
  ·refine (normW sw_n (by decide +kernel) f48).mono ?_
   rintro e w' ⟨v,rfl,hi,hb'⟩
   exact ⟨_,rfl,hb',hi⟩
 ·intro A w1 hA hL hS he
  have hb:=hS rfl
  have hf0 : A.eval (.func 40)=.func (.func 40) #[] #[]:=rfl
  refine goOn_plain rfl ?_
  refine stepG_call (f:=40) (args:=#[]) rfl rfl ?_ ?_
  ·generalize A.eval=ev at *
   go_simp
  ·refine (x8_any _).mono ?_
   rintro e w' ⟨v,rfl,hi,hb'⟩
   exact ⟨_,rfl,hb',hi⟩
 ·intro A w1 hA hL hS he
  have hb:=hS rfl
  have hf0 : A.eval (.func 26)=.func (.func 26) #[] #[]:=rfl
  have hc0 : A.eval (.const (.int .i64 2))=.int .i64 2:=rfl
  refine goOn_plain rfl ?_
  refine stepG_call (f:=26) (args:=#[(.int .i64 2)]) rfl rfl ?_ ?_
  ·generalize A.eval=ev at *
   go_simp
  ·refine (num8_any 2 [tm 2 0 0] _ (by omega) (by omega) (by decide +kernel) (by decide +kernel)).mono ?_
   rintro e w' ⟨v,rfl,hi,hb'⟩
   exact ⟨_,rfl,hb',hi⟩
 ·intro A w1 hA hL hS he
  have hb:=hS rfl
  have f50 : ((.poly (by decide) (by decide) ([tm 1 1 0]) : FactL (Lr (none) (0)))).p (A.eval (.tmp 50)) w1:=he.1 rfl
  obtain ⟨v50,h50⟩ : ∃ v,A.eval (.tmp 50)=v:=⟨_,rfl⟩
  rw [h50] at f50
  have f51 : ((.poly (by decide) (by decide) ([tm 2 0 0]) : FactL (Lr (none) (0)))).p (A.eval (.tmp 51)) w1:=he.2.1 rfl
  obtain ⟨v51,h51⟩ : ∃ v,A.eval (.tmp 51)=v:=⟨_,rfl⟩
  rw [h51] at f51
  have hf0 : A.eval (.func 39)=.func (.func 39) #[] #[]:=rfl
  refine goOn_plain rfl ?_
  refine stepG_call (f:=39) (args:=#[v50,v51]) rfl rfl ?_ ?_
  ·generalize A.eval=ev at *
   go_simp
  ·refine (addW7 sw_x2 (by decide +kernel) (by decide +kernel) f50 f51).mono ?_
   rintro e w' ⟨v,rfl,hi,hb'⟩
   exact ⟨_,rfl,hb',hi⟩
 ·intro A w1 hA hL hS he
  have hb:=hS rfl
  have f49 : ((.poly (by decide) (by decide) ([tm 1 1 0,tm 2 0 0]) : FactL (Lr (none) (0)))).p (A.eval (.tmp 49)) w1:=he.1 rfl
  obtain ⟨v49,h49⟩ : ∃ v,A.eval (.tmp 49)=v:=⟨_,rfl⟩
  rw [h49] at f49
  have f52 : ((.poly (by decide) (by decide) ([tm 1 1 0,tm 2 0 0]) : FactL (Lr (none) (0)))).p (A.eval (.tmp 52)) w1:=he.2.1 rfl
  obtain ⟨v52,h52⟩ : ∃ v,A.eval (.tmp 52)=v:=⟨_,rfl⟩
  rw [h52] at f52
  have hf0 : A.eval (.func 13)=.func (.func 13) #[] #[]:=rfl
  refine goOn_plain rfl ?_
  refine stepG_call (f:=13) (args:=#[v49,v52]) rfl rfl ?_ ?_
  ·generalize A.eval=ev at *
   go_simp
  ·refine (sameW7 (by decide +kernel) f49 f52).mono ?_
   rintro e w' ⟨rfl,hb'⟩
   exact ⟨_,rfl,hb',rfl⟩
 ·exact fun A w1 hA hL hS he=>goOn_plain rfl (stepG_mv rfl rfl (he.1 rfl))
 ·intro A w1 hA hL hS he
  have hb:=hS rfl
  have h54 : A.eval (.tmp 54)=_:=he.1 rfl
  have hf0 : A.eval (.func 14)=.func (.func 14) #[] #[]:=rfl
  have hc0 : A.eval (.const (.slice none 0 0))=.slice none 0 0:=rfl
  refine goOn_yes rfl rfl h54 ?_
  refine stepG_call (f:=14) (args:=#[(.slice none 0 0)]) rfl rfl ?_ ?_
  ·generalize A.eval=ev at *
   go_simp
  ·refine (normal_nil _ _ (IsSl.nil _ _)).mono ?_
   rintro e w' ⟨v,rfl,hi,hb'⟩
   exact ⟨_,rfl,hb',hi⟩
 ·intro A w1 hA hL hS he
  have h54 : A.eval (.tmp 54)=_:=he.2.1 rfl
  have f55 : ((.poly (by decide) (by decide) ([]) : FactL (Lr (none) (0)))).p (A.eval (.tmp 55)) w1:=he.1 rfl
  obtain ⟨v55,h55⟩ : ∃ v,A.eval (.tmp 55)=v:=⟨_,rfl⟩
  rw [h55] at f55
  refine goOn_yes rfl rfl h54 ?_
  obtain ⟨a_,c_,e_,-⟩:=IsSl.shape f55
  subst e_
  simp only [List.length_nil] at *
  refine stepG_pure rfl rfl ?_
  generalize A.eval=ev at *
  go_simp
 ·intro A w1 hA hL hS he
  have h54 : A.eval (.tmp 54)=_:=he.2.1 rfl
  have h56 : A.eval (.tmp 56)=_:=he.1 rfl
  have hc0 : A.eval (.const (.int .i64 0))=.int .i64 0:=rfl
  refine goOn_yes rfl rfl h54 ?_
  refine stepG_pure rfl rfl ?_
  generalize A.eval=ev at *
  go_simp
 ·exact fun A w1 hA hL hS he=>goOn_plain rfl (stepG_pk rfl (he.1 rfl) rfl (he.2.1 rfl))
 intro w7 hL
 simp only [TailL,FactL.eq,FactL.poly,FactL.rat,FactL.ret,FactL.fac,FactL.fac1,FactL.of,List.length_cons,List.length_nil,List.drop_succ_cons,List.drop_zero]
 intros
 go_frame
 have hb:=hL.below
 replace hsum:=hsum.on hb
 replace ha:=ha.on hb
 replace hbb:=hbb.on hb
 replace hc:=hc.on hb
 replace hl:=hl.on hb
 replace hb0:=hb0.trans (hb.mono hb0.size)
 clear hL hb
 go_upto_region 8 with (fail)
 refine wp_region_S trivial (none) (0) (Okr.none) [.eq (va),.eq (vb),.poly (by decide) (by decide) ([tm 1 0 1,tm 1 1 0]),.eq (vsum),.ret (.bool true),.eq (.bool true),.poly (by decide) (by decide) ([tm 1 1 0]),.rat (by decide) (((3 : Int) : Rat)),.poly (by decide) (by decide) ([tm 3 1 0]),.poly (by decide) (by decide) ([tm 1 1 0]),.poly (by decide) (by decide) ([tm 1 1 0]),.ret (.bool true),.eq (.bool true),.eq (.bool true),.poly (by decide) (by decide) ([tm 1 1 0]),.poly (by decide) (by decide) ([tm 1 0 1]),.poly (by decide) (by decide) ([tm 1 0 0]),.poly (by decide) (by decide) ([tm 1 0 0]),.ret (.bool true),.eq (.bool true),.eq (.bool true),.poly (by decide) (by decide) ([tm 4 0 0]),.poly (by decide) (by decide) ([tm 6 0 0]),.poly (by decide) (by decide) ([tm 1 0 0]),.poly (by decide) (by decide) ([tm 1 0 0]),.ret (.bool true),.eq (.bool true),.eq (.bool true),.poly (by decide) (by decide) ([]),.eq (.int .i64 0),.eq (.bool true),.eq (.bool true)] [59,60,61,62,63,64,65,66,67,68,69,70,71,72,73,74,75,76,77,78,79,80,81,82,83,84,85,86,87,88,89,90] rfl rfl rfl rfl ⟨?_,?_,?_,?_,?_,?_,?_,?_,?_,?_,?_,?_,?_,?_,?_,?_,?_,?_,?_,?_,?_,?_,?_,?_,?_,?_,?_,?_,?_,?_,?_,?_,trivial⟩ ?_
 ·exact fun A w1 hA hL hS he=>goOn_plain rfl (stepG_mv rfl rfl (hA 3 rfl))
 ·exact fun A w1 hA hL hS he=>goOn_plain rfl (stepG_mv rfl rfl (hA 4 rfl))
 ·intro A w1 hA hL hS he
  have hb:=hS rfl
  have h59 : A.eval (.tmp 59)=_:=he.1 rfl
  have h60 : A.eval (.tmp 60)=_:=he.2.1 rfl
  have hf0 : A.eval (.func 16)=.func (.func 16) #[] #[]:=rfl
  refine goOn_plain rfl ?_
  refine stepG_call (f:=16) (args:=#[va,vb]) rfl rfl ?_ ?_
  ·generalize A.eval=ev at *
   go_simp
  ·refine (gcdW sw_g1 (by decide +kernel) (by decide +kernel) (ha.on hb) (hbb.on hb)).mono ?_
   rintro e w' ⟨v,rfl,hi,hb'⟩
   exact ⟨_,rfl,hb',hi⟩
 ·exact fun A w1 hA hL hS he=>goOn_plain rfl (stepG_mv rfl rfl (hA 1 rfl))
 ·intro A w1 hA hL hS he
  have hb:=hS rfl
  have f61 : ((.poly (by decide) (by decide) ([tm 1 0 1,tm 1 1 0]) : FactL (Lr (none) (0)))).p (A.eval (.tmp 61)) w1:=he.1 rfl
  obtain ⟨v61,h61⟩ : ∃ v,A.eval (.tmp 61)=v:=⟨_,rfl⟩
  rw [h61] at f61
  have h62 : A.eval (.tmp 62)=_:=he.2.1 rfl
  have hf0 : A.eval (.func 13)=.func (.func 13) #[] #[]:=rfl
  refine goOn_plain rfl ?_
  refine stepG_call (f:=13) (args:=#[v61,vsum]) rfl rfl ?_ ?_
  ·generalize A.eval=ev at *
   go_simp
  ·refine (sameW7 (by decide +kernel) f61 (hsum.on hb)).mono ?_
   rintro e w' ⟨rfl,hb'⟩
   exact ⟨_,rfl,hb',rfl⟩
 ·exact fun A w1 hA hL hS he=>goOn_plain rfl (stepG_mv rfl rfl (he.1 rfl))
 ·intro A w1 hA hL hS he
  have hb:=hS rfl
  have h64 : A.eval (.tmp 64)=_:=he.1 rfl
  have hf0 : A.eval (.func 40)=.func (.func 40) #[] #[]:=rfl
  refine goOn_yes rfl rfl h64 ?_
  refine stepG_call (f:=40) (args:=#[]) rfl rfl ?_ ?_
  ·generalize A.eval=ev at *
   go_simp
  ·refine (x8_any _).mono ?_
   rintro e w' ⟨v,rfl,hi,hb'⟩
   exact ⟨_,rfl,hb',hi⟩
 ·intro A w1 hA hL hS he
  have hb:=hS rfl
  have h64 : A.eval (.tmp 64)=_:=he.2.1 rfl
  have hf0 : A.eval (.func 24)=.func (.func 24) #[] #[]:=rfl
  have hc0 : A.eval (.const (.int .i64 3))=.int .i64 3:=rfl
  refine goOn_yes rfl rfl h64 ?_
  refine stepG_call (f:=24) (args:=#[(.int .i64 3)]) rfl rfl ?_ ?_
  ·generalize A.eval=ev at *
   go_simp
  ·refine (whole2_any 3 _ (by omega) (by omega)).mono ?_
   rintro e w' ⟨v,rfl,hi,hb'⟩
   exact ⟨_,rfl,hb',hi⟩
 ·intro A w1 hA hL hS he
  have hb:=hS rfl
  have h64 : A.eval (.tmp 64)=_:=he.2.2.2.1 rfl
  have f65 : ((.poly (by decide) (by decide) ([tm 1 1 0]) : FactL (Lr (none) (0)))).p (A.eval (.tmp 65)) w1:=he.1 rfl
  obtain ⟨v65,h65⟩ : ∃ v,A.eval (.tmp 65)=v:=⟨_,rfl⟩
  rw [h65] at f65
  have f66 : ((.rat (by decide) (((3 : Int) : Rat)) : FactL (Lr (none) (0)))).p (A.eval (.tmp 66)) w1:=he.2.1 rfl
  obtain ⟨v66,h66⟩ : ∃ v,A.eval (.tmp 66)=v:=⟨_,rfl⟩
  rw [h66] at f66
  have hf0 : A.eval (.func 42)=.func (.func 42) #[] #[]:=rfl
  refine goOn_yes rfl rfl h64 ?_
  refine stepG_call (f:=42) (args:=#[v65,v66]) rfl rfl ?_ ?_
  ·generalize A.eval=ev at *
   go_simp
  ·refine (scaleW7 sw_3x (by decide +kernel) (by decide +kernel) f65 f66).mono ?_
   rintro e w' ⟨v,rfl,hi,hb'⟩
   exact ⟨_,rfl,hb',hi⟩
 ·intro A w1 hA hL hS he
  have hb:=hS rfl
  have h64 : A.eval (.tmp 64)=_:=he.2.2.1 rfl
  have f67 : ((.poly (by decide) (by decide) ([tm 3 1 0]) : FactL (Lr (none) (0)))).p (A.eval (.tmp 67)) w1:=he.1 rfl
  obtain ⟨v67,h67⟩ : ∃ v,A.eval (.tmp 67)=v:=⟨_,rfl⟩
  rw [h67] at f67
  have hf0 : A.eval (.func 16)=.func (.func 16) #[] #[]:=rfl
  have hc0 : A.eval (.const (.slice none 0 0))=.slice none 0 0:=rfl
  refine goOn_yes rfl rfl h64 ?_
  refine stepG_call (f:=16) (args:=#[(.slice none 0 0),v67]) rfl rfl ?_ ?_
  ·generalize A.eval=ev at *
   go_simp
  ·refine (gcdW sw_g2 (by decide +kernel) (by decide +kernel) (IsSl.nil _ _) f67).mono ?_
   rintro e w' ⟨v,rfl,hi,hb'⟩
   exact ⟨_,rfl,hb',hi⟩
 ·intro A w1 hA hL hS he
  have hb:=hS rfl
  have h64 : A.eval (.tmp 64)=_:=he.2.1 rfl
  have hf0 : A.eval (.func 40)=.func (.func 40) #[] #[]:=rfl
  refine goOn_yes rfl rfl h64 ?_
  refine stepG_call (f:=40) (args:=#[]) rfl rfl ?_ ?_
  ·generalize A.eval=ev at *
   go_simp
  ·refine (x8_any _).mono ?_
   rintro e w' ⟨v,rfl,hi,hb'⟩
   exact ⟨_,rfl,hb',hi⟩
 ·intro A w1 hA hL hS he
  have hb:=hS rfl
  have h64 : A.eval (.tmp 64)=_:=he.2.2.2.1 rfl
  have f68 : ((.poly (by decide) (by decide) ([tm 1 1 0]) : FactL (Lr (none) (0)))).p (A.eval (.tmp 68)) w1:=he.1 rfl
  obtain ⟨v68,h68⟩ : ∃ v,A.eval (.tmp 68)=v:=⟨_,rfl⟩
  rw [h68] at f68
  have f69 : ((.poly (by decide) (by decide) ([tm 1 1 0]) : FactL (Lr (none) (0)))).p (A.eval (.tmp 69)) w1:=he.2.1 rfl
  obtain ⟨v69,h69⟩ : ∃ v,A.eval (.tmp 69)=v:=⟨_,rfl⟩
  rw [h69] at f69
  have hf0 : A.eval (.func 13)=.func (.func 13) #[] #[]:=rfl
  refine goOn_yes rfl rfl h64 ?_
  refine stepG_call (f:=13) (args:=#[v68,v69]) rfl rfl ?_ ?_
  ·generalize A.eval=ev at *
   go_simp
  ·refine (sameW7 (by decide +kernel) f68 f69).mono ?_
   rintro e w' ⟨rfl,hb'⟩
   exact ⟨_,rfl,hb',rfl⟩
 ·exact fun A w1 hA hL hS he=>goOn_plain rfl (stepG_pk rfl (he.1 rfl) rfl (he.2.1 rfl))
 ·exact fun A w1 hA hL hS he=>goOn_plain rfl (stepG_mv rfl rfl (he.1 rfl))
 ·intro A w1 hA hL hS he
  have hb:=hS rfl
  have h72 : A.eval (.tmp 72)=_:=he.1 rfl
  have hf0 : A.eval (.func 40)=.func (.func 40) #[] #[]:=rfl
  refine goOn_yes rfl rfl h72 ?_
  refine stepG_call (f:=40) (args:=#[]) rfl rfl ?_ ?_
  ·generalize A.eval=ev at *
   go_simp
  ·refine (x8_any _).mono ?_
   rintro e w' ⟨v,rfl,hi,hb'⟩
   exact ⟨_,rfl,hb',hi⟩
 ·intro A w1 hA hL hS he
  have hb:=hS rfl
  have h72 : A.eval (.tmp 72)=_:=he.2.1 rfl
  have hf0 : A.eval (.func 41)=.func (.func 41) #[] #[]:=rfl
  refine goOn_yes rfl rfl h72 ?_
  refine stepG_call (f:=41) (args:=#[]) rfl rfl ?_ ?_
  ·generalize A.eval=ev at *
   go_simp
  ·refine (y8_any _).mono ?_
   rintro e w' ⟨v,rfl,hi,hb'⟩
   exact ⟨_,rfl,hb',hi⟩
 ·intro A w1 hA hL hS he
  have hb:=hS rfl
  have h72 : A.eval (.tmp 72)=_:=he.2.2.2.1 rfl
  have f73 : ((.poly (by decide) (by decide) ([tm 1 1 0]) : FactL (Lr (none) (0)))).p (A.eval (.tmp 73)) w1:=he.1 rfl
  obtain ⟨v73,h73⟩ : ∃ v,A.eval (.tmp 73)=v:=⟨_,rfl⟩
  rw [h73] at f73
  have f74 : ((.poly (by decide) (by decide) ([tm 1 0 1]) : FactL (Lr (none) (0)))).p (A.eval (.tmp 74)) w1:=he.2.1 rfl
  obtain ⟨v74,h74⟩ : ∃ v,A.eval (.tmp 74)=v:=⟨_,rfl⟩
  rw [h74] at f74
  have hf0 : A.eval (.func 16)=.func (.func 16) #[] #[]:=rfl
  refine goOn_yes rfl rfl h72 ?_
  refine stepG_call (f:=16) (args:=#[v73,v74]) rfl rfl ?_ ?_
  ·generalize A.eval=ev at *
   go_simp
  ·refine (gcdW sw_g3 (by decide +kernel) (by decide +kernel) f73 f74).mono ?_
   rintro e w' ⟨v,rfl,hi,hb'⟩
   exact ⟨_,rfl,hb',hi⟩
 ·intro A w1 hA hL hS he
  have hb:=hS rfl
  have h72 : A.eval (.tmp 72)=_:=he.2.1 rfl
  have hf0 : A.eval (.func 26)=.func (.func 26) #[] #[]:=rfl
  have hc0 : A.eval (.const (.int .i64 1))=.int .i64 1:=rfl
  refine goOn_yes rfl rfl h72 ?_
  refine stepG_call (f:=26) (args:=#[(.int .i64 1)]) rfl rfl ?_ ?_
  ·generalize A.eval=ev at *
   go_simp
  ·refine (num8_any 1 [tm 1 0 0] _ (by omega) (by omega) (by decide +kernel) (by decide +kernel)).mono ?_
   rintro e w' ⟨v,rfl,hi,hb'⟩
   exact ⟨_,rfl,hb',hi⟩
 ·intro A w1 hA hL hS he
  have hb:=hS rfl
  have h72 : A.eval (.tmp 72)=_:=he.2.2.2.1 rfl
  have f75 : ((.poly (by decide) (by decide) ([tm 1 0 0]) : FactL (Lr (none) (0)))).p (A.eval (.tmp 75)) w1:=he.1 rfl
  obtain ⟨v75,h75⟩ : ∃ v,A.eval (.tmp 75)=v:=⟨_,rfl⟩
  rw [h75] at f75
  have f76 : ((.poly (by decide) (by decide) ([tm 1 0 0]) : FactL (Lr (none) (0)))).p (A.eval (.tmp 76)) w1:=he.2.1 rfl
  obtain ⟨v76,h76⟩ : ∃ v,A.eval (.tmp 76)=v:=⟨_,rfl⟩
  rw [h76] at f76
  have hf0 : A.eval (.func 13)=.func (.func 13) #[] #[]:=rfl
  refine goOn_yes rfl rfl h72 ?_
  refine stepG_call (f:=13) (args:=#[v75,v76]) rfl rfl ?_ ?_
  ·generalize A.eval=ev at *
   go_simp
  ·refine (sameW7 (by decide +kernel) f75 f76).mono ?_
   rintro e w' ⟨rfl,hb'⟩
   exact ⟨_,rfl,hb',rfl⟩
 ·exact fun A w1 hA hL hS he=>goOn_plain rfl (stepG_pk rfl (he.1 rfl) rfl (he.2.1 rfl))
 ·exact fun A w1 hA hL hS he=>goOn_plain rfl (stepG_mv rfl rfl (he.1 rfl))
 ·intro A w1 hA hL hS he
  have hb:=hS rfl
  have h79 : A.eval (.tmp 79)=_:=he.1 rfl
  have hf0 : A.eval (.func 26)=.func (.func 26) #[] #[]:=rfl
  have hc0 : A.eval (.const (.int .i64 4))=.int .i64 4:=rfl
  refine goOn_yes rfl rfl h79 ?_
  refine stepG_call (f:=26) (args:=#[(.int .i64 4)]) rfl rfl ?_ ?_
  ·generalize A.eval=ev at *
   go_simp
  ·refine (num8_any 4 [tm 4 0 0] _ (by omega) (by omega) (by decide +kernel) (by decide +kernel)).mono ?_
   rintro e w' ⟨v,rfl,hi,hb'⟩
   exact ⟨_,rfl,hb',hi⟩
 ·intro A w1 hA hL hS he
  have hb:=hS rfl
  have h79 : A.eval (.tmp 79)=_:=he.2.1 rfl
  have hf0 : A.eval (.func 26)=.func (.func 26) #[] #[]:=rfl
  have hc0 : A.eval (.const (.int .i64 6))=.int .i64 6:=rfl
  refine goOn_yes rfl rfl h79 ?_
  refine stepG_call (f:=26) (args:=#[(.int .i64 6)]) rfl rfl ?_ ?_
  ·generalize A.eval=ev at *
   go_simp
  ·refine (num8_any 6 [tm 6 0 0] _ (by omega) (by omega) (by decide +kernel) (by decide +kernel)).mono ?_
   rintro e w' ⟨v,rfl,hi,hb'⟩
   exact ⟨_,rfl,hb',hi⟩
 ·intro A w1 hA hL hS he
  have hb:=hS rfl
  have h79 : A.eval (.tmp 79)=_:=he.2.2.2.1 rfl
  have f80 : ((.poly (by decide) (by decide) ([tm 4 0 0]) : FactL (Lr (none) (0)))).p (A.eval (.tmp 80)) w1:=he.1 rfl
  obtain ⟨v80,h80⟩ : ∃ v,A.eval (.tmp 80)=v:=⟨_,rfl⟩
  rw [h80] at f80
  have f81 : ((.poly (by decide) (by decide) ([tm 6 0 0]) : FactL (Lr (none) (0)))).p (A.eval (.tmp 81)) w1:=he.2.1 rfl
  obtain ⟨v81,h81⟩ : ∃ v,A.eval (.tmp 81)=v:=⟨_,rfl⟩
  rw [h81] at f81
  have hf0 : A.eval (.func 16)=.func (.func 16) #[] #[]:=rfl
  refine goOn_yes rfl rfl h79 ?_
  refine stepG_call (f:=16) (args:=#[v80,v81]) rfl rfl ?_ ?_
  ·generalize A.eval=ev at *
   go_simp
  ·refine (gcdW sw_g4 (by decide +kernel) (by decide +kernel) f80 f81).mono ?_
   rintro e w' ⟨v,rfl,hi,hb'⟩
   exact ⟨_,rfl,hb',hi⟩
 ·intro A w1 hA hL hS he
  have hb:=hS rfl
  have h79 : A.eval (.tmp 79)=_:=he.2.1 rfl
  have hf0 : A.eval (.func 26)=.func (.func 26) #[] #[]:=rfl
  have hc0 : A.eval (.const (.int .i64 1))=.int .i64 1:=rfl
  refine goOn_yes rfl rfl h79 ?_
  refine stepG_call (f:=26) (args:=#[(.int .i64 1)]) rfl rfl ?_ ?_
  ·generalize A.eval=ev at *
   go_simp
  ·refine (num8_any 1 [tm 1 0 0] _ (by omega) (by omega) (by decide +kernel) (by decide +kernel)).mono ?_
   rintro e w' ⟨v,rfl,hi,hb'⟩
   exact ⟨_,rfl,hb',hi⟩
 ·intro A w1 hA hL hS he
  have hb:=hS rfl
  have h79 : A.eval (.tmp 79)=_:=he.2.2.2.1 rfl
  have f82 : ((.poly (by decide) (by decide) ([tm 1 0 0]) : FactL (Lr (none) (0)))).p (A.eval (.tmp 82)) w1:=he.1 rfl
  obtain ⟨v82,h82⟩ : ∃ v,A.eval (.tmp 82)=v:=⟨_,rfl⟩
  rw [h82] at f82
  have f83 : ((.poly (by decide) (by decide) ([tm 1 0 0]) : FactL (Lr (none) (0)))).p (A.eval (.tmp 83)) w1:=he.2.1 rfl
  obtain ⟨v83,h83⟩ : ∃ v,A.eval (.tmp 83)=v:=⟨_,rfl⟩
  rw [h83] at f83
  have hf0 : A.eval (.func 13)=.func (.func 13) #[] #[]:=rfl
  refine goOn_yes rfl rfl h79 ?_
  refine stepG_call (f:=13) (args:=#[v82,v83]) rfl rfl ?_ ?_
  ·generalize A.eval=ev at *
   go_simp
  ·refine (sameW7 (by decide +kernel) f82 f83).mono ?_
   rintro e w' ⟨rfl,hb'⟩
   exact ⟨_,rfl,hb',rfl⟩
 ·exact fun A w1 hA hL hS he=>goOn_plain rfl (stepG_pk rfl (he.1 rfl) rfl (he.2.1 rfl))
 ·exact fun A w1 hA hL hS he=>goOn_plain rfl (stepG_mv rfl rfl (he.1 rfl))
 ·intro A w1 hA hL hS he
  have hb:=hS rfl
  have h86 : A.eval (.tmp 86)=_:=he.1 rfl
  have hf0 : A.eval (.func 16)=.func (.func 16) #[] #[]:=rfl
  have hc0 : A.eval (.const (.slice none 0 0))=.slice none 0 0:=rfl
  refine goOn_yes rfl rfl h86 ?_
  refine stepG_call (f:=16) (args:=#[(.slice none 0 0),(.slice none 0 0)]) rfl rfl ?_ ?_
  ·generalize A.eval=ev at *
   go_simp
  ·refine (gcdW sw_g5 (by decide +kernel) (by decide +kernel) (IsSl.nil _ _) (IsSl.nil _ _)).mono ?_
   rintro e w' ⟨v,rfl,hi,hb'⟩
   exact ⟨_,rfl,hb',hi⟩
 ·intro A w1 hA hL hS he
  have h86 : A.eval (.tmp 86)=_:=he.2.1 rfl
  have f87 : ((.poly (by decide) (by decide) ([]) : FactL (Lr (none) (0)))).p (A.eval (.tmp 87)) w1:=he.1 rfl
  obtain ⟨v87,h87⟩ : ∃ v,A.eval (.tmp 87)=v:=⟨_,rfl⟩
  rw [h87] at f87
  refine goOn_yes rfl rfl h86 ?_
  obtain ⟨a_,c_,e_,-⟩:=IsSl.shape f87
  subst e_
  simp only [List.length_nil] at *
  refine stepG_pure rfl rfl ?_
  generalize A.eval=ev at *
  go_simp
 ·intro A w1 hA hL hS he
  have h86 : A.eval (.tmp 86)=_:=he.2.1 rfl
  have h88 : A.eval (.tmp 88)=_:=he.1 rfl
  have hc0 : A.eval (.const (.int .i64 0))=.int .i64 0:=rfl
  refine goOn_yes rfl rfl h86 ?_
  refine stepG_pure rfl rfl ?_
  generalize A.eval=ev at *
  go_simp
 ·exact fun A w1 hA hL hS he=>goOn_plain rfl (stepG_pk rfl (he.1 rfl) rfl (he.2.1 rfl))
 intro w8 hL
 simp only [TailL,FactL.eq,FactL.poly,FactL.rat,FactL.ret,FactL.fac,FactL.fac1,FactL.of,List.length_cons,List.length_nil,List.drop_succ_cons,List.drop_zero]
 intros
 go_frame
 have hb:=hL.below
 replace hc:=hc.on hb
 replace hl:=hl.on hb
 replace hb0:=hb0.trans (hb.mono hb0.size)
 clear hL hb
 clear hsum ha hbb
 go_upto_region 9 with (fail)
 refine wp_region_S trivial (none) (0) (Okr.none) [.eq (vc),.poly (by decide) (by decide) ([tm 1 0 1]),.poly (by decide) (by decide) ([tm 1 0 1]),.ret (.bool true),.eq (.bool true),.eq (vc),.poly (by decide) (by decide) ([tm 2 1 0,tm 2 0 0]),.poly (by decide) (by decide) ([tm 1 1 0]),.poly (by decide) (by decide) ([tm 1 0 0]),.poly (by decide) (by decide) ([tm 1 1 0,tm 1 0 0]),.rat (by decide) (((2 : Int) : Rat)),.poly (by decide) (by decide) ([tm 2 1 0,tm 2 0 0]),.ret (.bool true),.eq (.bool true)] [91,92,93,94,95,96,97,98,99,100,101,102,103,104] rfl rfl rfl rfl ⟨?_,?_,?_,?_,?_,?_,?_,?_,?_,?_,?_,?_,?_,?_,trivial⟩ ?_
 ·exact fun A w1 hA hL hS he=>goOn_plain rfl (stepG_mv rfl rfl (hA 5 rfl))
 ·intro A w1 hA hL hS he
  have hb:=hS rfl
  have h91 : A.eval (.tmp 91)=_:=he.1 rfl
  have hf0 : A.eval (.func 18)=.func (.func 18) #[] #[]:=rfl
  have hc0 : A.eval (.const (.int .i64 0))=.int .i64 0:=rfl
  refine goOn_plain rfl ?_
  refine stepG_call (f:=18) (args:=#[vc,(.int .i64 0)]) rfl rfl ?_ ?_
  ·generalize A.eval=ev at *
   go_simp
  ·refine (contW sw_ct (by decide +kernel) (hc.on hb)).mono ?_
   rintro e w' ⟨v,rfl,hi,hb'⟩
   exact ⟨_,rfl,hb',hi⟩
 ·intro A w1 hA hL hS he
  have hb:=hS rfl
  have hf0 : A.eval (.func 41)=.func (.func 41) #[] #[]:=rfl
  refine goOn_plain rfl ?_
  refine stepG_call (f:=41) (args:=#[]) rfl rfl ?_ ?_
  ·generalize A.eval=ev at *
   go_simp
  ·refine (y8_any _).mono ?_
   rintro e w' ⟨v,rfl,hi,hb'⟩
   exact ⟨_,rfl,hb',hi⟩
 ·intro A w1 hA hL hS he
  have hb:=hS rfl
  have f92 : ((.poly (by decide) (by decide) ([tm 1 0 1]) : FactL (Lr (none) (0)))).p (A.eval (.tmp 92)) w1:=he.1 rfl
  obtain ⟨v92,h92⟩ : ∃ v,A.eval (.tmp 92)=v:=⟨_,rfl⟩
  rw [h92] at f92
  have f93 : ((.poly (by decide) (by decide) ([tm 1 0 1]) : FactL (Lr (none) (0)))).p (A.eval (.tmp 93)) w1:=he.2.1 rfl
  obtain ⟨v93,h93⟩ : ∃ v,A.eval (.tmp 93)=v:=⟨_,rfl⟩
  rw [h93] at f93
  have hf0 : A.eval (.func 13)=.func (.func 13) #[] #[]:=rfl
  refine goOn_plain rfl ?_
  refine stepG_call (f:=13) (args:=#[v92,v93]) rfl rfl ?_ ?_
  ·generalize A.eval=ev at *
   go_simp
  ·refine (sameW7 (by decide +kernel) f92 f93).mono ?_
   rintro e w' ⟨rfl,hb'⟩
   exact ⟨_,rfl,hb',rfl⟩
 ·exact fun A w1 hA hL hS he=>goOn_plain rfl (stepG_mv rfl rfl (he.1 rfl))
 ·exact fun A w1 hA hL hS he=>goOn_yes rfl rfl (he.1 rfl) (stepG_mv rfl rfl (hA 5 rfl))
 ·intro A w1 hA hL hS he
  have hb:=hS rfl
  have h95 : A.eval (.tmp 95)=_:=he.2.1 rfl
  have h96 : A.eval (.tmp 96)=_:=he.1 rfl
  have hf0 : A.eval (.func 20)=.func (.func 20) #[] #[]:=rfl
  have hc0 : A.eval (.const (.int .i64 0))=.int .i64 0:=rfl
  refine goOn_yes rfl rfl h95 ?_
  refine stepG_call (f:=20) (args:=#[vc,(.int .i64 0)]) rfl rfl ?_ ?_
  ·generalize A.eval=ev at *
   go_simp
  ·refine (primW sw_pr (by decide +kernel) (hc.on hb)).mono ?_
   rintro e w' ⟨v,rfl,hi,hb'⟩
   exact ⟨_,rfl,hb',hi⟩
 ·intro A w1 hA hL hS he
  have hb:=hS rfl
  have h95 : A.eval (.tmp 95)=_:=he.2.1 rfl
  have hf0 : A.eval (.func 40)=.func (.func 40) #[] #[]:=rfl
  refine goOn_yes rfl rfl h95 ?_
  refine stepG_call (f:=40) (args:=#[]) rfl rfl ?_ ?_
  ·generalize A.eval=ev at *
   go_simp
  ·refine (x8_any _).mono ?_
   rintro e w' ⟨v,rfl,hi,hb'⟩
   exact ⟨_,rfl,hb',hi⟩
 ·intro A w1 hA hL hS he
  have hb:=hS rfl
  have h95 : A.eval (.tmp 95)=_:=he.2.1 rfl
  have hf0 : A.eval (.func 26)=.func (.func 26) #[] #[]:=rfl
  have hc0 : A.eval (.const (.int .i64 1))=.int .i64 1:=rfl
  refine goOn_yes rfl rfl h95 ?_
  refine stepG_call (f:=26) (args:=#[(.int .i64 1)]) rfl rfl ?_ ?_
  ·generalize A.eval=ev at *
   go_simp
  ·refine (num8_any 1 [tm 1 0 0] _ (by omega) (by omega) (by decide +kernel) (by decide +kernel)).mono ?_
   rintro e w' ⟨v,rfl,hi,hb'⟩
   exact ⟨_,rfl,hb',hi⟩
 ·intro A w1 hA hL hS he
  have hb:=hS rfl
  have h95 : A.eval (.tmp 95)=_:=he.2.2.2.1 rfl
  have f98 : ((.poly (by decide) (by decide) ([tm 1 1 0]) : FactL (Lr (none) (0)))).p (A.eval (.tmp 98)) w1:=he.1 rfl
  obtain ⟨v98,h98⟩ : ∃ v,A.eval (.tmp 98)=v:=⟨_,rfl⟩
  rw [h98] at f98
  have f99 : ((.poly (by decide) (by decide) ([tm 1 0 0]) : FactL (Lr (none) (0)))).p (A.eval (.tmp 99)) w1:=he.2.1 rfl
  obtain ⟨v99,h99⟩ : ∃ v,A.eval (.tmp 99)=v:=⟨_,rfl⟩
  rw [h99] at f99
  have hf0 : A.eval (.func 39)=.func (.func 39) #[] #[]:=rfl
  refine goOn_yes rfl rfl h95 ?_
  refine stepG_call (f:=39) (args:=#[v98,v99]) rfl rfl ?_ ?_
  ·generalize A.eval=ev at *
   go_simp
  ·refine (addW7 sw_x1 (by decide +kernel) (by decide +kernel) f98 f99).mono ?_
   rintro e w' ⟨v,rfl,hi,hb'⟩
   exact ⟨_,rfl,hb',hi⟩
 ·intro A w1 hA hL hS he
  have hb:=hS rfl
  have h95 : A.eval (.tmp 95)=_:=he.2.1 rfl
  have hf0 : A.eval (.func 24)=.func (.func 24) #[] #[]:=rfl
  have hc0 : A.eval (.const (.int .i64 2))=.int .i64 2:=rfl
  refine goOn_yes rfl rfl h95 ?_
  refine stepG_call (f:=24) (args:=#[(.int .i64 2)]) rfl rfl ?_ ?_
  ·generalize A.eval=ev at *
   go_simp
  ·refine (whole2_any 2 _ (by omega) (by omega)).mono ?_
   rintro e w' ⟨v,rfl,hi,hb'⟩
   exact ⟨_,rfl,hb',hi⟩
 ·intro A w1 hA hL hS he
  have hb:=hS rfl
  have h95 : A.eval (.tmp 95)=_:=he.2.2.2.1 rfl
  have f100 : ((.poly (by decide) (by decide) ([tm 1 1 0,tm 1 0 0]) : FactL (Lr (none) (0)))).p (A.eval (.tmp 100)) w1:=he.1 rfl
  obtain ⟨v100,h100⟩ : ∃ v,A.eval (.tmp 100)=v:=⟨_,rfl⟩
  rw [h100] at f100
  have f101 : ((.rat (by decide) (((2 : Int) : Rat)) : FactL (Lr (none) (0)))).p (A.eval (.tmp 101)) w1:=he.2.1 rfl
  obtain ⟨v101,h101⟩ : ∃ v,A.eval (.tmp 101)=v:=⟨_,rfl⟩
  rw [h101] at f101
  have hf0 : A.eval (.func 42)=.func (.func 42) #[] #[]:=rfl
  refine goOn_yes rfl rfl h95 ?_
  refine stepG_call (f:=42) (args:=#[v100,v101]) rfl rfl ?_ ?_
  ·generalize A.eval=ev at *
   go_simp
  ·refine (scaleW7 sw_2x1 (by decide +kernel) (by decide +kernel) f100 f101).mono ?_
   rintro e w' ⟨v,rfl,hi,hb'⟩
   exact ⟨_,rfl,hb',hi⟩
 ·intro A w1 hA hL hS he
  have hb:=hS rfl
  have h95 : A.eval (.tmp 95)=_:=he.2.2.2.1 rfl
  have f97 : ((.poly (by decide) (by decide) ([tm 2 1 0,tm 2 0 0]) : FactL (Lr (none) (0)))).p (A.eval (.tmp 97)) w1:=he.1 rfl
  obtain ⟨v97,h97⟩ : ∃ v,A.eval (.tmp 97)=v:=⟨_,rfl⟩
  rw [h97] at f97
  have f102 : ((.poly (by decide) (by decide) ([tm 2 1 0,tm 2 0 0]) : FactL (Lr (none) (0)))).p (A.eval (.tmp 102)) w1:=he.2.1 rfl
  obtain ⟨v102,h102⟩ : ∃ v,A.eval (.tmp 102)=v:=⟨_,rfl⟩
  rw [h102] at f102
  have hf0 : A.eval (.func 13)=.func (.func 13) #[] #[]:=rfl
  refine goOn_yes rfl rfl h95 ?_
  refine stepG_call (f:=13) (args:=#[v97,v102]) rfl rfl ?_ ?_
  ·generalize A.eval=ev at *
   go_simp
  ·refine (sameW7 (by decide +kernel) f97 f102).mono ?_
   rintro e w' ⟨rfl,hb'⟩
   exact ⟨_,rfl,hb',rfl⟩
 ·exact fun A w1 hA hL hS he=>goOn_plain rfl (stepG_pk rfl (he.1 rfl) rfl (he.2.1 rfl))
 intro w9 hL
 simp only [TailL,FactL.eq,FactL.poly,FactL.rat,FactL.ret,FactL.fac,FactL.fac1,FactL.of,List.length_cons,List.length_nil,List.drop_succ_cons,List.drop_zero]
 intros
 go_frame
 have hb:=hL.below
 replace hl:=hl.on hb
 replace hb0:=hb0.trans (hb.mono hb0.size)
 clear hL hb
 clear hc
 go_upto_region 10 with (fail)
 refine wp_region_S trivial (none) (0) (Okr.none) [.eq (vl),.poly (by decide) (by decide) ([tm 1 1 0]),.fac1 ([tm 1 1 0],1),.poly (by decide) (by decide) ([tm 1 1 0]),.poly (by decide) (by decide) ([tm 1 0 0]),.poly (by decide) (by decide) ([tm 1 1 0,tm 1 0 0]),.fac1 ([tm 1 1 0,tm 1 0 0],2),.fac [([tm 1 1 0],1),([tm 1 1 0,tm 1 0 0],2)],.ret (.bool true),.eq (.bool true),.poly (by decide) (by decide) ([tm 1 0 1]),.fac [],.eq (.int .i64 0),.eq (.bool true),.eq (.bool true)] [105,106,107,108,109,110,111,112,113,114,115,116,117,118,119] rfl rfl rfl rfl ⟨?_,?_,?_,?_,?_,?_,?_,?_,?_,?_,?_,?_,?_,?_,?_,trivial⟩ ?_
 ·exact fun A w1 hA hL hS he=>goOn_plain rfl (stepG_mv rfl rfl (hA 6 rfl))
 ·intro A w1 hA hL hS he
  have hb:=hS rfl
  have hf0 : A.eval (.func 40)=.func (.func 40) #[] #[]:=rfl
  refine goOn_plain rfl ?_
  refine stepG_call (f:=40) (args:=#[]) rfl rfl ?_ ?_
  ·generalize A.eval=ev at *
   go_simp
  ·refine (x8_any _).mono ?_
   rintro e w' ⟨v,rfl,hi,hb'⟩
   exact ⟨_,rfl,hb',hi⟩
 ·intro A w1 hA hL hS he
  have f106 : ((.poly (by decide) (by decide) ([tm 1 1 0]) : FactL (Lr (none) (0)))).p (A.eval (.tmp 106)) w1:=he.1 rfl
  obtain ⟨v106,h106⟩ : ∃ v,A.eval (.tmp 106)=v:=⟨_,rfl⟩
  rw [h106] at f106
  have hc0 : A.eval (.const (.int .i64 1))=.int .i64 1:=rfl
  refine goOn_plain rfl ?_
  exact step_fac1 (k:=1) rfl rfl rfl h106 rfl f106
 ·intro A w1 hA hL hS he
  have hb:=hS rfl
  have hf0 : A.eval (.func 40)=.func (.func 40) #[] #[]:=rfl
  refine goOn_plain rfl ?_
  refine stepG_call (f:=40) (args:=#[]) rfl rfl ?_ ?_
  ·generalize A.eval=ev at *
   go_simp
  ·refine (x8_any _).mono ?_
   rintro e w' ⟨v,rfl,hi,hb'⟩
   exact ⟨_,rfl,hb',hi⟩
 ·intro A w1 hA hL hS he
  have hb:=hS rfl
  have hf0 : A.eval (.func 26)=.func (.func 26) #[] #[]:=rfl
  have hc0 : A.eval (.const (.int .i64 1))=.int .i64 1:=rfl
  refine goOn_plain rfl ?_
  refine stepG_call (f:=26) (args:=#[(.int .i64 1)]) rfl rfl ?_ ?_
  ·generalize A.eval=ev at *
   go_simp
  ·refine (num8_any 1 [tm 1 0 0] _ (by omega) (by omega) (by decide +kernel) (by decide +kernel)).mono ?_
   rintro e w' ⟨v,rfl,hi,hb'⟩
   exact ⟨_,rfl,hb',hi⟩
 ·intro A w1 hA hL hS he
  have hb:=hS rfl
  have f108 : ((.poly (by decide) (by decide) ([tm 1 1 0]) : FactL (Lr (none) (0)))).p (A.eval (.tmp 108)) w1:=he.1 rfl
  obtain ⟨v108,h108⟩ : ∃ v,A.eval (.tmp 108)=v:=⟨_,rfl⟩
  rw [h108] at f108
  have f109 : ((.poly (by decide) (by decide) ([tm 1 0 0]) : FactL (Lr (none) (0)))).p (A.eval (.tmp 109)) w1:=he.2.1 rfl
  obtain ⟨v109,h109⟩ : ∃ v,A.eval (.tmp 109)=v:=⟨_,rfl⟩
  rw [h109] at f109
  have hf0 : A.eval (.func 39)=.func (.func 39) #[] #[]:=rfl
  refine goOn_plain rfl ?_
  refine stepG_call (f:=39) (args:=#[v108,v109]) rfl rfl ?_ ?_
  ·generalize A.eval=ev at *
   go_simp
  ·refine (addW7 sw_x1 (by decide +kernel) (by decide +kernel) f108 f109).mono ?_
   rintro e w' ⟨v,rfl,hi,hb'⟩
   exact ⟨_,rfl,hb',hi⟩
 ·intro A w1 hA hL hS he
  have f110 : ((.poly (by decide) (by decide) ([tm 1 1 0,tm 1 0 0]) : FactL (Lr (none) (0)))).p (A.eval (.tmp 110)) w1:=he.1 rfl
  obtain ⟨v110,h110⟩ : ∃ v,A.eval (.tmp 110)=v:=⟨_,rfl⟩
  rw [h110] at f110
  have hc0 : A.eval (.const (.int .i64 2))=.int .i64 2:=rfl
  refine goOn_plain rfl ?_
  exact step_fac1 (k:=2) rfl rfl rfl h110 rfl f110
 ·intro A w1 hA hL hS he
  have f107 : ((.fac1 ([tm 1 1 0],1) : FactL (Lr (none) (0)))).p (A.eval (.tmp 107)) w1:=he.1 rfl
  obtain ⟨v107,h107⟩ : ∃ v,A.eval (.tmp 107)=v:=⟨_,rfl⟩
  rw [h107] at f107
  have f111 : ((.fac1 ([tm 1 1 0,tm 1 0 0],2) : FactL (Lr (none) (0)))).p (A.eval (.tmp 111)) w1:=he.2.1 rfl
  obtain ⟨v111,h111⟩ : ∃ v,A.eval (.tmp 111)=v:=⟨_,rfl⟩
  rw [h111] at f111
  refine goOn_plain rfl ?_
  exact step_fac2 rfl rfl rfl h107 h111 f107 f111
 ·intro A w1 hA hL hS he
  have hb:=hS rfl
  have h105 : A.eval (.tmp 105)=_:=he.1 rfl
  have f112 : ((.fac [([tm 1 1 0],1),([tm 1 1 0,tm 1 0 0],2)] : FactL (Lr (none) (0)))).p (A.eval (.tmp 112)) w1:=he.2.1 rfl
  obtain ⟨v112,h112⟩ : ∃ v,A.eval (.tmp 112)=v:=⟨_,rfl⟩
  rw [h112] at f112
  have hf0 : A.eval (.func 30)=.func (.func 30) #[] #[]:=rfl
  refine goOn_plain rfl ?_
  refine stepG_call (f:=30) (args:=#[vl,v112]) rfl rfl ?_ ?_
  ·generalize A.eval=ev at *
   go_simp
  ·refine (factors_eq _ _ [([tm 1 1 0],1),([tm 1 1 0,tm 1 0 0],2)] _ (hl.on hb) f112 (by decide +kernel) (by decide)).mono ?_
   rintro e w' ⟨rfl,hb'⟩
   exact ⟨_,rfl,hb',rfl⟩
 ·exact fun A w1 hA hL hS he=>goOn_plain rfl (stepG_mv rfl rfl (he.1 rfl))
 ·intro A w1 hA hL hS he
  have hb:=hS rfl
  have h114 : A.eval (.tmp 114)=_:=he.1 rfl
  have hf0 : A.eval (.func 41)=.func (.func 41) #[] #[]:=rfl
  refine goOn_yes rfl rfl h114 ?_
  refine stepG_call (f:=41) (args:=#[]) rfl rfl ?_ ?_
  ·generalize A.eval=ev at *
   go_simp
  ·refine (y8_any _).mono ?_
   rintro e w' ⟨v,rfl,hi,hb'⟩
   exact ⟨_,rfl,hb',hi⟩
 ·intro A w1 hA hL hS he
  have hb:=hS rfl
  have h114 : A.eval (.tmp 114)=_:=he.2.2.1 rfl
  have f115 : ((.poly (by decide) (by decide) ([tm 1 0 1]) : FactL (Lr (none) (0)))).p (A.eval (.tmp 115)) w1:=he.1 rfl
  obtain ⟨v115,h115⟩ : ∃ v,A.eval (.tmp 115)=v:=⟨_,rfl⟩
  rw [h115] at f115
  have hf0 : A.eval (.func 29)=.func (.func 29) #[] #[]:=rfl
  have hc0 : A.eval (.const (.int .i64 0))=.int .i64 0:=rfl
  refine goOn_yes rfl rfl h114 ?_
  refine stepG_call (f:=29) (args:=#[v115,(.int .i64 0)]) rfl rfl ?_ ?_
  ·generalize A.eval=ev at *
   go_simp
  ·refine (sqfW sw_l2 (by decide +kernel) f115).mono ?_
   rintro e w' ⟨v,rfl,hi,hb'⟩
   exact ⟨_,rfl,hb',hi⟩
 ·intro A w1 hA hL hS he
  have h114 : A.eval (.tmp 114)=_:=he.2.1 rfl
  have f116 : ((.fac [] : FactL (Lr (none) (0)))).p (A.eval (.tmp 116)) w1:=he.1 rfl
  obtain ⟨v116,h116⟩ : ∃ v,A.eval (.tmp 116)=v:=⟨_,rfl⟩
  rw [h116] at f116
  refine goOn_yes rfl rfl h114 ?_
  obtain ⟨a_,c_,e_,-⟩:=IsSl.shape f116
  subst e_
  simp only [List.length_nil] at *
  refine stepG_pure rfl rfl ?_
  generalize A.eval=ev at *
  go_simp
 ·intro A w1 hA hL hS he
  have h114 : A.eval (.tmp 114)=_:=he.2.1 rfl
  have h117 : A.eval (.tmp 117)=_:=he.1 rfl
  have hc0 : A.eval (.const (.int .i64 0))=.int .i64 0:=rfl
  refine goOn_yes rfl rfl h114 ?_
  refine stepG_pure rfl rfl ?_
  generalize A.eval=ev at *
  go_simp
 ·exact fun A w1 hA hL hS he=>goOn_plain rfl (stepG_pk rfl (he.1 rfl) rfl (he.2.1 rfl))
 intro w10 hL
 simp only [TailL,FactL.eq,FactL.poly,FactL.rat,FactL.ret,FactL.fac,FactL.fac1,FactL.of,List.length_cons,List.length_nil,List.drop_succ_cons,List.drop_zero]
 intros
 go_frame
 have hb:=hL.below
 replace hb0:=hb0.trans (hb.mono hb0.size)
 clear hL hb
 clear hl
 go_upto_region 11 with (fail)
 refine wp_region_S trivial (none) (0) (Okr.none) [.poly (by decide) (by decide) ([tm 1 1 0]),.poly (by decide) (by decide) ([tm 1 1 0]),.poly (by decide) (by decide) ([tm 1 2 0]),.poly (by decide) (by decide) ([tm 1 0 1]),.poly (by decide) (by decide) ([tm (-1) 0 1,tm 1 2 0]),.poly (by decide) (by decide) ([tm 1 1 0]),.poly (by decide) (by decide) ([tm 1 0 0]),.poly (by decide) (by decide) ([tm 1 1 0,tm (-1) 0 0]),.poly (by decide) (by decide) ([tm (-1) 0 1,tm 1 0 0]),.poly (by decide) (by decide) ([tm 1 0 0]),.poly (by decide) (by decide) ([tm 1 0 1]),.poly (by decide) (by decide) ([tm (-1) 0 1,tm 1 0 0]),.ret (.bool true)] [120,121,122,123,124,125,126,127,128,129,130,131,132] rfl rfl rfl rfl ⟨?_,?_,?_,?_,?_,?_,?_,?_,?_,?_,?_,?_,?_,trivial⟩ ?_
 ·intro A w1 hA hL hS he
  have hb:=hS rfl
  have hf0 : A.eval (.func 40)=.func (.func 40) #[] #[]:=rfl
  refine goOn_plain rfl ?_
  refine stepG_call (f:=40) (args:=#[]) rfl rfl ?_ ?_
  ·generalize A.eval=ev at *
   go_simp
  ·refine (x8_any _).mono ?_
   rintro e w' ⟨v,rfl,hi,hb'⟩
   exact ⟨_,rfl,hb',hi⟩
 ·intro A w1 hA hL hS he
  have hb:=hS rfl
  have hf0 : A.eval (.func 40)=.func (.func 40) #[] #[]:=rfl
  refine goOn_plain rfl ?_
  refine stepG_call (f:=40) (args:=#[]) rfl rfl ?_ ?_
  ·generalize A.eval=ev at *
   go_simp
  ·refine (x8_any _).mono ?_
   rintro e w' ⟨v,rfl,hi,hb'⟩
   exact ⟨_,rfl,hb',hi⟩
 ·intro A w1 hA hL hS he
  have hb:=hS rfl
  have f120 : ((.poly (by decide) (by decide) ([tm 1 1 0]) : FactL (Lr (none) (0)))).p (A.eval (.tmp 120)) w1:=he.1 rfl
  obtain ⟨v120,h120⟩ : ∃ v,A.eval (.tmp 120)=v:=⟨_,rfl⟩
  rw [h120] at f120
  have f121 : ((.poly (by decide) (by decide) ([tm 1 1 0]) : FactL (Lr (none) (0)))).p (A.eval (.tmp 121)) w1:=he.2.1 rfl
  obtain ⟨v121,h121⟩ : ∃ v,A.eval (.tmp 121)=v:=⟨_,rfl⟩
  rw [h121] at f121
  have hf0 : A.eval (.func 12)=.func (.func 12) #[] #[]:=rfl
  refine goOn_plain rfl ?_
  refine stepG_call (f:=12) (args:=#[v120,v121]) rfl rfl ?_ ?_
  ·generalize A.eval=ev at *
   go_simp
  ·refine (mulW7 Q.sw_xx (by decide +kernel) (by decide +kernel) f120 f121).mono ?_
   rintro e w' ⟨v,rfl,hi,hb'⟩
   exact ⟨_,rfl,hb',hi⟩
 ·intro A w1 hA hL hS he
  have hb:=hS rfl
  have hf0 : A.eval (.func 41)=.func (.func 41) #[] #[]:=rfl
  refine goOn_plain rfl ?_
  refine stepG_call (f:=41) (args:=#[]) rfl rfl ?_ ?_
  ·generalize A.eval=ev at *
   go_simp
  ·refine (y8_any _).mono ?_
   rintro e w' ⟨v,rfl,hi,hb'⟩
   exact ⟨_,rfl,hb',hi⟩
 ·intro A w1 hA hL hS he
  have hb:=hS rfl
  have f122 : ((.poly (by decide) (by decide) ([tm 1 2 0]) : FactL (Lr (none) (0)))).p (A.eval (.tmp 122)) w1:=he.1 rfl
  obtain ⟨v122,h122⟩ : ∃ v,A.eval (.tmp 122)=v:=⟨_,rfl⟩
  rw [h122] at f122
  have f123 : ((.poly (by decide) (by decide) ([tm 1 0 1]) : FactL (Lr (none) (0)))).p (A.eval (.tmp 123)) w1:=he.2.1 rfl
  obtain ⟨v123,h123⟩ : ∃ v,A.eval (.tmp 123)=v:=⟨_,rfl⟩
  rw [h123] at f123
  have hf0 : A.eval (.func 35)=.func (.func 35) #[] #[]:=rfl
  refine goOn_plain rfl ?_
  refine stepG_call (f:=35) (args:=#[v122,v123]) rfl rfl ?_ ?_
  ·generalize A.eval=ev at *
   go_simp
  ·refine (subW7 sw_xxy (by decide +kernel) (by decide +kernel) f122 f123).mono ?_
   rintro e w' ⟨v,rfl,hi,hb'⟩
   exact ⟨_,rfl,hb',hi⟩
 ·intro A w1 hA hL hS he
  have hb:=hS rfl
  have hf0 : A.eval (.func 40)=.func (.func 40) #[] #[]:=rfl
  refine goOn_plain rfl ?_
  refine stepG_call (f:=40) (args:=#[]) rfl rfl ?_ ?_
  ·generalize A.eval=ev at *
   go_simp
  ·refine (x8_any _).mono ?_
   rintro e w' ⟨v,rfl,hi,hb'⟩
   exact ⟨_,rfl,hb',hi⟩
 ·intro A w1 hA hL hS he
  have hb:=hS rfl
  have hf0 : A.eval (.func 26)=.func (.func 26) #[] #[]:=rfl
  have hc0 : A.eval (.const (.int .i64 1))=.int .i64 1:=rfl
  refine goOn_plain rfl ?_
  refine stepG_call (f:=26) (args:=#[(.int .i64 1)]) rfl rfl ?_ ?_
  ·generalize A.eval=ev at *
   go_simp
  ·refine (num8_any 1 [tm 1 0 0] _ (by omega) (by omega) (by decide +kernel) (by decide +kernel)).mono ?_
   rintro e w' ⟨v,rfl,hi,hb'⟩
   exact ⟨_,rfl,hb',hi⟩
 ·intro A w1 hA hL hS he
  have hb:=hS rfl
  have f125 : ((.poly (by decide) (by decide) ([tm 1 1 0]) : FactL (Lr (none) (0)))).p (A.eval (.tmp 125)) w1:=he.1 rfl
  obtain ⟨v125,h125⟩ : ∃ v,A.eval (.tmp 125)=v:=⟨_,rfl⟩
  rw [h125] at f125
  have f126 : ((.poly (by decide) (by decide) ([tm 1 0 0]) : FactL (Lr (none) (0)))).p (A.eval (.tmp 126)) w1:=he.2.1 rfl
  obtain ⟨v126,h126⟩ : ∃ v,A.eval (.tmp 126)=v:=⟨_,rfl⟩
  rw [h126] at f126
  have hf0 : A.eval (.func 35)=.func (.func 35) #[] #[]:=rfl
  refine goOn_plain rfl ?_
  refine stepG_call (f:=35) (args:=#[v125,v126]) rfl rfl ?_ ?_
  ·generalize A.eval=ev at *
   go_simp
  ·refine (subW7 sw_xm1 (by decide +kernel) (by decide +kernel) f125 f126).mono ?_
   rintro e w' ⟨v,rfl,hi,hb'⟩
   exact ⟨_,rfl,hb',hi⟩
 ·intro A w1 hA hL hS he
  have hb:=hS rfl
  have f124 : ((.poly (by decide) (by decide) ([tm (-1) 0 1,tm 1 2 0]) : FactL (Lr (none) (0)))).p (A.eval (.tmp 124)) w1:=he.1 rfl
  obtain ⟨v124,h124⟩ : ∃ v,A.eval (.tmp 124)=v:=⟨_,rfl⟩
  rw [h124] at f124
  have f127 : ((.poly (by decide) (by decide) ([tm 1 1 0,tm (-1) 0 0]) : FactL (Lr (none) (0)))).p (A.eval (.tmp 127)) w1:=he.2.1 rfl
  obtain ⟨v127,h127⟩ : ∃ v,A.eval (.tmp 127)=v:=⟨_,rfl⟩
  rw [h127] at f127
  have hf0 : A.eval (.func 33)=.func (.func 33) #[] #[]:=rfl
  have hc0 : A.eval (.const (.int .i64 0))=.int .i64 0:=rfl
  refine goOn_plain rfl ?_
  refine stepG_call (f:=33) (args:=#[v124,v127,(.int .i64 0)]) rfl rfl ?_ ?_
  ·generalize A.eval=ev at *
   go_simp
  ·refine (resW sw_r1 (by decide +kernel) (by decide +kernel) f124 f127).mono ?_
   rintro e w' ⟨v,rfl,hi,hb'⟩
   exact ⟨_,rfl,hb',hi⟩
 ·intro A w1 hA hL hS he
  have hb:=hS rfl
  have hf0 : A.eval (.func 26)=.func (.func 26) #[] #[]:=rfl
  have hc0 : A.eval (.const (.int .i64 1))=.int .i64 1:=rfl
  refine goOn_plain rfl ?_
  refine stepG_call (f:=26) (args:=#[(.int .i64 1)]) rfl rfl ?_ ?_
  ·generalize A.eval=ev at *
   go_simp
  ·refine (num8_any 1 [tm 1 0 0] _ (by omega) (by omega) (by decide +kernel) (by decide +kernel)).mono ?_
   rintro e w' ⟨v,rfl,hi,hb'⟩
   exact ⟨_,rfl,hb',hi⟩
 ·intro A w1 hA hL hS he
  have hb:=hS rfl
  have hf0 : A.eval (.func 41)=.func (.func 41) #[] #[]:=rfl
  refine goOn_plain rfl ?_
  refine stepG_call (f:=41) (args:=#[]) rfl rfl ?_ ?_
  ·generalize A.eval=ev at *
   go_simp
  ·refine (y8_any _).mono ?_
   rintro e w' ⟨v,rfl,hi,hb'⟩
   exact ⟨_,rfl,hb',hi⟩
 ·intro A w1 hA hL hS he
  have hb:=hS rfl
  have f129 : ((.poly (by decide) (by decide) ([tm 1 0 0]) : FactL (Lr (none) (0)))).p (A.eval (.tmp 129)) w1:=he.1 rfl
  obtain ⟨v129,h129⟩ : ∃ v,A.eval (.tmp 129)=v:=⟨_,rfl⟩
  rw [h129] at f129
  have f130 : ((.poly (by decide) (by decide) ([tm 1 0 1]) : FactL (Lr (none) (0)))).p (A.eval (.tmp 130)) w1:=he.2.1 rfl
  obtain ⟨v130,h130⟩ : ∃ v,A.eval (.tmp 130)=v:=⟨_,rfl⟩
  rw [h130] at f130
  have hf0 : A.eval (.func 35)=.func (.func 35) #[] #[]:=rfl
  refine goOn_plain rfl ?_
  refine stepG_call (f:=35) (args:=#[v129,v130]) rfl rfl ?_ ?_
  ·generalize A.eval=ev at *
   go_simp
  ·refine (subW7 sw_1my (by decide +kernel) (by decide +kernel) f129 f130).mono ?_
   rintro e w' ⟨v,rfl,hi,hb'⟩
   exact ⟨_,rfl,hb',hi⟩
 ·intro A w1 hA hL hS he
  have hb:=hS rfl
  have f128 : ((.poly (by decide) (by decide) ([tm (-1) 0 1,tm 1 0 0]) : FactL (Lr (none) (0)))).p (A.eval (.tmp 128)) w1:=he.1 rfl
  obtain ⟨v128,h128⟩ : ∃ v,A.eval (.tmp 128)=v:=⟨_,rfl⟩
  rw [h128] at f128
  have f131 : ((.poly (by decide) (by decide) ([tm (-1) 0 1,tm 1 0 0]) : FactL (Lr (none) (0)))).p (A.eval (.tmp 131)) w1:=he.2.1 rfl
  obtain ⟨v131,h131⟩ : ∃ v,A.eval (.tmp 131)=v:=⟨_,rfl⟩
  rw [h131] at f131
  have hf0 : A.eval (.func 13)=.func (.func 13) #[] #[]:=rfl
  refine goOn_plain rfl ?_
  refine stepG_call (f:=13) (args:=#[v128,v131]) rfl rfl ?_ ?_
  ·generalize A.eval=ev at *
   go_simp
  ·refine (sameW7 (by decide +kernel) f128 f131).mono ?_
   rintro e w' ⟨rfl,hb'⟩
   exact ⟨_,rfl,hb',rfl⟩
 intro w11 hL
 simp only [TailL,FactL.eq,FactL.poly,FactL.rat,FactL.ret,FactL.fac,FactL.fac1,FactL.of,List.length_cons,List.length_nil,List.drop_succ_cons,List.drop_zero]
 intros
 go_frame
 have hb:=hL.below
 replace hb0:=hb0.trans (hb.mono hb0.size)
 clear hL hb
 go_upto_region 12 with (fail)
 refine wp_region_S trivial (none) (0) (Okr.none) [.poly (by decide) (by decide) ([tm 2 0 0]),.poly (by decide) (by decide) ([tm 3 0 0]),.poly (by decide) (by decide) ([tm 1 0 0]),.poly (by decide) (by decide) ([tm 1 0 0]),.ret (.bool true),.eq (.bool true),.poly (by decide) (by decide) ([tm 2 0 0]),.poly (by decide) (by decide) ([tm 1 1 0]),.poly (by decide) (by decide) ([tm 1 1 0]),.poly (by decide) (by decide) ([tm 1 2 0]),.poly (by decide) (by decide) ([tm 4 0 0]),.poly (by decide) (by decide) ([tm 4 0 0]),.ret (.bool true),.eq (.bool true),.eq (.bool true),.poly (by decide) (by decide) ([tm 1 0 0]),.poly (by decide) (by decide) ([]),.eq (.int .i64 0),.eq (.bool true),.eq (.bool true)] [133,134,135,136,137,138,139,140,141,142,143,144,145,146,147,148,149,150,151,152] rfl rfl rfl rfl ⟨?_,?_,?_,?_,?_,?_,?_,?_,?_,?_,?_,?_,?_,?_,?_,?_,?_,?_,?_,?_,trivial⟩ ?_
 ·intro A w1 hA hL hS he
  have hb:=hS rfl
  have hf0 : A.eval (.func 26)=.func (.func 26) #[] #[]:=rfl
  have hc0 : A.eval (.const (.int .i64 2))=.int .i64 2:=rfl
  refine goOn_plain rfl ?_
  refine stepG_call (f:=26) (args:=#[(.int .i64 2)]) rfl rfl ?_ ?_
  ·generalize A.eval=ev at *
   go_simp
  ·refine (num8_any 2 [tm 2 0 0] _ (by omega) (by omega) (by decide +kernel) (by decide +kernel)).mono ?_
   rintro e w' ⟨v,rfl,hi,hb'⟩
   exact ⟨_,rfl,hb',hi⟩
 ·intro A w1 hA hL hS he
  have hb:=hS rfl
  have hf0 : A.eval (.func 26)=.func (.func 26) #[] #[]:=rfl
  have hc0 : A.eval (.const (.int .i64 3))=.int .i64 3:=rfl
  refine goOn_plain rfl ?_
  refine stepG_call (f:=26) (args:=#[(.int .i64 3)]) rfl rfl ?_ ?_
  ·generalize A.eval=ev at *
   go_simp
  ·refine (num8_any 3 [tm 3 0 0] _ (by omega) (by omega) (by decide +kernel) (by decide +kernel)).mono ?_
   rintro e w' ⟨v,rfl,hi,hb'⟩
   exact ⟨_,rfl,hb',hi⟩
 ·intro A w1 hA hL hS he
  have hb:=hS rfl
  have f133 : ((.poly (by decide) (by decide) ([tm 2 0 0]) : FactL (Lr (none) (0)))).p (A.eval (.tmp 133)) w1:=he.1 rfl
  obtain ⟨v133,h133⟩ : ∃ v,A.eval (.tmp 133)=v:=⟨_,rfl⟩
  rw [h133] at f133
  have f134 : ((.poly (by decide) (by decide) ([tm 3 0 0]) : FactL (Lr (none) (0)))).p (A.eval (.tmp 134)) w1:=he.2.1 rfl
  obtain ⟨v134,h134⟩ : ∃ v,A.eval (.tmp 134)=v:=⟨_,rfl⟩
  rw [h134] at f134
  have hf0 : A.eval (.func 33)=.func (.func 33) #[] #[]:=rfl
  have hc0 : A.eval (.const (.int .i64 0))=.int .i64 0:=rfl
  refine goOn_plain rfl ?_
  refine stepG_call (f:=33) (args:=#[v133,v134,(.int .i64 0)]) rfl rfl ?_ ?_
  ·generalize A.eval=ev at *
   go_simp
  ·refine (resW sw_r2 (by decide +kernel) (by decide +kernel) f133 f134).mono ?_
   rintro e w' ⟨v,rfl,hi,hb'⟩
   exact ⟨_,rfl,hb',hi⟩
 ·intro A w1 hA hL hS he
  have hb:=hS rfl
  have hf0 : A.eval (.func 26)=.func (.func 26) #[] #[]:=rfl
  have hc0 : A.eval (.const (.int .i64 1))=.int .i64 1:=rfl
  refine goOn_plain rfl ?_
  refine stepG_call (f:=26) (args:=#[(.int .i64 1)]) rfl rfl ?_ ?_
  ·generalize A.eval=ev at *
   go_simp
  ·refine (num8_any 1 [tm 1 0 0] _ (by omega) (by omega) (by decide +kernel) (by decide +kernel)).mono ?_
   rintro e w' ⟨v,rfl,hi,hb'⟩
   exact ⟨_,rfl,hb',hi⟩
 ·intro A w1 hA hL hS he
  have hb:=hS rfl
  have f135 : ((.poly (by decide) (by decide) ([tm 1 0 0]) : FactL (Lr (none) (0)))).p (A.eval (.tmp 135)) w1:=he.1 rfl
  obtain ⟨v135,h135⟩ : ∃ v,A.eval (.tmp 135)=v:=⟨_,rfl⟩
  rw [h135] at f135
  have f136 : ((.poly (by decide) (by decide) ([tm 1 0 0]) : FactL (Lr (none) (0)))).p (A.eval (.tmp 136)) w1:=he.2.1 rfl
  obtain ⟨v136,h136⟩ : ∃ v,A.eval (.tmp 136)=v:=⟨_,rfl⟩
  rw [h136] at f136
  have hf0 : A.eval (.func 13)=.func (.func 13) #[] #[]:=rfl
  refine goOn_plain rfl ?_
  refine stepG_call (f:=13) (args:=#[v135,v136]) rfl rfl ?_ ?_
  ·generalize A.eval=ev at *
   go_simp
  ·refine (sameW7 (by decide +kernel) f135 f136).mono ?_
   rintro e w' ⟨rfl,hb'⟩
   exact ⟨_,rfl,hb',rfl⟩
 ·exact fun A w1 hA hL hS he=>goOn_plain rfl (stepG_mv rfl rfl (he.1 rfl))
 ·intro A w1 hA hL hS he
  have hb:=hS rfl
  have h138 : A.eval (.tmp 138)=_:=he.1 rfl
  have hf0 : A.eval (.func 26)=.func (.func 26) #[] #[]:=rfl
  have hc0 : A.eval (.const (.int .i64 2))=.int .i64 2:=rfl
  refine goOn_yes rfl rfl h138 ?_
  refine stepG_call (f:=26) (args:=#[(.int .i64 2)]) rfl rfl ?_ ?_
  ·generalize A.eval=ev at *
   go_simp
  ·refine (num8_any 2 [tm 2 0 0] _ (by omega) (by omega) (by decide +kernel) (by decide +kernel)).mono ?_
   rintro e w' ⟨v,rfl,hi,hb'⟩
   exact ⟨_,rfl,hb',hi⟩
 ·intro A w1 hA hL hS he
  have hb:=hS rfl
  have h138 : A.eval (.tmp 138)=_:=he.2.1 rfl
  have hf0 : A.eval (.func 40)=.func (.func 40) #[] #[]:=rfl
  refine goOn_yes rfl rfl h138 ?_
  refine stepG_call (f:=40) (args:=#[]) rfl rfl ?_ ?_
  ·generalize A.eval=ev at *
   go_simp
  ·refine (x8_any _).mono ?_
   rintro e w' ⟨v,rfl,hi,hb'⟩
   exact ⟨_,rfl,hb',hi⟩
 ·intro A w1 hA hL hS he
  have hb:=hS rfl
  have h138 : A.eval (.tmp 138)=_:=he.2.1 rfl
  have hf0 : A.eval (.func 40)=.func (.func 40) #[] #[]:=rfl
  refine goOn_yes rfl rfl h138 ?_
  refine stepG_call (f:=40) (args:=#[]) rfl rfl ?_ ?_
  ·generalize A.eval=ev at *
   go_simp
  ·refine (x8_any _).mono ?_
   rintro e w' ⟨v,rfl,hi,hb'⟩
   exact ⟨_,rfl,hb',hi⟩
 ·intro A w1 hA hL hS he
  have hb:=hS rfl
  have h138 : A.eval (.tmp 138)=_:=he.2.2.2.1 rfl
  have f140 : ((.poly (by decide) (by decide) ([tm 1 1 0]) : FactL (Lr (none) (0)))).p (A.eval (.tmp 140)) w1:=he.1 rfl
  obtain ⟨v140,h140⟩ : ∃ v,A.eval (.tmp 140)=v:=⟨_,rfl⟩
  rw [h140] at f140
  have f141 : ((.poly (by decide) (by decide) ([tm 1 1 0]) : FactL (Lr (none) (0)))).p (A.eval (.tmp 141)) w1:=he.2.1 rfl
  obtain ⟨v141,h141⟩ : ∃ v,A.eval (.tmp 141)=v:=⟨_,rfl⟩
  rw [h141] at f141
  have hf0 : A.eval (.func 12)=.func (.func 12) #[] #[]:=rfl
  refine goOn_yes rfl rfl h138 ?_
  refine stepG_call (f:=12) (args:=#[v140,v141]) rfl rfl ?_ ?_
  ·generalize A.eval=ev at *
   go_simp
  ·refine (mulW7 Q.sw_xx (by decide +kernel) (by decide +kernel) f140 f141).mono ?_
   rintro e w' ⟨v,rfl,hi,hb'⟩
   exact ⟨_,rfl,hb',hi⟩
 ·intro A w1 hA hL hS he
  have hb:=hS rfl
  have h138 : A.eval (.tmp 138)=_:=he.2.2.2.1 rfl
  have f139 : ((.poly (by decide) (by decide) ([tm 2 0 0]) : FactL (Lr (none) (0)))).p (A.eval (.tmp 139)) w1:=he.1 rfl
  obtain ⟨v139,h139⟩ : ∃ v,A.eval (.tmp 139)=v:=⟨_,rfl⟩
  rw [h139] at f139
  have f142 : ((.poly (by decide) (by decide) ([tm 1 2 0]) : FactL (Lr (none) (0)))).p (A.eval (.tmp 142)) w1:=he.2.1 rfl
  obtain ⟨v142,h142⟩ : ∃ v,A.eval (.tmp 142)=v:=⟨_,rfl⟩
  rw [h142] at f142
  have hf0 : A.eval (.func 33)=.func (.func 33) #[] #[]:=rfl
  have hc0 : A.eval (.const (.int .i64 0))=.int .i64 0:=rfl
  refine goOn_yes rfl rfl h138 ?_
  refine stepG_call (f:=33) (args:=#[v139,v142,(.int .i64 0)]) rfl rfl ?_ ?_
  ·generalize A.eval=ev at *
   go_simp
  ·refine (resW sw_r3 (by decide +kernel) (by decide +kernel) f139 f142).mono ?_
   rintro e w' ⟨v,rfl,hi,hb'⟩
   exact ⟨_,rfl,hb',hi⟩
 ·intro A w1 hA hL hS he
  have hb:=hS rfl
  have h138 : A.eval (.tmp 138)=_:=he.2.1 rfl
  have hf0 : A.eval (.func 26)=.func (.func 26) #[] #[]:=rfl
  have hc0 : A.eval (.const (.int .i64 4))=.int .i64 4:=rfl
  refine goOn_yes rfl rfl h138 ?_
  refine stepG_call (f:=26) (args:=#[(.int .i64 4)]) rfl rfl ?_ ?_
  ·generalize A.eval=ev at *
   go_simp
  ·refine (num8_any 4 [tm 4 0 0] _ (by omega) (by omega) (by decide +kernel) (by decide +kernel)).mono ?_
   rintro e w' ⟨v,rfl,hi,hb'⟩
   exact ⟨_,rfl,hb',hi⟩
 ·intro A w1 hA hL hS he
  have hb:=hS rfl
  have h138 : A.eval (.tmp 138)=_:=he.2.2.2.1 rfl
  have f143 : ((.poly (by decide) (by decide) ([tm 4 0 0]) : FactL (Lr (none) (0)))).p (A.eval (.tmp 143)) w1:=he.1 rfl
  obtain ⟨v143,h143⟩ : ∃ v,A.eval (.tmp 143)=v:=⟨_,rfl⟩
  rw [h143] at f143
  have f144 : ((.poly (by decide) (by decide) ([tm 4 0 0]) : FactL (Lr (none) (0)))).p (A.eval (.tmp 144)) w1:=he.2.1 rfl
  obtain ⟨v144,h144⟩ : ∃ v,A.eval (.tmp 144)=v:=⟨_,rfl⟩
  rw [h144] at f144
  have hf0 : A.eval (.func 13)=.func (.func 13) #[] #[]:=rfl
  refine goOn_yes rfl rfl h138 ?_
  refine stepG_call (f:=13) (args:=#[v143,v144]) rfl rfl ?_ ?_
  ·generalize A.eval=ev at *
   go_simp
  ·refine (sameW7 (by decide +kernel) f143 f144).mono ?_
   rintro e w' ⟨rfl,hb'⟩
   exact ⟨_,rfl,hb',rfl⟩
 ·exact fun A w1 hA hL hS he=>goOn_plain rfl (stepG_pk rfl (he.1 rfl) rfl (he.2.1 rfl))
 ·exact fun A w1 hA hL hS he=>goOn_plain rfl (stepG_mv rfl rfl (he.1 rfl))
 ·intro A w1 hA hL hS he
  have hb:=hS rfl
  have h147 : A.eval (.tmp 147)=_:=he.1 rfl
  have hf0 : A.eval (.func 26)=.func (.func 26) #[] #[]:=rfl
  have hc0 : A.eval (.const (.int .i64 1))=.int .i64 1:=rfl
  refine goOn_yes rfl rfl h147 ?_
  refine stepG_call (f:=26) (args:=#[(.int .i64 1)]) rfl rfl ?_ ?_
  ·generalize A.eval=ev at *
   go_simp
  ·refine (num8_any 1 [tm 1 0 0] _ (by omega) (by omega) (by decide +kernel) (by decide +kernel)).mono ?_
   rintro e w' ⟨v,rfl,hi,hb'⟩
   exact ⟨_,rfl,hb',hi⟩
 ·intro A w1 hA hL hS he
  have hb:=hS rfl
  have h147 : A.eval (.tmp 147)=_:=he.2.2.1 rfl
  have f148 : ((.poly (by decide) (by decide) ([tm 1 0 0]) : FactL (Lr (none) (0)))).p (A.eval (.tmp 148)) w1:=he.1 rfl
  obtain ⟨v148,h148⟩ : ∃ v,A.eval (.tmp 148)=v:=⟨_,rfl⟩
  rw [h148] at f148
  have hf0 : A.eval (.func 33)=.func (.func 33) #[] #[]:=rfl
  have hc0 : A.eval (.const (.slice none 0 0))=.slice none 0 0:=rfl
  have hc1 : A.eval (.const (.int .i64 0))=.int .i64 0:=rfl
  refine goOn_yes rfl rfl h147 ?_
  refine stepG_call (f:=33) (args:=#[(.slice none 0 0),v148,(.int .i64 0)]) rfl rfl ?_ ?_
  ·generalize A.eval=ev at *
   go_simp
  ·refine (resW sw_r4 (by decide +kernel) (by decide +kernel) (IsSl.nil _ _) f148).mono ?_
   rintro e w' ⟨v,rfl,hi,hb'⟩
   exact ⟨_,rfl,hb',hi⟩
 ·intro A w1 hA hL hS he
  have h147 : A.eval (.tmp 147)=_:=he.2.1 rfl
  have f149 : ((.poly (by decide) (by decide) ([]) : FactL (Lr (none) (0)))).p (A.eval (.tmp 149)) w1:=he.1 rfl
  obtain ⟨v149,h149⟩ : ∃ v,A.eval (.tmp 149)=v:=⟨_,rfl⟩
  rw [h149] at f149
  refine goOn_yes rfl rfl h147 ?_
  obtain ⟨a_,c_,e_,-⟩:=IsSl.shape f149
  subst e_
  simp only [List.length_nil] at *
  refine stepG_pure rfl rfl ?_
  generalize A.eval=ev at *
  go_simp
 ·intro A w1 hA hL hS he
  have h147 : A.eval (.tmp 147)=_:=he.2.1 rfl
  have h150 : A.eval (.tmp 150)=_:=he.1 rfl
  have hc0 : A.eval (.const (.int .i64 0))=.int .i64 0:=rfl
  refine goOn_yes rfl rfl h147 ?_
  refine stepG_pure rfl rfl ?_
  generalize A.eval=ev at *
  go_simp
 ·exact fun A w1 hA hL hS he=>goOn_plain rfl (stepG_pk rfl (he.1 rfl) rfl (he.2.1 rfl))
 intro w12 hL
 simp only [TailL,FactL.eq,FactL.poly,FactL.rat,FactL.ret,FactL.fac,FactL.fac1,FactL.of,List.length_cons,List.length_nil,List.drop_succ_cons,List.drop_zero]
 intros
 go_frame
 have hb:=hL.below
 replace hb0:=hb0.trans (hb.mono hb0.size)
 clear hL hb
 go_wp2
 go_ret
 exact ⟨rfl,hb0⟩
end Go.Proofs.YtopclbeomcggiaaGreat
