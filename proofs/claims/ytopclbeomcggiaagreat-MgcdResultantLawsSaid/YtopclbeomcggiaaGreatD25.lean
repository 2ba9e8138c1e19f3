/- The reference: Same on rational numbers; exponents: greater, Natural. The reference's polynomials: insert, Make. The reference's polynomials: Make, Equal, Same. -/
import Derived.Test.YtopclbeomcggiaaGreatD24
set_option linter.unusedVariables false
set_option linter.unusedSimpArgs false
section
namespace Go.Proofs.YtopclbeomcggiaaGreat
open Go.RowKit Q
theorem rat_same {p q : Rat} : decide (p=q)=(decide (p.num=q.num) && decide ((p.den : Int)=(q.den : Int))):=by
 rw [Bool.eq_iff_iff]
 simp only [decide_eq_true_eq,Bool.and_eq_true]
 constructor
 ·rintro rfl; exact ⟨rfl,rfl⟩
 ·rintro ⟨h1,h2⟩; exact Rat.ext h1 (by omega)
set_option maxHeartbeats 1000000 in
set_option maxRecDepth 100000 in
theorem same2_any (v1 v2 : Value) (p q : Rat) (w : World) (h1 : IsRat w v1 p) (h2 : IsRat w v2 q) (k1 : Rk p) (k2 : Rk q) :
  Calls Tryz.prog 23 #[v1,v2] w (Ret w (.bool (decide (p=q)))):=by
 obtain ⟨s1,a1,l1,c1,s2,a2,l2,c2,rfl,i1,i2⟩:=h1
 obtain ⟨s3,a3,l3,c3,s4,a4,l4,c4,rfl,i3,i4⟩:=h2
 have he:=rat_same (p:=p) (q:=q)
 have HN:=fun W (hb : Below w.heap.size w W)=>same1_any _ _ _ _ _ _ W (i1.on hb) (i3.on hb) k1.num' k2.num'
 have HD:=fun W (hb : Below w.heap.size w W)=>same1_any _ _ _ _ _ _ W (i2.on hb) (i4.on hb) k1.den' k2.den'
 generalize decide ((p.den : Int)=(q.den : Int))=dd at *
 generalize decide (p.num=q.num)=dn at *
 replace he:=Lib.hid he
 go_enter Tryz.func23,Tryz.ntmps23
 go_upto_region 1 with (fail)
 refine abs2 fun W hb0 B1 B2 hsz=>?_
 cases dn
 ·skip
  refine wp_region_S trivial (none) (0) (Okr.none) [.eq (.pointer (some ⟨w.heap.size,0,none⟩)),.eq (.agg #[.bool s1,.slice a1 l1 c1]),.eq (.pointer (some ⟨w.heap.size + 1,0,none⟩)),.eq (.agg #[.bool s3,.slice a3 l3 c3]),.ret (.bool false),.eq (.bool false),.eq undef,.eq undef,.eq undef,.eq undef,.eq undef,.eq (.bool false)] [5,6,7,8,9,10,11,12,13,14,15,16] rfl rfl rfl rfl ⟨?_,?_,?_,?_,?_,?_,?_,?_,?_,?_,?_,?_,trivial⟩ ?_
  ·intro A w1 hA hL hS he
   have h2 : A.eval (.tmp 2)=.pointer (some ⟨w.heap.size,0,none⟩):=hA 2 rfl
   refine goOn_plain rfl (stepG_pure rfl rfl ?_)
   generalize A.eval=ev at *
   go_simp
  ·intro A w1 hA hL hS he
   have hb:=hL.below
   have h5 : A.eval (.tmp 5)=_:=he.1 rfl
   have c0:=((B1).on hb).at1 0 _ rfl
   have c1:=((B1).on hb).at1 1 _ rfl
   refine goOn_plain rfl (stepG_pure rfl rfl ?_)
   generalize A.eval=ev at *
   go_simp
  ·intro A w1 hA hL hS he
   have h3 : A.eval (.tmp 3)=.pointer (some ⟨w.heap.size + 1,0,none⟩):=hA 3 rfl
   refine goOn_plain rfl (stepG_pure rfl rfl ?_)
   generalize A.eval=ev at *
   go_simp
  ·intro A w1 hA hL hS he
   have hb:=hL.below
   have h7 : A.eval (.tmp 7)=_:=he.1 rfl
   have c0:=((B2).on hb).at1 0 _ rfl
   have c1:=((B2).on hb).at1 1 _ rfl
   refine goOn_plain rfl (stepG_pure rfl rfl ?_)
   generalize A.eval=ev at *
   go_simp
  ·intro A w1 hA hL hS he
   have hb:=hS rfl
   have h6 : A.eval (.tmp 6)=_:=he.1 rfl
   have h8 : A.eval (.tmp 8)=_:=he.2.1 rfl
   have hf0 : A.eval (.func 69)=.func (.func 69) #[] #[]:=rfl
   refine goOn_plain rfl ?_
   refine stepG_call (f:=69) (args:=#[.agg #[.bool s1,.slice a1 l1 c1],.agg #[.bool s3,.slice a3 l3 c3]]) rfl rfl ?_ ?_
   ·generalize A.eval=ev at *
    go_simp
   ·refine (HN _ (hb0.trans (hb.mono hb0.size))).mono ?_
    rintro e w' ⟨rfl,hb'⟩
    exact ⟨_,rfl,hb',rfl⟩
  ·exact fun A w1 hA hL hS he=>goOn_plain rfl (stepG_mv rfl rfl (he.1 rfl))
  ·exact fun A w1 hA hL hS he=>goOn_no (x:=false) rfl rfl (he.1 rfl) rfl rfl
  ·exact fun A w1 hA hL hS he=>goOn_no (x:=false) rfl rfl (he.2.1 rfl) rfl rfl
  ·exact fun A w1 hA hL hS he=>goOn_no (x:=false) rfl rfl (he.1 rfl) rfl rfl
  ·exact fun A w1 hA hL hS he=>goOn_no (x:=false) rfl rfl (he.2.1 rfl) rfl rfl
  ·exact fun A w1 hA hL hS he=>goOn_no (x:=false) rfl rfl (he.2.2.1 rfl) rfl rfl
  ·exact fun A w1 hA hL hS he=>goOn_plain rfl (stepG_pk rfl (he.1 rfl) rfl rfl)
  ·intro W2 hL2
   simp only [TailL,FactL.eq,FactL.ret,List.length_cons,List.length_nil,List.drop_succ_cons,List.drop_zero]
   go_frame
   go_wp2
   go_ret
   exact ⟨by rw [he.out] <;> rfl,hb0.trans (hL2.below.mono hb0.size)⟩
 ·skip
  refine wp_region_S trivial (none) (0) (Okr.none) [.eq (.pointer (some ⟨w.heap.size,0,none⟩)),.eq (.agg #[.bool s1,.slice a1 l1 c1]),.eq (.pointer (some ⟨w.heap.size + 1,0,none⟩)),.eq (.agg #[.bool s3,.slice a3 l3 c3]),.ret (.bool true),.eq (.bool true),.eq (.pointer (some ⟨w.heap.size,2,none⟩)),.eq (.agg #[.bool s2,.slice a2 l2 c2]),.eq (.pointer (some ⟨w.heap.size + 1,2,none⟩)),.eq (.agg #[.bool s4,.slice a4 l4 c4]),.ret (.bool dd),.eq (.bool dd)] [5,6,7,8,9,10,11,12,13,14,15,16] rfl rfl rfl rfl ⟨?_,?_,?_,?_,?_,?_,?_,?_,?_,?_,?_,?_,trivial⟩ ?_
  ·intro A w1 hA hL hS he
   have h2 : A.eval (.tmp 2)=.pointer (some ⟨w.heap.size,0,none⟩):=hA 2 rfl
   refine goOn_plain rfl (stepG_pure rfl rfl ?_)
   generalize A.eval=ev at *
   go_simp
  ·intro A w1 hA hL hS he
   have hb:=hL.below
   have h5 : A.eval (.tmp 5)=_:=he.1 rfl
   have c0:=((B1).on hb).at1 0 _ rfl
   have c1:=((B1).on hb).at1 1 _ rfl
   refine goOn_plain rfl (stepG_pure rfl rfl ?_)
   generalize A.eval=ev at *
   go_simp
  ·intro A w1 hA hL hS he
   have h3 : A.eval (.tmp 3)=.pointer (some ⟨w.heap.size + 1,0,none⟩):=hA 3 rfl
   refine goOn_plain rfl (stepG_pure rfl rfl ?_)
   generalize A.eval=ev at *
   go_simp
  ·intro A w1 hA hL hS he
   have hb:=hL.below
   have h7 : A.eval (.tmp 7)=_:=he.1 rfl
   have c0:=((B2).on hb).at1 0 _ rfl
   have c1:=((B2).on hb).at1 1 _ rfl
   refine goOn_plain rfl (stepG_pure rfl rfl ?_)
   generalize A.eval=ev at *
   go_simp
  ·intro A w1 hA hL hS he
   have hb:=hS rfl
   have h6 : A.eval (.tmp 6)=_:=he.1 rfl
   have h8 : A.eval (.tmp 8)=_:=he.2.1 rfl
   have hf0 : A.eval (.func 69)=.func (.func 69) #[] #[]:=rfl
   refine goOn_plain rfl ?_
   refine stepG_call (f:=69) (args:=#[.agg #[.bool s1,.slice a1 l1 c1],.agg #[.bool s3,.slice a3 l3 c3]]) rfl rfl ?_ ?_
   ·generalize A.eval=ev at *
    go_simp
   ·refine (HN _ (hb0.trans (hb.mono hb0.size))).mono ?_
    rintro e w' ⟨rfl,hb'⟩
    exact ⟨_,rfl,hb',rfl⟩
  ·exact fun A w1 hA hL hS he=>goOn_plain rfl (stepG_mv rfl rfl (he.1 rfl))
  ·intro A w1 hA hL hS he
   have h10 : A.eval (.tmp 10)=_:=he.1 rfl
   have h2 : A.eval (.tmp 2)=.pointer (some ⟨w.heap.size,0,none⟩):=hA 2 rfl
   refine goOn_yes rfl rfl h10 ?_
   refine stepG_pure rfl rfl ?_
   generalize A.eval=ev at *
   go_simp
  ·intro A w1 hA hL hS he
   have hb:=hL.below
   have h10 : A.eval (.tmp 10)=_:=he.2.1 rfl
   have h11 : A.eval (.tmp 11)=_:=he.1 rfl
   have c0:=((B1).on hb).at1 2 _ rfl
   have c1:=((B1).on hb).at1 3 _ rfl
   refine goOn_yes rfl rfl h10 ?_
   refine stepG_pure rfl rfl ?_
   generalize A.eval=ev at *
   go_simp
  ·intro A w1 hA hL hS he
   have h10 : A.eval (.tmp 10)=_:=he.1 rfl
   have h3 : A.eval (.tmp 3)=.pointer (some ⟨w.heap.size + 1,0,none⟩):=hA 3 rfl
   refine goOn_yes rfl rfl h10 ?_
   refine stepG_pure rfl rfl ?_
   generalize A.eval=ev at *
   go_simp
  ·intro A w1 hA hL hS he
   have hb:=hL.below
   have h10 : A.eval (.tmp 10)=_:=he.2.1 rfl
   have h13 : A.eval (.tmp 13)=_:=he.1 rfl
   have c0:=((B2).on hb).at1 2 _ rfl
   have c1:=((B2).on hb).at1 3 _ rfl
   refine goOn_yes rfl rfl h10 ?_
   refine stepG_pure rfl rfl ?_
   generalize A.eval=ev at *
   go_simp
  ·intro A w1 hA hL hS he
   have hb:=hS rfl
   have h10 : A.eval (.tmp 10)=_:=he.2.2.1 rfl
   have h12 : A.eval (.tmp 12)=_:=he.1 rfl
   have h14 : A.eval (.tmp 14)=_:=he.2.1 rfl
   have hf0 : A.eval (.func 69)=.func (.func 69) #[] #[]:=rfl
   refine goOn_yes rfl rfl h10 ?_
   refine stepG_call (f:=69) (args:=#[.agg #[.bool s2,.slice a2 l2 c2],.agg #[.bool s4,.slice a4 l4 c4]]) rfl rfl ?_ ?_
   ·generalize A.eval=ev at *
    go_simp
   ·refine (HD _ (hb0.trans (hb.mono hb0.size))).mono ?_
    rintro e w' ⟨rfl,hb'⟩
    exact ⟨_,rfl,hb',rfl⟩
  ·exact fun A w1 hA hL hS he=>goOn_plain rfl (stepG_pk rfl (he.1 rfl) rfl (he.2.1 rfl))
  ·intro W2 hL2
   simp only [TailL,FactL.eq,FactL.ret,List.length_cons,List.length_nil,List.drop_succ_cons,List.drop_zero]
   go_frame
   go_wp2
   go_ret
   exact ⟨by rw [he.out] <;> rfl,hb0.trans (hL2.below.mono hb0.size)⟩
theorem Ex.gt_at {e f : Ex} {i : Nat} (hi : i < 4) (h : ∀ j,i < j → j < 4 → e.get j=f.get j) (hne : e.get i ≠ f.get i) : e.gt f=decide (f.get i < e.get i):=by
 obtain ⟨a,b,c,d⟩:=e; obtain ⟨a',b',c',d'⟩:=f
 have h1:=h 1; have h2:=h 2; have h3:=h 3
 rw [Bool.eq_iff_iff,Ex.gt_iff,decide_eq_true_iff]
 obtain rfl | rfl | rfl | rfl : i=0 ∨ i=1 ∨ i=2 ∨ i=3:=by omega
 all_goals simp [Ex.get] at *
 all_goals omega
theorem Ex.eq_get {e f : Ex} (h : ∀ j,j < 4 → e.get j=f.get j) : e=f :=
 Ex.ext' (h 0 (by omega)) (h 1 (by omega)) (h 2 (by omega)) (h 3 (by omega))
set_option maxHeartbeats 2000000 in
set_option maxRecDepth 100000 in
theorem greater_any (e f : Ex) (w : World) : Calls Tryz.prog 68 #[.agg (exC e).toArray,.agg (exC f).toArray] w (Ret w (.bool (e.gt f))):=by
 have hg0:=fun i hi h hne=>Ex.gt_at (e:=e) (f:=f) (i:=i) hi h hne
 have hg1 : (∀ j,j < 4 → e.get j=f.get j) → e.gt f=false:=fun h=>by rw [Ex.eq_get h]; exact Ex.gt_irrefl _
 have hc1:=fun k hk=>exC_get e k hk
 have hc2:=fun k hk=>exC_get f k hk
 generalize e.gt f=R at *
 obtain ⟨x1,x2,x3,x4⟩:=e
 obtain ⟨y1,y2,y3,y4⟩:=f
 simp only [exC] at hc1 hc2 ⊢
 replace hg0:=Lib.hid hg0
 replace hg1:=Lib.hid hg1
 go_enter Tryz.func68,Tryz.ntmps68
 go_upto_region 1 with (fail)
 refine abs2 fun W hb0 B1 B2 hsz=>?_
 go_wp2
 go_loopw [5] (fun i wr=>∃ k : Nat,k ≤ 4 ∧ i=.int .i64 ((k : Int) - 1) ∧ Hid (∀ j,k ≤ j → j < 4 → Ex.get (x1,x2,x3,x4) j=Ex.get (y1,y2,y3,y4) j) ∧ Below W.heap.size W wr) (fun i _=>(intOf i + 1).toNat)
 case atStart=>exact ⟨4,by omega,rfl,Lib.hid (fun j h1 h2=>by omega),Below.refl _ _⟩
 case round =>
  obtain ⟨k,hk,rfl,hd,hbr⟩:=hrel
  by_cases h0 : 1 ≤ k
  ·obtain ⟨i,rfl⟩ : ∃ i,k=i + 1:=⟨k - 1,by omega⟩
   have hi4 : i < 4:=by omega
   have hi4' : (i : Int) < 4:=by omega
   have hx:=hc1 i hi4
   have hy:=hc2 i hi4
   have hst:=hg0.out i hi4 (fun j h1 h2=>hd.out j h1 h2)
   have hde : Ex.get (x1,x2,x3,x4) i=Ex.get (y1,y2,y3,y4) i → ∀ j,i ≤ j → j < 4 → Ex.get (x1,x2,x3,x4) j=Ex.get (y1,y2,y3,y4) j:=fun h j h1 h2=>by
    rcases Nat.eq_or_lt_of_le h1 with h' | h'
    ·rw [← h']; exact h
    ·exact hd.out j h' h2
   replace hde:=Lib.hid hde
   have HX : Hid (∃ x,x=Ex.get (x1,x2,x3,x4) i):=⟨_,rfl⟩
   obtain ⟨x,ex⟩:=HX.out
   have HY : Hid (∃ y,y=Ex.get (y1,y2,y3,y4) i):=⟨_,rfl⟩
   obtain ⟨y,ey⟩:=HY.out
   rw [← ex] at hx hst
   rw [← ey] at hy hst
   replace ex:=Lib.hid ex
   replace ey:=Lib.hid ey
   clear hd HX HY
   have hi1 : (((i + 1 : Nat) : Int) - 1)=(i : Int):=by omega
   rw [hi1]
   have f1 : ∀ W',Below W.heap.size W W' → W'.cell? ⟨w.heap.size,i,none⟩=some (.int .i64 x):=fun W' hb=>(B1.on hb).at1 i _ hx
   have f2 : ∀ W',Below W.heap.size W W' → W'.cell? ⟨w.heap.size + 1,i,none⟩=some (.int .i64 y):=fun W' hb=>(B2.on hb).at1 i _ hy
   clear hx hy
   go_upto_region 4 with (fail)
   refine wp_region_L mixed (none) (0) (Okr.none) [.eq (.int .i64 i),.eq (.pointer (some ⟨w.heap.size,i,none⟩)),.eq (.int .i64 x),.eq (.int .i64 i),.eq (.pointer (some ⟨w.heap.size + 1,i,none⟩)),.eq (.int .i64 y),.eq (.bool (x != y))] [10,11,12,13,14,15,16] rfl rfl rfl rfl ⟨?_,?_,?_,?_,?_,?_,?_,trivial⟩ ?_
   ·exact fun A w1 hA hL hS he=>goOn_plain rfl (stepG_mv rfl rfl (hA 5 rfl))
   ·intro A w1 hA hL hS he
    have h2 : A.eval (.tmp 2)=.pointer (some ⟨w.heap.size,0,none⟩):=hA 2 rfl
    have h10 : A.eval (.tmp 10)=_:=he.1 rfl
    refine goOn_plain rfl (stepG_pure rfl rfl ?_)
    generalize A.eval=ev at *
    go_simp
   ·intro A w1 hA hL hS he
    have h11 : A.eval (.tmp 11)=_:=he.1 rfl
    refine goOn_plain rfl ?_
    have c0:=f1 w1 (hbr.trans (hL.below.mono hbr.size))
    refine stepG_pure rfl rfl ?_
    generalize A.eval=ev at *
    go_simp
   ·exact fun A w1 hA hL hS he=>goOn_plain rfl (stepG_mv rfl rfl (hA 5 rfl))
   ·intro A w1 hA hL hS he
    have h3 : A.eval (.tmp 3)=.pointer (some ⟨w.heap.size + 1,0,none⟩):=hA 3 rfl
    have h13 : A.eval (.tmp 13)=_:=he.1 rfl
    refine goOn_plain rfl (stepG_pure rfl rfl ?_)
    generalize A.eval=ev at *
    go_simp
   ·intro A w1 hA hL hS he
    have h14 : A.eval (.tmp 14)=_:=he.1 rfl
    refine goOn_plain rfl ?_
    have c0:=f2 w1 (hbr.trans (hL.below.mono hbr.size))
    refine stepG_pure rfl rfl ?_
    generalize A.eval=ev at *
    go_simp
   ·intro A w1 hA hL hS he
    have h12 : A.eval (.tmp 12)=_:=he.1 rfl
    have h15 : A.eval (.tmp 15)=_:=he.2.1 rfl
    refine goOn_plain rfl (stepG_pure rfl rfl ?_)
    generalize A.eval=ev at *
    go_simp
   ·intro W2 hL2
    simp only [TailL,FactL.eq,List.length_cons,List.length_nil,List.drop_succ_cons,List.drop_zero]
    go_frame
    have hb2:=hbr.trans (hL2.below.mono hbr.size)
    by_cases hxy : x=y
    ·have HD:=Lib.hid (hde.out (by rw [← ex.out,← ey.out]; exact hxy))
     have hxb : (x != y)=false:=by simp [hxy]
     rw [hxb]
     clear f1 f2
     go_wp2
     go_roundw
     case rel=>exact ⟨i,by omega,by go_num,HD,hb2⟩
     case measure=>simp [intOf]
    ·have HR:=Lib.hid (hst hxy)
     have hxb : (x != y)=true:=by simp [hxy]
     rw [hxb]
     go_upto_region 5 with (fail)
     refine wp_region_L mixed (none) (0) (Okr.none) [.eq (.int .i64 i),.eq (.pointer (some ⟨w.heap.size,i,none⟩)),.eq (.int .i64 x),.eq (.int .i64 i),.eq (.pointer (some ⟨w.heap.size + 1,i,none⟩)),.eq (.int .i64 y),.eq (.bool (decide (y < x)))] [17,18,19,20,21,22,23] rfl rfl rfl rfl ⟨?_,?_,?_,?_,?_,?_,?_,trivial⟩ ?_
     ·exact fun A w1 hA hL hS he=>goOn_plain rfl (stepG_mv rfl rfl (hA 5 rfl))
     ·intro A w1 hA hL hS he
      have h2 : A.eval (.tmp 2)=.pointer (some ⟨w.heap.size,0,none⟩):=hA 2 rfl
      have h17 : A.eval (.tmp 17)=_:=he.1 rfl
      refine goOn_plain rfl (stepG_pure rfl rfl ?_)
      generalize A.eval=ev at *
      go_simp
     ·intro A w1 hA hL hS he
      have h18 : A.eval (.tmp 18)=_:=he.1 rfl
      refine goOn_plain rfl ?_
      have c0:=f1 w1 (hb2.trans (hL.below.mono hb2.size))
      refine stepG_pure rfl rfl ?_
      generalize A.eval=ev at *
      go_simp
     ·exact fun A w1 hA hL hS he=>goOn_plain rfl (stepG_mv rfl rfl (hA 5 rfl))
     ·intro A w1 hA hL hS he
      have h3 : A.eval (.tmp 3)=.pointer (some ⟨w.heap.size + 1,0,none⟩):=hA 3 rfl
      have h20 : A.eval (.tmp 20)=_:=he.1 rfl
      refine goOn_plain rfl (stepG_pure rfl rfl ?_)
      generalize A.eval=ev at *
      go_simp
     ·intro A w1 hA hL hS he
      have h21 : A.eval (.tmp 21)=_:=he.1 rfl
      refine goOn_plain rfl ?_
      have c0:=f2 w1 (hb2.trans (hL.below.mono hb2.size))
      refine stepG_pure rfl rfl ?_
      generalize A.eval=ev at *
      go_simp
     ·intro A w1 hA hL hS he
      have h19 : A.eval (.tmp 19)=_:=he.1 rfl
      have h22 : A.eval (.tmp 22)=_:=he.2.1 rfl
      refine goOn_plain rfl (stepG_pure rfl rfl ?_)
      generalize A.eval=ev at *
      go_simp
     ·intro W3 hL3
      simp only [TailL,FactL.eq,List.length_cons,List.length_nil,List.drop_succ_cons,List.drop_zero]
      go_frame
      go_wp2
      go_ret
      exact ⟨by rw [HR.out] <;> rfl,hb0.trans ((hb2.trans (hL3.below.mono hb2.size)).mono hb0.size)⟩
  ·obtain rfl : k=0:=by omega
   have HD:=Lib.hid (hg1.out (fun j hj=>hd.out j (by omega) hj))
   go_wp2
   go_ret
   exact ⟨by rw [HD.out] <;> rfl,hb0.trans (hbr.mono hb0.size)⟩
set_option maxHeartbeats 1000000 in
set_option maxRecDepth 100000 in
theorem natural7_any (e : Ex) (w : World) : Calls Tryz.prog 65 #[.agg (exC e).toArray] w (Ret w (.bool e.nat)):=by
 obtain ⟨x1,x2,x3,x4⟩:=e
 have hR : Ex.nat (x1,x2,x3,x4)=(decide (0 ≤ x1) && decide (0 ≤ x2) && decide (0 ≤ x3) && decide (0 ≤ x4)):=by
  rw [Bool.eq_iff_iff,Ex.nat_iff]; simp [Bool.and_eq_true,and_assoc]
 generalize Ex.nat (x1,x2,x3,x4)=R at *
 replace hR:=Lib.hid hR
 simp only [exC]
 go_enter Tryz.func65,Tryz.ntmps65
 go_upto_region 1 with (fail)
 refine abs1 fun W hb0 B hsz=>?_
 have e1:=B.at1 0 _ rfl
 have e2:=B.at1 1 _ rfl
 have e3:=B.at1 2 _ rfl
 have e4:=B.at1 3 _ rfl
 by_cases h1 : 0 ≤ x1
 ·by_cases h2 : 0 ≤ x2
  ·by_cases h3 : 0 ≤ x3
   ·by_cases h4 : 0 ≤ x4
    ·have HE : Hid (R=true):=Lib.hid (by rw [hR.out]; simp [h1,h2,h3,h4])
     go_wp2
     go_ret
     exact ⟨by rw [HE.out] <;> rfl,hb0⟩
    ·have HE : Hid (R=false):=Lib.hid (by rw [hR.out]; simp [h4])
     go_wp2
     go_ret
     exact ⟨by rw [HE.out] <;> rfl,hb0⟩
   ·have HE : Hid (R=false):=Lib.hid (by rw [hR.out]; simp [h3])
    go_wp2
    go_ret
    exact ⟨by rw [HE.out] <;> rfl,hb0⟩
  ·have HE : Hid (R=false):=Lib.hid (by rw [hR.out]; simp [h2])
   go_wp2
   go_ret
   exact ⟨by rw [HE.out] <;> rfl,hb0⟩
 ·have HE : Hid (R=false):=Lib.hid (by rw [hR.out]; simp [h1])
  go_wp2
  go_ret
  exact ⟨by rw [HE.out] <;> rfl,hb0⟩
end Go.Proofs.YtopclbeomcggiaaGreat
end
section
namespace Q
def insT (n : Trm) (r : List Trm) : List Trm:=if n.2 ≠ 0 ∧ n.1.nat=true then n :: r else r
theorem ins_skip {m : Trm} : ∀ {k : Nat} {p : List Trm},(∀ t ∈ p.take k,t.1.gt m.1=true) → ins p m=p.take k ++ ins (p.drop k) m
 | 0,p,_=>by simp
 | k + 1,[],_=>by simp
 | k + 1,t :: p,h=>by
  have h1:=h t (by simp)
  have h2:=ins_skip (m:=m) (k:=k) (p:=p) (fun s hs=>h s (by simp [hs]))
  rw [List.take_succ_cons,List.drop_succ_cons,ins,if_pos h1,h2]; rfl
theorem ins_nil' (m : Trm) : ins [] m=insT m []:=rfl
theorem ins_eq' {t m : Trm} {r : List Trm} (h : t.1=m.1) : ins (t :: r) m=insT (m.1,m.2 + t.2) r:=by
 rw [ins,if_neg (by rw [h,Ex.gt_irrefl]; simp),if_pos h]; rfl
theorem ins_ne' {t m : Trm} {r : List Trm} (hg : t.1.gt m.1=false) (h : t.1 ≠ m.1) : ins (t :: r) m=insT m (t :: r):=by
 rw [ins,if_neg (by rw [hg]; simp),if_neg h]; rfl
end Q
namespace Go.Proofs.YtopclbeomcggiaaGreat
open Go.RowKit Q
theorem eq_ex (e f : Ex) (w : World) : (Op.equalIn 10000 36 (.agg (exC e).toArray) (.agg (exC f).toArray)).run Tryz.prog w=.ok (decide (e=f)) w:=by
 obtain ⟨x1,x2,x3,x4⟩:=e
 obtain ⟨y1,y2,y3,y4⟩:=f
 simp only [exC]
 have u3:=Tryz.underlying3
 have a3:=Tryz.isAgg3
 have z3:=Tryz.sizeOf3
 rw [show (10000 : Nat)=9999 + 1 from rfl,Op.equalIn]
 simp only [Sem.run_bind,run_underlying Tryz.underlying36,Result.andThen_ok]
 simp only [Std.Legacy.Range.forIn_eq_forIn_range',Std.Legacy.Range.size,Nat.sub_zero,Nat.add_sub_cancel,Nat.div_one,List.range'_succ,List.range'_zero,List.forIn_cons,List.forIn_nil]
 go_simp
 by_cases h1 : x1=y1 <;> by_cases h2 : x2=y2 <;> by_cases h3 : x3=y3 <;> by_cases h4 : x4=y4 <;> simp [h1,h2,h3,h4]
theorem blk_ex {w : World} {b : Nat} {e : Ex} {r : List Value} (h : Blk w b monoT (exC e ++ r)) : w.rangeAt b 0 (exC e):=cells_ex h.cells
theorem blk_rat {w : World} {b : Nat} {e : Ex} {r : List Value} (h : Blk w b monoT (exC e ++ r)) : w.rangeAt b (0 + 4) r:=cells_rat h.cells
end Go.Proofs.YtopclbeomcggiaaGreat
namespace Q
open Go Go.RowKit Q Go.Proofs.YtopclbeomcggiaaGreat
theorem OwnSl.rebase {α : Type} {e : El α} {base : Nat} {w : World} {v : Value} {l : List α} (h : OwnSl e base w v l) : OwnSl e 0 w v l:=by
 obtain ⟨xs,⟨h1,h2⟩,h3⟩:=h
 refine ⟨xs,⟨h1,?_⟩,h3⟩
 rcases h2 with h2 | ⟨g,cap,cur,h4,h5,h6⟩
 ·exact .inl h2
 ·exact .inr ⟨g,cap,cur,h4,Nat.zero_le _,h6⟩
end Q
namespace Go.Proofs.YtopclbeomcggiaaGreat
open Go.RowKit Q
set_option maxHeartbeats 4000000 in
set_option maxRecDepth 100000 in
theorem insert_any (vp : Value) (p : List Trm) (cs : List Value) (m : Trm) (w : World) (hp : IsPoly w vp p) (hm : IsTerm w cs m) (hkp : ∀ t ∈ p,Rs t.2) (hkm : Rs m.2) (hpl : p.length ≤ 1000000) :
  Calls Tryz.prog 82 #[vp,.agg cs.toArray] w (RetPoly w (ins p m)):=by
 obtain ⟨ap,cp,rfl,hcp⟩:=hp.shape
 obtain ⟨r,rfl,hr⟩:=hm
 obtain ⟨e,q⟩:=m
 simp only at hr hkm ⊢
 replace hkp:=Lib.hid hkp
 obtain ⟨RES,hRES⟩ : ∃ RES,RES=ins p (e,q):=⟨_,rfl⟩
 rw [← hRES]
 replace hRES:=Lib.hid hRES
 have h4:=hr.len
 go_enter Tryz.func82,Tryz.ntmps82
 go_upto_region 1 with (fail)
 refine abs1 fun W hb0 B hsz=>?_
 go_wp2
 go_loopw [5] (fun i wr=>∃ k : Nat,k ≤ p.length ∧ i=.int .i64 k ∧ Hid (∀ t ∈ p.take k,t.1.gt e=true) ∧ Below w.heap.size w wr ∧ Hid (Blk wr w.heap.size monoT (exC e ++ r))) (fun i _=>p.length - (intOf i).toNat)
 case atStart=>exact ⟨0,by omega,rfl,Lib.hid (by simp),hb0,Lib.hid B⟩
 case round =>
  clear hb0 B hsz
  obtain ⟨k,hk,rfl,hpre,hbr,hB⟩:=hrel
  have BB:=hB.out
  obtain ⟨g,hgd⟩ : ∃ g : Bool,g=(match p[k]? with | some t=>t.1.gt e | none=>false):=⟨_,rfl⟩
  go_upto_region 2 with (fail)
  go_cut [8,9,10,11,12,13,14,15,16,17,18,19,20,21] (fun _ _ _ _ _ _ _ _ _ _ _ _ _ v21 wc=>v21=.bool g ∧ Below wr.heap.size wr wc)
  case first =>
   by_cases hkl : k < p.length
   ·have hjq : p[k]?=some p[k]:=List.getElem?_eq_getElem hkl
    rw [hjq] at hgd
    generalize p[k]=t at hjq hgd
    obtain ⟨bp,op,csp,rfl,-,hE,hC⟩:=(hp.on hbr).get hjq
    obtain ⟨rt,rfl,hrt⟩:=hE
    change Cells monoT wr bp (op + k * 8) _ at hC
    have hkl' : (k : Int) < p.length:=by omega
    simp only at hgd
    refine wp_region_L mixed (none) (0) (Okr.none) [.eq (.int .i64 k),.eq (.slice (some ⟨bp,op,none⟩) p.length cp),.eq (.int .i64 p.length),.eq (.bool true),.eq (.bool true),.eq (.slice (some ⟨bp,op,none⟩) p.length cp),.eq (.int .i64 k),.eq (.pointer (some ⟨bp,op + k * 8,none⟩)),.eq (.pointer (some ⟨bp,op + k * 8,none⟩)),.eq (.agg (exC t.1).toArray),.eq (.pointer (some ⟨w.heap.size,0,none⟩)),.eq (.agg (exC e).toArray),.ret (.bool (t.1.gt e)),.eq (.bool (t.1.gt e))] [8,9,10,11,12,13,14,15,16,17,18,19,20,21] rfl rfl rfl rfl ⟨?_,?_,?_,?_,?_,?_,?_,?_,?_,?_,?_,?_,?_,?_,trivial⟩ ?_
    ·exact fun A w1 hA hL hS he=>goOn_plain rfl (stepG_mv rfl rfl (hA 5 rfl))
    ·exact fun A w1 hA hL hS he=>goOn_plain rfl (stepG_mv rfl rfl (hA 0 rfl))
    ·intro A w1 hA hL hS he
     have h9 : A.eval (.tmp 9)=_:=he.1 rfl
     refine goOn_plain rfl (stepG_pure rfl rfl ?_)
     generalize A.eval=ev at *
     go_simp
    ·intro A w1 hA hL hS he
     have h8 : A.eval (.tmp 8)=_:=he.1 rfl
     have h10 : A.eval (.tmp 10)=_:=he.2.1 rfl
     refine goOn_plain rfl (stepG_pure rfl rfl ?_)
     generalize A.eval=ev at *
     go_simp
    ·exact fun A w1 hA hL hS he=>goOn_plain rfl (stepG_mv rfl rfl (he.1 rfl))
    ·exact fun A w1 hA hL hS he=>goOn_yes rfl rfl (he.1 rfl) (stepG_mv rfl rfl (hA 0 rfl))
    ·exact fun A w1 hA hL hS he=>goOn_yes rfl rfl (he.1 rfl) (stepG_mv rfl rfl (hA 5 rfl))
    ·intro A w1 hA hL hS he
     have h12 : A.eval (.tmp 12)=_:=he.2.2.1 rfl
     have h13 : A.eval (.tmp 13)=_:=he.1 rfl
     have h14 : A.eval (.tmp 14)=_:=he.2.1 rfl
     refine goOn_yes rfl rfl h12 ?_
     exact stepG_pure rfl rfl (execOp_index rfl (by rw [h13,h14]; exact run_index Tryz.underlying27 (by kernel_rfl) w1 bp op _ _ k .i64 _ (by first | rfl | simp | omega) (hkl)))
    ·intro A w1 hA hL hS he
     have h12 : A.eval (.tmp 12)=_:=he.2.1 rfl
     have h15 : A.eval (.tmp 15)=_:=he.1 rfl
     refine goOn_yes rfl rfl h12 ?_
     exact stepG_pure rfl rfl (execOp_field rfl (by rw [h15]; exact run_field37_0 _ _ _))
    ·intro A w1 hA hL hS he
     have hb:=hL.below
     have h12 : A.eval (.tmp 12)=_:=he.2.1 rfl
     have h16 : A.eval (.tmp 16)=_:=he.1 rfl
     refine goOn_yes rfl rfl h12 ?_
     exact stepG_pure rfl rfl (execOp_load rfl (by rw [h16]; exact run_loadAt_mid w1 _ _ _ _ _ (cells_ex (hC.on hb)) Tryz.underlying36 rfl (by rw [show (exC t.1).length=4 from rfl]; kernel_rfl)))
    ·intro A w1 hA hL hS he
     have h12 : A.eval (.tmp 12)=_:=he.1 rfl
     have h3 : A.eval (.tmp 3)=.pointer (some ⟨w.heap.size,0,none⟩):=hA 3 rfl
     refine goOn_yes rfl rfl h12 ?_
     exact stepG_pure rfl rfl (execOp_field rfl (by rw [h3]; exact run_field37_0 _ _ _))
    ·intro A w1 hA hL hS he
     have hb:=hL.below
     have h12 : A.eval (.tmp 12)=_:=he.2.1 rfl
     have h18 : A.eval (.tmp 18)=_:=he.1 rfl
     refine goOn_yes rfl rfl h12 ?_
     exact stepG_pure rfl rfl (execOp_load rfl (by rw [h18]; exact run_loadAt_mid w1 _ _ _ _ _ (blk_ex (BB.on hb)) Tryz.underlying36 rfl (by rw [show (exC e).length=4 from rfl]; kernel_rfl)))
    ·intro A w1 hA hL hS he
     have hb:=hS rfl
     have h12 : A.eval (.tmp 12)=_:=he.2.2.1 rfl
     have h17 : A.eval (.tmp 17)=_:=he.1 rfl
     have h19 : A.eval (.tmp 19)=_:=he.2.1 rfl
     have hf0 : A.eval (.func 68)=.func (.func 68) #[] #[]:=rfl
     refine goOn_yes rfl rfl h12 ?_
     refine stepG_call (f:=68) (args:=#[.agg (exC t.1).toArray,.agg (exC e).toArray]) rfl rfl ?_ ?_
     ·generalize A.eval=ev at *
      go_simp
     ·refine (greater_any t.1 e _).mono ?_
      rintro e w' ⟨rfl,hb'⟩
      exact ⟨_,rfl,hb',rfl⟩
    ·exact fun A w1 hA hL hS he=>goOn_plain rfl (stepG_pk rfl (he.1 rfl) rfl (he.2.1 rfl))
    ·intro W2 hL2
     simp only [TailL,FactL.eq,FactL.ret,List.length_cons,List.length_nil,List.drop_succ_cons,List.drop_zero]
     go_frame
     go_wp2
     go_meet
     case rel=>exact ⟨by rw [hgd],hL2.below⟩
   ·rw [List.getElem?_eq_none (by omega)] at hgd
    obtain rfl : k=p.length:=by omega
    refine wp_region_L mixed (none) (0) (Okr.none) [.eq (.int .i64 p.length),.eq (.slice ap p.length cp),.eq (.int .i64 p.length),.eq (.bool false),.eq (.bool false),.eq undef,.eq undef,.eq undef,.eq undef,.eq undef,.eq undef,.eq undef,.eq undef,.eq (.bool false)] [8,9,10,11,12,13,14,15,16,17,18,19,20,21] rfl rfl rfl rfl ⟨?_,?_,?_,?_,?_,?_,?_,?_,?_,?_,?_,?_,?_,?_,trivial⟩ ?_
    ·exact fun A w1 hA hL hS he=>goOn_plain rfl (stepG_mv rfl rfl (hA 5 rfl))
    ·exact fun A w1 hA hL hS he=>goOn_plain rfl (stepG_mv rfl rfl (hA 0 rfl))
    ·intro A w1 hA hL hS he
     have h9 : A.eval (.tmp 9)=_:=he.1 rfl
     refine goOn_plain rfl (stepG_pure rfl rfl ?_)
     generalize A.eval=ev at *
     go_simp
    ·intro A w1 hA hL hS he
     have h8 : A.eval (.tmp 8)=_:=he.1 rfl
     have h10 : A.eval (.tmp 10)=_:=he.2.1 rfl
     refine goOn_plain rfl (stepG_pure rfl rfl ?_)
     generalize A.eval=ev at *
     go_simp
    ·exact fun A w1 hA hL hS he=>goOn_plain rfl (stepG_mv rfl rfl (he.1 rfl))
    ·exact fun A w1 hA hL hS he=>goOn_no (x:=false) rfl rfl (he.1 rfl) rfl rfl
    ·exact fun A w1 hA hL hS he=>goOn_no (x:=false) rfl rfl (he.1 rfl) rfl rfl
    ·exact fun A w1 hA hL hS he=>goOn_no (x:=false) rfl rfl (he.2.2.1 rfl) rfl rfl
    ·exact fun A w1 hA hL hS he=>goOn_no (x:=false) rfl rfl (he.2.1 rfl) rfl rfl
    ·exact fun A w1 hA hL hS he=>goOn_no (x:=false) rfl rfl (he.2.1 rfl) rfl rfl
    ·exact fun A w1 hA hL hS he=>goOn_no (x:=false) rfl rfl (he.1 rfl) rfl rfl
    ·exact fun A w1 hA hL hS he=>goOn_no (x:=false) rfl rfl (he.2.1 rfl) rfl rfl
    ·exact fun A w1 hA hL hS he=>goOn_no (x:=false) rfl rfl (he.2.2.1 rfl) rfl rfl
    ·exact fun A w1 hA hL hS he=>goOn_plain rfl (stepG_pk rfl (he.1 rfl) rfl rfl)
    ·intro W2 hL2
     simp only [TailL,FactL.eq,FactL.ret,List.length_cons,List.length_nil,List.drop_succ_cons,List.drop_zero]
     go_frame
     go_wp2
     go_meet
     case rel=>exact ⟨by rw [hgd],hL2.below⟩
  case rest =>
   obtain ⟨rfl,hbc⟩:=hcut
   replace hbr:=hbr.trans (hbc.mono hbr.size)
   replace BB:=BB.on hbc
   replace hr:=hr.on hbr
   clear hB hbc
   have hgt : g=true → k < p.length ∧ ∀ t ∈ p.take (k + 1),t.1.gt e=true:=fun h=>by
    rw [h] at hgd
    split at hgd
    ·rename_i t ht
     have hkl:=(List.getElem?_eq_some_iff.1 ht).1
     refine ⟨hkl,fun s hs=>?_⟩
     rw [List.take_add_one,ht] at hs
     rcases List.mem_append.1 hs with hs | hs
     ·exact hpre.out s hs
     ·simp at hs; subst hs; exact hgd.symm
    ·cases hgd
   have hgf : g=false → ∀ t rest,p.drop k=t :: rest → t.1.gt e=false:=fun h t rest hd=>by
    have ht:=(drop_cons' hd).2.1
    rw [h,ht] at hgd
    exact hgd.symm
   replace hgt:=Lib.hid hgt
   replace hgf:=Lib.hid hgf
   clear hgd
   cases g
   ·have hins:=ins_skip (m:=(e,q)) (k:=k) (p:=p) hpre.out
    replace hins:=Lib.hid hins
    clear hpre hgt
    have hP:=hp.on hbr
    have hPt:=hP.take k hk
    have hPd:=hp.drop k
    change IsPoly w (.slice (if cp=k then ap else ap.map (·.add (k * 8))) _ _) _ at hPd
    have hsli:=fun W' : World=>run_slice_high (P:=Tryz.prog) Tryz.underlying27 info37 W' ap p.length cp k .i64 (k : Int) rfl (by omega)
    have hslo:=fun W' : World=>run_slice_low (P:=Tryz.prog) Tryz.underlying27 info37 W' ap p.length cp k .i64 (k : Int) rfl hk hcp
    obtain ⟨vr,hvr⟩ : ∃ vr : Value,vr=.slice (if cp=k then ap else ap.map (·.add (k * 8))) (p.length - k) (cp - k):=⟨_,rfl⟩
    rw [← hvr] at hslo hPd
    have hba : Below wc.heap.size wc (wc.alloc (.cells #[] monoT)):=(Below.refl _ _).alloc (Nat.le_refl _) _
    have hlk : ([] : List Trm).length + (p.take k).length ≤ 1000000000:=by simp; omega
    have hPta:=hPt.on hba
    have hmb : w.heap.size < wc.heap.size:=BB.lt
    replace hvr:=Lib.hid hvr
    go_upto_region 5 with (first
     | (at_builtin; refine wpList_app rfl _ _ 27 rfl Tryz.underlying27 info_elTerm rfl rfl (own_lit0 elTerm wc) hPta hlk hba.size ?_; intro v6 w6 hown6 hl6 hv6))
    rw [List.nil_append] at hown6
    have hb6 : Below wc.heap.size wc w6:=hba.trans (hl6.belowAt hba.size (fun k hk=>by cases hk; exact Nat.le_refl _))
    have BB6:=BB.on hb6
    have hP6:=hPd
    replace hr:=hr.on hb6
    replace hbr:=hbr.trans (hb6.mono hbr.size)
    clear hP hPt hPta hPd hl6 hv6 hba hlk BB hsli
    go_upto_region 6 with (fail)
    clear hslo
    have hqs : ∀ t ∈ p.drop k,Rs t.2:=fun t ht=>hkp.out t (List.mem_of_mem_drop ht)
    have hdl : (p.drop k).length ≤ p.length:=by simp
    generalize wc.heap.size=base at *
    obtain ⟨ar,cr,hsh,hcr⟩:=hP6.shape
    subst hsh
    generalize p.drop k=P at *
    obtain ⟨g2,hg2⟩ : ∃ g : Bool,g=(match P with | t :: _=>decide (t.1=e) | []=>false):=⟨_,rfl⟩
    go_cut [32,33,34,35,36,37,38,39,40,41,42,43] (fun _ _ _ _ _ _ _ _ _ _ _ v43 wc=>v43=.bool g2 ∧ Below w6.heap.size w6 wc)
    case first =>
     cases P with
     | nil =>
      simp only [List.length_nil]
      refine wp_region_L mixed (none) (0) (Okr.none) [.eq (.slice ar 0 cr),.eq (.int .i64 0),.eq (.bool false),.eq (.bool false),.eq undef,.eq undef,.eq undef,.eq undef,.eq undef,.eq undef,.eq undef,.eq (.bool false)] [32,33,34,35,36,37,38,39,40,41,42,43] rfl rfl rfl rfl ⟨?_,?_,?_,?_,?_,?_,?_,?_,?_,?_,?_,?_,trivial⟩ ?_
      ·exact fun A w1 hA hL hS he=>goOn_plain rfl (stepG_mv rfl rfl (hA 7 rfl))
      ·intro A w1 hA hL hS he
       have h32 : A.eval (.tmp 32)=_:=he.1 rfl
       refine goOn_plain rfl (stepG_pure rfl rfl ?_)
       generalize A.eval=ev at *
       go_simp
      ·intro A w1 hA hL hS he
       have h33 : A.eval (.tmp 33)=_:=he.1 rfl
       have hc0 : A.eval (.const (.int .i64 0))=.int .i64 0:=rfl
       refine goOn_plain rfl (stepG_pure rfl rfl ?_)
       generalize A.eval=ev at *
       go_simp
      ·exact fun A w1 hA hL hS he=>goOn_plain rfl (stepG_mv rfl rfl (he.1 rfl))
      ·exact fun A w1 hA hL hS he=>goOn_no (x:=false) rfl rfl (he.1 rfl) rfl rfl
      ·exact fun A w1 hA hL hS he=>goOn_no (x:=false) rfl rfl (he.2.1 rfl) rfl rfl
      ·exact fun A w1 hA hL hS he=>goOn_no (x:=false) rfl rfl (he.2.1 rfl) rfl rfl
      ·exact fun A w1 hA hL hS he=>goOn_no (x:=false) rfl rfl (he.2.1 rfl) rfl rfl
      ·exact fun A w1 hA hL hS he=>goOn_no (x:=false) rfl rfl (he.1 rfl) rfl rfl
      ·exact fun A w1 hA hL hS he=>goOn_no (x:=false) rfl rfl (he.2.1 rfl) rfl rfl
      ·exact fun A w1 hA hL hS he=>goOn_no (x:=false) rfl rfl (he.2.2.1 rfl) rfl rfl
      ·exact fun A w1 hA hL hS he=>goOn_plain rfl (stepG_pk rfl (he.1 rfl) rfl rfl)
      ·intro W2 hL2
       simp only [TailL,FactL.eq,FactL.ret,List.length_cons,List.length_nil,List.drop_succ_cons,List.drop_zero]
       go_frame
       go_wp2
       go_meet
       case rel=>exact ⟨by rw [hg2],hL2.below⟩
     | cons t P2 =>
      obtain ⟨bp,op,csp,rfl,-,hE,hC⟩:=hP6.get (j:=0) (t:=t) rfl
      obtain ⟨rt,rfl,hrt⟩:=hE
      change Cells monoT w bp (op + 0 * 8) _ at hC
      simp only [List.length_cons] at hg2 ⊢
      have heq:=fun W'=>eq_ex t.1 e W'
      refine wp_region_L mixed (none) (0) (Okr.none) [.eq (.slice (some ⟨bp,op,none⟩) (P2.length + 1) cr),.eq (.int .i64 (P2.length + 1 : Nat)),.eq (.bool true),.eq (.bool true),.eq (.slice (some ⟨bp,op,none⟩) (P2.length + 1) cr),.eq (.pointer (some ⟨bp,op + 0 * 8,none⟩)),.eq (.pointer (some ⟨bp,op + 0 * 8,none⟩)),.eq (.agg (exC t.1).toArray),.eq (.pointer (some ⟨w.heap.size,0,none⟩)),.eq (.agg (exC e).toArray),.eq (.bool (decide (t.1=e))),.eq (.bool (decide (t.1=e)))] [32,33,34,35,36,37,38,39,40,41,42,43] rfl rfl rfl rfl ⟨?_,?_,?_,?_,?_,?_,?_,?_,?_,?_,?_,?_,trivial⟩ ?_
      ·exact fun A w1 hA hL hS he=>goOn_plain rfl (stepG_mv rfl rfl (hA 7 rfl))
      ·intro A w1 hA hL hS he
       have h32 : A.eval (.tmp 32)=_:=he.1 rfl
       refine goOn_plain rfl (stepG_pure rfl rfl ?_)
       generalize A.eval=ev at *
       go_simp
      ·intro A w1 hA hL hS he
       have h33 : A.eval (.tmp 33)=_:=he.1 rfl
       have hc0 : A.eval (.const (.int .i64 0))=.int .i64 0:=rfl
       refine goOn_plain rfl (stepG_pure rfl rfl ?_)
       generalize A.eval=ev at *
       go_simp
      ·exact fun A w1 hA hL hS he=>goOn_plain rfl (stepG_mv rfl rfl (he.1 rfl))
      ·exact fun A w1 hA hL hS he=>goOn_yes rfl rfl (he.1 rfl) (stepG_mv rfl rfl (hA 7 rfl))
      ·intro A w1 hA hL hS he
       have h35 : A.eval (.tmp 35)=_:=he.2.1 rfl
       have h36 : A.eval (.tmp 36)=_:=he.1 rfl
       have hc0 : A.eval (.const (.int .i64 0))=.int .i64 0:=rfl
       refine goOn_yes rfl rfl h35 ?_
       exact stepG_pure rfl rfl (execOp_index rfl (by rw [h36,show A.eval (.const (.int .i64 0))=(.int .i64 0) from rfl]; exact run_index Tryz.underlying27 (by kernel_rfl) w1 bp op _ _ 0 .i64 _ (by first | rfl | simp | omega) (by omega)))
      ·intro A w1 hA hL hS he
       have h35 : A.eval (.tmp 35)=_:=he.2.1 rfl
       have h37 : A.eval (.tmp 37)=_:=he.1 rfl
       refine goOn_yes rfl rfl h35 ?_
       exact stepG_pure rfl rfl (execOp_field rfl (by rw [h37]; exact run_field37_0 _ _ _))
      ·intro A w1 hA hL hS he
       have hb:=hL.below
       have h35 : A.eval (.tmp 35)=_:=he.2.1 rfl
       have h38 : A.eval (.tmp 38)=_:=he.1 rfl
       refine goOn_yes rfl rfl h35 ?_
       exact stepG_pure rfl rfl (execOp_load rfl (by rw [h38]; exact run_loadAt_mid w1 _ _ _ _ _ (cells_ex (hC.on (hbr.trans (hb.mono hbr.size)))) Tryz.underlying36 rfl (by rw [show (exC t.1).length=4 from rfl]; kernel_rfl)))
      ·intro A w1 hA hL hS he
       have h35 : A.eval (.tmp 35)=_:=he.1 rfl
       have h3 : A.eval (.tmp 3)=.pointer (some ⟨w.heap.size,0,none⟩):=hA 3 rfl
       refine goOn_yes rfl rfl h35 ?_
       exact stepG_pure rfl rfl (execOp_field rfl (by rw [h3]; exact run_field37_0 _ _ _))
      ·intro A w1 hA hL hS he
       have hb:=hL.below
       have h35 : A.eval (.tmp 35)=_:=he.2.1 rfl
       have h40 : A.eval (.tmp 40)=_:=he.1 rfl
       refine goOn_yes rfl rfl h35 ?_
       exact stepG_pure rfl rfl (execOp_load rfl (by rw [h40]; exact run_loadAt_mid w1 _ _ _ _ _ (blk_ex (BB6.on hb)) Tryz.underlying36 rfl (by rw [show (exC e).length=4 from rfl]; kernel_rfl)))
      ·intro A w1 hA hL hS he
       have h35 : A.eval (.tmp 35)=_:=he.2.2.1 rfl
       have h39 : A.eval (.tmp 39)=_:=he.1 rfl
       have h41 : A.eval (.tmp 41)=_:=he.2.1 rfl
       refine goOn_yes rfl rfl h35 ?_
       refine stepG_pure rfl rfl ?_
       generalize A.eval=ev at *
       go_simp
      ·exact fun A w1 hA hL hS he=>goOn_plain rfl (stepG_pk rfl (he.1 rfl) rfl (he.2.1 rfl))
      ·intro W2 hL2
       simp only [TailL,FactL.eq,FactL.ret,List.length_cons,List.length_nil,List.drop_succ_cons,List.drop_zero]
       go_frame
       go_wp2
       go_meet
       case rel=>exact ⟨by rw [hg2],hL2.below⟩
    case rest =>
     obtain ⟨rfl,hbc⟩:=hcut
     replace hbr:=hbr.trans (hbc.mono hbr.size)
     replace BB6:=BB6.on hbc
     replace hown6:=hown6.on hbc
     replace hr:=hr.on hbc
     clear hbc
     have hlt6:=BB6.lt
     have hblk:=hown6.base_le
     go_upto_if 43 with (fail)
     go_cut [7] (fun v7 wc=>∃ (c : Rat) (r' : List Value) (rest : List Trm),Hid (Blk wc w.heap.size monoT (exC e ++ r')) ∧ Hid (IsRatC wc r' c) ∧ Hid (IsPoly w v7 rest) ∧ Hid (OwnPoly base wc v6 (p.take k)) ∧ Hid (RES=p.take k ++ insT (e,c) rest) ∧ Below w.heap.size w wc ∧ rest.length ≤ p.length)
     case first =>
      cases g2
      ·go_wp2
       go_meet
       case rel =>
        refine ⟨q,r,P,Lib.hid BB6,Lib.hid hr,Lib.hid hP6,Lib.hid hown6,Lib.hid ?_,hbr,hdl⟩
        rw [hRES.out,hins.out]
        cases P with
        | nil=>rw [ins_nil']
        | cons t P2 =>
         have h1:=hgf.out rfl t P2 rfl
         have h2 : t.1 ≠ e:=of_decide_eq_false hg2.symm
         rw [ins_ne' h1 h2]
      ·obtain ⟨t,P2,rfl⟩ : ∃ t P2,P=t :: P2:=by
        cases P with
        | nil=>cases hg2
        | cons t P2=>exact ⟨t,P2,rfl⟩
       have hte : t.1=e:=of_decide_eq_true hg2.symm
       have hkt : Rs t.2:=hqs t (by simp)
       obtain ⟨bp,op,csp,rfl,-,hE,hC⟩:=hP6.get (j:=0) (t:=t) rfl
       obtain ⟨rt,rfl,hrt⟩:=hE
       change Cells monoT w bp (op + 0 * 8) _ at hC
       have hPb:=hP6.drop 1
       rw [List.drop_succ_cons,List.drop_zero] at hPb
       change IsPoly w (.slice (if cr=1 then some ⟨bp,op,none⟩ else (some ⟨bp,op,none⟩ : Option Addr).map (·.add (1 * 8))) _ _) _ at hPb
       simp only [List.length_cons] at hPb hcr hdl ⊢
       have hl48:=hrt.len
       clear hg2 hqs hgf
       replace hte:=Lib.hid hte
       replace hblk:=Lib.hid hblk
       have hlow:=fun W' : World=>run_slice_low (P:=Tryz.prog) Tryz.underlying27 info37 W' (some ⟨bp,op,none⟩) (P2.length + 1) cr 1 .i64 (1 : Int) rfl (by omega) hcr
       obtain ⟨vz,hvz⟩ : ∃ vz : Value,vz=.slice (if cr=1 then some ⟨bp,op,none⟩ else (some ⟨bp,op,none⟩ : Option Addr).map (·.add (1 * 8))) (P2.length + 1 - 1) (cr - 1):=⟨_,rfl⟩
       rw [← hvz] at hlow hPb
       replace hvz:=Lib.hid hvz
       replace hlow:=Lib.hid hlow
       go_upto_region 7 with (fail)
       refine wp_region_L mixed (none) (0) (Okr.none) [.eq (.pointer (some ⟨w.heap.size,0 + 4,none⟩)),.eq (.agg (r).toArray),.eq (.slice (some ⟨bp,op,none⟩) (P2.length + 1) cr),.eq (.pointer (some ⟨bp,op + 0 * 8,none⟩)),.eq (.pointer (some ⟨bp,op + 0 * 8 + 4,none⟩)),.eq (.agg (rt).toArray),.rat (by decide) ((q + t.2)),.eq (.pointer (some ⟨w.heap.size,0 + 4,none⟩))] [44,45,46,47,48,49,50,51] rfl rfl rfl rfl ⟨?_,?_,?_,?_,?_,?_,?_,?_,trivial⟩ ?_
       ·intro A w1 hA hL hS he
        have h3 : A.eval (.tmp 3)=.pointer (some ⟨w.heap.size,0,none⟩):=hA 3 rfl
        refine goOn_plain rfl ?_
        exact stepG_pure rfl rfl (execOp_field rfl (by rw [h3]; exact run_field37_1 _ _ _))
       ·intro A w1 hA hL hS he
        have hb:=hL.below
        have h44 : A.eval (.tmp 44)=_:=he.1 rfl
        refine goOn_plain rfl ?_
        exact stepG_pure rfl rfl (execOp_load rfl (by rw [h44]; exact run_loadAt_mid w1 _ _ _ _ _ (blk_rat (BB6.on hb)) Tryz.underlying41 rfl (by rw [h4]; kernel_rfl)))
       ·exact fun A w1 hA hL hS he=>goOn_plain rfl (stepG_mv rfl rfl (hA 7 rfl))
       ·intro A w1 hA hL hS he
        have h46 : A.eval (.tmp 46)=_:=he.1 rfl
        have hc0 : A.eval (.const (.int .i64 0))=.int .i64 0:=rfl
        refine goOn_plain rfl ?_
        exact stepG_pure rfl rfl (execOp_index rfl (by rw [h46,show A.eval (.const (.int .i64 0))=(.int .i64 0) from rfl]; exact run_index Tryz.underlying27 (by kernel_rfl) w1 bp op _ _ 0 .i64 _ (by first | rfl | simp | omega) (by omega)))
       ·intro A w1 hA hL hS he
        have h47 : A.eval (.tmp 47)=_:=he.1 rfl
        refine goOn_plain rfl ?_
        exact stepG_pure rfl rfl (execOp_field rfl (by rw [h47]; exact run_field37_1 _ _ _))
       ·intro A w1 hA hL hS he
        have hb:=hL.below
        have h48 : A.eval (.tmp 48)=_:=he.1 rfl
        refine goOn_plain rfl ?_
        exact stepG_pure rfl rfl (execOp_load rfl (by rw [h48]; exact run_loadAt_mid w1 _ _ _ _ _ (cells_rat (hC.on (hbr.trans (hb.mono hbr.size)))) Tryz.underlying41 rfl (by rw [hl48]; kernel_rfl)))
       ·intro A w1 hA hL hS he
        have hb:=hS rfl
        have h45 : A.eval (.tmp 45)=_:=he.1 rfl
        have h49 : A.eval (.tmp 49)=_:=he.2.1 rfl
        have hf0 : A.eval (.func 81)=.func (.func 81) #[] #[]:=rfl
        refine goOn_plain rfl ?_
        refine stepG_call (f:=81) (args:=#[.agg (r).toArray,.agg (rt).toArray]) rfl rfl ?_ ?_
        ·generalize A.eval=ev at *
         go_simp
        ·refine (add2_any _ _ _ _ _ (hr.on hb).rat (hrt.on (hbr.trans (hb.mono hbr.size))).rat hkm hkt).mono ?_
         rintro e w' ⟨v,rfl,hi,hb'⟩
         exact ⟨_,rfl,hb',hi⟩
       ·intro A w1 hA hL hS he
        have h3 : A.eval (.tmp 3)=.pointer (some ⟨w.heap.size,0,none⟩):=hA 3 rfl
        refine goOn_plain rfl ?_
        exact stepG_pure rfl rfl (execOp_field rfl (by rw [h3]; exact run_field37_1 _ _ _))
       ·intro W2 hL2
        have hb2:=hL2.below
        simp only [TailL,FactL.eq,FactL.rat,FactL.of,List.length_cons,List.length_nil,List.drop_succ_cons,List.drop_zero]
        rintro v50 h50
        obtain ⟨n5,a5,k5,c5,n6,a6,k6,c6,rfl⟩:=rat_agg h50
        go_frame
        have C6:=BB6.on hb2
        have hown2:=hown6.on hb2
        have hbr2:=hbr.trans (hb2.mono hbr.size)
        have hcl : (exC e ++ r).length=8:=by rw [List.length_append,h4]; rfl
        clear hL2 BB6 hown6 hbr
        go_upto_region 8 with (refine wpList_store_part rfl _ (.tmp 51) (.tmp 50) rfl w.heap.size (0 + 4) monoT _ _ rfl rfl C6 (by rw [hcl]; simp) sizeRat isRat_ones ?_; intro W3 R3 hl3)
        have hR3 : Blk W3 w.heap.size monoT (exC e ++ [.bool n5,.slice a5 k5 c5,.bool n6,.slice a6 k6 c6]):=by
         have e1 : (exC e ++ r).take (0 + 4)=exC e:=rfl
         have e2 : (exC e ++ r).drop (0 + 4 + 4)=[]:=List.drop_of_length_le (by rw [hcl]; omega)
         have:=R3
         simp only [List.size_toArray,List.length_cons,List.length_nil] at this
         rw [e1,e2,List.append_nil] at this
         exact this
        have hne : v6.ownBlock ≠ some w.heap.size:=fun h=>by have:=(hblk.out _ h).1; omega
        replace hlow:=hlow.out
        have hown3:=hown2.lr hl3 (elTerm_ok (by decide)) (.inr hne)
        have h503:=(h50.lr hl3 (by decide)).cellsC
        have hbr3:=hbr2.trans (hl3.belowAt hbr2.size (fun k hk=>by cases hk; exact Nat.le_refl _))
        go_wp2
        go_meet
        case rel =>
         refine ⟨q + t.2,_,P2,Lib.hid hR3,Lib.hid h503,Lib.hid hPb,Lib.hid hown3,Lib.hid ?_,hbr3,by omega⟩
         rw [hRES.out,hins.out,ins_eq' hte.out]
     case rest =>
      clear hg2 BB6 hP6 hown6 hr hbr hRES hins hblk
      obtain ⟨c,r',rest,hB,hr,hrest,hown,hres,hbr,hrl⟩:=hcut
      have BB:=hB.out
      have h4':=hr.out.len
      go_upto_region 9 with (fail)
      have hsg:=fun W (hb : Below wc.heap.size wc W)=>sign2_any _ _ W (hr.out.on hb).rat
      obtain ⟨g3,hg3⟩ : ∃ g : Bool,g=(if c ≠ 0 ∧ e.nat=true then true else false):=⟨_,rfl⟩
      go_cut [54,55,56,57,58,59,60,61,62] (fun _ _ _ _ _ _ _ _ v62 wd=>v62=.bool g3 ∧ Below wc.heap.size wc wd)
      case first =>
       by_cases hc : c=0
       ·rw [if_neg (by simp [hc])] at hg3
        rw [show sgnZ c.num=0 by rw [hc]; rfl] at hsg
        refine wp_region_S trivial (none) (0) (Okr.none) [.eq (.pointer (some ⟨w.heap.size,0 + 4,none⟩)),.eq (.agg (r').toArray),.ret (.int .i64 0),.eq (.bool false),.eq (.bool false),.eq undef,.eq undef,.eq undef,.eq (.bool false)] [54,55,56,57,58,59,60,61,62] rfl rfl rfl rfl ⟨?_,?_,?_,?_,?_,?_,?_,?_,?_,trivial⟩ ?_
        ·intro A w1 hA hL hS he
         have h3 : A.eval (.tmp 3)=.pointer (some ⟨w.heap.size,0,none⟩):=hA 3 rfl
         refine goOn_plain rfl ?_
         exact stepG_pure rfl rfl (execOp_field rfl (by rw [h3]; exact run_field37_1 _ _ _))
        ·intro A w1 hA hL hS he
         have hb:=hL.below
         have h54 : A.eval (.tmp 54)=_:=he.1 rfl
         refine goOn_plain rfl ?_
         exact stepG_pure rfl rfl (execOp_load rfl (by rw [h54]; exact run_loadAt_mid w1 _ _ _ _ _ (blk_rat (BB.on hb)) Tryz.underlying41 rfl (by rw [h4']; kernel_rfl)))
        ·intro A w1 hA hL hS he
         have hb:=hS rfl
         have h55 : A.eval (.tmp 55)=_:=he.1 rfl
         have hf0 : A.eval (.func 67)=.func (.func 67) #[] #[]:=rfl
         refine goOn_plain rfl ?_
         refine stepG_call (f:=67) (args:=#[.agg (r').toArray]) rfl rfl ?_ ?_
         ·generalize A.eval=ev at *
          go_simp
         ·refine (hsg _ hb).mono ?_
          rintro e w' ⟨rfl,hb'⟩
          exact ⟨_,rfl,hb',rfl⟩
        ·intro A w1 hA hL hS he
         have h56 : A.eval (.tmp 56)=_:=he.1 rfl
         have hc0 : A.eval (.const (.int .i64 0))=.int .i64 0:=rfl
         refine goOn_plain rfl (stepG_pure rfl rfl ?_)
         generalize A.eval=ev at *
         go_simp
        ·exact fun A w1 hA hL hS he=>goOn_plain rfl (stepG_mv rfl rfl (he.1 rfl))
        ·exact fun A w1 hA hL hS he=>goOn_no (x:=false) rfl rfl (he.1 rfl) rfl rfl
        ·exact fun A w1 hA hL hS he=>goOn_no (x:=false) rfl rfl (he.2.1 rfl) rfl rfl
        ·exact fun A w1 hA hL hS he=>goOn_no (x:=false) rfl rfl (he.2.1 rfl) rfl rfl
        ·exact fun A w1 hA hL hS he=>goOn_plain rfl (stepG_pk rfl (he.1 rfl) rfl rfl)
        ·intro W2 hL2
         simp only [TailL,FactL.eq,FactL.ret,List.length_cons,List.length_nil,List.drop_succ_cons,List.drop_zero]
         go_frame
         go_wp2
         go_meet
         case rel=>exact ⟨by rw [hg3],hL2.below⟩
       ·have hs0:=sgnZ_ne hc
        generalize sgnZ c.num=sg at hs0 hsg
        have hs1 : (sg != 0)=true:=by simpa using hs0
        have hg4 : g3=e.nat:=by rw [hg3]; cases e.nat <;> simp [hc]
        refine wp_region_S trivial (none) (0) (Okr.none) [.eq (.pointer (some ⟨w.heap.size,0 + 4,none⟩)),.eq (.agg (r').toArray),.ret (.int .i64 sg),.eq (.bool true),.eq (.bool true),.eq (.pointer (some ⟨w.heap.size,0,none⟩)),.eq (.agg (exC e).toArray),.ret (.bool e.nat),.eq (.bool e.nat)] [54,55,56,57,58,59,60,61,62] rfl rfl rfl rfl ⟨?_,?_,?_,?_,?_,?_,?_,?_,?_,trivial⟩ ?_
        ·intro A w1 hA hL hS he
         have h3 : A.eval (.tmp 3)=.pointer (some ⟨w.heap.size,0,none⟩):=hA 3 rfl
         refine goOn_plain rfl ?_
         exact stepG_pure rfl rfl (execOp_field rfl (by rw [h3]; exact run_field37_1 _ _ _))
        ·intro A w1 hA hL hS he
         have hb:=hL.below
         have h54 : A.eval (.tmp 54)=_:=he.1 rfl
         refine goOn_plain rfl ?_
         exact stepG_pure rfl rfl (execOp_load rfl (by rw [h54]; exact run_loadAt_mid w1 _ _ _ _ _ (blk_rat (BB.on hb)) Tryz.underlying41 rfl (by rw [h4']; kernel_rfl)))
        ·intro A w1 hA hL hS he
         have hb:=hS rfl
         have h55 : A.eval (.tmp 55)=_:=he.1 rfl
         have hf0 : A.eval (.func 67)=.func (.func 67) #[] #[]:=rfl
         refine goOn_plain rfl ?_
         refine stepG_call (f:=67) (args:=#[.agg (r').toArray]) rfl rfl ?_ ?_
         ·generalize A.eval=ev at *
          go_simp
         ·refine (hsg _ hb).mono ?_
          rintro e w' ⟨rfl,hb'⟩
          exact ⟨_,rfl,hb',rfl⟩
        ·intro A w1 hA hL hS he
         have h56 : A.eval (.tmp 56)=_:=he.1 rfl
         have hc0 : A.eval (.const (.int .i64 0))=.int .i64 0:=rfl
         refine goOn_plain rfl (stepG_pure rfl rfl ?_)
         generalize A.eval=ev at *
         go_simp
        ·exact fun A w1 hA hL hS he=>goOn_plain rfl (stepG_mv rfl rfl (he.1 rfl))
        ·intro A w1 hA hL hS he
         have h58 : A.eval (.tmp 58)=_:=he.1 rfl
         have h3 : A.eval (.tmp 3)=.pointer (some ⟨w.heap.size,0,none⟩):=hA 3 rfl
         refine goOn_yes rfl rfl h58 ?_
         exact stepG_pure rfl rfl (execOp_field rfl (by rw [h3]; exact run_field37_0 _ _ _))
        ·intro A w1 hA hL hS he
         have hb:=hL.below
         have h58 : A.eval (.tmp 58)=_:=he.2.1 rfl
         have h59 : A.eval (.tmp 59)=_:=he.1 rfl
         refine goOn_yes rfl rfl h58 ?_
         exact stepG_pure rfl rfl (execOp_load rfl (by rw [h59]; exact run_loadAt_mid w1 _ _ _ _ _ (blk_ex (BB.on hb)) Tryz.underlying36 rfl (by rw [show (exC e).length=4 from rfl]; kernel_rfl)))
        ·intro A w1 hA hL hS he
         have hb:=hS rfl
         have h58 : A.eval (.tmp 58)=_:=he.2.1 rfl
         have h60 : A.eval (.tmp 60)=_:=he.1 rfl
         have hf0 : A.eval (.func 65)=.func (.func 65) #[] #[]:=rfl
         refine goOn_yes rfl rfl h58 ?_
         refine stepG_call (f:=65) (args:=#[.agg (exC e).toArray]) rfl rfl ?_ ?_
         ·generalize A.eval=ev at *
          go_simp
         ·refine (natural7_any e _).mono ?_
          rintro e w' ⟨rfl,hb'⟩
          exact ⟨_,rfl,hb',rfl⟩
        ·exact fun A w1 hA hL hS he=>goOn_plain rfl (stepG_pk rfl (he.1 rfl) rfl (he.2.1 rfl))
        ·intro W2 hL2
         simp only [TailL,FactL.eq,FactL.ret,List.length_cons,List.length_nil,List.drop_succ_cons,List.drop_zero]
         go_frame
         go_wp2
         go_meet
         case rel=>exact ⟨by rw [hg4],hL2.below⟩
      case rest =>
       obtain ⟨rfl,hbc⟩:=hcut
       clear hsg
       replace BB:=BB.on hbc
       replace hr:=hr.out.on hbc
       replace hrest:=hrest.out
       replace hown:=hown.out.on hbc
       replace hbr:=hbr.trans (hbc.mono hbr.size)
       clear hbc hB
       have hbase : ∀ k,v6.ownBlock=some k → w.heap.size ≤ k:=fun k hk=>by have:=(hown.base_le k hk).1; omega
       have hbl : base ≤ wc.heap.size ∨ v6.ownBlock=none:=by
        cases hv : v6.ownBlock with
        | none=>exact .inr rfl
        | some k=>have:=hown.base_le k hv; exact .inl (by omega)
       have htl : (p.take k).length ≤ p.length:=by simp; omega
       have hne' : some w.heap.size ≠ v6.ownBlock:=fun h=>by have:=(hown.base_le _ h.symm).1; omega
       cases g3
       ·have hi : insT (e,c) rest=rest:=by
         unfold insT
         split
         ·rename_i h; rw [if_pos h] at hg3; cases hg3
         ·rfl
        rw [hi] at hres
        clear hi hg3
        have hrw:=hrest.on hbr
        have hlen : (p.take k).length + rest.length ≤ 1000000000:=by omega
        go_wp2_with (at_builtin; refine wpList_app rfl _ _ 27 rfl Tryz.underlying27 info_elTerm rfl rfl (hown.rebase) hrw hlen (Nat.zero_le _) ?_; intro v8 w8 hown8 hl8 hv8)
        go_ret
        exact ⟨_,rfl,by rw [hres.out]; exact hown8.isSl,hbr.trans (hl8.belowAt hbr.size hbase)⟩
       ·have hi : insT (e,c) rest=(e,c) :: rest:=by
         unfold insT
         split
         ·rfl
         ·rename_i h; rw [if_neg h] at hg3; cases hg3
        rw [hi] at hres
        clear hi hg3
        have h8 : (exC e ++ r').length=8:=by rw [List.length_append,h4']; rfl
        have hown0:=hown.rebase
        go_upto_region 10 with (fail)
        refine wp_region_S trivial (v6.ownBlock) (monoT) (hown.okr) [.eq (v6),.eq (.agg (exC e ++ r').toArray),.new1 elTerm elTerm_okT ((e,c)),.row elTerm (0) wc.heap.size (p.take k ++ [(e,c)])] [63,64,65,66] rfl rfl rfl rfl ⟨?_,?_,?_,?_,trivial⟩ ?_
        ·exact fun A w1 hA hL hS he=>goOn_plain rfl (stepG_mv rfl rfl (hA 6 rfl))
        ·intro A w1 hA hL hS he
         have h3 : A.eval (.tmp 3)=.pointer (some ⟨w.heap.size,0,none⟩):=hA 3 rfl
         refine goOn_plain rfl ?_
         exact stepG_pure rfl rfl (execOp_load rfl (by rw [h3]; exact run_loadAt_mid w1 _ _ _ _ _ ((BB.lr hL hne').cells.range) Tryz.underlying43 rfl (by rw [h8]; kernel_rfl)))
        ·intro A w1 hA hL hS he
         have h64 : A.eval (.tmp 64)=_:=he.1 rfl
         refine goOn_plain rfl ?_
         have hE : (elTerm : El _).E w1 _ ((e,c)):=⟨_,rfl,hr.lr hL (by decide)⟩
         refine stepG_new1 rfl rfl ((hown.okr).lr hL) hE (execOp_buildSlice rfl ?_) (fun _ _ h=>h)
         simp only [List.map_toArray,List.map_cons,List.map_nil,h64]
         exact run_new1_elTermP _ _ ((elTerm).len hE)
        ·intro A w1 hA hL hS he
         have hb:=hS rfl
         have h63 : A.eval (.tmp 63)=_:=he.1 rfl
         have f65 : ((.new1 elTerm elTerm_okT ((e,c)) : FactL (Lr (v6.ownBlock) (monoT)))).p (A.eval (.tmp 65)) w1:=he.2.1 rfl
         obtain ⟨v65,h65⟩ : ∃ v,A.eval (.tmp 65)=v:=⟨_,rfl⟩
         rw [h65] at f65
         refine goOn_plain rfl ?_
         exact stepG_append rfl rfl rfl Tryz.underlying27 info_elTerm h63 h65 (hown0.on hb) rfl rfl (isSl_of_new f65) (by simp only [List.length_cons,List.length_nil]; omega) (Nat.zero_le _) hL.1.size (fun _ _ h1 h2=>⟨h1,h2⟩)
        ·intro W6 hL6
         simp only [TailL,FactL.eq,FactL.new1,FactL.row,FactL.asPure,FactL.of,FactL.fragile,List.length_cons,List.length_nil,List.drop_succ_cons,List.drop_zero]
         rintro v65 - v66 ⟨hown6,hnew⟩
         go_frame
         have hbW6:=hbr.trans (hL6.belowAt hbr.size hbase)
         have hrw:=hrest.on hbW6
         have hlen : (p.take k ++ [(e,c)]).length + rest.length ≤ 1000000000:=by simp only [List.length_append,List.length_cons,List.length_nil]; omega
         have hwd : w.heap.size ≤ wc.heap.size:=hbr.size
         have hbase6 : ∀ k,v66.ownBlock=some k → w.heap.size ≤ k:=fun k hk=>by
          rcases hnew with h | ⟨k',h,hk'⟩
          ·exact hbase k (by rw [← h]; exact hk)
          ·rw [h] at hk; cases hk; omega
         go_wp2_with (at_builtin; refine wpList_app rfl _ _ 27 rfl Tryz.underlying27 info_elTerm rfl rfl hown6 hrw hlen (Nat.zero_le _) ?_; intro v8 w8 hown8 hl8 hv8)
         go_ret
         exact ⟨_,rfl,by rw [hres.out]; simpa using hown8.isSl,hbW6.trans (hl8.belowAt hbW6.size hbase6)⟩
   ·obtain ⟨hkl,hpre'⟩:=hgt.out rfl
    clear hgf
    go_wp2
    go_roundw
    case rel=>exact ⟨k + 1,by omega,by go_num,Lib.hid hpre',hbr,Lib.hid BB⟩
    case measure=>simp [intOf]; omega
end Go.Proofs.YtopclbeomcggiaaGreat
end
section
namespace Q
theorem rabs_int (k : Int) : rabs (k : Rat)=(k.natAbs : Rat):=by
 unfold rabs
 rcases Int.lt_or_le k 0 with h | h
 ·rw [if_pos (by rw [show (0 : Rat)=((0 : Int) : Rat) from rfl]; exact Rat.intCast_lt_intCast.2 h)]
  rw [← Rat.intCast_neg,← Rat.intCast_natCast]; congr 1; omega
 ·rw [if_neg (by rw [show (0 : Rat)=((0 : Int) : Rat) from rfl]; intro h'; have:=Rat.intCast_lt_intCast.1 h'; omega)]
  rw [← Rat.intCast_natCast]; congr 1; omega
theorem canon_snoc {l : List Trm} {k : Nat} {t : Trm} (h : l[k]?=some t) : canon (l.take (k + 1))=ins (canon (l.take k)) t:=by
 rw [List.take_add_one,h]; simp [canon]
end Q
namespace Go.Proofs.YtopclbeomcggiaaGreat
open Go.RowKit Q
theorem dv_parts {D B : Nat} {c : Rat} (hD : 0 < D) (h : Dv D c) (hB : rabs c ≤ (B : Rat)) : c.den ∣ D ∧ c.num.natAbs ≤ B * D:=by
 obtain ⟨k,hk⟩:=h
 have hD0 : (D : Rat) ≠ 0:=by
  intro h
  have : D=0:=Rat.natCast_inj.1 (by rw [h]; rfl)
  omega
 have hc : c=Rat.divInt k D:=by
  rw [Rat.divInt_eq_div,Rat.intCast_natCast,← hk]; grind
 obtain ⟨e1,e2⟩:=divInt_pos k D (by omega)
 rw [← hc] at e1 e2
 have hden : c.den ∣ D:=by
  refine Int.natCast_dvd_natCast.1 ⟨(Int.gcd k D : Int),?_⟩
  rw [e2]
  exact (Int.ediv_mul_cancel (Int.gcd_dvd_right _ _)).symm
 refine ⟨hden,?_⟩
 have h1 : rabs c * (D : Rat) ≤ (B : Rat) * (D : Rat):=Rat.mul_le_mul_of_nonneg_right hB Rat.natCast_nonneg
 have h2 : rabs c * (D : Rat)=rabs (k : Rat):=by rw [← hk,rabs_mul,rabs_of_pos (c:=(D : Rat)) Rat.natCast_nonneg]
 rw [h2,rabs_int,← Rat.natCast_mul] at h1
 have h3 : k.natAbs ≤ B * D:=Rat.natCast_le_natCast.1 h1
 have h4 : c.num.natAbs ≤ k.natAbs:=by rw [e1]; exact Int.natAbs_ediv_le_natAbs _ _
 omega
theorem mul_pow_lt {B D a b : Nat} (h : B < 2 ^ a) (h' : D < 2 ^ b) : B * D < 2 ^ (a + b):=by rw [Nat.pow_add]; exact Nat.mul_lt_mul'' h h'
theorem rs_of_dv {s : Sz} {c : Rat} (hs : s.ok) (h : Dv s.D c) (hB : rabs c ≤ (s.B : Rat)) : Rs c:=by
 obtain ⟨h1,h2⟩:=dv_parts hs.1 h hB
 have hd:=Nat.le_of_dvd hs.1 h1
 obtain ⟨p1,p2,p3,p4,p5⟩:=hs
 refine ⟨by omega,?_⟩
 have:=nbits_le (Nat.lt_of_le_of_lt h2 (mul_pow_lt (a:=1000) (b:=16) p3 (show s.D < 2 ^ 16 from p2)))
 omega
end Go.Proofs.YtopclbeomcggiaaGreat
namespace Q
open Go Go.RowKit Q Go.Proofs.YtopclbeomcggiaaGreat
theorem Bd.rs {s : Sz} {l : List Trm} (h : Bd s l) (hs : s.ok) : ∀ t ∈ l,Rs t.2:=fun t ht=>rs_of_dv hs (h.d t ht) (Rat.le_trans (asum_mem ht) h.b)
end Q
namespace Go.Proofs.YtopclbeomcggiaaGreat
open Go.RowKit Q
end Go.Proofs.YtopclbeomcggiaaGreat
namespace Q
open Go Go.RowKit Q Go.Proofs.YtopclbeomcggiaaGreat
theorem Bd.inR {s : Sz} {l : List Trm} (h : Bd s l) (hs : s.ok) : ∀ t ∈ l,InR t.1:=fun t ht=>InR.of (K:=s.E) (by have:=hs.2.2.2.1; omega) (h.e t ht)
end Q
namespace Go.Proofs.YtopclbeomcggiaaGreat
open Go.RowKit Q
end Go.Proofs.YtopclbeomcggiaaGreat
namespace Q
open Go Go.RowKit Q Go.Proofs.YtopclbeomcggiaaGreat
theorem Bd.len {s : Sz} {l : List Trm} (h : Bd s l) (hs : s.ok) : l.length ≤ 1000000:=by have:=h.n; have:=hs.2.2.2.2; omega
end Q
namespace Go.Proofs.YtopclbeomcggiaaGreat
open Go.RowKit Q
end Go.Proofs.YtopclbeomcggiaaGreat
namespace Q
open Go Go.RowKit Q Go.Proofs.YtopclbeomcggiaaGreat
theorem Bd.take {s : Sz} {l : List Trm} (h : Bd s l) (k : Nat) : Bd s (l.take k):=h.sub (List.take_sublist _ _)
end Q
namespace Go.Proofs.YtopclbeomcggiaaGreat
open Go.RowKit Q
theorem bd_cf_dv {s : Sz} : ∀ {l : List Trm},(∀ t ∈ l,Dv s.D t.2) → ∀ e,Dv s.D (cf l e) ∧ rabs (cf l e) ≤ asum l
 | [],_,e=>⟨by rw [cf_nil]; exact Dv.zero _,by rw [cf_nil]; simp only [asum,rabs]; split <;> grind⟩
 | t :: l,h,e=>by
  obtain ⟨h1,h2⟩:=bd_cf_dv (s:=s) (l:=l) (fun t ht=>h t (by simp [ht])) e
  rw [cf_cons]
  have h3:=h t (by simp)
  have h4:=rabs_nonneg t.2
  split
  ·refine ⟨h3.add h1,?_⟩
   have:=rabs_add t.2 (cf l e)
   simp only [asum]; grind
  ·have e0 : 0 + cf l e=cf l e:=by grind
   rw [e0]
   refine ⟨h1,?_⟩
   simp only [asum]; grind
end Go.Proofs.YtopclbeomcggiaaGreat
namespace Q
open Go Go.RowKit Q Go.Proofs.YtopclbeomcggiaaGreat
theorem Bd.okl {s : Sz} {l : List Trm} (h : Bd s l) (hs : s.ok) : Okl l where
 n:=h.len hs
 r:=fun t ht=>⟨h.inR hs t ht,(h.rs hs t ht).rk⟩
 c:=fun k e=>by
  obtain ⟨h1,h2⟩:=bd_cf_dv (s:=s) (h.take k).d e
  exact (rs_of_dv hs h1 (Rat.le_trans h2 (h.take k).b)).rk
end Q
namespace Go.Proofs.YtopclbeomcggiaaGreat
open Go.RowKit Q
set_option maxHeartbeats 1000000 in
set_option maxRecDepth 100000 in
theorem make7_any (v : Value) (l : List Trm) (s : Sz) (w : World) (h : IsPoly w v l) (hb : Bd s l) (hs : s.ok) : Calls Tryz.prog 43 #[v] w (RetPoly w (canon l)):=by
 obtain ⟨ap,cp,rfl,hcp⟩:=h.shape
 have hlen:=hb.len hs
 have hrs:=Lib.hid (hb.rs hs)
 have hck:=Lib.hid (fun k=>(hb.take k).canon.rs hs)
 have hcl:=Lib.hid (fun k=>(hb.take k).canon.len hs)
 clear hb
 go_enter Tryz.func43,Tryz.ntmps43
 go_wp2
 have hb0 : Below w.heap.size w (w.alloc (.cells #[] monoT)):=(Below.refl _ _).alloc (Nat.le_refl _) _
 have hst : IsPoly (w.alloc (.cells #[] monoT)) (.slice (some ⟨w.heap.size,0,none⟩) 0 0) []:=(own_lit0 elTerm w).isSl
 change Below w.heap.size w (w.alloc (.cells #[] 43)) at hb0
 change IsPoly (w.alloc (.cells #[] 43)) _ _ at hst
 go_loopw [3,4] (fun o i wr=>∃ k : Nat,k ≤ l.length ∧ i=.int .i64 k ∧ Hid (IsPoly wr o (canon (l.take k))) ∧ Below w.heap.size w wr) (fun _ i _=>l.length - (intOf i).toNat)
 case atStart=>exact ⟨0,by omega,rfl,Lib.hid hst,hb0⟩
 case round =>
  clear hst hb0
  obtain ⟨k,hk,rfl,hP,hbr⟩:=hrel
  by_cases hkl : k < l.length
  ·have hjq : l[k]?=some l[k]:=List.getElem?_eq_getElem hkl
   generalize l[k]=t at hjq
   obtain ⟨bp,op,csp,rfl,-,hE,hC⟩:=(h.on hbr).get hjq
   change Cells monoT wr bp (op + k * 8) _ at hC
   have hkl' : (k : Int) < l.length:=by omega
   have hr:=hC.range
   have h8 : csp.length=8:=elTerm.len hE
   have hin:=insert_any u3 (canon (l.take k)) csp t wr hP.out hE (hck.out k) (hrs.out t (List.mem_of_getElem? hjq)) (hcl.out k)
   rw [← canon_snoc hjq] at hin
   go_wp2_with (first
    | (refine wpList_index_at rfl _ _ 26 rfl monoT Tryz.underlying26 _ 8 96 (by kernel_rfl) _ _ _ rfl .i64 _ rfl k rfl hkl bp op rfl ?_)
    | (refine wpList_load_mid rfl 43 _ rfl _ _ rfl _ _ hr Tryz.underlying43 rfl (by rw [h8]; kernel_rfl) ?_)
    | (go_at_call 82; refine hin.mono ?_; rintro en w3 ⟨v3,rfl,hv3,hb3⟩))
   go_roundw
   case rel=>exact ⟨k + 1,by omega,by go_num,Lib.hid hv3,hbr.trans (hb3.mono hbr.size)⟩
   case measure=>simp [intOf]; omega
  ·obtain rfl : k=l.length:=by omega
   rw [List.take_of_length_le (Nat.le_refl _)] at hP
   go_wp2
   go_ret
   exact ⟨_,rfl,hP.out,hbr⟩
end Go.Proofs.YtopclbeomcggiaaGreat
end
