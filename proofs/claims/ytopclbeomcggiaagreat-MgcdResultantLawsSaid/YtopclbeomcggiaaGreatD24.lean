/- mpoly.Scale, Sub. mpoly.Sub, Partial. mpoly.Pow. The reference's rational numbers: Whole, Valid, Sign, Add, Mul, Same, Made. mpoly.Coeffs: the slice that it returns is the caller's own. -/
import Derived.Test.YtopclbeomcggiaaGreatD19
import Derived.Test.YtopclbeomcggiaaGreatD23
import Derived.Lib.SliceRun
set_option linter.unusedVariables false
set_option linter.unusedSimpArgs false
section
namespace Go.Proofs.YtopclbeomcggiaaGreat
open Go.RowKit Q Go.WideMaps Go.Maps
set_option maxHeartbeats 2000000 in
set_option maxRecDepth 100000 in
theorem clone_any (v : Value) (l : List Trm) (w : World) (h : IsPoly w v l) (hl : l.length ≤ 1000000) : Calls Tryz.prog 87 #[v] w (RetOwn w l):=by
 obtain ⟨ao,cap,xs,rfl,hcap,hat,hex⟩:=id h
 have heq:=Go.Lib.run_eql_slice_nil (P:=Tryz.prog) w 27 43 ao l.length cap 0 0 Tryz.underlying27
 cases ao with
 | none =>
  have hnil : l=[]:=by
   cases l with
   | nil=>rfl
   | cons t l =>
    obtain ⟨b,off,e,_⟩:=hat (by rw [hex.length]; simp [elTerm])
    cases e
  subst hnil
  simp only [List.length_nil,Option.isNone_none] at heq ⊢
  go_enter Tryz.func87,Tryz.ntmps87
  go_wp2
  go_ret
  exact ⟨_,rfl,OwnSl.nil _ _ _,Below.refl _ _⟩
 | some a =>
  have hbe : Below w.heap.size w (w.alloc (.cells #[] monoT)):=(Below.refl _ _).alloc (Nat.le_refl _) _
  have hown : OwnPoly w.heap.size (w.alloc (.cells #[] monoT)) (.slice (some ⟨w.heap.size,0,none⟩) 0 0) []:=⟨[],World.ownsRow_lit w #[] 0 (Nat.le_refl _) (by unfold maxLen; omega) (by simp),rfl⟩
  have h1:=h.on hbe
  clear hat
  go_enter Tryz.func87,Tryz.ntmps87
  go_wp2_with (at_builtin; refine wpList_append_sl rfl _ _ 27 rfl Tryz.underlying27 info_elTerm rfl rfl hown h1 (by simp; omega) hbe.size ?_; intro v5 w5 hown5 hl5 hv5)
  go_ret
  exact ⟨_,rfl,by simpa using hown5,hbe.trans (hl5.belowAt hbe.size (fun k hk=>by cases hk; exact Nat.le_refl _))⟩
theorem elems_set {w : World} {xs : List Value} {l : List Trm} {k : Nat} {t : Trm} {r' : List Value} {q : Rat} (h : Elems elTerm.E w xs l) (hk : l[k]?=some t) (hr : IsRatC w r' q) :
  Elems elTerm.E w (xs.take (k * 8 + 4) ++ r' ++ xs.drop (k * 8 + 8)) (l.set k (t.1,q)):=by
 have hkl : k < l.length:=(List.getElem?_eq_some_iff.1 hk).1
 obtain ⟨c,⟨r,rfl,hrr⟩,hq⟩:=h.at' hk
 have e1 : xs.take (k * 8 + 4)=xs.take (k * 8) ++ exC t.1:=by
  rw [List.take_add]
  congr 1
  apply List.ext_getElem?
  intro j
  rw [List.getElem?_take,List.getElem?_drop]
  by_cases hj : j < 4
  ·rw [if_pos hj]
   have:=hq j (by simp only [elTerm]; omega)
   rw [show elTerm.sz=8 from rfl] at this
   rw [this,List.getElem?_append_left (by simpa [exC] using hj)]
  ·rw [if_neg hj,List.getElem?_eq_none (by simp [exC]; omega)]
 have e2 : l.set k (t.1,q)=l.take k ++ [(t.1,q)] ++ l.drop (k + 1):=by
  apply List.ext_getElem?
  intro j
  rw [List.getElem?_set]
  by_cases hj : k=j
  ·subst hj
   rw [if_pos rfl,if_pos hkl,List.append_assoc,List.getElem?_append_right (by simp; omega)]
   simp [Nat.min_eq_left (Nat.le_of_lt hkl)]
  ·rw [if_neg hj]
   rcases Nat.lt_or_ge j k with h' | h'
   ·rw [List.append_assoc,List.getElem?_append_left (by simp; omega),List.getElem?_take,if_pos h']
   ·rw [List.getElem?_append_right (by simp; omega),List.getElem?_drop]
    congr 1; simp; omega
 rw [e1,e2]
 have h1:=h.take k
 have h2:=h.drop (k + 1)
 rw [show elTerm.sz=8 from rfl] at h1 h2
 rw [show k * 8 + 8=(k + 1) * 8 by omega]
 have h3 : Elems elTerm.E w (exC t.1 ++ r') [(t.1,q)]:=Elems.single ⟨r',rfl,hr⟩
 have:=(h1.append h3).append h2
 simpa [List.append_assoc] using this
theorem own_open {base : Nat} {w : World} {g n cap : Nat} {l : List Trm} (ho : OwnPoly base w (.slice (some ⟨g,0,none⟩) n cap) l) :
  ∃ C,Blk w g monoT C ∧ n=l.length ∧ l.length * 8 ≤ C.length ∧ ∀ k t r' q w',l[k]?=some t → IsRatC w' r' q → Blk w' g monoT (C.take (k * 8 + 4) ++ r' ++ C.drop (k * 8 + 8)) → Lr (some g) monoT w w' → OwnPoly base w' (.slice (some ⟨g,0,none⟩) n cap) (l.set k (t.1,q)):=by
 obtain ⟨xs,⟨hxl,hrow⟩,hex⟩:=ho
 rcases hrow with ⟨h,_⟩ | ⟨g',cap',cur,h,hbg,hg,hnc,hcm,hcs,htk⟩
 ·simp at h
 ·simp only [Value.slice.injEq,Option.some.injEq,Addr.mk.injEq,and_true,true_and] at h
  obtain ⟨rfl,rfl,rfl⟩:=h
  have hcl : cur.toList.length=cur.size:=Array.length_toList
  have hcs' : cur.size=cap * 8:=hcs
  have htk' : cur.toList.take (l.length * 8)=xs:=htk
  have hxl' : xs.length=l.length * 8:=hxl
  clear hcs htk hxl
  have hn8 : l.length * 8 ≤ cap * 8:=Nat.mul_le_mul_right 8 hnc
  have hle : l.length * 8 ≤ cur.toList.length:=by omega
  have e : cur.toList=xs ++ cur.toList.drop (l.length * 8):=by rw [← htk',List.take_append_drop]
  have hBlk : Blk w g monoT cur.toList:=hg
  generalize cur.toList=C at *
  refine ⟨C,hBlk,rfl,hle,fun k t r' q w' hk hr hB hl=>?_⟩
  have hkl : k < l.length:=(List.getElem?_eq_some_iff.1 hk).1
  have h4:=hr.len
  refine ⟨xs.take (k * 8 + 4) ++ r' ++ xs.drop (k * 8 + 8),⟨?_,.inr ⟨g,cap,_,by simp,hbg,hB,by simpa using hnc,hcm,?_,?_⟩⟩,elems_set (hex.lr elTerm_okT hl) hk hr⟩
  ·show _=_ * 8
   simp only [List.length_append,List.length_take,List.length_drop,List.length_set]; omega
  ·show _=_ * 8
   simp only [List.size_toArray,List.length_append,List.length_take,List.length_drop]
   omega
  ·show List.take (_ * 8) _=_
   rw [List.length_set]
   have et : C.take (k * 8 + 4)=xs.take (k * 8 + 4):=by rw [e,List.take_append_of_le_length (by omega)]
   have ed : C.drop (k * 8 + 8)=xs.drop (k * 8 + 8) ++ C.drop (l.length * 8):=by
    conv=>lhs; rw [e]
    rw [List.drop_append_of_le_length (by omega)]
   rw [et,ed,← List.append_assoc,List.take_append_of_le_length (by simp; omega),List.take_of_length_le (by simp; omega)]
theorem own_shape {base : Nat} {w : World} {v : Value} {l : List Trm} (ho : OwnPoly base w v l) (hne : 0 < l.length) : ∃ g cap,v=.slice (some ⟨g,0,none⟩) l.length cap ∧ base ≤ g:=by
 obtain ⟨xs,⟨hxl,hrow⟩,hex⟩:=id ho
 rcases hrow with ⟨h,h0⟩ | ⟨g',cap',cur,h,hbg,_⟩
 ·omega
 ·exact ⟨g',cap',h,hbg⟩
def scT (p : List Trm) (c : Rat) (k : Nat) : List Trm:=(p.take k).map (fun t=>(t.1,t.2 * c)) ++ p.drop k
theorem scT_len (p : List Trm) (c : Rat) (k : Nat) : (scT p c k).length=p.length:=by simp [scT]; omega
theorem scT_get {p : List Trm} {c : Rat} {k : Nat} {t : Trm} (h : p[k]?=some t) : (scT p c k)[k]?=some t:=by
 have hk:=(List.getElem?_eq_some_iff.1 h).1
 rw [scT,List.getElem?_append_right (by simp; omega),List.getElem?_drop,← h]
 congr 1; simp; omega
theorem scT_set {p : List Trm} {c : Rat} {k : Nat} {t : Trm} (h : p[k]?=some t) : (scT p c k).set k (t.1,t.2 * c)=scT p c (k + 1):=by
 have hk:=(List.getElem?_eq_some_iff.1 h).1
 rw [scT,List.set_append_right _ _ (by simp; omega),show k - (List.map (fun t=>(t.1,t.2 * c)) (p.take k)).length=0 by simp; omega,List.drop_eq_getElem_cons hk,List.set_cons_zero,scT,List.take_add_one,h]
 simp
theorem scT_full (p : List Trm) (c : Rat) : scT p c p.length=p.map fun t=>(t.1,t.2 * c):=by simp [scT]
set_option maxHeartbeats 8000000 in
set_option maxRecDepth 100000 in
theorem scale_any (vp vc : Value) (p : List Trm) (c : Rat) (w : World) (hp : IsPoly w vp p) (hc : IsRat w vc c) (hkc : Rk c) (hkp : ∀ t ∈ p,Rk t.2) (hpl : p.length ≤ 1000000) :
  Calls Tryz.prog 48 #[vp,vc] w (RetPoly w (scaleP p c)):=by
 obtain ⟨s1,a1,l1,c1,s2,a2,l2,c2,rfl⟩:=rat_agg hc
 replace hkp:=Lib.hid hkp
 go_enter Tryz.func48,Tryz.ntmps48
 go_upto_region 1 with (fail)
 refine abs1 fun W0 hb0 B3 hsz0=>?_
 have hsgn:=rsign_any _ _ W0 (hc.on hb0)
 have x1:=B3.at1 0 _ rfl
 have x2:=B3.at1 1 _ rfl
 have x3:=B3.at1 2 _ rfl
 have x4:=B3.at1 3 _ rfl
 by_cases hz : c=0
 ·have hs0 : sgnZ c.num=0:=by rw [hz]; rfl
  rw [hs0] at hsgn
  go_wp2_with (go_at_call 86; refine hsgn.mono ?_; rintro en W4 ⟨rfl,hb4⟩)
  go_ret
  exact ⟨_,rfl,by rw [scaleP,if_pos hz]; exact IsSl.nil _ _,hb0.trans (hb4.mono hb0.size)⟩
 ·have hs0:=sgnZ_ne hz
  generalize sgnZ c.num=sg at hs0 hsgn
  have hs1 : (sg == 0)=false:=by simpa using hs0
  go_upto_region 3 with (go_at_call 86; refine hsgn.mono ?_; rintro en W4 ⟨rfl,hb4⟩)
  have hcl:=clone_any vp p W4 (hp.on (hb0.trans (hb4.mono hb0.size))) hpl
  have B4:=B3.on hb4
  have hb04:=hb0.trans (hb4.mono hb0.size)
  clear x1 x2 x3 x4 hsgn B3 hb4 hs1 hs0 hb0
  go_upto_region 4 with (go_at_call 87; refine hcl.mono ?_; rintro en W5 ⟨v5,rfl,hown,hb5⟩)
  have hb05:=hb04.trans (hb5.mono hb04.size)
  have B5:=B4.on hb5
  have hlt : w.heap.size < W4.heap.size:=B4.lt
  generalize W4.heap.size=base at *
  clear hb5 B4 hb04 hcl
  rcases Nat.eq_zero_or_pos p.length with hp0 | hp0
  ·obtain ⟨ao,cap,rfl,hcap⟩:=hown.shape
   have hpn : p=[]:=List.length_eq_zero_iff.1 hp0
   subst hpn
   simp only [List.length_nil] at hown ⊢
   go_wp2
   go_loopw [14] (fun i wr=>i=.int .i64 0 ∧ wr=W5) (fun _ _=>0)
   case atStart=>exact ⟨rfl,rfl⟩
   case round =>
    obtain ⟨rfl,rfl⟩:=hrel
    go_wp2
    go_ret
    exact ⟨_,rfl,by rw [scaleP,if_neg hz]; exact hown.isSl,hb05⟩
  ·obtain ⟨g,cap,rfl,hbg⟩:=own_shape hown hp0
   go_wp2
   go_loopw [14] (fun i wr=>∃ k : Nat,k ≤ p.length ∧ i=.int .i64 k ∧ Hid (OwnPoly base wr (.slice (some ⟨g,0,none⟩) p.length cap) (scT p c k)) ∧ Below w.heap.size w wr ∧ Hid (Blk wr w.heap.size 41 [.bool s1,.slice a1 l1 c1,.bool s2,.slice a2 l2 c2])) (fun i _=>p.length - (intOf i).toNat)
   case atStart=>exact ⟨0,by omega,rfl,Lib.hid (by simpa [scT] using hown),hb05,Lib.hid B5⟩
   case round =>
    clear hown hb05 B5
    obtain ⟨k,hk,rfl,hown,hbr,hB⟩:=hrel
    by_cases hkl : k < p.length
    ·have hjq : p[k]?=some p[k]:=List.getElem?_eq_getElem hkl
     generalize p[k]=t at hjq
     obtain ⟨b',off',cs,he,-,hE,hC⟩:=hown.out.isSl.get (scT_get (c:=c) hjq)
     simp only [Option.some.injEq,Addr.mk.injEq,and_true] at he
     obtain ⟨rfl,rfl⟩:=he
     obtain ⟨r,rfl,hr⟩:=hE
     have hkt : Rk t.2:=hkp.out _ (List.mem_of_getElem? hjq)
     have hkl' : (k : Int) < p.length:=by omega
     have BB:=hB.out
     change Cells monoT wr g (0 + k * 8) _ at hC
     go_upto_region 7 with (fail)
     refine wp_region_L mixed (none) (0) (Okr.none) [.eq (.slice (some ⟨g,0,none⟩) p.length cap),.eq (.int .i64 k),.eq (.slice (some ⟨g,0,none⟩) p.length cap),.eq (.int .i64 k),.eq (.pointer (some ⟨g,0 + k * 8,none⟩)),.eq (.pointer (some ⟨g,0 + k * 8 + 4,none⟩)),.eq (.agg (r).toArray),.eq (.agg #[.bool s1,.slice a1 l1 c1,.bool s2,.slice a2 l2 c2]),.rat (by decide) ((t.2 * c)),.eq (.pointer (some ⟨g,0 + k * 8,none⟩)),.eq (.pointer (some ⟨g,0 + k * 8 + 4,none⟩))] [17,18,19,20,21,22,23,24,25,26,27] rfl rfl rfl rfl ⟨?_,?_,?_,?_,?_,?_,?_,?_,?_,?_,?_,trivial⟩ ?_
     ·exact fun A w1 hA hL hS he=>goOn_plain rfl (stepG_mv rfl rfl (hA 5 rfl))
     ·exact fun A w1 hA hL hS he=>goOn_plain rfl (stepG_mv rfl rfl (hA 6 rfl))
     ·exact fun A w1 hA hL hS he=>goOn_plain rfl (stepG_mv rfl rfl (hA 5 rfl))
     ·exact fun A w1 hA hL hS he=>goOn_plain rfl (stepG_mv rfl rfl (hA 6 rfl))
     ·intro A w1 hA hL hS he
      have h19 : A.eval (.tmp 19)=_:=he.1 rfl
      have h20 : A.eval (.tmp 20)=_:=he.2.1 rfl
      refine goOn_plain rfl ?_
      exact stepG_pure rfl rfl (execOp_index rfl (by rw [h19,h20]; exact run_index Tryz.underlying27 (by kernel_rfl) w1 g 0 _ _ k .i64 _ (by first | rfl | simp | omega) (hkl)))
     ·intro A w1 hA hL hS he
      have h21 : A.eval (.tmp 21)=_:=he.1 rfl
      refine goOn_plain rfl ?_
      exact stepG_pure rfl rfl (execOp_field rfl (by rw [h21]; exact run_field37_1 _ _ _))
     ·intro A w1 hA hL hS he
      have hb:=hL.below
      have h22 : A.eval (.tmp 22)=_:=he.1 rfl
      refine goOn_plain rfl ?_
      exact stepG_pure rfl rfl (execOp_load rfl (by rw [h22]; exact run_loadAt_mid w1 _ _ _ _ _ (cells_rat (hC.on hb)) Tryz.underlying41 rfl (by rw [hr.len]; kernel_rfl)))
     ·intro A w1 hA hL hS he
      have hb:=hL.below
      have h3 : A.eval (.tmp 3)=.pointer (some ⟨w.heap.size,0,none⟩):=hA 3 rfl
      have c0:=((BB).on hb).at1 0 _ rfl
      have c1:=((BB).on hb).at1 1 _ rfl
      have c2:=((BB).on hb).at1 2 _ rfl
      have c3:=((BB).on hb).at1 3 _ rfl
      refine goOn_plain rfl (stepG_pure rfl rfl ?_)
      generalize A.eval=ev at *
      go_simp
     ·intro A w1 hA hL hS he
      have hb:=hS rfl
      have h23 : A.eval (.tmp 23)=_:=he.1 rfl
      have h24 : A.eval (.tmp 24)=_:=he.2.1 rfl
      have hf0 : A.eval (.func 88)=.func (.func 88) #[] #[]:=rfl
      refine goOn_plain rfl ?_
      refine stepG_call (f:=88) (args:=#[.agg (r).toArray,.agg #[.bool s1,.slice a1 l1 c1,.bool s2,.slice a2 l2 c2]]) rfl rfl ?_ ?_
      ·generalize A.eval=ev at *
       go_simp
      ·refine (rmul_any _ _ _ _ _ (hr.on hb).rat (hc.on (hbr.trans (hb.mono hbr.size))) hkt hkc).mono ?_
       rintro e w' ⟨v,rfl,hi,hb'⟩
       exact ⟨_,rfl,hb',hi⟩
     ·intro A w1 hA hL hS he
      have h17 : A.eval (.tmp 17)=_:=he.1 rfl
      have h18 : A.eval (.tmp 18)=_:=he.2.1 rfl
      refine goOn_plain rfl ?_
      exact stepG_pure rfl rfl (execOp_index rfl (by rw [h17,h18]; exact run_index Tryz.underlying27 (by kernel_rfl) w1 g 0 _ _ k .i64 _ (by first | rfl | simp | omega) (hkl)))
     ·intro A w1 hA hL hS he
      have h26 : A.eval (.tmp 26)=_:=he.1 rfl
      refine goOn_plain rfl ?_
      exact stepG_pure rfl rfl (execOp_field rfl (by rw [h26]; exact run_field37_1 _ _ _))
     ·intro W2 hL2
      have hb2:=hL2.below
      simp only [TailL,FactL.eq,FactL.rat,FactL.of,List.length_cons,List.length_nil,List.drop_succ_cons,List.drop_zero]
      rintro v25 h25
      obtain ⟨n5,a5,k5,c5,n6,a6,k6,c6,rfl⟩:=rat_agg h25
      go_frame
      obtain ⟨C,BC,-,hlC,hset⟩:=own_open (hown.out.on hb2)
      rw [scT_len] at hlC
      have hbr2:=hbr.trans (hb2.mono hbr.size)
      have hB2:=hB.out.on hb2
      clear hown hB BB hC hL2 hb2 hr
      go_upto_region 8 with (refine wpList_store_part rfl _ (.tmp 27) (.tmp 25) rfl g (0 + k * 8 + 4) monoT _ _ rfl rfl BC (by simp; omega) sizeRat isRat_ones ?_; intro W3 R3 hl3)
      simp only [Nat.zero_add,List.size_toArray,List.length_cons,List.length_nil,Nat.add_assoc] at R3
      have hown3:=hset k t _ (t.2 * c) W3 (scT_get hjq) ((h25.lr hl3 (by decide)).cellsC) (by simpa [Nat.add_assoc] using R3) hl3
      rw [scT_set hjq] at hown3
      have hB3:=hB2.lr hl3 (by simp; omega)
      have hbr3:=hbr2.trans (hl3.belowAt hbr2.size (fun k hk=>by cases hk; omega))
      go_wp2
      go_roundw
      case measure=>simp [intOf]; omega
      case rel=>exact ⟨k + 1,by omega,by go_num,Lib.hid hown3,hbr3,Lib.hid hB3⟩
    ·obtain rfl : k=p.length:=by omega
     rw [scT_full] at hown
     go_wp2
     go_ret
     exact ⟨_,rfl,by rw [scaleP,if_neg hz]; exact hown.out.isSl,hbr⟩
end Go.Proofs.YtopclbeomcggiaaGreat
end
section
namespace Go.Proofs.YtopclbeomcggiaaGreat
open Go.RowKit Q Go.WideMaps Go.Maps
end Go.Proofs.YtopclbeomcggiaaGreat
namespace Q
open Go Go.RowKit Q Go.Proofs.YtopclbeomcggiaaGreat
theorem OwnSl.base_mono {α : Type} {e : El α} {base b' : Nat} {w : World} {v : Value} {l : List α} (h : OwnSl e base w v l) (hb : b' ≤ base) : OwnSl e b' w v l:=by
 obtain ⟨xs,⟨h1,h2⟩,h3⟩:=h
 refine ⟨xs,⟨h1,?_⟩,h3⟩
 rcases h2 with h2 | ⟨g,cap,cur,h4,h5,h6⟩
 ·exact .inl h2
 ·exact .inr ⟨g,cap,cur,h4,Nat.le_trans hb h5,h6⟩
end Q
namespace Go.Proofs.YtopclbeomcggiaaGreat
open Go.RowKit Q Go.WideMaps Go.Maps
theorem rmul_m1 (q : Rat) : q * (-1)=-q:=by grind
theorem Rk.neg {q : Rat} (h : Rk q) : Rk (-q):=by
 unfold Rk at *; rw [Rat.neg_den,Rat.neg_num,Int.natAbs_neg]; exact h
theorem Rk.m1 : Rk (-1):=⟨by decide,by unfold CAP; decide⟩
theorem scaleP_m1 (p : List Trm) : scaleP p (-1)=p.map fun t=>(t.1,t.2 * (-1)):=by rw [scaleP,if_neg (by decide)]
theorem rk_scale_m1 {p : List Trm} (h : ∀ t ∈ p,Rk t.2) : ∀ t ∈ scaleP p (-1),Rk t.2:=by
 rw [scaleP_m1]
 intro t ht
 obtain ⟨s,hs,rfl⟩:=List.mem_map.1 ht
 simp only [rmul_m1]; exact (h s hs).neg
set_option maxHeartbeats 2000000 in
set_option maxRecDepth 100000 in
theorem sub_own (vp vq : Value) (p q : List Trm) (w : World) (hp : IsPoly w vp p) (hq : IsPoly w vq q) (rp : ∀ t ∈ p,Rk t.2) (rq : ∀ t ∈ q,Rk t.2) (lp : p.length ≤ 1000000) (lq : q.length ≤ 1000000) (vlp : Vld p) (vlq : Vld q) :
  Calls Tryz.prog 74 #[vp,vq] w (RetOwn w (subP p q)):=by
 have hl:=rk_scale_m1 rq
 have hll : (scaleP q (-1)).length ≤ 1000000:=by rw [scaleP_m1]; simpa using lq
 have hm:=mergeP_eq vlp (vlq.scale (-1))
 go_enter Tryz.func74,Tryz.ntmps74
 go_wp2_with (first
  | (go_at_call 47; refine (rwhole_any (-1) _ (by omega) (by omega)).mono ?_; rintro en W1 ⟨v7,rfl,h7,hb1⟩)
  | (go_at_call 48; refine (scale_any _ _ q (-1) _ (hq.on hb1) h7 Rk.m1 rq lq).mono ?_; rintro en W2 ⟨v8,rfl,h8,hb2⟩)
  | (go_at_call 106; refine (add_own _ _ p _ _ (hp.on (hb1.trans (hb2.mono hb1.size))) h8 rp hl lp hll).mono ?_; rintro en W3 ⟨v9,rfl,h9,hb3⟩))
 go_ret
 have hb12:=hb1.trans (hb2.mono hb1.size)
 exact ⟨_,rfl,by
  rw [subP,← hm]
  exact h9.base_mono hb12.size,hb12.trans (hb3.mono hb12.size)⟩
theorem sub_any (vp vq : Value) (p q : List Trm) (w : World) (hp : IsPoly w vp p) (hq : IsPoly w vq q) (rp : ∀ t ∈ p,Rk t.2) (rq : ∀ t ∈ q,Rk t.2) (lp : p.length ≤ 1000000) (lq : q.length ≤ 1000000) (vlp : Vld p) (vlq : Vld q) :
  Calls Tryz.prog 74 #[vp,vq] w (RetPoly w (subP p q)):=(sub_own vp vq p q w hp hq rp rq lp lq vlp vlq).mono fun _ _ h=>h.poly
theorem partialP_snoc {p : List Trm} {v k : Nat} {t : Trm} (h : p[k]?=some t) : partialP (p.take (k + 1)) v=partialP (p.take k) v ++ (if 0 < t.1.get v then [(t.1.put v (t.1.get v - 1),t.2 * (t.1.get v : Rat))] else []):=by
 rw [List.take_add_one,h]
 simp only [partialP,Option.toList_some,List.filter_append,List.map_append]
 congr 1
 by_cases hz : 0 < t.1.get v
 ·simp [hz]
 ·simp [hz]
set_option maxHeartbeats 8000000 in
set_option maxRecDepth 100000 in
theorem partial_any (vp : Value) (p : List Trm) (v : Nat) (w : World) (hp : IsPoly w vp p) (hv : v < 4) (hkp : ∀ t ∈ p,Rk t.2 ∧ t.1.get v ≤ 1000000 ∧ Rk (t.1.get v : Rat)) (hpl : p.length ≤ 1000000) :
  Calls Tryz.prog 73 #[vp,.int .i64 v] w (RetPoly w (partialP p v)):=by
 obtain ⟨ap,cp,rfl,hcp⟩:=hp.shape
 replace hkp:=Lib.hid hkp
 have hv4 : (v : Int) < 4:=by omega
 go_enter Tryz.func73,Tryz.ntmps73
 go_wp2
 go_loopw [11,5] (fun i o wr=>∃ k : Nat,k ≤ p.length ∧ i=.int .i64 k ∧ Hid (OwnPoly w.heap.size wr o (partialP (p.take k) v)) ∧ (partialP (p.take k) v).length ≤ k ∧ Below w.heap.size w wr) (fun i _ _=>p.length - (intOf i).toNat)
 case atStart=>exact ⟨0,by omega,rfl,Lib.hid (OwnSl.nil _ _ _),by simp [partialP],Below.refl _ _⟩
 case round =>
  obtain ⟨k,hk,rfl,hown,hln,hb⟩:=hrel
  by_cases hkl : k < p.length
  ·have hjq : p[k]?=some p[k]:=List.getElem?_eq_getElem hkl
   obtain ⟨b'',off',cs,rfl,-,hE,hC⟩:=(hp.on hb).get hjq
   generalize p[k]=t at hjq hE
   have hsn:=partialP_snoc (v:=v) hjq
   obtain ⟨e,q⟩:=t
   obtain ⟨r,rfl,n1,x1,k1,d1,n2,x2,k2,d2,rfl,i1,i2⟩:=hE
   have hr:=hC.range
   have hkl' : (k : Int) < p.length:=by omega
   have hmem:=List.mem_of_getElem? hjq
   have hrat:=Lib.hid (show IsRat wr (.agg #[.bool n1,.slice x1 k1 d1,.bool n2,.slice x2 k2 d2]) q from ⟨n1,x1,k1,d1,n2,x2,k2,d2,rfl,i1,i2⟩)
   obtain ⟨hkq,hlx,hkx⟩:=hkp.out _ hmem
   simp only at hkq hlx hkx hsn
   have hgp : Ex.get e v=Ex.get e v:=rfl
   have hat:=exC_at e v hv [.bool n1,.slice x1 k1 d1,.bool n2,.slice x2 k2 d2]
   have hset:=exC_set e v hv (Ex.get e v - 1)
   generalize hE' : Ex.put e v (Ex.get e v - 1)=E' at *
   generalize hx : Ex.get e v=x at *
   clear hC i1 i2 hE' hx hgp
   replace hsn:=Lib.hid hsn
   obtain ⟨e1,e2,e3,e4⟩:=e
   simp only [exC,List.cons_append,List.nil_append] at hr hat
   go_upto_region 5 with (first
    | (refine wpList_index_at rfl _ _ 27 rfl monoT Tryz.underlying27 _ 8 96 (by kernel_rfl) _ _ _ rfl .i64 _ rfl k rfl hkl b'' off' rfl ?_)
    | (refine wpList_load_mid rfl 43 _ rfl _ _ rfl _ _ hr Tryz.underlying43 rfl (by kernel_rfl) ?_))
   refine abs1 fun W2 hb2 B hsz2=>?_
   have hown2:=Lib.hid (hown.out.on hb2)
   have hbe:=hown.out.base_le
   have hbW2:=hb.trans (hb2.mono hb.size)
   have hrat2:=hrat.out.on hb2
   have hws : w.heap.size ≤ wr.heap.size:=hb.size
   have hno : ∀ g,u5.ownBlock=some g → g < wr.heap.size:=fun g hg=>(hbe g hg).2
   have hbase : ∀ g,u5.ownBlock=some g → w.heap.size ≤ g:=fun g hg=>(hbe g hg).1
   clear hb2 hown hr hrat hb hsz2 hbe
   generalize wr.heap.size=r at *
   have z:=B.at1 v _ hat
   by_cases hx0 : 0 < x
   ·go_upto_region 7 with (fail)
    have hwr : IntKind.i64.wrap (x - 1)=x - 1:=wrap_id (by omega)
    have z':=B.at1 v _ hat
    have hf:=B.frozen v
    go_upto_region 8 with (fail)
    have hl3:=setCell_lr (j:=v) B (.int .i64 (x - 1))
    have B3:=B.set v (.int .i64 (x - 1))
    have hset3:=hset [.bool n1,.slice x1 k1 d1,.bool n2,.slice x2 k2 d2]
    simp only [exC,List.cons_append,List.nil_append] at hset3
    rw [hset3] at B3
    have hne : u5.ownBlock ≠ some r:=fun h=>by have:=hno r h; simp at this
    have hown3:=hown2.out.lr hl3 (elTerm_ok (by decide)) (.inr hne)
    have hrat3:=hrat2.lr hl3 (by decide)
    have hbW3:=hbW2.trans (hl3.belowAt hbW2.size (fun k hk=>by cases hk; exact hws))
    rw [if_pos hx0] at hsn
    obtain ⟨g1,g2,g3,g4⟩:=E'
    simp only [exC,List.cons_append,List.nil_append] at B3
    generalize W2.setCell ⟨r,v,none⟩ (.int .i64 (x - 1))=W3 at *
    clear hl3 hset3 hset z z' hf hwr hown2 hrat2 B hbW2 hat
    refine wp_region_L mixed (none) (0) (Okr.none) [.eq (.pointer (some ⟨r,4,none⟩)),.eq (.agg #[.bool n1,.slice x1 k1 d1,.bool n2,.slice x2 k2 d2]),.eq (.int .i64 x),.rat (by decide) ((x : Rat)),.rat (by decide) ((q * (x : Rat))),.eq (.pointer (some ⟨r,4,none⟩))] [28,29,30,31,32,33] rfl rfl rfl rfl ⟨?_,?_,?_,?_,?_,?_,trivial⟩ ?_
    ·intro A w1 hA hL hS he
     have h7 : A.eval (.tmp 7)=.pointer (some ⟨r,0,none⟩):=hA 7 rfl
     refine goOn_plain rfl (stepG_pure rfl rfl ?_)
     generalize A.eval=ev at *
     go_simp
    ·intro A w1 hA hL hS he
     have hb:=hL.below
     have h28 : A.eval (.tmp 28)=_:=he.1 rfl
     have c0:=((B3).on hb).at1 4 _ rfl
     have c1:=((B3).on hb).at1 5 _ rfl
     have c2:=((B3).on hb).at1 6 _ rfl
     have c3:=((B3).on hb).at1 7 _ rfl
     refine goOn_plain rfl (stepG_pure rfl rfl ?_)
     generalize A.eval=ev at *
     go_simp
    ·exact fun A w1 hA hL hS he=>goOn_plain rfl (stepG_mv rfl rfl (hA 8 rfl))
    ·intro A w1 hA hL hS he
     have hb:=hS rfl
     have h30 : A.eval (.tmp 30)=_:=he.1 rfl
     have hf0 : A.eval (.func 47)=.func (.func 47) #[] #[]:=rfl
     refine goOn_plain rfl ?_
     refine stepG_call (f:=47) (args:=#[.int .i64 x]) rfl rfl ?_ ?_
     ·generalize A.eval=ev at *
      go_simp
     ·refine (rwhole_any _ _ (by omega) (by omega)).mono ?_
      rintro e w' ⟨v,rfl,hi,hb'⟩
      exact ⟨_,rfl,hb',hi⟩
    ·intro A w1 hA hL hS he
     have hb:=hS rfl
     have h29 : A.eval (.tmp 29)=_:=he.1 rfl
     have f31 : ((.rat (by decide) ((x : Rat)) : FactL (Lr (none) (0)))).p (A.eval (.tmp 31)) w1:=he.2.1 rfl
     obtain ⟨v31,h31⟩ : ∃ v,A.eval (.tmp 31)=v:=⟨_,rfl⟩
     rw [h31] at f31
     have hf0 : A.eval (.func 88)=.func (.func 88) #[] #[]:=rfl
     refine goOn_plain rfl ?_
     refine stepG_call (f:=88) (args:=#[.agg #[.bool n1,.slice x1 k1 d1,.bool n2,.slice x2 k2 d2],v31]) rfl rfl ?_ ?_
     ·generalize A.eval=ev at *
      go_simp
     ·refine (rmul_any _ _ _ _ _ (hrat3.on hb) f31 hkq hkx).mono ?_
      rintro e w' ⟨v,rfl,hi,hb'⟩
      exact ⟨_,rfl,hb',hi⟩
    ·intro A w1 hA hL hS he
     have h7 : A.eval (.tmp 7)=.pointer (some ⟨r,0,none⟩):=hA 7 rfl
     refine goOn_plain rfl (stepG_pure rfl rfl ?_)
     generalize A.eval=ev at *
     go_simp
    ·intro W4 hL4
     have hb4:=hL4.below
     simp only [TailL,FactL.eq,FactL.rat,FactL.of,List.length_cons,List.length_nil,List.drop_succ_cons,List.drop_zero]
     rintro v31 h31 v32 h32
     obtain ⟨n5,a5,k5,c5,n6,a6,k6,c6,rfl⟩:=rat_agg h32
     go_frame
     have hown4:=hown3.on hb4
     have B4:=B3.on hb4
     have hbW4:=hbW3.trans (hb4.mono hbW3.size)
     clear hown3 B3 hL4 hb4 h31 hrat3
     go_upto_region 9 with (refine wpList_store_part rfl _ (.tmp 33) (.tmp 32) rfl r 4 monoT _ _ rfl rfl B4 (by simp) sizeRat isRat_ones ?_; intro W5 R5 hl5)
     change Blk W5 r monoT (exC (g1,g2,g3,g4) ++ [.bool n5,.slice a5 k5 c5,.bool n6,.slice a6 k6 c6]) at R5
     have hown5:=hown4.lr hl5 (elTerm_ok (by decide)) (.inr hne)
     have h325:=h32.lr hl5 (by decide)
     have hbW5:=hbW4.trans (hl5.belowAt hbW4.size (fun k hk=>by cases hk; exact hws))
     have hne' : some r ≠ u5.ownBlock:=fun h=>hne h.symm
     obtain ⟨rc,hrcE⟩ : ∃ rc,rc=[Value.bool n5,.slice a5 k5 c5,.bool n6,.slice a6 k6 c6]:=⟨_,rfl⟩
     have hrc : rc.length=4:=by rw [hrcE]; rfl
     have h8 : (exC (g1,g2,g3,g4) ++ rc).length=8:=by rw [List.length_append,hrc]; rfl
     rw [show (Value.agg #[.bool n5,.slice a5 k5 c5,.bool n6,.slice a6 k6 c6])=.agg rc.toArray by rw [hrcE]] at h325
     rw [← hrcE] at R5
     clear hown4 B4 hl5 hbW4 h32
     refine wp_region_S trivial (u5.ownBlock) (monoT) (hown5.okr) [.eq (u5),.eq (.agg (exC (g1,g2,g3,g4) ++ rc).toArray),.new1 elTerm elTerm_okT (((g1,g2,g3,g4),q * (x : Rat))),.row elTerm (w.heap.size) W5.heap.size (partialP (p.take k) v ++ [((g1,g2,g3,g4),q * (x : Rat))])] [34,35,36,37] rfl rfl rfl rfl ⟨?_,?_,?_,?_,trivial⟩ ?_
     ·exact fun A w1 hA hL hS he=>goOn_plain rfl (stepG_mv rfl rfl (hA 5 rfl))
     ·intro A w1 hA hL hS he
      have h7 : A.eval (.tmp 7)=.pointer (some ⟨r,0,none⟩):=hA 7 rfl
      refine goOn_plain rfl ?_
      exact stepG_pure rfl rfl (execOp_load rfl (by rw [h7]; exact run_loadAt_mid w1 _ _ _ _ _ ((R5.lr hL hne').range 0 _ (fun j v h=>by rw [Nat.zero_add]; exact h)) Tryz.underlying43 rfl (by rw [h8]; kernel_rfl)))
     ·intro A w1 hA hL hS he
      have h35 : A.eval (.tmp 35)=_:=he.1 rfl
      refine goOn_plain rfl ?_
      have hE : (elTerm : El _).E w1 _ (((g1,g2,g3,g4),q * (x : Rat))):=⟨_,rfl,(h325.lr hL (by decide)).cellsC⟩
      refine stepG_new1 rfl rfl ((hown5.okr).lr hL) hE (execOp_buildSlice rfl ?_) (fun _ _ h=>h)
      simp only [List.map_toArray,List.map_cons,List.map_nil,h35]
      exact run_new1_elTermP _ _ ((elTerm).len hE)
     ·intro A w1 hA hL hS he
      have hb:=hS rfl
      have hbw : Below w.heap.size w w1:=hbW5.trans (hL.belowAt hbW5.size hbase)
      have h34 : A.eval (.tmp 34)=_:=he.1 rfl
      have f36 : ((.new1 elTerm elTerm_okT (((g1,g2,g3,g4),q * (x : Rat))) : FactL (Lr (u5.ownBlock) (monoT)))).p (A.eval (.tmp 36)) w1:=he.2.1 rfl
      obtain ⟨v36,h36⟩ : ∃ v,A.eval (.tmp 36)=v:=⟨_,rfl⟩
      rw [h36] at f36
      refine goOn_plain rfl ?_
      exact stepG_append rfl rfl rfl Tryz.underlying27 info_elTerm h34 h36 (hown5.on hb) rfl rfl (isSl_of_new f36) (by simp; omega) (hbw.size) hL.1.size (fun _ _ h1 h2=>⟨h1,h2⟩)
     ·intro W6 hL6
      simp only [TailL,FactL.eq,FactL.new1,FactL.row,FactL.asPure,FactL.of,FactL.fragile,List.length_cons,List.length_nil,List.drop_succ_cons,List.drop_zero]
      rintro v36 - v37 ⟨hown6,hnew⟩
      go_frame
      have hbW6:=hbW5.trans (hL6.belowAt hbW5.size hbase)
      have hpl' : (partialP (p.take (k + 1)) v).length ≤ k + 1:=by rw [hsn.out]; simp; omega
      go_wp2
      go_roundw
      case measure=>simp [intOf]; omega
      case rel=>exact ⟨k + 1,by omega,by go_num,Lib.hid (by rw [hsn.out]; exact hown6),hpl',hbW6⟩
   ·have hx0' : ¬ (0 : Int) < x:=hx0
    rw [if_neg hx0,List.append_nil] at hsn
    go_wp2
    go_roundw
    case measure=>simp [intOf]; omega
    case rel=>exact ⟨k + 1,by omega,by go_num,Lib.hid (by rw [hsn.out]; exact hown2.out),by rw [hsn.out]; omega,hbW2⟩
  ·obtain rfl : k=p.length:=by omega
   rw [List.take_of_length_le (Nat.le_refl _)] at hown
   go_wp2
   go_ret
   exact ⟨_,rfl,hown.out.isSl,hb⟩
end Go.Proofs.YtopclbeomcggiaaGreat
end
section
namespace Q
end Q
namespace Go.Proofs.YtopclbeomcggiaaGreat
open Go.RowKit Q Go.WideMaps Go.Maps
end Go.Proofs.YtopclbeomcggiaaGreat
end
section
namespace Go.Proofs.YtopclbeomcggiaaGreat
open Go.RowKit Q
set_option maxHeartbeats 1000000 in
theorem sign2_any (v : Value) (q : Rat) (w : World) (h : IsRat w v q) : Calls Tryz.prog 67 #[v] w (Ret w (.int .i64 (sgnZ q.num))):=by
 obtain ⟨s1,a1,l1,c1,s2,a2,l2,c2,rfl,i1,i2⟩:=h
 go_enter Tryz.func67,Tryz.ntmps67
 go_upto_region 1 with (fail)
 refine abs1 fun W hb0 B1 hsz=>?_
 have e1:=B1.at1 0 _ rfl
 have e2:=B1.at1 1 _ rfl
 go_wp2_with (go_at_call 100; refine (sign1_any _ _ _ _ (i1.on hb0)).mono ?_; rintro e w1 ⟨rfl,hb1⟩)
 go_ret
 exact ⟨rfl,hb0.trans (hb1.mono hb0.size)⟩
set_option maxHeartbeats 1000000 in
set_option maxRecDepth 100000 in
theorem whole2_any (n : Int) (w : World) (h1 : -4611686018427387904 ≤ n) (h2 : n ≤ 4611686018427387904) : Calls Tryz.prog 24 #[.int .i64 n] w (RetRat w n):=by
 go_enter Tryz.func24,Tryz.ntmps24
 go_upto_region 1 with (fail)
 refine abs1 fun W hb0 B1 hsz=>?_
 refine wp_region_S trivial (none) (0) (Okr.none) [.eq (.int .i64 n),.int (by decide) (n),.int (by decide) (1),.rat (by decide) (n : Rat)] [3,4,5,6] rfl rfl rfl rfl ⟨?_,?_,?_,?_,trivial⟩ ?_
 ·exact fun A w1 hA hL hS he=>goOn_plain rfl (stepG_mv rfl rfl (hA 0 rfl))
 ·intro A w1 hA hL hS he
  have hb:=hS rfl
  have h3 : A.eval (.tmp 3)=_:=he.1 rfl
  have hf0 : A.eval (.func 70)=.func (.func 70) #[] #[]:=rfl
  refine goOn_plain rfl ?_
  refine stepG_call (f:=70) (args:=#[.int .i64 n]) rfl rfl ?_ ?_
  ·generalize A.eval=ev at *
   go_simp
  ·refine (of1_any n _ h1 h2).mono ?_
   rintro e w' ⟨neg,m,rfl,hi,hb'⟩
   exact ⟨_,rfl,hb',neg,m,rfl,hi⟩
 ·intro A w1 hA hL hS he
  have hb:=hS rfl
  have hf0 : A.eval (.func 70)=.func (.func 70) #[] #[]:=rfl
  have hc0 : A.eval (.const (.int .i64 1))=.int .i64 1:=rfl
  refine goOn_plain rfl ?_
  refine stepG_call (f:=70) (args:=#[(.int .i64 1)]) rfl rfl ?_ ?_
  ·generalize A.eval=ev at *
   go_simp
  ·refine (of1_any 1 _ (by omega) (by omega)).mono ?_
   rintro e w' ⟨neg,m,rfl,hi,hb'⟩
   exact ⟨_,rfl,hb',neg,m,rfl,hi⟩
 ·intro A w1 hA hL hS he
  have f4 : ((.int (by decide) (n) : FactL (Lr (none) (0)))).p (A.eval (.tmp 4)) w1:=he.1 rfl
  obtain ⟨v4,h4⟩ : ∃ v,A.eval (.tmp 4)=v:=⟨_,rfl⟩
  rw [h4] at f4
  have f5 : ((.int (by decide) (1) : FactL (Lr (none) (0)))).p (A.eval (.tmp 5)) w1:=he.2.1 rfl
  obtain ⟨v5,h5⟩ : ∃ v,A.eval (.tmp 5)=v:=⟨_,rfl⟩
  rw [h5] at f5
  refine goOn_plain rfl ?_
  obtain ⟨x4,y4,rfl,i4⟩:=f4
  obtain ⟨x5,y5,rfl,i5⟩:=f5
  obtain ⟨a4,k4,q4,rfl,-,-⟩:=i4.shape
  obtain ⟨a5,k5,q5,rfl,-,-⟩:=i5.shape
  refine stepG_value (c:=.agg #[.bool x4,.slice a4 k4 q4,.bool x5,.slice a5 k5 q5]) rfl rfl (Below.refl _ _) ⟨_,_,_,_,_,_,_,_,rfl,by rw [Rat.num_intCast]; exact i4,by rw [Rat.den_intCast]; exact i5⟩ ?_
  generalize A.eval=ev at *
  go_simp
 ·intro w1 hL
  have hb1:=hL.below
  simp only [TailL,FactL.eq,FactL.int,FactL.rat,FactL.of,List.length_cons,List.length_nil,List.drop_succ_cons,List.drop_zero]
  rintro _ - _ - v6 h6
  obtain ⟨t1,b1,g1,d1,t2,b2,g2,d2,rfl,j1,j2⟩:=h6
  go_frame
  have C1:=B1.on hb1
  go_wp2_with (refine wpList_store_blk rfl _ (.tmp 2) (.tmp 6) rfl _ _ _ _ rfl rfl C1 rfl sizeRat isRat_ones ?_; intro w3 R gr)
  exact ret_blk rfl rfl rfl R Tryz.underlying41 rfl sizeRat (rat_end hb0 hb1 (by omega) C1 ⟨_,_,_,_,_,_,_,_,rfl,j1,j2⟩ gr)
set_option maxHeartbeats 2000000 in
set_option maxRecDepth 100000 in
theorem valid2_any (v : Value) (q : Rat) (w : World) (h : IsRat w v q) (k : Rs q) : Calls Tryz.prog 66 #[v] w (Ret w (.bool true)):=by
 obtain ⟨s1,a1,l1,c1,s2,a2,l2,c2,rfl,i1,i2⟩:=h
 have hd0 : 0 < (q.den : Int):=by have:=q.den_nz; omega
 have hsg : ∀ W,Below w.heap.size w W → Calls Tryz.prog 100 #[.agg #[.bool s2,.slice a2 l2 c2]] W (Ret W (.int .i64 1)):=fun W hb=>by
  have:=sign1_any s2 _ _ W (i2.on hb)
  rwa [show sgnZ (q.den : Int)=1 by unfold sgnZ; rw [if_neg (by omega),if_neg (by omega)]] at this
 have hg : Int.gcd q.num (q.den : Int)=1:=by have:=q.reduced; simpa [Nat.Coprime,Int.gcd] using this
 have hfit : Fits (q.den : Int):=by unfold Fits; have:=k.1; omega
 have hgc : ∀ W,Below w.heap.size w W → Calls Tryz.prog 101 #[.agg #[.bool s1,.slice a1 l1 c1],.agg #[.bool s2,.slice a2 l2 c2]] W (RetI W 1):=fun W hb=>by
  have:=gcd1_any _ _ _ _ _ _ W (i1.on hb) (i2.on hb) (cs2 k.num) (cs2 k.den) hfit
  rwa [hg] at this
 go_enter Tryz.func66,Tryz.ntmps66
 go_upto_region 1 with (fail)
 refine abs1 fun W hb0 B hsz=>?_
 refine wp_region_S trivial (none) (0) (Okr.none) [.eq (.pointer (some ⟨w.heap.size,0,none⟩)),.eq (.agg #[.bool s1,.slice a1 l1 c1]),.ret (.bool true),.eq (.bool false),.eq (.bool false),.eq (.pointer (some ⟨w.heap.size,2,none⟩)),.eq (.agg #[.bool s2,.slice a2 l2 c2]),.ret (.bool true),.eq (.bool false),.eq (.bool false),.eq (.bool false),.eq (.pointer (some ⟨w.heap.size,2,none⟩)),.eq (.agg #[.bool s2,.slice a2 l2 c2]),.ret (.int .i64 1),.eq (.bool false),.eq (.bool false)] [3,4,5,6,7,8,9,10,11,12,13,14,15,16,17,18] rfl rfl rfl rfl ⟨?_,?_,?_,?_,?_,?_,?_,?_,?_,?_,?_,?_,?_,?_,?_,?_,trivial⟩ ?_
 ·intro A w1 hA hL hS he
  have h1 : A.eval (.tmp 1)=.pointer (some ⟨w.heap.size,0,none⟩):=hA 1 rfl
  refine goOn_plain rfl (stepG_pure rfl rfl ?_)
  generalize A.eval=ev at *
  go_simp
 ·intro A w1 hA hL hS he
  have hb:=hL.below
  have h3 : A.eval (.tmp 3)=_:=he.1 rfl
  have c0:=((B).on hb).at1 0 _ rfl
  have c1:=((B).on hb).at1 1 _ rfl
  refine goOn_plain rfl (stepG_pure rfl rfl ?_)
  generalize A.eval=ev at *
  go_simp
 ·intro A w1 hA hL hS he
  have hb:=hS rfl
  have h4 : A.eval (.tmp 4)=_:=he.1 rfl
  have hf0 : A.eval (.func 99)=.func (.func 99) #[] #[]:=rfl
  refine goOn_plain rfl ?_
  refine stepG_call (f:=99) (args:=#[.agg #[.bool s1,.slice a1 l1 c1]]) rfl rfl ?_ ?_
  ·generalize A.eval=ev at *
   go_simp
  ·refine (valid1_any _ _ _ _ ((i1.on hb0).on hb) k.rk.num').mono ?_
   rintro e w' ⟨rfl,hb'⟩
   exact ⟨_,rfl,hb',rfl⟩
 ·intro A w1 hA hL hS he
  have h5 : A.eval (.tmp 5)=_:=he.1 rfl
  refine goOn_plain rfl (stepG_pure rfl rfl ?_)
  generalize A.eval=ev at *
  go_simp
 ·exact fun A w1 hA hL hS he=>goOn_plain rfl (stepG_mv rfl rfl (he.1 rfl))
 ·intro A w1 hA hL hS he
  have h7 : A.eval (.tmp 7)=_:=he.1 rfl
  have h1 : A.eval (.tmp 1)=.pointer (some ⟨w.heap.size,0,none⟩):=hA 1 rfl
  refine goOn_yes rfl rfl h7 ?_
  refine stepG_pure rfl rfl ?_
  generalize A.eval=ev at *
  go_simp
 ·intro A w1 hA hL hS he
  have hb:=hL.below
  have h7 : A.eval (.tmp 7)=_:=he.2.1 rfl
  have h8 : A.eval (.tmp 8)=_:=he.1 rfl
  have c0:=((B).on hb).at1 2 _ rfl
  have c1:=((B).on hb).at1 3 _ rfl
  refine goOn_yes rfl rfl h7 ?_
  refine stepG_pure rfl rfl ?_
  generalize A.eval=ev at *
  go_simp
 ·intro A w1 hA hL hS he
  have hb:=hS rfl
  have h7 : A.eval (.tmp 7)=_:=he.2.1 rfl
  have h9 : A.eval (.tmp 9)=_:=he.1 rfl
  have hf0 : A.eval (.func 99)=.func (.func 99) #[] #[]:=rfl
  refine goOn_yes rfl rfl h7 ?_
  refine stepG_call (f:=99) (args:=#[.agg #[.bool s2,.slice a2 l2 c2]]) rfl rfl ?_ ?_
  ·generalize A.eval=ev at *
   go_simp
  ·refine (valid1_any _ _ _ _ ((i2.on hb0).on hb) k.rk.den').mono ?_
   rintro e w' ⟨rfl,hb'⟩
   exact ⟨_,rfl,hb',rfl⟩
 ·intro A w1 hA hL hS he
  have h7 : A.eval (.tmp 7)=_:=he.2.1 rfl
  have h10 : A.eval (.tmp 10)=_:=he.1 rfl
  refine goOn_yes rfl rfl h7 ?_
  refine stepG_pure rfl rfl ?_
  generalize A.eval=ev at *
  go_simp
 ·exact fun A w1 hA hL hS he=>goOn_plain rfl (stepG_pk rfl (he.1 rfl) rfl (he.2.1 rfl))
 ·exact fun A w1 hA hL hS he=>goOn_plain rfl (stepG_mv rfl rfl (he.1 rfl))
 ·intro A w1 hA hL hS he
  have h13 : A.eval (.tmp 13)=_:=he.1 rfl
  have h1 : A.eval (.tmp 1)=.pointer (some ⟨w.heap.size,0,none⟩):=hA 1 rfl
  refine goOn_yes rfl rfl h13 ?_
  refine stepG_pure rfl rfl ?_
  generalize A.eval=ev at *
  go_simp
 ·intro A w1 hA hL hS he
  have hb:=hL.below
  have h13 : A.eval (.tmp 13)=_:=he.2.1 rfl
  have h14 : A.eval (.tmp 14)=_:=he.1 rfl
  have c0:=((B).on hb).at1 2 _ rfl
  have c1:=((B).on hb).at1 3 _ rfl
  refine goOn_yes rfl rfl h13 ?_
  refine stepG_pure rfl rfl ?_
  generalize A.eval=ev at *
  go_simp
 ·intro A w1 hA hL hS he
  have hb:=hS rfl
  have h13 : A.eval (.tmp 13)=_:=he.2.1 rfl
  have h15 : A.eval (.tmp 15)=_:=he.1 rfl
  have hf0 : A.eval (.func 100)=.func (.func 100) #[] #[]:=rfl
  refine goOn_yes rfl rfl h13 ?_
  refine stepG_call (f:=100) (args:=#[.agg #[.bool s2,.slice a2 l2 c2]]) rfl rfl ?_ ?_
  ·generalize A.eval=ev at *
   go_simp
  ·refine (hsg _ (hb0.trans (hb.mono hb0.size))).mono ?_
   rintro e w' ⟨rfl,hb'⟩
   exact ⟨_,rfl,hb',rfl⟩
 ·intro A w1 hA hL hS he
  have h13 : A.eval (.tmp 13)=_:=he.2.1 rfl
  have h16 : A.eval (.tmp 16)=_:=he.1 rfl
  have hc0 : A.eval (.const (.int .i64 0))=.int .i64 0:=rfl
  refine goOn_yes rfl rfl h13 ?_
  refine stepG_pure rfl rfl ?_
  generalize A.eval=ev at *
  go_simp
 ·exact fun A w1 hA hL hS he=>goOn_plain rfl (stepG_pk rfl (he.1 rfl) rfl (he.2.1 rfl))
 ·intro w1 hL
  simp only [TailL,FactL.eq,FactL.ret,List.length_cons,List.length_nil,List.drop_succ_cons,List.drop_zero]
  go_frame
  have hb1:=hb0.trans (hL.below.mono hb0.size)
  have C:=B.on hL.below
  go_upto_region 3 with (fail)
  refine wp_region_S trivial (none) (0) (Okr.none) [.eq (.pointer (some ⟨w.heap.size,0,none⟩)),.eq (.agg #[.bool s1,.slice a1 l1 c1]),.eq (.pointer (some ⟨w.heap.size,2,none⟩)),.eq (.agg #[.bool s2,.slice a2 l2 c2]),.int (by decide) (1),.int (by decide) (1),.ret (.bool (decide ((1:Int)=1)))] [19,20,21,22,23,24,25] rfl rfl rfl rfl ⟨?_,?_,?_,?_,?_,?_,?_,trivial⟩ ?_
  ·intro A w1 hA hL hS he
   have h1 : A.eval (.tmp 1)=.pointer (some ⟨w.heap.size,0,none⟩):=hA 1 rfl
   refine goOn_plain rfl (stepG_pure rfl rfl ?_)
   generalize A.eval=ev at *
   go_simp
  ·intro A w1 hA hL hS he
   have hb:=hL.below
   have h19 : A.eval (.tmp 19)=_:=he.1 rfl
   have c0:=((C).on hb).at1 0 _ rfl
   have c1:=((C).on hb).at1 1 _ rfl
   refine goOn_plain rfl (stepG_pure rfl rfl ?_)
   generalize A.eval=ev at *
   go_simp
  ·intro A w1 hA hL hS he
   have h1 : A.eval (.tmp 1)=.pointer (some ⟨w.heap.size,0,none⟩):=hA 1 rfl
   refine goOn_plain rfl (stepG_pure rfl rfl ?_)
   generalize A.eval=ev at *
   go_simp
  ·intro A w1 hA hL hS he
   have hb:=hL.below
   have h21 : A.eval (.tmp 21)=_:=he.1 rfl
   have c0:=((C).on hb).at1 2 _ rfl
   have c1:=((C).on hb).at1 3 _ rfl
   refine goOn_plain rfl (stepG_pure rfl rfl ?_)
   generalize A.eval=ev at *
   go_simp
  ·intro A w1 hA hL hS he
   have hb:=hS rfl
   have h20 : A.eval (.tmp 20)=_:=he.1 rfl
   have h22 : A.eval (.tmp 22)=_:=he.2.1 rfl
   have hf0 : A.eval (.func 101)=.func (.func 101) #[] #[]:=rfl
   refine goOn_plain rfl ?_
   refine stepG_call (f:=101) (args:=#[.agg #[.bool s1,.slice a1 l1 c1],.agg #[.bool s2,.slice a2 l2 c2]]) rfl rfl ?_ ?_
   ·generalize A.eval=ev at *
    go_simp
   ·refine (hgc _ (hb1.trans (hb.mono hb1.size))).mono ?_
    rintro e w' ⟨neg,m,rfl,hi,hb'⟩
    exact ⟨_,rfl,hb',neg,m,rfl,hi⟩
  ·intro A w1 hA hL hS he
   have hb:=hS rfl
   have hf0 : A.eval (.func 70)=.func (.func 70) #[] #[]:=rfl
   have hc0 : A.eval (.const (.int .i64 1))=.int .i64 1:=rfl
   refine goOn_plain rfl ?_
   refine stepG_call (f:=70) (args:=#[(.int .i64 1)]) rfl rfl ?_ ?_
   ·generalize A.eval=ev at *
    go_simp
   ·refine (of1_any 1 _ (by omega) (by omega)).mono ?_
    rintro e w' ⟨neg,m,rfl,hi,hb'⟩
    exact ⟨_,rfl,hb',neg,m,rfl,hi⟩
  ·intro A w1 hA hL hS he
   have hb:=hS rfl
   have f23 : ((.int (by decide) (1) : FactL (Lr (none) (0)))).p (A.eval (.tmp 23)) w1:=he.1 rfl
   obtain ⟨v23,h23⟩ : ∃ v,A.eval (.tmp 23)=v:=⟨_,rfl⟩
   rw [h23] at f23
   have f24 : ((.int (by decide) (1) : FactL (Lr (none) (0)))).p (A.eval (.tmp 24)) w1:=he.2.1 rfl
   obtain ⟨v24,h24⟩ : ∃ v,A.eval (.tmp 24)=v:=⟨_,rfl⟩
   rw [h24] at f24
   have hf0 : A.eval (.func 69)=.func (.func 69) #[] #[]:=rfl
   refine goOn_plain rfl ?_
   refine stepG_call (f:=69) (args:=#[v23,v24]) rfl rfl ?_ ?_
   ·generalize A.eval=ev at *
    go_simp
   ·obtain ⟨n23,m23,rfl,i23⟩:=f23
    obtain ⟨n24,m24,rfl,i24⟩:=f24
    refine (same1_any _ _ _ _ _ _ _ i23 i24 (by decide) (by decide)).mono ?_
    rintro e w' ⟨rfl,hb'⟩
    exact ⟨_,rfl,hb',rfl⟩
  ·intro w2 hL2
   simp only [TailL,FactL.eq,FactL.ret,FactL.int,FactL.of,List.length_cons,List.length_nil,List.drop_succ_cons,List.drop_zero]
   rintro _ - _ -
   go_frame
   go_wp2
   go_ret
   exact ⟨rfl,hb1.trans (hL2.below.mono hb1.size)⟩
set_option maxHeartbeats 2000000 in
set_option maxRecDepth 100000 in
theorem add2_any (v1 v2 : Value) (p q : Rat) (w : World) (h1 : IsRat w v1 p) (h2 : IsRat w v2 q) (k1 : Rs p) (k2 : Rs q) :
  Calls Tryz.prog 81 #[v1,v2] w (RetRat w (p + q)):=by
 rw [← divInt_add]
 obtain ⟨s1,a1,l1,c1,s2,a2,l2,c2,rfl,i1,i2⟩:=h1
 obtain ⟨s3,a3,l3,c3,s4,a4,l4,c4,rfl,i3,i4⟩:=h2
 obtain ⟨df,db,dz⟩:=densS k1 k2
 have cb:=crossS k1 k2
 have cb':=crossS k2 k1
 have sb : nbits (p.num * (q.den : Int) + q.num * (p.den : Int)).natAbs ≤ CS / 4:=by have:=sum_bits cb cb'; unfold CS at *; omega
 have cb1 : nbits (p.num * (q.den : Int)).natAbs ≤ CS:=by unfold CS at *; omega
 have cb2 : nbits (q.num * (p.den : Int)).natAbs ≤ CS:=by unfold CS at *; omega
 go_enter Tryz.func81,Tryz.ntmps81
 go_upto_region 1 with (fail)
 refine abs3 fun W hb0 B1 B2 B3 hsz=>?_
 replace i1:=i1.on hb0
 replace i2:=i2.on hb0
 replace i3:=i3.on hb0
 replace i4:=i4.on hb0
 refine wp_region_L mixed (none) (0) (Okr.none) [.eq (.pointer (some ⟨w.heap.size,0,none⟩)),.eq (.agg #[.bool s1,.slice a1 l1 c1]),.eq (.pointer (some ⟨w.heap.size + 1,2,none⟩)),.eq (.agg #[.bool s4,.slice a4 l4 c4]),.int (by decide) ((p.num * (q.den : Int))),.eq (.pointer (some ⟨w.heap.size + 1,0,none⟩)),.eq (.agg #[.bool s3,.slice a3 l3 c3]),.eq (.pointer (some ⟨w.heap.size,2,none⟩)),.eq (.agg #[.bool s2,.slice a2 l2 c2]),.int (by decide) ((q.num * (p.den : Int))),.int (by decide) ((p.num * (q.den : Int) + q.num * (p.den : Int))),.box 39 W.heap.size [.bool false,.slice none 0 0]] [6,7,8,9,10,11,12,13,14,15,16,5] rfl rfl rfl rfl ⟨?_,?_,?_,?_,?_,?_,?_,?_,?_,?_,?_,?_,trivial⟩ ?_
 ·intro A w1 hA hL hS he
  have h2 : A.eval (.tmp 2)=.pointer (some ⟨w.heap.size,0,none⟩):=hA 2 rfl
  refine goOn_plain rfl (stepG_pure rfl rfl ?_)
  generalize A.eval=ev at *
  go_simp
 ·intro A w1 hA hL hS he
  have hb:=hL.below
  have h6 : A.eval (.tmp 6)=_:=he.1 rfl
  have c0:=((B1).on hb).at1 0 _ rfl
  have c1:=((B1).on hb).at1 1 _ rfl
  refine goOn_plain rfl (stepG_pure rfl rfl ?_)
  generalize A.eval=ev at *
  go_simp
 ·intro A w1 hA hL hS he
  have h3 : A.eval (.tmp 3)=.pointer (some ⟨w.heap.size + 1,0,none⟩):=hA 3 rfl
  refine goOn_plain rfl (stepG_pure rfl rfl ?_)
  generalize A.eval=ev at *
  go_simp
 ·intro A w1 hA hL hS he
  have hb:=hL.below
  have h8 : A.eval (.tmp 8)=_:=he.1 rfl
  have c0:=((B2).on hb).at1 2 _ rfl
  have c1:=((B2).on hb).at1 3 _ rfl
  refine goOn_plain rfl (stepG_pure rfl rfl ?_)
  generalize A.eval=ev at *
  go_simp
 ·intro A w1 hA hL hS he
  have hb:=hS rfl
  have h7 : A.eval (.tmp 7)=_:=he.1 rfl
  have h9 : A.eval (.tmp 9)=_:=he.2.1 rfl
  have hf0 : A.eval (.func 105)=.func (.func 105) #[] #[]:=rfl
  refine goOn_plain rfl ?_
  refine stepG_call (f:=105) (args:=#[.agg #[.bool s1,.slice a1 l1 c1],.agg #[.bool s4,.slice a4 l4 c4]]) rfl rfl ?_ ?_
  ·generalize A.eval=ev at *
   go_simp
  ·refine (mul1_any _ _ _ _ _ _ _ (i1.on hb) (i4.on hb) (cs4 k1.num) (cs4 k2.den)).mono ?_
   rintro e w' ⟨neg,m,rfl,hi,hb'⟩
   exact ⟨_,rfl,hb',neg,m,rfl,hi⟩
 ·intro A w1 hA hL hS he
  have h3 : A.eval (.tmp 3)=.pointer (some ⟨w.heap.size + 1,0,none⟩):=hA 3 rfl
  refine goOn_plain rfl (stepG_pure rfl rfl ?_)
  generalize A.eval=ev at *
  go_simp
 ·intro A w1 hA hL hS he
  have hb:=hL.below
  have h11 : A.eval (.tmp 11)=_:=he.1 rfl
  have c0:=((B2).on hb).at1 0 _ rfl
  have c1:=((B2).on hb).at1 1 _ rfl
  refine goOn_plain rfl (stepG_pure rfl rfl ?_)
  generalize A.eval=ev at *
  go_simp
 ·intro A w1 hA hL hS he
  have h2 : A.eval (.tmp 2)=.pointer (some ⟨w.heap.size,0,none⟩):=hA 2 rfl
  refine goOn_plain rfl (stepG_pure rfl rfl ?_)
  generalize A.eval=ev at *
  go_simp
 ·intro A w1 hA hL hS he
  have hb:=hL.below
  have h13 : A.eval (.tmp 13)=_:=he.1 rfl
  have c0:=((B1).on hb).at1 2 _ rfl
  have c1:=((B1).on hb).at1 3 _ rfl
  refine goOn_plain rfl (stepG_pure rfl rfl ?_)
  generalize A.eval=ev at *
  go_simp
 ·intro A w1 hA hL hS he
  have hb:=hS rfl
  have h12 : A.eval (.tmp 12)=_:=he.1 rfl
  have h14 : A.eval (.tmp 14)=_:=he.2.1 rfl
  have hf0 : A.eval (.func 105)=.func (.func 105) #[] #[]:=rfl
  refine goOn_plain rfl ?_
  refine stepG_call (f:=105) (args:=#[.agg #[.bool s3,.slice a3 l3 c3],.agg #[.bool s2,.slice a2 l2 c2]]) rfl rfl ?_ ?_
  ·generalize A.eval=ev at *
   go_simp
  ·refine (mul1_any _ _ _ _ _ _ _ (i3.on hb) (i2.on hb) (cs4 k2.num) (cs4 k1.den)).mono ?_
   rintro e w' ⟨neg,m,rfl,hi,hb'⟩
   exact ⟨_,rfl,hb',neg,m,rfl,hi⟩
 ·intro A w1 hA hL hS he
  have hb:=hS rfl
  have f10 : ((.int (by decide) ((p.num * (q.den : Int))) : FactL (Lr (none) (0)))).p (A.eval (.tmp 10)) w1:=he.1 rfl
  obtain ⟨v10,h10⟩ : ∃ v,A.eval (.tmp 10)=v:=⟨_,rfl⟩
  rw [h10] at f10
  have f15 : ((.int (by decide) ((q.num * (p.den : Int))) : FactL (Lr (none) (0)))).p (A.eval (.tmp 15)) w1:=he.2.1 rfl
  obtain ⟨v15,h15⟩ : ∃ v,A.eval (.tmp 15)=v:=⟨_,rfl⟩
  rw [h15] at f15
  have hf0 : A.eval (.func 108)=.func (.func 108) #[] #[]:=rfl
  refine goOn_plain rfl ?_
  refine stepG_call (f:=108) (args:=#[v10,v15]) rfl rfl ?_ ?_
  ·generalize A.eval=ev at *
   go_simp
  ·obtain ⟨n10,m10,rfl,i10⟩:=f10
   obtain ⟨n15,m15,rfl,i15⟩:=f15
   refine (add1_any _ _ _ _ _ _ _ i10 i15 cb1 cb2).mono ?_
   rintro e w' ⟨neg,m,rfl,hi,hb'⟩
   exact ⟨_,rfl,hb',neg,m,rfl,hi⟩
 ·intro A w1 hA hL hS he
  refine goOn_plain rfl ?_
  refine stepG_box rfl rfl ((Okr.none).lr hL) hL.1.size (by generalize A.eval=ev at *; go_simp) (fun _ _ h=>h)
 ·intro W2 hL2
  have hb2:=hL2.below
  simp only [TailL,FactL.eq,FactL.int,FactL.box,FactL.of,List.length_cons,List.length_nil,List.drop_succ_cons,List.drop_zero]
  rintro _ - _ - _ ⟨n16,m16,rfl,i16⟩ v5 ⟨x,-,hBx,rfl,B5⟩
  obtain ⟨a5,k5,q5,rfl,-,-⟩:=i16.shape
  go_frame
  have C1:=B1.on hb2
  have C2:=B2.on hb2
  have C3:=B3.on hb2
  have hlt:=B3.lt
  go_upto_region 2 with (refine wpList_store_blk rfl _ (.tmp 5) (.tmp 16) rfl _ _ _ _ rfl rfl B5 rfl sizeInt i16.ones ?_; intro w3 R3 gr3)
  have D1:=C1.grown gr3 (by omega)
  have D2:=C2.grown gr3 (by omega)
  have D3:=C3.grown gr3 (by omega)
  have j16:=i16.stored gr3 B5 (by decide)
  have j2:=(i2.on hb2).stored gr3 B5 (by decide)
  have j4:=(i4.on hb2).stored gr3 B5 (by decide)
  have hb3 : Below W.heap.size W w3:=hb2.trans ((grown_below gr3 (Nat.le_of_lt B5.lt) (Nat.le_refl _)).mono (by omega))
  clear C1 C2 C3 B5 gr3 i16 hb2 hL2
  refine wp_region_L mixed (none) (0) (Okr.none) [.eq (.agg #[.bool n16,.slice a5 k5 q5]),.eq (.pointer (some ⟨w.heap.size,2,none⟩)),.eq (.agg #[.bool s2,.slice a2 l2 c2]),.eq (.pointer (some ⟨w.heap.size + 1,2,none⟩)),.eq (.agg #[.bool s4,.slice a4 l4 c4]),.int (by decide) (((p.den : Int) * (q.den : Int))),.rat (by decide) ((Rat.divInt (p.num * (q.den : Int) + q.num * (p.den : Int)) ((p.den : Int) * (q.den : Int))))] [17,18,19,20,21,22,23] rfl rfl rfl rfl ⟨?_,?_,?_,?_,?_,?_,?_,trivial⟩ ?_
  ·intro A w1 hA hL hS he
   have hb:=hL.below
   have h5 : A.eval (.tmp 5)=.pointer (some ⟨x,0,none⟩):=hA 5 rfl
   have c0:=((R3).on hb).at1 0 _ rfl
   have c1:=((R3).on hb).at1 1 _ rfl
   refine goOn_plain rfl (stepG_pure rfl rfl ?_)
   generalize A.eval=ev at *
   go_simp
  ·intro A w1 hA hL hS he
   have h2 : A.eval (.tmp 2)=.pointer (some ⟨w.heap.size,0,none⟩):=hA 2 rfl
   refine goOn_plain rfl (stepG_pure rfl rfl ?_)
   generalize A.eval=ev at *
   go_simp
  ·intro A w1 hA hL hS he
   have hb:=hL.below
   have h18 : A.eval (.tmp 18)=_:=he.1 rfl
   have c0:=((D1).on hb).at1 2 _ rfl
   have c1:=((D1).on hb).at1 3 _ rfl
   refine goOn_plain rfl (stepG_pure rfl rfl ?_)
   generalize A.eval=ev at *
   go_simp
  ·intro A w1 hA hL hS he
   have h3 : A.eval (.tmp 3)=.pointer (some ⟨w.heap.size + 1,0,none⟩):=hA 3 rfl
   refine goOn_plain rfl (stepG_pure rfl rfl ?_)
   generalize A.eval=ev at *
   go_simp
  ·intro A w1 hA hL hS he
   have hb:=hL.below
   have h20 : A.eval (.tmp 20)=_:=he.1 rfl
   have c0:=((D2).on hb).at1 2 _ rfl
   have c1:=((D2).on hb).at1 3 _ rfl
   refine goOn_plain rfl (stepG_pure rfl rfl ?_)
   generalize A.eval=ev at *
   go_simp
  ·intro A w1 hA hL hS he
   have hb:=hS rfl
   have h19 : A.eval (.tmp 19)=_:=he.1 rfl
   have h21 : A.eval (.tmp 21)=_:=he.2.1 rfl
   have hf0 : A.eval (.func 105)=.func (.func 105) #[] #[]:=rfl
   refine goOn_plain rfl ?_
   refine stepG_call (f:=105) (args:=#[.agg #[.bool s2,.slice a2 l2 c2],.agg #[.bool s4,.slice a4 l4 c4]]) rfl rfl ?_ ?_
   ·generalize A.eval=ev at *
    go_simp
   ·refine (mul1_any _ _ _ _ _ _ _ (j2.on hb) (j4.on hb) (cs4 k1.den) (cs4 k2.den)).mono ?_
    rintro e w' ⟨neg,m,rfl,hi,hb'⟩
    exact ⟨_,rfl,hb',neg,m,rfl,hi⟩
  ·intro A w1 hA hL hS he
   have hb:=hS rfl
   have h17 : A.eval (.tmp 17)=_:=he.1 rfl
   have f22 : ((.int (by decide) (((p.den : Int) * (q.den : Int))) : FactL (Lr (none) (0)))).p (A.eval (.tmp 22)) w1:=he.2.1 rfl
   obtain ⟨v22,h22⟩ : ∃ v,A.eval (.tmp 22)=v:=⟨_,rfl⟩
   rw [h22] at f22
   have hf0 : A.eval (.func 107)=.func (.func 107) #[] #[]:=rfl
   refine goOn_plain rfl ?_
   refine stepG_call (f:=107) (args:=#[.agg #[.bool n16,.slice a5 k5 q5],v22]) rfl rfl ?_ ?_
   ·generalize A.eval=ev at *
    go_simp
   ·obtain ⟨n22,m22,rfl,i22⟩:=f22
    refine (of3_any _ _ _ _ _ _ _ (j16.on hb) i22 sb db dz df).mono ?_
    rintro e w' ⟨v,rfl,hi,hb'⟩
    exact ⟨_,rfl,hb',hi⟩
  ·intro w4 hL4
   have hb4:=hL4.below
   simp only [TailL,FactL.eq,FactL.int,FactL.rat,FactL.of,List.length_cons,List.length_nil,List.drop_succ_cons,List.drop_zero]
   rintro _ - v23 h23
   obtain ⟨t1,b1,g1,d1,t2,b2,g2,d2,rfl,u1,u2⟩:=h23
   go_frame
   have E3:=D3.on hb4
   go_wp2_with (refine wpList_store_blk rfl _ (.tmp 4) (.tmp 23) rfl _ _ _ _ rfl rfl E3 rfl sizeRat isRat_ones ?_; intro w5 R gr)
   exact ret_blk rfl rfl rfl R Tryz.underlying41 rfl sizeRat (rat_end hb0 (hb3.trans (hb4.mono hb3.size)) (by omega) E3 ⟨_,_,_,_,_,_,_,_,rfl,u1,u2⟩ gr)
set_option maxHeartbeats 2000000 in
set_option maxRecDepth 100000 in
theorem mul2_any (v1 v2 : Value) (p q : Rat) (w : World) (h1 : IsRat w v1 p) (h2 : IsRat w v2 q) (k1 : Rs p) (k2 : Rs q) :
  Calls Tryz.prog 75 #[v1,v2] w (RetRat w (p * q)):=by
 rw [← divInt_mul]
 obtain ⟨s1,a1,l1,c1,s2,a2,l2,c2,rfl,i1,i2⟩:=h1
 obtain ⟨s3,a3,l3,c3,s4,a4,l4,c4,rfl,i3,i4⟩:=h2
 obtain ⟨df,db,dz⟩:=densS k1 k2
 have sb : nbits (p.num * q.num).natAbs ≤ CS / 4:=by have:=nbits_mul p.num.natAbs q.num.natAbs; have:=k1.2; have:=k2.2; rw [Int.natAbs_mul]; unfold CS at *; omega
 go_enter Tryz.func75,Tryz.ntmps75
 go_upto_region 1 with (fail)
 refine abs3 fun W hb0 B1 B2 B3 hsz=>?_
 replace i1:=i1.on hb0
 replace i2:=i2.on hb0
 replace i3:=i3.on hb0
 replace i4:=i4.on hb0
 refine wp_region_L mixed (none) (0) (Okr.none) [.eq (.pointer (some ⟨w.heap.size,0,none⟩)),.eq (.agg #[.bool s1,.slice a1 l1 c1]),.eq (.pointer (some ⟨w.heap.size + 1,0,none⟩)),.eq (.agg #[.bool s3,.slice a3 l3 c3]),.int (by decide) ((p.num * q.num)),.eq (.pointer (some ⟨w.heap.size,2,none⟩)),.eq (.agg #[.bool s2,.slice a2 l2 c2]),.eq (.pointer (some ⟨w.heap.size + 1,2,none⟩)),.eq (.agg #[.bool s4,.slice a4 l4 c4]),.int (by decide) (((p.den : Int) * (q.den : Int))),.rat (by decide) ((Rat.divInt (p.num * q.num) ((p.den : Int) * (q.den : Int))))] [5,6,7,8,9,10,11,12,13,14,15] rfl rfl rfl rfl ⟨?_,?_,?_,?_,?_,?_,?_,?_,?_,?_,?_,trivial⟩ ?_
 ·intro A w1 hA hL hS he
  have h2 : A.eval (.tmp 2)=.pointer (some ⟨w.heap.size,0,none⟩):=hA 2 rfl
  refine goOn_plain rfl (stepG_pure rfl rfl ?_)
  generalize A.eval=ev at *
  go_simp
 ·intro A w1 hA hL hS he
  have hb:=hL.below
  have h5 : A.eval (.tmp 5)=_:=he.1 rfl
  have c0:=((B1).on hb).at1 0 _ rfl
  have c1:=((B1).on hb).at1 1 _ rfl
  refine goOn_plain rfl (stepG_pure rfl rfl ?_)
  generalize A.eval=ev at *
  go_simp
 ·intro A w1 hA hL hS he
  have h3 : A.eval (.tmp 3)=.pointer (some ⟨w.heap.size + 1,0,none⟩):=hA 3 rfl
  refine goOn_plain rfl (stepG_pure rfl rfl ?_)
  generalize A.eval=ev at *
  go_simp
 ·intro A w1 hA hL hS he
  have hb:=hL.below
  have h7 : A.eval (.tmp 7)=_:=he.1 rfl
  have c0:=((B2).on hb).at1 0 _ rfl
  have c1:=((B2).on hb).at1 1 _ rfl
  refine goOn_plain rfl (stepG_pure rfl rfl ?_)
  generalize A.eval=ev at *
  go_simp
 ·intro A w1 hA hL hS he
  have hb:=hS rfl
  have h6 : A.eval (.tmp 6)=_:=he.1 rfl
  have h8 : A.eval (.tmp 8)=_:=he.2.1 rfl
  have hf0 : A.eval (.func 105)=.func (.func 105) #[] #[]:=rfl
  refine goOn_plain rfl ?_
  refine stepG_call (f:=105) (args:=#[.agg #[.bool s1,.slice a1 l1 c1],.agg #[.bool s3,.slice a3 l3 c3]]) rfl rfl ?_ ?_
  ·generalize A.eval=ev at *
   go_simp
  ·refine (mul1_any _ _ _ _ _ _ _ (i1.on hb) (i3.on hb) (cs4 k1.num) (cs4 k2.num)).mono ?_
   rintro e w' ⟨neg,m,rfl,hi,hb'⟩
   exact ⟨_,rfl,hb',neg,m,rfl,hi⟩
 ·intro A w1 hA hL hS he
  have h2 : A.eval (.tmp 2)=.pointer (some ⟨w.heap.size,0,none⟩):=hA 2 rfl
  refine goOn_plain rfl (stepG_pure rfl rfl ?_)
  generalize A.eval=ev at *
  go_simp
 ·intro A w1 hA hL hS he
  have hb:=hL.below
  have h10 : A.eval (.tmp 10)=_:=he.1 rfl
  have c0:=((B1).on hb).at1 2 _ rfl
  have c1:=((B1).on hb).at1 3 _ rfl
  refine goOn_plain rfl (stepG_pure rfl rfl ?_)
  generalize A.eval=ev at *
  go_simp
 ·intro A w1 hA hL hS he
  have h3 : A.eval (.tmp 3)=.pointer (some ⟨w.heap.size + 1,0,none⟩):=hA 3 rfl
  refine goOn_plain rfl (stepG_pure rfl rfl ?_)
  generalize A.eval=ev at *
  go_simp
 ·intro A w1 hA hL hS he
  have hb:=hL.below
  have h12 : A.eval (.tmp 12)=_:=he.1 rfl
  have c0:=((B2).on hb).at1 2 _ rfl
  have c1:=((B2).on hb).at1 3 _ rfl
  refine goOn_plain rfl (stepG_pure rfl rfl ?_)
  generalize A.eval=ev at *
  go_simp
 ·intro A w1 hA hL hS he
  have hb:=hS rfl
  have h11 : A.eval (.tmp 11)=_:=he.1 rfl
  have h13 : A.eval (.tmp 13)=_:=he.2.1 rfl
  have hf0 : A.eval (.func 105)=.func (.func 105) #[] #[]:=rfl
  refine goOn_plain rfl ?_
  refine stepG_call (f:=105) (args:=#[.agg #[.bool s2,.slice a2 l2 c2],.agg #[.bool s4,.slice a4 l4 c4]]) rfl rfl ?_ ?_
  ·generalize A.eval=ev at *
   go_simp
  ·refine (mul1_any _ _ _ _ _ _ _ (i2.on hb) (i4.on hb) (cs4 k1.den) (cs4 k2.den)).mono ?_
   rintro e w' ⟨neg,m,rfl,hi,hb'⟩
   exact ⟨_,rfl,hb',neg,m,rfl,hi⟩
 ·intro A w1 hA hL hS he
  have hb:=hS rfl
  have f9 : ((.int (by decide) ((p.num * q.num)) : FactL (Lr (none) (0)))).p (A.eval (.tmp 9)) w1:=he.1 rfl
  obtain ⟨v9,h9⟩ : ∃ v,A.eval (.tmp 9)=v:=⟨_,rfl⟩
  rw [h9] at f9
  have f14 : ((.int (by decide) (((p.den : Int) * (q.den : Int))) : FactL (Lr (none) (0)))).p (A.eval (.tmp 14)) w1:=he.2.1 rfl
  obtain ⟨v14,h14⟩ : ∃ v,A.eval (.tmp 14)=v:=⟨_,rfl⟩
  rw [h14] at f14
  have hf0 : A.eval (.func 107)=.func (.func 107) #[] #[]:=rfl
  refine goOn_plain rfl ?_
  refine stepG_call (f:=107) (args:=#[v9,v14]) rfl rfl ?_ ?_
  ·generalize A.eval=ev at *
   go_simp
  ·obtain ⟨n9,m9,rfl,i9⟩:=f9
   obtain ⟨n14,m14,rfl,i14⟩:=f14
   refine (of3_any _ _ _ _ _ _ _ i9 i14 sb db dz df).mono ?_
   rintro e w' ⟨v,rfl,hi,hb'⟩
   exact ⟨_,rfl,hb',hi⟩
 ·intro w4 hL4
  have hb4:=hL4.below
  simp only [TailL,FactL.eq,FactL.int,FactL.rat,FactL.of,List.length_cons,List.length_nil,List.drop_succ_cons,List.drop_zero]
  rintro _ - _ - v23 h23
  obtain ⟨t1,b1,g1,d1,t2,b2,g2,d2,rfl,u1,u2⟩:=h23
  go_frame
  have E3:=B3.on hb4
  go_wp2_with (refine wpList_store_blk rfl _ (.tmp 4) (.tmp 15) rfl _ _ _ _ rfl rfl E3 rfl sizeRat isRat_ones ?_; intro w5 R gr)
  exact ret_blk rfl rfl rfl R Tryz.underlying41 rfl sizeRat (rat_end hb0 hb4 (by omega) E3 ⟨_,_,_,_,_,_,_,_,rfl,u1,u2⟩ gr)
end Go.Proofs.YtopclbeomcggiaaGreat
end
section
namespace Go.Proofs.YtopclbeomcggiaaGreat
open Go.RowKit Q Go.WideMaps Go.Maps
def RetPolysO (w : World) (L : List (List Trm)) (e : Ending) (w' : World) : Prop:=∃ g vs,e=.returned (.slice (some ⟨g,0,none⟩) vs.length vs.length) ∧ Blk w' g polyT vs ∧ w.heap.size ≤ g ∧ Rows1 w.heap.size w' vs L ∧ Below w.heap.size w w'
set_option maxHeartbeats 8000000 in
set_option maxRecDepth 100000 in
theorem coeffs_own (vp : Value) (p : List Trm) (v : Nat) (w : World) (hp : IsPoly w vp p) (hv : v < 4) (hn : NatL p) (hd : degP p v ≤ 1000000) (hpl : p.length ≤ 1000000) : Calls Tryz.prog 62 #[vp,.int .i64 v] w (RetPolysO w (coeffsP p v)):=by
 have hcall:=deg_any vp p v w hp hv hpl
 have hdg:=degP_ge p v
 have hlt : ∀ t ∈ p,t.1.get v < ((degP p v + 1).toNat : Int):=degP_lt
 have hR : coeffsP p v=coefTo p v (degP p v + 1).toNat p.length:=by rw [coefTo,List.take_of_length_le (Nat.le_refl _)]; rfl
 rw [hR]
 clear hR
 obtain ⟨ap,cp,rfl,hcp⟩:=hp.shape
 generalize degP p v=d at *
 obtain ⟨N,rfl⟩ : ∃ N : Nat,d=(N : Int) - 1:=⟨(d + 1).toNat,by omega⟩
 have hNe : ((N : Int) - 1 + 1).toNat=N:=by omega
 rw [hNe] at hlt ⊢
 have hN1 : N ≤ 1000001:=by omega
 have hwN : IntKind.i64.wrap ((N : Int) - 1 + 1)=(N : Int):=by rw [wrap_id (by omega)]; omega
 have hv4 : (v : Int) < 4:=by omega
 replace hn:=Lib.hid hn
 replace hlt:=Lib.hid hlt
 clear hNe hdg hd
 go_enter Tryz.func62,Tryz.ntmps62
 go_wp2_with (first
  | (go_at_call 53; refine hcall.mono ?_; rintro en w1 ⟨rfl,hb1⟩)
  | (at_make; refine wpList_make_blk rfl _ _ _ rfl polyT (.slice none 0 0) 1 24 Tryz.underlying75 (by kernel_rfl) rfl rfl .i64 .i64 _ _ N rfl rfl rfl rfl (by omega) (by omega) ?_; intro W hB hbW))
 have hb0:=hb1.trans (hbW.mono hb1.size)
 have hog : w.heap.size ≤ w1.heap.size:=hb1.size
 have hB0 : Blk W w1.heap.size polyT (List.replicate N (.slice none 0 0)):=hB
 have hR0 : Rows1 w.heap.size W (List.replicate N (.slice none 0 0)) (coefTo p v N 0):=by rw [coefTo_zero]; exact Rows1.start _ _ _
 clear hB hbW hb1
 generalize w1.heap.size=og at *
 go_wp2
 go_loopw [16] (fun i wr=>∃ (k : Nat) (vs : List Value),k ≤ p.length ∧ i=.int .i64 k ∧ vs.length=N ∧ Hid (Blk wr og polyT vs) ∧ Hid (Rows1 w.heap.size wr vs (coefTo p v N k)) ∧ Below w.heap.size w wr) (fun i _=>p.length - (intOf i).toNat)
 case atStart=>exact ⟨0,_,by omega,rfl,by simp,Lib.hid hB0,Lib.hid hR0,hb0⟩
 case round =>
  clear hB0 hR0 hb0
  obtain ⟨k,vs,hk,rfl,hvl,hB,hR,hb⟩:=hrel
  by_cases hkl : k < p.length
  ·have hjq : p[k]?=some p[k]:=List.getElem?_eq_getElem hkl
   obtain ⟨b'',off',cs,rfl,-,hE,hC⟩:=(hp.on hb).get hjq
   generalize p[k]=t at hjq hE
   obtain ⟨e,q⟩:=t
   obtain ⟨r,rfl,n1,x1,k1,d1,n2,x2,k2,d2,rfl,i1,i2⟩:=hE
   have hr:=hC.range
   have hkl' : (k : Int) < p.length:=by omega
   have hmem:=List.mem_of_getElem? hjq
   have hrat:=Lib.hid (show IsRat wr (.agg #[.bool n1,.slice x1 k1 d1,.bool n2,.slice x2 k2 d2]) q from ⟨n1,x1,k1,d1,n2,x2,k2,d2,rfl,i1,i2⟩)
   have hmax : 0 ≤ e.get v:=Ex.nat_get (hn.out _ hmem) v
   have hltN : e.get v < (N : Int):=hlt.out _ hmem
   obtain ⟨m,hm⟩ : ∃ m : Nat,e.get v=m:=⟨(e.get v).toNat,by omega⟩
   have hmN : m < N:=by omega
   have hstep:=coefTo_step p v N hjq hm hmN
   have hat:=exC_at e v hv [.bool n1,.slice x1 k1 d1,.bool n2,.slice x2 k2 d2]
   have hset:=exC_set e v hv 0 [.bool n1,.slice x1 k1 d1,.bool n2,.slice x2 k2 d2]
   rw [hm] at hat
   simp only at hstep
   generalize hE' : e.put v 0=E' at hset hstep
   clear hm hmax hltN hE' hC i1 i2
   obtain ⟨e1,e2,e3,e4⟩:=e
   obtain ⟨g1,g2,g3,g4⟩:=E'
   simp only [exC,List.cons_append,List.nil_append] at hr hat hset
   have hcur : vs[m]?=some vs[m]:=List.getElem?_eq_getElem (by omega)
   generalize vs[m]=cur at hcur
   have hown:=hR.out.own m cur _ hcur (coefTo_get p v k hmN)
   go_upto_region 5 with (first
    | (refine wpList_index_at rfl _ _ 27 rfl monoT Tryz.underlying27 _ 8 96 (by kernel_rfl) _ _ _ rfl .i64 _ rfl k rfl hkl b'' off' rfl ?_)
    | (refine wpList_load_mid rfl 43 _ rfl _ _ rfl _ _ hr Tryz.underlying43 rfl (by kernel_rfl) ?_))
   refine abs1 fun W2 hb2 Bx hsz2=>?_
   have hogl : og < wr.heap.size:=hB.out.lt
   have hwl : w.heap.size ≤ wr.heap.size:=hb.size
   have hblk : ∀ (n : Nat) v,vs[n]?=some v → v.ownBlock ≠ some wr.heap.size:=fun n v hv he=>by have:=(hR.out.blk hv he).2; omega
   have hbe:=hown.base_le
   have hog2 : cur.ownBlock ≠ some og:=by
    intro he
    have h1:=(hown.okr og he).2
    have h2:=hB.out.noOther
    have:=h1 _ _ _ hB.out
    exact absurd this (by decide)
   replace hblk:=Lib.hid hblk
   replace hbe:=Lib.hid hbe
   have hB2:=Lib.hid (hB.out.on hb2)
   have hR2:=Lib.hid (hR.out.on hb2)
   have hbW2:=hb.trans (hb2.mono hb.size)
   have hrat2:=hrat.out.on hb2
   have z:=Bx.at1 v _ hat
   have hf:=Bx.frozen v
   clear hb2 hB hR hr hrat hb hown
   generalize wr.heap.size=r at *
   go_upto_region 7 with (fail)
   have hl3:=setCell_lr (j:=v) Bx (.int .i64 0)
   have B3:=Bx.set v (.int .i64 0)
   have hb3 : Below w.heap.size W2 (W2.setCell ⟨r,v,none⟩ (.int .i64 0)):=setCell_below (by omega) _
   rw [hset] at B3
   generalize W2.setCell ⟨r,v,none⟩ (.int .i64 0)=W3 at *
   have hB3:=hB2.out.lr hl3 (by simp; omega)
   have hR3:=hR2.out.lrB hl3 (by decide) hblk.out
   have hrat3:=hrat2.lr hl3 (by decide)
   have hbW3:=hbW2.trans hb3
   have hsz3 : r < W3.heap.size:=B3.lt
   clear z hf hset hat hl3 hB2 hR2 hrat2 hb3 hbW2 Bx
   have hown:=hR3.own m cur _ hcur (coefTo_get p v k hmN)
   have hner : some r ≠ cur.ownBlock:=fun h=>hblk.out m cur hcur h.symm
   have hneo : some og ≠ cur.ownBlock:=fun h=>hog2 h.symm
   have hcell : ∀ w1,Lr cur.ownBlock monoT W3 w1 → w1.cell? ⟨og,m,none⟩=some cur:=fun w1 hL=>by rw [(hB3.lr hL hneo).cell m]; exact hcur
   have hlenL : (coeffP (p.take k) v m).length ≤ 1000000:=by
    unfold coeffP
    rw [List.length_map]
    have:=List.length_filter_le (fun t : Trm=>decide (t.1.get v=(m : Int))) (p.take k)
    rw [List.length_take] at this
    omega
   go_upto_region 7 with (fail)
   refine wp_region_L mixed (cur.ownBlock) (monoT) (hown.okr) [.eq (.slice (some ⟨og,0,none⟩) N N),.eq (.int .i64 (m : Int)),.eq (.slice (some ⟨og,0,none⟩) N N),.eq (.int .i64 (m : Int)),.eq (.pointer (some ⟨og,0 + m * 1,none⟩)),.eq (cur),.eq (.agg #[.int .i64 g1,.int .i64 g2,.int .i64 g3,.int .i64 g4,.bool n1,.slice x1 k1 d1,.bool n2,.slice x2 k2 d2]),.new1 elTerm elTerm_okT (((g1,g2,g3,g4),q)),.row elTerm (w.heap.size) W3.heap.size (coeffP (p.take k) v m ++ [((g1,g2,g3,g4),q)]),.eq (.pointer (some ⟨og,0 + m * 1,none⟩))] [27,28,29,30,31,32,33,34,35,36] rfl rfl rfl rfl ⟨?_,?_,?_,?_,?_,?_,?_,?_,?_,?_,trivial⟩ ?_
   ·exact fun A w1 hA hL hS he=>goOn_plain rfl (stepG_mv rfl rfl (hA 5 rfl))
   ·exact fun A w1 hA hL hS he=>goOn_plain rfl (stepG_mv rfl rfl (hA 8 rfl))
   ·exact fun A w1 hA hL hS he=>goOn_plain rfl (stepG_mv rfl rfl (hA 5 rfl))
   ·exact fun A w1 hA hL hS he=>goOn_plain rfl (stepG_mv rfl rfl (hA 8 rfl))
   ·intro A w1 hA hL hS he
    have h29 : A.eval (.tmp 29)=_:=he.1 rfl
    have h30 : A.eval (.tmp 30)=_:=he.2.1 rfl
    refine goOn_plain rfl ?_
    exact stepG_pure rfl rfl (execOp_index rfl (by rw [h29,h30]; exact run_index Tryz.underlying75 (by kernel_rfl) w1 og 0 _ _ m .i64 _ (by first | rfl | simp | omega) (hmN)))
   ·intro A w1 hA hL hS he
    have h31 : A.eval (.tmp 31)=_:=he.1 rfl
    refine goOn_plain rfl ?_
    have c0:=hcell w1 hL
    refine stepG_pure rfl rfl ?_
    generalize A.eval=ev at *
    go_simp
   ·intro A w1 hA hL hS he
    have h7 : A.eval (.tmp 7)=.pointer (some ⟨r,0,none⟩):=hA 7 rfl
    have c0:=((B3.lr hL hner)).at1 0 _ rfl
    have c1:=((B3.lr hL hner)).at1 1 _ rfl
    have c2:=((B3.lr hL hner)).at1 2 _ rfl
    have c3:=((B3.lr hL hner)).at1 3 _ rfl
    have c4:=((B3.lr hL hner)).at1 4 _ rfl
    have c5:=((B3.lr hL hner)).at1 5 _ rfl
    have c6:=((B3.lr hL hner)).at1 6 _ rfl
    have c7:=((B3.lr hL hner)).at1 7 _ rfl
    refine goOn_plain rfl (stepG_pure rfl rfl ?_)
    generalize A.eval=ev at *
    go_simp
   ·intro A w1 hA hL hS he
    have hb:=hS rfl
    have h33 : A.eval (.tmp 33)=_:=he.1 rfl
    refine goOn_plain rfl ?_
    have hE : (elTerm : El _).E w1 _ (((g1,g2,g3,g4),q)):=⟨_,rfl,(hrat3.on hb).cellsC⟩
    refine stepG_new1 rfl rfl ((hown.okr).lr hL) hE (execOp_buildSlice rfl ?_) (fun _ _ h=>h)
    simp only [List.map_toArray,List.map_cons,List.map_nil,h33]
    exact run_new1_elTermP _ _ ((elTerm).len hE)
   ·intro A w1 hA hL hS he
    have hb:=hS rfl
    have h32 : A.eval (.tmp 32)=_:=he.1 rfl
    have f34 : ((.new1 elTerm elTerm_okT (((g1,g2,g3,g4),q)) : FactL (Lr (cur.ownBlock) (monoT)))).p (A.eval (.tmp 34)) w1:=he.2.1 rfl
    obtain ⟨v34,h34⟩ : ∃ v,A.eval (.tmp 34)=v:=⟨_,rfl⟩
    rw [h34] at f34
    refine goOn_plain rfl ?_
    exact stepG_append rfl rfl rfl Tryz.underlying27 info_elTerm h32 h34 (hown.on hb) rfl rfl (isSl_of_new f34) (by simp; omega) (Nat.le_trans hbW3.size hb.size) hL.1.size (fun _ _ h1 h2=>⟨h1,h2⟩)
   ·intro A w1 hA hL hS he
    have h27 : A.eval (.tmp 27)=_:=he.1 rfl
    have h28 : A.eval (.tmp 28)=_:=he.2.1 rfl
    refine goOn_plain rfl ?_
    exact stepG_pure rfl rfl (execOp_index rfl (by rw [h27,h28]; exact run_index Tryz.underlying75 (by kernel_rfl) w1 og 0 _ _ m .i64 _ (by first | rfl | simp | omega) (hmN)))
   ·intro w5 hL
    simp only [TailL,FactL.eq,FactL.new1,FactL.row,FactL.of,FactL.fragile,List.length_cons,List.length_nil,List.drop_succ_cons,List.drop_zero]
    rintro v34 - v35 ⟨hown5,hnew⟩
    go_frame
    obtain ⟨ca,n5,cc,rfl⟩ : ∃ ca n cc,v35=.slice ca n cc:=let ⟨a,c,h,_⟩:=hown5.shape; ⟨a,_,c,h⟩
    have hBo:=hB3.lr hL hneo
    have z:=hBo.at1 m cur hcur
    have hf:=hBo.frozen m
    have hR5:=hR3.set hcur hL hown5 hnew
    rw [← hstep] at hR5
    have hbW5:=hbW3.trans (hL.belowAt hbW3.size (fun k hk=>(hbe.out k hk).1))
    clear hcell hown
    go_wp2
    have hl6:=setCell_lr (j:=m) hBo (.slice ca n5 cc)
    go_roundw
    case measure=>simp [intOf]; omega
    case rel=>exact ⟨k + 1,_,by omega,by go_num,by simp; exact hvl,Lib.hid (hBo.set m _),Lib.hid (hR5.lr hl6 (by decide) (by decide)),hbW5.trans (hl6.belowAt hbW5.size (fun k hk=>by cases hk; exact hog))⟩
  ·obtain rfl : k=p.length:=by omega
   go_wp2
   go_ret
   exact ⟨og,vs,by rw [hvl]; rfl,hB.out,hog,hR.out,hb⟩
end Go.Proofs.YtopclbeomcggiaaGreat
end
