/- mgcd.shared. mgcd.shared: the walk. mgcd.bound. mgcd: one, over, constant, Normal. mgcd: all, Content, Primitive, highest. mgcd.sequence. -/
import Derived.Test.YtopclbeomcggiaaGreatD17
import Derived.Test.YtopclbeomcggiaaGreatD24
import Derived.Test.YtopclbeomcggiaaGreatD31
set_option linter.unusedVariables false
set_option linter.unusedSimpArgs false
section
namespace Q
open Go Go.RowKit Go.Proofs.YtopclbeomcggiaaGreat
def Rst (base : Nat) (w : World) (v : Value) (l : List Nat) : Prop :=
 ∃ ao cap,v=.slice ao l.length cap ∧ l.length ≤ cap ∧ Lim l ∧ (0 < l.length → ∃ g cs,ao=some ⟨g,0,none⟩ ∧ base ≤ g ∧ Blk w g u64T cs ∧ cs.take l.length=nc l)
theorem Rst.of {base : Nat} {w : World} {v : Value} {l : List Nat} (h : OwnSl elN base w v l) : Rst base w v l:=by
 obtain ⟨xs,⟨hxl,hrow⟩,hex⟩:=h
 obtain ⟨rfl,hl⟩:=elems_n.1 hex
 rcases hrow with ⟨rfl,h0⟩ | ⟨g,cap,cur,rfl,hbg,hg,hnc,hcm,hcs,htk⟩
 ·obtain rfl : l=[]:=List.eq_nil_of_length_eq_zero h0
  exact ⟨none,0,rfl,Nat.le_refl _,hl,fun h=>by simp at h⟩
 ·refine ⟨_,cap,rfl,hnc,hl,fun _=>⟨g,cur.toList,rfl,hbg,by unfold Blk; rw [Array.toArray_toList]; exact hg,?_⟩⟩
  have : cur.toList.take (l.length * 1)=nc l:=htk
  rwa [Nat.mul_one] at this
theorem Rst.on {base : Nat} {w w' : World} {v : Value} {l : List Nat} (h : Rst base w v l) (hb : Below w.heap.size w w') : Rst base w' v l:=by
 obtain ⟨ao,cap,h1,h2,h3,h4⟩:=h
 refine ⟨ao,cap,h1,h2,h3,fun hp=>?_⟩
 obtain ⟨g,cs,e,hg,hB,ht⟩:=h4 hp
 exact ⟨g,cs,e,hg,hB.on hb,ht⟩
theorem Rst.isSl {base : Nat} {w : World} {v : Value} {l : List Nat} (h : Rst base w v l) : IsSl elN w v l:=by
 obtain ⟨ao,cap,h1,h2,h3,h4⟩:=h
 refine isSl_n.2 ⟨ao,cap,h1,h2,fun hp=>?_,h3⟩
 obtain ⟨g,cs,e,hg,hB,ht⟩:=h4 (by rw [nc_len] at hp; exact hp)
 refine ⟨g,0,e,?_⟩
 rw [← ht]
 exact hB.cells.take _
theorem Rst.open {base : Nat} {w : World} {v : Value} {l : List Nat} (h : Rst base w v l) (hp : 0 < l.length) :
  ∃ g cap,v=.slice (some ⟨g,0,none⟩) l.length cap ∧ l.length ≤ cap ∧ base ≤ g ∧ g < w.heap.size ∧ (∀ j,j < l.length → w.cell? ⟨g,j,none⟩=some (.int .u64 ((l.getD j 0 : Nat) : Int))) ∧ (∀ j,w.frozen? ⟨g,j,none⟩=false) ∧
   (∀ k,k ≤ l.length → Rst base w (.slice (some ⟨g,0,none⟩) k cap) (l.take k)) ∧
   ∀ (j x : Nat),j < l.length → x < 2147483647 → Rst base (w.setCell ⟨g,j,none⟩ (.int .u64 (x : Int))) v (l.set j x):=by
 obtain ⟨ao,cap,h1,h2,h3,h4⟩:=h
 obtain ⟨g,cs,rfl,hg,hB,ht⟩:=h4 hp
 have hcs : ∀ j,j < l.length → cs[j]?=some (.int .u64 ((l.getD j 0 : Nat) : Int)):=fun j hj=>by
  rw [← nc_get l j hj,← ht,List.getElem?_take,if_pos hj]
 refine ⟨g,cap,h1,h2,hg,hB.lt,fun j hj=>hB.at1 j _ (hcs j hj),hB.frozen,fun k hk=>?_,fun j x hj hx=>?_⟩
 ·refine ⟨some ⟨g,0,none⟩,cap,by rw [List.length_take,Nat.min_eq_left hk],by rw [List.length_take]; omega,h3.sub fun x hx=>List.mem_of_mem_take hx,fun _=>⟨g,cs,rfl,hg,hB,?_⟩⟩
  rw [List.length_take,Nat.min_eq_left hk,nc,List.map_take]
  have h5 : (cs.take l.length).take k=(nc l).take k:=by rw [ht]
  rw [List.take_take,Nat.min_eq_left hk] at h5
  exact h5
 ·refine ⟨some ⟨g,0,none⟩,cap,by rw [List.length_set]; exact h1,by rw [List.length_set]; exact h2,h3.set j hx,fun _=>⟨g,cs.set j (.int .u64 (x : Int)),rfl,hg,hB.set j _,?_⟩⟩
  rw [List.length_set,List.take_set,ht,nc,nc,List.map_set]
theorem strip_zero {r : List Nat} (h : 0 < r.length) (h0 : r.getD (r.length - 1) 0=0) : strip (r.take (r.length - 1))=strip r:=by
 have hr : r=r.take (r.length - 1) ++ [0]:=by
  have h1 : r.drop (r.length - 1)=[0]:=by
   rw [List.drop_eq_getElem_cons (by omega),List.drop_of_length_le (by omega)]
   rw [List.getD_eq_getElem?_getD,List.getElem?_eq_getElem (by omega)] at h0
   simpa using h0
  rw [← h1,List.take_append_drop]
 generalize r.take (r.length - 1)=s at *
 subst hr
 clear h h0
 induction s with
 | nil=>rfl
 | cons x s ih=>rw [List.cons_append,strip,strip,ih]
theorem strip_last {r : List Nat} (h : 0 < r.length) (h0 : r.getD (r.length - 1) 0 ≠ 0) : strip r=r:=by
 induction r with
 | nil=>rfl
 | cons x r ih =>
  cases r with
  | nil=>simp at h0; simp [strip,h0]
  | cons y r =>
   have:=ih (by simp) (by simpa using h0)
   rw [strip,this]
theorem redTo_len (b r : List Nat) (f at_ : Nat) : ∀ i,(redTo b r f at_ i).length=r.length
 | 0=>rfl
 | i + 1=>by rw [redTo,List.length_set,redTo_len b r f at_ i]
end Q
namespace Go.Proofs.YtopclbeomcggiaaGreat
open Go.RowKit Q
theorem info_elN : ∃ z bytes,(Tryz.prog.info? elN.T).map (fun i=>(i.zero,i.size,i.bytes))=some (some z,elN.sz,bytes) ∧ z.cells.size=elN.sz ∧ bytes ≤ 100000:=⟨.int .u64 0,8,infoU64,rfl,by decide⟩
def RetRst (w : World) (l : List Nat) (e : Ending) (w' : World) : Prop:=∃ v,e=.returned v ∧ Rst w.heap.size w' v l ∧ Below w.heap.size w w'
set_option maxHeartbeats 2000000 in
set_option maxRecDepth 100000 in
theorem cloneN_any (v : Value) (l : List Nat) (w : World) (h : IsSl elN w v l) (hl : l.length ≤ 1000000) : Calls Tryz.prog 138 #[v] w (RetRst w l):=by
 obtain ⟨ao,cap,xs,rfl,hcap,hat,hex⟩:=id h
 have heq:=Go.Lib.run_eql_slice_nil (P:=Tryz.prog) w 94 97 ao l.length cap 0 0 Tryz.underlying94
 cases ao with
 | none =>
  have hnil : l=[]:=by
   cases l with
   | nil=>rfl
   | cons t l =>
    obtain ⟨b,off,e,_⟩:=hat (by rw [hex.length]; simp [elN])
    cases e
  subst hnil
  simp only [List.length_nil,Option.isNone_none] at heq ⊢
  go_enter Tryz.func138,Tryz.ntmps138
  go_wp2
  go_ret
  exact ⟨_,rfl,Rst.of (OwnSl.nil _ _ _),Below.refl _ _⟩
 | some a =>
  have hbe : Below w.heap.size w (w.alloc (.cells #[] u64T)):=(Below.refl _ _).alloc (Nat.le_refl _) _
  have hown : OwnSl elN w.heap.size (w.alloc (.cells #[] u64T)) (.slice (some ⟨w.heap.size,0,none⟩) 0 0) []:=own_lit0 elN w
  have h1:=h.on hbe
  clear hat
  go_enter Tryz.func138,Tryz.ntmps138
  go_wp2_with (at_builtin; refine wpList_append_sl rfl _ _ 94 rfl Tryz.underlying94 info_elN rfl rfl hown h1 (by simp; omega) hbe.size ?_; intro v5 w5 hown5 hl5 hv5)
  go_ret
  exact ⟨_,rfl,by simpa using Rst.of hown5,hbe.trans (hl5.belowAt hbe.size (fun k hk=>by cases hk; exact Nat.le_refl _))⟩
end Go.Proofs.YtopclbeomcggiaaGreat
end
section
namespace Q
open Go Go.RowKit Go.Proofs.YtopclbeomcggiaaGreat
theorem Rst.mono {b b' : Nat} {w : World} {v : Value} {l : List Nat} (h : Rst b w v l) (hb : b' ≤ b) : Rst b' w v l:=by
 obtain ⟨ao,cap,h1,h2,h3,h4⟩:=h
 refine ⟨ao,cap,h1,h2,h3,fun hp=>?_⟩
 obtain ⟨g,cs,e,hg,hB⟩:=h4 hp
 exact ⟨g,cs,e,by omega,hB⟩
def FactL.rst {T : TypeId} (B : Nat) (l : List Nat) : FactL (Lr none T):=FactL.of (fun v w=>Rst B w v l) (fun _ _ _ hb h=>h.on hb.below)
theorem nsl_cells {w : World} {v : Value} {l : List Nat} (h : IsSl elN w v l) (hp : 0 < l.length) : ∃ b off cap,v=.slice (some ⟨b,off,none⟩) l.length cap ∧ Cells u64T w b off (nc l) ∧ Lim l:=by
 obtain ⟨ao,cap,rfl,h1,h2,h3⟩:=isSl_n.1 h
 obtain ⟨b,off,rfl,hc⟩:=h2 (by rw [nc_len]; exact hp)
 exact ⟨b,off,cap,rfl,hc,h3⟩
theorem pr2 : pr - 2=2147483645:=rfl
end Q
namespace Go.Proofs.YtopclbeomcggiaaGreat
open Go.RowKit Q
set_option maxHeartbeats 8000000 in
set_option maxRecDepth 100000 in
theorem shared_any (vx vy : Value) (x y : List Nat) (R : Nat) (w : World) (hx : IsSl elN w vx x) (hy : IsSl elN w vy y) (lx : x.length ≤ 100000) (ly : y.length ≤ 100000) (h : shareO x y=some R) :
  Calls Tryz.prog 119 #[vx,vy] w (Ret w (.int .i64 ((R : Int) - 1))):=by
 obtain ⟨F,hF⟩ : ∃ F,F=fuel:=⟨_,rfl⟩
 unfold shareO at h
 rw [← hF] at h
 obtain ⟨ax,cx,rfl,hcx⟩:=hx.shape
 obtain ⟨ay,cy,rfl,hcy⟩:=hy.shape
 replace hx:=Lib.hid hx
 replace hy:=Lib.hid hy
 replace hF:=Lib.hid hF
 go_enter Tryz.func119,Tryz.ntmps119
 go_upto_if 15 with (fail)
 go_cut [0,1,16,17] (fun va vb _ _ wc=>∃ a b,Hid (IsSl elN wc va a) ∧ Hid (IsSl elN wc vb b) ∧ Hid (shareGo F a b=some R) ∧ a.length ≤ 100000 ∧ b.length ≤ 100000 ∧ Below w.heap.size w wc)
 case first =>
  by_cases hlt : x.length < y.length
  ·rw [if_pos hlt] at h
   replace h:=Lib.hid h
   have hlt' : (x.length : Int) < y.length:=by omega
   go_wp2
   go_meet
   case rel=>exact ⟨y,x,hy,hx,h,ly,lx,Below.refl _ _⟩
  ·rw [if_neg hlt] at h
   replace h:=Lib.hid h
   have hlt' : ¬ (x.length : Int) < y.length:=by omega
   go_wp2
   go_meet
   case rel=>exact ⟨x,y,hx,hy,h,lx,ly,Below.refl _ _⟩
 case rest =>
  clear hx hy h lx ly hcx hcy
  obtain ⟨a,b,ha,hb,hs,la,lb,hbw⟩:=hcut
  go_wp2
  go_loopg [0,1] F (fun n va vb wr=>∃ a b,Hid (IsSl elN wr va a) ∧ Hid (IsSl elN wr vb b) ∧ Hid (shareGo n a b=some R) ∧ a.length ≤ 100000 ∧ b.length ≤ 100000 ∧ Below w.heap.size w wr)
  case atStart=>exact ⟨a,b,ha,hb,hs,la,lb,hbw⟩
  case round =>
   clear ha hb hs la lb hbw a b
   obtain ⟨a,b,ha,hb,hs,la,lb,hbr⟩:=hrel
   cases gk with
   | zero=>exact absurd hs.out (by simp [shareGo])
   | succ n =>
   have hs2:=hs.out
   rw [shareGo] at hs2
   clear hs
   by_cases hb0 : b=[]
   ·rw [if_pos hb0,Option.some.injEq] at hs2
    subst hb0
    obtain ⟨aa,ca,rfl,hca⟩:=ha.out.shape
    obtain ⟨ab,cb,rfl,hcb⟩:=hb.out.shape
    simp only [List.length_nil]
    have hfin:=Lib.hid hs2
    clear hs2
    go_wp2
    go_ret
    exact ⟨by rw [← hfin.out]; rfl,hbr⟩
   ·rw [if_neg hb0] at hs2
    have hpb : 0 < b.length:=List.length_pos_iff.2 hb0
    obtain ⟨bb,ob,cb,rfl,hCb,hLb⟩:=nsl_cells hb.out hpb
    rw [← hF.out] at hs2
    obtain ⟨inv,hinv⟩ : ∃ inv,inv=powm (b.getD (b.length - 1) 0) 2147483645:=⟨_,rfl⟩
    rw [pr2,← hinv] at hs2
    cases hr : restO b inv F a with
    | none=>rw [hr] at hs2; cases hs2
    | some r1 =>
    rw [hr] at hs2
    have hinvl : inv < 2147483647:=by rw [hinv]; exact powm_lt _ _
    have hcl:=Lib.hid (fun W (hb : Below wr.heap.size wr W)=>cloneN_any _ a W (ha.out.on hb) (by omega))
    have hlast:=hLb.getD (b.length - 1)
    have hpw:=Lib.hid (fun W=>power_any (b.getD (b.length - 1) 0) 2147483645 W (by omega) (by omega))
    rw [← hinv] at hpw
    have hcell : ∀ W,Below wr.heap.size wr W → W.cell? ⟨bb,ob + (b.length - 1),none⟩=some (.int .u64 ((b.getD (b.length - 1) 0 : Nat) : Int)):=fun W hb=>(hCb.on hb).ncell _ (by omega)
    generalize b.getD (b.length - 1) 0=xl at hpw hcell
    replace hinv:=Lib.hid hinv
    replace hs2:=Lib.hid hs2
    replace hr:=Lib.hid hr
    replace hcell:=Lib.hid hcell
    have hpos : (0 : Int) < (b.length : Int):=by omega
    clear hlast hb0
    go_upto_region 4 with (fail)
    refine wp_region_L mixed (none) (0) (Okr.none) [.eq (u0),.rst wr.heap.size a,.eq (.slice (some ⟨bb,ob,none⟩) b.length cb),.eq (.slice (some ⟨bb,ob,none⟩) b.length cb),.eq (.int .i64 b.length),.eq (.int .i64 ((b.length : Int) - 1)),.eq (.pointer (some ⟨bb,ob + (b.length - 1) * 1,none⟩)),.eq (.int .u64 xl),.ret (.int .u64 inv)] [21,22,23,24,25,26,27,28,29] rfl rfl rfl rfl ⟨?_,?_,?_,?_,?_,?_,?_,?_,?_,trivial⟩ ?_
    ·exact fun A w1 hA hL hS he=>goOn_plain rfl (stepG_mv rfl rfl (hA 0 rfl))
    ·intro A w1 hA hL hS he
     have hb:=hS rfl
     have h21 : A.eval (.tmp 21)=_:=he.1 rfl
     have hf0 : A.eval (.func 138)=.func (.func 138) #[] #[]:=rfl
     refine goOn_plain rfl ?_
     refine stepG_call (f:=138) (args:=#[u0]) rfl rfl ?_ ?_
     ·generalize A.eval=ev at *
      go_simp
     ·refine (hcl.out _ hb).mono ?_
      rintro e w' ⟨v,rfl,hi,hb'⟩
      exact ⟨_,rfl,hb',hi.mono hb.size⟩
    ·exact fun A w1 hA hL hS he=>goOn_plain rfl (stepG_mv rfl rfl (hA 1 rfl))
    ·exact fun A w1 hA hL hS he=>goOn_plain rfl (stepG_mv rfl rfl (hA 1 rfl))
    ·intro A w1 hA hL hS he
     have h24 : A.eval (.tmp 24)=_:=he.1 rfl
     refine goOn_plain rfl (stepG_pure rfl rfl ?_)
     generalize A.eval=ev at *
     go_simp
    ·intro A w1 hA hL hS he
     have h25 : A.eval (.tmp 25)=_:=he.1 rfl
     have hc0 : A.eval (.const (.int .i64 1))=.int .i64 1:=rfl
     refine goOn_plain rfl (stepG_pure rfl rfl ?_)
     generalize A.eval=ev at *
     go_simp
     exact wrap64 (by omega) (by omega)
    ·intro A w1 hA hL hS he
     have h23 : A.eval (.tmp 23)=_:=he.1 rfl
     have h26 : A.eval (.tmp 26)=_:=he.2.1 rfl
     refine goOn_plain rfl ?_
     exact stepG_pure rfl rfl (execOp_index rfl (by rw [h23,h26]; exact run_index Tryz.underlying94 (by kernel_rfl) w1 bb ob _ _ (b.length - 1) .i64 _ (by first | rfl | simp | omega) (by omega)))
    ·intro A w1 hA hL hS he
     have hb:=hL.below
     have h27 : A.eval (.tmp 27)=_:=he.1 rfl
     refine goOn_plain rfl ?_
     have c0:=hcell.out w1 hb
     refine stepG_pure rfl rfl ?_
     generalize A.eval=ev at *
     go_simp
    ·intro A w1 hA hL hS he
     have hb:=hS rfl
     have h28 : A.eval (.tmp 28)=_:=he.1 rfl
     have hf0 : A.eval (.func 137)=.func (.func 137) #[] #[]:=rfl
     have hc0 : A.eval (.const (.int .i64 2147483645))=.int .i64 2147483645:=rfl
     refine goOn_plain rfl ?_
     refine stepG_call (f:=137) (args:=#[.int .u64 xl,(.int .i64 2147483645)]) rfl rfl ?_ ?_
     ·generalize A.eval=ev at *
      go_simp
     ·refine (hpw.out _).mono ?_
      rintro e w' ⟨rfl,hb'⟩
      exact ⟨_,rfl,hb',rfl⟩
    ·intro W1 hL1
     have hb1:=hL1.below
     simp only [TailL,FactL.eq,FactL.rst,FactL.ret,FactL.of,List.length_cons,List.length_nil,List.drop_succ_cons,List.drop_zero]
     rintro v22 h22
     go_frame
     have hbr1:=hbr.trans (hb1.mono hbr.size)
     have hbc : ∀ W,Below wr.heap.size wr W → ∀ k,k < b.length → W.cell? ⟨bb,ob + k,none⟩=some (.int .u64 ((b.getD k 0 : Nat) : Int)):=fun W hb k hk=>(hCb.on hb).ncell _ hk
     replace hbc:=Lib.hid hbc
     replace h22:=Lib.hid h22
     clear hL1 hcl hpw hcell hCb
     generalize wr=Wb at *
     go_wp2
     go_loopg [5] F (fun m v5 wz=>∃ r,Hid (Rst Wb.heap.size wz v5 r) ∧ Hid (restO b inv m r=some r1) ∧ r.length ≤ 100000 ∧ Below Wb.heap.size Wb wz)
     case atStart=>exact ⟨a,h22,hr,la,hb1⟩
     case round =>
      clear h22 hr hb1 hbr1
      obtain ⟨r,hR,hrun,lr,hbz⟩:=hrel
      obtain ⟨gk',hgk⟩ : ∃ gk',gk'=gk:=⟨_,rfl⟩
      cases gk with
      | zero=>exact absurd hrun.out (by simp [restO])
      | succ m =>
      clear hgk
      have hrun2:=hrun.out
      rw [restO] at hrun2
      clear hrun
      by_cases hle : b.length ≤ r.length
      ·rw [if_pos hle] at hrun2
       obtain ⟨g,cap,rfl,hcap,hgb,hgl,hcr,-,-,-⟩:=hR.out.open (by omega)
       obtain ⟨A,hA⟩ : ∃ A,A=r.length - b.length:=⟨_,rfl⟩
       have hA2 : (r.length : Int) - (b.length : Int)=(A : Int):=by omega
       have hAb : A + b.length=r.length:=by omega
       rw [← hA] at hrun2
       have htop:=hR.out.isSl
       obtain ⟨-,-,-,-,-,hLr⟩:=isSl_n.1 htop
       have hct:=hcr (r.length - 1) (by omega)
       have hxl:=hLr.getD (r.length - 1)
       generalize r.getD (r.length - 1) 0=xt at *
       obtain ⟨f,hf⟩ : ∃ f,f=xt * inv % pr:=⟨_,rfl⟩
       rw [← hf] at hrun2
       have hfl : f < 2147483647:=by rw [hf]; exact mod_pr _
       have hxi : xt * inv ≤ 2147483647 * 2147483647:=Nat.mul_le_mul (by omega) (by omega)
       have hfi : ((xt : Int) * (inv : Int)) % 2147483647=(f : Int):=by rw [hf,pr_eq]; simp
       have hle' : ¬ (r.length : Int) < (b.length : Int):=by omega
       replace hrun2:=Lib.hid hrun2
       have hst : Hid (Rst Wb.heap.size wr (.slice (some ⟨g,0,none⟩) r.length cap) (redTo b r f A 0)):=hR
       clear hf hA hcr htop hR
       go_wp2_with (refine wpList_index_at rfl (.tmp 35) (.tmp 38) _ rfl _ Tryz.underlying94 _ _ _ infoU64 _ _ _ rfl _ _ rfl (r.length - 1) (by omega) (by omega) g 0 rfl ?_; rw [Nat.mul_one,Nat.zero_add])
       go_loopw [51] (fun i wy=>∃ k : Nat,k ≤ b.length ∧ i=.int .i64 k ∧ Hid (Rst Wb.heap.size wy (.slice (some ⟨g,0,none⟩) r.length cap) (redTo b r f A k)) ∧ Below Wb.heap.size Wb wy) (fun i _=>b.length - (intOf i).toNat)
       case atStart=>exact ⟨0,by omega,rfl,hst,hbz⟩
       case round =>
        clear hst hbz
        obtain ⟨k,hk,rfl,hR,hbz⟩:=hrel
        by_cases hkl : k < b.length
        ·have hkl' : (k : Int) < (b.length : Int):=by omega
         have hlen:=redTo_len b r f A k
         obtain ⟨g',cap',hvv,-,-,-,hcr,hfr,-,hset⟩:=hR.out.open (by omega)
         simp only [Value.slice.injEq,Option.some.injEq,Addr.mk.injEq,and_true] at hvv
         obtain ⟨rfl,-,rfl⟩:=hvv
         have hsucc : redTo b r f A (k + 1)=(redTo b r f A k).set (A + k) (((redTo b r f A k).getD (A + k) 0 + (pr - b.getD k 0) * f) % pr):=rfl
         have hLr:=hR.out.isSl
         obtain ⟨-,-,-,-,-,hLr⟩:=isSl_n.1 hLr
         have h1:=hcr (A + k) (by omega)
         have h2:=hbc.out wr hbz k hkl
         have h3:=hfr (A + k)
         have hx1:=hLr.getD (A + k)
         have hc1:=hLb.getD k
         have hs9:=hset (A + k) (((redTo b r f A k).getD (A + k) 0 + (pr - b.getD k 0) * f) % pr) (by omega) (mod_pr _)
         rw [← hsucc] at hs9
         obtain ⟨nx,hnx⟩ : ∃ nx,nx=redTo b r f A (k + 1):=⟨_,rfl⟩
         rw [← hnx] at hs9
         replace hnx:=Lib.hid hnx
         clear hsucc
         generalize (redTo b r f A k).getD (A + k) 0=x at *
         generalize b.getD k 0=c at *
         obtain ⟨d,hd⟩ : ∃ d,d=pr - c:=⟨_,rfl⟩
         rw [← hd] at hs9
         rw [pr_eq] at hd hs9
         have hd2 : (2147483647 : Int) - (c : Int)=(d : Int):=by omega
         have hdf : d * f ≤ 2147483647 * 2147483647:=Nat.mul_le_mul (by omega) (by omega)
         have hv9 : (((x + d * f) % 2147483647 : Nat) : Int)=((x : Int) + (d : Int) * (f : Int)) % 2147483647:=by simp
         rw [hv9] at hs9
         have hAk2 : A + k < r.length:=by omega
         have hbz9:=hbz.trans (setCell_below (W:=wr) (g:=g) (j:=A + k) hgb (.int .u64 (((x : Int) + (d : Int) * (f : Int)) % 2147483647)))
         replace hs9:=Lib.hid hs9
         clear hcr hfr hset hv9 hd hR hLr hlen
         replace hAb:=Lib.hid hAb
         go_wp2_with (first
          | (refine wpList_index_at rfl (.tmp 49) (.tmp 51) _ rfl _ Tryz.underlying94 _ _ _ infoU64 _ _ _ rfl _ _ rfl k rfl hkl bb ob rfl ?_; rw [Nat.mul_one])
          | (refine wpList_index_at rfl (.tmp 60) (.tmp 63) _ rfl _ Tryz.underlying94 _ _ _ infoU64 _ _ _ rfl _ _ rfl (A + k) (by omega) hAk2 g 0 rfl ?_; rw [Nat.mul_one,Nat.zero_add])
          | (refine wpList_index_at rfl (.tmp 56) (.tmp 59) _ rfl _ Tryz.underlying94 _ _ _ infoU64 _ _ _ rfl _ _ rfl (A + k) (by omega) hAk2 g 0 rfl ?_; rw [Nat.mul_one,Nat.zero_add]))
         go_roundw
         case rel=>exact ⟨k + 1,by omega,by go_num,by rw [← hnx.out]; exact hs9,hbz9⟩
         case measure=>simp [intOf]; omega
        ·obtain rfl : k=b.length:=by omega
         have hlen:=redTo_len b r f A b.length
         generalize redTo b r f A b.length=r2 at *
         obtain ⟨S,hS⟩ : ∃ S,S=strip r2:=⟨_,rfl⟩
         have hst : Hid (strip r2=S):=Lib.hid hS.symm
         have hrun3 : Hid (restO b inv m S=some r1):=Lib.hid (by rw [hS]; exact hrun2.out)
         clear hrun2 hS
         go_wp2
         go_loopg [5] r.length (fun q v5 wy=>∃ r3,Hid (Rst Wb.heap.size wy v5 r3) ∧ Hid (strip r3=S) ∧ r3.length ≤ q ∧ q ≤ 100000 ∧ Below Wb.heap.size Wb wy)
         case atStart=>exact ⟨r2,hR,hst,by omega,by omega,hbz⟩
         case round =>
          clear hR hst hbz hlen r2
          obtain ⟨r3,hR,hst,lr3,hq,hbz⟩:=hrel
          by_cases hp3 : 0 < r3.length
          ·obtain ⟨g3,cap3,rfl,hcap3,hgb3,hgl3,hcr3,-,htk3,-⟩:=hR.out.open hp3
           have hct3:=hcr3 (r3.length - 1) (by omega)
           have hxl3:=(isSl_n.1 hR.out.isSl)
           obtain ⟨-,-,-,-,-,hLr3⟩:=hxl3
           have hx3:=hLr3.getD (r3.length - 1)
           have hz:=fun h=>strip_zero (r:=r3) hp3 h
           have hnz:=fun h=>strip_last (r:=r3) hp3 h
           have htk:=htk3 (r3.length - 1) (by omega)
           have hp3' : (0 : Int) < (r3.length : Int):=by omega
           generalize r3.getD (r3.length - 1) 0=x3 at *
           clear hcr3 htk3 hLr3
           by_cases hx0 : x3=0
           ·subst hx0
            have hstz : Hid (strip (r3.take (r3.length - 1))=S):=Lib.hid (by rw [hz rfl]; exact hst.out)
            have hlz : (r3.take (r3.length - 1)).length=r3.length - 1:=by rw [List.length_take]; omega
            replace htk:=Lib.hid htk
            clear hz hnz hst hR
            obtain ⟨q',hq'⟩ : ∃ q',gk=q' + 1:=⟨gk - 1,by omega⟩
            replace hq':=Lib.hid hq'
            generalize r3.take (r3.length - 1)=r4 at *
            replace hlz:=Lib.hid hlz
            go_wp2_with (first
             | (refine wpList_index_at rfl (.tmp 78) (.tmp 81) _ rfl _ Tryz.underlying94 _ _ _ infoU64 _ _ _ rfl _ _ rfl (r3.length - 1) (by omega) (by omega) g3 0 rfl ?_; rw [Nat.mul_one,Nat.zero_add])
             | (refine wpList_slice_hi rfl _ _ 94 rfl Tryz.underlying94 (by kernel_rfl) _ _ _ rfl .i64 _ rfl (r3.length - 1) (by omega) (by omega) ?_))
            go_roundg q'
            case measure=>have:=hq'.out; omega
            case rel=>exact ⟨r4,by have h1:=htk.out; have h2:=hlz.out; rw [← h2] at h1; rw [← h2]; exact Lib.hid h1,hstz,by have:=hq'.out; have:=hlz.out; omega,by have:=hq'.out; omega,hbz⟩
           ·have hfin : Hid (S=r3):=Lib.hid (by rw [← hst.out]; exact hnz hx0)
            have hne : ((x3 : Int) == 0)=false:=by simp; omega
            clear hz hnz hst htk hx0
            go_wp2_with (refine wpList_index_at rfl (.tmp 78) (.tmp 81) _ rfl _ Tryz.underlying94 _ _ _ infoU64 _ _ _ rfl _ _ rfl (r3.length - 1) (by omega) (by omega) g3 0 rfl ?_; rw [Nat.mul_one,Nat.zero_add])
            go_roundg m
            case measure=>omega
            case rel=>exact ⟨r3,hR,by rw [← hfin.out]; exact hrun3,by omega,hbz⟩
          ·obtain rfl : r3=[]:=List.eq_nil_of_length_eq_zero (by omega)
           have hfin : Hid (S=[]):=Lib.hid (by rw [← hst.out]; rfl)
           obtain ⟨a3,c3,rfl,-⟩:=hR.out.isSl.shape
           simp only [List.length_nil]
           clear hst
           go_wp2
           go_roundg m
           case measure=>omega
           case rel=>exact ⟨[],hR,by rw [← hfin.out]; exact hrun3,by simp,hbz⟩
      ·rw [if_neg hle,Option.some.injEq] at hrun2
       subst hrun2
       obtain ⟨ar,cr,rfl,-⟩:=hR.out.isSl.shape
       have hle' : (r.length : Int) < (b.length : Int):=by omega
       have hbW:=Lib.hid (hb.out.on hbz)
       have hbrz:=hbr.trans (hbz.mono hbr.size)
       have hRs:=Lib.hid hR.out.isSl
       clear hR hb ha hbc
       go_wp2
       go_roundg n
       case measure=>omega
       case rel=>exact ⟨b,r,hbW,hRs,hs2,lb,lr,hbrz⟩
end Go.Proofs.YtopclbeomcggiaaGreat
end
section
namespace Q
theorem imgO_len {a : List Trm} {v at_ : Nat} {l : List Nat} (ka : Wp a) (h : imgO a v at_=some l) : l.length ≤ 100000:=by
 rw [(imgGo_len h).1,List.length_replicate]
 have:=(ka.deg v).2
 omega
theorem boundGo_cons {a b : List Trm} {v k : Nat} {l : List Nat} {m : Int} (h : boundGo a b v (k :: l)=some m) :
  (fineB (imgO a v (17 + 100 * k))=true ∧ fineB (imgO b v (17 + 100 * k))=true ∧ ∃ x y n,imgO a v (17 + 100 * k)=some x ∧ imgO b v (17 + 100 * k)=some y ∧ shareO x y=some n ∧ m=(n : Int) - 1) ∨
  ((fineB (imgO a v (17 + 100 * k))=false ∨ fineB (imgO b v (17 + 100 * k))=false) ∧ boundGo a b v l=some m):=by
 rw [boundGo] at h
 cases hx : imgO a v (17 + 100 * k) with
 | none=>rw [hx] at h; exact .inr ⟨.inl rfl,h⟩
 | some x =>
  cases hy : imgO b v (17 + 100 * k) with
  | none=>rw [hx,hy] at h; exact .inr ⟨.inr rfl,h⟩
  | some y =>
   rw [hx,hy] at h
   change (if (fineB (some x) && fineB (some y))=true then _ else _)=_ at h
   cases h1 : fineB (some x)
   ·rw [h1] at h; exact .inr ⟨.inl rfl,by simpa using h⟩
   ·cases h2 : fineB (some y)
    ·rw [h1,h2] at h; exact .inr ⟨.inr rfl,by simpa using h⟩
    ·rw [h1,h2] at h
     rw [if_pos (show (true && true)=true from rfl)] at h
     cases hs : shareO x y with
     | none=>rw [hs] at h; cases h
     | some n =>
      rw [hs] at h
      have h9 : some ((n : Int) - 1)=some m:=h
      exact .inl ⟨rfl,rfl,x,y,n,rfl,rfl,hs,(Option.some.inj h9).symm⟩
end Q
namespace Go.Proofs.YtopclbeomcggiaaGreat
open Go.RowKit Q
set_option maxHeartbeats 1000000 in
set_option maxRecDepth 100000 in
theorem bound_any (va vb : Value) (a b : List Trm) (v : Nat) (m : Int) (w : World) (ha : IsPoly w va a) (hb : IsPoly w vb b) (ka : Wp a) (kb : Wp b) (hv : v < 4) (hna : a ≠ []) (hnb : b ≠ []) (h : boundO a b v=some m) :
  Calls Tryz.prog 92 #[va,vb,.int .i64 v] w (Ret w (.int .i64 m)):=by
 have hia:=Lib.hid (fun k W (hk : k < 3) (hb : Below w.heap.size w W)=>image_any va a v (17 + 100 * k) W (ha.on hb) ka hv hna (by omega))
 have hib:=Lib.hid (fun k W (hk : k < 3) (hbb : Below w.heap.size w W)=>image_any vb b v (17 + 100 * k) W (hb.on hbb) kb hv hnb (by omega))
 have hda:=Lib.hid (fun W (hb : Below w.heap.size w W)=>deg_any va a v W (ha.on hb) hv (by have:=ka.len; omega))
 have hdb:=Lib.hid (fun W (hbb : Below w.heap.size w W)=>deg_any vb b v W (hb.on hbb) hv (by have:=kb.len; omega))
 have hla:=Lib.hid (fun k l (h : imgO a v (17 + 100 * k)=some l)=>imgO_len ka h)
 have hlb:=Lib.hid (fun k l (h : imgO b v (17 + 100 * k)=some l)=>imgO_len kb h)
 have hst : Hid (boundGo a b v ([0,1,2].drop 0)=some m):=Lib.hid h
 obtain ⟨aa,ca,rfl,-⟩:=ha.shape
 obtain ⟨ab,cb,rfl,-⟩:=hb.shape
 have hka:=(ka.deg v)
 have hkb:=(kb.deg v)
 clear ha hb ka kb hna hnb h
 go_enter Tryz.func92,Tryz.ntmps92
 go_wp2
 go_loopw [12] (fun i wr=>∃ k : Nat,k ≤ 3 ∧ i=.int .u64 k ∧ Hid (boundGo a b v ([0,1,2].drop k)=some m) ∧ Below w.heap.size w wr) (fun i _=>match i with | .int _ x=>3 - x.toNat | _=>0)
 case atStart=>exact ⟨0,by omega,by go_num,hst,Below.refl _ _⟩
 case round =>
  clear hst
  obtain ⟨k,hk,rfl,hB,hbr⟩:=hrel
  by_cases hk3 : k < 3
  ·have hk3' : (k : Int) < 3:=by omega
   have hdr : ([0,1,2] : List Nat).drop k=k :: ([0,1,2] : List Nat).drop (k + 1):=by
    obtain rfl | rfl | rfl : k=0 ∨ k=1 ∨ k=2:=by omega
    all_goals rfl
   have hB2:=hB.out
   rw [hdr] at hB2
   have h1:=hia.out k wr hk3 hbr
   have h2:=hib.out k
   have hke : ((17 + 100 * k : Nat) : Int)=17 + 100 * (k : Int):=by omega
   rw [hke] at h1 h2
   clear hke
   have hc:=boundGo_cons hB2
   have hla1:=hla.out k
   have hlb1:=hlb.out k
   clear hdr hB hB2
   generalize imgO a v (17 + 100 * k)=oa at *
   generalize imgO b v (17 + 100 * k)=ob at *
   replace hc:=Lib.hid hc
   replace h2:=Lib.hid h2
   replace hla1:=Lib.hid hla1
   replace hlb1:=Lib.hid hlb1
   go_upto_region 6 with (first
    | (go_at_call 118; refine (h2.out w3 hk3 (hbr.trans (hb3.mono hbr.size))).mono ?_; rintro en w4 ⟨v4,rfl,hv4,hb4⟩)
    | (go_at_call 118; refine h1.mono ?_; rintro en w3 ⟨v3,rfl,hv3,hb3⟩))
   have hb34:=hb3.trans (hb4.mono hb3.size)
   have hbr4:=hbr.trans (hb34.mono hbr.size)
   rcases hc.out with ⟨f1,f2,x,y,n,rfl,rfl,hs,rfl⟩ | ⟨hf,hrest⟩
   ·rw [f1,f2]
    have hx:=(hv3 x rfl).on hb4
    have hy:=hv4 y rfl
    have hsh:=shared_any v3 v4 x y n w4 hx hy (hla1.out x rfl) (hlb1.out y rfl) hs
    replace hsh:=Lib.hid hsh
    clear hv3 hv4 h1 h2 f1 f2 hx hy hs hc
    go_wp2_with (go_at_call 119; refine hsh.out.mono ?_; rintro en w5 ⟨rfl,hb5⟩)
    go_ret
    exact ⟨rfl,hbr4.trans (hb5.mono hbr4.size)⟩
   ·have hrest:=Lib.hid hrest
    clear hv3 hv4 h1 h2 hc
    cases f1 : fineB oa
    ·clear hf f1
     go_wp2
     go_roundw
     case rel=>exact ⟨k + 1,by omega,by go_num,hrest,hbr4⟩
     case measure=>simp; omega
    ·cases f2 : fineB ob
     ·clear hf f1 f2
      go_wp2
      go_roundw
      case rel=>exact ⟨k + 1,by omega,by go_num,hrest,hbr4⟩
      case measure=>simp; omega
     ·rw [f1,f2] at hf
      rcases hf with hf | hf <;> cases hf
  ·obtain rfl : k=3:=by omega
   have hfin : Hid (m=min (degP a v) (degP b v)):=Lib.hid (Option.some.inj hB.out).symm
   have h1:=hda.out wr hbr
   have h2:=hdb.out
   clear hda hdb hB
   generalize degP a v=da at *
   generalize degP b v=db at *
   go_wp2_with (first
    | (go_at_call 53; refine (h2 w3 (hbr.trans (hb3.mono hbr.size))).mono ?_; rintro en w4 ⟨rfl,hb4⟩)
    | (go_at_call 53; refine h1.mono ?_; rintro en w3 ⟨rfl,hb3⟩))
   go_ret
   exact ⟨by rw [hfin.out]; rfl,(hbr.trans (hb3.mono hbr.size)).trans (hb4.mono (hbr.trans (hb3.mono hbr.size)).size)⟩
end Go.Proofs.YtopclbeomcggiaaGreat
end
section
namespace Q
open Go Go.RowKit Go.Proofs.YtopclbeomcggiaaGreat
theorem divW_fuel {b ts : List Trm} {g : Trm} (hb : Wp b) (hg : b=g :: ts) {a : List Trm} {r : Option (List Trm)} (h : divW a b=some r) : ∃ k,DivR b g k a [] r:=by
 subst hg
 exact divO_run hb rfl h (by simp [fuel])
theorem rat1 {t : Trm} (h : ratB (1 / t.2)=true) : Rk (1 / t.2):=by
 simp only [ratB,Bool.and_eq_true,decide_eq_true_eq] at h
 refine ⟨h.1,?_⟩
 have:=nbits_le (n:=(1 / t.2).num.natAbs) (k:=32) (by omega)
 unfold CAP; omega
theorem rk1 : Rk (((1 : Int)) : Rat):=by
 refine ⟨by decide +kernel,?_⟩
 have:=nbits_le (n:=(((1 : Int)) : Rat).num.natAbs) (k:=1) (by decide +kernel)
 unfold CAP; omega
end Q
namespace Go.Proofs.YtopclbeomcggiaaGreat
open Go.RowKit Q Go.WideMaps Go.Maps
theorem one_any (w : World) : Calls Tryz.prog 51 #[] w (RetPoly w oneP):=by
 go_enter Tryz.func51,Tryz.ntmps51
 go_wp2_with (first
  | (go_at_call 47; refine (rwhole_any 1 _ (by omega) (by omega)).mono ?_; rintro e w1 ⟨v1,rfl,h1,hb1⟩)
  | (go_at_call 89; refine (const_any _ _ _ h1).mono ?_; rintro e w2 ⟨v2,rfl,h2,hb2⟩))
 go_ret
 exact ⟨_,rfl,h2,hb1.trans (hb2.mono hb1.size)⟩
theorem divW_any (va vb : Value) (a b : List Trm) (r : Option (List Trm)) (w : World) (ha : IsPoly w va a) (hb : IsPoly w vb b) (kb : Wp b) (h : divW a b=some r) : Calls Tryz.prog 93 #[va,vb] w (RetDivP w r):=by
 cases b with
 | nil=>simp only [divW,Option.some.injEq] at h; subst h; exact div_nil va vb a w ha hb
 | cons g b =>
  obtain ⟨k,hk⟩:=divW_fuel kb rfl h
  exact div_any va vb a b g k r w ha hb hk
theorem over_wp {a b q : List Trm} (h : overO a b=some q) : Wp q:=by
 unfold overO at h
 cases hd : divW a b with
 | none=>rw [hd] at h; cases h
 | some r =>
  rw [hd] at h
  obtain ⟨rfl,hq⟩:=g1_some h
  exact hq
theorem over_any (va vb : Value) (a b q : List Trm) (w : World) (ha : IsPoly w va a) (hb : IsPoly w vb b) (kb : Wp b) (h : overO a b=some q) : Calls Tryz.prog 56 #[va,vb] w (RetPoly w q):=by
 unfold overO at h
 cases hd : divW a b with
 | none=>rw [hd] at h; cases h
 | some r =>
  rw [hd] at h
  obtain ⟨rfl,hq⟩:=g1_some h
  have hc:=divW_any va vb a b r w ha hb kb hd
  clear hq hd h
  obtain ⟨aa,ca,rfl,hca⟩:=ha.shape
  obtain ⟨ab,cb,rfl,hcb⟩:=hb.shape
  go_enter Tryz.func56,Tryz.ntmps56
  go_wp2_with (go_at_call 93; refine hc.mono ?_; rintro e w1 ⟨v1,rfl,h1,hb1⟩)
  go_ret
  exact ⟨_,rfl,h1,hb1⟩
set_option maxHeartbeats 1000000 in
set_option maxRecDepth 100000 in
theorem constant_any (va : Value) (a : List Trm) (w : World) (ha : IsPoly w va a) : Calls Tryz.prog 50 #[va] w (Ret w (.bool (constB a))):=by
 match a,ha with
 | [],ha =>
  obtain ⟨aa,ca,rfl,hca⟩:=ha.shape
  go_enter Tryz.func50,Tryz.ntmps50
  go_wp2
  go_ret
  exact ⟨rfl,Below.refl _ _⟩
 | t :: u :: r,ha =>
  obtain ⟨aa,ca,rfl,hca⟩:=ha.shape
  have hne : (((t :: u :: r).length : Int) == 1)=false:=by simp; omega
  generalize (t :: u :: r).length=n at *
  have hcs : constB (t :: u :: r)=false:=rfl
  rw [hcs]
  go_enter Tryz.func50,Tryz.ntmps50
  go_wp2
  go_ret
  exact ⟨rfl,Below.refl _ _⟩
 | [t],ha =>
  obtain ⟨aa,ca,rfl,hca⟩:=ha.shape
  obtain ⟨ba,oa,csa,rfl,-,hEa,hCa⟩:=ha.get (j:=0) (t:=t) rfl
  obtain ⟨ra,rfl,hra⟩:=hEa
  change Cells monoT w ba (oa + 0 * 8) _ at hCa
  have hcs : constB [t]=decide (t.1=e0):=rfl
  rw [hcs]
  obtain ⟨e,c⟩:=t
  simp only at *
  have heq:=eq_ex e e0
  go_enter Tryz.func50,Tryz.ntmps50
  go_upto_region 1 with (fail)
  refine wp_region_S trivial (none) (0) (Okr.none) [.eq (.slice (some ⟨ba,oa,none⟩) 1 ca),.eq (.int .i64 1),.eq (.bool true),.eq (.bool true),.eq (.slice (some ⟨ba,oa,none⟩) 1 ca),.eq (.pointer (some ⟨ba,oa + 0 * 8,none⟩)),.eq (.pointer (some ⟨ba,oa + 0 * 8,none⟩)),.eq (.agg (exC e).toArray),.eq (.agg (exC e0).toArray),.eq (.bool (decide (e=e0))),.eq (.bool (decide (e=e0)))] [3,4,5,6,7,8,9,10,11,12,13] rfl rfl rfl rfl ⟨?_,?_,?_,?_,?_,?_,?_,?_,?_,?_,?_,trivial⟩ ?_
  ·exact fun A w1 hA hL hS he=>goOn_plain rfl (stepG_mv rfl rfl (hA 0 rfl))
  ·intro A w1 hA hL hS he
   have h3 : A.eval (.tmp 3)=_:=he.1 rfl
   refine goOn_plain rfl (stepG_pure rfl rfl ?_)
   generalize A.eval=ev at *
   go_simp
  ·intro A w1 hA hL hS he
   have h4 : A.eval (.tmp 4)=_:=he.1 rfl
   have hc0 : A.eval (.const (.int .i64 1))=.int .i64 1:=rfl
   refine goOn_plain rfl (stepG_pure rfl rfl ?_)
   generalize A.eval=ev at *
   go_simp
  ·exact fun A w1 hA hL hS he=>goOn_plain rfl (stepG_mv rfl rfl (he.1 rfl))
  ·exact fun A w1 hA hL hS he=>goOn_yes rfl rfl (he.1 rfl) (stepG_mv rfl rfl (hA 0 rfl))
  ·intro A w1 hA hL hS he
   have h6 : A.eval (.tmp 6)=_:=he.2.1 rfl
   have h7 : A.eval (.tmp 7)=_:=he.1 rfl
   have hc0 : A.eval (.const (.int .i64 0))=.int .i64 0:=rfl
   refine goOn_yes rfl rfl h6 ?_
   exact stepG_pure rfl rfl (execOp_index rfl (by rw [h7,show A.eval (.const (.int .i64 0))=(.int .i64 0) from rfl]; exact run_index Tryz.underlying27 (by kernel_rfl) w1 ba oa _ _ 0 .i64 _ (by first | rfl | simp | omega) (by omega)))
  ·intro A w1 hA hL hS he
   have h6 : A.eval (.tmp 6)=_:=he.2.1 rfl
   have h8 : A.eval (.tmp 8)=_:=he.1 rfl
   refine goOn_yes rfl rfl h6 ?_
   exact stepG_pure rfl rfl (execOp_field rfl (by rw [h8]; exact run_field37_0 _ _ _))
  ·intro A w1 hA hL hS he
   have hb:=hL.below
   have h6 : A.eval (.tmp 6)=_:=he.2.1 rfl
   have h9 : A.eval (.tmp 9)=_:=he.1 rfl
   refine goOn_yes rfl rfl h6 ?_
   exact stepG_pure rfl rfl (execOp_load rfl (by rw [h9]; exact run_loadAt_mid w1 _ _ _ _ _ (cells_ex (hCa.on hb)) Tryz.underlying36 rfl (by rw [show (exC e).length=4 from rfl]; kernel_rfl)))
  ·intro A w1 hA hL hS he
   have h6 : A.eval (.tmp 6)=_:=he.1 rfl
   refine goOn_yes rfl rfl h6 ?_
   refine stepG_pure rfl rfl ?_
   generalize A.eval=ev at *
   go_simp
   rfl
  ·intro A w1 hA hL hS he
   have h6 : A.eval (.tmp 6)=_:=he.2.2.1 rfl
   have h10 : A.eval (.tmp 10)=_:=he.1 rfl
   have h11 : A.eval (.tmp 11)=_:=he.2.1 rfl
   refine goOn_yes rfl rfl h6 ?_
   have hq:=heq w1
   refine stepG_pure rfl rfl ?_
   generalize A.eval=ev at *
   go_simp
  ·intro A w1 hA hL hS he
   have h6 : A.eval (.tmp 6)=_:=he.1 rfl
   have h12 : A.eval (.tmp 12)=_:=he.2.1 rfl
   have hc0 : A.eval (.const (.bool false))=.bool false:=rfl
   refine goOn_plain rfl (stepG_pure rfl rfl ?_)
   generalize A.eval=ev at *
   go_simp
  ·intro w2 hL2
   simp only [TailL,FactL.eq,List.length_cons,List.length_nil,List.drop_succ_cons,List.drop_zero]
   go_frame
   go_wp2
   go_ret
   exact ⟨rfl,hL2.below⟩
theorem normal_nil (va : Value) (w : World) (ha : IsPoly w va []) : Calls Tryz.prog 14 #[va] w (RetPoly w []):=by
 obtain ⟨aa,ca,rfl,hca⟩:=ha.shape
 simp only [List.length_nil]
 go_enter Tryz.func14,Tryz.ntmps14
 go_wp2
 go_ret
 exact ⟨_,rfl,IsSl.nil _ _,Below.refl _ _⟩
theorem norm_wp {a g : List Trm} (h : normO a=some g) : Wp g:=by
 cases a with
 | nil=>simp only [normO,Option.some.injEq] at h; subst h; exact Wp.nil
 | cons t r =>
  simp only [normO] at h
  split at h
  ·obtain ⟨h1,h2⟩:=g1_some h
   rw [h1]; exact h2
  ·cases h
set_option maxHeartbeats 8000000 in
set_option maxRecDepth 100000 in
theorem normal_any (va : Value) (a g : List Trm) (w : World) (ha : IsPoly w va a) (ka : Wp a) (h : normO a=some g) : Calls Tryz.prog 14 #[va] w (RetPoly w g):=by
 match a,ha,ka,h with
 | [],ha,ka,h =>
  simp only [normO,Option.some.injEq] at h; subst h
  exact normal_nil va w ha
 | t :: r,ha,ka,h =>
  simp only [normO] at h
  split at h
  next hb =>
   rw [Bool.and_eq_true] at hb
   have hg:=g1_some h
   have hrk:=rat1 hb.1
   have hft : Fits (((((1 : Int) : Rat)).den : Int) * t.2.num):=by
    have : ((((1 : Int) : Rat)).den : Int)=1:=rfl
    rw [this,Int.one_mul]
    have h9:=hb.2
    unfold fitB at h9
    unfold Fits
    exact of_decide_eq_true h9
   obtain ⟨rfl,hgw⟩:=hg
   clear h hb hgw
   have hz:=(ka.val.2 t (by simp)).1
   have hkt:=ka.rk t (by simp)
   have hsc:=fun W v (hb : Below w.heap.size w W) (hv : IsRat W v (((1 : Int) : Rat) / t.2))=>scale_any va v (t :: r) (((1 : Int) : Rat) / t.2) W (ha.on hb) hv hrk ka.rk (by have:=ka.len; omega)
   have h1c : (1 : Rat)=(((1 : Int)) : Rat):=rfl
   rw [h1c]
   obtain ⟨aa,ca,rfl,hca⟩:=ha.shape
   obtain ⟨ba,oa,csa,rfl,-,hEa,hCa⟩:=ha.get (j:=0) (t:=t) rfl
   obtain ⟨ra,rfl,hra⟩:=hEa
   change Cells monoT w ba (oa + 0 * 8) _ at hCa
   have hla:=hra.len
   simp only [List.length_cons] at hsc ⊢
   replace hsc:=Lib.hid hsc
   clear ha ka hca h1c
   have hne : (((r.length + 1 : Nat) : Int) == 0)=false:=by simp; omega
   have hp0 : 0 < r.length + 1:=by omega
   generalize r.length + 1=N at *
   go_enter Tryz.func14,Tryz.ntmps14
   go_upto_region 3 with (fail)
   obtain ⟨N3,A3,K3,C3,N4,A4,K4,C4,rfl,-,-⟩:=id hra
   have hx : ∀ W,Below w.heap.size w W → W.cell? ⟨ba,oa + 4,none⟩=some (.bool N3) ∧ W.cell? ⟨ba,oa + 4 + 1,none⟩=some (.slice A3 K3 C3) ∧ W.cell? ⟨ba,oa + 4 + 2,none⟩=some (.bool N4) ∧ W.cell? ⟨ba,oa + 4 + 3,none⟩=some (.slice A4 K4 C4):=fun W hb=>by
    have hC:=hCa.on hb
    refine ⟨?_,?_,?_,?_⟩
    ·have:=hC.cell 4 (by simp [exC]); simpa [exC] using this
    ·have:=hC.cell 5 (by simp [exC]); simpa [exC,Nat.add_assoc] using this
    ·have:=hC.cell 6 (by simp [exC]); simpa [exC,Nat.add_assoc] using this
    ·have:=hC.cell 7 (by simp [exC]); simpa [exC,Nat.add_assoc] using this
   obtain ⟨x1,x2,x3,x4⟩:=hx w (Below.refl _ _)
   have hlt:=hCa.lt
   have hdiv:=Lib.hid (fun W v (hb : Below w.heap.size w W) (hv : IsRat W v (((1 : Int)) : Rat))=>rdiv_any _ _ _ _ W hv (hra.on hb).rat rk1 hkt hz hft)
   obtain ⟨x5,x6,x7,x8⟩:=hx (w.drew.alloc (.cells #[.bool false,.slice none 0 0,.bool false,.slice none 0 0] 41)) ((bdn (Below.refl w.heap.size w) 1).alloc (Nat.le_refl _) _)
   replace hx:=Lib.hid hx
   clear hCa
   go_cut [9,10,11,12,13,14,8,15,16,3,4] (fun _ _ _ _ _ _ _ _ _ v3 _ wc=>∃ bx n5 a5 k5 c5 n6 a6 k6 c6,v3=.pointer (some ⟨bx,0,none⟩) ∧ Hid (Blk wc bx 41 [.bool n5,.slice a5 k5 c5,.bool n6,.slice a6 k6 c6]) ∧ Hid (IsRat wc (.agg #[.bool n5,.slice a5 k5 c5,.bool n6,.slice a6 k6 c6]) (((1 : Int) : Rat) / t.2)) ∧ Below w.heap.size w wc)
   case first =>
    go_region_with (first
     | (go_at_call 47; refine (rwhole_any 1 _ (by omega) (by omega)).mono ?_; rintro en w1 ⟨v1,rfl,h1,hb1⟩; have hbw1 : Below w.heap.size w w1:=Below.trans (by first | exact bdn (Below.refl _ _) _ | exact (bdn (Below.refl _ _) _).alloc (Nat.le_refl _) _) (hb1.mono (by first | exact Nat.le_refl _ | (simp; done) | (simp; omega))); obtain ⟨y1,y2,y3,y4⟩:=hx.out w1 hbw1; obtain ⟨y5,y6,y7,y8⟩:=hx.out (w1.alloc (.cells #[.bool false,.slice none 0 0,.bool false,.slice none 0 0] 41)) (hbw1.alloc hbw1.size _); try (have B1 : Blk w1 w.heap.size 41 [.bool false,.slice none 0 0,.bool false,.slice none 0 0]:=(Blk.new w.drew 41 [.bool false,.slice none 0 0,.bool false,.slice none 0 0]).on hb1))
     | (go_at_call 46; (first | refine (hdiv.out _ _ hbw1 h1).mono ?_ | refine (hdiv.out _ _ (hbw1.alloc hbw1.size _) (h1.on ((Below.refl _ _).alloc (Nat.le_refl _) _))).mono ?_); rintro en w5 ⟨v5,rfl,hv5,hb5⟩; obtain ⟨N5,A5,K5,C5,N6,A6,K6,C6,rfl⟩:=rat_agg hv5; have hbw5 : Below w.heap.size w w5:=Below.trans (by first | exact hbw1 | exact hbw1.alloc hbw1.size _) (hb5.mono (by first | exact hbw1.size | (have:=hbw1.size; simp; omega))); (first | (have B5:=B1.on hb5; have z1:=B5.at1 0 _ rfl; have z2:=B5.at1 1 _ rfl; have z3:=B5.at1 2 _ rfl; have z4:=B5.at1 3 _ rfl; have g1:=B5.frozen 0; have g2:=B5.frozen 1; have g3:=B5.frozen 2; have g4:=B5.frozen 3) | (have B5 : Blk w5 w1.heap.size 41 [.bool false,.slice none 0 0,.bool false,.slice none 0 0]:=(Blk.new w1 41 [.bool false,.slice none 0 0,.bool false,.slice none 0 0]).on hb5; have z1:=B5.at1 0 _ rfl; have z2:=B5.at1 1 _ rfl; have z3:=B5.at1 2 _ rfl; have z4:=B5.at1 3 _ rfl; have g1:=B5.frozen 0; have g2:=B5.frozen 1; have g3:=B5.frozen 2; have g4:=B5.frozen 3) | skip); have B6:=Blk.new w5 41 [.bool false,.slice none 0 0,.bool false,.slice none 0 0]; have p1:=B6.at1 0 _ rfl; have p2:=B6.at1 1 _ rfl; have p3:=B6.at1 2 _ rfl; have p4:=B6.at1 3 _ rfl; have q1:=B6.frozen 0; have q2:=B6.frozen 1; have q3:=B6.frozen 2; have q4:=B6.frozen 3))
    all_goals first
     | (obtain ⟨R5,gr5⟩:=setCells_blk [.bool N5,.slice A5 K5 C5,.bool N6,.slice A6 K6 C6] 0 w5 _ B5 (by simp); have hl5 : Lr (some _) 41 w5 _:=⟨gr5,fun k hk=>by cases hk; exact ⟨B5.noOther,R5.noOther⟩⟩; have hr5:=hv5.lr hl5 (by decide); have hbw6:=hbw5.trans (hl5.belowAt hbw5.size (fun k hk=>by cases hk; first | exact Nat.le_refl _ | exact hbw1.size)); clear hb5 hb1; go_wp2; go_meet; case rel=>exact ⟨_,_,_,_,_,_,_,_,_,rfl,Lib.hid R5,Lib.hid hr5,hbw6⟩)
     | (have R5:=Blk.new w5 41 [.bool N5,.slice A5 K5 C5,.bool N6,.slice A6 K6 C6]; have hr5:=hv5.on ((Below.refl _ _).alloc (Nat.le_refl _) (.cells #[.bool N5,.slice A5 K5 C5,.bool N6,.slice A6 K6 C6] 41)); have hbw6:=hbw5.alloc hbw5.size (.cells #[.bool N5,.slice A5 K5 C5,.bool N6,.slice A6 K6 C6] 41); clear hb5 hb1; go_wp2; go_meet; case rel=>exact ⟨_,_,_,_,_,_,_,_,_,rfl,Lib.hid R5,Lib.hid hr5,hbw6⟩)
   case rest =>
    obtain ⟨bx,n5,a5,k5,c5,n6,a6,k6,c6,rfl,hB,hr,hbw⟩:=hcut
    have y1:=hB.out.at1 0 _ rfl
    have y2:=hB.out.at1 1 _ rfl
    have y3:=hB.out.at1 2 _ rfl
    have y4:=hB.out.at1 3 _ rfl
    have hcl:=hsc.out _ _ hbw hr.out
    clear x1 x2 x3 x4 x5 x6 x7 x8
    go_wp2_with (go_at_call 48; refine hcl.mono ?_; rintro e w4 ⟨v4,rfl,h4,hb4⟩)
    go_ret
    exact ⟨_,rfl,h4,hbw.trans (hb4.mono hbw.size)⟩
  next=>cases h
end Go.Proofs.YtopclbeomcggiaaGreat
end
section
namespace Q
open Go Go.RowKit Go.Proofs.YtopclbeomcggiaaGreat
theorem bind2_some {α β : Type} {a : Option α} {f : α → Option β} {y : β} (h : bind2 a f=some y) : ∃ x,a=some x ∧ f x=some y:=by
 cases a with
 | none=>cases h
 | some x=>exact ⟨x,rfl,h⟩
theorem allO_cons {G : List Trm → List Trm → Option (List Trm)} {acc a g : List Trm} {l : List (List Trm)} (h : allO G acc (a :: l)=some g) : ∃ g',G acc a=some g' ∧ (constB g'=true → g=g') ∧ (constB g'=false → allO G g' l=some g):=by
 rw [allO] at h
 cases hG : G acc a with
 | none=>rw [hG] at h; cases h
 | some g' =>
  rw [hG] at h
  refine ⟨g',rfl,fun hc=>?_,fun hc=>?_⟩
  ·simp only [hc,if_true,Option.some.injEq] at h; exact h.symm
  ·simpa [hc] using h
end Q
namespace Go.Proofs.YtopclbeomcggiaaGreat
open Go.RowKit Q Go.WideMaps Go.Maps
def GcdC (a b g : List Trm) : Prop:=∀ (va vb : Value) (w : World),IsPoly w va a → IsPoly w vb b → Calls Tryz.prog 16 #[va,vb] w (RetPoly w g)
def GcdG (G : List Trm → List Trm → Option (List Trm)) : Prop:=∀ a b g,Wp a → Wp b → G a b=some g → GcdC a b g ∧ Wp g
set_option maxHeartbeats 2000000 in
set_option maxRecDepth 100000 in
theorem all_any {G : List Trm → List Trm → Option (List Trm)} (HG : GcdG G) (vl : Value) (l : List (List Trm)) (g : List Trm) (w : World) (hl : IsPolys w vl l) (hn : l.length ≤ 1000000) (hw : ∀ c ∈ l,Wp c) (h : allO G [] l=some g) :
  Calls Tryz.prog 61 #[vl] w (RetPoly w g):=by
 obtain ⟨al,cl,rfl,hcl⟩:=hl.shape
 replace h:=Lib.hid h
 replace hw:=Lib.hid hw
 replace HG:=Lib.hid HG
 replace hl:=Lib.hid hl
 go_enter Tryz.func61,Tryz.ntmps61
 go_wp2
 go_loopw [3,8] (fun o i wr=>∃ (k : Nat) (acc : List Trm),k ≤ l.length ∧ i=.int .i64 k ∧ Hid (IsPoly wr o acc) ∧ Hid (Wp acc ∧ allO G acc (l.drop k)=some g) ∧ Below w.heap.size w wr) (fun _ i _=>l.length - (intOf i).toNat)
 case atStart=>exact ⟨0,[],by omega,rfl,Lib.hid (IsSl.nil _ _),Lib.hid ⟨Wp.nil,h.out⟩,Below.refl _ _⟩
 case round =>
  clear h
  obtain ⟨k,acc,hk,rfl,hO,hA,hbr⟩:=hrel
  by_cases hkl : k < l.length
  ·have hjq : l[k]?=some l[k]:=List.getElem?_eq_getElem hkl
   have hA2:=hA.out
   rw [List.drop_eq_getElem_cons hkl] at hA2
   have hwa:=hw.out l[k] (List.getElem_mem hkl)
   generalize l[k]=a at *
   obtain ⟨b,off,va,rfl,hva,hC⟩:=cell_poly (hl.out.on hbr) hjq
   obtain ⟨g',hG,ht,hf⟩:=allO_cons hA2.2
   obtain ⟨hcall,hg'⟩:=HG.out _ _ _ hA2.1 hwa hG
   have hcs:=fun v W (hv : IsPoly W v g')=>constant_any v g' W hv
   have hcall2:=Lib.hid (hcall u3 va wr hO.out hva)
   have hkl' : (k : Int) < l.length:=by omega
   have hcell:=hC.cell 0 (by simp)
   simp only [List.getElem?_cons_zero,Nat.add_zero,Nat.mul_one] at hcell
   clear hA hA2 hC hcall hjq hG
   cases hcb : constB g'
   ·have hrest:=Lib.hid (hf hcb)
    rw [hcb] at hcs
    replace hcs:=Lib.hid hcs
    replace hg':=Lib.hid hg'
    clear ht hf hcb
    go_wp2_with (first
     | (refine wpList_index_at rfl _ _ 75 rfl polyT Tryz.underlying75 _ 1 24 (by kernel_rfl) _ _ _ rfl .i64 _ rfl k rfl hkl b off rfl ?_; rw [Nat.mul_one])
     | (go_at_call 16; refine hcall2.out.mono ?_; rintro en w3 ⟨v3,rfl,hv3,hb3⟩)
     | (go_at_call 50; refine (hcs.out _ _ hv3).mono ?_; rintro en w4 ⟨rfl,hb4⟩))
    have hb34:=hb3.trans (hb4.mono hb3.size)
    go_roundw
    case rel=>exact ⟨k + 1,g',by omega,by go_num,Lib.hid (hv3.on hb4),Lib.hid ⟨hg'.out,hrest.out⟩,hbr.trans (hb34.mono hbr.size)⟩
    case measure=>simp [intOf]; omega
   ·have hrest:=Lib.hid (ht hcb)
    rw [hcb] at hcs
    replace hcs:=Lib.hid hcs
    replace hg':=Lib.hid hg'
    clear ht hf hcb
    go_wp2_with (first
     | (refine wpList_index_at rfl _ _ 75 rfl polyT Tryz.underlying75 _ 1 24 (by kernel_rfl) _ _ _ rfl .i64 _ rfl k rfl hkl b off rfl ?_; rw [Nat.mul_one])
     | (go_at_call 16; refine hcall2.out.mono ?_; rintro en w3 ⟨v3,rfl,hv3,hb3⟩)
     | (go_at_call 50; refine (hcs.out _ _ hv3).mono ?_; rintro en w4 ⟨rfl,hb4⟩))
    go_ret
    exact ⟨_,rfl,by rw [hrest.out]; exact hv3.on hb4,hbr.trans ((hb3.trans (hb4.mono hb3.size)).mono hbr.size)⟩
  ·obtain rfl : k=l.length:=by omega
   have hfin : Hid (g=acc):=by
    have:=hA.out.2
    rw [List.drop_of_length_le (Nat.le_refl _),allO] at this
    exact Lib.hid (Option.some.inj this).symm
   go_wp2
   go_ret
   exact ⟨_,rfl,by rw [hfin.out]; exact hO.out,hbr⟩
theorem allO_wp {G : List Trm → List Trm → Option (List Trm)} (HG : GcdG G) : ∀ {l : List (List Trm)} {acc g : List Trm},(∀ c ∈ l,Wp c) → Wp acc → allO G acc l=some g → Wp g
 | [],acc,g,_,ha,h=>by rw [allO,Option.some.injEq] at h; subst h; exact ha
 | a :: l,acc,g,hw,ha,h=>by
  obtain ⟨g',hG,ht,hf⟩:=allO_cons h
  have hg':=(HG _ _ _ ha (hw a (by simp)) hG).2
  cases hc : constB g'
  ·exact allO_wp HG (fun c hc=>hw c (by simp [hc])) hg' (hf hc)
  ·rw [ht hc]; exact hg'
theorem cont_wp {G : List Trm → List Trm → Option (List Trm)} (HG : GcdG G) {a g : List Trm} {v : Nat} (ka : Wp a) (h : contO G a v=some g) : Wp g:=allO_wp HG (fun _ hc=>ka.coeffs hc) Wp.nil h
theorem content_any {G : List Trm → List Trm → Option (List Trm)} (HG : GcdG G) (va : Value) (a g : List Trm) (v : Nat) (w : World) (hv : v < 4) (ha : IsPoly w va a) (ka : Wp a) (h : contO G a v=some g) :
  Calls Tryz.prog 18 #[va,.int .i64 v] w (RetPoly w g):=by
 have h1:=coeffs_any va a v w ha hv ka.val.nat (by have:=(ka.deg v).2; omega) (by have:=ka.len; omega)
 have h2:=fun vl W (hl : IsPolys W vl (coeffsP a v))=>all_any HG vl (coeffsP a v) g W hl (by rw [coeffsP_length]; have:=(ka.deg v).2; omega) (fun c hc=>ka.coeffs hc) h
 obtain ⟨aa,ca,rfl,hca⟩:=ha.shape
 replace h2:=Lib.hid h2
 clear h HG ka
 go_enter Tryz.func18,Tryz.ntmps18
 go_wp2_with (first
  | (go_at_call 62; refine h1.mono ?_; rintro en w3 ⟨v3,rfl,hv3,hb3⟩)
  | (go_at_call 61; refine (h2.out _ _ hv3).mono ?_; rintro en w4 ⟨v4,rfl,hv4,hb4⟩))
 go_ret
 exact ⟨_,rfl,hv4,hb3.trans (hb4.mono hb3.size)⟩
theorem prim_wp {G : List Trm → List Trm → Option (List Trm)} {a p : List Trm} {v : Nat} (h : primO G a v=some p) : Wp p:=by
 cases a with
 | nil=>simp only [primO,Option.some.injEq] at h; subst h; exact Wp.nil
 | cons t r =>
  rw [primO] at h
  cases hc : contO G (t :: r) v with
  | none=>rw [hc] at h; cases h
  | some c=>rw [hc] at h; exact over_wp h
theorem primitive_any {G : List Trm → List Trm → Option (List Trm)} (HG : GcdG G) (va : Value) (a p : List Trm) (v : Nat) (w : World) (hv : v < 4) (ha : IsPoly w va a) (ka : Wp a) (h : primO G a v=some p) :
  Calls Tryz.prog 20 #[va,.int .i64 v] w (RetPoly w p):=by
 match a,ha,ka,h with
 | [],ha,ka,h =>
  simp only [primO,Option.some.injEq] at h; subst h
  obtain ⟨aa,ca,rfl,hca⟩:=ha.shape
  simp only [List.length_nil]
  go_enter Tryz.func20,Tryz.ntmps20
  go_wp2
  go_ret
  exact ⟨_,rfl,IsSl.nil _ _,Below.refl _ _⟩
 | t :: r,ha,ka,h =>
  rw [primO] at h
  cases hc : contO G (t :: r) v with
  | none=>rw [hc] at h; cases h
  | some c =>
   rw [hc] at h
   have h1:=content_any HG va (t :: r) c v w hv ha ka hc
   have kc:=cont_wp HG ka hc
   have h2:=fun vl W (hb : Below w.heap.size w W) (hl : IsPoly W vl c)=>over_any va vl (t :: r) c p W (ha.on hb) hl kc h
   obtain ⟨aa,ca,rfl,hca⟩:=ha.shape
   have hne : (((t :: r).length : Int) == 0)=false:=by simp; omega
   replace h2:=Lib.hid h2
   clear h hc HG ka kc ha
   generalize (t :: r).length=n at *
   go_enter Tryz.func20,Tryz.ntmps20
   go_wp2_with (first
    | (go_at_call 18; refine h1.mono ?_; rintro en w3 ⟨v3,rfl,hv3,hb3⟩)
    | (go_at_call 56; refine (h2.out _ _ hb3 hv3).mono ?_; rintro en w4 ⟨v4,rfl,hv4,hb4⟩))
   go_ret
   exact ⟨_,rfl,hv4,hb3.trans (hb4.mono hb3.size)⟩
theorem high_lt : ∀ {l : List (List Trm)} {n v : Nat},highN l n=some v → v < n
 | l,n + 1,v,h=>by
  rw [highN] at h
  split at h
  ·cases h; omega
  ·have:=high_lt h; omega
def highI (o : Option Nat) : Int:=match o with
 | none=>-1
 | some v=>v
set_option maxHeartbeats 2000000 in
set_option maxRecDepth 100000 in
theorem highest_any (vl : Value) (l : List (List Trm)) (w : World) (hl : IsPolys w vl l) (hn : l.length ≤ 1000000) (hw : ∀ c ∈ l,Wp c) : Calls Tryz.prog 52 #[vl] w (Ret w (.int .i64 (highI (high l)))):=by
 obtain ⟨al,cl,rfl,hcl⟩:=hl.shape
 replace hw:=Lib.hid hw
 replace hl:=Lib.hid hl
 obtain ⟨R,hR⟩ : ∃ R,R=highI (high l):=⟨_,rfl⟩
 rw [← hR]
 replace hR:=Lib.hid hR
 go_enter Tryz.func52,Tryz.ntmps52
 go_wp2
 go_loopw [3] (fun i wr=>∃ (n : Nat),n ≤ 4 ∧ i=.int .i64 ((n : Int) - 1) ∧ Hid (R=highI (highN l n)) ∧ Below w.heap.size w wr) (fun i _=>(intOf i + 1).toNat)
 case atStart=>exact ⟨4,by omega,rfl,Lib.hid hR.out,Below.refl _ _⟩
 case round =>
  clear hR
  obtain ⟨n,hn,rfl,hR,hbr⟩:=hrel
  cases n with
  | zero =>
   have hfin : Hid (R=-1):=Lib.hid hR.out
   go_wp2
   go_ret
   exact ⟨by rw [hfin.out]; rfl,hbr⟩
  | succ v =>
   have hv1 : (((v + 1 : Nat) : Int) - 1)=(v : Int):=by omega
   have hv4 : v < 4:=by omega
   rw [hv1]
   go_wp2
   go_loopw [12] (fun i wr=>∃ k : Nat,k ≤ l.length ∧ i=.int .i64 k ∧ Hid (∀ c ∈ l.take k,¬ 0 < degP c v) ∧ Below w.heap.size w wr) (fun i _=>l.length - (intOf i).toNat)
   case atStart=>exact ⟨0,by omega,rfl,Lib.hid (fun c hc=>by simp at hc),hbr⟩
   case round =>
    clear hbr
    obtain ⟨k,hk,rfl,hA,hbr⟩:=hrel
    by_cases hkl : k < l.length
    ·have hjq : l[k]?=some l[k]:=List.getElem?_eq_getElem hkl
     have hwa:=hw.out l[k] (List.getElem_mem hkl)
     have htk : l.take (k + 1)=l.take k ++ [l[k]]:=by rw [List.take_add_one,hjq]; rfl
     have hmem:=List.getElem_mem hkl
     generalize l[k]=a at *
     obtain ⟨b,off,va,rfl,hva,hC⟩:=cell_poly (hl.out.on hbr) hjq
     have hd:=deg_any va a v wr hva hv4 (by have:=hwa.len; omega)
     have hkl' : (k : Int) < l.length:=by omega
     have hcell:=hC.cell 0 (by simp)
     simp only [List.getElem?_cons_zero,Nat.add_zero,Nat.mul_one] at hcell
     replace hd:=Lib.hid hd
     replace hmem:=Lib.hid hmem
     replace htk:=Lib.hid htk
     clear hC hjq hwa
     by_cases hdp : 0 < degP a v
     ·have hdp':=Lib.hid hdp
      have hfin : Hid (R=v):=Lib.hid (by rw [hR.out,highN,if_pos (List.any_eq_true.2 ⟨a,hmem.out,by simpa using hdp⟩)]; rfl)
      generalize degP a v=D at *
      go_wp2_with (first
       | (refine wpList_index_at rfl _ _ 75 rfl polyT Tryz.underlying75 _ 1 24 (by kernel_rfl) _ _ _ rfl .i64 _ rfl k rfl hkl b off rfl ?_; rw [Nat.mul_one])
       | (go_at_call 53; refine hd.out.mono ?_; rintro en w3 ⟨rfl,hb3⟩))
      go_ret
      exact ⟨by rw [hfin.out]; rfl,hbr.trans (hb3.mono hbr.size)⟩
     ·have hdp':=Lib.hid hdp
      generalize degP a v=D at hd hdp
      go_wp2_with (first
       | (refine wpList_index_at rfl _ _ 75 rfl polyT Tryz.underlying75 _ 1 24 (by kernel_rfl) _ _ _ rfl .i64 _ rfl k rfl hkl b off rfl ?_; rw [Nat.mul_one])
       | (go_at_call 53; refine hd.out.mono ?_; rintro en w3 ⟨rfl,hb3⟩))
      go_roundw
      case rel=>exact ⟨k + 1,by omega,by go_num,Lib.hid (fun c hc=>by
       rw [htk.out] at hc
       rcases List.mem_append.1 hc with hc | hc
       ·exact Int.not_lt.2 (hA.out c hc)
       ·rw [List.mem_singleton.1 hc]; exact Int.not_lt.2 hdp'.out),hbr.trans (hb3.mono hbr.size)⟩
      case measure=>simp [intOf]; omega
    ·obtain rfl : k=l.length:=by omega
     have hnx : Hid (R=highI (highN l v)):=Lib.hid (by
      rw [hR.out,highN,if_neg]
      intro hany
      obtain ⟨c,hc,hd⟩:=List.any_eq_true.1 hany
      exact hA.out c (by rw [List.take_of_length_le (Nat.le_refl _)]; exact hc) (by simpa using hd))
     go_wp2
     go_roundw
     case rel=>exact ⟨v,by omega,by go_num,hnx,hbr⟩
     case measure=>simp [intOf]
end Go.Proofs.YtopclbeomcggiaaGreat
end
section
namespace Q
open Go Go.RowKit Go.Proofs.YtopclbeomcggiaaGreat
theorem one_wp : Wp oneP:=wpB_wp (by decide +kernel)
theorem degP_nonneg {a : List Trm} {v : Nat} (h : a ≠ []) (ka : Wp a) : 0 ≤ degP a v:=by
 obtain ⟨t,ht⟩:=List.exists_mem_of_ne_nil _ h
 have h1:=(ka.exps ht v).1
 have h2:=degP_le ht v
 omega
theorem seqGo_wp {G : List Trm → List Trm → Option (List Trm)} {v : Nat} : ∀ {n : Nat} {a b g : List Trm},Wp b → seqGo G v n a b=some g → Wp g
 | 0,a,b,g,_,h=>by simp [seqGo] at h
 | n + 1,a,b,g,kb,h=>by
  rw [seqGo] at h
  cases hr : psO a b v with
  | none=>rw [hr] at h; cases h
  | some r =>
   rw [hr] at h
   cases r with
   | nil=>cases h; exact kb
   | cons t r =>
    simp only at h
    split at h
    ·cases h; exact one_wp
    ·cases hp : primO G (t :: r) v with
     | none=>rw [hp] at h; cases h
     | some p =>
      rw [hp] at h
      simp only at h
      cases hq : normO p with
      | none=>rw [hq] at h; cases h
      | some q=>rw [hq] at h; exact seqGo_wp (norm_wp hq) h
theorem seqS_wp {G : List Trm → List Trm → Option (List Trm)} {v : Nat} {a b g : List Trm} (kb : Wp b) (h : seqS G a b v=some g) : Wp g:=by
 unfold seqS at h
 cases hm : boundO a b v with
 | none=>rw [hm] at h; cases h
 | some m =>
  rw [hm] at h
  simp only at h
  split at h
  ·cases h; exact one_wp
  ·cases hd : divW a b with
   | none=>rw [hd] at h; cases h
   | some r =>
    rw [hd] at h
    simp only at h
    split at h
    ·cases h; exact kb
    ·exact seqGo_wp kb h
theorem psO_some {a b r : List Trm} {v : Nat} (h : psO a b v=some r) : b ≠ [] ∧ r=fromP (psRun (coeffsP b v) (coeffsP a v).length (coeffsP a v)) v ∧ Wp r ∧ psBW (coeffsP b v) (coeffsP a v).length (coeffsP a v)=true ∧
  bdB (fromL v 0 (psRun (coeffsP b v) (coeffsP a v).length (coeffsP a v)))=true ∧ ∀ c ∈ psRun (coeffsP b v) (coeffsP a v).length (coeffsP a v),wpB c=true:=by
 unfold psO at h
 simp only at h
 split at h
 next hc =>
  obtain ⟨h1,h2,h3,h4⟩:=hc
  obtain ⟨rfl,hw⟩:=g1_some h
  exact ⟨h1,rfl,hw,h2,h3,fun c hc=>List.all_eq_true.1 h4 c hc⟩
 next=>cases h
end Q
namespace Go.Proofs.YtopclbeomcggiaaGreat
open Go.RowKit Q
theorem pseudoO_any (va vb : Value) (a b r : List Trm) (v : Nat) (w : World) (ha : IsPoly w va a) (hb : IsPoly w vb b) (ka : Wp a) (kb : Wp b) (hv : v < 4) (h : psO a b v=some r) : Calls Tryz.prog 94 #[va,vb,.int .i64 v] w (RetPolyE w r 0):=by
 obtain ⟨h1,rfl,hw,h2,h3,h4⟩:=psO_some h
 have h5 : (coeffsP a v).length ≤ 1001:=by rw [coeffsP_length]; have:=(ka.deg v).2; omega
 exact pseudo_any va vb a b v w ha hb hv h1 ka.val.nat kb.val.nat (ka.deg v).2 (kb.deg v).2 (by have:=ka.len; omega) (by have:=kb.len; omega) (psBW_all (fun c hc=>kb.coeffs hc) h2) (bdB_okl h3) (fun c hc=>by have:=(wpB_wp (h4 c hc)).len; omega)
set_option maxHeartbeats 4000000 in
set_option maxRecDepth 100000 in
theorem sequence_any {G : List Trm → List Trm → Option (List Trm)} (HG : GcdG G) (va vb : Value) (a b g : List Trm) (v : Nat) (w : World) (ha : IsPoly w va a) (hb : IsPoly w vb b) (ka : Wp a) (kb : Wp b) (hna : a ≠ []) (hnb : b ≠ []) (hv : v < 4) (h : seqO G a b v=some g) :
  Calls Tryz.prog 55 #[va,vb,.int .i64 v] w (RetPoly w g):=by
 have hda:=Lib.hid (fun W (hb : Below w.heap.size w W)=>deg_any va a v W (ha.on hb) hv (by have:=ka.len; omega))
 have hdb:=Lib.hid (fun W (hbb : Below w.heap.size w W)=>deg_any vb b v W (hb.on hbb) hv (by have:=kb.len; omega))
 replace ha:=Lib.hid ha
 replace hb:=Lib.hid hb
 unfold seqO at h
 go_enter Tryz.func55,Tryz.ntmps55
 have hBd : ∀ (x y : List Trm) (h : seqS G x y v=some g),(∃ m,boundO x y v=some m):=fun x y h=>by
  unfold seqS at h
  cases hm : boundO x y v with
  | none=>rw [hm] at h; cases h
  | some m=>exact ⟨m,rfl⟩
 obtain ⟨da,hda2⟩ : ∃ da,da=degP a v:=⟨_,rfl⟩
 obtain ⟨db,hdb2⟩ : ∃ db,db=degP b v:=⟨_,rfl⟩
 rw [← hda2] at hda h
 rw [← hdb2] at hdb h
 go_upto_if 18 with (first
  | (go_at_call 53; refine (hdb.out w3 hb3).mono ?_; rintro en w4 ⟨rfl,hb4⟩)
  | (go_at_call 53; refine (hda.out _ (Below.refl _ _)).mono ?_; rintro en w3 ⟨rfl,hb3⟩))
 have hb34:=hb3.trans (hb4.mono hb3.size)
 go_cut [0,1,19,20] (fun vx vy _ _ wc=>∃ x y,Hid (IsPoly wc vx x) ∧ Hid (IsPoly wc vy y) ∧ Wp x ∧ Wp y ∧ x ≠ [] ∧ y ≠ [] ∧ Hid (seqS G x y v=some g) ∧ Below w.heap.size w wc)
 case first =>
  by_cases hlt : da < db
  ·rw [if_pos hlt] at h
   replace h:=Lib.hid h
   go_wp2
   go_meet
   case rel=>exact ⟨b,a,Lib.hid (hb.out.on hb34),Lib.hid (ha.out.on hb34),kb,ka,hnb,hna,h,hb34⟩
  ·rw [if_neg hlt] at h
   replace h:=Lib.hid h
   go_wp2
   go_meet
   case rel=>exact ⟨a,b,Lib.hid (ha.out.on hb34),Lib.hid (hb.out.on hb34),ka,kb,hna,hnb,h,hb34⟩
 case rest =>
  clear hda hdb ha hb ka kb hna hnb h hda2 hdb2 hb34 hb3 hb4
  obtain ⟨x,y,hx,hy,kx,ky,hnx,hny,hs,hbw⟩:=hcut
  obtain ⟨m,hm⟩:=hBd x y hs.out
  have hbc:=Lib.hid (bound_any u0 u1 x y v m wc hx.out hy.out kx ky hv hnx hny hm)
  have hs2:=hs.out
  unfold seqS at hs2
  rw [hm] at hs2
  simp only at hs2
  clear hm hBd hs
  by_cases hm0 : m=0
  ·rw [if_pos hm0,Option.some.injEq] at hs2
   subst hm0
   have hfin:=Lib.hid hs2
   clear hs2
   go_wp2_with (first
    | (go_at_call 92; refine hbc.out.mono ?_; rintro en w5 ⟨rfl,hb5⟩)
    | (go_at_call 51; refine (one_any _).mono ?_; rintro en w6 ⟨v6,rfl,h6,hb6⟩))
   go_ret
   exact ⟨_,rfl,by rw [← hfin.out]; exact h6,(hbw.trans (hb5.mono hbw.size)).trans (hb6.mono (hbw.trans (hb5.mono hbw.size)).size)⟩
  ·rw [if_neg hm0] at hs2
   have hme : (m == 0)=false:=by simpa using hm0
   cases hd : divW x y with
   | none=>rw [hd] at hs2; cases hs2
   | some r =>
   rw [hd] at hs2
   simp only at hs2
   have hdc:=Lib.hid (fun W (hb : Below wc.heap.size wc W)=>divW_any u0 u1 x y r W (hx.out.on hb) (hy.out.on hb) ky hd)
   have hdy:=Lib.hid (fun W (hb : Below wc.heap.size wc W)=>deg_any u1 y v W (hy.out.on hb) hv (by have:=ky.len; omega))
   clear hd hm0
   go_upto_region 7 with (first
    | (go_at_call 92; refine hbc.out.mono ?_; rintro en w5 ⟨rfl,hb5⟩)
    | (go_at_call 93; refine (hdc.out _ hb5).mono ?_; rintro en w6 ⟨v6,rfl,h6,hb6⟩))
   have hb56:=hb5.trans (hb6.mono hb5.size)
   have hdy2:=Lib.hid (hdy.out w6 hb56)
   clear hdc hbc hdy h6 hb5 hb6
   have hbw6:=hbw.trans (hb56.mono hbw.size)
   have hx6:=Lib.hid (hx.out.on hb56)
   have hy6:=Lib.hid (hy.out.on hb56)
   obtain ⟨dy,hdy3⟩ : ∃ dy,dy=degP y v:=⟨_,rfl⟩
   rw [← hdy3] at hdy2 hs2
   obtain ⟨F,hF⟩ : ∃ F,F=fuel:=⟨_,rfl⟩
   rw [← hF] at hs2
   clear hx hy hdy3 hF
   go_cut [34,35,36,37,38,39,40,41] (fun _ _ _ _ _ _ _ t wd=>∃ fl,t=.bool fl ∧ Hid (IsPoly wd u0 x) ∧ Hid (IsPoly wd u1 y) ∧ Hid ((fl=true → g=y) ∧ (fl=false → seqGo G v F x y=some g)) ∧ Below w.heap.size w wd)
   case first =>
    cases r with
    | none =>
     simp only [Option.isSome_none,Bool.false_and] at hs2
     rw [if_neg (by simp)] at hs2
     replace hs2:=Lib.hid hs2
     simp only [Option.isSome_none]
     clear hdy2
     go_wp2
     go_meet
     case rel=>exact ⟨_,rfl,hx6,hy6,Lib.hid ⟨fun h=>(by cases h),fun _=>hs2.out⟩,hbw6⟩
    | some r =>
     simp only [Option.isSome_some,Bool.true_and] at hs2 ⊢
     by_cases hmd : m=dy
     ·rw [if_pos (by simpa using hmd),Option.some.injEq] at hs2
      subst hmd
      have hfin:=Lib.hid hs2
      clear hs2 hme
      go_wp2_with (go_at_call 53; refine hdy2.out.mono ?_; rintro en w7 ⟨rfl,hb7⟩)
      go_meet
      case rel=>exact ⟨_,rfl,Lib.hid (hx6.out.on hb7),Lib.hid (hy6.out.on hb7),Lib.hid ⟨fun _=>hfin.out.symm,fun h=>(by cases h)⟩,hbw6.trans (hb7.mono hbw6.size)⟩
     ·rw [if_neg (by simpa using hmd)] at hs2
      have hmd2 : (m == dy)=false:=by simpa using hmd
      replace hs2:=Lib.hid hs2
      go_wp2_with (go_at_call 53; refine hdy2.out.mono ?_; rintro en w7 ⟨rfl,hb7⟩)
      go_meet
      case rel=>exact ⟨_,rfl,Lib.hid (hx6.out.on hb7),Lib.hid (hy6.out.on hb7),Lib.hid ⟨fun h=>(by cases h),fun _=>hs2.out⟩,hbw6.trans (hb7.mono hbw6.size)⟩
   case rest =>
    clear hs2 hdy2 hx6 hy6 hbw6 hb56 hbw hme
    obtain ⟨fl,rfl,hx,hy,hs,hbw⟩:=hcut
    cases fl
    case true =>
     have hfin:=Lib.hid (hs.out.1 rfl)
     clear hs
     go_wp2
     go_ret
     exact ⟨_,rfl,by rw [hfin.out]; exact hy.out,hbw⟩
    case false =>
     replace hs:=Lib.hid (hs.out.2 rfl)
     go_wp2
     go_loopg [0,1] F (fun n va vb wr=>∃ a b,Hid (IsPoly wr va a) ∧ Hid (IsPoly wr vb b) ∧ Wp a ∧ Wp b ∧ Hid (seqGo G v n a b=some g) ∧ Below w.heap.size w wr)
     case atStart=>exact ⟨x,y,hx,hy,kx,ky,hs,hbw⟩
     case round =>
      clear hx hy kx ky hs hbw hnx hny
      obtain ⟨a,b,ha,hb,ka,kb,hs,hbr⟩:=hrel
      cases gk with
      | zero=>exact absurd hs.out (by simp [seqGo])
      | succ n =>
      have hs2:=hs.out
      rw [seqGo] at hs2
      cases hr : psO a b v with
      | none=>rw [hr] at hs2; cases hs2
      | some r =>
      rw [hr] at hs2
      have hps:=pseudoO_any _ _ a b r v wr ha.out hb.out ka kb hv hr
      have kr:=(psO_some hr).2.2.1
      clear hr hs
      cases r with
      | nil =>
       simp only [Option.some.injEq] at hs2
       have hfin:=Lib.hid hs2
       clear hs2
       go_upto_region 10 with (go_at_call 94; refine hps.mono ?_; rintro en w7 ⟨v7,rfl,h7,hb7⟩)
       obtain ⟨a7,c7,rfl,-⟩:=h7.shape
       simp only [List.length_nil]
       go_wp2
       go_ret
       exact ⟨_,rfl,by rw [← hfin.out]; exact hb.out.on hb7,hbr.trans (hb7.mono hbr.size)⟩
      | cons t r =>
       simp only at hs2
       have hne : (((t :: r).length : Int) == 0)=false:=by simp; omega
       have hlr:=kr.len
       go_upto_region 10 with (go_at_call 94; refine hps.mono ?_; rintro en w7 ⟨v7,rfl,h7,hb7⟩)
       have hdg:=Lib.hid (deg_any v7 (t :: r) v w7 h7 hv (by omega))
       have hpr : ∀ p,primO G (t :: r) v=some p → ∀ W,Below w7.heap.size w7 W → Calls Tryz.prog 20 #[v7,.int .i64 v] W (RetPoly W p):=fun p hp W hbW=>primitive_any HG v7 (t :: r) p v W hv (h7.on hbW) kr hp
       obtain ⟨a7,c7,rfl,-⟩:=h7.shape
       replace hpr:=Lib.hid hpr
       have hbr7:=hbr.trans (hb7.mono hbr.size)
       have hb2:=Lib.hid (hb.out.on hb7)
       have hpn : ∀ p,primO G (t :: r) v=some p → Wp p:=fun p hp=>prim_wp hp
       obtain ⟨q9,hq9⟩ : ∃ q9,q9=t :: r:=⟨_,rfl⟩
       rw [← hq9] at hs2 hne hdg hpr hpn ⊢
       clear hps kr h7 hlr hq9 hb
       obtain ⟨dr,hdr⟩ : ∃ dr,dr=degP q9 v:=⟨_,rfl⟩
       rw [← hdr] at hdg hs2
       by_cases hd0 : dr=0
       ·rw [if_pos hd0,Option.some.injEq] at hs2
        subst hd0
        have hfin:=Lib.hid hs2
        clear hs2 hpr hpn hdr
        generalize q9.length=nq at *
        go_wp2_with (first
         | (go_at_call 53; refine hdg.out.mono ?_; rintro en w8 ⟨rfl,hb8⟩)
         | (go_at_call 51; refine (one_any _).mono ?_; rintro en w9 ⟨v9,rfl,h9,hb9⟩))
        go_ret
        exact ⟨_,rfl,by rw [← hfin.out]; exact h9,(hbr7.trans (hb8.mono hbr7.size)).trans (hb9.mono (hbr7.trans (hb8.mono hbr7.size)).size)⟩
       ·rw [if_neg hd0] at hs2
        have hd1 : (dr == 0)=false:=by simpa using hd0
        cases hp : primO G q9 v with
        | none=>rw [hp] at hs2; cases hs2
        | some p =>
        rw [hp] at hs2
        simp only at hs2
        cases hq : normO p with
        | none=>rw [hq] at hs2; cases hs2
        | some q =>
        rw [hq] at hs2
        simp only at hs2
        have kp:=hpn p hp
        have kq:=norm_wp hq
        have hpc:=Lib.hid (hpr.out p hp)
        have hnc:=Lib.hid (fun W u (hu : IsPoly W u p)=>normal_any u p q W hu kp hq)
        replace hs2:=Lib.hid hs2
        clear hp hq hpn hpr hdr hd0
        generalize q9.length=nq at *
        go_wp2_with (first
         | (go_at_call 53; refine hdg.out.mono ?_; rintro en w8 ⟨rfl,hb8⟩)
         | (go_at_call 20; refine (hpc.out _ hb8).mono ?_; rintro en w9 ⟨v9,rfl,h9,hb9⟩)
         | (go_at_call 14; refine (hnc.out _ _ h9).mono ?_; rintro en w10 ⟨v10,rfl,h10,hb10⟩))
        have hb89:=hb8.trans (hb9.mono hb8.size)
        have hb810:=hb89.trans (hb10.mono hb89.size)
        go_roundg n
        case measure=>omega
        case rel=>exact ⟨b,q,Lib.hid (hb2.out.on hb810),Lib.hid h10,kb,kq,hs2,hbr7.trans (hb810.mono hbr7.size)⟩
end Go.Proofs.YtopclbeomcggiaaGreat
end
