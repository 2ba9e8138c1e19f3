/- mpoly.Div. mpoly.Pseudo. -/
import Derived.Test.YtopclbeomcggiaaGreatD24
import Derived.Test.YtopclbeomcggiaaGreatD26
set_option linter.unusedVariables false
set_option linter.unusedSimpArgs false
section
namespace Q
open Go Go.RowKit
theorem IsSl.lrB {α : Type} {e : El α} {w w' : World} {v : Value} {l : List α} {g : Option Nat} {T : TypeId} (h : IsSl e w v l) (hl : Lr g T w w') (hT : e.ok T) (hne : ∀ ao n c,v=.slice (some ao) n c → some ao.block ≠ g) : IsSl e w' v l:=by
 obtain ⟨ao,cap,xs,rfl,h2,h3,h4⟩:=h
 refine ⟨ao,cap,xs,rfl,h2,fun hp=>?_,h4.lr hT hl⟩
 obtain ⟨b,off,e1,hc⟩:=h3 hp
 subst e1
 exact ⟨b,off,rfl,hc.lr' hl (hne _ _ _ rfl)⟩
end Q
namespace Q
open Go Go.RowKit Go.Proofs.YtopclbeomcggiaaGreat
def FactL.own {T : TypeId} (B : Nat) (l : List Trm) : FactL (Lr none T):=FactL.of (fun v w=>OwnPoly B w v l) (fun _ _ _ hb h=>h.on hb.below)
end Q
namespace Go.Proofs.YtopclbeomcggiaaGreat
open Go.RowKit Q Go.WideMaps Go.Maps
theorem term_ones' {w : World} {r : List Value} {q : Rat} {e : Ex} (h : IsRatC w r q) : (exC e ++ r).toArray.all (·.oneCell')=true:=by
 rw [Array.all_eq_true_iff_forall_mem]
 intro v hv
 rcases List.mem_append.1 (by simpa using hv) with hv | hv
 ·exact exC_one e v hv
 ·exact h.one v hv
def quoT (m g : Trm) : Trm:=(m.1.sub g.1,m.2 / g.2)
structure DivOk (b : List Trm) (g m : Trm) (a : List Trm) : Prop where
 he : InR (m.1.sub g.1)
 hm : Rk m.2
 hg : Rk g.2
 hz : g.2 ≠ 0
 hf : Fits ((m.2.den : Int) * g.2.num)
structure DivOk2 (b : List Trm) (g m : Trm) (a : List Trm) : Prop where
 hq : Rk (m.2 / g.2)
 hb : (∀ t ∈ b,InR t.1 ∧ Rk t.2) ∧ b.length ≤ 1000000
 hp : Okl (prods b [quoT m g])
 ha : (∀ t ∈ (m :: a),Rk t.2) ∧ (m :: a).length ≤ 1000000 ∧ Vld (m :: a)
 hc : (∀ t ∈ mulP b [quoT m g],Rk t.2) ∧ (mulP b [quoT m g]).length ≤ 1000000
inductive DivR (b : List Trm) (g : Trm) : Nat → List Trm → List Trm → Option (List Trm) → Prop
 | done {out : List Trm} : DivR b g 0 [] out (some out)
 | fail {m : Trm} {a out : List Trm} : (m.1.sub g.1).nat=false → DivOk b g m a → DivR b g 0 (m :: a) out none
 | step {n : Nat} {m : Trm} {a out : List Trm} {r : Option (List Trm)} : (m.1.sub g.1).nat=true → DivOk b g m a → DivOk2 b g m a → out.length ≤ 1000000 →
   DivR b g n (subP (m :: a) (mulP b [quoT m g])) (out ++ [quoT m g]) r → DivR b g (n + 1) (m :: a) out r
theorem DivR.inv {b : List Trm} {g m : Trm} {n : Nat} {a out : List Trm} {r : Option (List Trm)} (h : DivR b g n (m :: a) out r) :
  DivOk b g m a ∧ ((m.1.sub g.1).nat=false → r=none) ∧ ((m.1.sub g.1).nat=true → ∃ n',n=n' + 1 ∧ DivOk2 b g m a ∧ out.length ≤ 1000000 ∧ DivR b g n' (subP (m :: a) (mulP b [quoT m g])) (out ++ [quoT m g]) r):=by
 cases h with
 | fail h1 h2=>exact ⟨h2,fun _=>rfl,(fun h=>by rw [h1] at h; cases h)⟩
 | step h1 h2 h3 h4 h5=>exact ⟨h2,(fun h=>by rw [h1] at h; cases h),fun _=>⟨_,rfl,h3,h4,h5⟩⟩
theorem DivR.inv0 {b : List Trm} {g : Trm} {n : Nat} {out : List Trm} {r : Option (List Trm)} (h : DivR b g n [] out r) : r=some out:=by cases h; rfl
def RetDivP (w : World) (r : Option (List Trm)) (e : Ending) (w' : World) : Prop:=∃ v,e=.returned (.tuple #[v,.bool r.isSome]) ∧ IsPoly w' v (r.getD []) ∧ Below w.heap.size w w'
set_option maxHeartbeats 1000000 in
theorem div_nil (vp vq : Value) (p : List Trm) (w : World) (hp : IsPoly w vp p) (hq : IsPoly w vq []) : Calls Tryz.prog 93 #[vp,vq] w (RetDivP w none):=by
 obtain ⟨ap,cp,rfl,hcp⟩:=hp.shape
 obtain ⟨aq,cq,rfl,hcq⟩:=hq.shape
 simp only [List.length_nil]
 go_enter Tryz.func93,Tryz.ntmps93
 go_wp2
 go_ret2
 exact ⟨_,rfl,IsSl.nil _ _,Below.refl _ _⟩
theorem subX (m g : Ex) (v : Nat) (h : v < 4) : (Ex.sub m g).get v=m.get v - g.get v:=by
 obtain rfl | rfl | rfl | rfl : v=0 ∨ v=1 ∨ v=2 ∨ v=3:=by omega
 all_goals rfl
def subTo (m g : Ex) : Nat → Ex
 | 0=>m
 | k + 1=>(subTo m g k).put k (m.get k - g.get k)
theorem subTo_full (m g : Ex) : subTo m g 4=m.sub g:=rfl
theorem subTo_get (m g : Ex) (k : Nat) (h : k < 4) : (subTo m g k).get k=m.get k:=by
 obtain rfl | rfl | rfl | rfl : k=0 ∨ k=1 ∨ k=2 ∨ k=3:=by omega
 all_goals rfl
set_option maxHeartbeats 8000000 in
set_option maxRecDepth 100000 in
theorem div_any (vp vq : Value) (p b : List Trm) (g : Trm) (n : Nat) (r : Option (List Trm)) (w : World) (hp : IsPoly w vp p) (hq : IsPoly w vq (g :: b)) (hd : DivR (g :: b) g n p [] r) :
  Calls Tryz.prog 93 #[vp,vq] w (RetDivP w r):=by
 obtain ⟨bq,oq,csq,e1,-,hEg,hCg⟩ : ∃ bq oq cs,(∃ cq,vq=.slice (some ⟨bq,oq,none⟩) (b.length + 1) cq) ∧ True ∧ IsTerm w cs g ∧ Cells monoT w bq (oq + 0 * 8) cs:=by
  obtain ⟨aq,cq,rfl,hcq⟩:=hq.shape
  obtain ⟨bq,oq,cs,rfl,-,hE,hC⟩:=hq.get (j:=0) (t:=g) rfl
  exact ⟨bq,oq,cs,⟨cq,rfl⟩,trivial,hE,hC⟩
 obtain ⟨cq,rfl⟩:=e1
 obtain ⟨rg,rfl,hrg⟩:=hEg
 have hlg:=hrg.len
 replace hd:=Lib.hid hd
 go_enter Tryz.func93,Tryz.ntmps93
 go_wp2
 go_loopg [0,6] n (fun n va vo wr=>∃ a out,Hid (IsPoly wr va a) ∧ Hid (OwnPoly w.heap.size wr vo out) ∧ Hid (DivR (g :: b) g n a out r) ∧ Below w.heap.size w wr ∧ Hid (a ≠ [] → ∀ ao n c,va=.slice (some ao) n c → some ao.block ≠ vo.ownBlock))
 case atStart=>exact ⟨p,[],Lib.hid hp,Lib.hid (OwnSl.nil _ _ _),hd,Below.refl _ _,Lib.hid (fun _ ao n c _ h=>by simp [Value.ownBlock] at h)⟩
 case round =>
  clear hd
  obtain ⟨a,out,ha,hown,hd,hbr,hap⟩:=hrel
  cases a with
  | nil =>
   have hr : r=some out:=hd.out.inv0
   obtain ⟨aa,ca,rfl,hca⟩:=ha.out.shape
   replace hr:=Lib.hid hr
   simp only [List.length_nil]
   go_wp2
   go_ret2
   exact ⟨_,by rw [hr.out]; rfl,by rw [hr.out]; exact hown.out.isSl,hbr⟩
  | cons m a =>
   obtain ⟨hok,hfail,hstep⟩:=hd.out.inv
   obtain ⟨aa,ca,rfl,hca⟩:=ha.out.shape
   obtain ⟨ba,oa,csa,rfl,-,hEa,hCa⟩:=ha.out.get (j:=0) (t:=m) rfl
   obtain ⟨ra,rfl,hra⟩:=hEa
   change Cells monoT wr ba (oa + 0 * 8) _ at hCa
   have hla:=hra.len
   have h8a : (exC m.1 ++ ra).length=8:=by rw [List.length_append,hla]; rfl
   have hrga:=hCa.range
   rw [Nat.zero_mul,Nat.add_zero] at hrga
   have hne1 : some ba ≠ u6.ownBlock:=fun h=>hap.out (by simp) _ _ _ rfl h
   have hgo:=fun v hv=>Ex.get_bounds hok.he (v:=v) hv
   have hsx:=fun v hv=>subX m.1 g.1 v hv
   replace hgo:=Lib.hid hgo
   replace hsx:=Lib.hid hsx
   replace hfail:=Lib.hid hfail
   replace hstep:=Lib.hid hstep
   replace hok:=Lib.hid hok
   simp only [List.length_cons]
   go_upto_region 6 with (first
    | (refine wpList_index_at rfl _ _ 27 rfl monoT Tryz.underlying27 _ 8 96 (by kernel_rfl) _ _ _ rfl .i64 0 rfl 0 rfl (by omega) ba oa rfl ?_; rw [Nat.zero_mul,Nat.add_zero])
    | (refine wpList_load_mid rfl 43 _ rfl _ _ rfl _ _ hrga Tryz.underlying43 rfl (by rw [h8a]; kernel_rfl) ?_)
    | (refine wpList_store_blk rfl _ (.tmp 7) (.tmp 17) rfl _ _ _ _ rfl rfl (Blk.new wr monoT [.int .i64 0,.int .i64 0,.int .i64 0,.int .i64 0,.bool false,.slice none 0 0,.bool false,.slice none 0 0]) (by simp [exC,hla]) (by simp only [List.size_toArray,h8a]; exact info37) (term_ones' hra) ?_; intro W3 R3 gr3))
   have BB : Blk W3 wr.heap.size monoT (exC m.1 ++ ra):=by simpa using R3
   have hba : Below wr.heap.size wr (wr.alloc (.cells #[.int .i64 0,.int .i64 0,.int .i64 0,.int .i64 0,.bool false,.slice none 0 0,.bool false,.slice none 0 0] monoT)):=(Below.refl _ _).alloc (Nat.le_refl _) _
   have hb3 : Below wr.heap.size wr W3:=hba.trans (grown_below gr3 (by simp) (Nat.le_refl _))
   have hbr3:=hbr.trans (hb3.mono hbr.size)
   have ha3:=ha.out.on hb3
   have hown3:=hown.out.on hb3
   have hra3:=hra.on hb3
   have hwm : w.heap.size ≤ wr.heap.size:=hbr.size
   have hom : u6.ownBlock ≠ some wr.heap.size:=fun h=>by have:=(hown.out.base_le _ h).2; omega
   have ham : ba ≠ wr.heap.size:=fun h=>by have:=hCa.lt; omega
   have hbase : ∀ k,u6.ownBlock=some k → w.heap.size ≤ k:=fun k hk=>(hown.out.base_le k hk).1
   clear hrga R3 gr3 hba hb3 hCa ha hown hra hbr hap hd
   generalize wr.heap.size=mb at *
   have hst : Hid (Blk W3 mb monoT (exC (subTo m.1 g.1 0) ++ ra)):=Lib.hid BB
   clear BB
   go_wp2
   go_loopw [18] (fun i wr=>∃ k : Nat,k ≤ 4 ∧ i=.int .i64 k ∧ Hid (Blk wr mb monoT (exC (subTo m.1 g.1 k) ++ ra)) ∧ Hid (IsPoly wr (.slice (some ⟨ba,oa,none⟩) (a.length + 1) ca) (m :: a)) ∧ Hid (OwnPoly w.heap.size wr u6 out) ∧ Hid (IsRatC wr ra m.2) ∧ Below w.heap.size w wr) (fun i _=>4 - (intOf i).toNat)
   case atStart=>exact ⟨0,by omega,rfl,hst,Lib.hid ha3,Lib.hid hown3,Lib.hid hra3,hbr3⟩
   case round =>
    clear hst ha3 hown3 hra3 hbr3
    obtain ⟨k,hk,rfl,hB,ha,hown,hra,hbr⟩:=hrel
    by_cases hk4 : k < 4
    ·have BB:=hB.out
     have hk4' : (k : Int) < 4:=by omega
     have hat:=exC_at (subTo m.1 g.1 k) k hk4 ra
     rw [subTo_get _ _ _ hk4] at hat
     have hset:=exC_set (subTo m.1 g.1 k) k hk4 (m.1.get k - g.1.get k) ra
     have hw : IntKind.i64.wrap (m.1.get k - g.1.get k)=m.1.get k - g.1.get k:=wrap_id (by rw [← hsx.out k hk4]; exact hgo.out k hk4)
     have hgat:=exC_at g.1 k hk4 rg
     have f1 : ∀ W',Below wr.heap.size wr W' → W'.cell? ⟨mb,k,none⟩=some (.int .i64 (m.1.get k)):=fun W' h=>(BB.on h).at1 k _ hat
     have f2 : ∀ W',Below wr.heap.size wr W' → W'.cell? ⟨bq,oq + k,none⟩=some (.int .i64 (g.1.get k)):=fun W' h=>by
      have:=(hCg.on (hbr.trans (h.mono hbr.size))).cell k (by simp [exC]; omega)
      rw [Nat.zero_mul,Nat.add_zero] at this
      rw [this]; exact hgat
     have hsucc : subTo m.1 g.1 (k + 1)=Ex.put (subTo m.1 g.1 k) k (m.1.get k - g.1.get k):=rfl
     generalize m.1.get k=x at *
     generalize g.1.get k=y at *
     replace hsucc:=Lib.hid hsucc
     go_upto_region 9 with (fail)
     refine wp_region_L mixed (none) (0) (Okr.none) [.eq (.int .i64 k),.eq (.pointer (some ⟨mb,0,none⟩)),.eq (.pointer (some ⟨mb,k,none⟩)),.eq (.int .i64 x),.eq (.slice (some ⟨bq,oq,none⟩) (b.length + 1) cq),.eq (.int .i64 k),.eq (.pointer (some ⟨bq,oq + 0 * 8,none⟩)),.eq (.pointer (some ⟨bq,oq + 0 * 8,none⟩)),.eq (.pointer (some ⟨bq,oq + k,none⟩)),.eq (.int .i64 y),.eq (.int .i64 (x - y)),.eq (.pointer (some ⟨mb,0,none⟩)),.eq (.pointer (some ⟨mb,k,none⟩))] [21,22,23,24,25,26,27,28,29,30,31,32,33] rfl rfl rfl rfl ⟨?_,?_,?_,?_,?_,?_,?_,?_,?_,?_,?_,?_,?_,trivial⟩ ?_
     ·exact fun A w1 hA hL hS he=>goOn_plain rfl (stepG_mv rfl rfl (hA 8 rfl))
     ·intro A w1 hA hL hS he
      have h7 : A.eval (.tmp 7)=.pointer (some ⟨mb,0,none⟩):=hA 7 rfl
      refine goOn_plain rfl ?_
      exact stepG_pure rfl rfl (execOp_field rfl (by rw [h7]; exact run_field37_0 _ _ _))
     ·intro A w1 hA hL hS he
      have h22 : A.eval (.tmp 22)=_:=he.1 rfl
      have h21 : A.eval (.tmp 21)=_:=he.2.1 rfl
      refine goOn_plain rfl (stepG_pure rfl rfl ?_)
      generalize A.eval=ev at *
      go_simp
     ·intro A w1 hA hL hS he
      have h23 : A.eval (.tmp 23)=_:=he.1 rfl
      refine goOn_plain rfl ?_
      have c0:=f1 w1 hL.below
      refine stepG_pure rfl rfl ?_
      generalize A.eval=ev at *
      go_simp
     ·exact fun A w1 hA hL hS he=>goOn_plain rfl (stepG_mv rfl rfl (hA 1 rfl))
     ·exact fun A w1 hA hL hS he=>goOn_plain rfl (stepG_mv rfl rfl (hA 8 rfl))
     ·intro A w1 hA hL hS he
      have h25 : A.eval (.tmp 25)=_:=he.1 rfl
      have hc0 : A.eval (.const (.int .i64 0))=.int .i64 0:=rfl
      refine goOn_plain rfl ?_
      exact stepG_pure rfl rfl (execOp_index rfl (by rw [h25,show A.eval (.const (.int .i64 0))=(.int .i64 0) from rfl]; exact run_index Tryz.underlying27 (by kernel_rfl) w1 bq oq _ _ 0 .i64 _ (by first | rfl | simp | omega) (by omega)))
     ·intro A w1 hA hL hS he
      have h27 : A.eval (.tmp 27)=_:=he.1 rfl
      refine goOn_plain rfl ?_
      exact stepG_pure rfl rfl (execOp_field rfl (by rw [h27]; exact run_field37_0 _ _ _))
     ·intro A w1 hA hL hS he
      have h28 : A.eval (.tmp 28)=_:=he.1 rfl
      have h26 : A.eval (.tmp 26)=_:=he.2.1 rfl
      refine goOn_plain rfl (stepG_pure rfl rfl ?_)
      generalize A.eval=ev at *
      go_simp
     ·intro A w1 hA hL hS he
      have h29 : A.eval (.tmp 29)=_:=he.1 rfl
      refine goOn_plain rfl ?_
      have c0:=f2 w1 hL.below
      refine stepG_pure rfl rfl ?_
      generalize A.eval=ev at *
      go_simp
     ·intro A w1 hA hL hS he
      have h24 : A.eval (.tmp 24)=_:=he.1 rfl
      have h30 : A.eval (.tmp 30)=_:=he.2.1 rfl
      refine goOn_plain rfl (stepG_pure rfl rfl ?_)
      generalize A.eval=ev at *
      go_simp
     ·intro A w1 hA hL hS he
      have h7 : A.eval (.tmp 7)=.pointer (some ⟨mb,0,none⟩):=hA 7 rfl
      refine goOn_plain rfl ?_
      exact stepG_pure rfl rfl (execOp_field rfl (by rw [h7]; exact run_field37_0 _ _ _))
     ·intro A w1 hA hL hS he
      have h32 : A.eval (.tmp 32)=_:=he.1 rfl
      have h21 : A.eval (.tmp 21)=_:=he.2.1 rfl
      refine goOn_plain rfl (stepG_pure rfl rfl ?_)
      generalize A.eval=ev at *
      go_simp
     ·intro W2 hL2
      have hb2:=hL2.below
      simp only [TailL,FactL.eq,List.length_cons,List.length_nil,List.drop_succ_cons,List.drop_zero]
      go_frame
      have B2:=BB.on hb2
      have z:=B2.at1 k _ hat
      have hf:=B2.frozen k
      have hown2:=hown.out.on hb2
      have ha2:=ha.out.on hb2
      have hra2:=hra.out.on hb2
      have hbr2:=hbr.trans (hb2.mono hbr.size)
      have hl3:=setCell_lr (j:=k) B2 (.int .i64 (x - y))
      have B3:=B2.set k (.int .i64 (x - y))
      rw [hset] at B3
      clear f1 f2 hL2
      go_wp2
      go_roundw
      case rel =>
       refine ⟨k + 1,by omega,by go_num,Lib.hid (by rw [hsucc.out]; exact B3),Lib.hid (ha2.lrB hl3 (elTerm_ok (by decide)) (fun ao n c h=>by simp only [Value.slice.injEq,Option.some.injEq] at h; rw [← h.1]; simpa using ham)),Lib.hid (hown2.lr hl3 (elTerm_ok (by decide)) (.inr hom)),Lib.hid (hra2.lr hl3 (by decide)),hbr2.trans (hl3.belowAt hbr2.size (fun k hk=>by cases hk; exact hwm))⟩
      case measure=>simp [intOf]; omega
    ·obtain rfl : k=4:=by omega
     rw [subTo_full] at hB
     clear hgo hsx
     obtain ⟨E,hE⟩ : ∃ E,E=m.1.sub g.1:=⟨_,rfl⟩
     have hqe : quoT m g=(E,m.2 / g.2):=by rw [hE]; rfl
     have hEr : InR E:=by rw [hE]; exact hok.out.he
     rw [← hE] at hB hfail hstep
     replace hqe:=Lib.hid hqe
     replace hEr:=Lib.hid hEr
     clear hE
     have BB:=hB.out
     go_upto_region 11 with (fail)
     refine wp_region_S trivial (none) (0) (Okr.none) [.eq (.pointer (some ⟨mb,0,none⟩)),.eq (.agg (exC E).toArray),.ret (.bool E.nat),.eq (.bool (!E.nat))] [35,36,37,38] rfl rfl rfl rfl ⟨?_,?_,?_,?_,trivial⟩ ?_
     ·intro A w1 hA hL hS he
      have h7 : A.eval (.tmp 7)=.pointer (some ⟨mb,0,none⟩):=hA 7 rfl
      refine goOn_plain rfl ?_
      exact stepG_pure rfl rfl (execOp_field rfl (by rw [h7]; exact run_field37_0 _ _ _))
     ·intro A w1 hA hL hS he
      have hb:=hL.below
      have h35 : A.eval (.tmp 35)=_:=he.1 rfl
      refine goOn_plain rfl ?_
      exact stepG_pure rfl rfl (execOp_load rfl (by rw [h35]; exact run_loadAt_mid w1 _ _ _ _ _ (blk_ex (BB.on hb)) Tryz.underlying36 rfl (by rw [show (exC E).length=4 from rfl]; kernel_rfl)))
     ·intro A w1 hA hL hS he
      have hb:=hS rfl
      have h36 : A.eval (.tmp 36)=_:=he.1 rfl
      have hf0 : A.eval (.func 114)=.func (.func 114) #[] #[]:=rfl
      refine goOn_plain rfl ?_
      refine stepG_call (f:=114) (args:=#[.agg (exC E).toArray]) rfl rfl ?_ ?_
      ·generalize A.eval=ev at *
       go_simp
      ·refine (natural_any E _).mono ?_
       rintro e w' ⟨rfl,hb'⟩
       exact ⟨_,rfl,hb',rfl⟩
     ·intro A w1 hA hL hS he
      have h37 : A.eval (.tmp 37)=_:=he.1 rfl
      refine goOn_plain rfl (stepG_pure rfl rfl ?_)
      generalize A.eval=ev at *
      go_simp
     ·intro W2 hL2
      have hb2:=hL2.below
      simp only [TailL,FactL.eq,FactL.ret,List.length_cons,List.length_nil,List.drop_succ_cons,List.drop_zero]
      go_frame
      have B2:=BB.on hb2
      have hown2:=hown.out.on hb2
      have ha2:=ha.out.on hb2
      have hra2:=hra.out.on hb2
      have hbr2:=hbr.trans (hb2.mono hbr.size)
      clear hL2 BB hB hown ha hra hbr hb2
      cases hEn : E.nat
      ·have hr:=hfail.out hEn
       replace hr:=Lib.hid hr
       clear hstep hEn
       go_wp2
       go_ret2
       exact ⟨_,by rw [hr.out]; rfl,by rw [hr.out]; exact IsSl.nil _ _,hbr2⟩
      ·obtain ⟨n',hn',hok2,hol,hd'⟩:=hstep.out hEn
       rw [hqe.out] at hd'
       replace hok2:=Lib.hid hok2
       replace hd':=Lib.hid hd'
       replace hn':=Lib.hid hn'
       clear hfail hstep hEn
       have hdiv:=fun W (hb : Below W2.heap.size W2 W)=>rdiv_any _ _ _ _ W (hra2.on hb).rat (hrg.on (hbr2.trans (hb.mono hbr2.size))).rat hok.out.hm hok.out.hg hok.out.hz hok.out.hf
       obtain ⟨N1,A1,K1,C1,N2,A2,K2,C2,rfl,-,-⟩:=hra2
       obtain ⟨N3,A3,K3,C3,N4,A4,K4,C4,rfl,-,-⟩:=id hrg
       have y1:=B2.at1 4 _ rfl
       have y2:=B2.at1 5 _ rfl
       have y3:=B2.at1 6 _ rfl
       have y4:=B2.at1 7 _ rfl
       have hCg2:=hCg.on hbr2
       have x1 : W2.cell? ⟨bq,oq + 4,none⟩=some (.bool N3):=by have:=hCg2.cell 4 (by simp [exC]); simpa [exC] using this
       have x2 : W2.cell? ⟨bq,oq + 4 + 1,none⟩=some (.slice A3 K3 C3):=by have:=hCg2.cell 5 (by simp [exC]); simpa [exC,Nat.add_assoc] using this
       have x3 : W2.cell? ⟨bq,oq + 4 + 2,none⟩=some (.bool N4):=by have:=hCg2.cell 6 (by simp [exC]); simpa [exC,Nat.add_assoc] using this
       have x4 : W2.cell? ⟨bq,oq + 4 + 3,none⟩=some (.slice A4 K4 C4):=by have:=hCg2.cell 7 (by simp [exC]); simpa [exC,Nat.add_assoc] using this
       have f1:=B2.frozen 4
       have f2:=B2.frozen 5
       have f3:=B2.frozen 6
       have f4:=B2.frozen 7
       clear hCg2
       go_upto_region 13 with (fail)
       go_cut [39,40,41,42,43,44,45,46,47,48,49] (fun _ _ _ _ _ _ _ _ _ _ _ wc=>∃ r' : List Value,Hid (Blk wc mb monoT (exC E ++ r')) ∧ Hid (IsRatC wc r' (m.2 / g.2)) ∧ Hid (OwnPoly w.heap.size wc u6 out) ∧ Hid (IsPoly wc (.slice (some ⟨ba,oa,none⟩) (a.length + 1) ca) (m :: a)) ∧ Below w.heap.size w wc)
       case first =>
        replace hown2:=Lib.hid hown2
        replace ha2:=Lib.hid ha2
        go_region_with (go_at_call 46; refine (hdiv _ (bdn (Below.refl _ _) _)).mono ?_; rintro en w5 ⟨v5,rfl,hv5,hb5⟩; obtain ⟨N5,A5,K5,C5,N6,A6,K6,C6,rfl⟩:=rat_agg hv5; have B5:=(B2.on (bdn (Below.refl _ _) _)).on hb5; have z1:=B5.at1 4 _ rfl; have z2:=B5.at1 5 _ rfl; have z3:=B5.at1 6 _ rfl; have z4:=B5.at1 7 _ rfl; have g1:=B5.frozen 4; have g2:=B5.frozen 5; have g3:=B5.frozen 6; have g4:=B5.frozen 7)
        all_goals
         obtain ⟨R5,gr5⟩:=setCells_blk [.bool N5,.slice A5 K5 C5,.bool N6,.slice A6 K6 C6] 4 w5 _ B5 (by simp [exC])
         have hl5 : Lr (some mb) monoT w5 _:=⟨gr5,fun k hk=>by cases hk; exact ⟨B5.noOther,R5.noOther⟩⟩
         have hb25 : Below W2.heap.size W2 w5:=(bdn (Below.refl _ _) 1).trans (hb5.mono (Nat.le_refl _))
         have hbw5:=hbr2.trans (hb25.mono hbr2.size)
         have hown5:=(hown2.out.on hb25).lr hl5 (elTerm_ok (by decide)) (.inr hom)
         have ha5:=(ha2.out.on hb25).lrB hl5 (elTerm_ok (by decide)) (fun ao n c h=>by simp only [Value.slice.injEq,Option.some.injEq] at h; rw [← h.1]; simpa using ham)
         have hr5:=(hv5.lr hl5 (by decide)).cellsC (cs:=[.bool N5,.slice A5 K5 C5,.bool N6,.slice A6 K6 C6])
         have hbw6:=hbw5.trans (hl5.belowAt hbw5.size (fun k hk=>by cases hk; exact hwm))
         clear z1 z2 z3 z4 g1 g2 g3 g4 B5 hv5 hl5 gr5
         go_wp2
         go_meet
         case rel=>exact ⟨_,Lib.hid R5,Lib.hid hr5,Lib.hid hown5,Lib.hid ha5,hbw6⟩
       case rest =>
        clear B2 hown2 ha2 hdiv y1 y2 y3 y4 x1 x2 x3 x4 f1 f2 f3 f4 hbr2
        obtain ⟨r',hB,hr',hown,ha,hbr⟩:=hcut
        have BB:=hB.out
        have h4r:=hr'.out.len
        have h8 : (exC E ++ r').length=8:=by rw [List.length_append,h4r]; rfl
        have hne' : some mb ≠ u6.ownBlock:=fun h=>hom h.symm
        obtain ⟨k1,k2,k3,k4,k5⟩:=hok2.out
        rw [hqe.out] at k3 k5
        have kq : ∀ t ∈ [((E,m.2 / g.2) : Trm)],InR t.1 ∧ Rk t.2:=fun t ht=>by
         rw [List.mem_singleton.1 ht]; exact ⟨hEr.out,k1⟩
        replace k1:=Lib.hid k1
        replace k2:=Lib.hid k2
        replace k3:=Lib.hid k3
        replace k4:=Lib.hid k4
        replace k5:=Lib.hid k5
        replace kq:=Lib.hid kq
        replace hbase:=Lib.hid hbase
        clear hB hok2 hlg
        go_upto_region 14 with (fail)
        refine wp_region_S trivial (u6.ownBlock) (monoT) (hown.out.okr) [.eq (u6),.eq (.agg (exC E ++ r').toArray),.new1 elTerm elTerm_okT ((E,m.2 / g.2)),.row elTerm (w.heap.size) wc.heap.size (out ++ [(E,m.2 / g.2)])] [50,51,52,53] rfl rfl rfl rfl ⟨?_,?_,?_,?_,trivial⟩ ?_
        ·exact fun A w1 hA hL hS he=>goOn_plain rfl (stepG_mv rfl rfl (hA 6 rfl))
        ·intro A w1 hA hL hS he
         have h7 : A.eval (.tmp 7)=.pointer (some ⟨mb,0,none⟩):=hA 7 rfl
         refine goOn_plain rfl ?_
         exact stepG_pure rfl rfl (execOp_load rfl (by rw [h7]; exact run_loadAt_mid w1 _ _ _ _ _ ((BB.lr hL hne').cells.range) Tryz.underlying43 rfl (by rw [h8]; kernel_rfl)))
        ·intro A w1 hA hL hS he
         have h51 : A.eval (.tmp 51)=_:=he.1 rfl
         refine goOn_plain rfl ?_
         have hE : (elTerm : El _).E w1 _ ((E,m.2 / g.2)):=⟨_,rfl,hr'.out.lr hL (by decide)⟩
         refine stepG_new1 rfl rfl ((hown.out.okr).lr hL) hE (execOp_buildSlice rfl ?_) (fun _ _ h=>h)
         simp only [List.map_toArray,List.map_cons,List.map_nil,h51]
         exact run_new1_elTermP _ _ ((elTerm).len hE)
        ·intro A w1 hA hL hS he
         have hb:=hS rfl
         have hbw : Below w.heap.size w w1:=hbr.trans (hL.belowAt hbr.size hbase.out)
         have h50 : A.eval (.tmp 50)=_:=he.1 rfl
         have f52 : ((.new1 elTerm elTerm_okT ((E,m.2 / g.2)) : FactL (Lr (u6.ownBlock) (monoT)))).p (A.eval (.tmp 52)) w1:=he.2.1 rfl
         obtain ⟨v52,h52⟩ : ∃ v,A.eval (.tmp 52)=v:=⟨_,rfl⟩
         rw [h52] at f52
         refine goOn_plain rfl ?_
         exact stepG_append rfl rfl rfl Tryz.underlying27 info_elTerm h50 h52 (hown.out.on hb) rfl rfl (isSl_of_new f52) (by simp only [List.length_cons,List.length_nil]; omega) (hbw.size) hL.1.size (fun _ _ h1 h2=>⟨h1,h2⟩)
        ·intro W6 hL6
         simp only [TailL,FactL.eq,FactL.new1,FactL.row,FactL.asPure,FactL.of,FactL.fragile,List.length_cons,List.length_nil,List.drop_succ_cons,List.drop_zero]
         rintro v52 - v53 ⟨hown6,hnew⟩
         go_frame
         have hbW6:=hbr.trans (hL6.belowAt hbr.size hbase.out)
         have ha6:=ha.out.lrB hL6 (elTerm_ok (by decide)) (fun ao n c h=>by simp only [Value.slice.injEq,Option.some.injEq] at h; rw [← h.1]; exact hne1)
         have B6:=BB.lr hL6 hne'
         have hr6:=hr'.out.lr hL6 (by decide)
         have hq6:=hq.on hbW6
         have hblk6:=Lib.hid hown6.base_le
         clear hL6 BB ha hown hr' hbr hnew
         go_upto_region 15 with (fail)
         refine wp_region_S trivial (none) (0) (Okr.none) [.eq (.slice (some ⟨ba,oa,none⟩) (a.length + 1) ca),.eq (.slice (some ⟨bq,oq,none⟩) (b.length + 1) cq),.eq (.agg (exC E ++ r').toArray),.new1 elTerm (elTerm_ok (by decide)) ((E,m.2 / g.2)),.poly (by decide) (by decide) ((mulP (g :: b) [(E,m.2 / g.2)])),.own W6.heap.size (subP (m :: a) (mulP (g :: b) [(E,m.2 / g.2)]))] [54,55,56,57,58,59] rfl rfl rfl rfl ⟨?_,?_,?_,?_,?_,?_,trivial⟩ ?_
         ·exact fun A w1 hA hL hS he=>goOn_plain rfl (stepG_mv rfl rfl (hA 0 rfl))
         ·exact fun A w1 hA hL hS he=>goOn_plain rfl (stepG_mv rfl rfl (hA 1 rfl))
         ·intro A w1 hA hL hS he
          have hb:=hL.below
          have h7 : A.eval (.tmp 7)=.pointer (some ⟨mb,0,none⟩):=hA 7 rfl
          refine goOn_plain rfl ?_
          exact stepG_pure rfl rfl (execOp_load rfl (by rw [h7]; exact run_loadAt_mid w1 _ _ _ _ _ ((B6.on hb).cells.range) Tryz.underlying43 rfl (by rw [h8]; kernel_rfl)))
         ·intro A w1 hA hL hS he
          have hb:=hS rfl
          have h56 : A.eval (.tmp 56)=_:=he.1 rfl
          refine goOn_plain rfl ?_
          have hE : (elTerm : El _).E w1 _ ((E,m.2 / g.2)):=⟨_,rfl,hr6.on hb⟩
          refine stepG_new1 rfl rfl ((Okr.none).lr hL) hE (execOp_buildSlice rfl ?_) (fun _ _ h=>h)
          simp only [List.map_toArray,List.map_cons,List.map_nil,h56]
          exact run_new1_elTermP _ _ ((elTerm).len hE)
         ·intro A w1 hA hL hS he
          have hb:=hS rfl
          have h55 : A.eval (.tmp 55)=_:=he.1 rfl
          have f57 : ((.new1 elTerm (elTerm_ok (by decide)) ((E,m.2 / g.2)) : FactL (Lr (none) (0)))).p (A.eval (.tmp 57)) w1:=he.2.1 rfl
          obtain ⟨v57,h57⟩ : ∃ v,A.eval (.tmp 57)=v:=⟨_,rfl⟩
          rw [h57] at f57
          have hf0 : A.eval (.func 54)=.func (.func 54) #[] #[]:=rfl
          refine goOn_plain rfl ?_
          refine stepG_call (f:=54) (args:=#[.slice (some ⟨bq,oq,none⟩) (b.length + 1) cq,v57]) rfl rfl ?_ ?_
          ·generalize A.eval=ev at *
           go_simp
          ·refine (mul_pp _ _ _ _ _ (hq6.on hb) (isSl_of_new f57) k2.out.1 kq.out k3.out k2.out.2 (by simp)).mono ?_
           rintro e w' ⟨v,rfl,hi,hb'⟩
           exact ⟨_,rfl,hb',hi⟩
         ·intro A w1 hA hL hS he
          have hb:=hS rfl
          have h54 : A.eval (.tmp 54)=_:=he.1 rfl
          have f58 : ((.poly (by decide) (by decide) ((mulP (g :: b) [(E,m.2 / g.2)])) : FactL (Lr (none) (0)))).p (A.eval (.tmp 58)) w1:=he.2.1 rfl
          obtain ⟨v58,h58⟩ : ∃ v,A.eval (.tmp 58)=v:=⟨_,rfl⟩
          rw [h58] at f58
          have hf0 : A.eval (.func 74)=.func (.func 74) #[] #[]:=rfl
          refine goOn_plain rfl ?_
          refine stepG_call (f:=74) (args:=#[.slice (some ⟨ba,oa,none⟩) (a.length + 1) ca,v58]) rfl rfl ?_ ?_
          ·generalize A.eval=ev at *
           go_simp
          ·refine (sub_own _ _ _ _ _ (ha6.on hb) f58 k4.out.1 k5.out.1 k4.out.2.1 k5.out.2 k4.out.2.2 (Vld.mul _ _)).mono ?_
           rintro e w' ⟨v,rfl,hi,hb'⟩
           exact ⟨_,rfl,hb',hi.base_mono hb.size⟩
         ·intro W7 hL7
          have hb7:=hL7.below
          simp only [TailL,FactL.eq,FactL.new1,FactL.poly,FactL.own,FactL.of,List.length_cons,List.length_nil,List.drop_succ_cons,List.drop_zero]
          rintro v57 - v58 - v59 hown9
          go_frame
          have hown7:=hown6.on hb7
          have hbW7:=hbW6.trans (hb7.mono hbW6.size)
          have hap : (subP (m :: a) (mulP (g :: b) [(E,m.2 / g.2)])) ≠ [] → ∀ ao n c,v59=.slice (some ao) n c → some ao.block ≠ v53.ownBlock:=fun _ ao n c h hc=>by
           have h1:=(hblk6.out ao.block hc.symm).2
           obtain ⟨xs,⟨-,h2⟩,-⟩:=hown9
           rcases h2 with ⟨h2,-⟩ | ⟨gg,cap,cur,h2,h3,-⟩
           ·rw [h] at h2; cases h2
           ·rw [h] at h2; cases h2; simp only at h1; omega
          replace hap:=Lib.hid hap
          clear hL7 hb7 hown6 ha6 B6 hr6 hq6 hbW6
          go_wp2
          go_roundg n'
          case measure=>have:=hn'.out; omega
          case rel=>exact ⟨_,_,Lib.hid hown9.isSl,Lib.hid hown7,hd',hbW7,hap⟩
end Go.Proofs.YtopclbeomcggiaaGreat
end
section
namespace Q
def psStep (D R : List (List Trm)) : List (List Trm) :=
 let n:=D.length - 1
 let top:=R.getD (R.length - 1) []
 (List.range (R.length - 1)).map fun i=>if R.length - 1 - n ≤ i then subP (mulP (R.getD i []) (D.getD n [])) (mulP top (D.getD (i - (R.length - 1 - n)) [])) else mulP (R.getD i []) (D.getD n [])
def psRun (D : List (List Trm)) : Nat → List (List Trm) → List (List Trm)
 | 0,R=>R
 | f + 1,R=>if D.length - 1 < R.length then psRun D f (psStep D R) else R
theorem psStep_len (D R : List (List Trm)) : (psStep D R).length=R.length - 1:=by simp [psStep]
def psTo (D R : List (List Trm)) (i : Nat) : List (List Trm):=(psStep D R).take i ++ (R.take (R.length - 1)).drop i
theorem psTo_len {D R : List (List Trm)} {i : Nat} (h : i ≤ R.length - 1) : (psTo D R i).length=R.length - 1:=by simp [psTo,psStep_len]; omega
theorem psTo_zero (D R : List (List Trm)) : psTo D R 0=R.take (R.length - 1):=by simp [psTo]
theorem psTo_full (D R : List (List Trm)) : psTo D R (R.length - 1)=psStep D R:=by
 rw [psTo,List.drop_of_length_le (by simp),List.append_nil,List.take_of_length_le (by rw [psStep_len]; exact Nat.le_refl _)]
theorem psTo_get {D R : List (List Trm)} {i : Nat} (h : i < R.length - 1) : (psTo D R i)[i]?=some (R.getD i []):=by
 have hl : ((psStep D R).take i).length=i:=by rw [List.length_take,psStep_len]; omega
 rw [psTo,List.getElem?_append_right (by omega),List.getElem?_drop]
 rw [hl,Nat.sub_self,Nat.add_zero,List.getElem?_take,if_pos h,List.getD_eq_getElem?_getD,List.getElem?_eq_getElem (by omega)]
 rfl
theorem psTo_succ {D R : List (List Trm)} {i : Nat} (h : i < R.length - 1) :
  psTo D R (i + 1)=(psTo D R i).set i (if R.length - 1 - (D.length - 1) ≤ i then subP (mulP (R.getD i []) (D.getD (D.length - 1) [])) (mulP (R.getD (R.length - 1) []) (D.getD (i - (R.length - 1 - (D.length - 1))) [])) else mulP (R.getD i []) (D.getD (D.length - 1) [])):=by
 have hl : ((psStep D R).take i).length=i:=by rw [List.length_take,psStep_len]; omega
 rw [psTo,psTo,List.set_append_right _ _ (by omega),hl,Nat.sub_self,List.drop_eq_getElem_cons (show i < (R.take (R.length - 1)).length by simp; omega),List.set_cons_zero,List.take_add_one,List.append_assoc]
 congr 1
 have : (psStep D R)[i]?=some (if R.length - 1 - (D.length - 1) ≤ i then subP (mulP (R.getD i []) (D.getD (D.length - 1) [])) (mulP (R.getD (R.length - 1) []) (D.getD (i - (R.length - 1 - (D.length - 1))) [])) else mulP (R.getD i []) (D.getD (D.length - 1) [])):=by
  simp [psStep,h]
 rw [this]; rfl
end Q
namespace Q
open Go Go.RowKit Go.Proofs.YtopclbeomcggiaaGreat
structure MulOk (p q : List Trm) : Prop where
 kp : ∀ t ∈ p,InR t.1 ∧ Rk t.2
 kq : ∀ t ∈ q,InR t.1 ∧ Rk t.2
 ko : Okl (prods p q)
 kl : p.length ≤ 1000000 ∧ q.length ≤ 1000000
structure SubOk (p q : List Trm) : Prop where
 kp : ∀ t ∈ p,Rk t.2
 kq : ∀ t ∈ q,Rk t.2
 kl : p.length ≤ 1000000 ∧ q.length ≤ 1000000
 kv : Vld p ∧ Vld q
def PsOk (D R : List (List Trm)) : Prop:=∀ i,i < R.length - 1 → MulOk (R.getD i []) (D.getD (D.length - 1) []) ∧
 (R.length - 1 - (D.length - 1) ≤ i → MulOk (R.getD (R.length - 1) []) (D.getD (i - (R.length - 1 - (D.length - 1))) []) ∧ SubOk (mulP (R.getD i []) (D.getD (D.length - 1) [])) (mulP (R.getD (R.length - 1) []) (D.getD (i - (R.length - 1 - (D.length - 1))) [])))
def PsAll (D : List (List Trm)) : Nat → List (List Trm) → Prop
 | 0,_=>True
 | f + 1,R=>D.length - 1 < R.length → PsOk D R ∧ PsAll D f (psStep D R)
structure Cols (w : World) (g : Nat) (vs : List Value) (R : List (List Trm)) : Prop where
 b : Blk w g polyT vs
 l : R.length ≤ vs.length
 p : ∀ (i : Nat) v p,vs[i]?=some v → R[i]?=some p → IsPoly w v p
theorem Cols.on {w w' : World} {g : Nat} {vs : List Value} {R : List (List Trm)} (h : Cols w g vs R) (hb : Below w.heap.size w w') : Cols w' g vs R :=
 ⟨h.b.on hb,h.l,fun i v p h1 h2=>(h.p i v p h1 h2).on hb⟩
theorem Cols.get {w : World} {g : Nat} {vs : List Value} {R : List (List Trm)} (h : Cols w g vs R) {i : Nat} (hi : i < R.length) : ∃ v,vs[i]?=some v ∧ IsPoly w v (R.getD i []) ∧ w.cell? ⟨g,i,none⟩=some v:=by
 have h1:=h.l
 have hv : vs[i]?=some vs[i]:=List.getElem?_eq_getElem (by omega)
 refine ⟨vs[i],hv,h.p i _ _ hv ?_,h.b.at1 i _ hv⟩
 rw [List.getD_eq_getElem?_getD,List.getElem?_eq_getElem hi]; rfl
theorem Cols.set {w : World} {g : Nat} {vs : List Value} {R : List (List Trm)} (h : Cols w g vs R) {i : Nat} (hi : i < R.length) {v : Value} {q : List Trm} (hq : IsPoly w v q) :
  Cols (w.setCell ⟨g,i,none⟩ v) g (vs.set i v) (R.set i q) ∧ Lr (some g) polyT w (w.setCell ⟨g,i,none⟩ v):=by
 have hl:=setCell_lr (j:=i) h.b v
 refine ⟨⟨h.b.set i v,by simpa using h.l,fun j u p h1 h2=>?_⟩,hl⟩
 rw [List.getElem?_set] at h1 h2
 by_cases hij : i=j
 ·subst hij
  rw [if_pos rfl,if_pos (by have:=h.l; omega)] at h1
  rw [if_pos rfl,if_pos hi] at h2
  cases h1; cases h2
  exact hq.lr hl (elTerm_ok (by decide)) (by decide)
 ·rw [if_neg hij] at h1 h2
  exact (h.p j u p h1 h2).lr hl (elTerm_ok (by decide)) (by decide)
theorem Cols.take {w : World} {g : Nat} {vs : List Value} {R : List (List Trm)} (h : Cols w g vs R) (k : Nat) : Cols w g vs (R.take k) :=
 ⟨h.b,by have:=h.l; rw [List.length_take]; omega,fun i v p h1 h2=>h.p i v p h1 (by rw [List.getElem?_take] at h2; split at h2; exact h2; cases h2)⟩
theorem Cols.other {w w' : World} {g h : Nat} {vs : List Value} {R : List (List Trm)} (hc : Cols w g vs R) (hl : Lr (some h) polyT w w') (hne : g ≠ h) : Cols w' g vs R :=
 ⟨hc.b.lr hl (by simpa using hne),hc.l,fun i v p h1 h2=>(hc.p i v p h1 h2).lr hl (elTerm_ok (by decide)) (by decide)⟩
theorem Cols.polys {w : World} {g : Nat} {vs : List Value} {R : List (List Trm)} (h : Cols w g vs R) : IsPolys w (.slice (some ⟨g,0,none⟩) R.length vs.length) R:=by
 refine ⟨_,_,vs.take R.length,rfl,h.l,fun _=>⟨g,0,rfl,h.b.cells.take _⟩,elems_polys (by rw [List.length_take]; have:=h.l; omega) fun n v l h1 h2=>?_⟩
 rw [List.getElem?_take] at h1
 split at h1
 ·exact h.p n v l h1 h2
 ·cases h1
end Q
namespace Go.Proofs.YtopclbeomcggiaaGreat
open Go Go.RowKit Q Go.Proofs.YtopclbeomcggiaaGreat
theorem Rows1.cols {w : World} {g base : Nat} {vs : List Value} {L : List (List Trm)} (h : Rows1 base w vs L) (hB : Blk w g polyT vs) : Cols w g vs L :=
 ⟨hB,by rw [h.len]; exact Nat.le_refl _,fun i v p h1 h2=>(h.own i v p h1 h2).isSl⟩
end Go.Proofs.YtopclbeomcggiaaGreat
namespace Q
open Go Go.RowKit Go.Proofs.YtopclbeomcggiaaGreat
end Q
namespace Q
open Go Go.RowKit
theorem wpList_slice_hi {P : Program} {w : World} {ops : Array Oper} {rest : List Oper} {o : Oper} {a : Act} {Q : Exit → Act → World → Prop} (hg : o.guard=none) (x hi : Operand) (t : TypeId) (hop : o.op=Op.slice t x none (some hi) none) {el : TypeId} (ht : P.underlying t=some (.slice el)) {size : Nat} (hs : (P.info? el).map (·.size)=some size)
  (ao : Option Addr) (n c : Nat) (hx : a.eval x=.slice ao n c) (k : IntKind) (i : Int) (hix : a.eval hi=.int k i) (j : Nat) (hij : i=(j : Int)) (hj : j ≤ c) (h : wpList P ops Q rest (a.put o.dst (.slice ao j c)) w) : wpList P ops Q (o :: rest) a w:=by
 refine wpList_plain hg fun K hK=>?_
 have hrun:=run_slice_high ht hs w ao n c j k i hij hj
 unfold Oper.wp
 rw [execOp_slice hop (by simp only [Option.map_some,Option.map_none]; rw [hx,hix]; exact hrun)]
 exact hK _ _ h
end Q
namespace Go.Proofs.YtopclbeomcggiaaGreat
open Go.RowKit Q Go.WideMaps Go.Maps
def RetPolyE (w : World) (l : List Trm) (c : Int) (e : Ending) (w' : World) : Prop:=∃ v,e=.returned (.tuple #[v,.int .i64 c]) ∧ IsPoly w' v l ∧ Below w.heap.size w w'
set_option maxHeartbeats 8000000 in
set_option maxRecDepth 100000 in
theorem pseudo_any (vp vq : Value) (p q : List Trm) (v : Nat) (w : World) (hp : IsPoly w vp p) (hq : IsPoly w vq q) (hv : v < 4) (hne : q ≠ []) (np : NatL p) (nq : NatL q) (dp : degP p v ≤ 1000) (dq : degP q v ≤ 1000) (lp : p.length ≤ 1000000) (lq : q.length ≤ 1000000)
  (hps : PsAll (coeffsP q v) (coeffsP p v).length (coeffsP p v)) (hok : Okl (fromL v 0 (psRun (coeffsP q v) (coeffsP p v).length (coeffsP p v)))) (hl2 : ∀ c ∈ psRun (coeffsP q v) (coeffsP p v).length (coeffsP p v),c.length ≤ 1000000) :
  Calls Tryz.prog 94 #[vp,vq,.int .i64 v] w (RetPolyE w (fromP (psRun (coeffsP q v) (coeffsP p v).length (coeffsP p v)) v) 0):=by
 have hD:=fun W (hb : Below w.heap.size w W)=>coeffs_own vq q v W (hq.on hb) hv nq (by omega) lq
 have hR:=fun W (hb : Below w.heap.size w W)=>coeffs_own vp p v W (hp.on hb) hv np (by omega) lp
 obtain ⟨aq,cq,rfl,hcq⟩:=hq.shape
 have hql : 0 < q.length:=List.length_pos_iff.2 hne
 have hDl : 1 ≤ (coeffsP q v).length ∧ (coeffsP q v).length ≤ 1001:=by
  rw [coeffsP_length]
  obtain ⟨t,ht⟩:=List.exists_mem_of_ne_nil _ hne
  have:=degP_le ht v
  have:=Ex.nat_get (nq t ht) v
  omega
 have hRl : (coeffsP p v).length ≤ 1001:=by rw [coeffsP_length]; have:=degP_ge p v; omega
 have hq0 : ((q.length : Int) == 0)=false:=by simp; omega
 generalize coeffsP q v=D at *
 generalize coeffsP p v=R0 at *
 obtain ⟨RES,hRES⟩ : ∃ RES,psRun D R0.length R0=RES:=⟨_,rfl⟩
 rw [hRES] at hok hl2 ⊢
 have hRESl : RES.length ≤ 1001:=by
  have : ∀ f R,(psRun D f R).length ≤ R.length:=by
   intro f
   induction f with
   | zero=>intro R; exact Nat.le_refl _
   | succ f ih=>intro R; unfold psRun; split; exact Nat.le_trans (ih _) (by rw [psStep_len]; omega); exact Nat.le_refl _
  have:=this R0.length R0
  rw [hRES] at this; omega
 replace hok:=Lib.hid hok
 replace hl2:=Lib.hid hl2
 obtain ⟨f0,hf0⟩ : ∃ f0,f0=R0.length:=⟨_,rfl⟩
 rw [← hf0] at hRES hps
 have hfl : R0.length ≤ D.length - 1 + f0:=by omega
 replace hRES:=Lib.hid hRES
 replace hps:=Lib.hid hps
 have hnD : ((D.length : Int) - 1)=((D.length - 1 : Nat) : Int):=by omega
 clear hne hp hq np nq dp dq lp lq hf0
 go_enter Tryz.func94,Tryz.ntmps94
 go_upto_region 4 with (go_at_call 62; refine (hD _ (Below.refl _ _)).mono ?_; rintro en w1 ⟨gd,vd,rfl,hBd,hgd,hRd,hb1⟩)
 have hcD:=hRd.cols hBd
 have hvdl:=hRd.len
 clear hBd hRd hgd
 rw [hvdl]
 go_upto_region 6 with (go_at_call 62; refine (hR _ hb1).mono ?_; rintro en w2 ⟨g,vs,rfl,hB,hg,hRr,hb2⟩)
 have hb12:=hb1.trans (hb2.mono hb1.size)
 have hc0:=hRr.cols hB
 have hcD2:=hcD.on hb2
 have hgD : gd < g:=by have:=hcD.b.lt; omega
 have hgw : w.heap.size ≤ g:=by have:=hb1.size; omega
 have hvl:=hRr.len
 have hst : Hid (Cols w2 g vs R0 ∧ vs.length=R0.length ∧ psRun D f0 R0=RES ∧ PsAll D f0 R0 ∧ R0.length ≤ D.length - 1 + f0):=Lib.hid ⟨hc0,hvl,hRES.out,hps.out,hfl⟩
 rw [hvl]
 replace hst:=hst.out
 clear hRES hps hB hRr hD hR hcD hc0 hb1 hb2 hg hvl
 go_loopg [10] f0 (fun f v10 wr=>∃ (R : List (List Trm)) (vs : List Value),v10=.slice (some ⟨g,0,none⟩) R.length R0.length ∧ Hid (Cols wr g vs R) ∧ vs.length=R0.length ∧ Hid (psRun D f R=RES) ∧ Hid (PsAll D f R) ∧ R.length ≤ D.length - 1 + f ∧ R.length ≤ R0.length ∧ Hid (Cols wr gd vd D) ∧ Below w.heap.size w wr)
 case atStart=>exact ⟨R0,vs,rfl,Lib.hid hst.1,hst.2.1,Lib.hid hst.2.2.1,Lib.hid hst.2.2.2.1,hst.2.2.2.2,by omega,Lib.hid hcD2,hb12⟩
 case round =>
  clear hst hcD2 hb12
  obtain ⟨R,vs,rfl,hc,hvl,hrun,hps,hfl,hRc,hcD,hbr⟩:=hrel
  by_cases hlt : D.length - 1 < R.length
  ·obtain ⟨f',rfl⟩ : ∃ f',gk=f' + 1:=⟨gk - 1,by omega⟩
   have hrun' : Hid (psRun D f' (psStep D R)=RES):=Lib.hid (by rw [← hrun.out,psRun,if_pos hlt])
   have hps':=hps.out hlt
   have hpo:=Lib.hid hps'.1
   have hpa:=Lib.hid hps'.2
   obtain ⟨vt,hvt,hPt,hct⟩:=hc.out.get (i:=R.length - 1) (by omega)
   have hlast : ((R.length : Int) - 1)=((R.length - 1 : Nat) : Int):=by omega
   have hlt' : ((D.length - 1 : Nat) : Int) < (R.length : Int):=by omega
   have hsli:=fun W' : World=>run_slice_high (P:=Tryz.prog) Tryz.underlying75 info38 W' (some ⟨g,0,none⟩) R.length R0.length (R.length - 1) .i64 ((R.length - 1 : Nat) : Int) rfl (by omega)
   have hct2:=(hc.out.take (R.length - 1))
   rw [← psTo_zero D R] at hct2
   replace hct2:=Lib.hid hct2
   have hpt:=Lib.hid hPt
   have hR1 : R.length ≤ 1001:=by omega
   clear hrun hps hps' hvt hPt hc
   go_upto_region 9 with (first
    | (refine wpList_index_at rfl _ _ 75 rfl polyT Tryz.underlying75 _ 1 24 (by kernel_rfl) _ _ _ rfl .i64 _ rfl (R.length - 1) (by omega) (by omega) g 0 rfl ?_; rw [Nat.mul_one,Nat.zero_add])
    | (refine wpList_slice_hi rfl _ _ 75 rfl Tryz.underlying75 info38 _ _ _ rfl .i64 _ rfl (R.length - 1) (by omega) (by omega) ?_))
   clear hct hsli
   go_wp2
   go_loopw [43] (fun i wr=>∃ (k : Nat) (vs : List Value),k ≤ R.length - 1 ∧ i=.int .i64 k ∧ Hid (Cols wr g vs (psTo D R k)) ∧ vs.length=R0.length ∧ Hid (IsPoly wr vt (R.getD (R.length - 1) [])) ∧ Hid (Cols wr gd vd D) ∧ Below w.heap.size w wr) (fun i _=>R.length - 1 - (intOf i).toNat)
   case atStart=>exact ⟨0,vs,by omega,by go_num,hct2,hvl,hpt,hcD,hbr⟩
   case round =>
    clear hct2 hpt hcD hbr hvl
    obtain ⟨k,vs,hk,rfl,hc,hvl,hpt,hcD,hbr⟩:=hrel
    by_cases hkl : k < R.length - 1
    ·have hkl' : (k : Int) < ((R.length - 1 : Nat) : Int):=by omega
     have hlen : (psTo D R k).length=R.length - 1:=psTo_len (by omega)
     obtain ⟨vk,hvk,-,hck⟩:=hc.out.get (i:=k) (by omega)
     have hPk : IsPoly wr vk (R.getD k []):=hc.out.p k _ _ hvk (psTo_get hkl)
     obtain ⟨vn,hvn,hPn,hcn⟩:=hcD.out.get (i:=D.length - 1) (by omega)
     obtain ⟨mo,mo2⟩:=hpo.out k hkl
     have hsucc:=psTo_succ (D:=D) hkl
     replace hsucc:=Lib.hid hsucc
     replace mo2:=Lib.hid mo2
     have hgl : g < wr.heap.size:=hc.out.b.lt
     have hgdl : gd < wr.heap.size:=hcD.out.b.lt
     have f1 : ∀ W,Below wr.heap.size wr W → W.cell? ⟨g,k,none⟩=some vk:=fun W h=>by rw [h.cell hgl]; exact hck
     have f2 : ∀ W,Below wr.heap.size wr W → W.cell? ⟨gd,D.length - 1,none⟩=some vn:=fun W h=>by rw [h.cell hgdl]; exact hcn
     clear hck hcn
     go_upto_region 12 with (fail)
     refine wp_region_L mixed (none) (0) (Okr.none) [.eq (.slice (some ⟨g,0,none⟩) (R.length - 1) R0.length),.eq (.int .i64 k),.eq (.slice (some ⟨g,0,none⟩) (R.length - 1) R0.length),.eq (.int .i64 k),.eq (.pointer (some ⟨g,0 + k * 1,none⟩)),.eq (vk),.eq (.slice (some ⟨gd,0,none⟩) D.length D.length),.eq (.int .i64 (D.length - 1 : Nat)),.eq (.pointer (some ⟨gd,0 + (D.length - 1) * 1,none⟩)),.eq (vn),.poly (by decide) (by decide) ((mulP (R.getD k []) (D.getD (D.length - 1) []))),.eq (.pointer (some ⟨g,0 + k * 1,none⟩))] [46,47,48,49,50,51,52,53,54,55,56,57] rfl rfl rfl rfl ⟨?_,?_,?_,?_,?_,?_,?_,?_,?_,?_,?_,?_,trivial⟩ ?_
     ·exact fun A w1 hA hL hS he=>goOn_plain rfl (stepG_mv rfl rfl (hA 10 rfl))
     ·exact fun A w1 hA hL hS he=>goOn_plain rfl (stepG_mv rfl rfl (hA 12 rfl))
     ·exact fun A w1 hA hL hS he=>goOn_plain rfl (stepG_mv rfl rfl (hA 10 rfl))
     ·exact fun A w1 hA hL hS he=>goOn_plain rfl (stepG_mv rfl rfl (hA 12 rfl))
     ·intro A w1 hA hL hS he
      have h48 : A.eval (.tmp 48)=_:=he.1 rfl
      have h49 : A.eval (.tmp 49)=_:=he.2.1 rfl
      refine goOn_plain rfl ?_
      exact stepG_pure rfl rfl (execOp_index rfl (by rw [h48,h49]; exact run_index Tryz.underlying75 (by kernel_rfl) w1 g 0 _ _ k .i64 _ (by first | rfl | simp | omega) (hkl)))
     ·intro A w1 hA hL hS he
      have h50 : A.eval (.tmp 50)=_:=he.1 rfl
      refine goOn_plain rfl ?_
      have c0:=f1 w1 hL.below
      refine stepG_pure rfl rfl ?_
      generalize A.eval=ev at *
      go_simp
     ·exact fun A w1 hA hL hS he=>goOn_plain rfl (stepG_mv rfl rfl (hA 8 rfl))
     ·exact fun A w1 hA hL hS he=>goOn_plain rfl (stepG_mv rfl rfl (hA 9 rfl))
     ·intro A w1 hA hL hS he
      have h52 : A.eval (.tmp 52)=_:=he.1 rfl
      have h53 : A.eval (.tmp 53)=_:=he.2.1 rfl
      refine goOn_plain rfl ?_
      exact stepG_pure rfl rfl (execOp_index rfl (by rw [h52,h53]; exact run_index Tryz.underlying75 (by kernel_rfl) w1 gd 0 _ _ (D.length - 1) .i64 _ (by first | rfl | simp | omega) (by omega)))
     ·intro A w1 hA hL hS he
      have h54 : A.eval (.tmp 54)=_:=he.1 rfl
      refine goOn_plain rfl ?_
      have c0:=f2 w1 hL.below
      refine stepG_pure rfl rfl ?_
      generalize A.eval=ev at *
      go_simp
     ·intro A w1 hA hL hS he
      have hb:=hS rfl
      have h51 : A.eval (.tmp 51)=_:=he.1 rfl
      have h55 : A.eval (.tmp 55)=_:=he.2.1 rfl
      have hf0 : A.eval (.func 54)=.func (.func 54) #[] #[]:=rfl
      refine goOn_plain rfl ?_
      refine stepG_call (f:=54) (args:=#[vk,vn]) rfl rfl ?_ ?_
      ·generalize A.eval=ev at *
       go_simp
      ·refine (mul_pp _ _ _ _ _ (hPk.on hb) (hPn.on hb) mo.kp mo.kq mo.ko mo.kl.1 mo.kl.2).mono ?_
       rintro e w' ⟨v,rfl,hi,hb'⟩
       exact ⟨_,rfl,hb',hi⟩
     ·intro A w1 hA hL hS he
      have h46 : A.eval (.tmp 46)=_:=he.1 rfl
      have h47 : A.eval (.tmp 47)=_:=he.2.1 rfl
      refine goOn_plain rfl ?_
      exact stepG_pure rfl rfl (execOp_index rfl (by rw [h46,h47]; exact run_index Tryz.underlying75 (by kernel_rfl) w1 g 0 _ _ k .i64 _ (by first | rfl | simp | omega) (hkl)))
     ·intro W2 hL2
      have hb2:=hL2.below
      simp only [TailL,FactL.eq,FactL.poly,FactL.of,List.length_cons,List.length_nil,List.drop_succ_cons,List.drop_zero]
      rintro v56 h56
      go_frame
      have hc2:=hc.out.on hb2
      have hcD2:=hcD.out.on hb2
      have hpt2:=hpt.out.on hb2
      have hbr2:=hbr.trans (hb2.mono hbr.size)
      have z:=hc2.b.at1 k _ hvk
      have hf:=hc2.b.frozen k
      have hkT : k < (psTo D R k).length:=by omega
      obtain ⟨hc3,hl3⟩:=hc2.set hkT h56
      have hcD3 : Cols (W2.setCell ⟨g,k,none⟩ v56) gd vd D:=hcD2.other hl3 (by omega)
      have hpt3:=hpt2.lr hl3 (elTerm_ok (by decide)) (by decide)
      have hbr3:=hbr2.trans (hl3.belowAt hbr2.size (fun k hk=>by cases hk; exact hgw))
      have h563:=h56.lr hl3 (elTerm_ok (by decide)) (by decide)
      obtain ⟨a56,c56,hs56,-⟩:=h56.shape
      subst hs56
      clear f1 f2 hPk hPn hL2 hc hcD hpt hb2 hbr hc2 hcD2 hpt2 hbr2 hvk hvn h56 mo
      generalize mulP (R.getD k []) (D.getD (D.length - 1) [])=A at *
      have hR2 : R.length - 1 ≤ 1000:=by omega
      have hD2 : D.length - 1 ≤ 1000:=by omega
      by_cases hge : R.length - 1 - (D.length - 1) ≤ k
      ·obtain ⟨mo2a,so⟩:=mo2.out hge
       have hki : (0 : Int) ≤ (k : Int) - (((R.length - 1 : Nat) : Int) - ((D.length - 1 : Nat) : Int)):=by omega
       obtain ⟨j,hj⟩ : ∃ j,j=k - (R.length - 1 - (D.length - 1)):=⟨_,rfl⟩
       have hji : (k : Int) - (((R.length - 1 : Nat) : Int) - ((D.length - 1 : Nat) : Int))=(j : Int):=by omega
       replace hj:=Lib.hid hj
       go_upto_region 15 with (fail)
       have hlenT : ((psTo D R k).set k A).length=R.length - 1:=by simpa using hlen
       have hjD : j < D.length:=by omega
       rw [← hj.out] at mo2a so
       obtain ⟨vj,hvj,hPj,hcj⟩:=hcD3.get (i:=j) hjD
       obtain ⟨W3,hW3⟩ : ∃ W3,W3=W2.setCell ⟨g,k,none⟩ (.slice a56 A.length c56):=⟨_,rfl⟩
       rw [← hW3] at hc3 hcD3 hpt3 hbr3 h563 hPj hcj ⊢
       have hkT3 : k < ((psTo D R k).set k A).length:=by omega
       have hck3 : W3.cell? ⟨g,k,none⟩=some (.slice a56 A.length c56):=hc3.b.at1 k _ (by rw [List.getElem?_set,if_pos rfl,if_pos (by have:=hc3.l; simp at this; omega)])
       have hgl3 : g < W3.heap.size:=hc3.b.lt
       have hgdl3 : gd < W3.heap.size:=hcD3.b.lt
       have e1 : ∀ W,Below W3.heap.size W3 W → W.cell? ⟨g,k,none⟩=some (.slice a56 A.length c56):=fun W h=>by rw [h.cell hgl3]; exact hck3
       have e2 : ∀ W,Below W3.heap.size W3 W → W.cell? ⟨gd,j,none⟩=some vj:=fun W h=>by rw [h.cell hgdl3]; exact hcj
       generalize hvv : Value.slice a56 A.length c56=vv at *
       clear hW3 hl3 z hf hck3 hcj hki hvv
       rw [if_pos hge,← hj.out] at hsucc
       refine wp_region_L mixed (none) (0) (Okr.none) [.eq (.slice (some ⟨g,0,none⟩) (R.length - 1) R0.length),.eq (.int .i64 k),.eq (.slice (some ⟨g,0,none⟩) (R.length - 1) R0.length),.eq (.int .i64 k),.eq (.pointer (some ⟨g,0 + k * 1,none⟩)),.eq (vv),.eq (vt),.eq (.slice (some ⟨gd,0,none⟩) D.length D.length),.eq (.int .i64 j),.eq (.pointer (some ⟨gd,0 + j * 1,none⟩)),.eq (vj),.poly (by decide) (by decide) ((mulP (R.getD (R.length - 1) []) (D.getD j []))),.poly (by decide) (by decide) ((subP A (mulP (R.getD (R.length - 1) []) (D.getD j [])))),.eq (.pointer (some ⟨g,0 + k * 1,none⟩))] [66,67,68,69,70,71,72,73,74,75,76,77,78,79] rfl rfl rfl rfl ⟨?_,?_,?_,?_,?_,?_,?_,?_,?_,?_,?_,?_,?_,?_,trivial⟩ ?_
       ·exact fun A w1 hA hL hS he=>goOn_plain rfl (stepG_mv rfl rfl (hA 10 rfl))
       ·exact fun A w1 hA hL hS he=>goOn_plain rfl (stepG_mv rfl rfl (hA 12 rfl))
       ·exact fun A w1 hA hL hS he=>goOn_plain rfl (stepG_mv rfl rfl (hA 10 rfl))
       ·exact fun A w1 hA hL hS he=>goOn_plain rfl (stepG_mv rfl rfl (hA 12 rfl))
       ·intro A w1 hA hL hS he
        have h68 : A.eval (.tmp 68)=_:=he.1 rfl
        have h69 : A.eval (.tmp 69)=_:=he.2.1 rfl
        refine goOn_plain rfl ?_
        exact stepG_pure rfl rfl (execOp_index rfl (by rw [h68,h69]; exact run_index Tryz.underlying75 (by kernel_rfl) w1 g 0 _ _ k .i64 _ (by first | rfl | simp | omega) (hkl)))
       ·intro A w1 hA hL hS he
        have h70 : A.eval (.tmp 70)=_:=he.1 rfl
        refine goOn_plain rfl ?_
        have c0:=e1 w1 hL.below
        refine stepG_pure rfl rfl ?_
        generalize A.eval=ev at *
        go_simp
       ·exact fun A w1 hA hL hS he=>goOn_plain rfl (stepG_mv rfl rfl (hA 11 rfl))
       ·exact fun A w1 hA hL hS he=>goOn_plain rfl (stepG_mv rfl rfl (hA 8 rfl))
       ·exact fun A w1 hA hL hS he=>goOn_plain rfl (stepG_mv rfl rfl (hA 13 rfl))
       ·intro A w1 hA hL hS he
        have h73 : A.eval (.tmp 73)=_:=he.1 rfl
        have h74 : A.eval (.tmp 74)=_:=he.2.1 rfl
        refine goOn_plain rfl ?_
        exact stepG_pure rfl rfl (execOp_index rfl (by rw [h73,h74]; exact run_index Tryz.underlying75 (by kernel_rfl) w1 gd 0 _ _ j .i64 _ (by first | rfl | simp | omega) (hjD)))
       ·intro A w1 hA hL hS he
        have h75 : A.eval (.tmp 75)=_:=he.1 rfl
        refine goOn_plain rfl ?_
        have c0:=e2 w1 hL.below
        refine stepG_pure rfl rfl ?_
        generalize A.eval=ev at *
        go_simp
       ·intro A w1 hA hL hS he
        have hb:=hS rfl
        have h72 : A.eval (.tmp 72)=_:=he.1 rfl
        have h76 : A.eval (.tmp 76)=_:=he.2.1 rfl
        have hf0 : A.eval (.func 54)=.func (.func 54) #[] #[]:=rfl
        refine goOn_plain rfl ?_
        refine stepG_call (f:=54) (args:=#[vt,vj]) rfl rfl ?_ ?_
        ·generalize A.eval=ev at *
         go_simp
        ·refine (mul_pp _ _ _ _ _ (hpt3.on hb) (hPj.on hb) mo2a.kp mo2a.kq mo2a.ko mo2a.kl.1 mo2a.kl.2).mono ?_
         rintro e w' ⟨v,rfl,hi,hb'⟩
         exact ⟨_,rfl,hb',hi⟩
       ·intro A w1 hA hL hS he
        have hb:=hS rfl
        have h71 : A.eval (.tmp 71)=_:=he.1 rfl
        have f77 : ((.poly (by decide) (by decide) ((mulP (R.getD (R.length - 1) []) (D.getD j []))) : FactL (Lr (none) (0)))).p (A.eval (.tmp 77)) w1:=he.2.1 rfl
        obtain ⟨v77,h77⟩ : ∃ v,A.eval (.tmp 77)=v:=⟨_,rfl⟩
        rw [h77] at f77
        have hf0 : A.eval (.func 74)=.func (.func 74) #[] #[]:=rfl
        refine goOn_plain rfl ?_
        refine stepG_call (f:=74) (args:=#[vv,v77]) rfl rfl ?_ ?_
        ·generalize A.eval=ev at *
         go_simp
        ·refine (sub_any _ _ _ _ _ (h563.on hb) f77 so.kp so.kq so.kl.1 so.kl.2 so.kv.1 so.kv.2).mono ?_
         rintro e w' ⟨v,rfl,hi,hb'⟩
         exact ⟨_,rfl,hb',hi⟩
       ·intro A w1 hA hL hS he
        have h66 : A.eval (.tmp 66)=_:=he.1 rfl
        have h67 : A.eval (.tmp 67)=_:=he.2.1 rfl
        refine goOn_plain rfl ?_
        exact stepG_pure rfl rfl (execOp_index rfl (by rw [h66,h67]; exact run_index Tryz.underlying75 (by kernel_rfl) w1 g 0 _ _ k .i64 _ (by first | rfl | simp | omega) (hkl)))
       ·intro W5 hL5
        have hb5:=hL5.below
        simp only [TailL,FactL.eq,FactL.poly,FactL.of,List.length_cons,List.length_nil,List.drop_succ_cons,List.drop_zero]
        rintro v77 - v78 h78
        generalize subP A (mulP (R.getD (R.length - 1) []) (D.getD j []))=A2 at h78 hsucc
        go_frame
        have hc5:=hc3.on hb5
        have hcD5:=hcD3.on hb5
        have hpt5:=hpt3.on hb5
        have hbr5:=hbr3.trans (hb5.mono hbr3.size)
        obtain ⟨vq,hvq,-,z5⟩:=hc5.get (i:=k) hkT3
        have hf5:=hc5.b.frozen k
        obtain ⟨hc6,hl6⟩:=hc5.set hkT3 h78
        have hcD6:=hcD5.other hl6 (by omega)
        have hpt6:=hpt5.lr hl6 (elTerm_ok (by decide)) (by decide)
        have hbr6:=hbr5.trans (hl6.belowAt hbr5.size (fun k hk=>by cases hk; exact hgw))
        obtain ⟨a78,c78,hs78,-⟩:=h78.shape
        subst hs78
        rw [show ((psTo D R k).set k A).set k A2=psTo D R (k + 1) by rw [hsucc.out]; simp] at hc6
        clear hc3 hcD3 hpt3 hbr3 h563 hPj e1 e2 hL5 hc5 hcD5 hpt5 hbr5 hvq h78
        go_wp2
        go_roundw
        case rel=>exact ⟨k + 1,_,by omega,by go_num,Lib.hid hc6,by simpa using hvl,Lib.hid hpt6,Lib.hid hcD6,hbr6⟩
        case measure=>simp [intOf]; omega
      ·have hki : ¬ (0 : Int) ≤ (k : Int) - (((R.length - 1 : Nat) : Int) - ((D.length - 1 : Nat) : Int)):=by omega
       rw [if_neg hge] at hsucc
       go_wp2
       go_roundw
       case rel=>exact ⟨k + 1,_,by omega,by go_num,Lib.hid (by rw [hsucc.out]; exact hc3),by simpa using hvl,Lib.hid hpt3,Lib.hid hcD3,hbr3⟩
       case measure=>simp [intOf]; omega
    ·obtain rfl : k=R.length - 1:=by omega
     rw [psTo_full] at hc
     have hsl:=psStep_len D R
     go_wp2
     go_roundg f'
     case measure=>omega
     case rel=>exact ⟨psStep D R,vs,by rw [hsl],hc,hvl,hrun',hpa,by omega,by omega,hcD,hbr⟩
  ·have hfin : RES=R:=by
    have:=hrun.out
    cases gk with
    | zero=>exact this.symm
    | succ f=>rw [psRun,if_neg hlt] at this; exact this.symm
   have hlt' : ¬ ((D.length - 1 : Nat) : Int) < (R.length : Int):=by omega
   have hPs:=hc.out.polys
   rw [hvl] at hPs
   have hfr:=fun W (hb : Below wr.heap.size wr W)=>from_any _ R v W (hPs.on hb) hv (by rw [← hfin]; exact hok.out) (by omega) (by rw [← hfin]; exact hl2.out)
   replace hfin:=Lib.hid hfin
   clear hrun hps hc hcD hok hl2
   go_wp2_with (go_at_call 120; refine (hfr _ (Below.refl _ _)).mono ?_; rintro en w5 ⟨v5,rfl,hv5,hb5⟩)
   go_ret2
   exact ⟨_,rfl,by rw [hfin.out]; exact hv5,hbr.trans (hb5.mono hbr.size)⟩
end Go.Proofs.YtopclbeomcggiaaGreat
end
