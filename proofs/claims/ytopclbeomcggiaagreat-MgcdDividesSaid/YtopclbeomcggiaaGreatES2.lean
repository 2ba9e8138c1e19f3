/- mgcd: one, over, constant, Normal. -/
import Derived.Test.YtopclbeomcggiaaGreatE02
import Derived.Test.YtopclbeomcggiaaGreatE04
import Derived.Test.YtopclbeomcggiaaGreatE20
import Derived.Test.YtopclbeomcggiaaGreatE24
import Derived.Test.YtopclbeomcggiaaGreatE31
set_option linter.unusedVariables false
set_option linter.unusedSimpArgs false
set_option maxHeartbeats 16000000
set_option maxRecDepth 100000
namespace Q
open Go Go.RowKit Go.Proofs.YtopclbeomcggiaaGreat
theorem divW_fuel {b ts:List Trm} {g:Trm} (hb:Wp b) (hg:b=g::ts) {a:List Trm} {r:Option (List Trm)} (h:divW a b=some r):∃ k,DivR b g k a [] r:=by
 subst hg;exact divO_run hb rfl h (by simp [fuel])
theorem rat1 {c:Rat} (hc:c≠0) (h:Rk c):Rk (1 / c):=by
 have e:1 / c=c⁻¹:=by rw [Rat.div_def,Rat.one_mul]
 rw [e];refine⟨?_,?_⟩
 ·rw [Rat.den_inv,if_neg fun h=>hc (Rat.num_eq_zero.1 h)];exact h.2
 ·rw [Rat.num_inv,Int.natAbs_mul,Int.natAbs_natCast];refine Nat.le_trans (nbits_mono (n:=c.den) ?_) h.1;have:c.num.sign.natAbs<=1:=by rw [Int.natAbs_sign];split <;> omega
  exact Nat.le_trans (Nat.mul_le_mul_right _ this) (by omega)
theorem rk1:Rk (((1:Int)):Rat):=by
 refine⟨by decide +kernel,?_⟩;have:=nbits_le (n:=(((1:Int)):Rat).num.natAbs) (k:=1) (by decide +kernel);unfold CAP;omega
end Q
namespace Go.Proofs.YtopclbeomcggiaaGreat
open Go.RowKit Q Go.WideMaps Go.Maps
theorem one_any (w:World):Calls Tryz.prog 51 #[] w (RetPoly w oneP):=by
 go_enter Tryz.func51,Tryz.ntmps51
 go_wp2_with (first
 |(go_at_call 47;refine (rwhole_any 1 _ (by omega) (by omega)).mono ?_;rintro e w1 ⟨v1,rfl,h1,hb1⟩)
 |(go_at_call 89;refine (const_any _ _ _ h1).mono ?_;rintro e w2 ⟨v2,rfl,h2,hb2⟩))
 go_ret;exact⟨_,rfl,h2,hb1.trans (hb2.mono hb1.size)⟩
theorem divW_any (va vb:Value) (a b:List Trm) (r:Option (List Trm)) (w:World) (ha:IsPoly w va a) (hb:IsPoly w vb b) (kb:Wp b) (h:divW a b=some r):Calls Tryz.prog 93 #[va,vb] w (RetDivP w r):=by
 cases b with
|nil=>simp only [divW,Option.some.injEq] at h;subst h;exact div_nil va vb a w ha hb
|cons g b =>
  obtain⟨k,hk⟩:=divW_fuel kb rfl h;exact div_any va vb a b g k r w ha hb hk
theorem over_wp {a b q:List Trm} (h:overO a b=some q):Wp q:=by
 unfold overO at h
 cases hd:divW a b with
|none=>rw [hd] at h;cases h
|some r =>
  rw [hd] at h;obtain⟨rfl,hq⟩:=g1_some h;exact hq
theorem over_any (va vb:Value) (a b q:List Trm) (w:World) (ha:IsPoly w va a) (hb:IsPoly w vb b) (kb:Wp b) (h:overO a b=some q):Calls Tryz.prog 56 #[va,vb] w (RetPoly w q):=by
 unfold overO at h
 cases hd:divW a b with
|none=>rw [hd] at h;cases h
|some r =>
  rw [hd] at h;obtain⟨rfl,hq⟩:=g1_some h;have hc:=divW_any va vb a b r w ha hb kb hd;clear hq hd h;obtain⟨aa,ca,rfl,hca⟩:=ha.shape;obtain⟨ab,cb,rfl,hcb⟩:=hb.shape
  go_enter Tryz.func56,Tryz.ntmps56
  go_wp2_with (go_at_call 93;refine hc.mono ?_;rintro e w1 ⟨v1,rfl,h1,hb1⟩)
  go_ret;exact⟨_,rfl,h1,hb1⟩
theorem constant_any (va:Value) (a:List Trm) (w:World) (ha:IsPoly w va a):Calls Tryz.prog 50 #[va] w (Ret w (.bool (constB a))):=by
 match a,ha with
|[],ha =>
  obtain⟨aa,ca,rfl,hca⟩:=ha.shape
  go_enter Tryz.func50,Tryz.ntmps50
  go_wp2;go_ret;exact⟨rfl,Below.refl _ _⟩
|t::u::r,ha =>
  obtain⟨aa,ca,rfl,hca⟩:=ha.shape;have hne:(((t::u::r).length:Int) == 1)=false:=by simp;omega
  generalize (t::u::r).length=n at *;have hcs:constB (t::u::r)=false:=rfl;rw [hcs]
  go_enter Tryz.func50,Tryz.ntmps50
  go_wp2;go_ret;exact⟨rfl,Below.refl _ _⟩
|[t],ha =>
  obtain⟨aa,ca,rfl,hca⟩:=ha.shape;obtain⟨ba,oa,csa,rfl,-,hEa,hCa⟩:=ha.get (j:=0) (t:=t) rfl;obtain⟨ra,rfl,hra⟩:=hEa;change Cells monoT w ba (oa+0*8) _ at hCa;have hcs:constB [t]=decide (t.1=e0):=rfl;rw [hcs];obtain⟨e,c⟩:=t;simp only at *;have heq:=eq_ex e e0
  go_enter Tryz.func50,Tryz.ntmps50
  go_upto_region 1 with (fail)
  refine wp_region_S trivial (none) (0) (Okr.none) [.eq (.slice (some ⟨ba,oa,none⟩) 1 ca),.eq (.int .i64 1),.eq (.bool true),.eq (.bool true),.eq (.slice (some ⟨ba,oa,none⟩) 1 ca),.eq (.pointer (some ⟨ba,oa+0*8,none⟩)),.eq (.pointer (some ⟨ba,oa+0*8,none⟩)),.eq (.agg (exC e).toArray),.eq (.agg (exC e0).toArray),.eq (.bool (decide (e=e0))),.eq (.bool (decide (e=e0)))] [3,4,5,6,7,8,9,10,11,12,13] rfl rfl rfl rfl ⟨?_,?_,?_,?_,?_,?_,?_,?_,?_,?_,?_,trivial⟩ ?_
  ·exact fun _ _ a _ _ _=>xM rfl (a 0 rfl)
  ·intro A w1 hA hL hS he;have h3:=eT 3 (he.1 rfl);exact pZ rfl
  ·intro A w1 hA hL hS he;have h4:=eT 4 (he.1 rfl);have hc0:=eC A (.int .i64 1);exact pZ rfl
  ·exact fun _ _ _ _ _ e=>xM rfl (e.1 rfl)
  ·exact fun _ _ a _ _ e=>yM (e.1 rfl) rfl (a 0 rfl)
  ·exact fun _ _ _ _ _ e=>goOn_yes rfl rfl (e.2.1 rfl) (xI rfl Tryz.underlying27 ba oa 0 (by omega) (e.1 rfl) rfl)
  ·exact fun _ _ _ _ _ e=>goOn_yes rfl rfl (e.2.1 rfl) (xF0 rfl (e.1 rfl))
  ·exact fun A w1 hA hL hS he=>goOn_yes rfl rfl (he.2.1 rfl) (xL rfl (cells_ex (hCa.on hL.below)) Tryz.underlying36 (show (exC e).length=4 from rfl) (he.1 rfl))
  ·intro A w1 hA hL hS he;have h6:=eT 6 (he.1 rfl);refine goOn_yes rfl rfl h6 ?_;refine stepG_pure rfl rfl ?_;generalize A.eval=ev at *;go_simp
   rfl
  ·intro A w1 hA hL hS he;have h6:=eT 6 (he.2.2.1 rfl);have h10:=eT 10 (he.1 rfl);have h11:=eT 11 (he.2.1 rfl);refine goOn_yes rfl rfl h6 ?_;have hq:=heq w1;exact stepG_pure rfl rfl gZ
  ·intro A w1 hA hL hS he;have h6:=eT 6 (he.1 rfl);have h12:=eT 12 (he.2.1 rfl);have hc0:=eC A (.bool false);exact pZ rfl
  ·intro w2 hL2;simp only [TailL,FactL.eq,lZ];go_frame;go_wp2;go_ret;exact⟨rfl,hL2.below⟩
theorem normal_nil (va:Value) (w:World) (ha:IsPoly w va []):Calls Tryz.prog 14 #[va] w (RetPoly w []):=by
 obtain⟨aa,ca,rfl,hca⟩:=ha.shape;simp only [List.length_nil]
 go_enter Tryz.func14,Tryz.ntmps14
 go_wp2;go_ret;exact⟨_,rfl,IsSl.nil _ _,Below.refl _ _⟩
theorem norm_wp {a g:List Trm} (h:normO a=some g):Wp g:=by
 cases a with
|nil=>simp only [normO,Option.some.injEq] at h;subst h;exact Wp.nil
|cons t r =>
  simp only [normO] at h;obtain⟨h1,h2⟩:=g1_some h;rw [h1];exact h2
theorem normal_any (va:Value) (a g:List Trm) (w:World) (ha:IsPoly w va a) (ka:Wp a) (h:normO a=some g):Calls Tryz.prog 14 #[va] w (RetPoly w g):=by
 match a,ha,ka,h with
|[],ha,ka,h =>
  simp only [normO,Option.some.injEq] at h;subst h;exact normal_nil va w ha
|t::r,ha,ka,h =>
  simp only [normO] at h;have hg:=g1_some h;obtain⟨rfl,hgw⟩:=hg;clear h hgw;have hz:=(ka.val.2 t (by simp)).1;have hkt:=ka.rk t (by simp);have hrk:=rat1 hz hkt;have hsc:=fun W v (hb:Below w.heap.size w W) (hv:IsRat W v (((1:Int):Rat) / t.2))=>scale_any va v (t::r) (((1:Int):Rat) / t.2) W (ha.on hb) hv hrk ka.rk (by have:=ka.len;omega);have h1c:(1:Rat)=(((1:Int)):Rat):=rfl;rw [h1c];obtain⟨aa,ca,rfl,hca⟩:=ha.shape;obtain⟨ba,oa,csa,rfl,-,hEa,hCa⟩:=ha.get (j:=0) (t:=t) rfl;obtain⟨ra,rfl,hra⟩:=hEa;change Cells monoT w ba (oa+0*8) _ at hCa;have hla:=hra.len;simp only [List.length_cons] at hsc ⊢;replace hsc:=zH hsc;clear ha ka hca h1c;have hne:(((r.length+1:Nat):Int) == 0)=false:=by simp;omega
  have hp0:0<r.length+1:=by omega
  generalize r.length+1=N at *
  go_enter Tryz.func14,Tryz.ntmps14
  go_upto_region 3 with (fail)
  obtain⟨N3,A3,K3,C3,N4,A4,K4,C4,rfl,-,-⟩:=id hra
  have hx:∀ W,Below w.heap.size w W->W.cell? ⟨ba,oa+4,none⟩=some (.bool N3)/\W.cell? ⟨ba,oa+4+1,none⟩=some (.slice A3 K3 C3)/\W.cell? ⟨ba,oa+4+2,none⟩=some (.bool N4)/\W.cell? ⟨ba,oa+4+3,none⟩=some (.slice A4 K4 C4):=fun W hb=>by
   have hC:=hCa.on hb;refine⟨?_,?_,?_,?_⟩
   ·have:=hC.cell 4 (by simp [exC]);simpa [exC] using this
   ·have:=hC.cell 5 (by simp [exC]);simpa [exC,Nat.add_assoc] using this
   ·have:=hC.cell 6 (by simp [exC]);simpa [exC,Nat.add_assoc] using this
   ·have:=hC.cell 7 (by simp [exC]);simpa [exC,Nat.add_assoc] using this
  obtain⟨x1,x2,x3,x4⟩:=hx w (Below.refl _ _);have hlt:=hCa.lt;have hdiv:=zH (fun W v (hb:Below w.heap.size w W) (hv:IsRat W v (((1:Int)):Rat))=>rdiv_any _ _ _ _ W hv (hra.on hb).rat rk1 hkt hz);obtain⟨x5,x6,x7,x8⟩:=hx (w.drew.alloc (.cells #[.bool false,.slice none 0 0,.bool false,.slice none 0 0] 41)) ((bdn (Below.refl w.heap.size w) 1).alloc (Nat.le_refl _) _);replace hx:=zH hx;clear hCa
  go_cut [9,10,11,12,13,14,8,15,16,3,4] (fun _ _ _ _ _ _ _ _ _ v3 _ wc=>∃ bx n5 a5 k5 c5 n6 a6 k6 c6,v3=.pointer (some ⟨bx,0,none⟩)/\Hid (Blk wc bx 41 [.bool n5,.slice a5 k5 c5,.bool n6,.slice a6 k6 c6])/\Hid (IsRat wc (.agg #[.bool n5,.slice a5 k5 c5,.bool n6,.slice a6 k6 c6]) (((1:Int):Rat) / t.2))/\Below w.heap.size w wc)
  case first =>
   go_region_with (first
   |(go_at_call 47;refine (rwhole_any 1 _ (by omega) (by omega)).mono ?_;rintro en w1 ⟨v1,rfl,h1,hb1⟩;have hbw1:Below w.heap.size w w1:=Below.trans (by first|exact bdn (Below.refl _ _) _|exact (bdn (Below.refl _ _) _).alloc (Nat.le_refl _) _) (hb1.mono (by first|exact Nat.le_refl _|(simp;done)|(simp;omega)));obtain⟨y1,y2,y3,y4⟩:=hx.out w1 hbw1;obtain⟨y5,y6,y7,y8⟩:=hx.out (w1.alloc (.cells #[.bool false,.slice none 0 0,.bool false,.slice none 0 0] 41)) (hbw1.alloc hbw1.size _);try (have B1:Blk w1 w.heap.size 41 [.bool false,.slice none 0 0,.bool false,.slice none 0 0]:=(Blk.new w.drew 41 [.bool false,.slice none 0 0,.bool false,.slice none 0 0]).on hb1))
   |(go_at_call 46;(first|refine (hdiv.out _ _ hbw1 h1).mono ?_|refine (hdiv.out _ _ (hbw1.alloc hbw1.size _) (h1.on ((Below.refl _ _).alloc (Nat.le_refl _) _))).mono ?_);rintro en w5 ⟨v5,rfl,hv5,hb5⟩;obtain⟨N5,A5,K5,C5,N6,A6,K6,C6,rfl⟩:=rat_agg hv5;have hbw5:Below w.heap.size w w5:=Below.trans (by first|exact hbw1|exact hbw1.alloc hbw1.size _) (hb5.mono (by first|exact hbw1.size|(have:=hbw1.size;simp;omega)));(first|(have B5:=B1.on hb5;have z1:=B5.at1 0 _ rfl;have z2:=B5.at1 1 _ rfl;have z3:=B5.at1 2 _ rfl;have z4:=B5.at1 3 _ rfl;have g1:=B5.frozen 0;have g2:=B5.frozen 1;have g3:=B5.frozen 2;have g4:=B5.frozen 3)|(have B5:Blk w5 w1.heap.size 41 [.bool false,.slice none 0 0,.bool false,.slice none 0 0]:=(Blk.new w1 41 [.bool false,.slice none 0 0,.bool false,.slice none 0 0]).on hb5;have z1:=B5.at1 0 _ rfl;have z2:=B5.at1 1 _ rfl;have z3:=B5.at1 2 _ rfl;have z4:=B5.at1 3 _ rfl;have g1:=B5.frozen 0;have g2:=B5.frozen 1;have g3:=B5.frozen 2;have g4:=B5.frozen 3)|skip);have B6:=Blk.new w5 41 [.bool false,.slice none 0 0,.bool false,.slice none 0 0];have p1:=B6.at1 0 _ rfl;have p2:=B6.at1 1 _ rfl;have p3:=B6.at1 2 _ rfl;have p4:=B6.at1 3 _ rfl;have q1:=B6.frozen 0;have q2:=B6.frozen 1;have q3:=B6.frozen 2;have q4:=B6.frozen 3))
   all_goals first
   |(obtain⟨R5,gr5⟩:=setCells_blk [.bool N5,.slice A5 K5 C5,.bool N6,.slice A6 K6 C6] 0 w5 _ B5 (by simp);have hl5:Lr (some _) 41 w5 _:=⟨gr5,fun k hk=>by cases hk;exact⟨B5.noOther,R5.noOther⟩⟩;have hr5:=hv5.lr hl5 (by decide);have hbw6:=hbw5.trans (hl5.belowAt hbw5.size (fun k hk=>by cases hk;first|exact Nat.le_refl _|exact hbw1.size));clear hb5 hb1;go_wp2;go_meet;case rel=>exact⟨_,_,_,_,_,_,_,_,_,rfl,zH R5,zH hr5,hbw6⟩)
   |(have R5:=Blk.new w5 41 [.bool N5,.slice A5 K5 C5,.bool N6,.slice A6 K6 C6];have hr5:=hv5.on ((Below.refl _ _).alloc (Nat.le_refl _) (.cells #[.bool N5,.slice A5 K5 C5,.bool N6,.slice A6 K6 C6] 41));have hbw6:=hbw5.alloc hbw5.size (.cells #[.bool N5,.slice A5 K5 C5,.bool N6,.slice A6 K6 C6] 41);clear hb5 hb1;go_wp2;go_meet;case rel=>exact⟨_,_,_,_,_,_,_,_,_,rfl,zH R5,zH hr5,hbw6⟩)
  case rest =>
   obtain⟨bx,n5,a5,k5,c5,n6,a6,k6,c6,rfl,hB,hr,hbw⟩:=hcut;have y1:=hB.out.at1 0 _ rfl;have y2:=hB.out.at1 1 _ rfl;have y3:=hB.out.at1 2 _ rfl;have y4:=hB.out.at1 3 _ rfl;have hcl:=hsc.out _ _ hbw hr.out;clear x1 x2 x3 x4 x5 x6 x7 x8
   go_wp2_with (go_at_call 48;refine hcl.mono ?_;rintro e w4 ⟨v4,rfl,h4,hb4⟩)
   go_ret;exact⟨_,rfl,h4,hbw.trans (hb4.mono hbw.size)⟩
end Go.Proofs.YtopclbeomcggiaaGreat
