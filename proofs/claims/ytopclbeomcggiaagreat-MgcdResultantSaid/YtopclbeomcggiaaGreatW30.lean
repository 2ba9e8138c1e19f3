/- mgcd.bound. -/
import Derived.Test.YtopclbeomcggiaaGreatW29
set_option linter.unusedVariables false
set_option linter.unusedSimpArgs false
set_option maxHeartbeats 16000000
set_option maxRecDepth 100000
section
namespace Q
theorem IG {a:List ai} {v at_:Nat} {l:List Nat} (ka:Wp a) (h:oU a v at_=some l):l.length<=1000000:=by
 rw [(Ec h).1,List.length_replicate];have:=(ka.deg v).2;omega
theorem FP {a b:List ai} {v k:Nat} {l:List Nat} {m:Int} (h:kF a b v (k::l)=some m) :
  (mV (oU a v (17+100*k))=true/\mV (oU b v (17+100*k))=true/\∃ x y n,oU a v (17+100*k)=some x/\oU b v (17+100*k)=some y/\qj x y=some n/\m=(n:Int)-1) \/
  ((mV (oU a v (17+100*k))=false\/mV (oU b v (17+100*k))=false)/\kF a b v l=some m):=by
 rw [kF] at h
 cases hx:oU a v (17+100*k) with
 | none=>rw [hx] at h;exact .inr ⟨.inl rfl,h⟩
 | some x =>
  cases hy:oU b v (17+100*k) with
  | none=>rw [hx,hy] at h;exact .inr ⟨.inr rfl,h⟩
  | some y =>
   rw [hx,hy] at h;change (if (mV (some x) && mV (some y))=true then _ else _)=_ at h;cases h1:mV (some x)
   ·rw [h1] at h;exact .inr ⟨.inl rfl,by simpa using h⟩
   ·cases h2:mV (some y)
    ·rw [h1,h2] at h;exact .inr ⟨.inr rfl,by simpa using h⟩
    ·rw [h1,h2] at h;rw [if_pos (show (true && true)=true from rfl)] at h
     cases hs:qj x y with
     | none=>rw [hs] at h;cases h
     | some n =>
      rw [hs] at h;have h9:some ((n:Int)-1)=some m:=h;exact .inl ⟨rfl,rfl,x,y,n,rfl,rfl,hs,(Option.some.inj h9).symm⟩
end Q
namespace Go.Proofs.YtopclbeomcggiaaGreat
open Go.RowKit Q
theorem Oc (va vb:Value) (a b:List ai) (v:Nat) (m:Int) (w:World) (ha:ak w va a) (hb:ak w vb b) (ka:Wp a) (kb:Wp b) (hv:v<4) (hna:a≠[]) (hnb:b≠[]) (h:yf a b v=some m) :
  Calls Tryz.prog 92 #[va,vb,.int .i64 v] w (rO w (.int .i64 m)):=by
 have hia:=zH (fun k W (hk:k<3) (hb:Below w.heap.size w W)=>Ed va a v (17+100*k) W (ha.on hb) ka hv hna (by omega));have hib:=zH (fun k W (hk:k<3) (hbb:Below w.heap.size w W)=>Ed vb b v (17+100*k) W (hb.on hbb) kb hv hnb (by omega));have hda:=zH (fun W (hb:Below w.heap.size w W)=>jF va a v W (ha.on hb) hv (by have:=ka.len;omega));have hdb:=zH (fun W (hbb:Below w.heap.size w W)=>jF vb b v W (hb.on hbb) hv (by have:=kb.len;omega));have hla:=zH (fun k l (h:oU a v (17+100*k)=some l)=>IG ka h);have hlb:=zH (fun k l (h:oU b v (17+100*k)=some l)=>IG kb h);have hst:Hid (kF a b v ([0,1,2].drop 0)=some m):=zH h;obtain⟨aa,ca,rfl,-⟩:=ha.shape;obtain⟨ab,cb,rfl,-⟩:=hb.shape;have hka:=(ka.deg v);have hkb:=(kb.deg v);clear ha hb ka kb hna hnb h
 go_enter Tryz.func92,Tryz.ntmps92
 go_wp2
 go_loopw [12] (fun i wr=>∃ k:Nat,k<=3/\i=.int .u64 k/\Hid (kF a b v ([0,1,2].drop k)=some m)/\Below w.heap.size w wr) (fun i _=>match i with|.int _ x=>3-x.toNat|_=>0)
 case atStart=>exact⟨0,by omega,by go_num,hst,Below.refl _ _⟩
 case round =>
  clear hst;obtain⟨k,hk,rfl,hB,hbr⟩:=hrel;by_cases hk3:k<3
  ·have hk3':(k:Int)<3:=by omega
   have mY:([0,1,2]:List Nat).drop k=k::([0,1,2]:List Nat).drop (k+1):=by
    obtain rfl|rfl|rfl:k=0\/k=1\/k=2:=by omega
    all_goals rfl
   have hB2:=hB.out;rw [mY] at hB2;have h1:=hia.out k wr hk3 hbr;have h2:=hib.out k;have hke:((17+100*k:Nat):Int)=17+100*(k:Int):=by omega
   rw [hke] at h1 h2;clear hke;have hc:=FP hB2;have hla1:=hla.out k;have hlb1:=hlb.out k;clear mY hB hB2;generalize oU a v (17+100*k)=oa at *;generalize oU b v (17+100*k)=ob at *;replace hc:=zH hc;replace h2:=zH h2;replace hla1:=zH hla1;replace hlb1:=zH hlb1
   go_upto_region 6 with (first
    | (go_at_call 118;refine (h2.out w3 hk3 (hbr.trans (hb3.mono hbr.size))).mono ?_;rintro en w4 ⟨v4,rfl,hv4,hb4⟩)
    | (go_at_call 118;refine h1.mono ?_;rintro en w3 ⟨v3,rfl,hv3,hb3⟩))
   have hb34:=hb3.trans (hb4.mono hb3.size);have hbr4:=hbr.trans (hb34.mono hbr.size);rcases hc.out with ⟨f1,f2,x,y,n,rfl,rfl,hs,rfl⟩|⟨hf,hrest⟩
   ·rw [f1,f2];have hx:=(hv3 x rfl).on hb4;have hy:=hv4 y rfl;have hsh:=Kr v3 v4 x y n w4 hx hy (hla1.out x rfl) (hlb1.out y rfl) hs;replace hsh:=zH hsh;clear hv3 hv4 h1 h2 f1 f2 hx hy hs hc
    go_wp2_with (go_at_call 119;refine hsh.out.mono ?_;rintro en w5 ⟨rfl,hb5⟩)
    go_ret;exact⟨rfl,hbr4.trans (hb5.mono hbr4.size)⟩
   ·have hrest:=zH hrest;clear hv3 hv4 h1 h2 hc;cases f1:mV oa
    ·clear hf f1;go_wp2;go_roundw
     case rel=>exact⟨k+1,by omega,by go_num,hrest,hbr4⟩
     case measure=>simp;omega
    ·cases f2:mV ob
     ·clear hf f1 f2;go_wp2;go_roundw
      case rel=>exact⟨k+1,by omega,by go_num,hrest,hbr4⟩
      case measure=>simp;omega
     ·rw [f1,f2] at hf;rcases hf with hf|hf <;> cases hf
  ·obtain rfl:k=3:=by omega
   have hfin:Hid (m=min (aG a v) (aG b v)):=zH (Option.some.inj hB.out).symm;have h1:=hda.out wr hbr;have h2:=hdb.out;clear hda hdb hB;generalize aG a v=da at *;generalize aG b v=db at *
   go_wp2_with (first
    | (go_at_call 53;refine (h2 w3 (hbr.trans (hb3.mono hbr.size))).mono ?_;rintro en w4 ⟨rfl,hb4⟩)
    | (go_at_call 53;refine h1.mono ?_;rintro en w3 ⟨rfl,hb3⟩))
   go_ret;exact⟨by rw [hfin.out];rfl,(hbr.trans (hb3.mono hbr.size)).trans (hb4.mono (hbr.trans (hb3.mono hbr.size)).size)⟩
end Go.Proofs.YtopclbeomcggiaaGreat
end
section
namespace Q
open Go Go.RowKit Go.Proofs.YtopclbeomcggiaaGreat
theorem Od {b ts:List ai} {g:ai} (hb:Wp b) (hg:b=g::ts) {a:List ai} {r:Option (List ai)} (h:wM a b=some r):∃ k,xX b g k a [] r:=by
 subst hg;exact Qz hb rfl h (by simp [fuel])
theorem XQ {c:Rat} (hc:c≠0) (h:Rk c):Rk (1 / c):=by
 have e:1 / c=c⁻¹:=by rw [Rat.div_def,Rat.one_mul]
 rw [e];refine⟨?_,?_⟩
 ·rw [Rat.den_inv,if_neg fun h=>hc (Rat.num_eq_zero.1 h)];exact h.2
 ·rw [Rat.num_inv,Int.natAbs_mul,Int.natAbs_natCast];refine Nat.le_trans (iC (n:=c.den) ?_) h.1;have:c.num.sign.natAbs<=1:=by rw [Int.natAbs_sign];split <;> omega
  exact Nat.le_trans (Nat.mul_le_mul_right _ this) (by omega)
theorem Yp:Rk (((1:Int)):Rat):=by
 refine⟨by decide +kernel,?_⟩;have:=jH (n:=(((1:Int)):Rat).num.natAbs) (k:=1) (by decide +kernel);unfold iT;omega
end Q
namespace Go.Proofs.YtopclbeomcggiaaGreat
open Go.RowKit Q Go.WideMaps Go.Maps
theorem wO (w:World):Calls Tryz.prog 51 #[] w (aX w nP):=by
 go_enter Tryz.func51,Tryz.ntmps51
 go_wp2_with (first
  | (go_at_call 47;refine (ru 1 _ (by omega) (by omega)).mono ?_;rintro e w1 ⟨v1,rfl,h1,hb1⟩)
  | (go_at_call 89;refine (NF _ _ _ h1).mono ?_;rintro e w2 ⟨v2,rfl,h2,hb2⟩))
 go_ret;exact⟨_,rfl,h2,hb1.trans (hb2.mono hb1.size)⟩
theorem II (va vb:Value) (a b:List ai) (r:Option (List ai)) (w:World) (ha:ak w va a) (hb:ak w vb b) (kb:Wp b) (h:wM a b=some r):Calls Tryz.prog 93 #[va,vb] w (Fx w r):=by
 cases b with
 | nil=>simp only [wM,Option.some.injEq] at h;subst h;exact SL va vb a w ha hb
 | cons g b =>
  obtain⟨k,hk⟩:=Od kb rfl h;exact SN va vb a b g k r w ha hb hk
theorem pQ {a b q:List ai} (h:eD a b=some q):Wp q:=by
 unfold eD at h
 cases hd:wM a b with
 | none=>rw [hd] at h;cases h
 | some r =>
  rw [hd] at h;obtain⟨rfl,hq⟩:=jG h;exact hq
theorem mW (va vb:Value) (a b q:List ai) (w:World) (ha:ak w va a) (hb:ak w vb b) (kb:Wp b) (h:eD a b=some q):Calls Tryz.prog 56 #[va,vb] w (aX w q):=by
 unfold eD at h
 cases hd:wM a b with
 | none=>rw [hd] at h;cases h
 | some r =>
  rw [hd] at h;obtain⟨rfl,hq⟩:=jG h;have hc:=II va vb a b r w ha hb kb hd;clear hq hd h;obtain⟨aa,ca,rfl,hca⟩:=ha.shape;obtain⟨ab,cb,rfl,hcb⟩:=hb.shape
  go_enter Tryz.func56,Tryz.ntmps56
  go_wp2_with (go_at_call 93;refine hc.mono ?_;rintro e w1 ⟨v1,rfl,h1,hb1⟩)
  go_ret;exact⟨_,rfl,h1,hb1⟩
theorem rJ (va:Value) (a:List ai) (w:World) (ha:ak w va a):Calls Tryz.prog 50 #[va] w (rO w (.bool (kL a))):=by
 match a,ha with
 | [],ha =>
  obtain⟨aa,ca,rfl,hca⟩:=ha.shape
  go_enter Tryz.func50,Tryz.ntmps50
  go_wp2;go_ret;exact⟨rfl,Below.refl _ _⟩
 | t::u::r,ha =>
  obtain⟨aa,ca,rfl,hca⟩:=ha.shape;have hne:(((t::u::r).length:Int) == 1)=false:=by simp;omega
  generalize (t::u::r).length=n at *;have hcs:kL (t::u::r)=false:=rfl;rw [hcs]
  go_enter Tryz.func50,Tryz.ntmps50
  go_wp2;go_ret;exact⟨rfl,Below.refl _ _⟩
 | [t],ha =>
  obtain⟨aa,ca,rfl,hca⟩:=ha.shape;obtain⟨ba,oa,csa,rfl,-,hEa,hCa⟩:=ha.get (j:=0) (t:=t) rfl;obtain⟨ra,rfl,hra⟩:=hEa;change bO aN w ba (oa+0*8) _ at hCa;have hcs:kL [t]=decide (t.1=e0):=rfl;rw [hcs];obtain⟨e,c⟩:=t;simp only at *;have heq:=PV e e0
  go_enter Tryz.func50,Tryz.ntmps50
  go_upto_region 1 with (fail)
  refine aP trivial (none) (0) (gp.none) [.eq (.slice (some ⟨ba,oa,none⟩) 1 ca),.eq (.int .i64 1),.eq (.bool true),.eq (.bool true),.eq (.slice (some ⟨ba,oa,none⟩) 1 ca),.eq (.pointer (some ⟨ba,oa+0*8,none⟩)),.eq (.pointer (some ⟨ba,oa+0*8,none⟩)),.eq (.agg (bR e).toArray),.eq (.agg (bR e0).toArray),.eq (.bool (decide (e=e0))),.eq (.bool (decide (e=e0)))] [3,4,5,6,7,8,9,10,11,12,13] rfl rfl rfl rfl ⟨?_,?_,?_,?_,?_,?_,?_,?_,?_,?_,?_,trivial⟩ ?_
  ·exact fun _ _ a _ _ _=>xM rfl (a 0 rfl)
  ·intro A w1 hA hL hS he;have h3:=eT 3 (he.1 rfl);exact pZ rfl
  ·intro A w1 hA hL hS he;have h4:=eT 4 (he.1 rfl);have hc0:=eC A (.int .i64 1);exact pZ rfl
  ·exact fun _ _ _ _ _ e=>xM rfl (e.1 rfl)
  ·exact fun _ _ a _ _ e=>yM (e.1 rfl) rfl (a 0 rfl)
  ·exact fun _ _ _ _ _ e=>aJ rfl rfl (e.2.1 rfl) (xI rfl Tryz.underlying27 ba oa 0 (by omega) (e.1 rfl) rfl)
  ·exact fun _ _ _ _ _ e=>aJ rfl rfl (e.2.1 rfl) (yQ rfl (e.1 rfl))
  ·exact fun A w1 hA hL hS he=>aJ rfl rfl (he.2.1 rfl) (xL rfl (fA (hCa.on hL.below)) Tryz.underlying36 (show (bR e).length=4 from rfl) (he.1 rfl))
  ·intro A w1 hA hL hS he;have h6:=eT 6 (he.1 rfl);refine aJ rfl rfl h6 ?_;refine aC rfl rfl ?_;generalize A.eval=ev at *;go_simp
   rfl
  ·intro A w1 hA hL hS he;have h6:=eT 6 (he.2.2.1 rfl);have h10:=eT 10 (he.1 rfl);have h11:=eT 11 (he.2.1 rfl);refine aJ rfl rfl h6 ?_;have hq:=heq w1;exact aC rfl rfl gZ
  ·intro A w1 hA hL hS he;have h6:=eT 6 (he.1 rfl);have h12:=eT 12 (he.2.1 rfl);have hc0:=eC A (.bool false);exact pZ rfl
  ·intro w2 hL2;simp only [aU,af.eq,lZ];go_frame;go_wp2;go_ret;exact⟨rfl,hL2.below⟩
theorem BM (va:Value) (w:World) (ha:ak w va []):Calls Tryz.prog 14 #[va] w (aX w []):=by
 obtain⟨aa,ca,rfl,hca⟩:=ha.shape;simp only [List.length_nil]
 go_enter Tryz.func14,Tryz.ntmps14
 go_wp2;go_ret;exact⟨_,rfl,bS.nil _ _,Below.refl _ _⟩
theorem wP {a g:List ai} (h:kS a=some g):Wp g:=by
 cases a with
 | nil=>simp only [kS,Option.some.injEq] at h;subst h;exact Wp.nil
 | cons t r =>
  simp only [kS] at h;obtain⟨h1,h2⟩:=jG h;rw [h1];exact h2
theorem oL (va:Value) (a g:List ai) (w:World) (ha:ak w va a) (ka:Wp a) (h:kS a=some g):Calls Tryz.prog 14 #[va] w (aX w g):=by
 match a,ha,ka,h with
 | [],ha,ka,h =>
  simp only [kS,Option.some.injEq] at h;subst h;exact BM va w ha
 | t::r,ha,ka,h =>
  simp only [kS] at h;have hg:=jG h;obtain⟨rfl,hgw⟩:=hg;clear h hgw;have hz:=(ka.val.2 t (by simp)).1;have hkt:=ka.rk t (by simp);have hrk:=XQ hz hkt;have hsc:=fun W v (hb:Below w.heap.size w W) (hv:bV W v (((1:Int):Rat) / t.2))=>DT va v (t::r) (((1:Int):Rat) / t.2) W (ha.on hb) hv hrk ka.rk (by have:=ka.len;omega);have h1c:(1:Rat)=(((1:Int)):Rat):=rfl;rw [h1c];obtain⟨aa,ca,rfl,hca⟩:=ha.shape;obtain⟨ba,oa,csa,rfl,-,hEa,hCa⟩:=ha.get (j:=0) (t:=t) rfl;obtain⟨ra,rfl,hra⟩:=hEa;change bO aN w ba (oa+0*8) _ at hCa;have hla:=hra.len;simp only [List.length_cons] at hsc ⊢;replace hsc:=zH hsc;clear ha ka hca h1c;have hne:(((r.length+1:Nat):Int) == 0)=false:=by simp;omega
  have hp0:0<r.length+1:=by omega
  generalize r.length+1=N at *
  go_enter Tryz.func14,Tryz.ntmps14
  go_upto_region 3 with (fail)
  obtain⟨N3,A3,K3,C3,N4,A4,K4,C4,rfl,-,-⟩:=id hra
  have hx:∀ W,Below w.heap.size w W->W.cell? ⟨ba,oa+4,none⟩=some (.bool N3)/\W.cell? ⟨ba,oa+4+1,none⟩=some (.slice A3 K3 C3)/\W.cell? ⟨ba,oa+4+2,none⟩=some (.bool N4)/\W.cell? ⟨ba,oa+4+3,none⟩=some (.slice A4 K4 C4):=fun W hb=>by
   have hC:=hCa.on hb;refine⟨?_,?_,?_,?_⟩
   ·have:=hC.cell 4 (by simp [bR]);simpa [bR] using this
   ·have:=hC.cell 5 (by simp [bR]);simpa [bR,Nat.add_assoc] using this
   ·have:=hC.cell 6 (by simp [bR]);simpa [bR,Nat.add_assoc] using this
   ·have:=hC.cell 7 (by simp [bR]);simpa [bR,Nat.add_assoc] using this
  obtain⟨x1,x2,x3,x4⟩:=hx w (Below.refl _ _);have hlt:=hCa.lt;have hdiv:=zH (fun W v (hb:Below w.heap.size w W) (hv:bV W v (((1:Int)):Rat))=>G6 _ _ _ _ W hv (hra.on hb).rat Yp hkt hz);obtain⟨x5,x6,x7,x8⟩:=hx (w.drew.alloc (.cells #[.bool false,.slice none 0 0,.bool false,.slice none 0 0] 41)) ((pV (Below.refl w.heap.size w) 1).alloc (Nat.le_refl _) _);replace hx:=zH hx;clear hCa
  go_cut [9,10,11,12,13,14,8,15,16,3,4] (fun _ _ _ _ _ _ _ _ _ v3 _ wc=>∃ bx n5 a5 k5 c5 n6 a6 k6 c6,v3=.pointer (some ⟨bx,0,none⟩)/\Hid (Blk wc bx 41 [.bool n5,.slice a5 k5 c5,.bool n6,.slice a6 k6 c6])/\Hid (bV wc (.agg #[.bool n5,.slice a5 k5 c5,.bool n6,.slice a6 k6 c6]) (((1:Int):Rat) / t.2))/\Below w.heap.size w wc)
  case first =>
   go_region_with (first
    | (go_at_call 47;refine (ru 1 _ (by omega) (by omega)).mono ?_;rintro en w1 ⟨v1,rfl,h1,hb1⟩;have hbw1:Below w.heap.size w w1:=Below.trans (by first|exact pV (Below.refl _ _) _|exact (pV (Below.refl _ _) _).alloc (Nat.le_refl _) _) (hb1.mono (by first|exact Nat.le_refl _|(simp;done)|(simp;omega)));obtain⟨y1,y2,y3,y4⟩:=hx.out w1 hbw1;obtain⟨y5,y6,y7,y8⟩:=hx.out (w1.alloc (.cells #[.bool false,.slice none 0 0,.bool false,.slice none 0 0] 41)) (hbw1.alloc hbw1.size _);try (have B1:Blk w1 w.heap.size 41 [.bool false,.slice none 0 0,.bool false,.slice none 0 0]:=(Blk.new w.drew 41 [.bool false,.slice none 0 0,.bool false,.slice none 0 0]).on hb1))
    | (go_at_call 46;(first|refine (hdiv.out _ _ hbw1 h1).mono ?_|refine (hdiv.out _ _ (hbw1.alloc hbw1.size _) (h1.on ((Below.refl _ _).alloc (Nat.le_refl _) _))).mono ?_);rintro en w5 ⟨v5,rfl,hv5,hb5⟩;obtain⟨N5,A5,K5,C5,N6,A6,K6,C6,rfl⟩:=fQ hv5;have hbw5:Below w.heap.size w w5:=Below.trans (by first|exact hbw1|exact hbw1.alloc hbw1.size _) (hb5.mono (by first|exact hbw1.size|(have:=hbw1.size;simp;omega)));(first|(have B5:=B1.on hb5;have z1:=B5.at1 0 _ rfl;have z2:=B5.at1 1 _ rfl;have z3:=B5.at1 2 _ rfl;have z4:=B5.at1 3 _ rfl;have g1:=B5.frozen 0;have g2:=B5.frozen 1;have g3:=B5.frozen 2;have g4:=B5.frozen 3)|(have B5:Blk w5 w1.heap.size 41 [.bool false,.slice none 0 0,.bool false,.slice none 0 0]:=(Blk.new w1 41 [.bool false,.slice none 0 0,.bool false,.slice none 0 0]).on hb5;have z1:=B5.at1 0 _ rfl;have z2:=B5.at1 1 _ rfl;have z3:=B5.at1 2 _ rfl;have z4:=B5.at1 3 _ rfl;have g1:=B5.frozen 0;have g2:=B5.frozen 1;have g3:=B5.frozen 2;have g4:=B5.frozen 3)|skip);have B6:=Blk.new w5 41 [.bool false,.slice none 0 0,.bool false,.slice none 0 0];have p1:=B6.at1 0 _ rfl;have p2:=B6.at1 1 _ rfl;have p3:=B6.at1 2 _ rfl;have p4:=B6.at1 3 _ rfl;have q1:=B6.frozen 0;have q2:=B6.frozen 1;have q3:=B6.frozen 2;have q4:=B6.frozen 3))
   all_goals first
    | (obtain⟨R5,gr5⟩:=eU [.bool N5,.slice A5 K5 C5,.bool N6,.slice A6 K6 C6] 0 w5 _ B5 (by simp);have hl5:Lr (some _) 41 w5 _:=⟨gr5,fun k hk=>by cases hk;exact⟨B5.noOther,R5.noOther⟩⟩;have hr5:=hv5.lr hl5 (by decide);have hbw6:=hbw5.trans (hl5.belowAt hbw5.size (fun k hk=>by cases hk;first|exact Nat.le_refl _|exact hbw1.size));clear hb5 hb1;go_wp2;go_meet;case rel=>exact⟨_,_,_,_,_,_,_,_,_,rfl,zH R5,zH hr5,hbw6⟩)
    | (have R5:=Blk.new w5 41 [.bool N5,.slice A5 K5 C5,.bool N6,.slice A6 K6 C6];have hr5:=hv5.on ((Below.refl _ _).alloc (Nat.le_refl _) (.cells #[.bool N5,.slice A5 K5 C5,.bool N6,.slice A6 K6 C6] 41));have hbw6:=hbw5.alloc hbw5.size (.cells #[.bool N5,.slice A5 K5 C5,.bool N6,.slice A6 K6 C6] 41);clear hb5 hb1;go_wp2;go_meet;case rel=>exact⟨_,_,_,_,_,_,_,_,_,rfl,zH R5,zH hr5,hbw6⟩)
  case rest =>
   obtain⟨bx,n5,a5,k5,c5,n6,a6,k6,c6,rfl,hB,hr,hbw⟩:=hcut;have y1:=hB.out.at1 0 _ rfl;have y2:=hB.out.at1 1 _ rfl;have y3:=hB.out.at1 2 _ rfl;have y4:=hB.out.at1 3 _ rfl;have hcl:=hsc.out _ _ hbw hr.out;clear x1 x2 x3 x4 x5 x6 x7 x8
   go_wp2_with (go_at_call 48;refine hcl.mono ?_;rintro e w4 ⟨v4,rfl,h4,hb4⟩)
   go_ret;exact⟨_,rfl,h4,hbw.trans (hb4.mono hbw.size)⟩
end Go.Proofs.YtopclbeomcggiaaGreat
end
section
namespace Q
open Go Go.RowKit Go.Proofs.YtopclbeomcggiaaGreat
theorem aS {α β:Type} {a:Option α} {f:α->Option β} {y:β} (h:eB a f=some y):∃ x,a=some x/\f x=some y:=by
 cases a with
 | none=>cases h
 | some x=>exact⟨x,rfl,h⟩
theorem Ee {G:List ai->List ai->Option (List ai)} {acc a g:List ai} {l:List (List ai)} (h:vg G acc (a::l)=some g):∃ g',G acc a=some g'/\(kL g'=true->g=g')/\(kL g'=false->vg G g' l=some g):=by
 rw [vg] at h
 cases hG:G acc a with
 | none=>rw [hG] at h;cases h
 | some g' =>
  rw [hG] at h;refine⟨g',rfl,fun hc=>?_,fun hc=>?_⟩
  ·simp only [hc,if_true,Option.some.injEq] at h;exact h.symm
  ·simpa [hc] using h
end Q
namespace Go.Proofs.YtopclbeomcggiaaGreat
open Go.RowKit Q Go.WideMaps Go.Maps
def XR (a b g:List ai):Prop:=∀ (va vb:Value) (w:World),ak w va a->ak w vb b->Calls Tryz.prog 16 #[va,vb] w (aX w g)
def BN (G:List ai->List ai->Option (List ai)):Prop:=∀ a b g,Wp a->Wp b->G a b=some g->XR a b g/\Wp g
theorem Ti {G:List ai->List ai->Option (List ai)} (HG:BN G) (vl:Value) (l:List (List ai)) (g:List ai) (w:World) (hl:fG w vl l) (hn:l.length<=100000000) (hw:∀ c∈l,Wp c) (h:vg G [] l=some g) :
  Calls Tryz.prog 61 #[vl] w (aX w g):=by
 obtain⟨al,cl,rfl,hcl⟩:=hl.shape;replace h:=zH h;replace hw:=zH hw;replace HG:=zH HG;replace hl:=zH hl
 go_enter Tryz.func61,Tryz.ntmps61
 go_wp2
 go_loopw [3,8] (fun o i wr=>∃ (k:Nat) (acc:List ai),k<=l.length/\i=.int .i64 k/\Hid (ak wr o acc)/\Hid (Wp acc/\vg G acc (l.drop k)=some g)/\Below w.heap.size w wr) (fun _ i _=>l.length-(intOf i).toNat)
 case atStart=>exact⟨0,[],by omega,rfl,zH (bS.nil _ _),zH ⟨Wp.nil,h.out⟩,Below.refl _ _⟩
 case round =>
  clear h;obtain⟨k,acc,hk,rfl,hO,hA,hbr⟩:=hrel;by_cases hkl:k<l.length
  ·have hjq:l[k]?=some l[k]:=List.getElem?_eq_getElem hkl;have hA2:=hA.out;rw [List.drop_eq_getElem_cons hkl] at hA2;have hwa:=hw.out l[k] (List.getElem_mem hkl);generalize l[k]=a at *;obtain⟨b,off,va,rfl,hva,hC⟩:=qG (hl.out.on hbr) hjq;obtain⟨g',hG,ht,hf⟩:=Ee hA2.2;obtain⟨hcall,hg'⟩:=HG.out _ _ _ hA2.1 hwa hG;have hcs:=fun v W (hv:ak W v g')=>rJ v g' W hv;have hcall2:=zH (hcall u3 va wr hO.out hva);have hkl':(k:Int)<l.length:=by omega
   have hcell:=hC.cell 0 (by simp);simp only [List.getElem?_cons_zero,Nat.add_zero,Nat.mul_one] at hcell;clear hA hA2 hC hcall hjq hG;cases hcb:kL g'
   ·have hrest:=zH (hf hcb);rw [hcb] at hcs;replace hcs:=zH hcs;replace hg':=zH hg';clear ht hf hcb
    go_wp2_with (first
     | (refine aj rfl _ _ 75 rfl polyT Tryz.underlying75 _ 1 24 (by kernel_rfl) _ _ _ rfl .i64 _ rfl k rfl hkl b off rfl ?_;rw [Nat.mul_one])
     | (go_at_call 16;refine hcall2.out.mono ?_;rintro en w3 ⟨v3,rfl,hv3,hb3⟩)
     | (go_at_call 50;refine (hcs.out _ _ hv3).mono ?_;rintro en w4 ⟨rfl,hb4⟩))
    have hb34:=hb3.trans (hb4.mono hb3.size);go_roundw
    case rel=>exact⟨k+1,g',by omega,by go_num,zH (hv3.on hb4),zH ⟨hg'.out,hrest.out⟩,hbr.trans (hb34.mono hbr.size)⟩
    case measure=>simp [intOf];omega
   ·have hrest:=zH (ht hcb);rw [hcb] at hcs;replace hcs:=zH hcs;replace hg':=zH hg';clear ht hf hcb
    go_wp2_with (first
     | (refine aj rfl _ _ 75 rfl polyT Tryz.underlying75 _ 1 24 (by kernel_rfl) _ _ _ rfl .i64 _ rfl k rfl hkl b off rfl ?_;rw [Nat.mul_one])
     | (go_at_call 16;refine hcall2.out.mono ?_;rintro en w3 ⟨v3,rfl,hv3,hb3⟩)
     | (go_at_call 50;refine (hcs.out _ _ hv3).mono ?_;rintro en w4 ⟨rfl,hb4⟩))
    go_ret;exact⟨_,rfl,by rw [hrest.out];exact hv3.on hb4,hbr.trans ((hb3.trans (hb4.mono hb3.size)).mono hbr.size)⟩
  ·obtain rfl:k=l.length:=by omega
   have hfin:Hid (g=acc):=by
    have:=hA.out.2;rw [List.drop_of_length_le (Nat.le_refl _),vg] at this;exact zH (Option.some.inj this).symm
   go_wp2;go_ret;exact⟨_,rfl,by rw [hfin.out];exact hO.out,hbr⟩
theorem Mi {G:List ai->List ai->Option (List ai)} (HG:BN G):∀ {l:List (List ai)} {acc g:List ai},(∀ c∈l,Wp c)->Wp acc->vg G acc l=some g->Wp g
 | [],acc,g,_,ha,h=>by rw [vg,Option.some.injEq] at h;subst h;exact ha
 | a::l,acc,g,hw,ha,h=>by
  obtain⟨g',hG,ht,hf⟩:=Ee h;have hg':=(HG _ _ _ ha (hw a (by simp)) hG).2;cases hc:kL g'
  ·exact Mi HG (fun c hc=>hw c (by simp [hc])) hg' (hf hc)
  ·rw [ht hc];exact hg'
theorem rM {G:List ai->List ai->Option (List ai)} (HG:BN G) {a g:List ai} {v:Nat} (ka:Wp a) (h:mU G a v=some g):Wp g:=Mi HG (fun _ hc=>ka.coeffs hc) Wp.nil h
theorem lw {G:List ai->List ai->Option (List ai)} (HG:BN G) (va:Value) (a g:List ai) (v:Nat) (w:World) (hv:v<4) (ha:ak w va a) (ka:Wp a) (h:mU G a v=some g) :
  Calls Tryz.prog 18 #[va,.int .i64 v] w (aX w g):=by
 have h1:=uY va a v w ha hv ka.val.nat (by have:=(ka.deg v).2;omega) (by have:=ka.len;omega);have h2:=fun vl W (hl:fG W vl (aB a v))=>Ti HG vl (aB a v) g W hl (by rw [aW];have:=(ka.deg v).2;omega) (fun c hc=>ka.coeffs hc) h;obtain⟨aa,ca,rfl,hca⟩:=ha.shape;replace h2:=zH h2;clear h HG ka
 go_enter Tryz.func18,Tryz.ntmps18
 go_wp2_with (first
  | (go_at_call 62;refine h1.mono ?_;rintro en w3 ⟨v3,rfl,hv3,hb3⟩)
  | (go_at_call 61;refine (h2.out _ _ hv3).mono ?_;rintro en w4 ⟨v4,rfl,hv4,hb4⟩))
 go_ret;exact⟨_,rfl,hv4,hb3.trans (hb4.mono hb3.size)⟩
theorem Mj {G:List ai->List ai->Option (List ai)} {a p:List ai} {v:Nat} (h:lU G a v=some p):Wp p:=by
 cases a with
 | nil=>simp only [lU,Option.some.injEq] at h;subst h;exact Wp.nil
 | cons t r =>
  rw [lU] at h
  cases hc:mU G (t::r) v with
  | none=>rw [hc] at h;cases h
  | some c=>rw [hc] at h;exact pQ h
theorem ql {G:List ai->List ai->Option (List ai)} (HG:BN G) (va:Value) (a p:List ai) (v:Nat) (w:World) (hv:v<4) (ha:ak w va a) (ka:Wp a) (h:lU G a v=some p) :
  Calls Tryz.prog 20 #[va,.int .i64 v] w (aX w p):=by
 match a,ha,ka,h with
 | [],ha,ka,h =>
  simp only [lU,Option.some.injEq] at h;subst h;obtain⟨aa,ca,rfl,hca⟩:=ha.shape;simp only [List.length_nil]
  go_enter Tryz.func20,Tryz.ntmps20
  go_wp2;go_ret;exact⟨_,rfl,bS.nil _ _,Below.refl _ _⟩
 | t::r,ha,ka,h =>
  rw [lU] at h
  cases hc:mU G (t::r) v with
  | none=>rw [hc] at h;cases h
  | some c =>
   rw [hc] at h;have h1:=lw HG va (t::r) c v w hv ha ka hc;have kc:=rM HG ka hc;have h2:=fun vl W (hb:Below w.heap.size w W) (hl:ak W vl c)=>mW va vl (t::r) c p W (ha.on hb) hl kc h;obtain⟨aa,ca,rfl,hca⟩:=ha.shape;have hne:(((t::r).length:Int) == 0)=false:=by simp;omega
   replace h2:=zH h2;clear h hc HG ka kc ha;generalize (t::r).length=n at *
   go_enter Tryz.func20,Tryz.ntmps20
   go_wp2_with (first
    | (go_at_call 18;refine h1.mono ?_;rintro en w3 ⟨v3,rfl,hv3,hb3⟩)
    | (go_at_call 56;refine (h2.out _ _ hb3 hv3).mono ?_;rintro en w4 ⟨v4,rfl,hv4,hb4⟩))
   go_ret;exact⟨_,rfl,hv4,hb3.trans (hb4.mono hb3.size)⟩
theorem Mk:∀ {l:List (List ai)} {n v:Nat},rP l n=some v->v<n
 | l,n+1,v,h=>by
  rw [rP] at h;split at h
  ·cases h;omega
  ·have:=Mk h;omega
def Ml (o:Option Nat):Int:=match o with
 | none=>-1
 | some v=>v
theorem IJ (vl:Value) (l:List (List ai)) (w:World) (hl:fG w vl l) (hn:l.length<=100000000) (hw:∀ c∈l,Wp c):Calls Tryz.prog 52 #[vl] w (rO w (.int .i64 (Ml (QA l)))):=by
 obtain⟨al,cl,rfl,hcl⟩:=hl.shape;replace hw:=zH hw;replace hl:=zH hl;obtain⟨R,hR⟩:∃ R,R=Ml (QA l):=⟨_,rfl⟩;rw [<- hR];replace hR:=zH hR
 go_enter Tryz.func52,Tryz.ntmps52
 go_wp2
 go_loopw [3] (fun i wr=>∃ (n:Nat),n<=4/\i=.int .i64 ((n:Int)-1)/\Hid (R=Ml (rP l n))/\Below w.heap.size w wr) (fun i _=>(intOf i+1).toNat)
 case atStart=>exact⟨4,by omega,rfl,zH hR.out,Below.refl _ _⟩
 case round =>
  clear hR;obtain⟨n,hn,rfl,hR,hbr⟩:=hrel
  cases n with
  | zero =>
   have hfin:Hid (R=-1):=zH hR.out;go_wp2;go_ret;exact⟨by rw [hfin.out];rfl,hbr⟩
  | succ v =>
   have hv1:(((v+1:Nat):Int)-1)=(v:Int):=by omega
   have hv4:v<4:=by omega
   rw [hv1];go_wp2
   go_loopw [12] (fun i wr=>∃ k:Nat,k<=l.length/\i=.int .i64 k/\Hid (∀ c∈l.take k,¬ 0<aG c v)/\Below w.heap.size w wr) (fun i _=>l.length-(intOf i).toNat)
   case atStart=>exact⟨0,by omega,rfl,zH (fun c hc=>by simp at hc),hbr⟩
   case round =>
    clear hbr;obtain⟨k,hk,rfl,hA,hbr⟩:=hrel;by_cases hkl:k<l.length
    ·have hjq:l[k]?=some l[k]:=List.getElem?_eq_getElem hkl;have hwa:=hw.out l[k] (List.getElem_mem hkl);have htk:l.take (k+1)=l.take k++[l[k]]:=by rw [List.take_add_one,hjq];rfl
     have hmem:=List.getElem_mem hkl;generalize l[k]=a at *;obtain⟨b,off,va,rfl,hva,hC⟩:=qG (hl.out.on hbr) hjq;have hd:=jF va a v wr hva hv4 (by have:=hwa.len;omega);have hkl':(k:Int)<l.length:=by omega
     have hcell:=hC.cell 0 (by simp);simp only [List.getElem?_cons_zero,Nat.add_zero,Nat.mul_one] at hcell;replace hd:=zH hd;replace hmem:=zH hmem;replace htk:=zH htk;clear hC hjq hwa;by_cases hdp:0<aG a v
     ·have hdp':=zH hdp;have hfin:Hid (R=v):=zH (by rw [hR.out,rP,if_pos (List.any_eq_true.2 ⟨a,hmem.out,by simpa using hdp⟩)];rfl);generalize aG a v=D at *
      go_wp2_with (first
       | (refine aj rfl _ _ 75 rfl polyT Tryz.underlying75 _ 1 24 (by kernel_rfl) _ _ _ rfl .i64 _ rfl k rfl hkl b off rfl ?_;rw [Nat.mul_one])
       | (go_at_call 53;refine hd.out.mono ?_;rintro en w3 ⟨rfl,hb3⟩))
      go_ret;exact⟨by rw [hfin.out];rfl,hbr.trans (hb3.mono hbr.size)⟩
     ·have hdp':=zH hdp;generalize aG a v=D at hd hdp
      go_wp2_with (first
       | (refine aj rfl _ _ 75 rfl polyT Tryz.underlying75 _ 1 24 (by kernel_rfl) _ _ _ rfl .i64 _ rfl k rfl hkl b off rfl ?_;rw [Nat.mul_one])
       | (go_at_call 53;refine hd.out.mono ?_;rintro en w3 ⟨rfl,hb3⟩))
      go_roundw
      case rel=>exact⟨k+1,by omega,by go_num,zH (fun c hc=>by
       rw [htk.out] at hc;rcases List.mem_append.1 hc with hc|hc
       ·exact Int.not_lt.2 (hA.out c hc)
       ·rw [List.mem_singleton.1 hc];exact Int.not_lt.2 hdp'.out),hbr.trans (hb3.mono hbr.size)⟩
      case measure=>simp [intOf];omega
    ·obtain rfl:k=l.length:=by omega
     have hnx:Hid (R=Ml (rP l v)):=zH (by
      rw [hR.out,rP,if_neg];intro hany;obtain⟨c,hc,hd⟩:=List.any_eq_true.1 hany
      exact hA.out c (by rw [List.take_of_length_le (Nat.le_refl _)];exact hc) (by simpa using hd))
     go_wp2;go_roundw
     case rel=>exact⟨v,by omega,by go_num,hnx,hbr⟩
     case measure=>simp [intOf]
end Go.Proofs.YtopclbeomcggiaaGreat
end
section
namespace Q
open Go Go.RowKit Go.Proofs.YtopclbeomcggiaaGreat
theorem FQ:Wp nP:=jS (by decide +kernel)
theorem yX {a:List ai} {v:Nat} (h:a≠[]) (ka:Wp a):0<=aG a v:=by
 obtain⟨t,ht⟩:=List.exists_mem_of_ne_nil _ h;have h1:=(ka.exps ht v).1;have h2:=dU ht v;omega
theorem IK {G:List ai->List ai->Option (List ai)} {v:Nat}:∀ {n:Nat} {a b g:List ai},Wp b->qJ G v n a b=some g->Wp g
 | 0,a,b,g,_,h=>by simp [qJ] at h
 | n+1,a,b,g,kb,h=>by
  rw [qJ] at h
  cases hr:RP a b v with
  | none=>rw [hr] at h;cases h
  | some r =>
   rw [hr] at h
   cases r with
   | nil=>cases h;exact kb
   | cons t r =>
    simp only at h;split at h
    ·cases h;exact FQ
    ·cases hp:lU G (t::r) v with
     | none=>rw [hp] at h;cases h
     | some p =>
      rw [hp] at h;simp only at h
      cases hq:kS p with
      | none=>rw [hq] at h;cases h
      | some q=>rw [hq] at h;exact IK (wP hq) h
theorem Mm {G:List ai->List ai->Option (List ai)} {v:Nat} {a b g:List ai} (kb:Wp b) (h:zx G a b v=some g):Wp g:=by
 unfold zx at h
 cases hm:yf a b v with
 | none=>rw [hm] at h;cases h
 | some m =>
  rw [hm] at h;simp only at h;split at h
  ·cases h;exact FQ
  ·cases hd:wM a b with
   | none=>rw [hd] at h;cases h
   | some r =>
    rw [hd] at h;simp only at h;split at h
    ·cases h;exact kb
    ·exact IK kb h
theorem IL {a b r:List ai} {v:Nat} (h:RP a b v=some r):b≠[]/\r=sG (fO (aB b v) (aB a v).length (aB a v)) v/\Wp r/\Kj (aB b v) (aB a v).length (aB a v)=true /\
  RO (fromL v 0 (fO (aB b v) (aB a v).length (aB a v)))=true/\∀ c∈fO (aB b v) (aB a v).length (aB a v),zw c=true:=by
 unfold RP at h;simp only at h;split at h
 next hc =>
  obtain⟨h1,h2,h3,h4⟩:=hc;obtain⟨rfl,hw⟩:=jG h;exact⟨h1,rfl,hw,h2,h3,fun c hc=>List.all_eq_true.1 h4 c hc⟩
 next=>cases h
end Q
namespace Go.Proofs.YtopclbeomcggiaaGreat
open Go.RowKit Q
theorem IM (va vb:Value) (a b r:List ai) (v:Nat) (w:World) (ha:ak w va a) (hb:ak w vb b) (ka:Wp a) (kb:Wp b) (hv:v<4) (h:RP a b v=some r):Calls Tryz.prog 94 #[va,vb,.int .i64 v] w (Ia w r 0):=by
 obtain⟨h1,rfl,hw,h2,h3,h4⟩:=IL h;have h5:(aB a v).length<=100001:=by rw [aW];have:=(ka.deg v).2;omega
 exact JS va vb a b v w ha hb hv h1 ka.val.nat kb.val.nat (ka.deg v).2 (kb.deg v).2 (by have:=ka.len;omega) (by have:=kb.len;omega) (IC (fun c hc=>kb.coeffs hc) h2) (Te h3) (fun c hc=>by have:=(jS (h4 c hc)).len;omega)
theorem FR {G:List ai->List ai->Option (List ai)} (HG:BN G) (va vb:Value) (a b g:List ai) (v:Nat) (w:World) (ha:ak w va a) (hb:ak w vb b) (ka:Wp a) (kb:Wp b) (hna:a≠[]) (hnb:b≠[]) (hv:v<4) (h:C9 G a b v=some g) :
  Calls Tryz.prog 55 #[va,vb,.int .i64 v] w (aX w g):=by
 have hda:=zH (fun W (hb:Below w.heap.size w W)=>jF va a v W (ha.on hb) hv (by have:=ka.len;omega));have hdb:=zH (fun W (hbb:Below w.heap.size w W)=>jF vb b v W (hb.on hbb) hv (by have:=kb.len;omega));replace ha:=zH ha;replace hb:=zH hb;unfold C9 at h
 go_enter Tryz.func55,Tryz.ntmps55
 have hBd:∀ (x y:List ai) (h:zx G x y v=some g),(∃ m,yf x y v=some m):=fun x y h=>by
  unfold zx at h
  cases hm:yf x y v with
  | none=>rw [hm] at h;cases h
  | some m=>exact⟨m,rfl⟩
 obtain⟨da,hda2⟩:∃ da,da=aG a v:=⟨_,rfl⟩;obtain⟨db,hdb2⟩:∃ db,db=aG b v:=⟨_,rfl⟩;rw [<- hda2] at hda h;rw [<- hdb2] at hdb h
 go_upto_if 18 with (first
  | (go_at_call 53;refine (hdb.out w3 hb3).mono ?_;rintro en w4 ⟨rfl,hb4⟩)
  | (go_at_call 53;refine (hda.out _ (Below.refl _ _)).mono ?_;rintro en w3 ⟨rfl,hb3⟩))
 have hb34:=hb3.trans (hb4.mono hb3.size)
 go_cut [0,1,19,20] (fun vx vy _ _ wc=>∃ x y,Hid (ak wc vx x)/\Hid (ak wc vy y)/\Wp x/\Wp y/\x≠[]/\y≠[]/\Hid (zx G x y v=some g)/\Below w.heap.size w wc)
 case first =>
  by_cases hlt:da<db
  ·rw [if_pos hlt] at h;replace h:=zH h;go_wp2;go_meet
   case rel=>exact⟨b,a,zH (hb.out.on hb34),zH (ha.out.on hb34),kb,ka,hnb,hna,h,hb34⟩
  ·rw [if_neg hlt] at h;replace h:=zH h;go_wp2;go_meet
   case rel=>exact⟨a,b,zH (ha.out.on hb34),zH (hb.out.on hb34),ka,kb,hna,hnb,h,hb34⟩
 case rest =>
  clear hda hdb ha hb ka kb hna hnb h hda2 hdb2 hb34 hb3 hb4;obtain⟨x,y,hx,hy,kx,ky,hnx,hny,hs,hbw⟩:=hcut;obtain⟨m,hm⟩:=hBd x y hs.out;have hbc:=zH (Oc u0 u1 x y v m wc hx.out hy.out kx ky hv hnx hny hm);have hs2:=hs.out;unfold zx at hs2;rw [hm] at hs2;simp only at hs2;clear hm hBd hs;by_cases hm0:m=0
  ·rw [if_pos hm0,Option.some.injEq] at hs2;subst hm0;have hfin:=zH hs2;clear hs2
   go_wp2_with (first
    | (go_at_call 92;refine hbc.out.mono ?_;rintro en w5 ⟨rfl,hb5⟩)
    | (go_at_call 51;refine (wO _).mono ?_;rintro en w6 ⟨v6,rfl,h6,hb6⟩))
   go_ret;exact⟨_,rfl,by rw [<- hfin.out];exact h6,(hbw.trans (hb5.mono hbw.size)).trans (hb6.mono (hbw.trans (hb5.mono hbw.size)).size)⟩
  ·rw [if_neg hm0] at hs2;have hme:(m == 0)=false:=by simpa using hm0
   cases hd:wM x y with
   | none=>rw [hd] at hs2;cases hs2
   | some r =>
   rw [hd] at hs2;simp only at hs2;have hdc:=zH (fun W (hb:Below wc.heap.size wc W)=>II u0 u1 x y r W (hx.out.on hb) (hy.out.on hb) ky hd);have hdy:=zH (fun W (hb:Below wc.heap.size wc W)=>jF u1 y v W (hy.out.on hb) hv (by have:=ky.len;omega));clear hd hm0
   go_upto_region 7 with (first
    | (go_at_call 92;refine hbc.out.mono ?_;rintro en w5 ⟨rfl,hb5⟩)
    | (go_at_call 93;refine (hdc.out _ hb5).mono ?_;rintro en w6 ⟨v6,rfl,h6,hb6⟩))
   have hb56:=hb5.trans (hb6.mono hb5.size);have hdy2:=zH (hdy.out w6 hb56);clear hdc hbc hdy h6 hb5 hb6;have hbw6:=hbw.trans (hb56.mono hbw.size);have hx6:=zH (hx.out.on hb56);have hy6:=zH (hy.out.on hb56);obtain⟨dy,hdy3⟩:∃ dy,dy=aG y v:=⟨_,rfl⟩;rw [<- hdy3] at hdy2 hs2;obtain⟨F,hF⟩:∃ F,F=fuel:=⟨_,rfl⟩;rw [<- hF] at hs2;clear hx hy hdy3 hF
   go_cut [34,35,36,37,38,39,40,41] (fun _ _ _ _ _ _ _ t wd=>∃ fl,t=.bool fl/\Hid (ak wd u0 x)/\Hid (ak wd u1 y)/\Hid ((fl=true->g=y)/\(fl=false->qJ G v F x y=some g))/\Below w.heap.size w wd)
   case first =>
    cases r with
    | none =>
     simp only [Option.isSome_none,Bool.false_and] at hs2;rw [if_neg (by simp)] at hs2;replace hs2:=zH hs2;simp only [Option.isSome_none];clear hdy2;go_wp2;go_meet
     case rel=>exact⟨_,rfl,hx6,hy6,zH ⟨fun h=>(by cases h),fun _=>hs2.out⟩,hbw6⟩
    | some r =>
     simp only [Option.isSome_some,Bool.true_and] at hs2 ⊢;by_cases hmd:m=dy
     ·rw [if_pos (by simpa using hmd),Option.some.injEq] at hs2;subst hmd;have hfin:=zH hs2;clear hs2 hme
      go_wp2_with (go_at_call 53;refine hdy2.out.mono ?_;rintro en w7 ⟨rfl,hb7⟩)
      go_meet
      case rel=>exact⟨_,rfl,zH (hx6.out.on hb7),zH (hy6.out.on hb7),zH ⟨fun _=>hfin.out.symm,fun h=>(by cases h)⟩,hbw6.trans (hb7.mono hbw6.size)⟩
     ·rw [if_neg (by simpa using hmd)] at hs2;have hmd2:(m == dy)=false:=by simpa using hmd
      replace hs2:=zH hs2
      go_wp2_with (go_at_call 53;refine hdy2.out.mono ?_;rintro en w7 ⟨rfl,hb7⟩)
      go_meet
      case rel=>exact⟨_,rfl,zH (hx6.out.on hb7),zH (hy6.out.on hb7),zH ⟨fun h=>(by cases h),fun _=>hs2.out⟩,hbw6.trans (hb7.mono hbw6.size)⟩
   case rest =>
    clear hs2 hdy2 hx6 hy6 hbw6 hb56 hbw hme;obtain⟨fl,rfl,hx,hy,hs,hbw⟩:=hcut;cases fl
    case true =>
     have hfin:=zH (hs.out.1 rfl);clear hs;go_wp2;go_ret;exact⟨_,rfl,by rw [hfin.out];exact hy.out,hbw⟩
    case false =>
     replace hs:=zH (hs.out.2 rfl);go_wp2
     go_loopg [0,1] F (fun n va vb wr=>∃ a b,Hid (ak wr va a)/\Hid (ak wr vb b)/\Wp a/\Wp b/\Hid (qJ G v n a b=some g)/\Below w.heap.size w wr)
     case atStart=>exact⟨x,y,hx,hy,kx,ky,hs,hbw⟩
     case round =>
      clear hx hy kx ky hs hbw hnx hny;obtain⟨a,b,ha,hb,ka,kb,hs,hbr⟩:=hrel
      cases gk with
      | zero=>exact absurd hs.out (by simp [qJ])
      | succ n =>
      have hs2:=hs.out;rw [qJ] at hs2
      cases hr:RP a b v with
      | none=>rw [hr] at hs2;cases hs2
      | some r =>
      rw [hr] at hs2;have hps:=IM _ _ a b r v wr ha.out hb.out ka kb hv hr;have kr:=(IL hr).2.2.1;clear hr hs
      cases r with
      | nil =>
       simp only [Option.some.injEq] at hs2;have hfin:=zH hs2;clear hs2
       go_upto_region 10 with (go_at_call 94;refine hps.mono ?_;rintro en w7 ⟨v7,rfl,h7,hb7⟩)
       obtain⟨a7,c7,rfl,-⟩:=h7.shape;simp only [List.length_nil];go_wp2;go_ret;exact⟨_,rfl,by rw [<- hfin.out];exact hb.out.on hb7,hbr.trans (hb7.mono hbr.size)⟩
      | cons t r =>
       simp only at hs2;have hne:(((t::r).length:Int) == 0)=false:=by simp;omega
       have hlr:=kr.len
       go_upto_region 10 with (go_at_call 94;refine hps.mono ?_;rintro en w7 ⟨v7,rfl,h7,hb7⟩)
       have hdg:=zH (jF v7 (t::r) v w7 h7 hv (by omega));have hpr:∀ p,lU G (t::r) v=some p->∀ W,Below w7.heap.size w7 W->Calls Tryz.prog 20 #[v7,.int .i64 v] W (aX W p):=fun p hp W hbW=>ql HG v7 (t::r) p v W hv (h7.on hbW) kr hp;obtain⟨a7,c7,rfl,-⟩:=h7.shape;replace hpr:=zH hpr;have hbr7:=hbr.trans (hb7.mono hbr.size);have hb2:=zH (hb.out.on hb7);have hpn:∀ p,lU G (t::r) v=some p->Wp p:=fun p hp=>Mj hp;obtain⟨q9,hq9⟩:∃ q9,q9=t::r:=⟨_,rfl⟩;rw [<- hq9] at hs2 hne hdg hpr hpn ⊢;clear hps kr h7 hlr hq9 hb;obtain⟨dr,mY⟩:∃ dr,dr=aG q9 v:=⟨_,rfl⟩;rw [<- mY] at hdg hs2;by_cases hd0:dr=0
       ·rw [if_pos hd0,Option.some.injEq] at hs2;subst hd0;have hfin:=zH hs2;clear hs2 hpr hpn mY;generalize q9.length=nq at *
        go_wp2_with (first
         | (go_at_call 53;refine hdg.out.mono ?_;rintro en w8 ⟨rfl,hb8⟩)
         | (go_at_call 51;refine (wO _).mono ?_;rintro en w9 ⟨v9,rfl,h9,hb9⟩))
        go_ret;exact⟨_,rfl,by rw [<- hfin.out];exact h9,(hbr7.trans (hb8.mono hbr7.size)).trans (hb9.mono (hbr7.trans (hb8.mono hbr7.size)).size)⟩
       ·rw [if_neg hd0] at hs2;have hd1:(dr == 0)=false:=by simpa using hd0
        cases hp:lU G q9 v with
        | none=>rw [hp] at hs2;cases hs2
        | some p =>
        rw [hp] at hs2;simp only at hs2
        cases hq:kS p with
        | none=>rw [hq] at hs2;cases hs2
        | some q =>
        rw [hq] at hs2;simp only at hs2;have kp:=hpn p hp;have kq:=wP hq;have hpc:=zH (hpr.out p hp);have hnc:=zH (fun W u (hu:ak W u p)=>oL u p q W hu kp hq);replace hs2:=zH hs2;clear hp hq hpn hpr mY hd0;generalize q9.length=nq at *
        go_wp2_with (first
         | (go_at_call 53;refine hdg.out.mono ?_;rintro en w8 ⟨rfl,hb8⟩)
         | (go_at_call 20;refine (hpc.out _ hb8).mono ?_;rintro en w9 ⟨v9,rfl,h9,hb9⟩)
         | (go_at_call 14;refine (hnc.out _ _ h9).mono ?_;rintro en w10 ⟨v10,rfl,h10,hb10⟩))
        have hb89:=hb8.trans (hb9.mono hb8.size);have hb810:=hb89.trans (hb10.mono hb89.size);go_roundg n
        case measure=>omega
        case rel=>exact⟨b,q,zH (hb2.out.on hb810),zH h10,kb,kq,hs2,hbr7.trans (hb810.mono hbr7.size)⟩
end Go.Proofs.YtopclbeomcggiaaGreat
end
section
namespace Q
open Go Go.RowKit Go.Proofs.YtopclbeomcggiaaGreat
def zy (G:List ai->List ai->Option (List ai)) (a b:List ai):Option (List ai) :=
 if a=[] then kS b else if b=[] then kS a else if kL a=true\/kL b=true then some nP else
 eB (QA [a,b]) fun v =>
  if aG b v=0 then eB (mU G a v) fun c=>G c b
  else if aG a v=0 then eB (mU G b v) fun c=>G a c
  else eB (mU G a v) fun x=>eB (mU G b v) fun y=>eB (G x y) fun g=>eB (eD a x) fun p=>eB (eD b y) fun q =>
   if p=[]\/q=[] then none else eB (C9 G p q v) fun s=>eB (g1 (aQ g s)) kS
def Dc:Nat->List ai->List ai->Option (List ai)
 | 0,_,_=>none
 | n+1,a,b=>zy (Dc n) a b
theorem QE {w:World} {va vb:Value} {a b:List ai} (ha:ak w va a) (hb:ak w vb b):fG (w.alloc (.cells #[va,vb] 27)) (.slice (some ⟨w.heap.size,0,none⟩) 2 2) [a,b]:=by
 have hbe:Below w.heap.size w (w.alloc (.cells #[va,vb] 27)):=(Below.refl _ _).alloc (Nat.le_refl _) _;exact⟨_,_,[va,vb],rfl,Nat.le_refl _,(Blk.new w polyT [va,vb]).at,⟨[va],[vb],rfl,⟨va,rfl,ha.on hbe⟩,⟨[vb],[],rfl,⟨vb,rfl,hb.on hbe⟩,rfl⟩⟩⟩
end Q
namespace Go.Proofs.YtopclbeomcggiaaGreat
open Go.RowKit Q
theorem Tj {G:List ai->List ai->Option (List ai)} {v:Nat} {a b g:List ai} (ka:Wp a) (kb:Wp b) (h:C9 G a b v=some g):Wp g:=by
 unfold C9 at h;split at h
 ·exact Mm ka h
 ·exact Mm kb h
theorem Tk {G:List ai->List ai->Option (List ai)} (HG:BN G) {a b g:List ai} (ka:Wp a) (kb:Wp b) (h:zy G a b=some g):Wp g:=by
 unfold zy at h;split at h
 ·exact wP h
 split at h
 ·exact wP h
 split at h
 ·cases h;exact FQ
 obtain⟨v,-,h⟩:=aS h;split at h
 ·obtain⟨c,hc,h⟩:=aS h;exact (HG _ _ _ (rM HG ka hc) kb h).2
 split at h
 ·obtain⟨c,hc,h⟩:=aS h;exact (HG _ _ _ ka (rM HG kb hc) h).2
 obtain⟨x,hx,h⟩:=aS h;obtain⟨y,hy,h⟩:=aS h;obtain⟨g',hg,h⟩:=aS h;obtain⟨p,hp,h⟩:=aS h;obtain⟨q,hq,h⟩:=aS h;split at h
 ·cases h
 obtain⟨s,hs,h⟩:=aS h;obtain⟨m,hm,h⟩:=aS h;exact wP h
theorem QF {G:List ai->List ai->Option (List ai)} (HG:BN G):BN (zy G):=by
 intro a b g ka kb h;refine⟨fun va vb w hva hvb=>?_,Tk HG ka kb h⟩;unfold zy at h;by_cases ha0:a=[]
 ·rw [if_pos ha0] at h;subst ha0;have hc:=oL vb b g w hvb kb h;obtain⟨aa,ca,rfl,hca⟩:=hva.shape;simp only [List.length_nil];obtain⟨ab,cb,rfl,hcb⟩:=hvb.shape;clear h HG
  go_enter Tryz.func16,Tryz.ntmps16
  go_wp2_with (go_at_call 14;refine hc.mono ?_;rintro en w1 ⟨v1,rfl,h1,hb1⟩)
  go_ret;exact⟨_,rfl,h1,hb1⟩
 rw [if_neg ha0] at h;by_cases hb0:b=[]
 ·rw [if_pos hb0] at h;subst hb0;have hc:=oL va a g w hva ka h;obtain⟨aa,ca,rfl,hca⟩:=hva.shape;obtain⟨ab,cb,rfl,hcb⟩:=hvb.shape;simp only [List.length_nil];have hne:((a.length:Int) == 0)=false:=by have:=List.length_pos_iff.2 ha0;simp;omega
  generalize a.length=na at *;clear h HG ha0
  go_enter Tryz.func16,Tryz.ntmps16
  go_wp2_with (go_at_call 14;refine hc.mono ?_;rintro en w1 ⟨v1,rfl,h1,hb1⟩)
  go_ret;exact⟨_,rfl,h1,hb1⟩
 rw [if_neg hb0] at h;have hca:=fun W (hb:Below w.heap.size w W)=>rJ va a W (hva.on hb);have hcb:=fun W (hb:Below w.heap.size w W)=>rJ vb b W (hvb.on hb)
 have hHi:=fun W (hb:Below w.heap.size w W)=>IJ _ [a,b] _ (QE (hva.on hb) (hvb.on hb)) (by simp) (fun c hc=>by
  rcases List.mem_cons.1 hc with rfl|hc
  ·exact ka
  ·rw [List.mem_singleton.1 hc];exact kb)
 have hA:=fun W (hb:Below w.heap.size w W)=>hva.on hb;have hB:=fun W (hb:Below w.heap.size w W)=>hvb.on hb;have kna:=ha0;have knb:=hb0;have hnea:((a.length:Int) == 0)=false:=by have:=List.length_pos_iff.2 ha0;simp;omega
 have hneb:((b.length:Int) == 0)=false:=by have:=List.length_pos_iff.2 hb0;simp;omega
 obtain⟨aa,ca,rfl,hcca⟩:=hva.shape;obtain⟨ab,cb,rfl,hccb⟩:=hvb.shape;obtain⟨na,hna⟩:∃ na,na=a.length:=⟨_,rfl⟩;obtain⟨nb,hnb⟩:∃ nb,nb=b.length:=⟨_,rfl⟩;rw [<- hna] at hnea hca hHi hA ⊢;rw [<- hnb] at hneb hcb hHi hB ⊢;replace hHi:=zH hHi;replace hA:=zH hA;replace hB:=zH hB;clear hna hnb hcca hccb hva hvb ha0 hb0;cases ha1:kL a
 case true =>
  rw [if_pos (.inl ha1)] at h;cases h;rw [ha1] at hca;clear ha1 hcb;replace hca:=zH hca
  go_enter Tryz.func16,Tryz.ntmps16
  go_wp2_with (first
   | (go_at_call 50;refine (hca.out _ (Below.refl _ _)).mono ?_;rintro en w1 ⟨rfl,hb1⟩)
   | (go_at_call 51;refine (wO _).mono ?_;rintro en w2 ⟨v2,rfl,h2,hb2⟩))
  go_ret;exact⟨_,rfl,h2,hb1.trans (hb2.mono hb1.size)⟩
 case false =>
  rw [ha1] at hca;cases hb1:kL b
  case true =>
   rw [if_pos (.inr hb1)] at h;cases h;rw [hb1] at hcb;clear ha1 hb1;replace hca:=zH hca;replace hcb:=zH hcb
   go_enter Tryz.func16,Tryz.ntmps16
   go_wp2_with (first
    | (go_at_call 50;refine (hcb.out w1 hb1).mono ?_;rintro en w2 ⟨rfl,hb2⟩)
    | (go_at_call 50;refine (hca.out _ (Below.refl _ _)).mono ?_;rintro en w1 ⟨rfl,hb1⟩)
    | (go_at_call 51;refine (wO _).mono ?_;rintro en w3 ⟨v3,rfl,h3,hb3⟩))
   go_ret;exact⟨_,rfl,h3,(hb1.trans (hb2.mono hb1.size)).trans (hb3.mono (hb1.trans (hb2.mono hb1.size)).size)⟩
  case false =>
   rw [if_neg (by rintro (h|h);rw [ha1] at h;cases h;rw [hb1] at h;cases h)] at h;obtain⟨v,hv,h⟩:=aS h;have hv4:v<4:=Mk hv;rw [hb1] at hcb;rw [hv] at hHi;clear ha1 hb1 hv;replace hca:=zH hca;replace hcb:=zH hcb;have hDa:=zH (fun W (hb:Below w.heap.size w W)=>jF _ a v W (hA.out W hb) hv4 (by have:=ka.len;omega));have hDb:=zH (fun W (hb:Below w.heap.size w W)=>jF _ b v W (hB.out W hb) hv4 (by have:=kb.len;omega));change Hid (∀ W,_->Calls _ _ _ _ (rO _ (.int .i64 (v:Int)))) at hHi
   go_enter Tryz.func16,Tryz.ntmps16
   go_upto_region 8 with (first
    | (go_at_call 50;refine (hcb.out w1 hb1).mono ?_;rintro en w2 ⟨rfl,hb2⟩;have hb12:=hb1.trans (hb2.mono hb1.size))
    | (go_at_call 50;refine (hca.out _ (Below.refl _ _)).mono ?_;rintro en w1 ⟨rfl,hb1⟩)
    | (go_at_call 52;refine (hHi.out _ hb12).mono ?_;rintro en w3 ⟨rfl,hb3⟩))
   have hb0:=hb12.trans (((Below.refl _ _).alloc (Nat.le_refl _) _).trans (hb3.mono (by simp)) |>.mono hb12.size);obtain⟨da,hda2⟩:∃ da,da=aG a v:=⟨_,rfl⟩;obtain⟨db,hdb2⟩:∃ db,db=aG b v:=⟨_,rfl⟩;rw [<- hda2] at hDa h;rw [<- hdb2] at hDb h;have hD1:=zH (hDb.out w3 hb0);clear hca hcb hHi hb1 hb2 hb12 hb3 hda2 hdb2;by_cases hd1:db=0
   ·rw [if_pos hd1] at h;obtain⟨c,hc,h⟩:=aS h;have hct:=zH (fun W (hb:Below w.heap.size w W)=>lw HG _ a c v W hv4 (hA.out W hb) ka hc);have hgc:=zH (HG _ _ _ (rM HG ka hc) kb h).1;subst hd1;clear h hc hDa hDb
    go_wp2_with (first
     | (go_at_call 53;refine hD1.out.mono ?_;rintro en w4 ⟨rfl,hb4⟩;have hb04:=hb0.trans (hb4.mono hb0.size))
     | (go_at_call 18;refine (hct.out _ hb04).mono ?_;rintro en w5 ⟨v5,rfl,h5,hb5⟩;have hb05:=hb04.trans (hb5.mono hb04.size);have hBb:=hB.out _ hb05)
     | (go_at_call 16;refine (hgc.out _ _ _ h5 hBb).mono ?_;rintro en w6 ⟨v6,rfl,h6,hb6⟩))
    go_ret;exact⟨_,rfl,h6,hb05.trans (hb6.mono hb05.size)⟩
   ·rw [if_neg hd1] at h;have hd1':(db == 0)=false:=by simpa using hd1
    by_cases hd2:da=0
    ·rw [if_pos hd2] at h;obtain⟨c,hc,h⟩:=aS h;have hct:=zH (fun W (hb:Below w.heap.size w W)=>lw HG _ b c v W hv4 (hB.out W hb) kb hc);have hgc:=zH (HG _ _ _ ka (rM HG kb hc) h).1;subst hd2;clear h hc hd1
     go_wp2_with (first
      | (go_at_call 53;refine (hDa.out w4 hb04).mono ?_;rintro en w5 ⟨rfl,hb5⟩;have hb05:=hb04.trans (hb5.mono hb04.size))
      | (go_at_call 53;refine hD1.out.mono ?_;rintro en w4 ⟨rfl,hb4⟩;have hb04:=hb0.trans (hb4.mono hb0.size))
      | (go_at_call 18;refine (hct.out _ hb05).mono ?_;rintro en w6 ⟨v6,rfl,h6,hb6⟩;have hb06:=hb05.trans (hb6.mono hb05.size);have hAa:=hA.out _ hb06)
      | (go_at_call 16;refine (hgc.out _ _ _ hAa h6).mono ?_;rintro en w7 ⟨v7,rfl,h7,hb7⟩))
     go_ret;exact⟨_,rfl,h7,hb06.trans (hb7.mono hb06.size)⟩
    ·rw [if_neg hd2] at h;have hd2':(da == 0)=false:=by simpa using hd2
     obtain⟨x,hx,h⟩:=aS h;obtain⟨y,hy,h⟩:=aS h;obtain⟨g',hg,h⟩:=aS h;obtain⟨p,hp,h⟩:=aS h;obtain⟨q,hq,h⟩:=aS h;by_cases hpq:p=[]\/q=[]
     ·rw [if_pos hpq] at h;cases h
     rw [if_neg hpq] at h;obtain⟨s,hs,h⟩:=aS h;obtain⟨m,hm,h⟩:=aS h;obtain⟨rfl,km⟩:=jG hm;have kx:=rM HG ka hx;have ky:=rM HG kb hy;have kg:=(HG _ _ _ kx ky hg).2;have kp:=pQ hp;have kq:=pQ hq;have ks:=Tj kp kq hs;have kmo:=kg.mulOk ks;have hcx:=zH (fun W (hb:Below w.heap.size w W)=>lw HG _ a x v W hv4 (hA.out W hb) ka hx);have hcy:=zH (fun W (hb:Below w.heap.size w W)=>lw HG _ b y v W hv4 (hB.out W hb) kb hy);have hgc:=zH (HG _ _ _ kx ky hg).1;have hop:=zH (fun W u (hb:Below w.heap.size w W) (hu:ak W u x)=>mW _ u a x p W (hA.out W hb) hu kx hp);have hoq:=zH (fun W u (hb:Below w.heap.size w W) (hu:ak W u y)=>mW _ u b y q W (hB.out W hb) hu ky hq);have hsq:=zH (fun W u1 u2 (h1:ak W u1 p) (h2:ak W u2 q) (n1:p≠[]) (n2:q≠[])=>FR HG u1 u2 p q s v W h1 h2 kp kq n1 n2 hv4 hs);have hml:=zH (fun W u1 u2 (h1:ak W u1 g') (h2:ak W u2 s)=>xU u1 u2 g' s W h1 h2 kmo.kp kmo.kq kmo.ko kmo.kl.1 kmo.kl.2);have hno:=zH (fun W u (hu:ak W u (aQ g' s))=>oL u _ g W hu km h);have hpn:p≠[]:=fun h=>hpq (.inl h);have hqn:q≠[]:=fun h=>hpq (.inr h);clear h hx hy hg hp hq hs hm hpq km kx ky kg kp kq ks kmo hd1 hd2;generalize aQ g' s=m at *
     go_upto_region 12 with (first
      | (go_at_call 53;refine (hDa.out w4 hb04).mono ?_;rintro en w5 ⟨rfl,hb5⟩;have hb05:=hb04.trans (hb5.mono hb04.size))
      | (go_at_call 53;refine hD1.out.mono ?_;rintro en w4 ⟨rfl,hb4⟩;have hb04:=hb0.trans (hb4.mono hb0.size)))
     clear hD1 hDa hDb
     go_upto_region 13 with (first
      | (go_at_call 18;refine (hcy.out w6 hb06).mono ?_;rintro en w7 ⟨v7,rfl,h7,hb7⟩;have hb07:=hb06.trans (hb7.mono hb06.size);have h67:=h6.on hb7)
      | (go_at_call 18;refine (hcx.out _ hb05).mono ?_;rintro en w6 ⟨v6,rfl,h6,hb6⟩;have hb06:=hb05.trans (hb6.mono hb05.size)))
     have hgc2:=zH (hgc.out _ _ _ h67 h7);clear hcx hcy hgc
     go_wp2_with (first
      | (go_at_call 56;refine (hoq.out w9 v7 hb09 h79).mono ?_;rintro en w10 ⟨v10,rfl,h10,hb10⟩;have hb010:=hb09.trans (hb10.mono hb09.size);have h910:=h9.on hb10;have h810:=(h8.on hb9).on hb10)
      | (go_at_call 56;refine (hop.out w8 v6 hb08 h68).mono ?_;rintro en w9 ⟨v9,rfl,h9,hb9⟩;have hb09:=hb08.trans (hb9.mono hb08.size);have h79:=h78.on hb9)
      | (go_at_call 16;refine hgc2.out.mono ?_;rintro en w8 ⟨v8,rfl,h8,hb8⟩;have hb08:=hb07.trans (hb8.mono hb07.size);have h68:=h67.on hb8;have h78:=h7.on hb8)
      | (go_at_call 55;refine (hsq.out _ _ _ h910 h10 hpn hqn).mono ?_;rintro en w11 ⟨v11,rfl,h11,hb11⟩;have hb011:=hb010.trans (hb11.mono hb010.size);have h811:=h810.on hb11)
      | (go_at_call 54;refine (hml.out _ _ _ h811 h11).mono ?_;rintro en w12 ⟨v12,rfl,h12,hb12⟩;have hb012:=hb011.trans (hb12.mono hb011.size))
      | (go_at_call 14;refine (hno.out _ _ h12).mono ?_;rintro en w13 ⟨v13,rfl,h13,hb13⟩))
     go_ret;exact⟨_,rfl,h13,hb012.trans (hb13.mono hb012.size)⟩
theorem qK:∀ n,BN (Dc n)
 | 0=>fun a b g _ _ h=>by simp [Dc] at h
 | n+1=>QF (qK n)
end Go.Proofs.YtopclbeomcggiaaGreat
end
section
namespace Q
open Go Go.RowKit Go.Proofs.YtopclbeomcggiaaGreat
def IP:El (List ai × Nat) where
 T:=54
 sz:=2
 pos:=by decide
 E w cs f:=∃ v,cs=[v,.int .i64 (f.2:Int)]/\ak w v f.1
 len:=by rintro w c t ⟨v,rfl,-⟩;rfl
 one:=by
  rintro w c t ⟨v,rfl,h⟩ u hu;simp only [List.mem_cons,List.not_mem_nil,or_false] at hu;rcases hu with rfl|rfl
  ·exact bS.one h
  ·rfl
 on:=by rintro w w' c t ⟨v,rfl,h⟩ hb;exact⟨v,rfl,bS.on h hb⟩
 ok T:=aO.ok T/\aN≠T
 lr:=by rintro g T' w w' c t ⟨v,rfl,h⟩ hl hT;exact⟨v,rfl,bS.lr h hl hT.1 hT.2⟩
 self:=⟨bu (by decide),by decide⟩
theorem Tm {G:List ai->List ai->Option (List ai)} {a p:List ai} {v:Nat} {R:List (List ai × Nat)} (h:(if aG p v<1 then some [] else
  eB (g1 (dA p v)) fun d=>eB (G p d) fun g=>eB (eD p g) fun w=>eB (eD d g) fun y=>BL G v fuel 1 w y [])=some R) (hd:¬ aG p v<1) :
  ∃ g w0 y0,Wp (dA p v)/\G p (dA p v)=some g/\eD p g=some w0/\eD (dA p v) g=some y0/\BL G v fuel 1 w0 y0 []=some R:=by
 rw [if_neg hd] at h;obtain⟨d,hd,h⟩:=aS h;obtain⟨rfl,kd⟩:=jG hd;obtain⟨g,hg,h⟩:=aS h;obtain⟨w0,hw,h⟩:=aS h;obtain⟨y0,hy,h⟩:=aS h;exact⟨g,w0,y0,kd,hg,hw,hy,h⟩
theorem QG {G:List ai->List ai->Option (List ai)} {x y:List ai} {v f n:Nat} {out R:List (List ai × Nat)} (h:BL G v (f+1) n x y out=some R) (hd:0<aG x v) :
  ∃ g x' y',Wp (dA x v)/\Wp (dK y (dA x v))/\G x (dK y (dA x v))=some g/\eD x g=some x'/\eD (dK y (dA x v)) g=some y'/\BL G v f (n+1) x' y' (if 0<aG g v then out++[(g,n)] else out)=some R:=by
 rw [BL,if_pos hd] at h;obtain⟨d,hd9,h⟩:=aS h;obtain⟨rfl,kd⟩:=jG hd9;obtain⟨z,hz9,h⟩:=aS h;obtain⟨rfl,kz⟩:=jG hz9;obtain⟨g,hg,h⟩:=aS h;obtain⟨x',hx',h⟩:=aS h;obtain⟨y',hy',h⟩:=aS h;exact⟨g,x',y',kd,kz,hg,hx',hy',h⟩
abbrev QH (base:Nat) (w:World) (v:Value) (l:List (List ai × Nat)):Prop:=cB IP base w v l
abbrev Ef (w:World) (v:Value) (l:List (List ai × Nat)):Prop:=bS IP w v l
end Q
namespace Go.Proofs.YtopclbeomcggiaaGreat
open Go.RowKit Q
theorem Ku:∃ z bytes,(Tryz.prog.info? IP.T).map (fun i=>(i.zero,i.size,i.bytes))=some (some z,IP.sz,bytes)/\z.cells.size=IP.sz/\bytes<=100000:=⟨.agg #[.slice none 0 0,.int .i64 0],32,by kernel_rfl,rfl,by decide⟩
def QI (w:World) (l:List (List ai × Nat)) (e:Ending) (w':World):Prop:=∃ v,e=.returned v/\Ef w' v l/\Below w.heap.size w w'
theorem Wp.part {p:List ai} (h:Wp p) (v:Nat):∀ t∈p,Rk t.2/\t.1.get v<=100000000/\Rk (t.1.get v:Rat):=fun t ht=>by
 have h1:=h.exps ht v;refine⟨h.rk t ht,by omega,?_⟩;obtain⟨m,hm⟩:∃ m:Nat,t.1.get v=m:=⟨(t.1.get v).toNat,by omega⟩;rw [hm];refine (Bh (s:=⟨1,100000,1,1⟩) (by decide +kernel) (Dv.int 1 (m:Int)) ?_).rk;rw [rabs_int];exact Rat.natCast_le_natCast.2 (by show (m:Int).natAbs<=100000;omega)
theorem Uj {va:Value} {p:List ai} {v:Nat} {w:World} (h:Wp p) (hv:v<4) (hp:ak w va p):Calls Tryz.prog 73 #[va,.int .i64 v] w (aX w (dA p v)) :=
 Ht va p v w hp hv (Wp.part h v) (by have:=h.len;omega)
theorem Vj {va vb:Value} {p q:List ai} {w:World} (h:Wp p) (h':Wp q) (hp:ak w va p) (hq:ak w vb q):Calls Tryz.prog 74 #[va,vb] w (aX w (dK p q)) :=
 Fu va vb p q w hp hq h.rk h'.rk (by have:=h.len;omega) (by have:=h'.len;omega) h.val h'.val
theorem BO {G:List ai->List ai->Option (List ai)} (HG:BN G) (va:Value) (a:List ai) (R:List (List ai × Nat)) (v:Nat) (w:World) (ha:ak w va a) (ka:Wp a) (hv:v<4) (h:Ws G a v=some R) :
  Calls Tryz.prog 29 #[va,.int .i64 v] w (QI w R):=by
 have hex:∃ p,lU G a v=some p/\((aG p v<1/\R=[])\/(¬ aG p v<1/\∃ g w0 y0,Wp (dA p v)/\G p (dA p v)=some g/\eD p g=some w0/\eD (dA p v) g=some y0/\BL G v fuel 1 w0 y0 []=some R)):=by
  unfold Ws at h;obtain⟨p,hp,h⟩:=aS h;refine⟨p,hp,?_⟩;by_cases hd:aG p v<1
  ·rw [if_pos hd,Option.some.injEq] at h;exact .inl ⟨hd,h.symm⟩
  ·exact .inr ⟨hd,Tm (a:=a) h hd⟩
 clear h;obtain⟨p,hp,hex⟩:=hex;have kp:=Mj hp;have hpr:=zH (ql HG va a p v w hv ha ka hp);have hdp:=zH (fun W u (hu:ak W u p)=>jF u p v W hu hv (by have:=kp.len;omega));obtain⟨dp,hdp2⟩:∃ dp,dp=aG p v:=⟨_,rfl⟩;rw [<- hdp2] at hdp hex;clear hp hdp2;rcases hex with ⟨hd1,rfl⟩|⟨hd1,g,w0,y0,kd,hg,hw,hy,h⟩
 ·go_enter Tryz.func29,Tryz.ntmps29
  go_wp2_with (first
   | (go_at_call 20;refine hpr.out.mono ?_;rintro en w3 ⟨v3,rfl,h3,hb3⟩)
   | (go_at_call 53;refine (hdp.out _ _ h3).mono ?_;rintro en w4 ⟨rfl,hb4⟩))
  go_ret;exact⟨_,rfl,bS.nil _ _,hb3.trans (hb4.mono hb3.size)⟩
 ·have hpt:=zH (fun W u (hu:ak W u p)=>Uj (w:=W) kp hv hu);generalize dA p v=d at *;obtain⟨hgc,kg⟩:=HG _ _ _ kp kd hg;have kw:=pQ hw;have ky:=pQ hy;replace hgc:=zH hgc;have how:=zH (fun W u1 u2 (h1:ak W u1 p) (h2:ak W u2 g)=>mW u1 u2 p g w0 W h1 h2 kg hw);have hoy:=zH (fun W u1 u2 (h1:ak W u1 d) (h2:ak W u2 g)=>mW u1 u2 d g y0 W h1 h2 kg hy);obtain⟨F,hF⟩:∃ F,F=fuel:=⟨_,rfl⟩;have hF9:1+F<=10000001:=by rw [hF];decide
  rw [<- hF] at h;replace h:=zH h;clear hF hg hw hy kp kd kg
  go_enter Tryz.func29,Tryz.ntmps29
  go_upto_region 6 with (first
   | (go_at_call 20;refine hpr.out.mono ?_;rintro en w3 ⟨v3,rfl,h3,hb3⟩)
   | (go_at_call 53;refine (hdp.out _ _ h3).mono ?_;rintro en w4 ⟨rfl,hb4⟩;have h34:=h3.on hb4)
   | (go_at_call 73;refine (hpt.out _ _ h34).mono ?_;rintro en w5 ⟨v5,rfl,h5,hb5⟩))
  have h35:=h34.on hb5;have hb05:=(hb3.trans (hb4.mono hb3.size)).trans (hb5.mono (hb3.trans (hb4.mono hb3.size)).size);have hgc2:=zH (hgc.out _ _ _ h35 h5);clear hb3 hb4 hb5 h34 h3 hpr hpt hdp hgc hd1
  go_upto_region 7 with (go_at_call 16;refine hgc2.out.mono ?_;rintro en w6 ⟨v6,rfl,h6,hb6⟩)
  have how2:=zH (how.out _ _ _ (h35.on hb6) h6);have hoy2:=zH (fun W (hb:Below w6.heap.size w6 W)=>hoy.out W _ _ ((h5.on hb6).on hb) (h6.on hb));clear how hoy h35 h5 hgc2
  go_upto_region 8 with (first
   | (go_at_call 56;refine (hoy2.out w7 hb7).mono ?_;rintro en w8 ⟨v8,rfl,h8,hb8⟩)
   | (go_at_call 56;refine how2.out.mono ?_;rintro en w7 ⟨v7,rfl,h7,hb7⟩))
  have hb68:=hb6.trans ((hb7.trans (hb8.mono hb7.size)).mono hb6.size);have hb08:=hb05.trans (hb68.mono hb05.size);have h78:=zH (h7.on hb8);replace h8:=zH h8;clear how2 hoy2 hb05 hb6 hb7 hb8 hb68 h6 h7;go_wp2
  go_loopg [6,9,10,11] F (fun f vo vw vy vn wr=>∃ (n:Nat) (x y:List ai) (out:List (List ai × Nat)),vn=.int .i64 n/\Hid (QH w.heap.size wr vo out)/\Hid (ak wr vw x)/\Hid (ak wr vy y)/\Wp x/\Wp y/\Hid (BL G v f n x y out=some R)/\n+f<=10000001/\out.length<=n/\Below w.heap.size w wr)
  case atStart=>exact⟨1,w0,y0,[],rfl,zH (cB.nil _ _ _),h78,h8,kw,ky,h,hF9,by simp,hb08⟩
  case round =>
   clear h78 h8 kw ky h hF9 hb08;obtain⟨n,x,y,out,rfl,ho,hx,hy,kx,ky,hs,hnf,hol,hbr⟩:=hrel
   cases gk with
   | zero=>exact absurd hs.out (by simp [BL])
   | succ f =>
   have hs2:=hs.out;have hinv:=QG hs2;rw [BL] at hs2;have hdx:=zH (jF _ x v wr hx.out hv (by have:=kx.len;omega));obtain⟨dx,hdx2⟩:∃ dx,dx=aG x v:=⟨_,rfl⟩;rw [<- hdx2] at hdx hs2 hinv;clear hs hdx2;by_cases hd:0<dx
   ·clear hs2;obtain⟨g,x',y',kd,kz,hg,hx',hy',hs2⟩:=hinv hd;clear hinv;have hpt:=zH (fun W (h1:Below wr.heap.size wr W)=>Uj (w:=W) kx hv (hx.out.on h1));have hsb:=zH (fun W u (h1:Below wr.heap.size wr W) (hu:ak W u (dA x v))=>Vj (w:=W) ky kd (hy.out.on h1) hu);generalize dA x v=d at *;generalize dK y d=z at *;obtain⟨hgc,kg⟩:=HG _ _ _ kx kz hg;replace hgc:=zH hgc;have hdg:=zH (fun W u (hu:ak W u g)=>jF u g v W hu hv (by have:=kg.len;omega));have kx':=pQ hx';have ky':=pQ hy';have how:=zH (fun W u1 u2 (h1:ak W u1 x) (h2:ak W u2 g)=>mW u1 u2 x g x' W h1 h2 kg hx');have hoy:=zH (fun W u1 u2 (h1:ak W u1 z) (h2:ak W u2 g)=>mW u1 u2 z g y' W h1 h2 kg hy');obtain⟨dg,hdg2⟩:∃ dg,dg=aG g v:=⟨_,rfl⟩;rw [<- hdg2] at hdg hs2;clear hg hx' hy' kd kz kg hdg2
    go_upto_region 12 with (first
     | (go_at_call 53;refine hdx.out.mono ?_;rintro en w3 ⟨rfl,hb3⟩)
     | (go_at_call 73;refine (hpt.out _ hb3).mono ?_;rintro en w4 ⟨v4,rfl,h4,hb4⟩;have hb34:=hb3.trans (hb4.mono hb3.size))
     | (go_at_call 74;refine (hsb.out _ _ hb34 h4).mono ?_;rintro en w5 ⟨v5,rfl,h5,hb5⟩))
    have hb35:=hb34.trans (hb5.mono hb34.size);have hgc2:=zH (hgc.out _ _ _ (hx.out.on hb35) h5);have hx5:=hx.out.on hb35;have ho5:=ho.out.on hb35;have hbr5:=hbr.trans (hb35.mono hbr.size);clear hb3 hb4 hb5 hb34 hb35 h4 hpt hsb hdx hgc hx hy ho
    go_upto_region 13 with (go_at_call 16;refine hgc2.out.mono ?_;rintro en w6 ⟨v6,rfl,h6,hb6⟩)
    have hx6:=hx5.on hb6;have hz6:=h5.on hb6;have ho6:=ho5.on hb6;have hbr6:=hbr5.trans (hb6.mono hbr5.size);have hdg2:=zH (hdg.out _ _ h6);clear hgc2 hx5 h5 ho5 hbr5 hb6 hdg;have hn1:n<=10000000:=by omega
    go_upto_if 50 with (go_at_call 53;refine hdg2.out.mono ?_;rintro en w7 ⟨rfl,hb7⟩)
    have hx7:=hx6.on hb7;have hz7:=hz6.on hb7;have ho7:=ho6.on hb7;have hg7:=h6.on hb7;have hbr7:=hbr6.trans (hb7.mono hbr6.size);clear hx6 hz6 ho6 h6 hbr6 hb7 hdg2
    go_cut [6,51,52,53,54,55,56] (fun vo _ _ _ _ _ _ wd=>Hid (QH w.heap.size wd vo (if 0<dg then out++[(g,n)] else out))/\Hid (ak wd u9 x)/\Hid (ak wd v5 z)/\Hid (ak wd v6 g)/\Below w.heap.size w wd)
    case first =>
     by_cases hp:0<dg
     ·have hbe:Below w7.heap.size w7 (w7.alloc (.cells #[v6,.int .i64 n] 54)):=(Below.refl _ _).alloc (Nat.le_refl _) _;have hbre:=hbr7.trans (hbe.mono hbr7.size);have hown:=ho7.on hbe
      have hsl:Ef (w7.alloc (.cells #[v6,.int .i64 n] 54)) (.slice (some ⟨w7.heap.size,0,none⟩) 1 1) [(g,n)] :=
       ⟨_,1,[v6,.int .i64 n],rfl,Nat.le_refl _,(Blk.new w7 54 [v6,.int .i64 n]).at,dS.single ⟨v6,rfl,hg7.on hbe⟩⟩
      have hxe:=hx7.on hbe;have hze:=hz7.on hbe;have hge:=hg7.on hbe;have hbas:=ho7.base_le;obtain⟨a6,c6,rfl,-⟩:=hg7.shape;replace hbas:=zH hbas;clear hx7 hz7 hg7 ho7
      go_wp2_with (at_builtin;refine cZ rfl _ _ 50 rfl Tryz.underlying50 Ku rfl rfl hown hsl (by simp;omega) hbre.size ?_;intro v8 w8 hown8 hl8 hv8)
      have hb8:=hbre.trans (hl8.belowAt hbre.size (fun k hk=>(hbas.out k hk).1));have hx8:=hxe.lr hl8 (bu (by decide)) (by decide);have hz8:=hze.lr hl8 (bu (by decide)) (by decide);have hg8:=hge.lr hl8 (bu (by decide)) (by decide);go_meet
      case rel=>exact⟨zH (by rw [if_pos hp];exact hown8),zH hx8,zH hz8,zH hg8,hb8⟩
     ·go_wp2;go_meet
      case rel=>exact⟨zH (by rw [if_neg (by omega)];exact ho7),zH hx7,zH hz7,zH hg7,hbr7⟩
    case rest =>
     clear hx7 hz7 hg7 ho7 hbr7;obtain⟨ho,hx,hz,hg,hbc⟩:=hcut;have how2:=zH (how.out _ _ _ hx.out hg.out);have hoy2:=zH (fun W (hb:Below wc.heap.size wc W)=>hoy.out W _ _ (hz.out.on hb) (hg.out.on hb))
     have hlen:(if 0<dg then out++[(g,n)] else out).length<=n+1:=by
      split
      ·simp;omega
      ·omega
     replace hs2:=zH hs2;generalize (if 0<dg then out++[(g,n)] else out)=out2 at *;clear how hoy hx hz hg
     go_wp2_with (first
      | (go_at_call 56;refine (hoy2.out w9 hb9).mono ?_;rintro en w10 ⟨v10,rfl,h10,hb10⟩)
      | (go_at_call 56;refine how2.out.mono ?_;rintro en w9 ⟨v9,rfl,h9,hb9⟩))
     have hb910:=hb9.trans (hb10.mono hb9.size);go_roundg f
     case measure=>omega
     case rel=>exact⟨n+1,x',y',out2,by go_num,zH (ho.out.on hb910),zH (h9.on hb10),zH h10,kx',ky',hs2,by omega,hlen,hbc.trans (hb910.mono hbc.size)⟩
   ·rw [if_neg hd,Option.some.injEq] at hs2;have hfin:=zH hs2;have hS:=ho.out.isSl;clear hs2 ho hx hy
    go_wp2_with (go_at_call 53;refine hdx.out.mono ?_;rintro en w3 ⟨rfl,hb3⟩)
    go_ret;exact⟨_,rfl,by rw [<- hfin.out];exact hS.on hb3,hbr.trans (hb3.mono hbr.size)⟩
end Go.Proofs.YtopclbeomcggiaaGreat
end
section
namespace Q
open Go Go.RowKit Go.Proofs.YtopclbeomcggiaaGreat
abbrev Mx:=List (List (List ai))
def gI (M:Mx) (i j:Nat):List ai:=(M.getD i []).getD j []
def wQ (M:Mx) (i j:Nat) (x:List ai):Mx:=M.set i ((M.getD i []).set j x)
def jq (l:List (List ai)) (at_ N:Nat):Nat->List (List ai)
 | 0=>List.replicate N []
 | k+1=>(jq l at_ N k).set (at_+l.length-1-k) (l.getD k [])
def dJ (a b:List (List ai)) (N i:Nat):List (List ai):=if b.length-1<=i then jq b (i-(b.length-1)) N b.length else jq a i N a.length
def vJ (a b:List (List ai)):Mx:=(List.range (a.length-1+(b.length-1))).map (dJ a b (a.length-1+(b.length-1)))
theorem nY (l:List (List ai)) (at_ N:Nat):∀ k,(jq l at_ N k).length=N
 | 0=>by simp [jq]
 | k+1=>by rw [jq,List.length_set,nY l at_ N k]
def VS (N k i:Nat) (last:List ai):Nat->Mx->Option Mx
 | 0,M=>some M
 | f+1,M=>eB (eD (dK (aQ (gI M k k) (gI M i (N-(f+1)))) (aQ (gI M i k) (gI M k (N-(f+1))))) last) fun x=>VS N k i last f (wQ M i (N-(f+1)) x)
def VT (N k:Nat) (last:List ai):Nat->Mx->Option Mx
 | 0,M=>some M
 | f+1,M=>eB (VS N k (N-(f+1)) last (N-(k+1)) M) fun M'=>VT N k last f M'
def rQ (N k:Nat) (M:Mx):Nat->Option Nat
 | 0=>none
 | f+1=>if gI M (N-(f+1)) k=[] then rQ N k M f else some (N-(f+1))
def pR (M:Mx) (i j:Nat):Mx:=(M.set i (M.getD j [])).set j (M.getD i [])
def Oe (last:List ai) (neg:Bool):List ai:=if neg then dK [] last else last
def resS (N:Nat):Nat->Mx->List ai->Bool->Option (List ai)
 | 0,_,last,neg=>some (Oe last neg)
 | f+1,M,last,neg=>match rQ N (N-(f+1)) M (f+1) with
  | none=>some []
  | some at_ =>
   let M1:=if at_=N-(f+1) then M else pR M (N-(f+1)) at_
   let neg1:=if at_=N-(f+1) then neg else !neg
   if f=0 then some (Oe (gI M1 (N-(f+1)) (N-(f+1))) neg1)
   else eB (VT N (N-(f+1)) last f M1) fun M2=>resS N f M2 (gI M2 (N-(f+1)) (N-(f+1))) neg1
def yj (a b:List ai) (v:Nat):Option (List ai) :=
 if a=[]\/b=[] then some [] else resS ((aB a v).length-1+((aB b v).length-1)) ((aB a v).length-1+((aB b v).length-1)) (vJ (aB a v) (aB b v)) nP false
structure vB (N:Nat) (M:Mx):Prop where
 len:M.length=N
 rows:∀ r∈M,r.length=N
 el:∀ r∈M,∀ x∈r,Wp x
theorem vB.get {N:Nat} {M:Mx} (h:vB N M) (i j:Nat):Wp (gI M i j):=by
 unfold gI;rcases Nat.lt_or_ge i M.length with hi|hi
 ·rw [List.getD_eq_getElem?_getD (l:=M),List.getElem?_eq_getElem hi,Option.getD_some];rcases Nat.lt_or_ge j M[i].length with hj|hj
  ·rw [List.getD_eq_getElem?_getD,List.getElem?_eq_getElem hj];exact h.el _ (List.getElem_mem hi) _ (List.getElem_mem hj)
  ·rw [List.getD_eq_getElem?_getD,List.getElem?_eq_none hj];exact Wp.nil
 ·rw [List.getD_eq_getElem?_getD (l:=M),List.getElem?_eq_none hi];simp;exact Wp.nil
theorem vB.row {N:Nat} {M:Mx} (h:vB N M) {i:Nat} (hi:i<N):M.getD i []∈M/\(M.getD i []).length=N/\M[i]?=some (M.getD i []):=by
 have hl:i<M.length:=by rw [h.len];exact hi
 have e:M.getD i []=M[i]:=by rw [List.getD_eq_getElem?_getD,List.getElem?_eq_getElem hl];rfl
 rw [e];exact⟨List.getElem_mem hl,h.rows _ (List.getElem_mem hl),List.getElem?_eq_getElem hl⟩
theorem vB.set {N:Nat} {M:Mx} (h:vB N M) {i j:Nat} {x:List ai} (hi:i<N) (hx:Wp x):vB N (wQ M i j x):=by
 obtain⟨h1,h2,h3⟩:=h.row hi;refine⟨by rw [wQ,List.length_set];exact h.len,fun r hr=>?_,fun r hr y hy=>?_⟩
 ·rcases List.mem_or_eq_of_mem_set hr with hr|rfl
  ·exact h.rows r hr
  ·rw [List.length_set];exact h2
 ·rcases List.mem_or_eq_of_mem_set hr with hr|rfl
  ·exact h.el r hr y hy
  ·rcases List.mem_or_eq_of_mem_set hy with hy|rfl
   ·exact h.el _ h1 y hy
   ·exact hx
theorem vB.swap {N:Nat} {M:Mx} (h:vB N M) {i j:Nat} (hi:i<N) (hj:j<N):vB N (pR M i j):=by
 have hm:∀ r∈pR M i j,r∈M:=fun r hr=>by
  rcases List.mem_or_eq_of_mem_set hr with hr|rfl
  ·rcases List.mem_or_eq_of_mem_set hr with hr|rfl
   ·exact hr
   ·exact (h.row hj).1
  ·exact (h.row hi).1
 exact⟨by rw [pR,List.length_set,List.length_set];exact h.len,fun r hr=>h.rows r (hm r hr),fun r hr=>h.el r (hm r hr)⟩
theorem BP {l:List (List ai)} (hl:∀ c∈l,Wp c) (at_ N:Nat):∀ k,∀ x∈jq l at_ N k,Wp x
 | 0,x,hx=>by rw [List.eq_of_mem_replicate hx];exact Wp.nil
 | k+1,x,hx=>by
  rcases List.mem_or_eq_of_mem_set hx with hx|rfl
  ·exact BP hl at_ N k x hx
  ·rcases Nat.lt_or_ge k l.length with hk|hk
   ·rw [List.getD_eq_getElem?_getD,List.getElem?_eq_getElem hk];exact hl _ (List.getElem_mem hk)
   ·rw [List.getD_eq_getElem?_getD,List.getElem?_eq_none hk];exact Wp.nil
theorem Vk {a b:List (List ai)} (ha:∀ c∈a,Wp c) (hb:∀ c∈b,Wp c):vB (a.length-1+(b.length-1)) (vJ a b):=by
 refine⟨by simp [vJ],fun r hr=>?_,fun r hr x hx=>?_⟩
 ·obtain⟨i,-,rfl⟩:=List.mem_map.1 hr;unfold dJ;split <;> exact nY _ _ _ _
 ·obtain⟨i,-,rfl⟩:=List.mem_map.1 hr;unfold dJ at hx;split at hx
  ·exact BP hb _ _ _ x hx
  ·exact BP ha _ _ _ x hx
abbrev qL:TypeId:=75
def mY (N:Nat) (b:Nat):Value:=.slice (some ⟨b,0,none⟩) N N
def jr (base:Nat) (w:World) (N b:Nat) (r:List (List ai)):Prop:=base<=b/\r.length=N/\∃ vs,nM w b vs r/\vs.length=N
structure rR (base:Nat) (w:World) (g N:Nat) (bs:List Nat) (M:Mx):Prop where
 ob:Blk w g qL (bs.map (mY N)++List.replicate (N-bs.length) (.slice none 0 0))
 gb:base<=g
 len:M.length=bs.length
 le:bs.length<=N
 row:∀ (i b:Nat) (r:List (List ai)),bs[i]?=some b->M[i]?=some r->jr base w N b r
 nd:bs.Nodup
theorem jr.on {base:Nat} {w w':World} {N b:Nat} {r:List (List ai)} (h:jr base w N b r) (hb:Below w.heap.size w w'):jr base w' N b r:=by
 obtain⟨h1,h2,vs,h3,h4⟩:=h;exact⟨h1,h2,vs,h3.on hb,h4⟩
theorem rR.on {base:Nat} {w w':World} {g N:Nat} {bs:List Nat} {M:Mx} (h:rR base w g N bs M) (hb:Below w.heap.size w w'):rR base w' g N bs M :=
 ⟨h.ob.on hb,h.gb,h.len,h.le,fun i b r h1 h2=>(h.row i b r h1 h2).on hb,h.nd⟩
theorem jr.ne {base:Nat} {w:World} {N b g:Nat} {r:List (List ai)} {cs:List Value} (h:jr base w N b r) (hg:Blk w g qL cs):b≠g:=by
 rintro rfl;obtain⟨-,-,vs,h3,-⟩:=h;have:=h3.b;unfold Blk at *;rw [this] at hg;simp only [Option.some.injEq,Obj.cells.injEq] at hg;exact absurd hg.2.1 (by decide)
theorem jr.lr {base:Nat} {w w':World} {N b:Nat} {r:List (List ai)} {g:Nat} {T:TypeId} (h:jr base w N b r) (hl:Lr (some g) T w w') (hT:uT≠T) (hT':aN≠T) (hne:b≠g):jr base w' N b r:=by
 obtain⟨h1,h2,vs,h3,h4⟩:=h;exact⟨h1,h2,vs,⟨h3.b.lr hl (by simpa using hne),h3.l,fun i v p hv hp=>(h3.p i v p hv hp).lr hl (bu hT) hT'⟩,h4⟩
theorem jr.set {base:Nat} {w:World} {N b:Nat} {r:List (List ai)} (h:jr base w N b r) {j:Nat} (hj:j<N) {v:Value} {q:List ai} (hq:ak w v q) :
  jr base (w.setCell ⟨b,j,none⟩ v) N b (r.set j q)/\Lr (some b) polyT w (w.setCell ⟨b,j,none⟩ v):=by
 obtain⟨h1,h2,vs,h3,h4⟩:=h;obtain⟨h5,h6⟩:=h3.set (i:=j) (by omega) hq;exact⟨⟨h1,by simpa using h2,_,h5,by simpa using h4⟩,h6⟩
theorem jr.get {base:Nat} {w:World} {N b:Nat} {r:List (List ai)} (h:jr base w N b r) {j:Nat} (hj:j<N):∃ v,ak w v (r.getD j [])/\w.cell? ⟨b,j,none⟩=some v/\w.frozen? ⟨b,j,none⟩=false/\b<w.heap.size:=by
 obtain⟨h1,h2,vs,h3,h4⟩:=h;obtain⟨v,hv,hp,hc⟩:=h3.get (i:=j) (by omega);exact⟨v,hp,hc,h3.b.frozen j,h3.b.lt⟩
end Q
end
section
namespace Q
open Go.Proofs.YtopclbeomcggiaaGreat
instance Xw:DecidableEq (List ai × Nat):=@instDecidableEqProd (List ai) Nat inferInstance inferInstance
instance Wx:DecidableEq (List (List ai × Nat)):=inferInstance
instance VU:DecidableEq (Option (List (List ai × Nat))):=inferInstance
def G8:List ai->List ai->Option (List ai):=Dc 6
theorem Vm:lN [tm 1 1 0] [tm 1 0 1]=[tm 1 0 1,tm 1 1 0]:=by decide +kernel
theorem IQ:lN [tm 1 1 0] [tm 1 0 0]=[tm 1 1 0,tm 1 0 0]:=by decide +kernel
theorem Wy:aQ [tm 1 1 0,tm 1 0 0] [tm 1 1 0,tm 1 0 0]=[tm 1 2 0,tm 2 1 0,tm 1 0 0]:=by decide +kernel
theorem Vn:dK [tm 1 1 0] [tm 1 0 1]=[tm (-1) 0 1,tm 1 1 0]:=by decide +kernel
theorem XT:aQ [tm 1 0 1,tm 1 1 0] [tm (-1) 0 1,tm 1 1 0]=[tm (-1) 0 2,tm 1 2 0]:=by decide +kernel
theorem XU:aQ [tm 1 0 1] [tm 1 0 1,tm 1 1 0]=[tm 1 0 2,tm 1 1 1]:=by decide +kernel
theorem Vo:aQ [tm 1 0 1] [tm 1 1 0,tm 1 0 0]=[tm 1 1 1,tm 1 0 1]:=by decide +kernel
theorem XV:bY [tm 1 1 1,tm 1 0 1] (((2:Int)):Rat)=[tm 2 1 1,tm 2 0 1]:=by decide +kernel
theorem Wz:aQ [tm 1 1 0] [tm 1 0 1]=[tm 1 1 1]:=by decide +kernel
theorem XW:aQ [tm 1 1 1] [tm 1 2 0,tm 2 1 0,tm 1 0 0]=[tm 1 3 1,tm 2 2 1,tm 1 1 1]:=by decide +kernel
theorem XX:Ws G8 [tm 1 3 1,tm 2 2 1,tm 1 1 1] 0=some [([tm 1 1 0],1),([tm 1 1 0,tm 1 0 0],2)]:=by decide +kernel
theorem Uk:lN [tm 1 1 0] [tm 2 0 0]=[tm 1 1 0,tm 2 0 0]:=by decide +kernel
theorem Vp:bY [tm 1 1 0,tm 2 0 0] (((2:Int)):Rat)=[tm 2 1 0,tm 4 0 0]:=by decide +kernel
theorem XY:kS [tm 2 1 0,tm 4 0 0]=some [tm 1 1 0,tm 2 0 0]:=by decide +kernel
theorem WA:G8 [tm (-1) 0 2,tm 1 2 0] [tm 1 0 2,tm 1 1 1]=some [tm 1 0 1,tm 1 1 0]:=by decide +kernel
theorem WB:bY [tm 1 1 0] (((3:Int)):Rat)=[tm 3 1 0]:=by decide +kernel
theorem WC:G8 [] [tm 3 1 0]=some [tm 1 1 0]:=by decide +kernel
theorem WE:G8 [tm 1 1 0] [tm 1 0 1]=some [tm 1 0 0]:=by decide +kernel
theorem WF:G8 [tm 4 0 0] [tm 6 0 0]=some [tm 1 0 0]:=by decide +kernel
theorem WG:G8 [] []=some []:=by decide +kernel
theorem WH:mU G8 [tm 2 1 1,tm 2 0 1] 0=some [tm 1 0 1]:=by decide +kernel
theorem WI:lU G8 [tm 2 1 1,tm 2 0 1] 0=some [tm 2 1 0,tm 2 0 0]:=by decide +kernel
theorem Vq:bY [tm 1 1 0,tm 1 0 0] (((2:Int)):Rat)=[tm 2 1 0,tm 2 0 0]:=by decide +kernel
theorem WJ:Ws G8 [tm 1 0 1] 0=some []:=by decide +kernel
theorem sw_xx:aQ [tm 1 1 0] [tm 1 1 0]=[tm 1 2 0]:=by decide +kernel
theorem Vr:dK [tm 1 2 0] [tm 1 0 1]=[tm (-1) 0 1,tm 1 2 0]:=by decide +kernel
theorem Vs:dK [tm 1 1 0] [tm 1 0 0]=[tm 1 1 0,tm (-1) 0 0]:=by decide +kernel
theorem Vt:dK [tm 1 0 0] [tm 1 0 1]=[tm (-1) 0 1,tm 1 0 0]:=by decide +kernel
theorem WK:yj [tm (-1) 0 1,tm 1 2 0] [tm 1 1 0,tm (-1) 0 0] 0=some [tm (-1) 0 1,tm 1 0 0]:=by decide +kernel
theorem WL:yj [tm 2 0 0] [tm 3 0 0] 0=some [tm 1 0 0]:=by decide +kernel
theorem WM:yj [tm 2 0 0] [tm 1 2 0] 0=some [tm 4 0 0]:=by decide +kernel
theorem WN:yj [] [tm 1 0 0] 0=some []:=by decide +kernel
end Q
end
section
namespace Q
open Go Go.Proofs.YtopclbeomcggiaaGreat
def UT (f:Ex->Nat):List ai->Nat
 | []=>0
 | t::l=>f t.1+UT f l
theorem oI (l:List ai):bD (canon l)<=bD l:=by
 have h:∀ (l r:List ai),bD (l.foldl ins r)<=bD r+bD l:=fun l=>by
  induction l with
  | nil=>intro r;simp only [List.foldl_nil,bD];grind
  | cons m l ih=>intro r;have:=ih (ins r m);have:=AA r m;simp only [List.foldl_cons,bD];grind
 have:=h l [];simp only [bD] at this;unfold canon;grind
theorem Og (l:List ai) (q:ai):prods l [q]=l.map fun s=>mulT s q:=by
 induction l with
 | nil=>rfl
 | cons s l ih=>rw [jQ,ih];rfl
theorem QJ (p:List ai) (c:Rat) (e:Ex):cf (bY p c) e=cf p e*c:=by
 unfold bY;split
 ·rename_i h;rw [jd,h];grind
 ·unfold cf;rw [xE _ _ (fun e'=>c*(if e'=e then 1 else 0)) p (fun t _=>by grind),jc];grind
def Vu (a ts:List ai) (q:ai):List ai:=a++ts.map fun t=>(t.1.add q.1,-(t.2*q.2))
theorem Vv {m g:ai} {a ts:List ai} (hm:m.1.nat=true) (hz:g.2≠0):dK (m::a) (aQ (g::ts) [ji m g])=canon (Vu a ts (ji m g)):=by
 unfold dK lN;refine yK fun e he=>?_;rw [nV,QJ,aQ,mM,if_pos he,Og,List.map_cons,bG,bG,Vu,nV]
 have h1:(mulT g (ji m g)).1=m.1:=by
  simp only [mulT,ji,Ex.add,Ex.sub];refine Ex.ext' ?_ ?_ ?_ ?_ <;> simp only <;> omega
 have h2:(mulT g (ji m g)).2=m.2:=by
  simp only [mulT,ji];rw [Rat.mul_comm];exact Rat.div_mul_cancel hz
 have h3:cf (ts.map fun t=>(t.1.add (ji m g).1,-(t.2*(ji m g).2))) e=- cf (ts.map fun s=>mulT s (ji m g)) e:=by
  induction ts with
  | nil=>simp only [List.map_nil,jd];grind
  | cons t ts ih=>rw [List.map_cons,List.map_cons,bG,bG,ih];simp only [mulT];grind
 rw [h1,h2,h3];grind
structure Yw (h:Ex->Nat) (g:Ex) (ts:List ai):Prop where
 one:∀ m:Ex,m.nat=true->(m.sub g).nat=true->1<=h m
 dec:∀ m:Ex,m.nat=true->(m.sub g).nat=true->∀ t∈ts,h (t.1.add (m.sub g))+1<=h m
def hf (h:Ex->Nat) (e:Ex):Nat:=2 ^ (h e+1)-1
structure Jn (h:Ex->Nat) (H G:Nat) (e:Ex) (c:Rat):Prop where
 b:h e<=H
 x:e.1<=2+2*((H-h e:Nat):Int)/\e.2.1<=2+2*((H-h e:Nat):Int)/\e.2.2.1<=2+2*((H-h e:Nat):Int)/\e.2.2.2<=2+2*((H-h e:Nat):Int)
 d:Dv (G ^ (H-h e)) c
end Q
end
