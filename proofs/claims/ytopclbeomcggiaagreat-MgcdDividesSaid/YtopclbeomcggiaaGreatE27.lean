/- mpoly.Div. mpoly.Pseudo. The reference's polynomials: times. The reference's polynomials: Deg, Coeff, Coeffs. -/
import Derived.Test.YtopclbeomcggiaaGreatE02
import Derived.Test.YtopclbeomcggiaaGreatE04
import Derived.Test.YtopclbeomcggiaaGreatE20
import Derived.Test.YtopclbeomcggiaaGreatE24
import Derived.Test.YtopclbeomcggiaaGreatE26
set_option linter.unusedVariables false
set_option linter.unusedSimpArgs false
set_option maxHeartbeats 16000000
set_option maxRecDepth 100000
section
namespace Q
open Go Go.RowKit
theorem IsSl.lrB {α:Type} {e:El α} {w w':World} {v:Value} {l:List α} {g:Option Nat} {T:TypeId} (h:IsSl e w v l) (hl:Lr g T w w') (hT:e.ok T) (hne:∀ ao n c,v=.slice (some ao) n c->some ao.block≠g):IsSl e w' v l:=by
 obtain⟨ao,cap,xs,rfl,h2,h3,h4⟩:=h;refine⟨ao,cap,xs,rfl,h2,fun hp=>?_,h4.lr hT hl⟩;obtain⟨b,off,e1,hc⟩:=h3 hp;subst e1;exact⟨b,off,rfl,hc.lr' hl (hne _ _ _ rfl)⟩
end Q
namespace Q
open Go Go.RowKit Go.Proofs.YtopclbeomcggiaaGreat
def FactL.own {T:TypeId} (B:Nat) (l:List Trm):FactL (Lr none T):=FactL.of (fun v w=>OwnPoly B w v l) (fun _ _ _ hb h=>h.on hb.below)
end Q
namespace Go.Proofs.YtopclbeomcggiaaGreat
open Go.RowKit Q Go.WideMaps Go.Maps
theorem term_ones' {w:World} {r:List Value} {q:Rat} {e:Ex} (h:IsRatC w r q):(exC e++r).toArray.all (·.oneCell')=true:=by
 rw [Array.all_eq_true_iff_forall_mem];intro v hv;rcases List.mem_append.1 (by simpa using hv) with hv|hv
 ·exact exC_one e v hv
 ·exact h.one v hv
def quoT (m g:Trm):Trm:=(m.1.sub g.1,m.2 / g.2)
structure DivOk (b:List Trm) (g m:Trm) (a:List Trm):Prop where
 he:InR (m.1.sub g.1)
 hm:Rk m.2
 hg:Rk g.2
 hz:g.2≠0
structure DivOk2 (b:List Trm) (g m:Trm) (a:List Trm):Prop where
 hq:Rk (m.2 / g.2)
 hb:(∀ t∈b,InR t.1/\Rk t.2)/\b.length<=100000000
 hp:Okl (prods b [quoT m g])
 ha:(∀ t∈(m::a),Rk t.2)/\(m::a).length<=100000000/\Vld (m::a)
 hc:(∀ t∈mulP b [quoT m g],Rk t.2)/\(mulP b [quoT m g]).length<=100000000
inductive DivR (b:List Trm) (g:Trm):Nat->List Trm->List Trm->Option (List Trm)->Prop
|done {out:List Trm}:DivR b g 0 [] out (some out)
|fail {m:Trm} {a out:List Trm}:(m.1.sub g.1).nat=false->DivOk b g m a->DivR b g 0 (m::a) out none
|step {n:Nat} {m:Trm} {a out:List Trm} {r:Option (List Trm)}:(m.1.sub g.1).nat=true->DivOk b g m a->DivOk2 b g m a->out.length<=100000000 ->
   DivR b g n (subP (m::a) (mulP b [quoT m g])) (out++[quoT m g]) r->DivR b g (n+1) (m::a) out r
theorem DivR.inv {b:List Trm} {g m:Trm} {n:Nat} {a out:List Trm} {r:Option (List Trm)} (h:DivR b g n (m::a) out r) :
  DivOk b g m a/\((m.1.sub g.1).nat=false->r=none)/\((m.1.sub g.1).nat=true->∃ n',n=n'+1/\DivOk2 b g m a/\out.length<=100000000/\DivR b g n' (subP (m::a) (mulP b [quoT m g])) (out++[quoT m g]) r):=by
 cases h with
|fail h1 h2=>exact⟨h2,fun _=>rfl,(fun h=>by rw [h1] at h;cases h)⟩
|step h1 h2 h3 h4 h5=>exact⟨h2,(fun h=>by rw [h1] at h;cases h),fun _=>⟨_,rfl,h3,h4,h5⟩⟩
theorem DivR.inv0 {b:List Trm} {g:Trm} {n:Nat} {out:List Trm} {r:Option (List Trm)} (h:DivR b g n [] out r):r=some out:=by cases h;rfl
def RetDivP (w:World) (r:Option (List Trm)) (e:Ending) (w':World):Prop:=∃ v,e=.returned (.tuple #[v,.bool r.isSome])/\IsPoly w' v (r.getD [])/\Below w.heap.size w w'
theorem div_nil (vp vq:Value) (p:List Trm) (w:World) (hp:IsPoly w vp p) (hq:IsPoly w vq []):Calls Tryz.prog 93 #[vp,vq] w (RetDivP w none):=by
 obtain⟨ap,cp,rfl,hcp⟩:=hp.shape;obtain⟨aq,cq,rfl,hcq⟩:=hq.shape;simp only [List.length_nil]
 go_enter Tryz.func93,Tryz.ntmps93
 go_wp2;go_ret2;exact⟨_,rfl,IsSl.nil _ _,Below.refl _ _⟩
theorem subX (m g:Ex) (v:Nat) (h:v<4):(Ex.sub m g).get v=m.get v-g.get v:=by
 obtain rfl|rfl|rfl|rfl:v=0\/v=1\/v=2\/v=3:=by omega
 all_goals rfl
def subTo (m g:Ex):Nat->Ex
|0=>m
|k+1=>(subTo m g k).put k (m.get k-g.get k)
theorem subTo_full (m g:Ex):subTo m g 4=m.sub g:=rfl
theorem subTo_get (m g:Ex) (k:Nat) (h:k<4):(subTo m g k).get k=m.get k:=by
 obtain rfl|rfl|rfl|rfl:k=0\/k=1\/k=2\/k=3:=by omega
 all_goals rfl
theorem div_any (vp vq:Value) (p b:List Trm) (g:Trm) (n:Nat) (r:Option (List Trm)) (w:World) (hp:IsPoly w vp p) (hq:IsPoly w vq (g::b)) (hd:DivR (g::b) g n p [] r) :
  Calls Tryz.prog 93 #[vp,vq] w (RetDivP w r):=by
 obtain⟨bq,oq,csq,e1,-,hEg,hCg⟩:∃ bq oq cs,(∃ cq,vq=.slice (some ⟨bq,oq,none⟩) (b.length+1) cq)/\True/\IsTerm w cs g/\Cells monoT w bq (oq+0*8) cs:=by
  obtain⟨aq,cq,rfl,hcq⟩:=hq.shape;obtain⟨bq,oq,cs,rfl,-,hE,hC⟩:=hq.get (j:=0) (t:=g) rfl;exact⟨bq,oq,cs,⟨cq,rfl⟩,trivial,hE,hC⟩
 obtain⟨cq,rfl⟩:=e1;obtain⟨rg,rfl,hrg⟩:=hEg;have hlg:=hrg.len;replace hd:=zH hd
 go_enter Tryz.func93,Tryz.ntmps93
 go_wp2
 go_loopg [0,6] n (fun n va vo wr=>∃ a out,Hid (IsPoly wr va a)/\Hid (OwnPoly w.heap.size wr vo out)/\Hid (DivR (g::b) g n a out r)/\Below w.heap.size w wr/\Hid (a≠[]->∀ ao n c,va=.slice (some ao) n c->some ao.block≠vo.ownBlock))
 case atStart=>exact⟨p,[],zH hp,zH (OwnSl.nil _ _ _),hd,Below.refl _ _,zH (fun _ ao n c _ h=>by simp [Value.ownBlock] at h)⟩
 case round =>
  clear hd;obtain⟨a,out,ha,hown,hd,hbr,hap⟩:=hrel
  cases a with
 |nil =>
   have hr:r=some out:=hd.out.inv0;obtain⟨aa,ca,rfl,hca⟩:=ha.out.shape;replace hr:=zH hr;simp only [List.length_nil];go_wp2;go_ret2;exact⟨_,by rw [hr.out];rfl,by rw [hr.out];exact hown.out.isSl,hbr⟩
 |cons m a =>
   obtain⟨hok,hfail,hstep⟩:=hd.out.inv;obtain⟨aa,ca,rfl,hca⟩:=ha.out.shape;obtain⟨ba,oa,csa,rfl,-,hEa,hCa⟩:=ha.out.get (j:=0) (t:=m) rfl;obtain⟨ra,rfl,hra⟩:=hEa;change Cells monoT wr ba (oa+0*8) _ at hCa;have hla:=hra.len;have h8a:(exC m.1++ra).length=8:=by rw [List.length_append,hla];rfl
   have hrga:=hCa.range;rw [Nat.zero_mul,Nat.add_zero] at hrga;have hne1:some ba≠u6.ownBlock:=fun h=>hap.out (by simp) _ _ _ rfl h;have hgo:=fun v hv=>Ex.get_bounds hok.he (v:=v) hv;have hsx:=fun v hv=>subX m.1 g.1 v hv;replace hgo:=zH hgo;replace hsx:=zH hsx;replace hfail:=zH hfail;replace hstep:=zH hstep;replace hok:=zH hok;simp only [List.length_cons]
   go_upto_region 6 with (first
   |(refine wpList_index_at rfl _ _ 27 rfl monoT Tryz.underlying27 _ 8 96 (by kernel_rfl) _ _ _ rfl .i64 0 rfl 0 rfl (by omega) ba oa rfl ?_;rw [Nat.zero_mul,Nat.add_zero])
   |(refine wpList_load_mid rfl 43 _ rfl _ _ rfl _ _ hrga Tryz.underlying43 rfl (by rw [h8a];kernel_rfl) ?_)
   |(refine wpList_store_blk rfl _ (.tmp 7) (.tmp 17) rfl _ _ _ _ rfl rfl (Blk.new wr monoT [.int .i64 0,.int .i64 0,.int .i64 0,.int .i64 0,.bool false,.slice none 0 0,.bool false,.slice none 0 0]) (by simp [exC,hla]) (by simp only [List.size_toArray,h8a];exact info37) (term_ones' hra) ?_;intro W3 R3 gr3))
   have BB:Blk W3 wr.heap.size monoT (exC m.1++ra):=by simpa using R3
   have hba:Below wr.heap.size wr (wr.alloc (.cells #[.int .i64 0,.int .i64 0,.int .i64 0,.int .i64 0,.bool false,.slice none 0 0,.bool false,.slice none 0 0] monoT)):=(Below.refl _ _).alloc (Nat.le_refl _) _;have hb3:Below wr.heap.size wr W3:=hba.trans (grown_below gr3 (by simp) (Nat.le_refl _));have hbr3:=hbr.trans (hb3.mono hbr.size);have ha3:=ha.out.on hb3;have hown3:=hown.out.on hb3;have hra3:=hra.on hb3;have hwm:w.heap.size<=wr.heap.size:=hbr.size;have hom:u6.ownBlock≠some wr.heap.size:=fun h=>by have:=(hown.out.base_le _ h).2;omega
   have ham:ba≠wr.heap.size:=fun h=>by have:=hCa.lt;omega
   have hbase:∀ k,u6.ownBlock=some k->w.heap.size<=k:=fun k hk=>(hown.out.base_le k hk).1;clear hrga R3 gr3 hba hb3 hCa ha hown hra hbr hap hd;generalize wr.heap.size=mb at *;have hst:Hid (Blk W3 mb monoT (exC (subTo m.1 g.1 0)++ra)):=zH BB;clear BB;go_wp2
   go_loopw [18] (fun i wr=>∃ k:Nat,k<=4/\i=.int .i64 k/\Hid (Blk wr mb monoT (exC (subTo m.1 g.1 k)++ra))/\Hid (IsPoly wr (.slice (some ⟨ba,oa,none⟩) (a.length+1) ca) (m::a))/\Hid (OwnPoly w.heap.size wr u6 out)/\Hid (IsRatC wr ra m.2)/\Below w.heap.size w wr) (fun i _=>4-(intOf i).toNat)
   case atStart=>exact⟨0,by omega,rfl,hst,zH ha3,zH hown3,zH hra3,hbr3⟩
   case round =>
    clear hst ha3 hown3 hra3 hbr3;obtain⟨k,hk,rfl,hB,ha,hown,hra,hbr⟩:=hrel;by_cases hk4:k<4
    ·have BB:=hB.out;have hk4':(k:Int)<4:=by omega
     have hat:=exC_at (subTo m.1 g.1 k) k hk4 ra;rw [subTo_get _ _ _ hk4] at hat;have hset:=exC_set (subTo m.1 g.1 k) k hk4 (m.1.get k-g.1.get k) ra;have hw:IntKind.i64.wrap (m.1.get k-g.1.get k)=m.1.get k-g.1.get k:=wrap_id (by rw [<- hsx.out k hk4];exact hgo.out k hk4);have hgat:=exC_at g.1 k hk4 rg;have f1:∀ W',Below wr.heap.size wr W'->W'.cell? ⟨mb,k,none⟩=some (.int .i64 (m.1.get k)):=fun W' h=>(BB.on h).at1 k _ hat
     have f2:∀ W',Below wr.heap.size wr W'->W'.cell? ⟨bq,oq+k,none⟩=some (.int .i64 (g.1.get k)):=fun W' h=>by
      have:=(hCg.on (hbr.trans (h.mono hbr.size))).cell k (by simp [exC];omega);rw [Nat.zero_mul,Nat.add_zero] at this;rw [this];exact hgat
     have hsucc:subTo m.1 g.1 (k+1)=Ex.put (subTo m.1 g.1 k) k (m.1.get k-g.1.get k):=rfl;generalize m.1.get k=x at *;generalize g.1.get k=y at *;replace hsucc:=zH hsucc
     go_upto_region 9 with (fail)
     refine wp_region_L mixed (none) (0) (Okr.none) [.eq (.int .i64 k),.eq (.pointer (some ⟨mb,0,none⟩)),.eq (.pointer (some ⟨mb,k,none⟩)),.eq (.int .i64 x),.eq (.slice (some ⟨bq,oq,none⟩) (b.length+1) cq),.eq (.int .i64 k),.eq (.pointer (some ⟨bq,oq+0*8,none⟩)),.eq (.pointer (some ⟨bq,oq+0*8,none⟩)),.eq (.pointer (some ⟨bq,oq+k,none⟩)),.eq (.int .i64 y),.eq (.int .i64 (x-y)),.eq (.pointer (some ⟨mb,0,none⟩)),.eq (.pointer (some ⟨mb,k,none⟩))] [21,22,23,24,25,26,27,28,29,30,31,32,33] rfl rfl rfl rfl ⟨?_,?_,?_,?_,?_,?_,?_,?_,?_,?_,?_,?_,?_,trivial⟩ ?_
     ·exact fun _ _ a _ _ _=>xM rfl (a 8 rfl)
     ·exact fun _ _ a _ _ _=>goOn_plain rfl (xF0 rfl (a 7 rfl))
     ·intro A w1 hA hL hS he;have h22:=eT 22 (he.1 rfl);have h21:=eT 21 (he.2.1 rfl);exact pZ rfl
     ·intro A w1 hA hL hS he;have h23:=eT 23 (he.1 rfl);refine goOn_plain rfl ?_;have c0:=f1 w1 hL.below;exact stepG_pure rfl rfl gZ
     ·exact fun _ _ a _ _ _=>xM rfl (a 1 rfl)
     ·exact fun _ _ a _ _ _=>xM rfl (a 8 rfl)
     ·exact fun _ _ _ _ _ e=>pI rfl Tryz.underlying27 bq oq 0 (by omega) (e.1 rfl) rfl
     ·exact fun _ _ _ _ _ e=>goOn_plain rfl (xF0 rfl (e.1 rfl))
     ·intro A w1 hA hL hS he;have h28:=eT 28 (he.1 rfl);have h26:=eT 26 (he.2.1 rfl);exact pZ rfl
     ·intro A w1 hA hL hS he;have h29:=eT 29 (he.1 rfl);refine goOn_plain rfl ?_;have c0:=f2 w1 hL.below;exact stepG_pure rfl rfl gZ
     ·intro A w1 hA hL hS he;have h24:=eT 24 (he.1 rfl);have h30:=eT 30 (he.2.1 rfl);exact pZ rfl
     ·exact fun _ _ a _ _ _=>goOn_plain rfl (xF0 rfl (a 7 rfl))
     ·intro A w1 hA hL hS he;have h32:=eT 32 (he.1 rfl);have h21:=eT 21 (he.2.1 rfl);exact pZ rfl
     ·intro W2 hL2;have hb2:=hL2.below;simp only [TailL,FactL.eq,lZ];go_frame;have B2:=BB.on hb2;have z:=B2.at1 k _ hat;have hf:=B2.frozen k;have hown2:=hown.out.on hb2;have ha2:=ha.out.on hb2;have hra2:=hra.out.on hb2;have hbr2:=hbr.trans (hb2.mono hbr.size);have hl3:=setCell_lr (j:=k) B2 (.int .i64 (x - y));have B3:=B2.set k (.int .i64 (x - y));rw [hset] at B3;clear f1 f2 hL2;go_wp2;go_roundw
      case rel =>
       refine⟨k+1,by omega,by go_num,zH (by rw [hsucc.out];exact B3),zH (ha2.lrB hl3 (elTerm_ok (by decide)) (fun ao n c h=>by simp only [Value.slice.injEq,Option.some.injEq] at h;rw [<- h.1];simpa using ham)),zH (hown2.lr hl3 (elTerm_ok (by decide)) (.inr hom)),zH (hra2.lr hl3 (by decide)),hbr2.trans (hl3.belowAt hbr2.size (fun k hk=>by cases hk;exact hwm))⟩
      case measure=>simp [intOf];omega
    ·obtain rfl:k=4:=by omega
     rw [subTo_full] at hB;clear hgo hsx;obtain⟨E,hE⟩:∃ E,E=m.1.sub g.1:=⟨_,rfl⟩;have hqe:quoT m g=(E,m.2 / g.2):=by rw [hE];rfl
     have hEr:InR E:=by rw [hE];exact hok.out.he
     rw [<- hE] at hB hfail hstep;replace hqe:=zH hqe;replace hEr:=zH hEr;clear hE;have BB:=hB.out
     go_upto_region 11 with (fail)
     refine wp_region_S trivial (none) (0) (Okr.none) [.eq (.pointer (some ⟨mb,0,none⟩)),.eq (.agg (exC E).toArray),.ret (.bool E.nat),.eq (.bool (!E.nat))] [35,36,37,38] rfl rfl rfl rfl ⟨?_,?_,?_,?_,trivial⟩ ?_
     ·exact fun _ _ a _ _ _=>goOn_plain rfl (xF0 rfl (a 7 rfl))
     ·exact fun _ _ _ hL _ e=>pL rfl (blk_ex (BB.on hL.below)) Tryz.underlying36 (show (exC E).length=4 from rfl) (e.1 rfl)
     ·intro A w1 hA hL hS he;have hb:=hS rfl;have h36:=eT 36 (he.1 rfl);have hf0:=eF A 114;refine goOn_plain rfl ?_;refine stepG_call (f:=114) (args:=#[.agg (exC E).toArray]) rfl rfl ?_ ?_
      ·exact gZ
      ·refine (natural_any E _).mono ?_;rintro e w' ⟨rfl,hb'⟩;exact⟨_,rfl,hb',rfl⟩
     ·intro A w1 hA hL hS he;have h37:=eT 37 (he.1 rfl);exact pZ rfl
     ·intro W2 hL2;have hb2:=hL2.below;simp only [TailL,FactL.eq,FactL.ret,lZ];go_frame;have B2:=BB.on hb2;have hown2:=hown.out.on hb2;have ha2:=ha.out.on hb2;have hra2:=hra.out.on hb2;have hbr2:=hbr.trans (hb2.mono hbr.size);clear hL2 BB hB hown ha hra hbr hb2;cases hEn:E.nat
      ·have hr:=hfail.out hEn;replace hr:=zH hr;clear hstep hEn;go_wp2;go_ret2;exact⟨_,by rw [hr.out];rfl,by rw [hr.out];exact IsSl.nil _ _,hbr2⟩
      ·obtain⟨n',hn',hok2,hol,hd'⟩:=hstep.out hEn;rw [hqe.out] at hd';replace hok2:=zH hok2;replace hd':=zH hd';replace hn':=zH hn';clear hfail hstep hEn;have hdiv:=fun W (hb:Below W2.heap.size W2 W)=>rdiv_any _ _ _ _ W (hra2.on hb).rat (hrg.on (hbr2.trans (hb.mono hbr2.size))).rat hok.out.hm hok.out.hg hok.out.hz;obtain⟨N1,A1,K1,C1,N2,A2,K2,C2,rfl,-,-⟩:=hra2;obtain⟨N3,A3,K3,C3,N4,A4,K4,C4,rfl,-,-⟩:=id hrg;have y1:=B2.at1 4 _ rfl;have y2:=B2.at1 5 _ rfl;have y3:=B2.at1 6 _ rfl;have y4:=B2.at1 7 _ rfl;have hCg2:=hCg.on hbr2;have x1:W2.cell? ⟨bq,oq+4,none⟩=some (.bool N3):=by have:=hCg2.cell 4 (by simp [exC]);simpa [exC] using this
       have x2:W2.cell? ⟨bq,oq+4+1,none⟩=some (.slice A3 K3 C3):=by have:=hCg2.cell 5 (by simp [exC]);simpa [exC,Nat.add_assoc] using this
       have x3:W2.cell? ⟨bq,oq+4+2,none⟩=some (.bool N4):=by have:=hCg2.cell 6 (by simp [exC]);simpa [exC,Nat.add_assoc] using this
       have x4:W2.cell? ⟨bq,oq+4+3,none⟩=some (.slice A4 K4 C4):=by have:=hCg2.cell 7 (by simp [exC]);simpa [exC,Nat.add_assoc] using this
       have f1:=B2.frozen 4;have f2:=B2.frozen 5;have f3:=B2.frozen 6;have f4:=B2.frozen 7;clear hCg2
       go_upto_region 13 with (fail)
       go_cut [39,40,41,42,43,44,45,46,47,48,49] (fun _ _ _ _ _ _ _ _ _ _ _ wc=>∃ r':List Value,Hid (Blk wc mb monoT (exC E++r'))/\Hid (IsRatC wc r' (m.2 / g.2))/\Hid (OwnPoly w.heap.size wc u6 out)/\Hid (IsPoly wc (.slice (some ⟨ba,oa,none⟩) (a.length+1) ca) (m::a))/\Below w.heap.size w wc)
       case first =>
        replace hown2:=zH hown2;replace ha2:=zH ha2
        go_region_with (go_at_call 46;refine (hdiv _ (bdn (Below.refl _ _) _)).mono ?_;rintro en w5 ⟨v5,rfl,hv5,hb5⟩;obtain⟨N5,A5,K5,C5,N6,A6,K6,C6,rfl⟩:=rat_agg hv5;have B5:=(B2.on (bdn (Below.refl _ _) _)).on hb5;have z1:=B5.at1 4 _ rfl;have z2:=B5.at1 5 _ rfl;have z3:=B5.at1 6 _ rfl;have z4:=B5.at1 7 _ rfl;have g1:=B5.frozen 4;have g2:=B5.frozen 5;have g3:=B5.frozen 6;have g4:=B5.frozen 7)
        all_goals
         obtain⟨R5,gr5⟩:=setCells_blk [.bool N5,.slice A5 K5 C5,.bool N6,.slice A6 K6 C6] 4 w5 _ B5 (by simp [exC]);have hl5:Lr (some mb) monoT w5 _:=⟨gr5,fun k hk=>by cases hk;exact⟨B5.noOther,R5.noOther⟩⟩;have hb25:Below W2.heap.size W2 w5:=(bdn (Below.refl _ _) 1).trans (hb5.mono (Nat.le_refl _));have hbw5:=hbr2.trans (hb25.mono hbr2.size);have hown5:=(hown2.out.on hb25).lr hl5 (elTerm_ok (by decide)) (.inr hom);have ha5:=(ha2.out.on hb25).lrB hl5 (elTerm_ok (by decide)) (fun ao n c h=>by simp only [Value.slice.injEq,Option.some.injEq] at h;rw [<- h.1];simpa using ham);have hr5:=(hv5.lr hl5 (by decide)).cellsC (cs:=[.bool N5,.slice A5 K5 C5,.bool N6,.slice A6 K6 C6]);have hbw6:=hbw5.trans (hl5.belowAt hbw5.size (fun k hk=>by cases hk;exact hwm));clear z1 z2 z3 z4 g1 g2 g3 g4 B5 hv5 hl5 gr5;go_wp2;go_meet
         case rel=>exact⟨_,zH R5,zH hr5,zH hown5,zH ha5,hbw6⟩
       case rest =>
        clear B2 hown2 ha2 hdiv y1 y2 y3 y4 x1 x2 x3 x4 f1 f2 f3 f4 hbr2;obtain⟨r',hB,hr',hown,ha,hbr⟩:=hcut;have BB:=hB.out;have h4r:=hr'.out.len;have h8:(exC E++r').length=8:=by rw [List.length_append,h4r];rfl
        have hne':some mb≠u6.ownBlock:=fun h=>hom h.symm;obtain⟨k1,k2,k3,k4,k5⟩:=hok2.out;rw [hqe.out] at k3 k5
        have kq:∀ t∈[((E,m.2 / g.2):Trm)],InR t.1/\Rk t.2:=fun t ht=>by
         rw [List.mem_singleton.1 ht];exact⟨hEr.out,k1⟩
        replace k1:=zH k1;replace k2:=zH k2;replace k3:=zH k3;replace k4:=zH k4;replace k5:=zH k5;replace kq:=zH kq;replace hbase:=zH hbase;clear hB hok2 hlg
        go_upto_region 14 with (fail)
        refine wp_region_S trivial (u6.ownBlock) (monoT) (hown.out.okr) [.eq (u6),.eq (.agg (exC E++r').toArray),.new1 elTerm elTerm_okT ((E,m.2 / g.2)),.row elTerm (w.heap.size) wc.heap.size (out++[(E,m.2 / g.2)])] [50,51,52,53] rfl rfl rfl rfl ⟨?_,?_,?_,?_,trivial⟩ ?_
        ·exact fun _ _ a _ _ _=>xM rfl (a 6 rfl)
        ·exact fun _ _ a hL _ _=>pL rfl ((BB.lr hL hne').cells.range) Tryz.underlying43 (h8) (a 7 rfl)
        ·intro A w1 hA hL hS he;have h51:=eT 51 (he.1 rfl);refine goOn_plain rfl ?_;have hE:(elTerm:El _).E w1 _ ((E,m.2 / g.2)):=⟨_,rfl,hr'.out.lr hL (by decide)⟩;refine stepG_new1 rfl rfl ((hown.out.okr).lr hL) hE (execOp_buildSlice rfl ?_) (fun _ _ h=>h);simp only [List.map_toArray,List.map_cons,List.map_nil,h51];exact run_new1_elTermP _ _ ((elTerm).len hE)
        ·intro A w1 hA hL hS he;have hb:=hS rfl;have hbw:Below w.heap.size w w1:=hbr.trans (hL.belowAt hbr.size hbase.out);have h50:=eT 50 (he.1 rfl);obtain⟨v52,h52,f52⟩:=fT 52 (he.2.1 rfl);exact goOn_plain rfl (stepG_append rfl rfl rfl Tryz.underlying27 info_elTerm h50 h52 (hown.out.on hb) rfl rfl (isSl_of_new f52) (by simp only [List.length_cons,List.length_nil];omega) (hbw.size) hL.1.size (fun _ _ h1 h2=>⟨h1,h2⟩))
        ·intro W6 hL6;simp only [TailL,FactL.eq,FactL.new1,FactL.row,FactL.asPure,FactL.of,FactL.fragile,lZ];rintro v52 - v53 ⟨hown6,hnew⟩;go_frame;have hbW6:=hbr.trans (hL6.belowAt hbr.size hbase.out);have ha6:=ha.out.lrB hL6 (elTerm_ok (by decide)) (fun ao n c h=>by simp only [Value.slice.injEq,Option.some.injEq] at h;rw [<- h.1];exact hne1);have B6:=BB.lr hL6 hne';have hr6:=hr'.out.lr hL6 (by decide);have hq6:=hq.on hbW6;have hblk6:=zH hown6.base_le;clear hL6 BB ha hown hr' hbr hnew
         go_upto_region 15 with (fail)
         refine wp_region_S trivial (none) (0) (Okr.none) [.eq (.slice (some ⟨ba,oa,none⟩) (a.length+1) ca),.eq (.slice (some ⟨bq,oq,none⟩) (b.length+1) cq),.eq (.agg (exC E++r').toArray),.new1 elTerm (elTerm_ok (by decide)) ((E,m.2 / g.2)),.poly (by decide) (by decide) ((mulP (g::b) [(E,m.2 / g.2)])),.own W6.heap.size (subP (m::a) (mulP (g::b) [(E,m.2 / g.2)]))] [54,55,56,57,58,59] rfl rfl rfl rfl ⟨?_,?_,?_,?_,?_,?_,trivial⟩ ?_
         ·exact fun _ _ a _ _ _=>xM rfl (a 0 rfl)
         ·exact fun _ _ a _ _ _=>xM rfl (a 1 rfl)
         ·exact fun _ _ a hL _ _=>pL rfl ((B6.on hL.below).cells.range) Tryz.underlying43 (h8) (a 7 rfl)
         ·intro A w1 hA hL hS he;have hb:=hS rfl;have h56:=eT 56 (he.1 rfl);refine goOn_plain rfl ?_;have hE:(elTerm:El _).E w1 _ ((E,m.2 / g.2)):=⟨_,rfl,hr6.on hb⟩;refine stepG_new1 rfl rfl ((Okr.none).lr hL) hE (execOp_buildSlice rfl ?_) (fun _ _ h=>h);simp only [List.map_toArray,List.map_cons,List.map_nil,h56];exact run_new1_elTermP _ _ ((elTerm).len hE)
         ·intro A w1 hA hL hS he;have hb:=hS rfl;have h55:=eT 55 (he.1 rfl);obtain⟨v57,h57,f57⟩:=fT 57 (he.2.1 rfl);have hf0:=eF A 54;exact cP (f:=54) (args:=#[.slice (some ⟨bq,oq,none⟩) (b.length+1) cq,v57]) (mul_pp _ _ _ _ _ (hq6.on hb) (isSl_of_new f57) k2.out.1 kq.out k3.out k2.out.2 (by simp))
         ·intro A w1 hA hL hS he;have hb:=hS rfl;have h54:=eT 54 (he.1 rfl);obtain⟨v58,h58,f58⟩:=fT 58 (he.2.1 rfl);have hf0:=eF A 74;refine goOn_plain rfl ?_;refine stepG_call (f:=74) (args:=#[.slice (some ⟨ba,oa,none⟩) (a.length+1) ca,v58]) rfl rfl ?_ ?_
          ·exact gZ
          ·refine (sub_own _ _ _ _ _ (ha6.on hb) f58 k4.out.1 k5.out.1 k4.out.2.1 k5.out.2 k4.out.2.2 (Vld.mul _ _)).mono ?_;rintro e w' ⟨v,rfl,hi,hb'⟩;exact⟨_,rfl,hb',hi.base_mono hb.size⟩
         ·intro W7 hL7;have hb7:=hL7.below;simp only [TailL,FactL.eq,FactL.new1,FactL.poly,FactL.own,FactL.of,lZ];rintro v57 - v58 - v59 hown9;go_frame;have hown7:=hown6.on hb7;have hbW7:=hbW6.trans (hb7.mono hbW6.size)
          have hap:(subP (m::a) (mulP (g::b) [(E,m.2 / g.2)]))≠[]->∀ ao n c,v59=.slice (some ao) n c->some ao.block≠v53.ownBlock:=fun _ ao n c h hc=>by
           have h1:=(hblk6.out ao.block hc.symm).2;obtain⟨xs,⟨-,h2⟩,-⟩:=hown9;rcases h2 with ⟨h2,-⟩|⟨gg,cap,cur,h2,h3,-⟩
           ·rw [h] at h2;cases h2
           ·rw [h] at h2;cases h2;simp only at h1;omega
          replace hap:=zH hap;clear hL7 hb7 hown6 ha6 B6 hr6 hq6 hbW6;go_wp2;go_roundg n'
          case measure=>have:=hn'.out;omega
          case rel=>exact⟨_,_,zH hown9.isSl,zH hown7,hd',hbW7,hap⟩
end Go.Proofs.YtopclbeomcggiaaGreat
end
section
namespace Q
def psStep (D R:List (List Trm)):List (List Trm) :=
 let n:=D.length-1
 let top:=R.getD (R.length-1) []
 (List.range (R.length-1)).map fun i=>if R.length-1-n<=i then subP (mulP (R.getD i []) (D.getD n [])) (mulP top (D.getD (i-(R.length-1-n)) [])) else mulP (R.getD i []) (D.getD n [])
def psRun (D:List (List Trm)):Nat->List (List Trm)->List (List Trm)
|0,R=>R
|f+1,R=>if D.length-1<R.length then psRun D f (psStep D R) else R
theorem psStep_len (D R:List (List Trm)):(psStep D R).length=R.length-1:=by simp [psStep]
def psTo (D R:List (List Trm)) (i:Nat):List (List Trm):=(psStep D R).take i++(R.take (R.length-1)).drop i
theorem psTo_len {D R:List (List Trm)} {i:Nat} (h:i<=R.length-1):(psTo D R i).length=R.length-1:=by simp [psTo,psStep_len];omega
theorem psTo_zero (D R:List (List Trm)):psTo D R 0=R.take (R.length-1):=by simp [psTo]
theorem psTo_full (D R:List (List Trm)):psTo D R (R.length-1)=psStep D R:=by
 rw [psTo,List.drop_of_length_le (by simp),List.append_nil,List.take_of_length_le (by rw [psStep_len];exact Nat.le_refl _)]
theorem psTo_get {D R:List (List Trm)} {i:Nat} (h:i<R.length-1):(psTo D R i)[i]?=some (R.getD i []):=by
 have hl:((psStep D R).take i).length=i:=by rw [List.length_take,psStep_len];omega
 rw [psTo,List.getElem?_append_right (by omega),List.getElem?_drop];rw [hl,Nat.sub_self,Nat.add_zero,List.getElem?_take,if_pos h,List.getD_eq_getElem?_getD,List.getElem?_eq_getElem (by omega)]
 rfl
theorem psTo_succ {D R:List (List Trm)} {i:Nat} (h:i<R.length-1) :
  psTo D R (i+1)=(psTo D R i).set i (if R.length-1-(D.length-1)<=i then subP (mulP (R.getD i []) (D.getD (D.length-1) [])) (mulP (R.getD (R.length-1) []) (D.getD (i-(R.length-1-(D.length-1))) [])) else mulP (R.getD i []) (D.getD (D.length-1) [])):=by
 have hl:((psStep D R).take i).length=i:=by rw [List.length_take,psStep_len];omega
 rw [psTo,psTo,List.set_append_right _ _ (by omega),hl,Nat.sub_self,List.drop_eq_getElem_cons (show i<(R.take (R.length-1)).length by simp;omega),List.set_cons_zero,List.take_add_one,List.append_assoc]
 congr 1
 have:(psStep D R)[i]?=some (if R.length-1-(D.length-1)<=i then subP (mulP (R.getD i []) (D.getD (D.length-1) [])) (mulP (R.getD (R.length-1) []) (D.getD (i-(R.length-1-(D.length-1))) [])) else mulP (R.getD i []) (D.getD (D.length-1) [])):=by
  simp [psStep,h]
 rw [this];rfl
end Q
namespace Q
open Go Go.RowKit Go.Proofs.YtopclbeomcggiaaGreat
structure MulOk (p q:List Trm):Prop where
 kp:∀ t∈p,InR t.1/\Rk t.2
 kq:∀ t∈q,InR t.1/\Rk t.2
 ko:Okl (prods p q)
 kl:p.length<=100000000/\q.length<=100000000
structure SubOk (p q:List Trm):Prop where
 kp:∀ t∈p,Rk t.2
 kq:∀ t∈q,Rk t.2
 kl:p.length<=100000000/\q.length<=100000000
 kv:Vld p/\Vld q
def PsOk (D R:List (List Trm)):Prop:=∀ i,i<R.length-1->MulOk (R.getD i []) (D.getD (D.length-1) []) /\
 (R.length-1-(D.length-1)<=i->MulOk (R.getD (R.length-1) []) (D.getD (i-(R.length-1-(D.length-1))) [])/\SubOk (mulP (R.getD i []) (D.getD (D.length-1) [])) (mulP (R.getD (R.length-1) []) (D.getD (i-(R.length-1-(D.length-1))) [])))
def PsAll (D:List (List Trm)):Nat->List (List Trm)->Prop
|0,_=>True
|f+1,R=>D.length-1<R.length->PsOk D R/\PsAll D f (psStep D R)
structure Cols (w:World) (g:Nat) (vs:List Value) (R:List (List Trm)):Prop where
 b:Blk w g polyT vs
 l:R.length<=vs.length
 p:∀ (i:Nat) v p,vs[i]?=some v->R[i]?=some p->IsPoly w v p
theorem Cols.on {w w':World} {g:Nat} {vs:List Value} {R:List (List Trm)} (h:Cols w g vs R) (hb:Below w.heap.size w w'):Cols w' g vs R :=
 ⟨h.b.on hb,h.l,fun i v p h1 h2=>(h.p i v p h1 h2).on hb⟩
theorem Cols.get {w:World} {g:Nat} {vs:List Value} {R:List (List Trm)} (h:Cols w g vs R) {i:Nat} (hi:i<R.length):∃ v,vs[i]?=some v/\IsPoly w v (R.getD i [])/\w.cell? ⟨g,i,none⟩=some v:=by
 have h1:=h.l;have hv:vs[i]?=some vs[i]:=List.getElem?_eq_getElem (by omega);refine⟨vs[i],hv,h.p i _ _ hv ?_,h.b.at1 i _ hv⟩;rw [List.getD_eq_getElem?_getD,List.getElem?_eq_getElem hi];rfl
theorem Cols.set {w:World} {g:Nat} {vs:List Value} {R:List (List Trm)} (h:Cols w g vs R) {i:Nat} (hi:i<R.length) {v:Value} {q:List Trm} (hq:IsPoly w v q) :
  Cols (w.setCell ⟨g,i,none⟩ v) g (vs.set i v) (R.set i q)/\Lr (some g) polyT w (w.setCell ⟨g,i,none⟩ v):=by
 have hl:=setCell_lr (j:=i) h.b v;refine⟨⟨h.b.set i v,by simpa using h.l,fun j u p h1 h2=>?_⟩,hl⟩;rw [List.getElem?_set] at h1 h2;by_cases hij:i=j
 ·subst hij;rw [if_pos rfl,if_pos (by have:=h.l;omega)] at h1;rw [if_pos rfl,if_pos hi] at h2;cases h1;cases h2;exact hq.lr hl (elTerm_ok (by decide)) (by decide)
 ·rw [if_neg hij] at h1 h2;exact (h.p j u p h1 h2).lr hl (elTerm_ok (by decide)) (by decide)
theorem Cols.take {w:World} {g:Nat} {vs:List Value} {R:List (List Trm)} (h:Cols w g vs R) (k:Nat):Cols w g vs (R.take k) :=
 ⟨h.b,by have:=h.l;rw [List.length_take];omega,fun i v p h1 h2=>h.p i v p h1 (by rw [List.getElem?_take] at h2;split at h2;exact h2;cases h2)⟩
theorem Cols.other {w w':World} {g h:Nat} {vs:List Value} {R:List (List Trm)} (hc:Cols w g vs R) (hl:Lr (some h) polyT w w') (hne:g≠h):Cols w' g vs R :=
 ⟨hc.b.lr hl (by simpa using hne),hc.l,fun i v p h1 h2=>(hc.p i v p h1 h2).lr hl (elTerm_ok (by decide)) (by decide)⟩
theorem Cols.polys {w:World} {g:Nat} {vs:List Value} {R:List (List Trm)} (h:Cols w g vs R):IsPolys w (.slice (some ⟨g,0,none⟩) R.length vs.length) R:=by
 refine⟨_,_,vs.take R.length,rfl,h.l,fun _=>⟨g,0,rfl,h.b.cells.take _⟩,elems_polys (by rw [List.length_take];have:=h.l;omega) fun n v l h1 h2=>?_⟩;rw [List.getElem?_take] at h1;split at h1
 ·exact h.p n v l h1 h2
 ·cases h1
end Q
namespace Go.Proofs.YtopclbeomcggiaaGreat
open Go Go.RowKit Q Go.Proofs.YtopclbeomcggiaaGreat
theorem Rows1.cols {w:World} {g base:Nat} {vs:List Value} {L:List (List Trm)} (h:Rows1 base w vs L) (hB:Blk w g polyT vs):Cols w g vs L :=
 ⟨hB,by rw [h.len];exact Nat.le_refl _,fun i v p h1 h2=>(h.own i v p h1 h2).isSl⟩
end Go.Proofs.YtopclbeomcggiaaGreat
namespace Q
open Go Go.RowKit Go.Proofs.YtopclbeomcggiaaGreat
end Q
namespace Q
open Go Go.RowKit
theorem wpList_slice_hi {P:Program} {w:World} {ops:Array Oper} {rest:List Oper} {o:Oper} {a:Act} {Q:Exit->Act->World->Prop} (hg:o.guard=none) (x hi:Operand) (t:TypeId) (hop:o.op=Op.slice t x none (some hi) none) {el:TypeId} (ht:P.underlying t=some (.slice el)) {size:Nat} (hs:(P.info? el).map (·.size)=some size)
  (ao:Option Addr) (n c:Nat) (hx:a.eval x=.slice ao n c) (k:IntKind) (i:Int) (hix:a.eval hi=.int k i) (j:Nat) (hij:i=(j:Int)) (hj:j<=c) (h:wpList P ops Q rest (a.put o.dst (.slice ao j c)) w):wpList P ops Q (o::rest) a w:=by
 refine wpList_plain hg fun K hK=>?_;have hrun:=run_slice_high ht hs w ao n c j k i hij hj;unfold Oper.wp;rw [execOp_slice hop (by simp only [Option.map_some,Option.map_none];rw [hx,hix];exact hrun)];exact hK _ _ h
end Q
namespace Go.Proofs.YtopclbeomcggiaaGreat
open Go.RowKit Q Go.WideMaps Go.Maps
def RetPolyE (w:World) (l:List Trm) (c:Int) (e:Ending) (w':World):Prop:=∃ v,e=.returned (.tuple #[v,.int .i64 c])/\IsPoly w' v l/\Below w.heap.size w w'
theorem pseudo_any (vp vq:Value) (p q:List Trm) (v:Nat) (w:World) (hp:IsPoly w vp p) (hq:IsPoly w vq q) (hv:v<4) (hne:q≠[]) (np:NatL p) (nq:NatL q) (dp:degP p v<=100000) (dq:degP q v<=100000) (lp:p.length<=100000000) (lq:q.length<=100000000)
  (hps:PsAll (coeffsP q v) (coeffsP p v).length (coeffsP p v)) (hok:Okl (fromL v 0 (psRun (coeffsP q v) (coeffsP p v).length (coeffsP p v)))) (hl2:∀ c∈psRun (coeffsP q v) (coeffsP p v).length (coeffsP p v),c.length<=100000000) :
  Calls Tryz.prog 94 #[vp,vq,.int .i64 v] w (RetPolyE w (fromP (psRun (coeffsP q v) (coeffsP p v).length (coeffsP p v)) v) 0):=by
 have hD:=fun W (hb:Below w.heap.size w W)=>coeffs_own vq q v W (hq.on hb) hv nq (by omega) lq;have hR:=fun W (hb:Below w.heap.size w W)=>coeffs_own vp p v W (hp.on hb) hv np (by omega) lp;obtain⟨aq,cq,rfl,hcq⟩:=hq.shape;have hql:0<q.length:=List.length_pos_iff.2 hne
 have hDl:1<=(coeffsP q v).length/\(coeffsP q v).length<=100001:=by
  rw [coeffsP_length];obtain⟨t,ht⟩:=List.exists_mem_of_ne_nil _ hne;have:=degP_le ht v;have:=Ex.nat_get (nq t ht) v;omega
 have hRl:(coeffsP p v).length<=100001:=by rw [coeffsP_length];have:=degP_ge p v;omega
 have hq0:((q.length:Int) == 0)=false:=by simp;omega
 generalize coeffsP q v=D at *;generalize coeffsP p v=R0 at *;obtain⟨RES,hRES⟩:∃ RES,psRun D R0.length R0=RES:=⟨_,rfl⟩;rw [hRES] at hok hl2 ⊢
 have hRESl:RES.length<=100001:=by
  have:∀ f R,(psRun D f R).length<=R.length:=by
   intro f
   induction f with
  |zero=>intro R;exact Nat.le_refl _
  |succ f ih=>intro R;unfold psRun;split;exact Nat.le_trans (ih _) (by rw [psStep_len];omega);exact Nat.le_refl _
  have:=this R0.length R0;rw [hRES] at this;omega
 replace hok:=zH hok;replace hl2:=zH hl2;obtain⟨f0,hf0⟩:∃ f0,f0=R0.length:=⟨_,rfl⟩;rw [<- hf0] at hRES hps;have hfl:R0.length<=D.length - 1+f0:=by omega
 replace hRES:=zH hRES;replace hps:=zH hps;have hnD:((D.length:Int)-1)=((D.length-1:Nat):Int):=by omega
 clear hne hp hq np nq dp dq lp lq hf0
 go_enter Tryz.func94,Tryz.ntmps94
 go_upto_region 4 with (go_at_call 62;refine (hD _ (Below.refl _ _)).mono ?_;rintro en w1 ⟨gd,vd,rfl,hBd,hgd,hRd,hb1⟩)
 have hcD:=hRd.cols hBd;have hvdl:=hRd.len;clear hBd hRd hgd;rw [hvdl]
 go_upto_region 6 with (go_at_call 62;refine (hR _ hb1).mono ?_;rintro en w2 ⟨g,vs,rfl,hB,hg,hRr,hb2⟩)
 have hb12:=hb1.trans (hb2.mono hb1.size);have hc0:=hRr.cols hB;have hcD2:=hcD.on hb2;have hgD:gd<g:=by have:=hcD.b.lt;omega
 have hgw:w.heap.size<=g:=by have:=hb1.size;omega
 have hvl:=hRr.len;have hst:Hid (Cols w2 g vs R0/\vs.length=R0.length/\psRun D f0 R0=RES/\PsAll D f0 R0/\R0.length<=D.length-1+f0):=zH ⟨hc0,hvl,hRES.out,hps.out,hfl⟩;rw [hvl];replace hst:=hst.out;clear hRES hps hB hRr hD hR hcD hc0 hb1 hb2 hg hvl
 go_loopg [10] f0 (fun f v10 wr=>∃ (R:List (List Trm)) (vs:List Value),v10=.slice (some ⟨g,0,none⟩) R.length R0.length/\Hid (Cols wr g vs R)/\vs.length=R0.length/\Hid (psRun D f R=RES)/\Hid (PsAll D f R)/\R.length<=D.length-1+f/\R.length<=R0.length/\Hid (Cols wr gd vd D)/\Below w.heap.size w wr)
 case atStart=>exact⟨R0,vs,rfl,zH hst.1,hst.2.1,zH hst.2.2.1,zH hst.2.2.2.1,hst.2.2.2.2,by omega,zH hcD2,hb12⟩
 case round =>
  clear hst hcD2 hb12;obtain⟨R,vs,rfl,hc,hvl,hrun,hps,hfl,hRc,hcD,hbr⟩:=hrel;by_cases hlt:D.length - 1<R.length
  ·obtain⟨f',rfl⟩:∃ f',gk=f'+1:=⟨gk - 1,by omega⟩;have hrun':Hid (psRun D f' (psStep D R)=RES):=zH (by rw [<- hrun.out,psRun,if_pos hlt]);have hps':=hps.out hlt;have hpo:=zH hps'.1;have hpa:=zH hps'.2;obtain⟨vt,hvt,hPt,hct⟩:=hc.out.get (i:=R.length - 1) (by omega);have hlast:((R.length:Int) - 1)=((R.length - 1:Nat):Int):=by omega
   have hlt':((D.length-1:Nat):Int)<(R.length:Int):=by omega
   have hsli:=fun W':World=>run_slice_high (P:=Tryz.prog) Tryz.underlying75 info38 W' (some ⟨g,0,none⟩) R.length R0.length (R.length-1) .i64 ((R.length-1:Nat):Int) rfl (by omega);have hct2:=(hc.out.take (R.length-1));rw [<- psTo_zero D R] at hct2;replace hct2:=zH hct2;have hpt:=zH hPt;have hR1:R.length<=100001:=by omega
   clear hrun hps hps' hvt hPt hc
   go_upto_region 9 with (first
   |(refine wpList_index_at rfl _ _ 75 rfl polyT Tryz.underlying75 _ 1 24 (by kernel_rfl) _ _ _ rfl .i64 _ rfl (R.length-1) (by omega) (by omega) g 0 rfl ?_;rw [Nat.mul_one,Nat.zero_add])
   |(refine wpList_slice_hi rfl _ _ 75 rfl Tryz.underlying75 info38 _ _ _ rfl .i64 _ rfl (R.length-1) (by omega) (by omega) ?_))
   clear hct hsli;go_wp2
   go_loopw [43] (fun i wr=>∃ (k:Nat) (vs:List Value),k<=R.length-1/\i=.int .i64 k/\Hid (Cols wr g vs (psTo D R k))/\vs.length=R0.length/\Hid (IsPoly wr vt (R.getD (R.length-1) []))/\Hid (Cols wr gd vd D)/\Below w.heap.size w wr) (fun i _=>R.length-1-(intOf i).toNat)
   case atStart=>exact⟨0,vs,by omega,by go_num,hct2,hvl,hpt,hcD,hbr⟩
   case round =>
    clear hct2 hpt hcD hbr hvl;obtain⟨k,vs,hk,rfl,hc,hvl,hpt,hcD,hbr⟩:=hrel;by_cases hkl:k<R.length - 1
    ·have hkl':(k:Int)<((R.length-1:Nat):Int):=by omega
     have hlen:(psTo D R k).length=R.length - 1:=psTo_len (by omega);obtain⟨vk,hvk,-,hck⟩:=hc.out.get (i:=k) (by omega);have hPk:IsPoly wr vk (R.getD k []):=hc.out.p k _ _ hvk (psTo_get hkl);obtain⟨vn,hvn,hPn,hcn⟩:=hcD.out.get (i:=D.length - 1) (by omega);obtain⟨mo,mo2⟩:=hpo.out k hkl;have hsucc:=psTo_succ (D:=D) hkl;replace hsucc:=zH hsucc;replace mo2:=zH mo2;have hgl:g<wr.heap.size:=hc.out.b.lt;have hgdl:gd<wr.heap.size:=hcD.out.b.lt;have f1:∀ W,Below wr.heap.size wr W->W.cell? ⟨g,k,none⟩=some vk:=fun W h=>by rw [h.cell hgl];exact hck
     have f2:∀ W,Below wr.heap.size wr W->W.cell? ⟨gd,D.length-1,none⟩=some vn:=fun W h=>by rw [h.cell hgdl];exact hcn
     clear hck hcn
     go_upto_region 12 with (fail)
     refine wp_region_L mixed (none) (0) (Okr.none) [.eq (.slice (some ⟨g,0,none⟩) (R.length-1) R0.length),.eq (.int .i64 k),.eq (.slice (some ⟨g,0,none⟩) (R.length-1) R0.length),.eq (.int .i64 k),.eq (.pointer (some ⟨g,0+k*1,none⟩)),.eq (vk),.eq (.slice (some ⟨gd,0,none⟩) D.length D.length),.eq (.int .i64 (D.length-1:Nat)),.eq (.pointer (some ⟨gd,0+(D.length-1)*1,none⟩)),.eq (vn),.poly (by decide) (by decide) ((mulP (R.getD k []) (D.getD (D.length-1) []))),.eq (.pointer (some ⟨g,0+k*1,none⟩))] [46,47,48,49,50,51,52,53,54,55,56,57] rfl rfl rfl rfl ⟨?_,?_,?_,?_,?_,?_,?_,?_,?_,?_,?_,?_,trivial⟩ ?_
     ·exact fun _ _ a _ _ _=>xM rfl (a 10 rfl)
     ·exact fun _ _ a _ _ _=>xM rfl (a 12 rfl)
     ·exact fun _ _ a _ _ _=>xM rfl (a 10 rfl)
     ·exact fun _ _ a _ _ _=>xM rfl (a 12 rfl)
     ·exact fun _ _ _ _ _ e=>pI rfl Tryz.underlying75 g 0 k (hkl) (e.1 rfl) (e.2.1 rfl)
     ·intro A w1 hA hL hS he;have h50:=eT 50 (he.1 rfl);refine goOn_plain rfl ?_;have c0:=f1 w1 hL.below;exact stepG_pure rfl rfl gZ
     ·exact fun _ _ a _ _ _=>xM rfl (a 8 rfl)
     ·exact fun _ _ a _ _ _=>xM rfl (a 9 rfl)
     ·exact fun _ _ _ _ _ e=>pI rfl Tryz.underlying75 gd 0 (D.length-1) (by omega) (e.1 rfl) (e.2.1 rfl)
     ·intro A w1 hA hL hS he;have h54:=eT 54 (he.1 rfl);refine goOn_plain rfl ?_;have c0:=f2 w1 hL.below;exact stepG_pure rfl rfl gZ
     ·intro A w1 hA hL hS he;have hb:=hS rfl;have h51:=eT 51 (he.1 rfl);have h55:=eT 55 (he.2.1 rfl);have hf0:=eF A 54;exact cP (f:=54) (args:=#[vk,vn]) (mul_pp _ _ _ _ _ (hPk.on hb) (hPn.on hb) mo.kp mo.kq mo.ko mo.kl.1 mo.kl.2)
     ·exact fun _ _ _ _ _ e=>pI rfl Tryz.underlying75 g 0 k (hkl) (e.1 rfl) (e.2.1 rfl)
     ·intro W2 hL2;have hb2:=hL2.below;simp only [TailL,FactL.eq,FactL.poly,FactL.of,lZ];rintro v56 h56;go_frame;have hc2:=hc.out.on hb2;have hcD2:=hcD.out.on hb2;have hpt2:=hpt.out.on hb2;have hbr2:=hbr.trans (hb2.mono hbr.size);have z:=hc2.b.at1 k _ hvk;have hf:=hc2.b.frozen k;have hkT:k<(psTo D R k).length:=by omega
      obtain⟨hc3,hl3⟩:=hc2.set hkT h56;have hcD3:Cols (W2.setCell ⟨g,k,none⟩ v56) gd vd D:=hcD2.other hl3 (by omega);have hpt3:=hpt2.lr hl3 (elTerm_ok (by decide)) (by decide);have hbr3:=hbr2.trans (hl3.belowAt hbr2.size (fun k hk=>by cases hk;exact hgw));have h563:=h56.lr hl3 (elTerm_ok (by decide)) (by decide);obtain⟨a56,c56,hs56,-⟩:=h56.shape;subst hs56;clear f1 f2 hPk hPn hL2 hc hcD hpt hb2 hbr hc2 hcD2 hpt2 hbr2 hvk hvn h56 mo;generalize mulP (R.getD k []) (D.getD (D.length - 1) [])=A at *;have hR2:R.length - 1<=100000:=by omega
      have hD2:D.length-1<=100000:=by omega
      by_cases hge:R.length-1-(D.length-1)<=k
      ·obtain⟨mo2a,so⟩:=mo2.out hge;have hki:(0:Int)<=(k:Int) - (((R.length - 1:Nat):Int) - ((D.length - 1:Nat):Int)):=by omega
       obtain⟨j,hj⟩:∃ j,j=k - (R.length - 1 - (D.length - 1)):=⟨_,rfl⟩;have hji:(k:Int) - (((R.length - 1:Nat):Int) - ((D.length - 1:Nat):Int))=(j:Int):=by omega
       replace hj:=zH hj
       go_upto_region 15 with (fail)
       have hlenT:((psTo D R k).set k A).length=R.length-1:=by simpa using hlen
       have hjD:j<D.length:=by omega
       rw [<- hj.out] at mo2a so;obtain⟨vj,hvj,hPj,hcj⟩:=hcD3.get (i:=j) hjD;obtain⟨W3,hW3⟩:∃ W3,W3=W2.setCell ⟨g,k,none⟩ (.slice a56 A.length c56):=⟨_,rfl⟩;rw [<- hW3] at hc3 hcD3 hpt3 hbr3 h563 hPj hcj ⊢;have hkT3:k<((psTo D R k).set k A).length:=by omega
       have hck3:W3.cell? ⟨g,k,none⟩=some (.slice a56 A.length c56):=hc3.b.at1 k _ (by rw [List.getElem?_set,if_pos rfl,if_pos (by have:=hc3.l;simp at this;omega)]);have hgl3:g<W3.heap.size:=hc3.b.lt;have hgdl3:gd<W3.heap.size:=hcD3.b.lt;have e1:∀ W,Below W3.heap.size W3 W->W.cell? ⟨g,k,none⟩=some (.slice a56 A.length c56):=fun W h=>by rw [h.cell hgl3];exact hck3
       have e2:∀ W,Below W3.heap.size W3 W->W.cell? ⟨gd,j,none⟩=some vj:=fun W h=>by rw [h.cell hgdl3];exact hcj
       generalize hvv:Value.slice a56 A.length c56=vv at *;clear hW3 hl3 z hf hck3 hcj hki hvv;rw [if_pos hge,<- hj.out] at hsucc;refine wp_region_L mixed (none) (0) (Okr.none) [.eq (.slice (some ⟨g,0,none⟩) (R.length-1) R0.length),.eq (.int .i64 k),.eq (.slice (some ⟨g,0,none⟩) (R.length-1) R0.length),.eq (.int .i64 k),.eq (.pointer (some ⟨g,0+k*1,none⟩)),.eq (vv),.eq (vt),.eq (.slice (some ⟨gd,0,none⟩) D.length D.length),.eq (.int .i64 j),.eq (.pointer (some ⟨gd,0+j*1,none⟩)),.eq (vj),.poly (by decide) (by decide) ((mulP (R.getD (R.length-1) []) (D.getD j []))),.poly (by decide) (by decide) ((subP A (mulP (R.getD (R.length-1) []) (D.getD j [])))),.eq (.pointer (some ⟨g,0+k*1,none⟩))] [66,67,68,69,70,71,72,73,74,75,76,77,78,79] rfl rfl rfl rfl ⟨?_,?_,?_,?_,?_,?_,?_,?_,?_,?_,?_,?_,?_,?_,trivial⟩ ?_
       ·exact fun _ _ a _ _ _=>xM rfl (a 10 rfl)
       ·exact fun _ _ a _ _ _=>xM rfl (a 12 rfl)
       ·exact fun _ _ a _ _ _=>xM rfl (a 10 rfl)
       ·exact fun _ _ a _ _ _=>xM rfl (a 12 rfl)
       ·exact fun _ _ _ _ _ e=>pI rfl Tryz.underlying75 g 0 k (hkl) (e.1 rfl) (e.2.1 rfl)
       ·intro A w1 hA hL hS he;have h70:=eT 70 (he.1 rfl);refine goOn_plain rfl ?_;have c0:=e1 w1 hL.below;exact stepG_pure rfl rfl gZ
       ·exact fun _ _ a _ _ _=>xM rfl (a 11 rfl)
       ·exact fun _ _ a _ _ _=>xM rfl (a 8 rfl)
       ·exact fun _ _ a _ _ _=>xM rfl (a 13 rfl)
       ·exact fun _ _ _ _ _ e=>pI rfl Tryz.underlying75 gd 0 j (hjD) (e.1 rfl) (e.2.1 rfl)
       ·intro A w1 hA hL hS he;have h75:=eT 75 (he.1 rfl);refine goOn_plain rfl ?_;have c0:=e2 w1 hL.below;exact stepG_pure rfl rfl gZ
       ·intro A w1 hA hL hS he;have hb:=hS rfl;have h72:=eT 72 (he.1 rfl);have h76:=eT 76 (he.2.1 rfl);have hf0:=eF A 54;exact cP (f:=54) (args:=#[vt,vj]) (mul_pp _ _ _ _ _ (hpt3.on hb) (hPj.on hb) mo2a.kp mo2a.kq mo2a.ko mo2a.kl.1 mo2a.kl.2)
       ·intro A w1 hA hL hS he;have hb:=hS rfl;have h71:=eT 71 (he.1 rfl);obtain⟨v77,h77,f77⟩:=fT 77 (he.2.1 rfl);have hf0:=eF A 74;exact cP (f:=74) (args:=#[vv,v77]) (sub_any _ _ _ _ _ (h563.on hb) f77 so.kp so.kq so.kl.1 so.kl.2 so.kv.1 so.kv.2)
       ·exact fun _ _ _ _ _ e=>pI rfl Tryz.underlying75 g 0 k (hkl) (e.1 rfl) (e.2.1 rfl)
       ·intro W5 hL5;have hb5:=hL5.below;simp only [TailL,FactL.eq,FactL.poly,FactL.of,lZ];rintro v77 - v78 h78;generalize subP A (mulP (R.getD (R.length - 1) []) (D.getD j []))=A2 at h78 hsucc;go_frame;have hc5:=hc3.on hb5;have hcD5:=hcD3.on hb5;have hpt5:=hpt3.on hb5;have hbr5:=hbr3.trans (hb5.mono hbr3.size);obtain⟨vq,hvq,-,z5⟩:=hc5.get (i:=k) hkT3;have hf5:=hc5.b.frozen k;obtain⟨hc6,hl6⟩:=hc5.set hkT3 h78;have hcD6:=hcD5.other hl6 (by omega);have hpt6:=hpt5.lr hl6 (elTerm_ok (by decide)) (by decide);have hbr6:=hbr5.trans (hl6.belowAt hbr5.size (fun k hk=>by cases hk;exact hgw));obtain⟨a78,c78,hs78,-⟩:=h78.shape;subst hs78;rw [show ((psTo D R k).set k A).set k A2=psTo D R (k+1) by rw [hsucc.out];simp] at hc6;clear hc3 hcD3 hpt3 hbr3 h563 hPj e1 e2 hL5 hc5 hcD5 hpt5 hbr5 hvq h78;go_wp2;go_roundw
        case rel=>exact⟨k+1,_,by omega,by go_num,zH hc6,by simpa using hvl,zH hpt6,zH hcD6,hbr6⟩
        case measure=>simp [intOf];omega
      ·have hki:¬ (0:Int)<=(k:Int)-(((R.length-1:Nat):Int)-((D.length-1:Nat):Int)):=by omega
       rw [if_neg hge] at hsucc;go_wp2;go_roundw
       case rel=>exact⟨k+1,_,by omega,by go_num,zH (by rw [hsucc.out];exact hc3),by simpa using hvl,zH hpt3,zH hcD3,hbr3⟩
       case measure=>simp [intOf];omega
    ·obtain rfl:k=R.length - 1:=by omega
     rw [psTo_full] at hc;have hsl:=psStep_len D R;go_wp2;go_roundg f'
     case measure=>omega
     case rel=>exact⟨psStep D R,vs,by rw [hsl],hc,hvl,hrun',hpa,by omega,by omega,hcD,hbr⟩
  ·have hfin:RES=R:=by
    have:=hrun.out
    cases gk with
   |zero=>exact this.symm
   |succ f=>rw [psRun,if_neg hlt] at this;exact this.symm
   have hlt':¬ ((D.length-1:Nat):Int)<(R.length:Int):=by omega
   have hPs:=hc.out.polys;rw [hvl] at hPs;have hfr:=fun W (hb:Below wr.heap.size wr W)=>from_any _ R v W (hPs.on hb) hv (by rw [<- hfin];exact hok.out) (by omega) (by rw [<- hfin];exact hl2.out);replace hfin:=zH hfin;clear hrun hps hc hcD hok hl2
   go_wp2_with (go_at_call 120;refine (hfr _ (Below.refl _ _)).mono ?_;rintro en w5 ⟨v5,rfl,hv5,hb5⟩)
   go_ret2;exact⟨_,rfl,by rw [hfin.out];exact hv5,hbr.trans (hb5.mono hbr.size)⟩
end Go.Proofs.YtopclbeomcggiaaGreat
end
section
namespace Q
def timesP (p:List Trm) (m:Trm):List Trm:=if m.2=0 then [] else p.map fun s=>mulT s m
def addTo (e f:Ex):Nat->Ex
|0=>e
|k+1=>(addTo e f k).put k (e.get k+f.get k)
theorem addTo_full (e f:Ex):addTo e f 4=e.add f:=rfl
theorem addTo_get (e f:Ex) (k:Nat) (h:k<4):(addTo e f k).get k=e.get k:=by
 obtain rfl|rfl|rfl|rfl:k=0\/k=1\/k=2\/k=3:=by omega
 all_goals rfl
theorem addX (m g:Ex) (v:Nat) (h:v<4):(Ex.add m g).get v=m.get v+g.get v:=by
 obtain rfl|rfl|rfl|rfl:v=0\/v=1\/v=2\/v=3:=by omega
 all_goals rfl
theorem Vld.times {p:List Trm} {m:Trm} (h:Vld p) (hm:m.1.nat=true):Vld (timesP p m):=by
 unfold timesP;split
 ·exact Vld.nil
 ·rename_i hz;refine⟨h.1.map fun s _ t _ hst=>?_,fun t ht=>?_⟩
  ·show (s.1.add m.1).gt (t.1.add m.1)=true;rw [Ex.add_comm s.1,Ex.add_comm t.1,Ex.gt_add];exact hst
  ·obtain⟨s,hs,rfl⟩:=List.mem_map.1 ht;exact⟨rmul_ne (h.2 s hs).1 hz,Ex.nat_add (h.2 s hs).2 hm⟩
theorem ev_times (x:Pt) {p:List Trm} (h:NatL p) {m:Trm} (hm:m.1.nat=true):ev x (timesP p m)=ev x p*(m.2*mon x m.1):=by
 unfold timesP;split
 ·rename_i hz;rw [hz,ev_nil];grind
 ·induction p with
 |nil=>rw [List.map_nil,ev_nil];grind
 |cons s p ih =>
   rw [List.map_cons,ev_cons,ev_cons,ih h.tail];simp only [mulT];rw [mon_add x h.head hm];grind
end Q
namespace Go.Proofs.YtopclbeomcggiaaGreat
open Go.RowKit Q Go.WideMaps Go.Maps
theorem exC_ones (e:Ex):(exC e).toArray.all (·.oneCell')=true:=by
 rw [Array.all_eq_true_iff_forall_mem];intro v hv;exact exC_one e v (by simpa using hv)
theorem exC_at' (e:Ex) (v:Nat) (hv:v<4):(exC e)[v]?=some (.int .i64 (e.get v)):=by
 obtain rfl|rfl|rfl|rfl:v=0\/v=1\/v=2\/v=3:=by omega
 all_goals rfl
theorem exC_set' (e:Ex) (v:Nat) (hv:v<4) (x:Int):(exC e).set v (.int .i64 x)=exC (e.put v x):=by
 obtain rfl|rfl|rfl|rfl:v=0\/v=1\/v=2\/v=3:=by omega
 all_goals rfl
theorem times7_any (vp:Value) (p:List Trm) (cs:List Value) (m:Trm) (w:World) (hp:IsPoly w vp p) (hm:IsTerm w cs m) (rp:∀ t∈p,Rs t.2) (rm:Rs m.2) (hin:∀ t∈p,InR (t.1.add m.1)) (lp:p.length<=100000000) :
  Calls Tryz.prog 44 #[vp,.agg cs.toArray] w (RetPoly w (timesP p m)):=by
 obtain⟨ap,cp,rfl,hcp⟩:=hp.shape;obtain⟨r,rfl,hr⟩:=hm;have h4:=hr.len;replace rp:=zH rp;replace hin:=zH hin;obtain⟨R,hR⟩:∃ R,R=timesP p m:=⟨_,rfl⟩;rw [<- hR];replace hR:=zH hR
 go_enter Tryz.func44,Tryz.ntmps44
 go_upto_region 1 with (fail)
 refine abs1 fun W hb0 B hsz=>?_;go_wp2;have hba:Below W.heap.size W (W.alloc (.cells #[] monoT)):=(Below.refl _ _).alloc (Nat.le_refl _) _;have hown0:=own_lit0' elTerm (w:=W) (base:=w.heap.size+1) B.lt;have hbW:=hb0.trans (hba.mono hb0.size);have B0:=B.on hba;change OwnPoly (w.heap.size+1) (W.alloc (.cells #[] 43)) _ _ at hown0;change Below w.heap.size w (W.alloc (.cells #[] 43)) at hbW;change Blk (W.alloc (.cells #[] 43)) _ _ _ at B0;clear hba B hb0;replace hp:=zH hp
 go_loopw [5,6] (fun o vi wr=>∃ k:Nat,vi=.int .i64 k/\k<=p.length/\Hid (m.2=0->k=0)/\Hid (OwnPoly (w.heap.size+1) wr o ((p.take k).map fun s=>mulT s m))/\Hid (Blk wr w.heap.size monoT (exC m.1++r))/\Below w.heap.size w wr) (fun _ vi _=>p.length-(intOf vi).toNat)
 case atStart=>exact⟨0,rfl,by omega,zH (fun _=>rfl),zH hown0,zH B0,hbW⟩
 case round =>
  clear hown0 B0 hbW hsz;obtain⟨k,rfl,hk,hz0,hown,hB,hbr⟩:=hrel;by_cases hkl:k<p.length
  ·have hkl':(k:Int)<(p.length:Int):=by omega
   have BB:=hB.out;have hsgn:=fun W (hb:Below wr.heap.size wr W)=>sign2_any _ _ W (hr.on (hbr.trans (hb.mono hbr.size))).rat;have hjq:p[k]?=some p[k]:=List.getElem?_eq_getElem hkl;generalize p[k]=s at hjq;obtain⟨ba,oa,ra,rfl,hra,hCa⟩:=cell_term hp.out hjq;have hla:=hra.len
   go_upto_region 3 with (fail)
   by_cases hz:m.2=0
   ·have hk0:=hz0.out hz;have hs0:sgnZ m.2.num=0:=by rw [hz];rfl
    rw [hs0] at hsgn;replace hk0:=zH hk0;refine wp_region_S trivial (none) (0) (Okr.none) [.eq (.int .i64 k),.eq (.slice (some ⟨ba,oa,none⟩) p.length cp),.eq (.int .i64 p.length),.eq (.bool true),.eq (.bool true),.eq (.pointer (some ⟨w.heap.size,0+4,none⟩)),.eq (.agg (r).toArray),.ret (.int .i64 0),.eq (.bool false),.eq (.bool false)] [10,11,12,13,14,15,16,17,18,19] rfl rfl rfl rfl ⟨?_,?_,?_,?_,?_,?_,?_,?_,?_,?_,trivial⟩ ?_
    ·exact fun _ _ a _ _ _=>xM rfl (a 6 rfl)
    ·exact fun _ _ a _ _ _=>xM rfl (a 0 rfl)
    ·intro A w1 hA hL hS he;have h11:=eT 11 (he.1 rfl);exact pZ rfl
    ·intro A w1 hA hL hS he;have h10:=eT 10 (he.1 rfl);have h12:=eT 12 (he.2.1 rfl);exact pZ rfl
    ·exact fun _ _ _ _ _ e=>xM rfl (e.1 rfl)
    ·exact fun _ _ a _ _ e=>goOn_yes rfl rfl (e.1 rfl) (xF1 rfl (a 3 rfl))
    ·exact fun _ _ _ hL _ e=>goOn_yes rfl rfl (e.2.1 rfl) (xL rfl (blk_rat (BB.on hL.below)) Tryz.underlying41 (h4) (e.1 rfl))
    ·intro A w1 hA hL hS he;have hb:=hS rfl;have h14:=eT 14 (he.2.1 rfl);have h16:=eT 16 (he.1 rfl);have hf0:=eF A 67;refine goOn_yes rfl rfl h14 ?_;refine stepG_call (f:=67) (args:=#[.agg (r).toArray]) rfl rfl ?_ ?_
     ·exact gZ
     ·refine (hsgn _ hb).mono ?_;rintro e w' ⟨rfl,hb'⟩;exact⟨_,rfl,hb',rfl⟩
    ·intro A w1 hA hL hS he;have h14:=eT 14 (he.2.1 rfl);have h17:=eT 17 (he.1 rfl);have hc0:=eC A (.int .i64 0);exact yZ h14 rfl
    ·exact fun _ _ _ _ _ e=>pK rfl (e.1 rfl) (e.2.1 rfl)
    ·intro W2 hL2;simp only [TailL,FactL.eq,FactL.ret,lZ];go_frame;go_wp2;go_ret;refine⟨_,rfl,?_,hbr.trans (hL2.below.mono hbr.size)⟩;have:=(hown.out.on hL2.below).isSl;rw [hk0.out] at this;rw [hR.out,timesP,if_pos hz];simpa using this
   ·have hs0:=sgnZ_ne hz;generalize sgnZ m.2.num=sg at hs0 hsgn;have hs1:(sg != 0)=true:=by simpa using hs0
    refine wp_region_S trivial (none) (0) (Okr.none) [.eq (.int .i64 k),.eq (.slice (some ⟨ba,oa,none⟩) p.length cp),.eq (.int .i64 p.length),.eq (.bool true),.eq (.bool true),.eq (.pointer (some ⟨w.heap.size,0+4,none⟩)),.eq (.agg (r).toArray),.ret (.int .i64 sg),.eq (.bool true),.eq (.bool true)] [10,11,12,13,14,15,16,17,18,19] rfl rfl rfl rfl ⟨?_,?_,?_,?_,?_,?_,?_,?_,?_,?_,trivial⟩ ?_
    ·exact fun _ _ a _ _ _=>xM rfl (a 6 rfl)
    ·exact fun _ _ a _ _ _=>xM rfl (a 0 rfl)
    ·intro A w1 hA hL hS he;have h11:=eT 11 (he.1 rfl);exact pZ rfl
    ·intro A w1 hA hL hS he;have h10:=eT 10 (he.1 rfl);have h12:=eT 12 (he.2.1 rfl);exact pZ rfl
    ·exact fun _ _ _ _ _ e=>xM rfl (e.1 rfl)
    ·exact fun _ _ a _ _ e=>goOn_yes rfl rfl (e.1 rfl) (xF1 rfl (a 3 rfl))
    ·exact fun _ _ _ hL _ e=>goOn_yes rfl rfl (e.2.1 rfl) (xL rfl (blk_rat (BB.on hL.below)) Tryz.underlying41 (h4) (e.1 rfl))
    ·intro A w1 hA hL hS he;have hb:=hS rfl;have h14:=eT 14 (he.2.1 rfl);have h16:=eT 16 (he.1 rfl);have hf0:=eF A 67;refine goOn_yes rfl rfl h14 ?_;refine stepG_call (f:=67) (args:=#[.agg (r).toArray]) rfl rfl ?_ ?_
     ·exact gZ
     ·refine (hsgn _ hb).mono ?_;rintro e w' ⟨rfl,hb'⟩;exact⟨_,rfl,hb',rfl⟩
    ·intro A w1 hA hL hS he;have h14:=eT 14 (he.2.1 rfl);have h17:=eT 17 (he.1 rfl);have hc0:=eC A (.int .i64 0);exact yZ h14 rfl
    ·exact fun _ _ _ _ _ e=>pK rfl (e.1 rfl) (e.2.1 rfl)
    ·intro W2 hL2;simp only [TailL,FactL.eq,FactL.ret,lZ];go_frame;have hown2:=hown.out.on hL2.below;have BB2:=BB.on hL2.below;have hbr2:=hbr.trans (hL2.below.mono hbr.size);clear hsgn hL2 BB hown hB hbr hs0 hs1
     go_upto_region 5 with (fail)
     refine wp_region_S trivial (none) (0) (Okr.none) [.eq (.slice (some ⟨ba,oa,none⟩) p.length cp),.eq (.int .i64 k),.eq (.pointer (some ⟨ba,oa+k*8,none⟩)),.eq (.pointer (some ⟨ba,oa+k*8,none⟩)),.eq (.agg (exC s.1).toArray),.box 36 W2.heap.size [.int .i64 0,.int .i64 0,.int .i64 0,.int .i64 0]] [22,23,24,25,26,7] rfl rfl rfl rfl ⟨?_,?_,?_,?_,?_,?_,trivial⟩ ?_
     ·exact fun _ _ a _ _ _=>xM rfl (a 0 rfl)
     ·exact fun _ _ a _ _ _=>xM rfl (a 6 rfl)
     ·exact fun _ _ _ _ _ e=>pI rfl Tryz.underlying27 ba oa k (hkl) (e.1 rfl) (e.2.1 rfl)
     ·exact fun _ _ _ _ _ e=>goOn_plain rfl (xF0 rfl (e.1 rfl))
     ·intro A w1 hA hL hS he;have hb:=hL.below;have hbw:Below w.heap.size w w1:=hbr2.trans (hb.mono hbr2.size);exact pL rfl (cells_ex (hCa.on hbw)) Tryz.underlying36 (show (exC s.1).length=4 from rfl) (he.1 rfl)
     ·intro A w1 hA hL hS he;refine goOn_plain rfl ?_;refine stepG_box rfl rfl ((Okr.none).lr hL) hL.1.size (by generalize A.eval=ev at *;go_simp) (fun _ _ h=>h)
     ·intro W3 hL3;have hb3:=hL3.below;simp only [TailL,FactL.eq,FactL.box,FactL.of,lZ];rintro v7 ⟨x,-,hBx,rfl,B7⟩;go_frame;have hown3:=hown2.on hb3;have BB3:=BB2.on hb3;have hbr3:=hbr2.trans (hb3.mono hbr2.size);have hxw:w.heap.size<x:=by have:=BB2.lt;omega
      clear hL3 hb3 hown2 BB2
      go_upto_region 6 with (refine wpList_store_blk rfl _ (.tmp 7) (.tmp 26) rfl _ _ _ _ rfl rfl B7 rfl (by kernel_rfl) (exC_ones _) ?_;intro W4 R4 gr4)
      have hl4:Lr (some x) 36 W3 W4:=⟨gr4,fun k hk=>by cases hk;exact⟨B7.noOther,R4.noOther⟩⟩
      have hxo:u5.ownBlock≠some x:=by
       intro h;have h1:=(hown3.okr x h).2;exact absurd (h1 _ _ _ B7) (by decide)
      have hown4:=hown3.lr hl4 (elTerm_ok (by decide)) (.inr hxo);have BB4:=BB3.lr hl4 (by simp;omega);have hbr4:=hbr3.trans (hl4.belowAt hbr3.size (fun k hk=>by cases hk;omega));have hst:Hid (Blk W4 x 36 (exC (addTo s.1 m.1 0))):=zH (by simpa [addTo] using R4);clear hl4 gr4 B7 hown3 BB3 hbr3 R4 hBx;go_wp2
      go_loopw [8] (fun i wr=>∃ j:Nat,j<=4/\i=.int .i64 j/\Hid (Blk wr x 36 (exC (addTo s.1 m.1 j)))/\Hid (Blk wr w.heap.size monoT (exC m.1++r))/\Hid (OwnPoly (w.heap.size+1) wr u5 ((p.take k).map fun s=>mulT s m))/\Below w.heap.size w wr) (fun i _=>4-(intOf i).toNat)
      case atStart=>exact⟨0,by omega,rfl,hst,zH BB4,zH hown4,hbr4⟩
      case round =>
       clear hst BB4 hown4 hbr4 hbr2;obtain⟨j,hj,rfl,hX,hB,hown,hbr⟩:=hrel;have BX:=hX.out;have BB:=hB.out;have hino:=hin.out s (List.mem_of_getElem? hjq);by_cases hj4:j<4
       ·have hj4':(j:Int)<4:=by omega
        have hat:=exC_at' (addTo s.1 m.1 j) j hj4;rw [addTo_get _ _ _ hj4] at hat;have hset:=exC_set' (addTo s.1 m.1 j) j hj4 (s.1.get j+m.1.get j);have hwr:IntKind.i64.wrap (s.1.get j+m.1.get j)=s.1.get j+m.1.get j:=wrap_id (by rw [<- addX _ _ j hj4];exact Ex.get_bounds hino hj4);have hmat:=exC_at m.1 j hj4 r;have f1:∀ W',Below wr.heap.size wr W'->W'.cell? ⟨x,j,none⟩=some (.int .i64 (s.1.get j)):=fun W' h=>(BX.on h).at1 j _ hat;have f2:∀ W',Below wr.heap.size wr W'->W'.cell? ⟨w.heap.size,j,none⟩=some (.int .i64 (m.1.get j)):=fun W' h=>(BB.on h).at1 j _ hmat;have hsucc:addTo s.1 m.1 (j+1)=Ex.put (addTo s.1 m.1 j) j (s.1.get j+m.1.get j):=rfl;generalize s.1.get j=a at *;generalize m.1.get j=b at *;replace hsucc:=zH hsucc;clear hmat hino
        go_upto_region 9 with (fail)
        refine wp_region_L mixed (none) (0) (Okr.none) [.eq (.int .i64 j),.eq (.pointer (some ⟨x,j,none⟩)),.eq (.int .i64 a),.eq (.int .i64 j),.eq (.pointer (some ⟨w.heap.size,0,none⟩)),.eq (.pointer (some ⟨w.heap.size,j,none⟩)),.eq (.int .i64 b),.eq (.int .i64 (a+b)),.eq (.pointer (some ⟨x,j,none⟩))] [31,32,33,34,35,36,37,38,39] rfl rfl rfl rfl ⟨?_,?_,?_,?_,?_,?_,?_,?_,?_,trivial⟩ ?_
        ·exact fun _ _ a _ _ _=>xM rfl (a 8 rfl)
        ·intro A w1 hA hL hS he;have h7:A.eval (.tmp 7)=.pointer (some ⟨x,0,none⟩):=hA 7 rfl;have h31:=eT 31 (he.1 rfl);exact pZ rfl
        ·intro A w1 hA hL hS he;have h32:=eT 32 (he.1 rfl);refine goOn_plain rfl ?_;have c0:=f1 w1 hL.below;exact stepG_pure rfl rfl gZ
        ·exact fun _ _ a _ _ _=>xM rfl (a 8 rfl)
        ·exact fun _ _ a _ _ _=>goOn_plain rfl (xF0 rfl (a 3 rfl))
        ·intro A w1 hA hL hS he;have h35:=eT 35 (he.1 rfl);have h34:=eT 34 (he.2.1 rfl);exact pZ rfl
        ·intro A w1 hA hL hS he;have h36:=eT 36 (he.1 rfl);refine goOn_plain rfl ?_;have c0:=f2 w1 hL.below;exact stepG_pure rfl rfl gZ
        ·intro A w1 hA hL hS he;have h33:=eT 33 (he.1 rfl);have h37:=eT 37 (he.2.1 rfl);exact pZ rfl
        ·intro A w1 hA hL hS he;have h7:A.eval (.tmp 7)=.pointer (some ⟨x,0,none⟩):=hA 7 rfl;have h31:=eT 31 (he.1 rfl);exact pZ rfl
        ·intro W2 hL2;have hb2:=hL2.below;simp only [TailL,FactL.eq,lZ];go_frame;have B2:=BX.on hb2;have z:=B2.at1 j _ hat;have hf:=B2.frozen j;have hown2:=hown.out.on hb2;have BB2:=BB.on hb2;have hbr2:=hbr.trans (hb2.mono hbr.size);have hl3:=setCell_lr (j:=j) B2 (.int .i64 (a+b));have B3:=B2.set j (.int .i64 (a+b));rw [hset] at B3;clear f1 f2 hL2;go_wp2;go_roundw
         case rel=>exact⟨j+1,by omega,by go_num,zH (by rw [hsucc.out];exact B3),zH (BB2.lr hl3 (by simp;omega)),zH (hown2.lr hl3 (elTerm_ok (by decide)) (.inr hxo)),hbr2.trans (hl3.belowAt hbr2.size (fun k hk=>by cases hk;omega))⟩
         case measure=>simp [intOf];omega
       ·obtain rfl:j=4:=by omega
        rw [addTo_full] at BX;have hks:Rs s.2:=rp.out s (List.mem_of_getElem? hjq);have hsn:=zH (map_snoc (fun s=>mulT s m) hjq);have hlt:((p.take k).map fun s=>mulT s m).length<=100000000:=by simp;omega
        replace hown:=hown.out;have hbase:∀ k,u5.ownBlock=some k->w.heap.size<=k:=fun k hk=>by have:=(hown.base_le k hk).1;omega
        have hneb:some w.heap.size≠u5.ownBlock:=fun h=>by have:=(hown.base_le _ h.symm).1;omega
        have hnex:some x≠u5.ownBlock:=fun h=>hxo h.symm;obtain⟨E,hE⟩:∃ E,E=s.1.add m.1:=⟨_,rfl⟩;have hmt:mulT s m=(E,s.2*m.2):=by rw [hE];rfl
        rw [<- hE] at BX;replace hmt:=zH hmt;clear hE hino
        go_upto_region 10 with (fail)
        refine wp_region_L mixed (u5.ownBlock) (monoT) (hown.okr) [.eq (u5),.eq (.agg (exC E).toArray),.eq (.slice (some ⟨ba,oa,none⟩) p.length cp),.eq (.int .i64 k),.eq (.pointer (some ⟨ba,oa+k*8,none⟩)),.eq (.pointer (some ⟨ba,oa+k*8+4,none⟩)),.eq (.agg (ra).toArray),.eq (.pointer (some ⟨w.heap.size,0+4,none⟩)),.eq (.agg (r).toArray),.rat (by decide) ((s.2*m.2)),.term (by decide) ((E),(s.2*m.2)),.new1 elTerm elTerm_okT ((E,s.2*m.2)),.row elTerm (w.heap.size+1) wr.heap.size (((p.take k).map fun s=>mulT s m)++[(E,s.2*m.2)])] [40,41,42,43,44,45,46,47,48,49,50,51,52] rfl rfl rfl rfl ⟨?_,?_,?_,?_,?_,?_,?_,?_,?_,?_,?_,?_,?_,trivial⟩ ?_
        ·exact fun _ _ a _ _ _=>xM rfl (a 5 rfl)
        ·exact fun _ _ a hL _ _=>pL rfl ((BX.lr hL hnex).cells.range) Tryz.underlying36 (show (exC E).length=4 from rfl) (a 7 rfl)
        ·exact fun _ _ a _ _ _=>xM rfl (a 0 rfl)
        ·exact fun _ _ a _ _ _=>xM rfl (a 6 rfl)
        ·exact fun _ _ _ _ _ e=>pI rfl Tryz.underlying27 ba oa k (hkl) (e.1 rfl) (e.2.1 rfl)
        ·exact fun _ _ _ _ _ e=>goOn_plain rfl (xF1 rfl (e.1 rfl))
        ·intro A w1 hA hL hS he;have hbw:Below w.heap.size w w1:=hbr.trans (hL.belowAt hbr.size hbase);exact pL rfl (cells_rat (hCa.on hbw)) Tryz.underlying41 (hla) (he.1 rfl)
        ·exact fun _ _ a _ _ _=>goOn_plain rfl (xF1 rfl (a 3 rfl))
        ·exact fun _ _ _ hL _ e=>pL rfl (blk_rat (BB.lr hL hneb)) Tryz.underlying41 (h4) (e.1 rfl)
        ·intro A w1 hA hL hS he;have hb:=hS rfl;have hbw:Below w.heap.size w w1:=hbr.trans (hL.belowAt hbr.size hbase);have h46:=eT 46 (he.1 rfl);have h48:=eT 48 (he.2.1 rfl);have hf0:=eF A 75;exact cP (f:=75) (args:=#[.agg (ra).toArray,.agg (r).toArray]) (mul2_any _ _ _ _ _ (hra.on hbw).rat (hr.on hbw).rat hks rm)
        ·intro A w1 hA hL hS he;have h41:=eT 41 (he.1 rfl);obtain⟨v49,h49,f49⟩:=fT 49 (he.2.1 rfl);refine goOn_plain rfl ?_;obtain⟨n_,a_,k_,c_,n',a',k',c',rfl⟩:=rat_agg f49;exact stepG_value (c:=.agg (_++[.bool n_,.slice a_ k_ c_,.bool n',.slice a' k' c']).toArray) rfl rfl (Below.refl _ _) ⟨_,rfl,⟨_,rfl,f49.cellsC⟩⟩ (execOp_build rfl (by simp only [List.map_toArray,List.map_cons,List.map_nil,h41,h49];exact run_build37 _ _ _ rfl))
        ·intro A w1 hA hL hS he;obtain⟨v50,h50,f50⟩:=fT 50 (he.1 rfl);refine goOn_plain rfl ?_;obtain⟨c50,rfl,e50⟩:=f50;refine stepG_new1 rfl rfl ((hown.okr).lr hL) (e:=elTerm) (t:=(E,s.2*m.2)) e50 (execOp_buildSlice rfl ?_) (fun _ _ h=>h);simp only [List.map_toArray,List.map_cons,List.map_nil,h50];exact run_new1_elTermP _ _ (elTerm.len e50)
        ·intro A w1 hA hL hS he;have hb:=hS rfl;have h40:=eT 40 (he.1 rfl);obtain⟨v51,h51,f51⟩:=fT 51 (he.2.1 rfl);exact goOn_plain rfl (stepG_append rfl rfl rfl Tryz.underlying27 info_elTerm h40 h51 (hown.on hb) rfl rfl (isSl_of_new f51) (by simp only [List.length_cons,List.length_nil];omega) ((BB.lr hL hneb).lt) hL.1.size (fun _ _ h1 h2=>⟨h1,h2⟩))
        ·intro W5 hL5;simp only [TailL,FactL.eq,FactL.rat,FactL.term,FactL.new1,FactL.row,FactL.asPure,FactL.of,FactL.fragile,lZ];rintro v49 - v50 - v51 - v52 ⟨hown5,hnew⟩;go_frame;have hbW5:=hbr.trans (hL5.belowAt hbr.size hbase);have BB5:=BB.lr hL5 hneb;go_wp2;go_roundw
         case measure=>simp [intOf];omega
         case rel=>exact⟨k+1,by go_num,by omega,zH (fun h=>absurd h hz),zH (by rw [hsn.out,hmt.out];exact hown5),zH BB5,hbW5⟩
  ·obtain rfl:k=p.length:=by omega
   rw [List.take_of_length_le (Nat.le_refl _)] at hown;go_wp2;go_ret;refine⟨_,rfl,?_,hbr⟩;rw [hR.out,timesP];split
   ·rename_i h;have h1:=hz0.out h;have h2:p=[]:=List.eq_nil_of_length_eq_zero h1;subst h2;exact hown.out.isSl
   ·exact hown.out.isSl
end Go.Proofs.YtopclbeomcggiaaGreat
end
