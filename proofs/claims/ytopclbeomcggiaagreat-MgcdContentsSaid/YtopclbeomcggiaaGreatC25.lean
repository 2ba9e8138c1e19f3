/- mpoly.Mul. mpoly.From and mpoly.Eval. mpoly.Eval. mpoly.Coeffs. mpoly.Coeffs: the slice that it returns is the caller's own. -/
import Derived.Test.YtopclbeomcggiaaGreatC02
import Derived.Test.YtopclbeomcggiaaGreatC20
import Derived.Test.YtopclbeomcggiaaGreatC24
set_option linter.unusedVariables false
set_option linter.unusedSimpArgs false
set_option maxHeartbeats 16000000
set_option maxRecDepth 100000
section
namespace Q
open Go Go.RowKit Go.Proofs.YtopclbeomcggiaaGreat
def FactL.sums {g:Option Nat} {T:TypeId} (b:Nat) (l:List Trm):FactL (Lr g T):=FactL.fragile (fun v w=>v=.tuple #[]/\Sums w b l)
end Q
namespace Go.Proofs.YtopclbeomcggiaaGreat
open Go.RowKit Q Go.WideMaps Go.Maps
theorem wrap_id {n:Int} (h:-9223372036854775808<=n/\n<=9223372036854775807):IntKind.i64.wrap n=n:=by
 simp [IntKind.wrap,IntKind.bits,IntKind.signed];omega
theorem wf_bounds {n:Int} (h:(Lit.int .i64 n).wf=true):-9223372036854775808<=n/\n<=9223372036854775807:=by
 simp only [Lit.wf,Bool.and_eq_true,decide_eq_true_eq] at h;have h1:IntKind.i64.min=-9223372036854775808:=by decide
 have h2:IntKind.i64.max=9223372036854775807:=by decide
 omega
theorem Sums.noOther {w:World} {b:Nat} {l:List Trm} {T:TypeId} (h:Sums w b l):NoOther w b T:=by
 obtain⟨D,⟨es,clock,hb,_⟩,_⟩:=h;exact NoOther.map hb
theorem sums_lr {w w':World} {b:Nat} {l l':List Trm} {T:TypeId} (h:Sums w b l) (h':Sums w' b l') (hg:w.grownBy w' (some b)):Lr (some b) T w w' :=
 ⟨hg,fun k hk=>by cases hk;exact⟨h.noOther,h'.noOther⟩⟩
theorem setCell_lr {w:World} {g j:Nat} {T:TypeId} {cs:List Value} (h:Blk w g T cs) (v:Value):Lr (some g) T w (w.setCell ⟨g,j,none⟩ v):=by
 have h':=h.set j v;refine⟨⟨rfl,rfl,rfl,by simp [World.setCell],fun k hk hne=>Below.heap_setCell _ _ _ _ (fun e=>hne (by rw [e]))⟩,fun k hk=>by cases hk;exact⟨h.noOther,h'.noOther⟩⟩
def prodTo' (p q:List Trm) (k j:Nat):List Trm:=prods (p.take k) q++(match p[k]? with|some s=>(q.take j).map (mulT s)|none=>[])
theorem prods_append (l l' r:List Trm):prods (l++l') r=prods l r++prods l' r:=by simp [prods]
theorem prodTo'_zero (p q:List Trm) (k:Nat):prodTo' p q k 0=prods (p.take k) q:=by
 unfold prodTo';split <;> simp
theorem prodTo'_full {p q:List Trm} {k:Nat} {s:Trm} (h:p[k]?=some s):prodTo' p q k q.length=prods (p.take (k+1)) q:=by
 unfold prodTo';rw [h,List.take_add_one,h,prods_append];simp [prods]
theorem prodTo'_step {p q:List Trm} {k j:Nat} {s t:Trm} (h:p[k]?=some s) (h':q[j]?=some t):prodTo' p q k (j+1)=prodTo' p q k j++[mulT s t]:=by
 unfold prodTo';rw [h,List.take_add_one,h'];simp
theorem prodTo'_prefix {p q:List Trm} {k j:Nat} (hk:k<p.length) (hj:j<=q.length):prodTo' p q k j=(prods p q).take (k*q.length+j):=by
 have hs:p[k]?=some p[k]:=List.getElem?_eq_getElem hk;have e:p=p.take k++p[k]::p.drop (k+1):=by rw [<- List.drop_eq_getElem_cons hk,List.take_append_drop]
 have e2:prods p q=prods (p.take k) q++(q.map (mulT p[k])++prods (p.drop (k+1)) q):=by
  conv=>lhs;rw [e]
  rw [prods_append,prods_cons]
 unfold prodTo';rw [hs,e2];have hl:(prods (p.take k) q).length=k*q.length:=by rw [prods_length,List.length_take,Nat.min_eq_left (by omega)]
 show _++List.map (mulT p[k]) (q.take j)=_;rw [<- hl,List.take_length_add_append,List.take_append_of_le_length (by simp;exact hj),List.map_take]
theorem mul_pp (vp vq:Value) (p q:List Trm) (w:World) (hp:IsPoly w vp p) (hq:IsPoly w vq q) (rp:∀ t∈p,InR t.1/\Rk t.2) (rq:∀ t∈q,InR t.1/\Rk t.2) (hok:Okl (prods p q)) (lp:p.length<=100000000) (lq:q.length<=100000000) :
  Calls Tryz.prog 54 #[vp,vq] w (RetPoly w (mulP p q)):=by
 obtain⟨ap,cp,rfl,hcp⟩:=hp.shape;obtain⟨aq,cq,rfl,hcq⟩:=hq.shape;replace hok:=zH hok;replace rp:=zH rp;replace rq:=zH rq;have hmm:=run_makeMap (P:=Tryz.prog) 91 w
 go_enter Tryz.func54,Tryz.ntmps54
 go_upto_region 2 with (fail)
 have hS:Sums (w.alloc (.map #[] 0)) w.heap.size []:=Sums.made w;have hbw:Below w.heap.size w (w.alloc (.map #[] 0)):=(Below.refl _ _).alloc (Nat.le_refl _) _;obtain⟨W,hW⟩:∃ W,W=w.alloc (.map #[] 0):=⟨_,rfl⟩;rw [<- hW] at hS hbw ⊢;clear hW hmm;go_wp2
 go_loopw [15] (fun i wr=>∃ k:Nat,k<=p.length/\i=.int .i64 k/\Hid (Sums wr w.heap.size (prods (p.take k) q))/\Below w.heap.size w wr) (fun i _=>p.length-(intOf i).toNat)
 case atStart=>exact⟨0,by omega,rfl,zH hS,hbw⟩
 case round =>
  clear hS hbw;obtain⟨k,hk,rfl,hS,hb⟩:=hrel;by_cases hkl:k<p.length
  ·have hjp:p[k]?=some p[k]:=List.getElem?_eq_getElem hkl;obtain⟨b',off,cs,rfl,-,hE,hC⟩:=(hp.on hb).get hjp;generalize p[k]=s at hjp hE;obtain⟨⟨e1,e2,e3,e4⟩,qs⟩:=s;obtain⟨r,rfl,n1,a1,k1,c1,n2,a2,k2,c2,rfl,i1,i2⟩:=hE;simp only [exC,List.cons_append,List.nil_append] at hC;have hr:=hC.range;have hkl':(k:Int)<p.length:=by omega
   have hrat:IsRat wr (.agg #[.bool n1,.slice a1 k1 c1,.bool n2,.slice a2 k2 c2]) qs:=⟨n1,a1,k1,c1,n2,a2,k2,c2,rfl,i1,i2⟩;have hIs:InR (e1,e2,e3,e4)/\Rk qs:=rp.out ((e1,e2,e3,e4),qs) (List.mem_of_getElem? hjp)
   go_upto_region 5 with (first
   |(refine wpList_index_at rfl _ _ 27 rfl monoT Tryz.underlying27 _ 8 96 (by kernel_rfl) _ _ _ rfl .i64 _ rfl k rfl hkl b' off rfl ?_)
   |(refine wpList_load_mid rfl 43 _ rfl _ _ rfl _ _ hr Tryz.underlying43 rfl (by kernel_rfl) ?_))
   refine abs1 fun W1 hb1 B1 hsz1=>?_;have hS1:Hid (Sums W1 w.heap.size (prodTo' p q k 0)):=zH (by rw [prodTo'_zero];exact hS.out.on hb1);have hrat1:=hrat.on hb1;have hr1:w.heap.size<wr.heap.size:=hS.out.lt;have hbW1:=hb.trans (hb1.mono hb.size);clear hb1 hrat hS hC hr i1 i2;generalize wr.heap.size=r1 at *;go_wp2
   go_loopw [21] (fun i wr2=>∃ j:Nat,j<=q.length/\i=.int .i64 j/\Hid (Sums wr2 w.heap.size (prodTo' p q k j))/\Below w.heap.size w wr2/\Hid (Blk wr2 r1 43 [.int .i64 e1,.int .i64 e2,.int .i64 e3,.int .i64 e4,.bool n1,.slice a1 k1 c1,.bool n2,.slice a2 k2 c2])/\Hid (IsRat wr2 (.agg #[.bool n1,.slice a1 k1 c1,.bool n2,.slice a2 k2 c2]) qs)/\w.heap.size<r1) (fun i _=>q.length-(intOf i).toNat)
   case atStart=>exact⟨0,by omega,rfl,hS1,hbW1,zH B1,zH hrat1,hr1⟩
   case round =>
    skip
    clear hS1 hbW1 B1 hrat1 hr1 hsz1;obtain⟨j,hj,rfl,hS,hb,hB1,hratx,hr1⟩:=hrel;by_cases hjl:j<q.length
    ·have hjq:q[j]?=some q[j]:=List.getElem?_eq_getElem hjl;obtain⟨b'',off',cs,rfl,-,hE,hC⟩:=(hq.on hb).get hjq;generalize q[j]=t at hjq hE;obtain⟨⟨f1,f2,f3,f4⟩,qt⟩:=t;obtain⟨r,rfl,m1,b1,j1,d1,m2,b2,j2,d2,rfl,i1,i2⟩:=hE;simp only [exC,List.cons_append,List.nil_append] at hC;have hr:=hC.range;have hjl':(j:Int)<q.length:=by omega
     have hrat:=zH (show IsRat wr (.agg #[.bool m1,.slice b1 j1 d1,.bool m2,.slice b2 j2 d2]) qt from⟨m1,b1,j1,d1,m2,b2,j2,d2,rfl,i1,i2⟩);have hIt:InR (f1,f2,f3,f4)/\Rk qt:=rq.out ((f1,f2,f3,f4),qt) (List.mem_of_getElem? hjq);have hmem:mulT ((e1,e2,e3,e4),qs) ((f1,f2,f3,f4),qt)∈prods p q:=List.mem_flatMap.2 ⟨_,List.mem_of_getElem? hjp,List.mem_map.2 ⟨_,List.mem_of_getElem? hjq,rfl⟩⟩;have hIst:InR (e1+f1,e2+f2,e3+f3,e4+f4)/\Rk (qs*qt):=hok.out.r _ hmem;obtain⟨wb1,wb2,wb3,wb4⟩:=hIst.1;replace wb1:=wf_bounds wb1;replace wb2:=wf_bounds wb2;replace wb3:=wf_bounds wb3;replace wb4:=wf_bounds wb4;have B1:=hB1.out;have zz1:=B1.at1 0 _ rfl;have zz2:=B1.at1 1 _ rfl;have zz3:=B1.at1 2 _ rfl;have zz4:=B1.at1 3 _ rfl
     go_upto_region 8 with (first
     |(refine wpList_index_at rfl _ _ 27 rfl monoT Tryz.underlying27 _ 8 96 (by kernel_rfl) _ _ _ rfl .i64 _ rfl j rfl hjl b'' off' rfl ?_)
     |(refine wpList_load_mid rfl 43 _ rfl _ _ rfl _ _ hr Tryz.underlying43 rfl (by kernel_rfl) ?_))
     refine abs1 fun W2 hb2 B2 hsz2=>?_;have hS2:=zH (hS.out.on hb2);have hbW2:=hb.trans (hb2.mono hb.size);have B1':=B1.on hb2;have hratx2:=hratx.out.on hb2;have hrat2:=hrat.out.on hb2;have hr2:r1<wr.heap.size:=B1.lt;clear zz1 zz2 zz3 zz4 hb2 hS hr hC i1 i2 hrat hratx hB1 B1;generalize wr.heap.size=r2 at *;have zz1:=B1'.at1 0 _ rfl;have zz2:=B1'.at1 1 _ rfl;have zz3:=B1'.at1 2 _ rfl;have zz4:=B1'.at1 3 _ rfl
     go_upto_region 9 with (fail)
     refine abs1 fun W3 hb3 B3 hsz3=>?_;have hS3:=zH (hS2.out.on hb3);have hbW3:=hbW2.trans (hb3.mono hbW2.size);have B1:=B1'.on hb3;have B2':=B2.on hb3;have hratx3:=hratx2.on hb3;have hrat3:=hrat2.on hb3;have hr3:r2<W2.heap.size:=B2.lt;have hr33:W2.heap.size<W3.heap.size:=by omega
     clear zz1 zz2 zz3 zz4 hb3 hS2 hrat2 hratx2 B1' B2;generalize W2.heap.size=r3 at *;go_wp2
     go_loopw [27] (fun i wr3=>∃ m:Nat,m<=4/\i=.int .i64 m/\Below w.heap.size w wr3/\Hid (Sums wr3 w.heap.size (prodTo' p q k j)) /\
       Hid (Blk wr3 r1 43 [.int .i64 e1,.int .i64 e2,.int .i64 e3,.int .i64 e4,.bool n1,.slice a1 k1 c1,.bool n2,.slice a2 k2 c2]) /\
       Hid (Blk wr3 r2 43 [.int .i64 f1,.int .i64 f2,.int .i64 f3,.int .i64 f4,.bool m1,.slice b1 j1 d1,.bool m2,.slice b2 j2 d2]) /\
       Hid (Blk wr3 r3 36 [.int .i64 (if 0<m then e1+f1 else e1),.int .i64 (if 1<m then e2+f2 else e2),.int .i64 (if 2<m then e3+f3 else e3),.int .i64 (if 3<m then e4+f4 else e4)]) /\
       Hid (IsRat wr3 (.agg #[.bool n1,.slice a1 k1 c1,.bool n2,.slice a2 k2 c2]) qs)/\Hid (IsRat wr3 (.agg #[.bool m1,.slice b1 j1 d1,.bool m2,.slice b2 j2 d2]) qt)/\w.heap.size<r1/\r1<r2/\r2<r3) (fun i _=>4-(intOf i).toNat)
     case atStart=>exact⟨0,by omega,rfl,hbW3,hS3,zH B1,zH B2',zH B3,zH hratx3,zH hrat3,hr1,hr2,hr3⟩
     case round =>
      clear hbW3 hS3 B1 B2' B3 hratx3 hrat3 hr1 hr2 hr3 hbW2 hr33 hsz2 hsz3;obtain⟨m,hm,rfl,hb,hS,hB1,hB2,hB3,hratx,hrat,hr1,hr2,hr3⟩:=hrel;have B1:=hB1.out;have B2:=hB2.out;have B3:=hB3.out;clear hB1 hB2 hB3;obtain rfl|rfl|rfl|rfl|rfl:m=0\/m=1\/m=2\/m=3\/m=4:=by omega
      ·simp only [show ¬ (0:Nat)<0 from by decide,show ¬ (1:Nat)<0 from by decide,show ¬ (2:Nat)<0 from by decide,show ¬ (3:Nat)<0 from by decide,if_true,if_false] at B3
       go_upto_region 12 with (fail)
       refine wp_region_L mixed (none) (0) (Okr.none) [.eq (.int .i64 0),.eq (.pointer (some ⟨r3,0,none⟩)),.eq (.int .i64 e1),.eq (.int .i64 0),.eq (.pointer (some ⟨r2,0,none⟩)),.eq (.pointer (some ⟨r2,0,none⟩)),.eq (.int .i64 f1),.eq (.int .i64 (e1+f1)),.eq (.pointer (some ⟨r3,0,none⟩))] [30,31,32,33,34,35,36,37,38] rfl rfl rfl rfl ⟨?_,?_,?_,?_,?_,?_,?_,?_,?_,trivial⟩ ?_
       ·exact fun _ _ a _ _ _=>xM rfl (a 11 rfl)
       ·intro A w1 hA hL hS he;have h10:A.eval (.tmp 10)=.pointer (some ⟨r3,0,none⟩):=hA 10 rfl;have h30:=eT 30 (he.1 rfl);exact pZ rfl
       ·intro A w1 hA hL hS he;have hb:=hL.below;have h31:=eT 31 (he.1 rfl);have c0:=((B3).on hb).at1 0 _ rfl;exact pZ rfl
       ·exact fun _ _ a _ _ _=>xM rfl (a 11 rfl)
       ·intro A w1 hA hL hS he;have h9:A.eval (.tmp 9)=.pointer (some ⟨r2,0,none⟩):=hA 9 rfl;exact pZ rfl
       ·intro A w1 hA hL hS he;have h34:=eT 34 (he.1 rfl);have h33:=eT 33 (he.2.1 rfl);exact pZ rfl
       ·intro A w1 hA hL hS he;have hb:=hL.below;have h35:=eT 35 (he.1 rfl);have c0:=((B2).on hb).at1 0 _ rfl;exact pZ rfl
       ·intro A w1 hA hL hS he;have h32:=eT 32 (he.1 rfl);have h36:=eT 36 (he.2.1 rfl);refine goOn_plain rfl (stepG_pure rfl rfl ?_);generalize A.eval=ev at *;go_simp;exact wrap_id wb1
       ·intro A w1 hA hL hS he;have h10:A.eval (.tmp 10)=.pointer (some ⟨r3,0,none⟩):=hA 10 rfl;have h30:=eT 30 (he.1 rfl);exact pZ rfl
       ·intro w5 hL;have hb5:=hL.below;simp only [TailL,FactL.eq,List.length_cons,List.length_nil,List.drop_succ_cons,List.drop_zero];have B3':=B3.on hb5;have z:=B3'.at1 0 _ rfl;have hf:=B3'.frozen 0;go_frame;go_wp2;have hl6:=setCell_lr (j:=0) B3' (.int .i64 (e1+f1));go_roundw
        case measure=>simp [intOf]
        case rel=>exact⟨1,by omega,by go_num,(hb.trans (hb5.mono hb.size)).trans (setCell_below (by omega) _),zH ((hS.out.on hb5).lr hl6 (by decide) (by simp;omega)),zH ((B1.on hb5).lr hl6 (by simp;omega)),zH ((B2.on hb5).lr hl6 (by simp;omega)),zH (B3'.set 0 (.int .i64 (e1+f1))),zH ((hratx.out.on hb5).lr hl6 (by decide)),zH ((hrat.out.on hb5).lr hl6 (by decide)),hr1,hr2,hr3⟩
      ·simp only [show (0:Nat)<1 from by decide,show ¬ (1:Nat)<1 from by decide,show ¬ (2:Nat)<1 from by decide,show ¬ (3:Nat)<1 from by decide,if_true,if_false] at B3
       go_upto_region 12 with (fail)
       refine wp_region_L mixed (none) (0) (Okr.none) [.eq (.int .i64 1),.eq (.pointer (some ⟨r3,1,none⟩)),.eq (.int .i64 e2),.eq (.int .i64 1),.eq (.pointer (some ⟨r2,0,none⟩)),.eq (.pointer (some ⟨r2,1,none⟩)),.eq (.int .i64 f2),.eq (.int .i64 (e2+f2)),.eq (.pointer (some ⟨r3,1,none⟩))] [30,31,32,33,34,35,36,37,38] rfl rfl rfl rfl ⟨?_,?_,?_,?_,?_,?_,?_,?_,?_,trivial⟩ ?_
       ·exact fun _ _ a _ _ _=>xM rfl (a 11 rfl)
       ·intro A w1 hA hL hS he;have h10:A.eval (.tmp 10)=.pointer (some ⟨r3,0,none⟩):=hA 10 rfl;have h30:=eT 30 (he.1 rfl);exact pZ rfl
       ·intro A w1 hA hL hS he;have hb:=hL.below;have h31:=eT 31 (he.1 rfl);have c0:=((B3).on hb).at1 1 _ rfl;exact pZ rfl
       ·exact fun _ _ a _ _ _=>xM rfl (a 11 rfl)
       ·intro A w1 hA hL hS he;have h9:A.eval (.tmp 9)=.pointer (some ⟨r2,0,none⟩):=hA 9 rfl;exact pZ rfl
       ·intro A w1 hA hL hS he;have h34:=eT 34 (he.1 rfl);have h33:=eT 33 (he.2.1 rfl);exact pZ rfl
       ·intro A w1 hA hL hS he;have hb:=hL.below;have h35:=eT 35 (he.1 rfl);have c0:=((B2).on hb).at1 1 _ rfl;exact pZ rfl
       ·intro A w1 hA hL hS he;have h32:=eT 32 (he.1 rfl);have h36:=eT 36 (he.2.1 rfl);refine goOn_plain rfl (stepG_pure rfl rfl ?_);generalize A.eval=ev at *;go_simp;exact wrap_id wb2
       ·intro A w1 hA hL hS he;have h10:A.eval (.tmp 10)=.pointer (some ⟨r3,0,none⟩):=hA 10 rfl;have h30:=eT 30 (he.1 rfl);exact pZ rfl
       ·intro w5 hL;have hb5:=hL.below;simp only [TailL,FactL.eq,List.length_cons,List.length_nil,List.drop_succ_cons,List.drop_zero];have B3':=B3.on hb5;have z:=B3'.at1 1 _ rfl;have hf:=B3'.frozen 1;go_frame;go_wp2;have hl6:=setCell_lr (j:=1) B3' (.int .i64 (e2+f2));go_roundw
        case measure=>simp [intOf]
        case rel=>exact⟨2,by omega,by go_num,(hb.trans (hb5.mono hb.size)).trans (setCell_below (by omega) _),zH ((hS.out.on hb5).lr hl6 (by decide) (by simp;omega)),zH ((B1.on hb5).lr hl6 (by simp;omega)),zH ((B2.on hb5).lr hl6 (by simp;omega)),zH (B3'.set 1 (.int .i64 (e2+f2))),zH ((hratx.out.on hb5).lr hl6 (by decide)),zH ((hrat.out.on hb5).lr hl6 (by decide)),hr1,hr2,hr3⟩
      ·simp only [show (0:Nat)<2 from by decide,show (1:Nat)<2 from by decide,show ¬ (2:Nat)<2 from by decide,show ¬ (3:Nat)<2 from by decide,if_true,if_false] at B3
       go_upto_region 12 with (fail)
       refine wp_region_L mixed (none) (0) (Okr.none) [.eq (.int .i64 2),.eq (.pointer (some ⟨r3,2,none⟩)),.eq (.int .i64 e3),.eq (.int .i64 2),.eq (.pointer (some ⟨r2,0,none⟩)),.eq (.pointer (some ⟨r2,2,none⟩)),.eq (.int .i64 f3),.eq (.int .i64 (e3+f3)),.eq (.pointer (some ⟨r3,2,none⟩))] [30,31,32,33,34,35,36,37,38] rfl rfl rfl rfl ⟨?_,?_,?_,?_,?_,?_,?_,?_,?_,trivial⟩ ?_
       ·exact fun _ _ a _ _ _=>xM rfl (a 11 rfl)
       ·intro A w1 hA hL hS he;have h10:A.eval (.tmp 10)=.pointer (some ⟨r3,0,none⟩):=hA 10 rfl;have h30:=eT 30 (he.1 rfl);exact pZ rfl
       ·intro A w1 hA hL hS he;have hb:=hL.below;have h31:=eT 31 (he.1 rfl);have c0:=((B3).on hb).at1 2 _ rfl;exact pZ rfl
       ·exact fun _ _ a _ _ _=>xM rfl (a 11 rfl)
       ·intro A w1 hA hL hS he;have h9:A.eval (.tmp 9)=.pointer (some ⟨r2,0,none⟩):=hA 9 rfl;exact pZ rfl
       ·intro A w1 hA hL hS he;have h34:=eT 34 (he.1 rfl);have h33:=eT 33 (he.2.1 rfl);exact pZ rfl
       ·intro A w1 hA hL hS he;have hb:=hL.below;have h35:=eT 35 (he.1 rfl);have c0:=((B2).on hb).at1 2 _ rfl;exact pZ rfl
       ·intro A w1 hA hL hS he;have h32:=eT 32 (he.1 rfl);have h36:=eT 36 (he.2.1 rfl);refine goOn_plain rfl (stepG_pure rfl rfl ?_);generalize A.eval=ev at *;go_simp;exact wrap_id wb3
       ·intro A w1 hA hL hS he;have h10:A.eval (.tmp 10)=.pointer (some ⟨r3,0,none⟩):=hA 10 rfl;have h30:=eT 30 (he.1 rfl);exact pZ rfl
       ·intro w5 hL;have hb5:=hL.below;simp only [TailL,FactL.eq,List.length_cons,List.length_nil,List.drop_succ_cons,List.drop_zero];have B3':=B3.on hb5;have z:=B3'.at1 2 _ rfl;have hf:=B3'.frozen 2;go_frame;go_wp2;have hl6:=setCell_lr (j:=2) B3' (.int .i64 (e3+f3));go_roundw
        case measure=>simp [intOf]
        case rel=>exact⟨3,by omega,by go_num,(hb.trans (hb5.mono hb.size)).trans (setCell_below (by omega) _),zH ((hS.out.on hb5).lr hl6 (by decide) (by simp;omega)),zH ((B1.on hb5).lr hl6 (by simp;omega)),zH ((B2.on hb5).lr hl6 (by simp;omega)),zH (B3'.set 2 (.int .i64 (e3+f3))),zH ((hratx.out.on hb5).lr hl6 (by decide)),zH ((hrat.out.on hb5).lr hl6 (by decide)),hr1,hr2,hr3⟩
      ·simp only [show (0:Nat)<3 from by decide,show (1:Nat)<3 from by decide,show (2:Nat)<3 from by decide,show ¬ (3:Nat)<3 from by decide,if_true,if_false] at B3
       go_upto_region 12 with (fail)
       refine wp_region_L mixed (none) (0) (Okr.none) [.eq (.int .i64 3),.eq (.pointer (some ⟨r3,3,none⟩)),.eq (.int .i64 e4),.eq (.int .i64 3),.eq (.pointer (some ⟨r2,0,none⟩)),.eq (.pointer (some ⟨r2,3,none⟩)),.eq (.int .i64 f4),.eq (.int .i64 (e4+f4)),.eq (.pointer (some ⟨r3,3,none⟩))] [30,31,32,33,34,35,36,37,38] rfl rfl rfl rfl ⟨?_,?_,?_,?_,?_,?_,?_,?_,?_,trivial⟩ ?_
       ·exact fun _ _ a _ _ _=>xM rfl (a 11 rfl)
       ·intro A w1 hA hL hS he;have h10:A.eval (.tmp 10)=.pointer (some ⟨r3,0,none⟩):=hA 10 rfl;have h30:=eT 30 (he.1 rfl);exact pZ rfl
       ·intro A w1 hA hL hS he;have hb:=hL.below;have h31:=eT 31 (he.1 rfl);have c0:=((B3).on hb).at1 3 _ rfl;exact pZ rfl
       ·exact fun _ _ a _ _ _=>xM rfl (a 11 rfl)
       ·intro A w1 hA hL hS he;have h9:A.eval (.tmp 9)=.pointer (some ⟨r2,0,none⟩):=hA 9 rfl;exact pZ rfl
       ·intro A w1 hA hL hS he;have h34:=eT 34 (he.1 rfl);have h33:=eT 33 (he.2.1 rfl);exact pZ rfl
       ·intro A w1 hA hL hS he;have hb:=hL.below;have h35:=eT 35 (he.1 rfl);have c0:=((B2).on hb).at1 3 _ rfl;exact pZ rfl
       ·intro A w1 hA hL hS he;have h32:=eT 32 (he.1 rfl);have h36:=eT 36 (he.2.1 rfl);refine goOn_plain rfl (stepG_pure rfl rfl ?_);generalize A.eval=ev at *;go_simp;exact wrap_id wb4
       ·intro A w1 hA hL hS he;have h10:A.eval (.tmp 10)=.pointer (some ⟨r3,0,none⟩):=hA 10 rfl;have h30:=eT 30 (he.1 rfl);exact pZ rfl
       ·intro w5 hL;have hb5:=hL.below;simp only [TailL,FactL.eq,List.length_cons,List.length_nil,List.drop_succ_cons,List.drop_zero];have B3':=B3.on hb5;have z:=B3'.at1 3 _ rfl;have hf:=B3'.frozen 3;go_frame;go_wp2;have hl6:=setCell_lr (j:=3) B3' (.int .i64 (e4+f4));go_roundw
        case measure=>simp [intOf]
        case rel=>exact⟨4,by omega,by go_num,(hb.trans (hb5.mono hb.size)).trans (setCell_below (by omega) _),zH ((hS.out.on hb5).lr hl6 (by decide) (by simp;omega)),zH ((B1.on hb5).lr hl6 (by simp;omega)),zH ((B2.on hb5).lr hl6 (by simp;omega)),zH (B3'.set 3 (.int .i64 (e4+f4))),zH ((hratx.out.on hb5).lr hl6 (by decide)),zH ((hrat.out.on hb5).lr hl6 (by decide)),hr1,hr2,hr3⟩
      ·simp only [show (0:Nat)<4 from by decide,show (1:Nat)<4 from by decide,show (2:Nat)<4 from by decide,show (3:Nat)<4 from by decide,if_true] at B3
       go_upto_region 14 with (fail)
       refine wp_region_L mixed (none) (0) (Okr.none) [.eq (.map (some w.heap.size)),.eq (.agg #[.int .i64 (e1+f1),.int .i64 (e2+f2),.int .i64 (e3+f3),.int .i64 (e4+f4)]),.eq (.pointer (some ⟨r1,4,none⟩)),.eq (.agg #[.bool n1,.slice a1 k1 c1,.bool n2,.slice a2 k2 c2]),.eq (.pointer (some ⟨r2,4,none⟩)),.eq (.agg #[.bool m1,.slice b1 j1 d1,.bool m2,.slice b2 j2 d2]),.rat (by decide) ((qs*qt))] [40,41,42,43,44,45,46] rfl rfl rfl rfl ⟨?_,?_,?_,?_,?_,?_,?_,trivial⟩ ?_
       ·exact fun _ _ a _ _ _=>xM rfl (a 5 rfl)
       ·intro A w1 hA hL hS he;have hb:=hL.below;have h10:A.eval (.tmp 10)=.pointer (some ⟨r3,0,none⟩):=hA 10 rfl;have c0:=((B3).on hb).at1 0 _ rfl;have c1:=((B3).on hb).at1 1 _ rfl;have c2:=((B3).on hb).at1 2 _ rfl;have c3:=((B3).on hb).at1 3 _ rfl;exact pZ rfl
       ·intro A w1 hA hL hS he;have h7:A.eval (.tmp 7)=.pointer (some ⟨r1,0,none⟩):=hA 7 rfl;exact pZ rfl
       ·intro A w1 hA hL hS he;have hb:=hL.below;have h42:=eT 42 (he.1 rfl);have c0:=((B1).on hb).at1 4 _ rfl;have c1:=((B1).on hb).at1 5 _ rfl;have c2:=((B1).on hb).at1 6 _ rfl;have c3:=((B1).on hb).at1 7 _ rfl;exact pZ rfl
       ·intro A w1 hA hL hS he;have h9:A.eval (.tmp 9)=.pointer (some ⟨r2,0,none⟩):=hA 9 rfl;exact pZ rfl
       ·intro A w1 hA hL hS he;have hb:=hL.below;have h44:=eT 44 (he.1 rfl);have c0:=((B2).on hb).at1 4 _ rfl;have c1:=((B2).on hb).at1 5 _ rfl;have c2:=((B2).on hb).at1 6 _ rfl;have c3:=((B2).on hb).at1 7 _ rfl;exact pZ rfl
       ·intro A w1 hA hL hS he;have hb:=hS rfl;have h43:=eT 43 (he.1 rfl);have h45:=eT 45 (he.2.1 rfl);have hf0:=eF A 88;exact cP (f:=88) (args:=#[.agg #[.bool n1,.slice a1 k1 c1,.bool n2,.slice a2 k2 c2],.agg #[.bool m1,.slice b1 j1 d1,.bool m2,.slice b2 j2 d2]]) (rmul_any _ _ _ _ _ (hratx.out.on hb) (hrat.out.on hb) hIs.2 hIt.2)
       ·intro w5 hL;have hb5:=hL.below;simp only [TailL,FactL.eq,FactL.rat,FactL.of,List.length_cons,List.length_nil,List.drop_succ_cons,List.drop_zero];rintro v46 h46;go_frame;have hcall:=add_sums w.heap.size (prodTo' p q k j) (e1+f1,e2+f2,e3+f3,e4+f4) (qs*qt) _ w5 (hS.out.on hb5) hIst.1 h46 hIst.2 (by rw [prodTo'_prefix hkl hj];exact hok.out.c _ _) (by rw [prodTo'_prefix hkl hj,List.length_take];have:=hok.out.n;omega);rw [<- show mulT ((e1,e2,e3,e4),qs) ((f1,f2,f3,f4),qt)=((e1+f1,e2+f2,e3+f3,e4+f4),qs*qt) from rfl,<- prodTo'_step hjp hjq] at hcall;simp only [exV,exC] at hcall
        go_wp2_with (go_at_call 90;refine hcall.mono ?_;rintro e w6 ⟨rfl,hS6,hsz6,hg6⟩)
        have hl6:Lr (some w.heap.size) 0 w5 w6:=sums_lr (hS.out.on hb5) hS6 hg6;have hbb:=hb.trans (hb5.mono hb.size);go_roundw
        case measure=>simp [intOf];omega
        case rel=>exact⟨j+1,by omega,by go_num,zH hS6,hbb.trans (hl6.belowAt hbb.size (fun k hk=>by cases hk;exact Nat.le_refl _)),zH ((B1.on hb5).lr hl6 (by simp;omega)),zH ((hratx.out.on hb5).lr hl6 (by decide)),hr1⟩
    ·obtain rfl:j=q.length:=by omega
     rw [prodTo'_full hjp] at hS;go_wp2;go_roundw
     case measure=>simp [intOf];omega
     case rel=>exact⟨k+1,by omega,by go_num,hS,hb⟩
  ·obtain rfl:k=p.length:=by omega
   rw [List.take_of_length_le (Nat.le_refl _)] at hS;have hcall:=collect_any _ _ wr hS.out (by have:=hok.out.n;omega)
   go_wp2_with (go_at_call 91;refine hcall.mono ?_;rintro e w2 ⟨v2,rfl,hv2,hb2⟩)
   go_ret;exact⟨_,rfl,hv2,hb.trans (hb2.mono hb.size)⟩
end Go.Proofs.YtopclbeomcggiaaGreat
end
section
namespace Go.Proofs.YtopclbeomcggiaaGreat
open Go.RowKit Q Go.WideMaps Go.Maps
theorem exC_set (e:Ex) (v:Nat) (hv:v<4) (x:Int) (r:List Value):(exC e++r).set v (.int .i64 x)=exC (e.put v x)++r:=by
 obtain rfl|rfl|rfl|rfl:v=0\/v=1\/v=2\/v=3:=by omega
 all_goals rfl
theorem exC_at (e:Ex) (v:Nat) (hv:v<4) (r:List Value):(exC e++r)[v]?=some (.int .i64 (e.get v)):=by
 rw [List.getElem?_append_left (by simpa [exC] using hv)];exact exC_get e v hv
theorem Okl.pre {l a r:List Trm} (h:Okl l) (e:l=a++r) (x:Ex):Rk (cf a x):=by
 have:=h.c a.length x;rw [e,List.take_left] at this;exact this
theorem fromL_append (v:Nat):∀ (l r:List (List Trm)) (i:Int),fromL v i (l++r)=fromL v i l++fromL v (i+l.length) r
|[],r,i=>by simp [fromL]
|p::l,r,i=>by
  rw [List.cons_append,fromL,fromL,fromL_append v l r,List.append_assoc]
  congr 3
  simp only [List.length_cons];omega
theorem fromL_step (v:Nat) {L:List (List Trm)} {k:Nat} {p:List Trm} (h:L[k]?=some p):fromL v 0 (L.take (k+1))=fromL v 0 (L.take k)++shiftL p v k:=by
 have hk:k<L.length:=(List.getElem?_eq_some_iff.1 h).1;rw [List.take_add_one,h,fromL_append,List.length_take,Nat.min_eq_left (by omega)];simp [fromL]
theorem fromL_split (v:Nat) {L:List (List Trm)} {k:Nat} {p:List Trm} (h:L[k]?=some p) (j:Nat):∃ r,fromL v 0 L=(fromL v 0 (L.take k)++(shiftL p v k).take j)++r:=by
 have e:L=L.take (k+1)++L.drop (k+1):=(List.take_append_drop _ _).symm;refine⟨(shiftL p v k).drop j++fromL v (0+(L.take (k+1)).length) (L.drop (k+1)),?_⟩
 conv=>lhs;rw [e]
 rw [fromL_append,fromL_step v h];simp only [List.append_assoc];rw [<- List.append_assoc (List.take j _),List.take_append_drop]
theorem from_any (vl:Value) (L:List (List Trm)) (v:Nat) (w:World) (h:IsPolys w vl L) (hv:v<4) (hok:Okl (fromL v 0 L)) (hl:L.length<=100000000) (hls:∀ p∈L,p.length<=100000000):Calls Tryz.prog 120 #[vl,.int .i64 v] w (RetPoly w (fromP L v)):=by
 obtain⟨ap,cp,rfl,hcp⟩:=h.shape;replace hok:=zH hok;replace hls:=zH hls;have hv4:(v:Int)<4:=by omega
 have hmm:=run_makeMap (P:=Tryz.prog) 91 w
 go_enter Tryz.func120,Tryz.ntmps120
 go_upto_region 2 with (fail)
 have hS:Sums (w.alloc (.map #[] 0)) w.heap.size []:=Sums.made w;have hbw:Below w.heap.size w (w.alloc (.map #[] 0)):=(Below.refl _ _).alloc (Nat.le_refl _) _;obtain⟨W,hW⟩:∃ W,W=w.alloc (.map #[] 0):=⟨_,rfl⟩;rw [<- hW] at hS hbw ⊢;clear hW hmm;go_wp2
 go_loopw [13] (fun i wr=>∃ k:Nat,k<=L.length/\i=.int .i64 k/\Hid (Sums wr w.heap.size (fromL v 0 (L.take k)))/\Below w.heap.size w wr) (fun i _=>L.length-(intOf i).toNat)
 case atStart=>exact⟨0,by omega,rfl,zH hS,hbw⟩
 case round =>
  clear hS hbw;obtain⟨k,hk,rfl,hS,hb⟩:=hrel;by_cases hkl:k<L.length
  ·have hjp:L[k]?=some L[k]:=List.getElem?_eq_getElem hkl;obtain⟨b',off,cs,rfl,-,hE,hC⟩:=h.get hjp;have hpl:L[k].length<=100000000:=hls.out _ (List.getElem_mem hkl);generalize L[k]=p at hjp hE hpl;obtain⟨pv,rfl,hpv⟩:=hE;obtain⟨aq,cq,rfl,hcq⟩:=hpv.shape;have hc0:=(hC.on hb).cell 0 (by simp);simp only [Nat.add_zero,List.getElem?_cons_zero] at hc0;change wr.cell? ⟨b',off+k*1,none⟩=_ at hc0;rw [Nat.mul_one] at hc0;have hkl':(k:Int)<L.length:=by omega
   have hS1:Hid (Sums wr w.heap.size (fromL v 0 (L.take k)++(shiftL p v k).take 0)):=zH (by simpa using hS.out);clear hS hC
   go_wp2_with (refine wpList_index_at rfl _ _ 75 rfl polyT Tryz.underlying75 _ 1 24 (by kernel_rfl) _ _ _ rfl .i64 _ rfl k rfl hkl b' off rfl ?_)
   go_loopw [20] (fun i wr2=>∃ j:Nat,j<=p.length/\i=.int .i64 j/\Hid (Sums wr2 w.heap.size (fromL v 0 (L.take k)++(shiftL p v k).take j))/\Below w.heap.size w wr2/\w.heap.size<wr2.heap.size) (fun i _=>p.length-(intOf i).toNat)
   case atStart=>exact⟨0,by omega,rfl,hS1,hb,hS1.out.lt⟩
   case round =>
    clear hS1 hb hc0;obtain⟨j,hj,rfl,hS,hb,hwl⟩:=hrel;by_cases hjl:j<p.length
    ·have hjq:p[j]?=some p[j]:=List.getElem?_eq_getElem hjl;obtain⟨b'',off',cs,rfl,-,hE,hC⟩:=(hpv.on hb).get hjq;generalize p[j]=t at hjq hE;obtain⟨e,q⟩:=t;obtain⟨r,rfl,n1,a1,k1,c1,n2,a2,k2,c2,rfl,i1,i2⟩:=hE;have hr:=hC.range
     have hshift:(shiftL p v k).take (j+1)=(shiftL p v k).take j++[(e.put v (e.get v+k),q)]:=by
      rw [List.take_add_one,shiftL,List.getElem?_map,hjq];rfl
     have hIn:InR (e.put v (e.get v+k))/\Rk q:=hok.out.r (e.put v (e.get v+k),q) (by
      obtain⟨r',hr'⟩:=fromL_split v hjp (j+1)
      rw [hr',hshift];simp)
     have hcfr:Rk (cf (fromL v 0 (L.take k)++(shiftL p v k).take j) (e.put v (e.get v+k))):=by
      obtain⟨r',hr'⟩:=fromL_split v hjp j;exact hok.out.pre hr' _
     have hlen:(fromL v 0 (L.take k)++(shiftL p v k).take j).length<=1000000000:=by
      obtain⟨r',hr'⟩:=fromL_split v hjp j;have:=hok.out.n;rw [hr',List.length_append] at this;omega
     have hwb:-9223372036854775808<=e.get v+k/\e.get v+k<=9223372036854775807:=by
      have hh:=hIn.1;have hg:=Ex.get_put e v (e.get v+k);generalize e.put v (e.get v+k)=e' at hh hg;obtain⟨h1,h2,h3,h4⟩:=hh;obtain rfl|rfl|rfl|rfl:v=0\/v=1\/v=2\/v=3:=by omega
      ·have:=wf_bounds h1;rw [show e'.1=e'.get 0 from rfl,hg] at this;exact this
      ·have:=wf_bounds h2;rw [show e'.2.1=e'.get 1 from rfl,hg] at this;exact this
      ·have:=wf_bounds h3;rw [show e'.2.2.1=e'.get 2 from rfl,hg] at this;exact this
      ·have:=wf_bounds h4;rw [show e'.2.2.2=e'.get 3 from rfl,hg] at this;exact this
     have hjl':(j:Int)<p.length:=by omega
     have hrat:=zH (show IsRat wr (.agg #[.bool n1,.slice a1 k1 c1,.bool n2,.slice a2 k2 c2]) q from⟨n1,a1,k1,c1,n2,a2,k2,c2,rfl,i1,i2⟩);have hnext:fromL v 0 (L.take k)++(shiftL p v k).take (j+1)=(fromL v 0 (L.take k)++(shiftL p v k).take j)++[(e.put v (e.get v+k),q)]:=by rw [hshift,List.append_assoc]
     replace hnext:=zH hnext;have hset:=exC_set e v hv (e.get v+k) [.bool n1,.slice a1 k1 c1,.bool n2,.slice a2 k2 c2];have hat:=exC_at e v hv [.bool n1,.slice a1 k1 c1,.bool n2,.slice a2 k2 c2];obtain⟨e',he'⟩:∃ e',e'=e.put v (e.get v+k):=⟨_,rfl⟩;rw [<- he'] at hset hnext hcfr hIn;have hwr:IntKind.i64.wrap (e.get v+k)=e.get v+k:=wrap_id hwb;clear hshift he' hwb hC i1 i2;obtain⟨e1,e2,e3,e4⟩:=e;obtain⟨g1,g2,g3,g4⟩:=e';generalize Ex.get (e1,e2,e3,e4) v=x at hset hat hwr;simp only [exC,List.cons_append,List.nil_append] at hr hset hat
     go_upto_region 8 with (first
     |(refine wpList_index_at rfl _ _ 27 rfl monoT Tryz.underlying27 _ 8 96 (by kernel_rfl) _ _ _ rfl .i64 _ rfl j rfl hjl b'' off' rfl ?_)
     |(refine wpList_load_mid rfl 43 _ rfl _ _ rfl _ _ hr Tryz.underlying43 rfl (by kernel_rfl) ?_))
     refine abs1 fun W2 hb2 B hsz2=>?_;have hS2:=zH (hS.out.on hb2);have hbW2:=hb.trans (hb2.mono hb.size);have hrat2:=hrat.out.on hb2;have z:=B.at1 v _ hat;have hf:=B.frozen v;clear hb2 hS hr hrat hb;generalize wr.heap.size=r at *
     go_upto_region 9 with (fail)
     have hl3:=setCell_lr (j:=v) B (.int .i64 (x+k));have B3:=B.set v (.int .i64 (x+k));have hb3:Below w.heap.size W2 (W2.setCell ⟨r,v,none⟩ (.int .i64 (x+k))):=setCell_below (by omega) _;rw [hset] at B3;generalize W2.setCell ⟨r,v,none⟩ (.int .i64 (x+k))=W3 at *;have hS3:=zH (hS2.out.lr hl3 (by decide) (by simp;omega));have hrat3:=hrat2.lr hl3 (by decide);have hbW3:=hbW2.trans hb3;clear z hf hset hat hl3 hS2 hrat2 hbW2;have z1:=B3.at1 0 _ rfl;have z2:=B3.at1 1 _ rfl;have z3:=B3.at1 2 _ rfl;have z4:=B3.at1 3 _ rfl;have y1:=B3.at1 4 _ rfl;have y2:=B3.at1 5 _ rfl;have y3:=B3.at1 6 _ rfl;have y4:=B3.at1 7 _ rfl;have hcall:=add_sums w.heap.size _ (g1,g2,g3,g4) q _ W3 hS3.out hIn.1 hrat3 hIn.2 hcfr hlen;rw [<- hnext.out] at hcall;simp only [exV,exC] at hcall
     go_wp2_with (go_at_call 90;refine hcall.mono ?_;rintro e w6 ⟨rfl,hS6,hsz6,hg6⟩)
     have hl6:Lr (some w.heap.size) 0 W3 w6:=sums_lr hS3.out hS6 hg6;go_roundw
     case measure=>simp [intOf];omega
     case rel=>exact⟨j+1,by omega,by go_num,zH hS6,hbW3.trans (hl6.belowAt hbW3.size (fun k hk=>by cases hk;exact Nat.le_refl _)),hS6.lt⟩
    ·obtain rfl:j=p.length:=by omega
     rw [show (shiftL p v k).take p.length=shiftL p v k from List.take_of_length_le (by simp [shiftL]),<- fromL_step v hjp] at hS;go_wp2;go_roundw
     case measure=>simp [intOf];omega
     case rel=>exact⟨k+1,by omega,by go_num,hS,hb⟩
  ·obtain rfl:k=L.length:=by omega
   rw [List.take_of_length_le (Nat.le_refl _)] at hS;have hcall:=collect_any _ _ wr hS.out (by have:=hok.out.n;omega)
   go_wp2_with (go_at_call 91;refine hcall.mono ?_;rintro e w2 ⟨v2,rfl,hv2,hb2⟩)
   go_ret;exact⟨_,rfl,hv2,hb.trans (hb2.mono hb.size)⟩
end Go.Proofs.YtopclbeomcggiaaGreat
end
section
namespace Q
open Go Go.RowKit Go.Proofs.YtopclbeomcggiaaGreat
theorem wpList_store_part {P:Program} {w:World} {ops:Array Oper} {rest:List Oper} {o:Oper} {a:Act} {Q:Exit->Act->World->Prop} (hg:o.guard=none) (ty:TypeId) (x y:Operand) (hop:o.op=.store ty x y)
  (g off:Nat) (T:TypeId) (cs:List Value) (vs:Array Value) (hx:a.eval x=.pointer (some ⟨g,off,none⟩)) (hy:a.eval y=.agg vs) (hB:Blk w g T cs) (hl:off+vs.size<=cs.length)
  (hi:(P.info? ty).map (·.size)=some vs.size) (h1:vs.all (·.oneCell')=true)
  (hK:∀ w',Blk w' g T (cs.take off++vs.toList++cs.drop (off+vs.size))->Lr (some g) T w w'->wpList P ops Q rest (a.put o.dst undef) w'):wpList P ops Q (o::rest) a w:=by
 refine wpList_store_mid hg ty x y hop g off vs hx hy (hB.there off _ hl) hi h1 ?_;obtain⟨h1,h2⟩:=setCells_blk vs.toList off w cs hB (by simpa using hl);refine hK _ (by simpa using h1) ⟨h2,fun k hk=>by cases hk;exact⟨hB.noOther,h1.noOther⟩⟩
def cellNat (w:World) (a:Addr):Nat:=match w.cell? a with
|some (.int _ x)=>x.toNat
|_=>0
end Q
namespace Go.Proofs.YtopclbeomcggiaaGreat
open Go.RowKit Q Go.WideMaps Go.Maps
theorem Ex.get_bounds {e:Ex} (h:InR e) {v:Nat} (hv:v<4):-9223372036854775808<=e.get v/\e.get v<=9223372036854775807:=by
 obtain⟨h1,h2,h3,h4⟩:=h;obtain rfl|rfl|rfl|rfl:v=0\/v=1\/v=2\/v=3:=by omega
 ·exact wf_bounds h1
 ·exact wf_bounds h2
 ·exact wf_bounds h3
 ·exact wf_bounds h4
def ratC (c:RK):List Value:=[.bool c.n,.slice c.a c.k c.c,.bool c.n',.slice c.a' c.k' c.c']
end Go.Proofs.YtopclbeomcggiaaGreat
end
section
namespace Go.Proofs.YtopclbeomcggiaaGreat
open Go.RowKit Q Go.WideMaps Go.Maps
theorem elTerm_okT:elTerm.ok monoT:=elTerm_ok (by decide)
structure Rows1 (base:Nat) (w:World) (vs:List Value) (Ls:List (List Trm)):Prop where
 len:vs.length=Ls.length
 own:∀ (n:Nat) v l,vs[n]?=some v->Ls[n]?=some l->OwnPoly base w v l
 dis:∀ (m n:Nat) a b,m≠n->vs[m]?=some a->vs[n]?=some b->a.ownBlock=none\/a.ownBlock≠b.ownBlock
theorem Rows1.on {base:Nat} {w w':World} {vs:List Value} {Ls:List (List Trm)} (h:Rows1 base w vs Ls) (hb:Below w.heap.size w w'):Rows1 base w' vs Ls :=
 ⟨h.len,fun n v l h1 h2=>(h.own n v l h1 h2).on hb,h.dis⟩
theorem rep_get {α:Type} {N n:Nat} {a b:α} (h:(List.replicate N a)[n]?=some b):b=a:=by
 rw [List.getElem?_replicate] at h;split at h
 ·cases h;rfl
 ·cases h
theorem Rows1.start (base:Nat) (w:World) (N:Nat):Rows1 base w (List.replicate N (.slice none 0 0)) (List.replicate N []):=by
 refine⟨by simp,fun n v l h1 h2=>?_,fun m n a b _ h1 _=>.inl ?_⟩
 ·have e1:=rep_get h1;have e2:=rep_get h2;subst e1 e2;exact OwnSl.nil _ _ _
 ·rw [rep_get h1];rfl
theorem Rows1.lr {g:Option Nat} {T:TypeId} {base:Nat} {w w':World} {vs:List Value} {Ls:List (List Trm)} (h:Rows1 base w vs Ls) (hl:Lr g T w w') (hT:uT≠T) (hT':monoT≠T):Rows1 base w' vs Ls :=
 ⟨h.len,fun n v l h1 h2=>(h.own n v l h1 h2).lr hl hT (by
  have ho:=(h.own n v l h1 h2).okr
  cases hv:v.ownBlock with
 |none=>exact .inl rfl
 |some k =>
   right;intro e;have h3:=ho k hv;have h4:=(hl.2 k e.symm).1;obtain⟨xs,⟨_,hrow⟩,_⟩:=h.own n v l h1 h2;rcases hrow with ⟨rfl,_⟩|⟨g',cap,cur,rfl,_,hg,_⟩
   ·simp [Value.ownBlock] at hv
   ·simp [Value.ownBlock] at hv;subst hv
    exact hT' (h4 _ _ _ hg)),h.dis⟩
theorem Rows1.blk {base:Nat} {w:World} {vs:List Value} {Ls:List (List Trm)} (h:Rows1 base w vs Ls) {n:Nat} {v:Value} (hv:vs[n]?=some v) {k:Nat} (hk:v.ownBlock=some k):base<=k/\k<w.heap.size:=by
 have hml:n<Ls.length:=by rw [<- h.len];exact (List.getElem?_eq_some_iff.1 hv).1
 exact (h.own n v _ hv (List.getElem?_eq_getElem hml)).base_le k hk
theorem Rows1.lrB {r base:Nat} {T:TypeId} {w w':World} {vs:List Value} {Ls:List (List Trm)} (h:Rows1 base w vs Ls) (hl:Lr (some r) T w w') (hT:uT≠T) (hne:∀ (n:Nat) v,vs[n]?=some v->v.ownBlock≠some r):Rows1 base w' vs Ls :=
 ⟨h.len,fun n v l h1 h2=>(h.own n v l h1 h2).lr hl hT (.inr (hne n v h1)),h.dis⟩
theorem isSl_of_new {g:Option Nat} {α:Type} {e:El α} {w:World} {v:Value} {t:α} (h:∃ b cs,some b≠g/\v=.slice (some ⟨b,0,none⟩) 1 1/\Cells e.T w b 0 cs/\e.E w cs t):IsSl e w v [t]:=by
 obtain⟨b,cs,_,rfl,h3,h4⟩:=h;exact⟨_,1,cs,rfl,Nat.le_refl _,fun _=>⟨b,0,rfl,h3⟩,Elems.single h4⟩
theorem Rows1.set {base:Nat} {w w':World} {vs:List Value} {Ls:List (List Trm)} {n:Nat} {v v':Value} {l':List Trm} (h:Rows1 base w vs Ls) (hv:vs[n]?=some v) (hl:Lr v.ownBlock monoT w w') (ho:OwnPoly base w' v' l')
  (hn:v'.ownBlock=v.ownBlock\/∃ k,v'.ownBlock=some k/\w.heap.size<=k):Rows1 base w' (vs.set n v') (Ls.set n l'):=by
 have hnl:n<vs.length:=(List.getElem?_eq_some_iff.1 hv).1;refine⟨by simp [h.len],fun m u l h1 h2=>?_,fun m k a b hmk h1 h2=>?_⟩
 ·rw [List.getElem?_set] at h1 h2;by_cases hmn:n=m
  ·subst hmn;rw [if_pos rfl,if_pos hnl] at h1;rw [if_pos rfl,if_pos (by rw [<- h.len];exact hnl)] at h2;cases h1;cases h2;exact ho
  ·rw [if_neg hmn] at h1 h2;exact (h.own m u l h1 h2).lr hl (elTerm_ok (by decide)) (h.dis m n u v (Ne.symm hmn) h1 hv)
 ·rw [List.getElem?_set] at h1 h2
  have hlt:∀ (m:Nat) (a:Value),vs[m]?=some a->∀ k,a.ownBlock=some k->k<w.heap.size:=fun m a ha k hk=>by
   have hml:m<Ls.length:=by rw [<- h.len];exact (List.getElem?_eq_some_iff.1 ha).1
   exact ((h.own m a _ ha (List.getElem?_eq_getElem hml)).base_le k hk).2
  by_cases hm:n=m
  ·subst hm;rw [if_pos rfl,if_pos hnl] at h1;cases h1;rw [if_neg hmk] at h2;rcases hn with hn|⟨q,hn,hq⟩
   ·rw [hn];exact h.dis n k v b hmk hv h2
   ·right;intro e;have:=hlt k b h2 q (by rw [<- e,hn]);omega
  ·rw [if_neg hm] at h1;by_cases hk:n=k
   ·subst hk;rw [if_pos rfl,if_pos hnl] at h2;cases h2;rcases hn with hn|⟨q,hn,hq⟩
    ·rw [hn];exact h.dis m n a v hmk h1 hv
    ·right;intro e;have:=hlt m a h1 q (by rw [e,hn]);omega
   ·rw [if_neg hk] at h2;exact h.dis m k a b hmk h1 h2
theorem elems_polys {w:World}:∀ {vs:List Value} {Ls:List (List Trm)},vs.length=Ls.length->(∀ (n:Nat) v l,vs[n]?=some v->Ls[n]?=some l->IsPoly w v l)->Elems elPoly.E w vs Ls
|[],[],_,_=>rfl
|v::vs,l::Ls,h,hp=>⟨[v],vs,rfl,⟨v,rfl,hp 0 v l rfl rfl⟩,elems_polys (by simpa using h) (fun n v l h1 h2=>hp (n+1) v l (by simpa using h1) (by simpa using h2))⟩
|[],_::_,h,_=>by simp at h
|_::_,[],h,_=>by simp at h
theorem isPolys_of {base g:Nat} {w:World} {vs:List Value} {Ls:List (List Trm)} (hB:Blk w g polyT vs) (h:Rows1 base w vs Ls):IsPolys w (.slice (some ⟨g,0,none⟩) vs.length vs.length) Ls :=
 ⟨_,vs.length,vs,by rw [h.len],by rw [h.len];exact Nat.le_refl _,hB.at,elems_polys h.len (fun n v l h1 h2=>(h.own n v l h1 h2).isSl)⟩
theorem coeffP_step (p:List Trm) {k:Nat} {t:Trm} (h:p[k]?=some t) (v:Nat) (n:Int):coeffP (p.take (k+1)) v n=coeffP (p.take k) v n++if t.1.get v=n then [(t.1.put v 0,t.2)] else []:=by
 rw [List.take_add_one,h];unfold coeffP;rw [List.filter_append,List.map_append]
 congr 1
 simp only [Option.toList_some,List.filter_cons,List.filter_nil];split <;> split <;> simp_all
def coefTo (p:List Trm) (v N k:Nat):List (List Trm):=(List.range N).map fun n:Nat=>coeffP (p.take k) v n
theorem coefTo_get (p:List Trm) (v:Nat) {N n:Nat} (k:Nat) (h:n<N):(coefTo p v N k)[n]?=some (coeffP (p.take k) v n):=by simp [coefTo,h]
theorem coefTo_step (p:List Trm) (v N:Nat) {k:Nat} {t:Trm} (h:p[k]?=some t) {n:Nat} (hn:t.1.get v=n) (hN:n<N):coefTo p v N (k+1)=(coefTo p v N k).set n (coeffP (p.take k) v n++[(t.1.put v 0,t.2)]):=by
 apply List.ext_getElem?;intro m;rw [List.getElem?_set];by_cases hm:m<N
 ·rw [coefTo_get _ _ _ hm,coeffP_step p h];by_cases hmn:n=m
  ·subst hmn;rw [if_pos rfl,if_pos hn,if_pos (by simpa [coefTo] using hN)]
  ·rw [if_neg hmn,coefTo_get _ _ _ hm,if_neg (by omega),List.append_nil]
 ·rw [List.getElem?_eq_none (by simp [coefTo];omega)];split
  ·rename_i e;subst e;omega
  ·rw [List.getElem?_eq_none (by simp [coefTo];omega)]
theorem coefTo_zero (p:List Trm) (v N:Nat):coefTo p v N 0=List.replicate N []:=by
 apply List.ext_getElem?;intro m;by_cases hm:m<N
 ·rw [coefTo_get _ _ _ hm];simp [coeffP,hm]
 ·rw [List.getElem?_eq_none (by simp [coefTo];omega),List.getElem?_eq_none (by simp;omega)]
theorem coeffs_any (vp:Value) (p:List Trm) (v:Nat) (w:World) (hp:IsPoly w vp p) (hv:v<4) (hn:NatL p) (hd:degP p v<=100000000) (hpl:p.length<=100000000):Calls Tryz.prog 62 #[vp,.int .i64 v] w (RetPolys w (coeffsP p v)):=by
 have hcall:=deg_any vp p v w hp hv hpl;have hdg:=degP_ge p v;have hlt:∀ t∈p,t.1.get v<((degP p v+1).toNat:Int):=degP_lt;have hR:coeffsP p v=coefTo p v (degP p v+1).toNat p.length:=by rw [coefTo,List.take_of_length_le (Nat.le_refl _)];rfl
 rw [hR];clear hR;obtain⟨ap,cp,rfl,hcp⟩:=hp.shape;generalize degP p v=d at *;obtain⟨N,rfl⟩:∃ N:Nat,d=(N:Int) - 1:=⟨(d+1).toNat,by omega⟩;have hNe:((N:Int) - 1+1).toNat=N:=by omega
 rw [hNe] at hlt ⊢;have hN1:N<=100000001:=by omega
 have hwN:IntKind.i64.wrap ((N:Int)-1+1)=(N:Int):=by rw [wrap_id (by omega)];omega
 have hv4:(v:Int)<4:=by omega
 replace hn:=zH hn;replace hlt:=zH hlt;clear hNe hdg hd
 go_enter Tryz.func62,Tryz.ntmps62
 go_wp2_with (first
 |(go_at_call 53;refine hcall.mono ?_;rintro en w1 ⟨rfl,hb1⟩)
 |(at_make;refine wpList_make_blk rfl _ _ _ rfl polyT (.slice none 0 0) 1 24 Tryz.underlying75 (by kernel_rfl) rfl rfl .i64 .i64 _ _ N rfl rfl rfl rfl (by omega) (by omega) ?_;intro W hB hbW))
 have hb0:=hb1.trans (hbW.mono hb1.size);have hog:w.heap.size<=w1.heap.size:=hb1.size;have hB0:Blk W w1.heap.size polyT (List.replicate N (.slice none 0 0)):=hB;have hR0:Rows1 w.heap.size W (List.replicate N (.slice none 0 0)) (coefTo p v N 0):=by rw [coefTo_zero];exact Rows1.start _ _ _
 clear hB hbW hb1;generalize w1.heap.size=og at *;go_wp2
 go_loopw [16] (fun i wr=>∃ (k:Nat) (vs:List Value),k<=p.length/\i=.int .i64 k/\vs.length=N/\Hid (Blk wr og polyT vs)/\Hid (Rows1 w.heap.size wr vs (coefTo p v N k))/\Below w.heap.size w wr) (fun i _=>p.length-(intOf i).toNat)
 case atStart=>exact⟨0,_,by omega,rfl,by simp,zH hB0,zH hR0,hb0⟩
 case round =>
  clear hB0 hR0 hb0;obtain⟨k,vs,hk,rfl,hvl,hB,hR,hb⟩:=hrel;by_cases hkl:k<p.length
  ·have hjq:p[k]?=some p[k]:=List.getElem?_eq_getElem hkl;obtain⟨b'',off',cs,rfl,-,hE,hC⟩:=(hp.on hb).get hjq;generalize p[k]=t at hjq hE;obtain⟨e,q⟩:=t;obtain⟨r,rfl,n1,x1,k1,d1,n2,x2,k2,d2,rfl,i1,i2⟩:=hE;have hr:=hC.range;have hkl':(k:Int)<p.length:=by omega
   have hmem:=List.mem_of_getElem? hjq;have hrat:=zH (show IsRat wr (.agg #[.bool n1,.slice x1 k1 d1,.bool n2,.slice x2 k2 d2]) q from⟨n1,x1,k1,d1,n2,x2,k2,d2,rfl,i1,i2⟩);have hmax:0<=e.get v:=Ex.nat_get (hn.out _ hmem) v;have hltN:e.get v<(N:Int):=hlt.out _ hmem;obtain⟨m,hm⟩:∃ m:Nat,e.get v=m:=⟨(e.get v).toNat,by omega⟩;have hmN:m<N:=by omega
   have hstep:=coefTo_step p v N hjq hm hmN;have hat:=exC_at e v hv [.bool n1,.slice x1 k1 d1,.bool n2,.slice x2 k2 d2];have hset:=exC_set e v hv 0 [.bool n1,.slice x1 k1 d1,.bool n2,.slice x2 k2 d2];rw [hm] at hat;simp only at hstep;generalize hE':e.put v 0=E' at hset hstep;clear hm hmax hltN hE' hC i1 i2;obtain⟨e1,e2,e3,e4⟩:=e;obtain⟨g1,g2,g3,g4⟩:=E';simp only [exC,List.cons_append,List.nil_append] at hr hat hset;have hcur:vs[m]?=some vs[m]:=List.getElem?_eq_getElem (by omega);generalize vs[m]=cur at hcur;have hown:=hR.out.own m cur _ hcur (coefTo_get p v k hmN)
   go_upto_region 5 with (first
   |(refine wpList_index_at rfl _ _ 27 rfl monoT Tryz.underlying27 _ 8 96 (by kernel_rfl) _ _ _ rfl .i64 _ rfl k rfl hkl b'' off' rfl ?_)
   |(refine wpList_load_mid rfl 43 _ rfl _ _ rfl _ _ hr Tryz.underlying43 rfl (by kernel_rfl) ?_))
   refine abs1 fun W2 hb2 Bx hsz2=>?_;have hogl:og<wr.heap.size:=hB.out.lt;have hwl:w.heap.size<=wr.heap.size:=hb.size;have hblk:∀ (n:Nat) v,vs[n]?=some v->v.ownBlock≠some wr.heap.size:=fun n v hv he=>by have:=(hR.out.blk hv he).2;omega
   have hbe:=hown.base_le
   have hog2:cur.ownBlock≠some og:=by
    intro he;have h1:=(hown.okr og he).2;have h2:=hB.out.noOther;have:=h1 _ _ _ hB.out;exact absurd this (by decide)
   replace hblk:=zH hblk;replace hbe:=zH hbe;have hB2:=zH (hB.out.on hb2);have hR2:=zH (hR.out.on hb2);have hbW2:=hb.trans (hb2.mono hb.size);have hrat2:=hrat.out.on hb2;have z:=Bx.at1 v _ hat;have hf:=Bx.frozen v;clear hb2 hB hR hr hrat hb hown;generalize wr.heap.size=r at *
   go_upto_region 7 with (fail)
   have hl3:=setCell_lr (j:=v) Bx (.int .i64 0);have B3:=Bx.set v (.int .i64 0);have hb3:Below w.heap.size W2 (W2.setCell ⟨r,v,none⟩ (.int .i64 0)):=setCell_below (by omega) _;rw [hset] at B3;generalize W2.setCell ⟨r,v,none⟩ (.int .i64 0)=W3 at *;have hB3:=hB2.out.lr hl3 (by simp;omega);have hR3:=hR2.out.lrB hl3 (by decide) hblk.out;have hrat3:=hrat2.lr hl3 (by decide);have hbW3:=hbW2.trans hb3;have hsz3:r<W3.heap.size:=B3.lt;clear z hf hset hat hl3 hB2 hR2 hrat2 hb3 hbW2 Bx;have hown:=hR3.own m cur _ hcur (coefTo_get p v k hmN);have hner:some r≠cur.ownBlock:=fun h=>hblk.out m cur hcur h.symm;have hneo:some og≠cur.ownBlock:=fun h=>hog2 h.symm;have hcell:∀ w1,Lr cur.ownBlock monoT W3 w1->w1.cell? ⟨og,m,none⟩=some cur:=fun w1 hL=>by rw [(hB3.lr hL hneo).cell m];exact hcur
   have hlenL:(coeffP (p.take k) v m).length<=100000000:=by
    unfold coeffP;rw [List.length_map];have:=List.length_filter_le (fun t:Trm=>decide (t.1.get v=(m:Int))) (p.take k);rw [List.length_take] at this;omega
   go_upto_region 7 with (fail)
   refine wp_region_L mixed (cur.ownBlock) (monoT) (hown.okr) [.eq (.slice (some ⟨og,0,none⟩) N N),.eq (.int .i64 (m:Int)),.eq (.slice (some ⟨og,0,none⟩) N N),.eq (.int .i64 (m:Int)),.eq (.pointer (some ⟨og,0+m*1,none⟩)),.eq (cur),.eq (.agg #[.int .i64 g1,.int .i64 g2,.int .i64 g3,.int .i64 g4,.bool n1,.slice x1 k1 d1,.bool n2,.slice x2 k2 d2]),.new1 elTerm elTerm_okT (((g1,g2,g3,g4),q)),.row elTerm (w.heap.size) W3.heap.size (coeffP (p.take k) v m++[((g1,g2,g3,g4),q)]),.eq (.pointer (some ⟨og,0+m*1,none⟩))] [27,28,29,30,31,32,33,34,35,36] rfl rfl rfl rfl ⟨?_,?_,?_,?_,?_,?_,?_,?_,?_,?_,trivial⟩ ?_
   ·exact fun _ _ a _ _ _=>xM rfl (a 5 rfl)
   ·exact fun _ _ a _ _ _=>xM rfl (a 8 rfl)
   ·exact fun _ _ a _ _ _=>xM rfl (a 5 rfl)
   ·exact fun _ _ a _ _ _=>xM rfl (a 8 rfl)
   ·exact fun _ _ _ _ _ e=>pI rfl Tryz.underlying75 og 0 m (hmN) (e.1 rfl) (e.2.1 rfl)
   ·intro A w1 hA hL hS he;have h31:=eT 31 (he.1 rfl);refine goOn_plain rfl ?_;have c0:=hcell w1 hL;exact stepG_pure rfl rfl gZ
   ·intro A w1 hA hL hS he;have h7:A.eval (.tmp 7)=.pointer (some ⟨r,0,none⟩):=hA 7 rfl;have c0:=((B3.lr hL hner)).at1 0 _ rfl;have c1:=((B3.lr hL hner)).at1 1 _ rfl;have c2:=((B3.lr hL hner)).at1 2 _ rfl;have c3:=((B3.lr hL hner)).at1 3 _ rfl;have c4:=((B3.lr hL hner)).at1 4 _ rfl;have c5:=((B3.lr hL hner)).at1 5 _ rfl;have c6:=((B3.lr hL hner)).at1 6 _ rfl;have c7:=((B3.lr hL hner)).at1 7 _ rfl;exact pZ rfl
   ·intro A w1 hA hL hS he;have hb:=hS rfl;have h33:=eT 33 (he.1 rfl);refine goOn_plain rfl ?_;have hE:(elTerm:El _).E w1 _ (((g1,g2,g3,g4),q)):=⟨_,rfl,(hrat3.on hb).cellsC⟩;refine stepG_new1 rfl rfl ((hown.okr).lr hL) hE (execOp_buildSlice rfl ?_) (fun _ _ h=>h);simp only [List.map_toArray,List.map_cons,List.map_nil,h33];exact run_new1_elTermP _ _ ((elTerm).len hE)
   ·intro A w1 hA hL hS he;have hb:=hS rfl;have h32:=eT 32 (he.1 rfl);obtain⟨v34,h34,f34⟩:=fT 34 (he.2.1 rfl);exact goOn_plain rfl (stepG_append rfl rfl rfl Tryz.underlying27 info_elTerm h32 h34 (hown.on hb) rfl rfl (isSl_of_new f34) (by simp;omega) (Nat.le_trans hbW3.size hb.size) hL.1.size (fun _ _ h1 h2=>⟨h1,h2⟩))
   ·exact fun _ _ _ _ _ e=>pI rfl Tryz.underlying75 og 0 m (hmN) (e.1 rfl) (e.2.1 rfl)
   ·intro w5 hL;simp only [TailL,FactL.eq,FactL.new1,FactL.row,FactL.of,FactL.fragile,List.length_cons,List.length_nil,List.drop_succ_cons,List.drop_zero];rintro v34 - v35 ⟨hown5,hnew⟩;go_frame;obtain⟨ca,n5,cc,rfl⟩:∃ ca n cc,v35=.slice ca n cc:=let ⟨a,c,h,_⟩:=hown5.shape;⟨a,_,c,h⟩;have hBo:=hB3.lr hL hneo;have z:=hBo.at1 m cur hcur;have hf:=hBo.frozen m;have hR5:=hR3.set hcur hL hown5 hnew;rw [<- hstep] at hR5;have hbW5:=hbW3.trans (hL.belowAt hbW3.size (fun k hk=>(hbe.out k hk).1));clear hcell hown;go_wp2;have hl6:=setCell_lr (j:=m) hBo (.slice ca n5 cc);go_roundw
    case measure=>simp [intOf];omega
    case rel=>exact⟨k+1,_,by omega,by go_num,by simp;exact hvl,zH (hBo.set m _),zH (hR5.lr hl6 (by decide) (by decide)),hbW5.trans (hl6.belowAt hbW5.size (fun k hk=>by cases hk;exact hog))⟩
  ·obtain rfl:k=p.length:=by omega
   have hP:=isPolys_of hB.out hR.out;rw [hvl] at hP;go_wp2;go_ret;exact⟨_,rfl,hP,hb⟩
end Go.Proofs.YtopclbeomcggiaaGreat
end
section
namespace Go.Proofs.YtopclbeomcggiaaGreat
open Go.RowKit Q Go.WideMaps Go.Maps
def RetPolysO (w:World) (L:List (List Trm)) (e:Ending) (w':World):Prop:=∃ g vs,e=.returned (.slice (some ⟨g,0,none⟩) vs.length vs.length)/\Blk w' g polyT vs/\w.heap.size<=g/\Rows1 w.heap.size w' vs L/\Below w.heap.size w w'
theorem coeffs_own (vp:Value) (p:List Trm) (v:Nat) (w:World) (hp:IsPoly w vp p) (hv:v<4) (hn:NatL p) (hd:degP p v<=100000000) (hpl:p.length<=100000000):Calls Tryz.prog 62 #[vp,.int .i64 v] w (RetPolysO w (coeffsP p v)):=by
 have hcall:=deg_any vp p v w hp hv hpl;have hdg:=degP_ge p v;have hlt:∀ t∈p,t.1.get v<((degP p v+1).toNat:Int):=degP_lt;have hR:coeffsP p v=coefTo p v (degP p v+1).toNat p.length:=by rw [coefTo,List.take_of_length_le (Nat.le_refl _)];rfl
 rw [hR];clear hR;obtain⟨ap,cp,rfl,hcp⟩:=hp.shape;generalize degP p v=d at *;obtain⟨N,rfl⟩:∃ N:Nat,d=(N:Int) - 1:=⟨(d+1).toNat,by omega⟩;have hNe:((N:Int) - 1+1).toNat=N:=by omega
 rw [hNe] at hlt ⊢;have hN1:N<=100000001:=by omega
 have hwN:IntKind.i64.wrap ((N:Int)-1+1)=(N:Int):=by rw [wrap_id (by omega)];omega
 have hv4:(v:Int)<4:=by omega
 replace hn:=zH hn;replace hlt:=zH hlt;clear hNe hdg hd
 go_enter Tryz.func62,Tryz.ntmps62
 go_wp2_with (first
 |(go_at_call 53;refine hcall.mono ?_;rintro en w1 ⟨rfl,hb1⟩)
 |(at_make;refine wpList_make_blk rfl _ _ _ rfl polyT (.slice none 0 0) 1 24 Tryz.underlying75 (by kernel_rfl) rfl rfl .i64 .i64 _ _ N rfl rfl rfl rfl (by omega) (by omega) ?_;intro W hB hbW))
 have hb0:=hb1.trans (hbW.mono hb1.size);have hog:w.heap.size<=w1.heap.size:=hb1.size;have hB0:Blk W w1.heap.size polyT (List.replicate N (.slice none 0 0)):=hB;have hR0:Rows1 w.heap.size W (List.replicate N (.slice none 0 0)) (coefTo p v N 0):=by rw [coefTo_zero];exact Rows1.start _ _ _
 clear hB hbW hb1;generalize w1.heap.size=og at *;go_wp2
 go_loopw [16] (fun i wr=>∃ (k:Nat) (vs:List Value),k<=p.length/\i=.int .i64 k/\vs.length=N/\Hid (Blk wr og polyT vs)/\Hid (Rows1 w.heap.size wr vs (coefTo p v N k))/\Below w.heap.size w wr) (fun i _=>p.length-(intOf i).toNat)
 case atStart=>exact⟨0,_,by omega,rfl,by simp,zH hB0,zH hR0,hb0⟩
 case round =>
  clear hB0 hR0 hb0;obtain⟨k,vs,hk,rfl,hvl,hB,hR,hb⟩:=hrel;by_cases hkl:k<p.length
  ·have hjq:p[k]?=some p[k]:=List.getElem?_eq_getElem hkl;obtain⟨b'',off',cs,rfl,-,hE,hC⟩:=(hp.on hb).get hjq;generalize p[k]=t at hjq hE;obtain⟨e,q⟩:=t;obtain⟨r,rfl,n1,x1,k1,d1,n2,x2,k2,d2,rfl,i1,i2⟩:=hE;have hr:=hC.range;have hkl':(k:Int)<p.length:=by omega
   have hmem:=List.mem_of_getElem? hjq;have hrat:=zH (show IsRat wr (.agg #[.bool n1,.slice x1 k1 d1,.bool n2,.slice x2 k2 d2]) q from⟨n1,x1,k1,d1,n2,x2,k2,d2,rfl,i1,i2⟩);have hmax:0<=e.get v:=Ex.nat_get (hn.out _ hmem) v;have hltN:e.get v<(N:Int):=hlt.out _ hmem;obtain⟨m,hm⟩:∃ m:Nat,e.get v=m:=⟨(e.get v).toNat,by omega⟩;have hmN:m<N:=by omega
   have hstep:=coefTo_step p v N hjq hm hmN;have hat:=exC_at e v hv [.bool n1,.slice x1 k1 d1,.bool n2,.slice x2 k2 d2];have hset:=exC_set e v hv 0 [.bool n1,.slice x1 k1 d1,.bool n2,.slice x2 k2 d2];rw [hm] at hat;simp only at hstep;generalize hE':e.put v 0=E' at hset hstep;clear hm hmax hltN hE' hC i1 i2;obtain⟨e1,e2,e3,e4⟩:=e;obtain⟨g1,g2,g3,g4⟩:=E';simp only [exC,List.cons_append,List.nil_append] at hr hat hset;have hcur:vs[m]?=some vs[m]:=List.getElem?_eq_getElem (by omega);generalize vs[m]=cur at hcur;have hown:=hR.out.own m cur _ hcur (coefTo_get p v k hmN)
   go_upto_region 5 with (first
   |(refine wpList_index_at rfl _ _ 27 rfl monoT Tryz.underlying27 _ 8 96 (by kernel_rfl) _ _ _ rfl .i64 _ rfl k rfl hkl b'' off' rfl ?_)
   |(refine wpList_load_mid rfl 43 _ rfl _ _ rfl _ _ hr Tryz.underlying43 rfl (by kernel_rfl) ?_))
   refine abs1 fun W2 hb2 Bx hsz2=>?_;have hogl:og<wr.heap.size:=hB.out.lt;have hwl:w.heap.size<=wr.heap.size:=hb.size;have hblk:∀ (n:Nat) v,vs[n]?=some v->v.ownBlock≠some wr.heap.size:=fun n v hv he=>by have:=(hR.out.blk hv he).2;omega
   have hbe:=hown.base_le
   have hog2:cur.ownBlock≠some og:=by
    intro he;have h1:=(hown.okr og he).2;have h2:=hB.out.noOther;have:=h1 _ _ _ hB.out;exact absurd this (by decide)
   replace hblk:=zH hblk;replace hbe:=zH hbe;have hB2:=zH (hB.out.on hb2);have hR2:=zH (hR.out.on hb2);have hbW2:=hb.trans (hb2.mono hb.size);have hrat2:=hrat.out.on hb2;have z:=Bx.at1 v _ hat;have hf:=Bx.frozen v;clear hb2 hB hR hr hrat hb hown;generalize wr.heap.size=r at *
   go_upto_region 7 with (fail)
   have hl3:=setCell_lr (j:=v) Bx (.int .i64 0);have B3:=Bx.set v (.int .i64 0);have hb3:Below w.heap.size W2 (W2.setCell ⟨r,v,none⟩ (.int .i64 0)):=setCell_below (by omega) _;rw [hset] at B3;generalize W2.setCell ⟨r,v,none⟩ (.int .i64 0)=W3 at *;have hB3:=hB2.out.lr hl3 (by simp;omega);have hR3:=hR2.out.lrB hl3 (by decide) hblk.out;have hrat3:=hrat2.lr hl3 (by decide);have hbW3:=hbW2.trans hb3;have hsz3:r<W3.heap.size:=B3.lt;clear z hf hset hat hl3 hB2 hR2 hrat2 hb3 hbW2 Bx;have hown:=hR3.own m cur _ hcur (coefTo_get p v k hmN);have hner:some r≠cur.ownBlock:=fun h=>hblk.out m cur hcur h.symm;have hneo:some og≠cur.ownBlock:=fun h=>hog2 h.symm;have hcell:∀ w1,Lr cur.ownBlock monoT W3 w1->w1.cell? ⟨og,m,none⟩=some cur:=fun w1 hL=>by rw [(hB3.lr hL hneo).cell m];exact hcur
   have hlenL:(coeffP (p.take k) v m).length<=100000000:=by
    unfold coeffP;rw [List.length_map];have:=List.length_filter_le (fun t:Trm=>decide (t.1.get v=(m:Int))) (p.take k);rw [List.length_take] at this;omega
   go_upto_region 7 with (fail)
   refine wp_region_L mixed (cur.ownBlock) (monoT) (hown.okr) [.eq (.slice (some ⟨og,0,none⟩) N N),.eq (.int .i64 (m:Int)),.eq (.slice (some ⟨og,0,none⟩) N N),.eq (.int .i64 (m:Int)),.eq (.pointer (some ⟨og,0+m*1,none⟩)),.eq (cur),.eq (.agg #[.int .i64 g1,.int .i64 g2,.int .i64 g3,.int .i64 g4,.bool n1,.slice x1 k1 d1,.bool n2,.slice x2 k2 d2]),.new1 elTerm elTerm_okT (((g1,g2,g3,g4),q)),.row elTerm (w.heap.size) W3.heap.size (coeffP (p.take k) v m++[((g1,g2,g3,g4),q)]),.eq (.pointer (some ⟨og,0+m*1,none⟩))] [27,28,29,30,31,32,33,34,35,36] rfl rfl rfl rfl ⟨?_,?_,?_,?_,?_,?_,?_,?_,?_,?_,trivial⟩ ?_
   ·exact fun _ _ a _ _ _=>xM rfl (a 5 rfl)
   ·exact fun _ _ a _ _ _=>xM rfl (a 8 rfl)
   ·exact fun _ _ a _ _ _=>xM rfl (a 5 rfl)
   ·exact fun _ _ a _ _ _=>xM rfl (a 8 rfl)
   ·exact fun _ _ _ _ _ e=>pI rfl Tryz.underlying75 og 0 m (hmN) (e.1 rfl) (e.2.1 rfl)
   ·intro A w1 hA hL hS he;have h31:=eT 31 (he.1 rfl);refine goOn_plain rfl ?_;have c0:=hcell w1 hL;exact stepG_pure rfl rfl gZ
   ·intro A w1 hA hL hS he;have h7:A.eval (.tmp 7)=.pointer (some ⟨r,0,none⟩):=hA 7 rfl;have c0:=((B3.lr hL hner)).at1 0 _ rfl;have c1:=((B3.lr hL hner)).at1 1 _ rfl;have c2:=((B3.lr hL hner)).at1 2 _ rfl;have c3:=((B3.lr hL hner)).at1 3 _ rfl;have c4:=((B3.lr hL hner)).at1 4 _ rfl;have c5:=((B3.lr hL hner)).at1 5 _ rfl;have c6:=((B3.lr hL hner)).at1 6 _ rfl;have c7:=((B3.lr hL hner)).at1 7 _ rfl;exact pZ rfl
   ·intro A w1 hA hL hS he;have hb:=hS rfl;have h33:=eT 33 (he.1 rfl);refine goOn_plain rfl ?_;have hE:(elTerm:El _).E w1 _ (((g1,g2,g3,g4),q)):=⟨_,rfl,(hrat3.on hb).cellsC⟩;refine stepG_new1 rfl rfl ((hown.okr).lr hL) hE (execOp_buildSlice rfl ?_) (fun _ _ h=>h);simp only [List.map_toArray,List.map_cons,List.map_nil,h33];exact run_new1_elTermP _ _ ((elTerm).len hE)
   ·intro A w1 hA hL hS he;have hb:=hS rfl;have h32:=eT 32 (he.1 rfl);obtain⟨v34,h34,f34⟩:=fT 34 (he.2.1 rfl);exact goOn_plain rfl (stepG_append rfl rfl rfl Tryz.underlying27 info_elTerm h32 h34 (hown.on hb) rfl rfl (isSl_of_new f34) (by simp;omega) (Nat.le_trans hbW3.size hb.size) hL.1.size (fun _ _ h1 h2=>⟨h1,h2⟩))
   ·exact fun _ _ _ _ _ e=>pI rfl Tryz.underlying75 og 0 m (hmN) (e.1 rfl) (e.2.1 rfl)
   ·intro w5 hL;simp only [TailL,FactL.eq,FactL.new1,FactL.row,FactL.of,FactL.fragile,List.length_cons,List.length_nil,List.drop_succ_cons,List.drop_zero];rintro v34 - v35 ⟨hown5,hnew⟩;go_frame;obtain⟨ca,n5,cc,rfl⟩:∃ ca n cc,v35=.slice ca n cc:=let ⟨a,c,h,_⟩:=hown5.shape;⟨a,_,c,h⟩;have hBo:=hB3.lr hL hneo;have z:=hBo.at1 m cur hcur;have hf:=hBo.frozen m;have hR5:=hR3.set hcur hL hown5 hnew;rw [<- hstep] at hR5;have hbW5:=hbW3.trans (hL.belowAt hbW3.size (fun k hk=>(hbe.out k hk).1));clear hcell hown;go_wp2;have hl6:=setCell_lr (j:=m) hBo (.slice ca n5 cc);go_roundw
    case measure=>simp [intOf];omega
    case rel=>exact⟨k+1,_,by omega,by go_num,by simp;exact hvl,zH (hBo.set m _),zH (hR5.lr hl6 (by decide) (by decide)),hbW5.trans (hl6.belowAt hbW5.size (fun k hk=>by cases hk;exact hog))⟩
  ·obtain rfl:k=p.length:=by omega
   go_wp2;go_ret;exact⟨og,vs,by rw [hvl];rfl,hB.out,hog,hR.out,hb⟩
end Go.Proofs.YtopclbeomcggiaaGreat
end
