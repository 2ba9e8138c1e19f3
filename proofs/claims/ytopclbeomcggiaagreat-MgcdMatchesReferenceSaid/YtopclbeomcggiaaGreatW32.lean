/- mgcd: one, over, constant, Normal. -/
import Derived.Test.YtopclbeomcggiaaGreatW31
set_option linter.unusedVariables false
set_option linter.unusedSimpArgs false
set_option maxHeartbeats 16000000
set_option maxRecDepth 100000
section
namespace Q
open Go Go.RowKit Go.Proofs.YtopclbeomcggiaaGreat
theorem Pi{b ts:List ai}{g:ai}(hb:Wp b)(hg:b=g::ts){a:List ai}{r:Option (List ai)}(h:zu a b=some r):∃k,zh b g k a [] r:=by subst hg;exact Rl hb rfl h (by simp[fuel])
theorem Yw{c:Rat}(hc:c≠0)(h:Rk c):Rk (1/c):=by
 have e:1/c=c⁻¹:=by rw[Rat.div_def,Rat.one_mul]
 rw[e];refine⟨?_,?_⟩
 ·rw[Rat.den_inv,if_neg λh=>hc (Rat.num_eq_zero.1 h)];exact h.2
 ·rw[Rat.num_inv,Int.natAbs_mul,Int.natAbs_natCast];refine Nat.le_trans (iV (n:=c.den) ?_) h.1;have:c.num.sign.natAbs<=1:=by rw[Int.natAbs_sign];split<;>omega
  exact Nat.le_trans (Nat.mul_le_mul_right _ this) oM
theorem YX:Rk (((1:Int)):Rat):=by refine⟨dK,?_⟩;have:=jL (n:=(((1:Int)):Rat).num.natAbs) (k:=1) dK;unfold jl;omega
end Q
namespace Go.Proofs.YtopclbeomcggiaaGreat
open Go.RowKit Q Go.WideMaps Go.Maps
theorem xY(w:World):Calls Tryz.prog 51 #[] w (aS w GL):=by
 go_enter Tryz.func51,Tryz.ntmps51
 go_wp2_with (first
  | (go_at_call 47;refine(rV 1 _ oM oM).mono ?_;rintro e w1 ⟨v1,rfl,h1,hb1⟩)
  | (go_at_call 89;refine(OQ _ _ _ h1).mono ?_;rintro e w2 ⟨v2,rfl,h2,hb2⟩))
 go_ret;exact⟨_,rfl,h2,hb1.trans (hb2.mono hb1.size)⟩
theorem Jr(d e:Value)(a b:List ai)(r:Option (List ai))(w:World)(ha:ak w d a)(hb:ak w e b)(kb:Wp b)(h:zu a b=some r):Calls Tryz.prog 93 #[d,e] w (AX w r):=by
 cases b with
 | nil=>simp only[zu,sJ]at h;subst h;exact TE d e a w ha hb
 | cons g b =>
  obtain⟨k,i⟩:=Pi kb rfl h;exact TF d e a b g k r w ha hb i
theorem qG{a b q:List ai}(h:iU a b=some q):Wp q:=by
 unfold iU at h
 cases hd:zu a b with
 | none=>rw[hd]at h;cases h
 | some r =>
  rw[hd]at h;obtain⟨rfl,hq⟩:=jS h;exact hq
theorem nR(d i:Value)(a b q:List ai)(w:World)(ha:ak w d a)(hb:ak w i b)(kb:Wp b)(h:iU a b=some q):Calls Tryz.prog 56 #[d,i] w (aS w q):=by
 unfold iU at h
 cases hd:zu a b with
 | none=>rw[hd]at h;cases h
 | some r =>
  rw[hd]at h;obtain⟨rfl,hq⟩:=jS h;have hc:=Jr d i a b r w ha hb kb hd;clear hq hd h;obtain⟨l,n,rfl,j⟩:=ha.shape;obtain⟨m,o,rfl,k⟩:=hb.shape
  go_enter Tryz.func56,Tryz.ntmps56
  go_wp2_with (go_at_call 93;refine hc.mono ?_;rintro e w1 ⟨v1,rfl,h1,hb1⟩)
  go_ret;exact⟨_,rfl,h1,hb1⟩
theorem sK(s:Value)(a:List ai)(w:World)(ha:ak w s a):Calls Tryz.prog 50 #[s] w (rE w (.bool (lu a))):=by
 match a,ha with
 | [],ha =>
  obtain⟨q,m,rfl,l⟩:=ha.shape
  go_enter Tryz.func50,Tryz.ntmps50
  go_wp2;go_ret;exact⟨rfl,Below.refl _ _⟩
 | t::u::r,ha =>
  obtain⟨q,m,rfl,l⟩:=ha.shape;have y:(((t::u::r).length:Int)==1)=false:=by simp;omega
  generalize(t::u::r).length=n at *;have b:lu (t::u::r)=false:=rfl;rw[b]
  go_enter Tryz.func50,Tryz.ntmps50
  go_wp2;go_ret;exact⟨rfl,Below.refl _ _⟩
 | [t],ha =>
  obtain⟨q,m,rfl,l⟩:=ha.shape;obtain⟨d,i,x,rfl,-,o,k⟩:=ha.get (j:=0) (t:=t) rfl;obtain⟨B,rfl,z⟩:=o;change bS aJ w d (i+0*8) _ at k;have b:lu [t]=decide (t.1=e0):=rfl;rw[b];obtain⟨e,c⟩:=t;simp only at *;have p:=QQ e e0
  go_enter Tryz.func50,Tryz.ntmps50
  go_upto_region 1 with (fail)
  refine aR trivial (none) (0) (fK.none) [.eq (.slice (some ⟨d,i,none⟩) 1 m),.eq (.int .i64 1),.eq (.bool true),.eq (.bool true),.eq (.slice (some ⟨d,i,none⟩) 1 m),.eq (.pointer (some ⟨d,i+0*8,none⟩)),.eq (.pointer (some ⟨d,i+0*8,none⟩)),.eq (.agg (bC e).toArray),.eq (.agg (bC e0).toArray),.eq (.bool (decide (e=e0))),.eq (.bool (decide (e=e0)))] [3,4,5,6,7,8,9,10,11,12,13] rfl rfl rfl rfl ⟨λ_ _ a _ _ _=>xM rfl (a 0 rfl),λA _ _ _ _ he=>have h3:=eT 3 (he.1 rfl);pZ rfl,λA _ _ _ _ he=>have h4:=eT 4 (he.1 rfl);have hc0:=eC A (.int .i64 1);pZ rfl,λ_ _ _ _ _ e=>xM rfl (e.1 rfl),λ_ _ a _ _ e=>yM (e.1 rfl) rfl (a 0 rfl),λ_ _ _ _ _ e=>aQ rfl rfl (e.2.1 rfl) (xI rfl Tryz.underlying27 d i 0 oM (e.1 rfl) rfl),λ_ _ _ _ _ e=>aQ rfl rfl (e.2.1 rfl) (wV rfl (e.1 rfl)),λA w1 hA hL hS he=>aQ rfl rfl (he.2.1 rfl) (xL rfl (fI (k.on hL.below)) Tryz.underlying36 (show(bC e).length=4 from rfl) (he.1 rfl)),?_,?_,λA _ _ _ _ he=>have h6:=eT 6 (he.1 rfl);have h12:=eT 12 (he.2.1 rfl);have hc0:=eC A (.bool false);pZ rfl,trivial⟩ ?_
  ·intro A w1 hA hL hS he;have h6:=eT 6 (he.1 rfl);refine aQ rfl rfl h6 ?_;refine aB rfl rfl ?_;generalize A.eval=ev at *;go_simp
   rfl
  ·intro A w1 hA hL hS he;have h6:=eT 6 (he.2.2.1 rfl);have h10:=eT 10 (he.1 rfl);have h11:=eT 11 (he.2.1 rfl);refine aQ rfl rfl h6 ?_;have hq:=p w1;exact aB rfl rfl gZ
  ·intro w2 hL2;simp only[aT,af.eq,lZ];go_frame;go_wp2;go_ret;exact⟨rfl,hL2.below⟩
theorem Dh(b:Value)(w:World)(ha:ak w b []):Calls Tryz.prog 14 #[b] w (aS w []):=by
 obtain⟨i,j,rfl,d⟩:=ha.shape;simp only[List.length_nil]
 go_enter Tryz.func14,Tryz.ntmps14
 go_wp2;go_ret;exact⟨_,rfl,bU.nil _ _,Below.refl _ _⟩
theorem xZ{a g:List ai}(h:jT a=some g):Wp g:=by
 cases a with
 | nil=>simp only[jT,sJ]at h;subst h;exact Wp.nil
 | cons t r =>
  simp only[jT]at h;obtain⟨b,d⟩:=jS h;rw[b];exact d
theorem nA(x:Value)(a g:List ai)(w:World)(ha:ak w x a)(l:Wp a)(h:jT a=some g):Calls Tryz.prog 14 #[x] w (aS w g):=by
 match a,ha,l,h with
 | [],ha,l,h =>
  simp only[jT,sJ]at h;subst h;exact Dh x w ha
 | t::r,ha,l,h =>
  simp only[jT]at h;have hg:=jS h;obtain⟨rfl,C⟩:=hg;clear h C;have hz:=(l.val.2 t sM).1;have s:=l.rk t sM;have F:=Yw hz s;have d:=λW v (hb:Below w.heap.size w W) (hv:bM W v (((1:Int):Rat)/t.2))=>E8 x v (t::r) (((1:Int):Rat)/t.2) W (ha.on hb) hv F l.rk (by have:=l.len;omega);have q:(1:Rat)=(((1:Int)):Rat):=rfl;rw[q];obtain⟨M,S,rfl,z⟩:=ha.shape;obtain⟨p,u,G,rfl,-,y,b⟩:=ha.get (j:=0) (t:=t) rfl;obtain⟨X,rfl,n⟩:=y;change bS aJ w p (u+0*8) _ at b;have I:=n.len;simp only[List.length_cons]at d ⊢;replace d:=zH d;clear ha l z q;have L:(((r.length+1:Nat):Int)==0)=false:=by simp;omega
  have hp0:0<r.length+1:=oM;generalize r.length+1=N at *
  go_enter Tryz.func14,Tryz.ntmps14
  go_upto_region 3 with (fail)
  obtain⟨N3,A3,K3,C3,N4,A4,K4,C4,rfl,-,-⟩:=id n
  have o:∀W,Below w.heap.size w W->W.cell? ⟨p,u+4,none⟩=some (.bool N3)/\W.cell? ⟨p,u+4+1,none⟩=some (.slice A3 K3 C3)/\W.cell? ⟨p,u+4+2,none⟩=some (.bool N4)/\W.cell? ⟨p,u+4+3,none⟩=some (.slice A4 K4 C4):=λW hb=>by
   have hC:=b.on hb;refine⟨?_,?_,?_,?_⟩
   ·have:=hC.cell 4 (by simp[bC]);simpa[bC]using this
   ·have:=hC.cell 5 (by simp[bC]);simpa[bC,Nat.add_assoc]using this
   ·have:=hC.cell 6 (by simp[bC]);simpa[bC,Nat.add_assoc]using this
   ·have:=hC.cell 7 (by simp[bC]);simpa[bC,Nat.add_assoc]using this
  obtain⟨x1,x2,x3,x4⟩:=o w (Below.refl _ _);have J:=b.lt;have i:=zH (λW v (hb:Below w.heap.size w W) (hv:bM W v (((1:Int)):Rat))=>IE _ _ _ _ W hv (n.on hb).rat YX s hz);obtain⟨x5,x6,x7,x8⟩:=o (w.drew.alloc (.cells #[.bool false,.slice none 0 0,.bool false,.slice none 0 0] 41)) ((oZ (Below.refl w.heap.size w) 1).alloc (nL _) _);replace o:=zH o;clear b
  go_cut [9,10,11,12,13,14,8,15,16,3,4] (λ_ _ _ _ _ _ _ _ _ v3 _ wc=>∃bx n5 a5 k5 c5 n6 a6 k6 c6,v3=.pointer (some ⟨bx,0,none⟩)/\Hid (Blk wc bx 41 [.bool n5,.slice a5 k5 c5,.bool n6,.slice a6 k6 c6])/\Hid (bM wc (.agg #[.bool n5,.slice a5 k5 c5,.bool n6,.slice a6 k6 c6]) (((1:Int):Rat)/t.2))/\Below w.heap.size w wc)
  case first =>
   go_region_with (first
    | (go_at_call 47;refine(rV 1 _ oM oM).mono ?_;rintro en w1 ⟨v1,rfl,h1,hb1⟩;have hbw1:Below w.heap.size w w1:=Below.trans (by first|exact oZ (Below.refl _ _) _|exact(oZ (Below.refl _ _) _).alloc (nL _) _) (hb1.mono (by first|exact nL _|(simp;done)|(simp;omega)));obtain⟨y1,y2,y3,y4⟩:=o.out w1 hbw1;obtain⟨y5,y6,y7,y8⟩:=o.out (w1.alloc (.cells #[.bool false,.slice none 0 0,.bool false,.slice none 0 0] 41)) (hbw1.alloc hbw1.size _);try (have B1:Blk w1 w.heap.size 41 [.bool false,.slice none 0 0,.bool false,.slice none 0 0]:=(Blk.new w.drew 41 [.bool false,.slice none 0 0,.bool false,.slice none 0 0]).on hb1))
    | (go_at_call 46;(first|refine(i.out _ _ hbw1 h1).mono ?_|refine(i.out _ _ (hbw1.alloc hbw1.size _) (h1.on ((Below.refl _ _).alloc (nL _) _))).mono ?_);rintro en w5 ⟨v5,rfl,hv5,hb5⟩;obtain⟨N5,A5,K5,C5,N6,A6,K6,C6,rfl⟩:=fE hv5;have hbw5:Below w.heap.size w w5:=Below.trans (by first|exact hbw1|exact hbw1.alloc hbw1.size _) (hb5.mono (by first|exact hbw1.size|(have:=hbw1.size;simp;omega)));(first|(have B5:=B1.on hb5;have z1:=B5.at1 0 _ rfl;have z2:=B5.at1 1 _ rfl;have z3:=B5.at1 2 _ rfl;have z4:=B5.at1 3 _ rfl;have g1:=B5.frozen 0;have g2:=B5.frozen 1;have g3:=B5.frozen 2;have g4:=B5.frozen 3)|(have B5:Blk w5 w1.heap.size 41 [.bool false,.slice none 0 0,.bool false,.slice none 0 0]:=(Blk.new w1 41 [.bool false,.slice none 0 0,.bool false,.slice none 0 0]).on hb5;have z1:=B5.at1 0 _ rfl;have z2:=B5.at1 1 _ rfl;have z3:=B5.at1 2 _ rfl;have z4:=B5.at1 3 _ rfl;have g1:=B5.frozen 0;have g2:=B5.frozen 1;have g3:=B5.frozen 2;have g4:=B5.frozen 3)|skip);have B6:=Blk.new w5 41 [.bool false,.slice none 0 0,.bool false,.slice none 0 0];have p1:=B6.at1 0 _ rfl;have p2:=B6.at1 1 _ rfl;have p3:=B6.at1 2 _ rfl;have p4:=B6.at1 3 _ rfl;have q1:=B6.frozen 0;have q2:=B6.frozen 1;have q3:=B6.frozen 2;have q4:=B6.frozen 3))
   all_goals first
    | (obtain⟨R5,gr5⟩:=dW [.bool N5,.slice A5 K5 C5,.bool N6,.slice A6 K6 C6] 0 w5 _ B5 sM;have hl5:Lr (some _) 41 w5 _:=⟨gr5,λk D=>by cases D;exact⟨B5.noOther,R5.noOther⟩⟩;have hr5:=hv5.lr hl5 dM;have hbw6:=hbw5.trans (hl5.belowAt hbw5.size (λk D=>by cases D;first|exact nL _|exact hbw1.size));clear hb5 hb1;go_wp2;go_meet;case rel=>exact⟨_,_,_,_,_,_,_,_,_,rfl,zH R5,zH hr5,hbw6⟩)
    | (have R5:=Blk.new w5 41 [.bool N5,.slice A5 K5 C5,.bool N6,.slice A6 K6 C6];have hr5:=hv5.on ((Below.refl _ _).alloc (nL _) (.cells #[.bool N5,.slice A5 K5 C5,.bool N6,.slice A6 K6 C6] 41));have hbw6:=hbw5.alloc hbw5.size (.cells #[.bool N5,.slice A5 K5 C5,.bool N6,.slice A6 K6 C6] 41);clear hb5 hb1;go_wp2;go_meet;case rel=>exact⟨_,_,_,_,_,_,_,_,_,rfl,zH R5,zH hr5,hbw6⟩)
  case rest =>
   obtain⟨bx,n5,a5,k5,c5,n6,a6,k6,c6,rfl,hB,hr,m⟩:=hcut;have y1:=hB.out.at1 0 _ rfl;have y2:=hB.out.at1 1 _ rfl;have y3:=hB.out.at1 2 _ rfl;have y4:=hB.out.at1 3 _ rfl;have B:=d.out _ _ m hr.out;clear x1 x2 x3 x4 x5 x6 x7 x8
   go_wp2_with (go_at_call 48;refine B.mono ?_;rintro e w4 ⟨v4,rfl,h4,hb4⟩)
   go_ret;exact⟨_,rfl,h4,m.trans (hb4.mono m.size)⟩
end Go.Proofs.YtopclbeomcggiaaGreat
end
section
namespace Q
open Go Go.RowKit Go.Proofs.YtopclbeomcggiaaGreat
theorem aV{α b:Type}{a:Option α}{f:α->Option b}{y:b}(h:fD a f=some y):∃x,a=some x/\f x=some y:=by
 cases a with
 | none=>cases h
 | some x=>exact⟨x,rfl,h⟩
theorem Fu{G:List ai->List ai->Option (List ai)}{acc a g:List ai}{l:List (List ai)}(h:uD G acc (a::l)=some g):∃b,G acc a=some b/\(lu b=true->g=b)/\(lu b=false->uD G b l=some g):=by
 rw[uD]at h
 cases hG:G acc a with
 | none=>rw[hG]at h;cases h
 | some b =>
  rw[hG]at h;refine⟨b,rfl,λhc=>?_,λhc=>?_⟩
  ·simp only[hc,if_true,sJ]at h;exact h.symm
  ·simpa[hc]using h
end Q
namespace Go.Proofs.YtopclbeomcggiaaGreat
open Go.RowKit Q Go.WideMaps Go.Maps
def Yx (a b g:List ai):Prop:=∀(va vb:Value)(w:World),ak w va a->ak w vb b->Calls Tryz.prog 16 #[va,vb] w (aS w g)
def Di (G:List ai->List ai->Option (List ai)):Prop:=∀a b g,Wp a->Wp b->G a b=some g->Yx a b g/\Wp g
theorem TP{G:List ai->List ai->Option (List ai)}(z:Di G)(J:Value)(l:List (List ai))(g:List ai)(w:World)(y:je w J l)(Y:l.length<=100000000)(D:∀c∈l,Wp c)(h:uD G [] l=some g) :
  Calls Tryz.prog 61 #[J] w (aS w g):=by
 obtain⟨N,S,rfl,L⟩:=y.shape;replace h:=zH h;replace D:=zH D;replace z:=zH z;replace y:=zH y
 go_enter Tryz.func61,Tryz.ntmps61
 go_wp2
 go_loopw [3,8] (λo i wr=>∃(k:Nat)(n:List ai),k<=l.length/\i=.int .i64 k/\Hid (ak wr o n)/\Hid (Wp n/\uD G n (l.drop k)=some g)/\Below w.heap.size w wr) (λ_ i _=>l.length-(intOf i).toNat)
 case atStart=>exact⟨0,[],oM,rfl,zH (bU.nil _ _),zH ⟨Wp.nil,h.out⟩,Below.refl _ _⟩
 case round =>
  clear h;obtain⟨k,n,X,rfl,hO,hA,m⟩:=hrel;by_cases q:k<l.length
  ·have u:l[k]?=some l[k]:=gE q;have hA2:=hA.out;rw[List.drop_eq_getElem_cons q]at hA2;have F:=D.out l[k] (List.getElem_mem q);generalize l[k]=a at *;obtain⟨b,off,M,rfl,C,hC⟩:=ve (y.out.on m) u;obtain⟨x,hG,B,hf⟩:=Fu hA2.2;obtain⟨hcall,p⟩:=z.out _ _ _ hA2.1 F hG;have d:=λv W (hv:ak W v x)=>sK v x W hv;have hcall2:=zH (hcall u3 M wr hO.out C);have I:(k:Int)<l.length:=oM;have r:=hC.cell 0 sM;simp only[List.getElem?_cons_zero,Nat.add_zero,nU]at r;clear hA hA2 hC hcall u hG;cases hcb:lu x
   ·have j:=zH (hf hcb);rw[hcb]at d;replace d:=zH d;replace p:=zH p;clear B hf hcb
    go_wp2_with (first
     | (refine aj rfl _ _ 75 rfl polyT Tryz.underlying75 _ 1 24 kM _ _ _ rfl .i64 _ rfl k rfl q b off rfl ?_;rw[nU])
     | (go_at_call 16;refine hcall2.out.mono ?_;rintro en w3 ⟨v3,rfl,hv3,hb3⟩)
     | (go_at_call 50;refine(d.out _ _ hv3).mono ?_;rintro en w4 ⟨rfl,hb4⟩))
    have hb34:=hb3.trans (hb4.mono hb3.size);go_roundw
    case rel=>exact⟨k+1,x,oM,nM,zH (hv3.on hb4),zH ⟨p.out,j.out⟩,m.trans (hb34.mono m.size)⟩
    case measure=>simp[intOf];omega
   ·have j:=zH (B hcb);rw[hcb]at d;replace d:=zH d;replace p:=zH p;clear B hf hcb
    go_wp2_with (first
     | (refine aj rfl _ _ 75 rfl polyT Tryz.underlying75 _ 1 24 kM _ _ _ rfl .i64 _ rfl k rfl q b off rfl ?_;rw[nU])
     | (go_at_call 16;refine hcall2.out.mono ?_;rintro en w3 ⟨v3,rfl,hv3,hb3⟩)
     | (go_at_call 50;refine(d.out _ _ hv3).mono ?_;rintro en w4 ⟨rfl,hb4⟩))
    go_ret;exact⟨_,rfl,by rw[j.out];exact hv3.on hb4,m.trans ((hb3.trans (hb4.mono hb3.size)).mono m.size)⟩
  ·obtain rfl:k=l.length:=oM
   have s:Hid (g=n):=by have:=hA.out.2;rw[List.drop_of_length_le (nL _),uD]at this;exact zH (Option.some.inj this).symm
   go_wp2;go_ret;exact⟨_,rfl,by rw[s.out];exact hO.out,m⟩
theorem Nk{G:List ai->List ai->Option (List ai)}(d:Di G):∀{l:List (List ai)}{acc g:List ai},(∀c∈l,Wp c)->Wp acc->uD G acc l=some g->Wp g
 | [],acc,g,_,ha,h=>by rw[uD,sJ]at h;subst h;exact ha
 | a::l,acc,g,hw,ha,h=>by
  obtain⟨e,i,j,hf⟩:=Fu h;have b:=(d _ _ _ ha (hw a sM) i).2;cases hc:lu e
  ·exact Nk d (λc hc=>hw c (by simp[hc])) b (hf hc)
  ·rw[j hc];exact b
theorem sN{G:List ai->List ai->Option (List ai)}(b:Di G){a g:List ai}{v:Nat}(d:Wp a)(h:mG G a v=some g):Wp g:=Nk b (λ_ hc=>d.coeffs hc) Wp.nil h
theorem kK{G:List ai->List ai->Option (List ai)}(i:Di G)(d:Value)(a g:List ai)(v:Nat)(w:World)(hv:v<4)(ha:ak w d a)(b:Wp a)(h:mG G a v=some g) :
  Calls Tryz.prog 18 #[d,.int .i64 v] w (aS w g):=by
 have h1:=wD d a v w ha hv b.val.nat (by have:=(b.deg v).2;omega) (by have:=b.len;omega);have h2:=λvl W (k:je W vl (aA a v))=>TP i vl (aA a v) g W k (by rw[dS];have:=(b.deg v).2;omega) (λc hc=>b.coeffs hc) h;obtain⟨l,m,rfl,j⟩:=ha.shape;replace h2:=zH h2;clear h i b
 go_enter Tryz.func18,Tryz.ntmps18
 go_wp2_with (first
  | (go_at_call 62;refine h1.mono ?_;rintro en w3 ⟨v3,rfl,hv3,hb3⟩)
  | (go_at_call 61;refine(h2.out _ _ hv3).mono ?_;rintro en w4 ⟨v4,rfl,hv4,hb4⟩))
 go_ret;exact⟨_,rfl,hv4,hb3.trans (hb4.mono hb3.size)⟩
theorem Nl{G:List ai->List ai->Option (List ai)}{a p:List ai}{v:Nat}(h:kW G a v=some p):Wp p:=by
 cases a with
 | nil=>simp only[kW,sJ]at h;subst h;exact Wp.nil
 | cons t r =>
  rw[kW]at h
  cases hc:mG G (t::r) v with
  | none=>rw[hc]at h;cases h
  | some c=>rw[hc]at h;exact qG h
theorem nH{G:List ai->List ai->Option (List ai)}(i:Di G)(d:Value)(a p:List ai)(v:Nat)(w:World)(hv:v<4)(ha:ak w d a)(b:Wp a)(h:kW G a v=some p) :
  Calls Tryz.prog 20 #[d,.int .i64 v] w (aS w p):=by
 match a,ha,b,h with
 | [],ha,b,h =>
  simp only[kW,sJ]at h;subst h;obtain⟨l,m,rfl,j⟩:=ha.shape;simp only[List.length_nil]
  go_enter Tryz.func20,Tryz.ntmps20
  go_wp2;go_ret;exact⟨_,rfl,bU.nil _ _,Below.refl _ _⟩
 | t::r,ha,b,h =>
  rw[kW]at h
  cases hc:mG G (t::r) v with
  | none=>rw[hc]at h;cases h
  | some c =>
   rw[hc]at h;have h1:=kK i d (t::r) c v w hv ha b hc;have k:=sN i b hc;have h2:=λvl W (hb:Below w.heap.size w W) (o:ak W vl c)=>nR d vl (t::r) c p W (ha.on hb) o k h;obtain⟨l,m,rfl,j⟩:=ha.shape;have q:(((t::r).length:Int)==0)=false:=by simp;omega
   replace h2:=zH h2;clear h hc i b k ha;generalize(t::r).length=n at *
   go_enter Tryz.func20,Tryz.ntmps20
   go_wp2_with (first
    | (go_at_call 18;refine h1.mono ?_;rintro en w3 ⟨v3,rfl,hv3,hb3⟩)
    | (go_at_call 56;refine(h2.out _ _ hb3 hv3).mono ?_;rintro en w4 ⟨v4,rfl,hv4,hb4⟩))
   go_ret;exact⟨_,rfl,hv4,hb3.trans (hb4.mono hb3.size)⟩
theorem Nn:∀{l:List (List ai)}{n v:Nat},sZ l n=some v->v<n
 | l,n+1,v,h=>by
  rw[sZ]at h;split at h
  ·cases h;omega
  ·have:=Nn h;omega
def Np (o:Option Nat):Int:=match o with
 | none=>-1
 | some v=>v
theorem Js(I:Value)(l:List (List ai))(w:World)(z:je w I l)(L:l.length<=100000000)(F:∀c∈l,Wp c):Calls Tryz.prog 52 #[I] w (rE w (.int .i64 (Np (Rm l)))):=by
 obtain⟨N,S,rfl,J⟩:=z.shape;replace F:=zH F;replace z:=zH z;obtain⟨R,hR⟩:∃R,R=Np (Rm l):=⟨_,rfl⟩;rw[<-hR];replace hR:=zH hR
 go_enter Tryz.func52,Tryz.ntmps52
 go_wp2
 go_loopw [3] (λi wr=>∃(n:Nat),n<=4/\i=.int .i64 ((n:Int)-1)/\Hid (R=Np (sZ l n))/\Below w.heap.size w wr) (λi _=>(intOf i+1).toNat)
 case atStart=>exact⟨4,oM,rfl,zH hR.out,Below.refl _ _⟩
 case round =>
  clear hR;obtain⟨n,L,rfl,hR,d⟩:=hrel
  cases n with
  | zero =>
   have j:Hid (R=-1):=zH hR.out;go_wp2;go_ret;exact⟨by rw[j.out];rfl,d⟩
  | succ v =>
   have hv1:(((v+1:Nat):Int)-1)=(v:Int):=oM;have hv4:v<4:=oM;rw[hv1];go_wp2
   go_loopw [12] (λi wr=>∃k:Nat,k<=l.length/\i=.int .i64 k/\Hid (∀c∈l.take k,¬0<aD c v)/\Below w.heap.size w wr) (λi _=>l.length-(intOf i).toNat)
   case atStart=>exact⟨0,oM,rfl,zH (λc hc=>by simp at hc),d⟩
   case round =>
    clear d;obtain⟨k,X,rfl,hA,d⟩:=hrel;by_cases m:k<l.length
    ·have s:l[k]?=some l[k]:=gE m;have y:=F.out l[k] (List.getElem_mem m);have u:l.take (k+1)=l.take k++[l[k]]:=by rw[List.take_add_one,s];rfl
     have o:=List.getElem_mem m;generalize l[k]=a at *;obtain⟨b,off,M,rfl,C,hC⟩:=ve (z.out.on d) s;have hd:=jR M a v wr C hv4 (by have:=y.len;omega);have G:(k:Int)<l.length:=oM;have r:=hC.cell 0 sM;simp only[List.getElem?_cons_zero,Nat.add_zero,nU]at r;replace hd:=zH hd;replace o:=zH o;replace u:=zH u;clear hC s y;by_cases p:0<aD a v
     ·have q:=zH p;have j:Hid (R=v):=zH (by rw[hR.out,sZ,if_pos (List.any_eq_true.2 ⟨a,o.out,by simpa using p⟩)];rfl);generalize aD a v=D at *
      go_wp2_with (first
       | (refine aj rfl _ _ 75 rfl polyT Tryz.underlying75 _ 1 24 kM _ _ _ rfl .i64 _ rfl k rfl m b off rfl ?_;rw[nU])
       | (go_at_call 53;refine hd.out.mono ?_;rintro en w3 ⟨rfl,hb3⟩))
      go_ret;exact⟨by rw[j.out];rfl,d.trans (hb3.mono d.size)⟩
     ·have q:=zH p;generalize aD a v=D at hd p
      go_wp2_with (first
       | (refine aj rfl _ _ 75 rfl polyT Tryz.underlying75 _ 1 24 kM _ _ _ rfl .i64 _ rfl k rfl m b off rfl ?_;rw[nU])
       | (go_at_call 53;refine hd.out.mono ?_;rintro en w3 ⟨rfl,hb3⟩))
      go_roundw
      case rel=>exact⟨k+1,oM,nM,zH (λc hc=>by
       rw[u.out]at hc;rcases List.mem_append.1 hc with hc|hc
       ·exact Int.not_lt.2 (hA.out c hc)
       ·rw[List.mem_singleton.1 hc];exact Int.not_lt.2 q.out),d.trans (hb3.mono d.size)⟩
      case measure=>simp[intOf];omega
    ·obtain rfl:k=l.length:=oM
     have B:Hid (R=Np (sZ l v)):=zH (by
      rw[hR.out,sZ,if_neg];intro x;obtain⟨c,hc,hd⟩:=List.any_eq_true.1 x
      exact hA.out c (by rw[tL (nL _)];exact hc) (by simpa using hd))
     go_wp2;go_roundw
     case rel=>exact⟨v,oM,nM,B,d⟩
     case measure=>simp[intOf]
end Go.Proofs.YtopclbeomcggiaaGreat
end
section
namespace Q
open Go Go.RowKit Go.Proofs.YtopclbeomcggiaaGreat
theorem GN:Wp GL:=kI dK
theorem Ah{a:List ai}{v:Nat}(h:a≠[])(d:Wp a):0<=aD a v:=by obtain⟨t,b⟩:=List.exists_mem_of_ne_nil _ h;have e:=(d.exps b v).1;have i:=eU b v;omega
theorem Jt{G:List ai->List ai->Option (List ai)}{v:Nat}:∀{n:Nat}{a b g:List ai},Wp b->ru G v n a b=some g->Wp g
 | 0,a,b,g,_,h=>by simp[ru]at h
 | n+1,a,b,g,kb,h=>by
  rw[ru]at h
  cases hr:SH a b v with
  | none=>rw[hr]at h;cases h
  | some r =>
   rw[hr]at h
   cases r with
   | nil=>cases h;exact kb
   | cons t r =>
    simp only at h;split at h
    ·cases h;exact GN
    ·cases hp:kW G (t::r) v with
     | none=>rw[hp]at h;cases h
     | some p =>
      rw[hp]at h;simp only at h
      cases hq:jT p with
      | none=>rw[hq]at h;cases h
      | some q=>rw[hq]at h;exact Jt (xZ hq) h
theorem Nq{G:List ai->List ai->Option (List ai)}{v:Nat}{a b g:List ai}(kb:Wp b)(h:Ay G a b v=some g):Wp g:=by
 unfold Ay at h
 cases hm:zw a b v with
 | none=>rw[hm]at h;cases h
 | some m =>
  rw[hm]at h;simp only at h;split at h
  ·cases h;exact GN
  ·cases hd:zu a b with
   | none=>rw[hd]at h;cases h
   | some r =>
    rw[hd]at h;simp only at h;split at h
    ·cases h;exact kb
    ·exact Jt kb h
theorem Ju{a b r:List ai}{v:Nat}(h:SH a b v=some r):b≠[]/\r=tO (gm (aA b v) (aA a v).length (aA a v)) v/\Wp r/\Lj (aA b v) (aA a v).length (aA a v)=true /\
  UO (fromL v 0 (gm (aA b v) (aA a v).length (aA a v)))=true/\∀c∈gm (aA b v) (aA a v).length (aA a v),CY c=true:=by
 unfold SH at h;simp only at h;split at h
 next hc =>
  obtain⟨d,e,i,j⟩:=hc;obtain⟨rfl,k⟩:=jS h;exact⟨d,rfl,k,e,i,λc hc=>List.all_eq_true.1 j c hc⟩
 next=>cases h
end Q
namespace Go.Proofs.YtopclbeomcggiaaGreat
open Go.RowKit Q
theorem Jv(e i:Value)(a b r:List ai)(v:Nat)(w:World)(ha:ak w e a)(hb:ak w i b)(d:Wp a)(kb:Wp b)(hv:v<4)(h:SH a b v=some r):Calls Tryz.prog 94 #[e,i,.int .i64 v] w (CF w r 0):=by
 obtain⟨j,rfl,o,k,l,m⟩:=Ju h;have n:(aA a v).length<=100001:=by rw[dS];have:=(d.deg v).2;omega
 exact K8 e i a b v w ha hb hv j d.val.nat kb.val.nat (d.deg v).2 (kb.deg v).2 (by have:=d.len;omega) (by have:=kb.len;omega) (Jl (λc hc=>kb.coeffs hc) k) (TM l) (λc hc=>by have:=(kI (m c hc)).len;omega)
theorem GQ{G:List ai->List ai->Option (List ai)}(HG:Di G)(va vb:Value)(a b g:List ai)(v:Nat)(w:World)(ha:ak w va a)(hb:ak w vb b)(S:Wp a)(kb:Wp b)(J:a≠[])(L:b≠[])(hv:v<4)(h:Ep G a b v=some g) :
  Calls Tryz.prog 55 #[va,vb,.int .i64 v] w (aS w g):=by
 have D:=zH (λW (hb:Below w.heap.size w W)=>jR va a v W (ha.on hb) hv (by have:=S.len;omega));have I:=zH (λW (a5:Below w.heap.size w W)=>jR vb b v W (hb.on a5) hv (by have:=kb.len;omega));replace ha:=zH ha;replace hb:=zH hb;unfold Ep at h
 go_enter Tryz.func55,Tryz.ntmps55
 have X:∀(x y:List ai)(h:Ay G x y v=some g),(∃m,zw x y v=some m):=λx y h=>by
  unfold Ay at h
  cases hm:zw x y v with
  | none=>rw[hm]at h;cases h
  | some m=>exact⟨m,rfl⟩
 obtain⟨da,hda2⟩:∃da,da=aD a v:=⟨_,rfl⟩;obtain⟨db,hdb2⟩:∃db,db=aD b v:=⟨_,rfl⟩;rw[<-hda2]at D h;rw[<-hdb2]at I h
 go_upto_if 18 with (first
  | (go_at_call 53;refine(I.out w3 hb3).mono ?_;rintro en w4 ⟨rfl,hb4⟩)
  | (go_at_call 53;refine(D.out _ (Below.refl _ _)).mono ?_;rintro en w3 ⟨rfl,hb3⟩))
 have hb34:=hb3.trans (hb4.mono hb3.size)
 go_cut [0,1,19,20] (λvx vy _ _ wc=>∃x y,Hid (ak wc vx x)/\Hid (ak wc vy y)/\Wp x/\Wp y/\x≠[]/\y≠[]/\Hid (Ay G x y v=some g)/\Below w.heap.size w wc)
 case first =>
  by_cases a0:da<db
  ·rw[if_pos a0]at h;replace h:=zH h;go_wp2;go_meet
   case rel=>exact⟨b,a,zH (hb.out.on hb34),zH (ha.out.on hb34),kb,S,L,J,h,hb34⟩
  ·rw[if_neg a0]at h;replace h:=zH h;go_wp2;go_meet
   case rel=>exact⟨a,b,zH (ha.out.on hb34),zH (hb.out.on hb34),S,kb,J,L,h,hb34⟩
 case rest =>
  clear D I ha hb S kb J L h hda2 hdb2 hb34 hb3 hb4;obtain⟨x,y,N,B,kx,ky,a2,a3,j,i⟩:=hcut;obtain⟨m,hm⟩:=X x y j.out;have C:=zH (Pg u0 u1 x y v m wc N.out B.out kx ky hv a2 a3 hm);have hs2:=j.out;unfold Ay at hs2;rw[hm]at hs2;simp only at hs2;clear hm X j;by_cases hm0:m=0
  ·rw[if_pos hm0,sJ]at hs2;subst hm0;have d:=zH hs2;clear hs2
   go_wp2_with (first
    | (go_at_call 92;refine C.out.mono ?_;rintro en w5 ⟨rfl,hb5⟩)
    | (go_at_call 51;refine(xY _).mono ?_;rintro en w6 ⟨v6,rfl,h6,hb6⟩))
   go_ret;exact⟨_,rfl,by rw[<-d.out];exact h6,(i.trans (hb5.mono i.size)).trans (hb6.mono (i.trans (hb5.mono i.size)).size)⟩
  ·rw[if_neg hm0]at hs2;have a1:(m==0)=false:=by simpa using hm0
   cases hd:zu x y with
   | none=>rw[hd]at hs2;cases hs2
   | some r =>
   rw[hd]at hs2;simp only at hs2;have Y:=zH (λW (hb:Below wc.heap.size wc W)=>Jr u0 u1 x y r W (N.out.on hb) (B.out.on hb) ky hd);have Z:=zH (λW (hb:Below wc.heap.size wc W)=>jR u1 y v W (B.out.on hb) hv (by have:=ky.len;omega));clear hd hm0
   go_upto_region 7 with (first
    | (go_at_call 92;refine C.out.mono ?_;rintro en w5 ⟨rfl,hb5⟩)
    | (go_at_call 93;refine(Y.out _ hb5).mono ?_;rintro en w6 ⟨v6,rfl,h6,hb6⟩))
   have hb56:=hb5.trans (hb6.mono hb5.size);have hdy2:=zH (Z.out w6 hb56);clear Y C Z h6 hb5 hb6;have hbw6:=i.trans (hb56.mono i.size);have hx6:=zH (N.out.on hb56);have hy6:=zH (B.out.on hb56);obtain⟨dy,hdy3⟩:∃dy,dy=aD y v:=⟨_,rfl⟩;rw[<-hdy3]at hdy2 hs2;obtain⟨F,hF⟩:∃F,F=fuel:=⟨_,rfl⟩;rw[<-hF]at hs2;clear N B hdy3 hF
   go_cut [34,35,36,37,38,39,40,41] (λ_ _ _ _ _ _ _ t wd=>∃fl,t=.bool fl/\Hid (ak wd u0 x)/\Hid (ak wd u1 y)/\Hid ((fl=true->g=y)/\(fl=false->ru G v F x y=some g))/\Below w.heap.size w wd)
   case first =>
    cases r with
    | none =>
     simp only[Option.isSome_none,Bool.false_and]at hs2;rw[if_neg sM]at hs2;replace hs2:=zH hs2;simp only[Option.isSome_none];clear hdy2;go_wp2;go_meet
     case rel=>exact⟨_,rfl,hx6,hy6,zH ⟨λh=>(by cases h),λ_=>hs2.out⟩,hbw6⟩
    | some r =>
     simp only[Option.isSome_some,Bool.true_and]at hs2 ⊢;by_cases s:m=dy
     ·rw[if_pos (by simpa using s),sJ]at hs2;subst s;have d:=zH hs2;clear hs2 a1
      go_wp2_with (go_at_call 53;refine hdy2.out.mono ?_;rintro en w7 ⟨rfl,hb7⟩)
      go_meet
      case rel=>exact⟨_,rfl,zH (hx6.out.on hb7),zH (hy6.out.on hb7),zH ⟨λ_=>d.out.symm,λh=>(by cases h)⟩,hbw6.trans (hb7.mono hbw6.size)⟩
     ·rw[if_neg (by simpa using s)]at hs2;have hmd2:(m==dy)=false:=by simpa using s
      replace hs2:=zH hs2
      go_wp2_with (go_at_call 53;refine hdy2.out.mono ?_;rintro en w7 ⟨rfl,hb7⟩)
      go_meet
      case rel=>exact⟨_,rfl,zH (hx6.out.on hb7),zH (hy6.out.on hb7),zH ⟨λh=>(by cases h),λ_=>hs2.out⟩,hbw6.trans (hb7.mono hbw6.size)⟩
   case rest =>
    clear hs2 hdy2 hx6 hy6 hbw6 hb56 i a1;obtain⟨fl,rfl,N,B,j,i⟩:=hcut;cases fl
    case true =>
     have d:=zH (j.out.1 rfl);clear j;go_wp2;go_ret;exact⟨_,rfl,by rw[d.out];exact B.out,i⟩
    case false =>
     replace j:=zH (j.out.2 rfl);go_wp2
     go_loopg [0,1] F (λn va vb wr=>∃a b,Hid (ak wr va a)/\Hid (ak wr vb b)/\Wp a/\Wp b/\Hid (ru G v n a b=some g)/\Below w.heap.size w wr)
     case atStart=>exact⟨x,y,N,B,kx,ky,j,i⟩
     case round =>
      clear N B kx ky j i a2 a3;obtain⟨a,b,ha,hb,S,kb,j,l⟩:=hrel
      cases gk with
      | zero=>exact absurd j.out (by simp[ru])
      | succ n =>
      have hs2:=j.out;rw[ru]at hs2
      cases hr:SH a b v with
      | none=>rw[hr]at hs2;cases hs2
      | some r =>
      rw[hr]at hs2;have M:=Jv _ _ a b r v wr ha.out hb.out S kb hv hr;have kr:=(Ju hr).2.2.1;clear hr j
      cases r with
      | nil =>
       simp only[sJ]at hs2;have d:=zH hs2;clear hs2
       go_upto_region 10 with (go_at_call 94;refine M.mono ?_;rintro en w7 ⟨v7,rfl,h7,hb7⟩)
       obtain⟨a7,c7,rfl,-⟩:=h7.shape;simp only[List.length_nil];go_wp2;go_ret;exact⟨_,rfl,by rw[<-d.out];exact hb.out.on hb7,l.trans (hb7.mono l.size)⟩
      | cons t r =>
       simp only at hs2;have a9:(((t::r).length:Int)==0)=false:=by simp;omega
       have a6:=kr.len
       go_upto_region 10 with (go_at_call 94;refine M.mono ?_;rintro en w7 ⟨v7,rfl,h7,hb7⟩)
       have o:=zH (jR v7 (t::r) v w7 h7 hv oM);have k:∀p,kW G (t::r) v=some p->∀W,Below w7.heap.size w7 W->Calls Tryz.prog 20 #[v7,.int .i64 v] W (aS W p):=λp hp W a4=>nH HG v7 (t::r) p v W hv (h7.on a4) kr hp;obtain⟨a7,c7,rfl,-⟩:=h7.shape;replace k:=zH k;have hbr7:=l.trans (hb7.mono l.size);have hb2:=zH (hb.out.on hb7);have z:∀p,kW G (t::r) v=some p->Wp p:=λp hp=>Nl hp;obtain⟨q9,hq9⟩:∃q9,q9=t::r:=⟨_,rfl⟩;rw[<-hq9]at hs2 a9 o k z ⊢;clear M kr h7 a6 hq9 hb;obtain⟨dr,nY⟩:∃dr,dr=aD q9 v:=⟨_,rfl⟩;rw[<-nY]at o hs2;by_cases hd0:dr=0
       ·rw[if_pos hd0,sJ]at hs2;subst hd0;have d:=zH hs2;clear hs2 k z nY;generalize q9.length=nq at *
        go_wp2_with (first
         | (go_at_call 53;refine o.out.mono ?_;rintro en w8 ⟨rfl,hb8⟩)
         | (go_at_call 51;refine(xY _).mono ?_;rintro en w9 ⟨v9,rfl,h9,hb9⟩))
        go_ret;exact⟨_,rfl,by rw[<-d.out];exact h9,(hbr7.trans (hb8.mono hbr7.size)).trans (hb9.mono (hbr7.trans (hb8.mono hbr7.size)).size)⟩
       ·rw[if_neg hd0]at hs2;have hd1:(dr==0)=false:=by simpa using hd0
        cases hp:kW G q9 v with
        | none=>rw[hp]at hs2;cases hs2
        | some p =>
        rw[hp]at hs2;simp only at hs2
        cases hq:jT p with
        | none=>rw[hq]at hs2;cases hs2
        | some q =>
        rw[hq]at hs2;simp only at hs2;have kp:=z p hp;have kq:=xZ hq;have aa:=zH (k.out p hp);have a8:=zH (λW u (hu:ak W u p)=>nA u p q W hu kp hq);replace hs2:=zH hs2;clear hp hq z k nY hd0;generalize q9.length=nq at *
        go_wp2_with (first
         | (go_at_call 53;refine o.out.mono ?_;rintro en w8 ⟨rfl,hb8⟩)
         | (go_at_call 20;refine(aa.out _ hb8).mono ?_;rintro en w9 ⟨v9,rfl,h9,hb9⟩)
         | (go_at_call 14;refine(a8.out _ _ h9).mono ?_;rintro en w10 ⟨v10,rfl,h10,hb10⟩))
        have hb89:=hb8.trans (hb9.mono hb8.size);have hb810:=hb89.trans (hb10.mono hb89.size);go_roundg n
        case measure=>omega
        case rel=>exact⟨b,q,zH (hb2.out.on hb810),zH h10,kb,kq,hs2,hbr7.trans (hb810.mono hbr7.size)⟩
end Go.Proofs.YtopclbeomcggiaaGreat
end
section
namespace Q
open Go Go.RowKit Go.Proofs.YtopclbeomcggiaaGreat
def Az (G:List ai->List ai->Option (List ai)) (a b:List ai):Option (List ai) :=
 if a=[]then jT b else if b=[]then jT a else if lu a=true\/lu b=true then some GL else
 fD (Rm [a,b]) λv =>
  if aD b v=0 then fD (mG G a v) λc=>G c b
  else if aD a v=0 then fD (mG G b v) λc=>G a c
  else fD (mG G a v) λx=>fD (mG G b v) λy=>fD (G x y) λg=>fD (iU a x) λp=>fD (iU b y) λq =>
   if p=[]\/q=[]then none else fD (Ep G p q v) λs=>fD (g1 (aX g s)) jT
def wJ:Nat->List ai->List ai->Option (List ai)
 | 0,_,_=>none
 | n+1,a,b=>Az (wJ n) a b
theorem Rt{w:World}{e d:Value}{a b:List ai}(ha:ak w e a)(hb:ak w d b):je (w.alloc (.cells #[e,d] 27)) (.slice (some ⟨w.heap.size,0,none⟩) 2 2) [a,b]:=by have h:Below w.heap.size w (w.alloc (.cells #[e,d] 27)):=(Below.refl _ _).alloc (nL _) _;exact⟨_,_,[e,d],rfl,nL _,(Blk.new w polyT [e,d]).at,⟨[e],[d],rfl,⟨e,rfl,ha.on h⟩,⟨[d],[],rfl,⟨d,rfl,hb.on h⟩,rfl⟩⟩⟩
end Q
namespace Go.Proofs.YtopclbeomcggiaaGreat
open Go.RowKit Q
theorem TQ{G:List ai->List ai->Option (List ai)}{v:Nat}{a b g:List ai}(d:Wp a)(kb:Wp b)(h:Ep G a b v=some g):Wp g:=by
 unfold Ep at h;split at h
 ·exact Nq d h
 ·exact Nq kb h
theorem TR{G:List ai->List ai->Option (List ai)}(d:Di G){a b g:List ai}(e:Wp a)(kb:Wp b)(h:Az G a b=some g):Wp g:=by
 unfold Az at h;split at h
 ·exact xZ h
 split at h
 ·exact xZ h
 split at h
 ·cases h;exact GN
 obtain⟨v,-,h⟩:=aV h;split at h
 ·obtain⟨c,hc,h⟩:=aV h;exact(d _ _ _ (sN d e hc) kb h).2
 split at h
 ·obtain⟨c,hc,h⟩:=aV h;exact(d _ _ _ e (sN d kb hc) h).2
 obtain⟨x,k,h⟩:=aV h;obtain⟨y,l,h⟩:=aV h;obtain⟨i,hg,h⟩:=aV h;obtain⟨p,hp,h⟩:=aV h;obtain⟨q,hq,h⟩:=aV h;split at h
 ·cases h
 obtain⟨s,j,h⟩:=aV h;obtain⟨m,hm,h⟩:=aV h;exact xZ h
theorem Ru{G:List ai->List ai->Option (List ai)}(n:Di G):Di (Az G):=by
 intro a b g D kb h;refine⟨λva vb w k l=>?_,TR n D kb h⟩;unfold Az at h;by_cases ha0:a=[]
 ·rw[if_pos ha0]at h;subst ha0;have hc:=nA vb b g w l kb h;obtain⟨aa,ca,rfl,d⟩:=k.shape;simp only[List.length_nil];obtain⟨ab,cb,rfl,i⟩:=l.shape;clear h n
  go_enter Tryz.func16,Tryz.ntmps16
  go_wp2_with (go_at_call 14;refine hc.mono ?_;rintro en w1 ⟨v1,rfl,h1,hb1⟩)
  go_ret;exact⟨_,rfl,h1,hb1⟩
 rw[if_neg ha0]at h;by_cases hb0:b=[]
 ·rw[if_pos hb0]at h;subst hb0;have hc:=nA va a g w k D h;obtain⟨aa,ca,rfl,d⟩:=k.shape;obtain⟨ab,cb,rfl,i⟩:=l.shape;simp only[List.length_nil];have ad:((a.length:Int)==0)=false:=by have:=List.length_pos_iff.2 ha0;simp;omega
  generalize a.length=na at *;clear h n ha0
  go_enter Tryz.func16,Tryz.ntmps16
  go_wp2_with (go_at_call 14;refine hc.mono ?_;rintro en w1 ⟨v1,rfl,h1,hb1⟩)
  go_ret;exact⟨_,rfl,h1,hb1⟩
 rw[if_neg hb0]at h;have d:=λW (hb:Below w.heap.size w W)=>sK va a W (k.on hb);have i:=λW (hb:Below w.heap.size w W)=>sK vb b W (l.on hb)
 have j:=λW (hb:Below w.heap.size w W)=>Js _ [a,b] _ (Rt (k.on hb) (l.on hb)) sM (λc hc=>by
  rcases List.mem_cons.1 hc with rfl|hc
  ·exact D
  ·rw[List.mem_singleton.1 hc];exact kb)
 have hA:=λW (hb:Below w.heap.size w W)=>k.on hb;have hB:=λW (hb:Below w.heap.size w W)=>l.on hb;have ag:=ha0;have al:=hb0;have X:((a.length:Int)==0)=false:=by have:=List.length_pos_iff.2 ha0;simp;omega
 have Y:((b.length:Int)==0)=false:=by have:=List.length_pos_iff.2 hb0;simp;omega
 obtain⟨aa,ca,rfl,I⟩:=k.shape;obtain⟨ab,cb,rfl,J⟩:=l.shape;obtain⟨na,N⟩:∃na,na=a.length:=⟨_,rfl⟩;obtain⟨nb,S⟩:∃nb,nb=b.length:=⟨_,rfl⟩;rw[<-N]at X d j hA ⊢;rw[<-S]at Y i j hB ⊢;replace j:=zH j;replace hA:=zH hA;replace hB:=zH hB;clear N S I J k l ha0 hb0;cases ha1:lu a
 case true =>
  rw[if_pos (.inl ha1)]at h;cases h;rw[ha1]at d;clear ha1 i;replace d:=zH d
  go_enter Tryz.func16,Tryz.ntmps16
  go_wp2_with (first
   | (go_at_call 50;refine(d.out _ (Below.refl _ _)).mono ?_;rintro en w1 ⟨rfl,hb1⟩)
   | (go_at_call 51;refine(xY _).mono ?_;rintro en w2 ⟨v2,rfl,h2,hb2⟩))
  go_ret;exact⟨_,rfl,h2,hb1.trans (hb2.mono hb1.size)⟩
 case false =>
  rw[ha1]at d;cases hb1:lu b
  case true =>
   rw[if_pos (.inr hb1)]at h;cases h;rw[hb1]at i;clear ha1 hb1;replace d:=zH d;replace i:=zH i
   go_enter Tryz.func16,Tryz.ntmps16
   go_wp2_with (first
    | (go_at_call 50;refine(i.out w1 hb1).mono ?_;rintro en w2 ⟨rfl,hb2⟩)
    | (go_at_call 50;refine(d.out _ (Below.refl _ _)).mono ?_;rintro en w1 ⟨rfl,hb1⟩)
    | (go_at_call 51;refine(xY _).mono ?_;rintro en w3 ⟨v3,rfl,h3,hb3⟩))
   go_ret;exact⟨_,rfl,h3,(hb1.trans (hb2.mono hb1.size)).trans (hb3.mono (hb1.trans (hb2.mono hb1.size)).size)⟩
  case false =>
   rw[if_neg (by rintro (h|h);rw[ha1]at h;cases h;rw[hb1]at h;cases h)]at h;obtain⟨v,hv,h⟩:=aV h;have hv4:v<4:=Nn hv;rw[hb1]at i;rw[hv]at j;clear ha1 hb1 hv;replace d:=zH d;replace i:=zH i;have z:=zH (λW (hb:Below w.heap.size w W)=>jR _ a v W (hA.out W hb) hv4 (by have:=D.len;omega));have C:=zH (λW (hb:Below w.heap.size w W)=>jR _ b v W (hB.out W hb) hv4 (by have:=kb.len;omega));change Hid (∀W,_->Calls _ _ _ _ (rE _ (.int .i64 (v:Int))))at j
   go_enter Tryz.func16,Tryz.ntmps16
   go_upto_region 8 with (first
    | (go_at_call 50;refine(i.out w1 hb1).mono ?_;rintro en w2 ⟨rfl,hb2⟩;have hb12:=hb1.trans (hb2.mono hb1.size))
    | (go_at_call 50;refine(d.out _ (Below.refl _ _)).mono ?_;rintro en w1 ⟨rfl,hb1⟩)
    | (go_at_call 52;refine(j.out _ hb12).mono ?_;rintro en w3 ⟨rfl,hb3⟩))
   have hb0:=hb12.trans (((Below.refl _ _).alloc (nL _) _).trans (hb3.mono sM) |>.mono hb12.size);obtain⟨da,hda2⟩:∃da,da=aD a v:=⟨_,rfl⟩;obtain⟨Z,hdb2⟩:∃Z,Z=aD b v:=⟨_,rfl⟩;rw[<-hda2]at z h;rw[<-hdb2]at C h;have hD1:=zH (C.out w3 hb0);clear d i j hb1 hb2 hb12 hb3 hda2 hdb2;by_cases hd1:Z=0
   ·rw[if_pos hd1]at h;obtain⟨c,hc,h⟩:=aV h;have F:=zH (λW (hb:Below w.heap.size w W)=>kK n _ a c v W hv4 (hA.out W hb) D hc);have o:=zH (n _ _ _ (sN n D hc) kb h).1;subst hd1;clear h hc z C
    go_wp2_with (first
     | (go_at_call 53;refine hD1.out.mono ?_;rintro en w4 ⟨rfl,hb4⟩;have hb04:=hb0.trans (hb4.mono hb0.size))
     | (go_at_call 18;refine(F.out _ hb04).mono ?_;rintro en w5 ⟨v5,rfl,h5,hb5⟩;have hb05:=hb04.trans (hb5.mono hb04.size);have a1:=hB.out _ hb05)
     | (go_at_call 16;refine(o.out _ _ _ h5 a1).mono ?_;rintro en w6 ⟨v6,rfl,h6,hb6⟩))
    go_ret;exact⟨_,rfl,h6,hb05.trans (hb6.mono hb05.size)⟩
   ·rw[if_neg hd1]at h;have a9:(Z==0)=false:=by simpa using hd1
    by_cases hd2:da=0
    ·rw[if_pos hd2]at h;obtain⟨c,hc,h⟩:=aV h;have F:=zH (λW (hb:Below w.heap.size w W)=>kK n _ b c v W hv4 (hB.out W hb) kb hc);have o:=zH (n _ _ _ D (sN n kb hc) h).1;subst hd2;clear h hc hd1
     go_wp2_with (first
      | (go_at_call 53;refine(z.out w4 hb04).mono ?_;rintro en w5 ⟨rfl,hb5⟩;have hb05:=hb04.trans (hb5.mono hb04.size))
      | (go_at_call 53;refine hD1.out.mono ?_;rintro en w4 ⟨rfl,hb4⟩;have hb04:=hb0.trans (hb4.mono hb0.size))
      | (go_at_call 18;refine(F.out _ hb05).mono ?_;rintro en w6 ⟨v6,rfl,h6,hb6⟩;have hb06:=hb05.trans (hb6.mono hb05.size);have a0:=hA.out _ hb06)
      | (go_at_call 16;refine(o.out _ _ _ a0 h6).mono ?_;rintro en w7 ⟨v7,rfl,h7,hb7⟩))
     go_ret;exact⟨_,rfl,h7,hb06.trans (hb7.mono hb06.size)⟩
    ·rw[if_neg hd2]at h;have ac:(da==0)=false:=by simpa using hd2
     obtain⟨x,hx,h⟩:=aV h;obtain⟨y,hy,h⟩:=aV h;obtain⟨g',hg,h⟩:=aV h;obtain⟨p,hp,h⟩:=aV h;obtain⟨q,hq,h⟩:=aV h;by_cases B:p=[]\/q=[]
     ·rw[if_pos B]at h;cases h
     rw[if_neg B]at h;obtain⟨s,hs,h⟩:=aV h;obtain⟨m,hm,h⟩:=aV h;obtain⟨rfl,km⟩:=jS hm;have kx:=sN n D hx;have ky:=sN n kb hy;have kg:=(n _ _ _ kx ky hg).2;have kp:=qG hp;have kq:=qG hq;have ks:=TQ kp kq hs;have r:=kg.mulOk ks;have L:=zH (λW (hb:Below w.heap.size w W)=>kK n _ a x v W hv4 (hA.out W hb) D hx);have M:=zH (λW (hb:Below w.heap.size w W)=>kK n _ b y v W hv4 (hB.out W hb) kb hy);have o:=zH (n _ _ _ kx ky hg).1;have a4:=zH (λW u (hb:Below w.heap.size w W) (hu:ak W u x)=>nR _ u a x p W (hA.out W hb) hu kx hp);have a5:=zH (λW u (hb:Below w.heap.size w W) (hu:ak W u y)=>nR _ u b y q W (hB.out W hb) hu ky hq);have a8:=zH (λW u1 u2 (h1:ak W u1 p) (h2:ak W u2 q) (n1:p≠[]) (n2:q≠[])=>GQ n u1 u2 p q s v W h1 h2 kp kq n1 n2 hv4 hs);have a2:=zH (λW u1 u2 (h1:ak W u1 g') (h2:ak W u2 s)=>ze u1 u2 g' s W h1 h2 r.kp r.kq r.ko r.kl.1 r.kl.2);have a3:=zH (λW u (hu:ak W u (aX g' s))=>nA u _ g W hu km h);have a6:p≠[]:=λh=>B (.inl h);have a7:q≠[]:=λh=>B (.inr h);clear h hx hy hg hp hq hs hm B km kx ky kg kp kq ks r hd1 hd2;generalize aX g' s=m at *
     go_upto_region 12 with (first
      | (go_at_call 53;refine(z.out w4 hb04).mono ?_;rintro en w5 ⟨rfl,hb5⟩;have hb05:=hb04.trans (hb5.mono hb04.size))
      | (go_at_call 53;refine hD1.out.mono ?_;rintro en w4 ⟨rfl,hb4⟩;have hb04:=hb0.trans (hb4.mono hb0.size)))
     clear hD1 z C
     go_upto_region 13 with (first
      | (go_at_call 18;refine(M.out w6 hb06).mono ?_;rintro en w7 ⟨v7,rfl,h7,hb7⟩;have hb07:=hb06.trans (hb7.mono hb06.size);have h67:=h6.on hb7)
      | (go_at_call 18;refine(L.out _ hb05).mono ?_;rintro en w6 ⟨v6,rfl,h6,hb6⟩;have hb06:=hb05.trans (hb6.mono hb05.size)))
     have hgc2:=zH (o.out _ _ _ h67 h7);clear L M o
     go_wp2_with (first
      | (go_at_call 56;refine(a5.out w9 v7 hb09 h79).mono ?_;rintro en w10 ⟨v10,rfl,h10,hb10⟩;have hb010:=hb09.trans (hb10.mono hb09.size);have h910:=h9.on hb10;have h810:=(h8.on hb9).on hb10)
      | (go_at_call 56;refine(a4.out w8 v6 hb08 h68).mono ?_;rintro en w9 ⟨v9,rfl,h9,hb9⟩;have hb09:=hb08.trans (hb9.mono hb08.size);have h79:=h78.on hb9)
      | (go_at_call 16;refine hgc2.out.mono ?_;rintro en w8 ⟨v8,rfl,h8,hb8⟩;have hb08:=hb07.trans (hb8.mono hb07.size);have h68:=h67.on hb8;have h78:=h7.on hb8)
      | (go_at_call 55;refine(a8.out _ _ _ h910 h10 a6 a7).mono ?_;rintro en w11 ⟨v11,rfl,h11,hb11⟩;have hb011:=hb010.trans (hb11.mono hb010.size);have h811:=h810.on hb11)
      | (go_at_call 54;refine(a2.out _ _ _ h811 h11).mono ?_;rintro en w12 ⟨v12,rfl,h12,hb12⟩;have hb012:=hb011.trans (hb12.mono hb011.size))
      | (go_at_call 14;refine(a3.out _ _ h12).mono ?_;rintro en w13 ⟨v13,rfl,h13,hb13⟩))
     go_ret;exact⟨_,rfl,h13,hb012.trans (hb13.mono hb012.size)⟩
theorem nV:∀n,Di (wJ n)
 | 0=>λa b g _ _ h=>by simp[wJ]at h
 | n+1=>Ru (nV n)
end Go.Proofs.YtopclbeomcggiaaGreat
end
section
namespace Q
open Go Go.RowKit Go.Proofs.YtopclbeomcggiaaGreat
def Jw:El (List ai × Nat) where
 T:=54
 sz:=2
 pos:=by decide
 E w cs f:=∃v,cs=[v,.int .i64 (f.2:Int)]/\ak w v f.1
 len:=by rintro w c t ⟨v,rfl,-⟩;rfl
 one:=by
  rintro w c t ⟨v,rfl,h⟩ u hu;simp only[List.mem_cons,List.not_mem_nil,or_false]at hu;rcases hu with rfl|rfl
  ·exact bU.one h
  ·rfl
 on:=by rintro w w' c t ⟨v,rfl,h⟩ hb;exact⟨v,rfl,bU.on h hb⟩
 ok T:=aO.ok T/\aJ≠T
 lr:=by rintro g T' w w' c t ⟨v,rfl,h⟩ hl hT;exact⟨v,rfl,bU.lr h hl hT.1 hT.2⟩
 self:=⟨aW (by decide),by decide⟩
theorem TS{G:List ai->List ai->Option (List ai)}{a p:List ai}{v:Nat}{R:List (List ai × Nat)}(h:(if aD p v<1 then some []else
  fD (g1 (dC p v)) λd=>fD (G p d) λg=>fD (iU p g) λw=>fD (iU d g) λy=>CZ G v fuel 1 w y [])=some R)(hd:¬aD p v<1) :
  ∃g w0 b,Wp (dC p v)/\G p (dC p v)=some g/\iU p g=some w0/\iU (dC p v) g=some b/\CZ G v fuel 1 w0 b []=some R:=by
 rw[if_neg hd]at h;obtain⟨d,hd,h⟩:=aV h;obtain⟨rfl,j⟩:=jS hd;obtain⟨g,hg,h⟩:=aV h;obtain⟨w0,e,h⟩:=aV h;obtain⟨b,i,h⟩:=aV h;exact⟨g,w0,b,j,hg,e,i,h⟩
theorem Rv{G:List ai->List ai->Option (List ai)}{x y:List ai}{v f n:Nat}{out R:List (List ai × Nat)}(h:CZ G v (f+1) n x y out=some R)(hd:0<aD x v) :
  ∃g b e,Wp (dC x v)/\Wp (gH y (dC x v))/\G x (gH y (dC x v))=some g/\iU x g=some b/\iU (gH y (dC x v)) g=some e/\CZ G v f (n+1) b e (if 0<aD g v then out++[(g,n)]else out)=some R:=by
 rw[CZ,if_pos hd]at h;obtain⟨d,i,h⟩:=aV h;obtain⟨rfl,m⟩:=jS i;obtain⟨z,l,h⟩:=aV h;obtain⟨rfl,o⟩:=jS l;obtain⟨g,hg,h⟩:=aV h;obtain⟨b,j,h⟩:=aV h;obtain⟨e,k,h⟩:=aV h;exact⟨g,b,e,m,o,hg,j,k,h⟩
abbrev Rw (base:Nat) (w:World) (v:Value) (l:List (List ai × Nat)):Prop:=di Jw base w v l
abbrev Fv (w:World) (v:Value) (l:List (List ai × Nat)):Prop:=bU Jw w v l
end Q
namespace Go.Proofs.YtopclbeomcggiaaGreat
open Go.RowKit Q
theorem LG:∃z bytes,(Tryz.prog.info? Jw.T).map (λi=>(i.zero,i.size,i.bytes))=some (some z,Jw.sz,bytes)/\z.cells.size=Jw.sz/\bytes<=100000:=⟨.agg #[.slice none 0 0,.int .i64 0],32,kM,rfl,dM⟩
def Rx (w:World) (l:List (List ai × Nat)) (e:Ending) (w':World):Prop:=∃v,e=.returned v/\Fv w' v l/\Below w.heap.size w w'
theorem Wp.part{p:List ai}(h:Wp p)(v:Nat):∀t∈p,Rk t.2/\t.1.get v<=100000000/\Rk (t.1.get v:Rat):=λt b=>by have d:=h.exps b v;refine⟨h.rk t b,oM,?_⟩;obtain⟨m,hm⟩:∃m:Nat,t.1.get v=m:=⟨(t.1.get v).toNat,oM⟩;rw[hm];refine(xN (s:=⟨1,100000,1,1⟩) dK (Dv.int 1 (m:Int)) ?_).rk;rw[rabs_int];exact Rat.natCast_le_natCast.2 (by show(m:Int).natAbs<=100000;omega)
theorem UQ{b:Value}{p:List ai}{v:Nat}{w:World}(h:Wp p)(hv:v<4)(hp:ak w b p):Calls Tryz.prog 73 #[b,.int .i64 v] w (aS w (dC p v)) :=
 IY b p v w hp hv (Wp.part h v) (by have:=h.len;omega)
theorem VR{d e:Value}{p q:List ai}{w:World}(h:Wp p)(b:Wp q)(hp:ak w d p)(hq:ak w e q):Calls Tryz.prog 74 #[d,e] w (aS w (gH p q)) :=
 Gx d e p q w hp hq h.rk b.rk (by have:=h.len;omega) (by have:=b.len;omega) h.val b.val
theorem Dj{G:List ai->List ai->Option (List ai)}(HG:Di G)(va:Value)(a:List ai)(R:List (List ai × Nat))(v:Nat)(w:World)(ha:ak w va a)(ka:Wp a)(hv:v<4)(h:WZ G a v=some R) :
  Calls Tryz.prog 29 #[va,.int .i64 v] w (Rx w R):=by
 have hex:∃p,kW G a v=some p/\((aD p v<1/\R=[])\/(¬aD p v<1/\∃g w0 y0,Wp (dC p v)/\G p (dC p v)=some g/\iU p g=some w0/\iU (dC p v) g=some y0/\CZ G v fuel 1 w0 y0 []=some R)):=by
  unfold WZ at h;obtain⟨p,hp,h⟩:=aV h;refine⟨p,hp,?_⟩;by_cases hd:aD p v<1
  ·rw[if_pos hd,sJ]at h;exact .inl ⟨hd,h.symm⟩
  ·exact .inr ⟨hd,TS (a:=a) h hd⟩
 clear h;obtain⟨p,hp,hex⟩:=hex;have kp:=Nl hp;have J:=zH (nH HG va a p v w hv ha ka hp);have s:=zH (λW u (hu:ak W u p)=>jR u p v W hu hv (by have:=kp.len;omega));obtain⟨dp,hdp2⟩:∃dp,dp=aD p v:=⟨_,rfl⟩;rw[<-hdp2]at s hex;clear hp hdp2;rcases hex with ⟨hd1,rfl⟩|⟨hd1,g,w0,y0,kd,hg,hw,M,h⟩
 ·go_enter Tryz.func29,Tryz.ntmps29
  go_wp2_with (first
   | (go_at_call 20;refine J.out.mono ?_;rintro en w3 ⟨v3,rfl,h3,hb3⟩)
   | (go_at_call 53;refine(s.out _ _ h3).mono ?_;rintro en w4 ⟨rfl,hb4⟩))
  go_ret;exact⟨_,rfl,bU.nil _ _,hb3.trans (hb4.mono hb3.size)⟩
 ·have q:=zH (λW u (hu:ak W u p)=>UQ (w:=W) kp hv hu);generalize dC p v=d at *;obtain⟨b,D⟩:=HG _ _ _ kp kd hg;have kw:=qG hw;have ky:=qG M;replace b:=zH b;have m:=zH (λW u1 u2 (h1:ak W u1 p) (h2:ak W u2 g)=>nR u1 u2 p g w0 W h1 h2 D hw);have o:=zH (λW u1 u2 (h1:ak W u1 d) (h2:ak W u2 g)=>nR u1 u2 d g y0 W h1 h2 D M);obtain⟨F,hF⟩:∃F,F=fuel:=⟨_,rfl⟩;have hF9:1+F<=10000001:=by rw[hF];decide
  rw[<-hF]at h;replace h:=zH h;clear hF hg hw M kp kd D
  go_enter Tryz.func29,Tryz.ntmps29
  go_upto_region 6 with (first
   | (go_at_call 20;refine J.out.mono ?_;rintro en w3 ⟨v3,rfl,h3,hb3⟩)
   | (go_at_call 53;refine(s.out _ _ h3).mono ?_;rintro en w4 ⟨rfl,hb4⟩;have h34:=h3.on hb4)
   | (go_at_call 73;refine(q.out _ _ h34).mono ?_;rintro en w5 ⟨v5,rfl,h5,hb5⟩))
  have h35:=h34.on hb5;have hb05:=(hb3.trans (hb4.mono hb3.size)).trans (hb5.mono (hb3.trans (hb4.mono hb3.size)).size);have hgc2:=zH (b.out _ _ _ h35 h5);clear hb3 hb4 hb5 h34 h3 J q s b hd1
  go_upto_region 7 with (go_at_call 16;refine hgc2.out.mono ?_;rintro en w6 ⟨v6,rfl,h6,hb6⟩)
  have how2:=zH (m.out _ _ _ (h35.on hb6) h6);have hoy2:=zH (λW (hb:Below w6.heap.size w6 W)=>o.out W _ _ ((h5.on hb6).on hb) (h6.on hb));clear m o h35 h5 hgc2
  go_upto_region 8 with (first
   | (go_at_call 56;refine(hoy2.out w7 hb7).mono ?_;rintro en w8 ⟨v8,rfl,h8,hb8⟩)
   | (go_at_call 56;refine how2.out.mono ?_;rintro en w7 ⟨v7,rfl,h7,hb7⟩))
  have hb68:=hb6.trans ((hb7.trans (hb8.mono hb7.size)).mono hb6.size);have hb08:=hb05.trans (hb68.mono hb05.size);have h78:=zH (h7.on hb8);replace h8:=zH h8;clear how2 hoy2 hb05 hb6 hb7 hb8 hb68 h6 h7;go_wp2
  go_loopg [6,9,10,11] F (λf vo vw vy vn wr=>∃(n:Nat)(x y:List ai)(out:List (List ai × Nat)),vn=.int .i64 n/\Hid (Rw w.heap.size wr vo out)/\Hid (ak wr vw x)/\Hid (ak wr vy y)/\Wp x/\Wp y/\Hid (CZ G v f n x y out=some R)/\n+f<=10000001/\out.length<=n/\Below w.heap.size w wr)
  case atStart=>exact⟨1,w0,y0,[],rfl,zH (di.nil _ _ _),h78,h8,kw,ky,h,hF9,sM,hb08⟩
  case round =>
   clear h78 h8 kw ky h hF9 hb08;obtain⟨n,x,y,out,rfl,S,C,M,kx,ky,hs,a9,aa,r⟩:=hrel
   cases gk with
   | zero=>exact absurd hs.out (by simp[CZ])
   | succ f =>
   have hs2:=hs.out;have hinv:=Rv hs2;rw[CZ]at hs2;have B:=zH (jR _ x v wr C.out hv (by have:=kx.len;omega));obtain⟨dx,hdx2⟩:∃dx,dx=aD x v:=⟨_,rfl⟩;rw[<-hdx2]at B hs2 hinv;clear hs hdx2;by_cases hd:0<dx
   ·clear hs2;obtain⟨g,x',y',kd,kz,hg,L,N,hs2⟩:=hinv hd;clear hinv;have q:=zH (λW (h1:Below wr.heap.size wr W)=>UQ (w:=W) kx hv (C.out.on h1));have a1:=zH (λW u (h1:Below wr.heap.size wr W) (hu:ak W u (dC x v))=>VR (w:=W) ky kd (M.out.on h1) hu);generalize dC x v=d at *;generalize gH y d=z at *;obtain⟨b,D⟩:=HG _ _ _ kx kz hg;replace b:=zH b;have I:=zH (λW u (hu:ak W u g)=>jR u g v W hu hv (by have:=D.len;omega));have a7:=qG L;have a8:=qG N;have m:=zH (λW u1 u2 (h1:ak W u1 x) (h2:ak W u2 g)=>nR u1 u2 x g x' W h1 h2 D L);have o:=zH (λW u1 u2 (h1:ak W u1 z) (h2:ak W u2 g)=>nR u1 u2 z g y' W h1 h2 D N);obtain⟨dg,hdg2⟩:∃dg,dg=aD g v:=⟨_,rfl⟩;rw[<-hdg2]at I hs2;clear hg L N kd kz D hdg2
    go_upto_region 12 with (first
     | (go_at_call 53;refine B.out.mono ?_;rintro en w3 ⟨rfl,hb3⟩)
     | (go_at_call 73;refine(q.out _ hb3).mono ?_;rintro en w4 ⟨v4,rfl,h4,hb4⟩;have hb34:=hb3.trans (hb4.mono hb3.size))
     | (go_at_call 74;refine(a1.out _ _ hb34 h4).mono ?_;rintro en w5 ⟨v5,rfl,h5,hb5⟩))
    have hb35:=hb34.trans (hb5.mono hb34.size);have hgc2:=zH (b.out _ _ _ (C.out.on hb35) h5);have hx5:=C.out.on hb35;have ho5:=S.out.on hb35;have hbr5:=r.trans (hb35.mono r.size);clear hb3 hb4 hb5 hb34 hb35 h4 q a1 B b C M S
    go_upto_region 13 with (go_at_call 16;refine hgc2.out.mono ?_;rintro en w6 ⟨v6,rfl,h6,hb6⟩)
    have hx6:=hx5.on hb6;have hz6:=h5.on hb6;have ho6:=ho5.on hb6;have hbr6:=hbr5.trans (hb6.mono hbr5.size);have hdg2:=zH (I.out _ _ h6);clear hgc2 hx5 h5 ho5 hbr5 hb6 I;have hn1:n<=10000000:=oM
    go_upto_if 50 with (go_at_call 53;refine hdg2.out.mono ?_;rintro en w7 ⟨rfl,hb7⟩)
    have hx7:=hx6.on hb7;have hz7:=hz6.on hb7;have ho7:=ho6.on hb7;have hg7:=h6.on hb7;have hbr7:=hbr6.trans (hb7.mono hbr6.size);clear hx6 hz6 ho6 h6 hbr6 hb7 hdg2
    go_cut [6,51,52,53,54,55,56] (λvo _ _ _ _ _ _ wd=>Hid (Rw w.heap.size wd vo (if 0<dg then out++[(g,n)]else out))/\Hid (ak wd u9 x)/\Hid (ak wd v5 z)/\Hid (ak wd v6 g)/\Below w.heap.size w wd)
    case first =>
     by_cases hp:0<dg
     ·have i:Below w7.heap.size w7 (w7.alloc (.cells #[v6,.int .i64 n] 54)):=(Below.refl _ _).alloc (nL _) _;have l:=hbr7.trans (i.mono hbr7.size);have a0:=ho7.on i
      have a3:Fv (w7.alloc (.cells #[v6,.int .i64 n] 54)) (.slice (some ⟨w7.heap.size,0,none⟩) 1 1) [(g,n)] :=
       ⟨_,1,[v6,.int .i64 n],rfl,nL _,(Blk.new w7 54 [v6,.int .i64 n]).at,eO.single ⟨v6,rfl,hg7.on i⟩⟩
      have a4:=hx7.on i;have a5:=hz7.on i;have a2:=hg7.on i;have j:=ho7.base_le;obtain⟨a6,c6,rfl,-⟩:=hg7.shape;replace j:=zH j;clear hx7 hz7 hg7 ho7
      go_wp2_with (at_builtin;refine dU rfl _ _ 50 rfl Tryz.underlying50 LG rfl rfl a0 a3 (by simp;omega) l.size ?_;intro v8 w8 hown8 hl8 hv8)
      have hb8:=l.trans (hl8.belowAt l.size (λk hk=>(j.out k hk).1));have hx8:=a4.lr hl8 (aW dM) dM;have hz8:=a5.lr hl8 (aW dM) dM;have hg8:=a2.lr hl8 (aW dM) dM;go_meet
      case rel=>exact⟨zH (by rw[if_pos hp];exact hown8),zH hx8,zH hz8,zH hg8,hb8⟩
     ·go_wp2;go_meet
      case rel=>exact⟨zH (by rw[if_neg oM];exact ho7),zH hx7,zH hz7,zH hg7,hbr7⟩
    case rest =>
     clear hx7 hz7 hg7 ho7 hbr7;obtain⟨S,C,hz,hg,X⟩:=hcut;have how2:=zH (m.out _ _ _ C.out hg.out);have hoy2:=zH (λW (hb:Below wc.heap.size wc W)=>o.out W _ _ (hz.out.on hb) (hg.out.on hb))
     have Z:(if 0<dg then out++[(g,n)]else out).length<=n+1:=by
      split
      ·simp;omega
      ·omega
     replace hs2:=zH hs2;generalize(if 0<dg then out++[(g,n)]else out)=out2 at *;clear m o C hz hg
     go_wp2_with (first
      | (go_at_call 56;refine(hoy2.out w9 hb9).mono ?_;rintro en w10 ⟨v10,rfl,h10,hb10⟩)
      | (go_at_call 56;refine how2.out.mono ?_;rintro en w9 ⟨v9,rfl,h9,hb9⟩))
     have hb910:=hb9.trans (hb10.mono hb9.size);go_roundg f
     case measure=>omega
     case rel=>exact⟨n+1,x',y',out2,nM,zH (S.out.on hb910),zH (h9.on hb10),zH h10,a7,a8,hs2,oM,Z,X.trans (hb910.mono X.size)⟩
   ·rw[if_neg hd,sJ]at hs2;have Y:=zH hs2;have hS:=S.out.isSl;clear hs2 S C M
    go_wp2_with (go_at_call 53;refine B.out.mono ?_;rintro en w3 ⟨rfl,hb3⟩)
    go_ret;exact⟨_,rfl,by rw[<-Y.out];exact hS.on hb3,r.trans (hb3.mono r.size)⟩
end Go.Proofs.YtopclbeomcggiaaGreat
end
section
namespace Q
open Go Go.RowKit Go.Proofs.YtopclbeomcggiaaGreat
abbrev Mx:=List (List (List ai))
def lv (M:Mx) (i j:Nat):List ai:=(M.getD i []).getD j []
def Es (M:Mx) (i j:Nat) (x:List ai):Mx:=M.set i ((M.getD i []).set j x)
def mP (l:List (List ai)) (at_ N:Nat):Nat->List (List ai)
 | 0=>List.replicate N []
 | k+1=>(mP l at_ N k).set (at_+l.length-1-k) (l.getD k [])
def ja (a b:List (List ai)) (N i:Nat):List (List ai):=if b.length-1<=i then mP b (i-(b.length-1)) N b.length else mP a i N a.length
def VS (a b:List (List ai)):Mx:=(List.range (a.length-1+(b.length-1))).map (ja a b (a.length-1+(b.length-1)))
theorem Fw(l:List (List ai))(at_ N:Nat):∀k,(mP l at_ N k).length=N
 | 0=>by simp[mP]
 | k+1=>by rw[mP,List.length_set,Fw l at_ N k]
def Ya (N k i:Nat) (last:List ai):Nat->Mx->Option Mx
 | 0,M=>some M
 | f+1,M=>fD (iU (gH (aX (lv M k k) (lv M i (N-(f+1)))) (aX (lv M i k) (lv M k (N-(f+1))))) last) λx=>Ya N k i last f (Es M i (N-(f+1)) x)
def Yb (N k:Nat) (last:List ai):Nat->Mx->Option Mx
 | 0,M=>some M
 | f+1,M=>fD (Ya N k (N-(f+1)) last (N-(k+1)) M) λM'=>Yb N k last f M'
def Jy (N k:Nat) (M:Mx):Nat->Option Nat
 | 0=>none
 | f+1=>if lv M (N-(f+1)) k=[]then Jy N k M f else some (N-(f+1))
def uE (M:Mx) (i j:Nat):Mx:=(M.set i (M.getD j [])).set j (M.getD i [])
def Xd (last:List ai) (neg:Bool):List ai:=if neg then gH [] last else last
def resS (N:Nat):Nat->Mx->List ai->Bool->Option (List ai)
 | 0,_,last,neg=>some (Xd last neg)
 | f+1,M,last,neg=>match Jy N (N-(f+1)) M (f+1)with
  | none=>some []
  | some at_ =>
   let M1:=if at_=N-(f+1)then M else uE M (N-(f+1)) at_
   let neg1:=if at_=N-(f+1)then neg else !neg
   if f=0 then some (Xd (lv M1 (N-(f+1)) (N-(f+1))) neg1)
   else fD (Yb N (N-(f+1)) last f M1) λM2=>resS N f M2 (lv M2 (N-(f+1)) (N-(f+1))) neg1
def Jz (a b:List ai) (v:Nat):Option (List ai) :=
 if a=[]\/b=[]then some []else resS ((aA a v).length-1+((aA b v).length-1)) ((aA a v).length-1+((aA b v).length-1)) (VS (aA a v) (aA b v)) GL false
structure wK (N:Nat) (M:Mx):Prop where
 len:M.length=N
 rows:∀r∈M,r.length=N
 el:∀r∈M,∀x∈r,Wp x
theorem wK.get{N:Nat}{M:Mx}(h:wK N M)(i j:Nat):Wp (lv M i j):=by
 unfold lv;rcases Nat.lt_or_ge i M.length with hi|hi
 ·rw[jD (l:=M),gE hi,Option.getD_some];rcases Nat.lt_or_ge j M[i].length with hj|hj
  ·rw[jD,gE hj];exact h.el _ (List.getElem_mem hi) _ (List.getElem_mem hj)
  ·rw[jD,gN hj];exact Wp.nil
 ·rw[jD (l:=M),gN hi];simp;exact Wp.nil
theorem wK.row{N:Nat}{M:Mx}(h:wK N M){i:Nat}(d:i<N):M.getD i []∈M/\(M.getD i []).length=N/\M[i]?=some (M.getD i []):=by
 have b:i<M.length:=by rw[h.len];exact d
 have e:M.getD i []=M[i]:=by rw[jD,gE b];rfl
 rw[e];exact⟨List.getElem_mem b,h.rows _ (List.getElem_mem b),gE b⟩
theorem wK.set{N:Nat}{M:Mx}(h:wK N M){i j:Nat}{x:List ai}(l:i<N)(m:Wp x):wK N (Es M i j x):=by
 obtain⟨e,k,n⟩:=h.row l;refine⟨by rw[Es,List.length_set];exact h.len,λr b=>?_,λr b y d=>?_⟩
 ·rcases List.mem_or_eq_of_mem_set b with b|rfl
  ·exact h.rows r b
  ·rw[List.length_set];exact k
 ·rcases List.mem_or_eq_of_mem_set b with b|rfl
  ·exact h.el r b y d
  ·rcases List.mem_or_eq_of_mem_set d with d|rfl
   ·exact h.el _ e y d
   ·exact m
theorem wK.swap{N:Nat}{M:Mx}(h:wK N M){i j:Nat}(d:i<N)(e:j<N):wK N (uE M i j):=by
 have hm:∀r∈uE M i j,r∈M:=λr b=>by
  rcases List.mem_or_eq_of_mem_set b with b|rfl
  ·rcases List.mem_or_eq_of_mem_set b with b|rfl
   ·exact b
   ·exact(h.row e).1
  ·exact(h.row d).1
 exact⟨by rw[uE,List.length_set,List.length_set];exact h.len,λr b=>h.rows r (hm r b),λr b=>h.el r (hm r b)⟩
theorem Dk{l:List (List ai)}(b:∀c∈l,Wp c)(at_ N:Nat):∀k,∀x∈mP l at_ N k,Wp x
 | 0,x,hx=>by rw[List.eq_of_mem_replicate hx];exact Wp.nil
 | k+1,x,hx=>by
  rcases List.mem_or_eq_of_mem_set hx with hx|rfl
  ·exact Dk b at_ N k x hx
  ·rcases Nat.lt_or_ge k l.length with hk|hk
   ·rw[jD,gE hk];exact b _ (List.getElem_mem hk)
   ·rw[jD,gN hk];exact Wp.nil
theorem VT{a b:List (List ai)}(ha:∀c∈a,Wp c)(hb:∀c∈b,Wp c):wK (a.length-1+(b.length-1)) (VS a b):=by
 refine⟨by simp[VS],λr e=>?_,λr e x d=>?_⟩
 ·obtain⟨i,-,rfl⟩:=List.mem_map.1 e;unfold ja;split<;>exact Fw _ _ _ _
 ·obtain⟨i,-,rfl⟩:=List.mem_map.1 e;unfold ja at d;split at d
  ·exact Dk hb _ _ _ x d
  ·exact Dk ha _ _ _ x d
abbrev GR:TypeId:=75
def nY (N:Nat) (b:Nat):Value:=.slice (some ⟨b,0,none⟩) N N
def mi (base:Nat) (w:World) (N b:Nat) (r:List (List ai)):Prop:=base<=b/\r.length=N/\∃vs,oO w b vs r/\vs.length=N
structure tq (base:Nat) (w:World) (g N:Nat) (bs:List Nat) (M:Mx):Prop where
 ob:Blk w g GR (bs.map (nY N)++List.replicate (N-bs.length) (.slice none 0 0))
 gb:base<=g
 len:M.length=bs.length
 le:bs.length<=N
 row:∀(i b:Nat)(r:List (List ai)),bs[i]?=some b->M[i]?=some r->mi base w N b r
 nd:bs.Nodup
theorem mi.on{base:Nat}{w w':World}{N b:Nat}{r:List (List ai)}(h:mi base w N b r)(hb:Below w.heap.size w w'):mi base w' N b r:=by obtain⟨d,e,vs,i,j⟩:=h;exact⟨d,e,vs,i.on hb,j⟩
theorem tq.on{base:Nat}{w w':World}{g N:Nat}{bs:List Nat}{M:Mx}(h:tq base w g N bs M)(hb:Below w.heap.size w w'):tq base w' g N bs M :=
 ⟨h.ob.on hb,h.gb,h.len,h.le,λi b r d e=>(h.row i b r d e).on hb,h.nd⟩
theorem mi.ne{base:Nat}{w:World}{N b g:Nat}{r:List (List ai)}{cs:List Value}(h:mi base w N b r)(hg:Blk w g GR cs):b≠g:=by rintro rfl;obtain⟨-,-,vs,d,-⟩:=h;have:=d.b;unfold Blk at *;rw[this]at hg;simp only[sJ,Obj.cells.injEq]at hg;exact absurd hg.2.1 dM
theorem mi.lr{base:Nat}{w w':World}{N b:Nat}{r:List (List ai)}{g:Nat}{T:TypeId}(h:mi base w N b r)(k:Lr (some g) T w w')(q:uT≠T)(e:aJ≠T)(j:b≠g):mi base w' N b r:=by obtain⟨m,n,vs,d,o⟩:=h;exact⟨m,n,vs,⟨d.b.lr k (by simpa using j),d.l,λi v p hv hp=>(d.p i v p hv hp).lr k (aW q) e⟩,o⟩
theorem mi.set{base:Nat}{w:World}{N b:Nat}{r:List (List ai)}(h:mi base w N b r){j:Nat}(o:j<N){v:Value}{q:List ai}(hq:ak w v q) :
  mi base (w.setCell ⟨b,j,none⟩ v) N b (r.set j q)/\Lr (some b) polyT w (w.setCell ⟨b,j,none⟩ v):=by
 obtain⟨d,e,vs,k,l⟩:=h;obtain⟨m,n⟩:=k.set (i:=j) oM hq;exact⟨⟨d,by simpa using e,_,m,by simpa using l⟩,n⟩
theorem mi.get{base:Nat}{w:World}{N b:Nat}{r:List (List ai)}(h:mi base w N b r){j:Nat}(m:j<N):∃v,ak w v (r.getD j [])/\w.cell? ⟨b,j,none⟩=some v/\w.frozen? ⟨b,j,none⟩=false/\b<w.heap.size:=by obtain⟨e,k,vs,d,l⟩:=h;obtain⟨v,hv,hp,hc⟩:=d.get (i:=j) oM;exact⟨v,hp,hc,d.b.frozen j,d.b.lt⟩
end Q
end
section
namespace Q
open Go.Proofs.YtopclbeomcggiaaGreat
instance Yc:DecidableEq (List ai × Nat):=@instDecidableEqProd (List ai) Nat inferInstance inferInstance
instance Xe:DecidableEq (List (List ai × Nat)):=inferInstance
instance WB:DecidableEq (Option (List (List ai × Nat))):=inferInstance
def G8:List ai->List ai->Option (List ai):=wJ 6
theorem VU:pO [tm 1 1 0] [tm 1 0 1]=[tm 1 0 1,tm 1 1 0]:=dK
theorem JA:pO [tm 1 1 0] [tm 1 0 0]=[tm 1 1 0,tm 1 0 0]:=dK
theorem Xf:aX [tm 1 1 0,tm 1 0 0] [tm 1 1 0,tm 1 0 0]=[tm 1 2 0,tm 2 1 0,tm 1 0 0]:=dK
theorem VV:gH [tm 1 1 0] [tm 1 0 1]=[tm (-1) 0 1,tm 1 1 0]:=dK
theorem Yy:aX [tm 1 0 1,tm 1 1 0] [tm (-1) 0 1,tm 1 1 0]=[tm (-1) 0 2,tm 1 2 0]:=dK
theorem Yz:aX [tm 1 0 1] [tm 1 0 1,tm 1 1 0]=[tm 1 0 2,tm 1 1 1]:=dK
theorem VW:aX [tm 1 0 1] [tm 1 1 0,tm 1 0 0]=[tm 1 1 1,tm 1 0 1]:=dK
theorem YA:bN [tm 1 1 1,tm 1 0 1] (((2:Int)):Rat)=[tm 2 1 1,tm 2 0 1]:=dK
theorem Xg:aX [tm 1 1 0] [tm 1 0 1]=[tm 1 1 1]:=dK
theorem YB:aX [tm 1 1 1] [tm 1 2 0,tm 2 1 0,tm 1 0 0]=[tm 1 3 1,tm 2 2 1,tm 1 1 1]:=dK
theorem YC:WZ G8 [tm 1 3 1,tm 2 2 1,tm 1 1 1] 0=some [([tm 1 1 0],1),([tm 1 1 0,tm 1 0 0],2)]:=dK
theorem UR:pO [tm 1 1 0] [tm 2 0 0]=[tm 1 1 0,tm 2 0 0]:=dK
theorem VX:bN [tm 1 1 0,tm 2 0 0] (((2:Int)):Rat)=[tm 2 1 0,tm 4 0 0]:=dK
theorem YD:jT [tm 2 1 0,tm 4 0 0]=some [tm 1 1 0,tm 2 0 0]:=dK
theorem Xh:G8 [tm (-1) 0 2,tm 1 2 0] [tm 1 0 2,tm 1 1 1]=some [tm 1 0 1,tm 1 1 0]:=dK
theorem Xi:bN [tm 1 1 0] (((3:Int)):Rat)=[tm 3 1 0]:=dK
theorem Xj:G8 [] [tm 3 1 0]=some [tm 1 1 0]:=dK
theorem Xk:G8 [tm 1 1 0] [tm 1 0 1]=some [tm 1 0 0]:=dK
theorem Xl:G8 [tm 4 0 0] [tm 6 0 0]=some [tm 1 0 0]:=dK
theorem Xm:G8 [] []=some []:=dK
theorem Xn:mG G8 [tm 2 1 1,tm 2 0 1] 0=some [tm 1 0 1]:=dK
theorem Xo:kW G8 [tm 2 1 1,tm 2 0 1] 0=some [tm 2 1 0,tm 2 0 0]:=dK
theorem VY:bN [tm 1 1 0,tm 1 0 0] (((2:Int)):Rat)=[tm 2 1 0,tm 2 0 0]:=dK
theorem Xp:WZ G8 [tm 1 0 1] 0=some []:=dK
theorem sw_xx:aX [tm 1 1 0] [tm 1 1 0]=[tm 1 2 0]:=dK
theorem VZ:gH [tm 1 2 0] [tm 1 0 1]=[tm (-1) 0 1,tm 1 2 0]:=dK
theorem V3:gH [tm 1 1 0] [tm 1 0 0]=[tm 1 1 0,tm (-1) 0 0]:=dK
theorem V4:gH [tm 1 0 0] [tm 1 0 1]=[tm (-1) 0 1,tm 1 0 0]:=dK
theorem Xq:Jz [tm (-1) 0 1,tm 1 2 0] [tm 1 1 0,tm (-1) 0 0] 0=some [tm (-1) 0 1,tm 1 0 0]:=dK
theorem Xr:Jz [tm 2 0 0] [tm 3 0 0] 0=some [tm 1 0 0]:=dK
theorem Xt:Jz [tm 2 0 0] [tm 1 2 0] 0=some [tm 4 0 0]:=dK
theorem Xu:Jz [] [tm 1 0 0] 0=some []:=dK
end Q
end
