/- mpoly.Div. -/
import Derived.Test.YtopclbeomcggiaaGreatY25
set_option linter.unusedVariables false
set_option linter.unusedSimpArgs false
set_option maxHeartbeats 16000000
set_option maxRecDepth 100000
section
namespace Q
open Go Go.RowKit
theorem bV.lrB{α:Type}{e:El α}{w w':World}{v:Value}{l:List α}{g:Option Nat}{T:TypeId}(h:bV e w v l)(j:Lr g T w w')(p:e.ok T)(i:∀d n c,v=.slice (some d) n c->some d.block≠g):bV e w' v l:=by obtain⟨d,cap,q,rfl,k,m,o⟩:=h;refine⟨d,cap,q,rfl,k,λhp=>?_,o.lr p j⟩;obtain⟨b,off,e1,hc⟩:=m hp;subst e1;exact⟨b,off,rfl,hc.lr' j (i _ _ _ rfl)⟩
end Q
namespace Q
open Go Go.RowKit Go.Proofs.YtopclbeomcggiaaGreat
def af.own {T:TypeId} (B:Nat) (l:List aj):af (Lr none T):=af.of (λv w=>bR B w v l) (λ_ _ _ hb h=>h.on hb.below)
end Q
namespace Go.Proofs.YtopclbeomcggiaaGreat
open Go.RowKit Q Go.WideMaps Go.Maps
theorem Dl{w:World}{r:List Value}{q:Rat}{e:Ex}(h:gY w r q):(bD e++r).toArray.all (·.oneCell')=true:=by
 rw[Array.all_eq_true_iff_forall_mem];intro v hv;rcases List.mem_append.1 (by simpa using hv)with hv|hv
 ·exact BD e v hv
 ·exact h.one v hv
def gQ (m g:aj):aj:=(m.1.sub g.1,m.2/g.2)
structure NW (b:List aj) (g m:aj) (a:List aj):Prop where
 he:InR (m.1.sub g.1)
 hm:Rk m.2
 hg:Rk g.2
 hz:g.2≠0
structure RP (b:List aj) (g m:aj) (a:List aj):Prop where
 hq:Rk (m.2/g.2)
 hb:(∀t∈b,InR t.1/\Rk t.2)/\b.length<=100000000
 hp:UA (prods b [gQ m g])
 ha:(∀t∈(m::a),Rk t.2)/\(m::a).length<=100000000/\bQ (m::a)
 hc:(∀t∈aZ b [gQ m g],Rk t.2)/\(aZ b [gQ m g]).length<=100000000
inductive zN (b:List aj) (g:aj):Nat->List aj->List aj->Option (List aj)->Prop
 | done {out:List aj}:zN b g 0 [] out (some out)
 | fail {m:aj} {a out:List aj}:(m.1.sub g.1).nat=false->NW b g m a->zN b g 0 (m::a) out none
 | step {n:Nat} {m:aj} {a out:List aj} {r:Option (List aj)}:(m.1.sub g.1).nat=true->NW b g m a->RP b g m a->out.length<=100000000 ->
   zN b g n (gp (m::a) (aZ b [gQ m g])) (out++[gQ m g]) r->zN b g (n+1) (m::a) out r
theorem zN.inv{b:List aj}{g m:aj}{n:Nat}{a out:List aj}{r:Option (List aj)}(h:zN b g n (m::a) out r) :
  NW b g m a/\((m.1.sub g.1).nat=false->r=none)/\((m.1.sub g.1).nat=true->∃n',n=n'+1/\RP b g m a/\out.length<=100000000/\zN b g n' (gp (m::a) (aZ b [gQ m g])) (out++[gQ m g]) r):=by
 cases h with
 | fail d e=>exact⟨e,λ_=>rfl,(λh=>by rw[d]at h;cases h)⟩
 | step d e i j k=>exact⟨e,(λh=>by rw[d]at h;cases h),λ_=>⟨_,rfl,i,j,k⟩⟩
theorem zN.inv0{b:List aj}{g:aj}{n:Nat}{out:List aj}{r:Option (List aj)}(h:zN b g n [] out r):r=some out:=by cases h;rfl
def BK (w:World) (r:Option (List aj)) (e:Ending) (w':World):Prop:=∃v,e=.returned (.tuple #[v,.bool r.isSome])/\ai w' v (r.getD [])/\Below w.heap.size w w'
theorem UI(b d:Value)(p:List aj)(w:World)(hp:ai w b p)(hq:ai w d []):Calls Tryz.prog 93 #[b,d] w (BK w none):=by
 obtain⟨ap,cp,rfl,i⟩:=hp.shape;obtain⟨k,l,rfl,j⟩:=hq.shape;simp only[List.length_nil]
 go_enter Tryz.func93,Tryz.ntmps93
 go_wp2;go_ret2;exact⟨_,rfl,bV.nil _ _,Below.refl _ _⟩
theorem XW(m g:Ex)(v:Nat)(h:v<4):(Ex.sub m g).get v=m.get v-g.get v:=by
 obtain rfl|rfl|rfl|rfl:v=0\/v=1\/v=2\/v=3:=oM
 all_goals rfl
def yD (m g:Ex):Nat->Ex
 | 0=>m
 | k+1=>(yD m g k).put k (m.get k-g.get k)
theorem Mj(m g:Ex):yD m g 4=m.sub g:=rfl
theorem PQ(m g:Ex)(k:Nat)(h:k<4):(yD m g k).get k=m.get k:=by
 obtain rfl|rfl|rfl|rfl:k=0\/k=1\/k=2\/k=3:=oM
 all_goals rfl
theorem UJ(vp vq:Value)(p b:List aj)(g:aj)(n:Nat)(r:Option (List aj))(w:World)(hp:ai w vp p)(hq:ai w vq (g::b))(hd:zN (g::b) g n p [] r) :
  Calls Tryz.prog 93 #[vp,vq] w (BK w r):=by
 obtain⟨s,oq,b2,e1,-,au,a7⟩:∃s oq cs,(∃cq,vq=.slice (some ⟨s,oq,none⟩) (b.length+1) cq)/\True/\qy w cs g/\bL aJ w s (oq+0*8) cs:=by obtain⟨aq,cq,rfl,b4⟩:=hq.shape;obtain⟨s,oq,cs,rfl,-,hE,hC⟩:=hq.get (j:=0) (t:=g) rfl;exact⟨s,oq,cs,⟨cq,rfl⟩,trivial,hE,hC⟩
 obtain⟨cq,rfl⟩:=e1;obtain⟨rg,rfl,a5⟩:=au;have ay:=a5.len;replace hd:=zH hd
 go_enter Tryz.func93,Tryz.ntmps93
 go_wp2
 go_loopg [0,6] n (λn va vo wr=>∃a out,Hid (ai wr va a)/\Hid (bR w.heap.size wr vo out)/\Hid (zN (g::b) g n a out r)/\Below w.heap.size w wr/\Hid (a≠[]->∀G n c,va=.slice (some G) n c->some G.block≠vo.ownBlock))
 case atStart=>exact⟨p,[],zH hp,zH (di.nil _ _ _),hd,Below.refl _ _,zH (λ_ G n c _ h=>by simp[Value.ownBlock]at h)⟩
 case round =>
  clear hd;obtain⟨a,out,ha,d,hd,l,F⟩:=hrel
  cases a with
  | nil =>
   have hr:r=some out:=hd.out.inv0;obtain⟨aa,ca,rfl,ax⟩:=ha.out.shape;replace hr:=zH hr;simp only[List.length_nil];go_wp2;go_ret2;exact⟨_,by rw[hr.out];rfl,by rw[hr.out];exact d.out.isSl,l⟩
  | cons m a =>
   obtain⟨B,o,cK⟩:=hd.out.inv;obtain⟨aa,ca,rfl,ax⟩:=ha.out.shape;obtain⟨Y,oa,b0,rfl,-,ar,J⟩:=ha.out.get (j:=0) (t:=m) rfl;obtain⟨ra,rfl,u⟩:=ar;change bL aJ wr Y (oa+0*8) _ at J;have ac:=u.len;have a6:(bD m.1++ra).length=8:=by rw[List.length_append,ac];rfl
   have I:=J.range;rw[Nat.zero_mul,Nat.add_zero]at I;have hne1:some Y≠u6.ownBlock:=λh=>F.out sM _ _ _ rfl h;have M:=λv hv=>Ex.get_bounds B.he (v:=v) hv;have X:=λv hv=>XW m.1 g.1 v hv;replace M:=zH M;replace X:=zH X;replace o:=zH o;replace cK:=zH cK;replace B:=zH B;simp only[List.length_cons]
   go_upto_region 6 with (first
    | (refine ak rfl _ _ 27 rfl aJ Tryz.underlying27 _ 8 96 kM _ _ _ rfl .i64 0 rfl 0 rfl oM Y oa rfl ?_;rw[Nat.zero_mul,Nat.add_zero])
    | (refine wpList_load_mid rfl 43 _ rfl _ _ rfl _ _ I Tryz.underlying43 rfl (by rw[a6];kernel_rfl) ?_)
    | (refine az rfl _ (.tmp 7) (.tmp 17) rfl _ _ _ _ rfl rfl (Blk.new wr aJ [.int .i64 0,.int .i64 0,.int .i64 0,.int .i64 0,.bool false,.slice none 0 0,.bool false,.slice none 0 0]) (by simp[bD,ac]) (by simp only[List.size_toArray,a6];exact zJ) (Dl u) ?_;intro W3 R3 gr3))
   have D:Blk W3 wr.heap.size aJ (bD m.1++ra):=by simpa using R3
   have a9:Below wr.heap.size wr (wr.alloc (.cells #[.int .i64 0,.int .i64 0,.int .i64 0,.int .i64 0,.bool false,.slice none 0 0,.bool false,.slice none 0 0] aJ)):=(Below.refl _ _).alloc (nL _) _;have hb3:Below wr.heap.size wr W3:=a9.trans (aH gr3 sM (nL _));have hbr3:=l.trans (hb3.mono l.size);have ha3:=ha.out.on hb3;have hown3:=d.out.on hb3;have hra3:=u.on hb3;have an:w.heap.size<=wr.heap.size:=l.size;have a4:u6.ownBlock≠some wr.heap.size:=λh=>by have:=(d.out.base_le _ h).2;omega
   have a8:Y≠wr.heap.size:=λh=>by have:=J.lt;omega
   have q:∀k,u6.ownBlock=some k->w.heap.size<=k:=λk Z=>(d.out.base_le k Z).1;clear I R3 gr3 a9 hb3 J ha d u l F hd;generalize wr.heap.size=mb at *;have al:Hid (Blk W3 mb aJ (bD (yD m.1 g.1 0)++ra)):=zH D;clear D;go_wp2
   go_loopw [18] (λi wr=>∃k:Nat,k<=4/\i=.int .i64 k/\Hid (Blk wr mb aJ (bD (yD m.1 g.1 k)++ra))/\Hid (ai wr (.slice (some ⟨Y,oa,none⟩) (a.length+1) ca) (m::a))/\Hid (bR w.heap.size wr u6 out)/\Hid (gY wr ra m.2)/\Below w.heap.size w wr) (λi _=>4-(intOf i).toNat)
   case atStart=>exact⟨0,oM,rfl,al,zH ha3,zH hown3,zH hra3,hbr3⟩
   case round =>
    clear al ha3 hown3 hra3 hbr3;obtain⟨k,Z,rfl,hB,ha,d,u,l⟩:=hrel;by_cases hk4:k<4
    ·have D:=hB.out;have aE:(k:Int)<4:=oM;have a2:=oK (yD m.1 g.1 k) k hk4 ra;rw[PQ _ _ _ hk4]at a2;have ag:=tH (yD m.1 g.1 k) k hk4 (m.1.get k-g.1.get k) ra;have hw:IntKind.i64.wrap (m.1.get k-g.1.get k)=m.1.get k-g.1.get k:=lI (by rw[<-X.out k hk4];exact M.out k hk4);have ab:=oK g.1 k hk4 rg;have f1:∀W',Below wr.heap.size wr W'->W'.cell? ⟨mb,k,none⟩=some (.int .i64 (m.1.get k)):=λW' h=>(D.on h).at1 k _ a2
     have f2:∀W',Below wr.heap.size wr W'->W'.cell? ⟨s,oq+k,none⟩=some (.int .i64 (g.1.get k)):=λW' h=>by have:=(a7.on (l.trans (h.mono l.size))).cell k (by simp[bD];omega);rw[Nat.zero_mul,Nat.add_zero]at this;rw[this];exact ab
     have C:yD m.1 g.1 (k+1)=Ex.put (yD m.1 g.1 k) k (m.1.get k-g.1.get k):=rfl;generalize m.1.get k=x at *;generalize g.1.get k=y at *;replace C:=zH C
     go_upto_region 9 with (fail)
     refine aC mixed (none) (0) (fM.none) [.eq (.int .i64 k),.eq (.pointer (some ⟨mb,0,none⟩)),.eq (.pointer (some ⟨mb,k,none⟩)),.eq (.int .i64 x),.eq (.slice (some ⟨s,oq,none⟩) (b.length+1) cq),.eq (.int .i64 k),.eq (.pointer (some ⟨s,oq+0*8,none⟩)),.eq (.pointer (some ⟨s,oq+0*8,none⟩)),.eq (.pointer (some ⟨s,oq+k,none⟩)),.eq (.int .i64 y),.eq (.int .i64 (x-y)),.eq (.pointer (some ⟨mb,0,none⟩)),.eq (.pointer (some ⟨mb,k,none⟩))] [21,22,23,24,25,26,27,28,29,30,31,32,33] rfl rfl rfl rfl ⟨λ_ _ a _ _ _=>xM rfl (a 8 rfl),λ_ _ a _ _ _=>ae rfl (xK rfl (a 7 rfl)),λA _ _ _ _ he=>have h22:=eT 22 (he.1 rfl);have h21:=eT 21 (he.2.1 rfl);pZ rfl,?_,λ_ _ a _ _ _=>xM rfl (a 1 rfl),λ_ _ a _ _ _=>xM rfl (a 8 rfl),λ_ _ _ _ _ e=>pI rfl Tryz.underlying27 s oq 0 oM (e.1 rfl) rfl,λ_ _ _ _ _ e=>ae rfl (xK rfl (e.1 rfl)),λA _ _ _ _ he=>have h28:=eT 28 (he.1 rfl);have h26:=eT 26 (he.2.1 rfl);pZ rfl,?_,λA _ _ _ _ he=>have h24:=eT 24 (he.1 rfl);have h30:=eT 30 (he.2.1 rfl);pZ rfl,λ_ _ a _ _ _=>ae rfl (xK rfl (a 7 rfl)),λA _ _ _ _ he=>have h32:=eT 32 (he.1 rfl);have h21:=eT 21 (he.2.1 rfl);pZ rfl,trivial⟩ ?_
     ·intro A w1 hA hL hS he;have h23:=eT 23 (he.1 rfl);refine ae rfl ?_;have c0:=f1 w1 hL.below;exact aA rfl rfl gZ
     ·intro A w1 hA hL hS he;have h29:=eT 29 (he.1 rfl);refine ae rfl ?_;have c0:=f2 w1 hL.below;exact aA rfl rfl gZ
     ·intro W2 hL2;have hb2:=hL2.below;simp only[aU,af.eq,lZ];go_frame;have B2:=D.on hb2;have z:=B2.at1 k _ a2;have hf:=B2.frozen k;have hown2:=d.out.on hb2;have ha2:=ha.out.on hb2;have hra2:=u.out.on hb2;have hbr2:=l.trans (hb2.mono l.size);have hl3:=aY (j:=k) B2 (.int .i64 (x - y));have B3:=B2.set k (.int .i64 (x - y));rw[ag]at B3;clear f1 f2 hL2;go_wp2;go_roundw
      case rel =>
       refine⟨k+1,oM,nM,zH (by rw[C.out];exact B3),zH (ha2.lrB hl3 (aV dM) (λG n c h=>by simp only[Value.slice.injEq,sJ]at h;rw[<-h.1];simpa using a8)),zH (hown2.lr hl3 (aV dM) (.inr a4)),zH (hra2.lr hl3 dM),hbr2.trans (hl3.belowAt hbr2.size (λk Z=>by cases Z;exact an))⟩
      case measure=>simp[intOf];omega
    ·obtain rfl:k=4:=oM;rw[Mj]at hB;clear M X;obtain⟨E,hE⟩:∃E,E=m.1.sub g.1:=⟨_,rfl⟩;have N:gQ m g=(E,m.2/g.2):=by rw[hE];rfl
     have a1:InR E:=by rw[hE];exact B.out.he
     rw[<-hE]at hB o cK;replace N:=zH N;replace a1:=zH a1;clear hE;have D:=hB.out
     go_upto_region 11 with (fail)
     refine aN trivial (none) (0) (fM.none) [.eq (.pointer (some ⟨mb,0,none⟩)),.eq (.agg (bD E).toArray),.ret (.bool E.nat),.eq (.bool (!E.nat))] [35,36,37,38] rfl rfl rfl rfl ⟨λ_ _ a _ _ _=>ae rfl (xK rfl (a 7 rfl)),λ_ _ _ hL _ e=>pL rfl (Df (D.on hL.below)) Tryz.underlying36 (show(bD E).length=4 from rfl) (e.1 rfl),λA _ _ _ hS he=>have hb:=hS rfl;have h36:=eT 36 (he.1 rfl);have hf0:=eF A 114;cP (f:=114) (args:=#[.agg (bD E).toArray]) (AB E _),λA _ _ _ _ he=>have h37:=eT 37 (he.1 rfl);pZ rfl,trivial⟩ ?_
     ·intro W2 hL2;have hb2:=hL2.below;simp only[aU,af.eq,af.ret,lZ];go_frame;have B2:=D.on hb2;have hown2:=d.out.on hb2;have ha2:=ha.out.on hb2;have hra2:=u.out.on hb2;have hbr2:=l.trans (hb2.mono l.size);clear hL2 D hB d ha u l hb2;cases hEn:E.nat
      ·have hr:=o.out hEn;replace hr:=zH hr;clear cK hEn;go_wp2;go_ret2;exact⟨_,by rw[hr.out];rfl,by rw[hr.out];exact bV.nil _ _,hbr2⟩
      ·obtain⟨n',a3,hok2,b5,L⟩:=cK.out hEn;rw[N.out]at L;replace hok2:=zH hok2;replace L:=zH L;replace a3:=zH a3;clear o cK hEn;have hdiv:=λW (hb:Below W2.heap.size W2 W)=>Jw _ _ _ _ W (hra2.on hb).rat (a5.on (hbr2.trans (hb.mono hbr2.size))).rat B.out.hm B.out.hg B.out.hz;obtain⟨N1,A1,K1,C1,N2,A2,K2,C2,rfl,-,-⟩:=hra2;obtain⟨N3,A3,K3,C3,N4,A4,K4,C4,rfl,-,-⟩:=id a5;have y1:=B2.at1 4 _ rfl;have y2:=B2.at1 5 _ rfl;have y3:=B2.at1 6 _ rfl;have y4:=B2.at1 7 _ rfl;have hCg2:=a7.on hbr2;have x1:W2.cell? ⟨s,oq+4,none⟩=some (.bool N3):=by have:=hCg2.cell 4 (by simp[bD]);simpa[bD]using this
       have x2:W2.cell? ⟨s,oq+4+1,none⟩=some (.slice A3 K3 C3):=by have:=hCg2.cell 5 (by simp[bD]);simpa[bD,Nat.add_assoc]using this
       have x3:W2.cell? ⟨s,oq+4+2,none⟩=some (.bool N4):=by have:=hCg2.cell 6 (by simp[bD]);simpa[bD,Nat.add_assoc]using this
       have x4:W2.cell? ⟨s,oq+4+3,none⟩=some (.slice A4 K4 C4):=by have:=hCg2.cell 7 (by simp[bD]);simpa[bD,Nat.add_assoc]using this
       have f1:=B2.frozen 4;have f2:=B2.frozen 5;have f3:=B2.frozen 6;have f4:=B2.frozen 7;clear hCg2
       go_upto_region 13 with (fail)
       go_cut [39,40,41,42,43,44,45,46,47,48,49] (λ_ _ _ _ _ _ _ _ _ _ _ wc=>∃r':List Value,Hid (Blk wc mb aJ (bD E++r'))/\Hid (gY wc r' (m.2/g.2))/\Hid (bR w.heap.size wc u6 out)/\Hid (ai wc (.slice (some ⟨Y,oa,none⟩) (a.length+1) ca) (m::a))/\Below w.heap.size w wc)
       case first =>
        replace hown2:=zH hown2;replace ha2:=zH ha2
        go_region_with (go_at_call 46;refine(hdiv _ (pV (Below.refl _ _) _)).mono ?_;rintro en w5 ⟨v5,rfl,hv5,hb5⟩;obtain⟨N5,A5,K5,C5,N6,A6,K6,C6,rfl⟩:=fF hv5;have B5:=(B2.on (pV (Below.refl _ _) _)).on hb5;have z1:=B5.at1 4 _ rfl;have z2:=B5.at1 5 _ rfl;have z3:=B5.at1 6 _ rfl;have z4:=B5.at1 7 _ rfl;have g1:=B5.frozen 4;have g2:=B5.frozen 5;have g3:=B5.frozen 6;have g4:=B5.frozen 7)
        all_goals
         obtain⟨R5,gr5⟩:=eO [.bool N5,.slice A5 K5 C5,.bool N6,.slice A6 K6 C6] 4 w5 _ B5 (by simp[bD]);have hl5:Lr (some mb) aJ w5 _:=⟨gr5,λk Z=>by cases Z;exact⟨B5.noOther,R5.noOther⟩⟩;have hb25:Below W2.heap.size W2 w5:=(pV (Below.refl _ _) 1).trans (hb5.mono (nL _));have hbw5:=hbr2.trans (hb25.mono hbr2.size);have hown5:=(hown2.out.on hb25).lr hl5 (aV dM) (.inr a4);have ha5:=(ha2.out.on hb25).lrB hl5 (aV dM) (λG n c h=>by simp only[Value.slice.injEq,sJ]at h;rw[<-h.1];simpa using a8);have hr5:=(hv5.lr hl5 dM).cellsC (cs:=[.bool N5,.slice A5 K5 C5,.bool N6,.slice A6 K6 C6]);have hbw6:=hbw5.trans (hl5.belowAt hbw5.size (λk Z=>by cases Z;exact an));clear z1 z2 z3 z4 g1 g2 g3 g4 B5 hv5 hl5 gr5;go_wp2;go_meet
         case rel=>exact⟨_,zH R5,zH hr5,zH hown5,zH ha5,hbw6⟩
       case rest =>
        clear B2 hown2 ha2 hdiv y1 y2 y3 y4 x1 x2 x3 x4 f1 f2 f3 f4 hbr2;obtain⟨r',hB,S,d,ha,l⟩:=hcut;have D:=hB.out;have ap:=S.out.len;have h8:(bD E++r').length=8:=by rw[List.length_append,ap];rfl
        have a0:some mb≠u6.ownBlock:=λh=>a4 h.symm;obtain⟨k1,k2,k3,k4,k5⟩:=hok2.out;rw[N.out]at k3 k5
        have kq:∀t∈[((E,m.2/g.2):aj)],InR t.1/\Rk t.2:=λt ht=>by rw[List.mem_singleton.1 ht];exact⟨a1.out,k1⟩
        replace k1:=zH k1;replace k2:=zH k2;replace k3:=zH k3;replace k4:=zH k4;replace k5:=zH k5;replace kq:=zH kq;replace q:=zH q;clear hB hok2 ay
        go_upto_region 14 with (fail)
        refine aN trivial (u6.ownBlock) (aJ) (d.out.okr) [.eq (u6),.eq (.agg (bD E++r').toArray),.new1 aL fw ((E,m.2/g.2)),.row aL (w.heap.size) wc.heap.size (out++[(E,m.2/g.2)])] [50,51,52,53] rfl rfl rfl rfl ⟨λ_ _ a _ _ _=>xM rfl (a 6 rfl),λ_ _ a hL _ _=>pL rfl ((D.lr hL a0).cells.range) Tryz.underlying43 (h8) (a 7 rfl),?_,?_,trivial⟩ ?_
        ·intro A w1 hA hL hS he;have h51:=eT 51 (he.1 rfl);refine ae rfl ?_;have hE:(aL:El _).E w1 _ ((E,m.2/g.2)):=⟨_,rfl,S.out.lr hL dM⟩;refine fo rfl rfl ((d.out.okr).lr hL) hE (bu rfl ?_) (λ_ _ h=>h);simp only[List.map_toArray,List.map_cons,List.map_nil,h51];exact bM _ _ ((aL).len hE)
        ·intro A w1 hA hL hS he;have hb:=hS rfl;have aw:Below w.heap.size w w1:=l.trans (hL.belowAt l.size q.out);have h50:=eT 50 (he.1 rfl);obtain⟨v52,h52,f52⟩:=fT 52 (he.2.1 rfl);exact ae rfl (dJ rfl rfl rfl Tryz.underlying27 bG h50 h52 (d.out.on hb) rfl rfl (dU f52) (by simp only[List.length_cons,List.length_nil];omega) (aw.size) hL.1.size (λ_ _ h1 h2=>⟨h1,h2⟩))
        ·intro W6 hL6;simp only[aU,af.eq,af.new1,af.row,af.asPure,af.of,af.fragile,lZ];rintro v52 - v53 ⟨hown6,ad⟩;go_frame;have hbW6:=l.trans (hL6.belowAt l.size q.out);have ha6:=ha.out.lrB hL6 (aV dM) (λG n c h=>by simp only[Value.slice.injEq,sJ]at h;rw[<-h.1];exact hne1);have B6:=D.lr hL6 a0;have hr6:=S.out.lr hL6 dM;have hq6:=hq.on hbW6;have hblk6:=zH hown6.base_le;clear hL6 D ha d S l ad
         go_upto_region 15 with (fail)
         refine aN trivial (none) (0) (fM.none) [.eq (.slice (some ⟨Y,oa,none⟩) (a.length+1) ca),.eq (.slice (some ⟨s,oq,none⟩) (b.length+1) cq),.eq (.agg (bD E++r').toArray),.new1 aL (aV dM) ((E,m.2/g.2)),.poly dM dM ((aZ (g::b) [(E,m.2/g.2)])),.own W6.heap.size (gp (m::a) (aZ (g::b) [(E,m.2/g.2)]))] [54,55,56,57,58,59] rfl rfl rfl rfl ⟨λ_ _ a _ _ _=>xM rfl (a 0 rfl),λ_ _ a _ _ _=>xM rfl (a 1 rfl),λ_ _ a hL _ _=>pL rfl ((B6.on hL.below).cells.range) Tryz.underlying43 (h8) (a 7 rfl),?_,?_,?_,trivial⟩ ?_
         ·intro A w1 hA hL hS he;have hb:=hS rfl;have h56:=eT 56 (he.1 rfl);refine ae rfl ?_;have hE:(aL:El _).E w1 _ ((E,m.2/g.2)):=⟨_,rfl,hr6.on hb⟩;refine fo rfl rfl ((fM.none).lr hL) hE (bu rfl ?_) (λ_ _ h=>h);simp only[List.map_toArray,List.map_cons,List.map_nil,h56];exact bM _ _ ((aL).len hE)
         ·intro A w1 hA hL hS he;have hb:=hS rfl;have h55:=eT 55 (he.1 rfl);obtain⟨v57,h57,f57⟩:=fT 57 (he.2.1 rfl);have hf0:=eF A 54;exact cP (f:=54) (args:=#[.slice (some ⟨s,oq,none⟩) (b.length+1) cq,v57]) (zL _ _ _ _ _ (hq6.on hb) (dU f57) k2.out.1 kq.out k3.out k2.out.2 sM)
         ·intro A w1 hA hL hS he;have hb:=hS rfl;have h54:=eT 54 (he.1 rfl);obtain⟨v58,h58,f58⟩:=fT 58 (he.2.1 rfl);have hf0:=eF A 74;refine ae rfl ?_;refine dV (f:=74) (args:=#[.slice (some ⟨Y,oa,none⟩) (a.length+1) ca,v58]) rfl rfl ?_ ?_
          ·exact gZ
          ·refine(NV _ _ _ _ _ (ha6.on hb) f58 k4.out.1 k5.out.1 k4.out.2.1 k5.out.2 k4.out.2.2 (bQ.mul _ _)).mono ?_;rintro e w' ⟨v,rfl,hi,av⟩;exact⟨_,rfl,av,hi.base_mono hb.size⟩
         ·intro W7 hL7;have hb7:=hL7.below;simp only[aU,af.eq,af.new1,af.poly,af.own,af.of,lZ];rintro v57 - v58 - v59 hown9;go_frame;have hown7:=hown6.on hb7;have hbW7:=hbW6.trans (hb7.mono hbW6.size)
          have F:(gp (m::a) (aZ (g::b) [(E,m.2/g.2)]))≠[]->∀G n c,v59=.slice (some G) n c->some G.block≠v53.ownBlock:=λ_ G n c h hc=>by
           have h1:=(hblk6.out G.block hc.symm).2;obtain⟨xs,⟨-,h2⟩,-⟩:=hown9;rcases h2 with ⟨h2,-⟩|⟨gg,cap,b3,h2,h3,-⟩
           ·rw[h]at h2;cases h2
           ·rw[h]at h2;cases h2;simp only at h1;omega
          replace F:=zH F;clear hL7 hb7 hown6 ha6 B6 hr6 hq6 hbW6;go_wp2;go_roundg n'
          case measure=>have:=a3.out;omega
          case rel=>exact⟨_,_,zH hown9.isSl,zH hown7,L,hbW7,F⟩
end Go.Proofs.YtopclbeomcggiaaGreat
end
section
namespace Q
def fZ (D R:List (List aj)):List (List aj) :=
 let n:=D.length-1
 let top:=R.getD (R.length-1) []
 (List.range (R.length-1)).map λi=>if R.length-1-n<=i then gp (aZ (R.getD i []) (D.getD n [])) (aZ top (D.getD (i-(R.length-1-n)) []))else aZ (R.getD i []) (D.getD n [])
def gH (D:List (List aj)):Nat->List (List aj)->List (List aj)
 | 0,R=>R
 | f+1,R=>if D.length-1<R.length then gH D f (fZ D R)else R
theorem iL(D R:List (List aj)):(fZ D R).length=R.length-1:=by simp[fZ]
def tK (D R:List (List aj)) (i:Nat):List (List aj):=(fZ D R).take i++(R.take (R.length-1)).drop i
theorem RQ{D R:List (List aj)}{i:Nat}(h:i<=R.length-1):(tK D R i).length=R.length-1:=by simp[tK,iL];omega
theorem PR(D R:List (List aj)):tK D R 0=R.take (R.length-1):=by simp[tK]
theorem PS(D R:List (List aj)):tK D R (R.length-1)=fZ D R:=by rw[tK,List.drop_of_length_le sM,List.append_nil,tL (by rw[iL];exact nL _)]
theorem RS{D R:List (List aj)}{i:Nat}(h:i<R.length-1):(tK D R i)[i]?=some (R.getD i []):=by
 have b:((fZ D R).take i).length=i:=by rw[List.length_take,iL];omega
 rw[tK,List.getElem?_append_right oM,List.getElem?_drop];rw[b,Nat.sub_self,Nat.add_zero,List.getElem?_take,if_pos h,jD,gE oM]
 rfl
theorem PU{D R:List (List aj)}{i:Nat}(h:i<R.length-1) :
  tK D R (i+1)=(tK D R i).set i (if R.length-1-(D.length-1)<=i then gp (aZ (R.getD i []) (D.getD (D.length-1) [])) (aZ (R.getD (R.length-1) []) (D.getD (i-(R.length-1-(D.length-1))) []))else aZ (R.getD i []) (D.getD (D.length-1) [])):=by
 have b:((fZ D R).take i).length=i:=by rw[List.length_take,iL];omega
 rw[tK,tK,List.set_append_right _ _ oM,b,Nat.sub_self,List.drop_eq_getElem_cons (show i<(R.take (R.length-1)).length by simp;omega),List.set_cons_zero,List.take_add_one,List.append_assoc]
 congr 1
 have:(fZ D R)[i]?=some (if R.length-1-(D.length-1)<=i then gp (aZ (R.getD i []) (D.getD (D.length-1) [])) (aZ (R.getD (R.length-1) []) (D.getD (i-(R.length-1-(D.length-1))) []))else aZ (R.getD i []) (D.getD (D.length-1) [])):=by simp[fZ,h]
 rw[this];rfl
end Q
namespace Q
open Go Go.RowKit Go.Proofs.YtopclbeomcggiaaGreat
structure RU (p q:List aj):Prop where
 kp:∀t∈p,InR t.1/\Rk t.2
 kq:∀t∈q,InR t.1/\Rk t.2
 ko:UA (prods p q)
 kl:p.length<=100000000/\q.length<=100000000
structure XX (p q:List aj):Prop where
 kp:∀t∈p,Rk t.2
 kq:∀t∈q,Rk t.2
 kl:p.length<=100000000/\q.length<=100000000
 kv:bQ p/\bQ q
def Zk (D R:List (List aj)):Prop:=∀i,i<R.length-1->RU (R.getD i []) (D.getD (D.length-1) []) /\
 (R.length-1-(D.length-1)<=i->RU (R.getD (R.length-1) []) (D.getD (i-(R.length-1-(D.length-1))) [])/\XX (aZ (R.getD i []) (D.getD (D.length-1) [])) (aZ (R.getD (R.length-1) []) (D.getD (i-(R.length-1-(D.length-1))) [])))
def JU (D:List (List aj)):Nat->List (List aj)->Prop
 | 0,_=>True
 | f+1,R=>D.length-1<R.length->Zk D R/\JU D f (fZ D R)
structure pM (w:World) (g:Nat) (vs:List Value) (R:List (List aj)):Prop where
 b:Blk w g polyT vs
 l:R.length<=vs.length
 p:∀(i:Nat) v p,vs[i]?=some v->R[i]?=some p->ai w v p
theorem pM.on{w w':World}{g:Nat}{vs:List Value}{R:List (List aj)}(h:pM w g vs R)(hb:Below w.heap.size w w'):pM w' g vs R :=
 ⟨h.b.on hb,h.l,λi v p d e=>(h.p i v p d e).on hb⟩
theorem pM.get{w:World}{g:Nat}{vs:List Value}{R:List (List aj)}(h:pM w g vs R){i:Nat}(d:i<R.length):∃v,vs[i]?=some v/\ai w v (R.getD i [])/\w.cell? ⟨g,i,none⟩=some v:=by have e:=h.l;have hv:vs[i]?=some vs[i]:=gE oM;refine⟨vs[i],hv,h.p i _ _ hv ?_,h.b.at1 i _ hv⟩;rw[jD,gE d];rfl
theorem pM.set{w:World}{g:Nat}{vs:List Value}{R:List (List aj)}(h:pM w g vs R){i:Nat}(n:i<R.length){v:Value}{q:List aj}(hq:ai w v q) :
  pM (w.setCell ⟨g,i,none⟩ v) g (vs.set i v) (R.set i q)/\Lr (some g) polyT w (w.setCell ⟨g,i,none⟩ v):=by
 have m:=aY (j:=i) h.b v;refine⟨⟨h.b.set i v,by simpa using h.l,λj u p d e=>?_⟩,m⟩;rw[List.getElem?_set]at d e;by_cases k:i=j
 ·subst k;rw[if_pos rfl,if_pos (by have:=h.l;omega)]at d;rw[if_pos rfl,if_pos n]at e;cases d;cases e;exact hq.lr m (aV dM) dM
 ·rw[if_neg k]at d e;exact(h.p j u p d e).lr m (aV dM) dM
theorem pM.take{w:World}{g:Nat}{vs:List Value}{R:List (List aj)}(h:pM w g vs R)(k:Nat):pM w g vs (R.take k) :=
 ⟨h.b,by have:=h.l;rw[List.length_take];omega,λi v p e d=>h.p i v p e (by rw[List.getElem?_take]at d;split at d;exact d;cases d)⟩
theorem pM.other{w w':World}{g h:Nat}{vs:List Value}{R:List (List aj)}(hc:pM w g vs R)(e:Lr (some h) polyT w w')(d:g≠h):pM w' g vs R :=
 ⟨hc.b.lr e (by simpa using d),hc.l,λi v p j k=>(hc.p i v p j k).lr e (aV dM) dM⟩
theorem pM.polys{w:World}{g:Nat}{vs:List Value}{R:List (List aj)}(h:pM w g vs R):jq w (.slice (some ⟨g,0,none⟩) R.length vs.length) R:=by
 refine⟨_,_,vs.take R.length,rfl,h.l,λ_=>⟨g,0,rfl,h.b.cells.take _⟩,uW (by rw[List.length_take];have:=h.l;omega) λn v l d e=>?_⟩;rw[List.getElem?_take]at d;split at d
 ·exact h.p n v l d e
 ·cases d
end Q
namespace Go.Proofs.YtopclbeomcggiaaGreat
open Go Go.RowKit Q Go.Proofs.YtopclbeomcggiaaGreat
theorem kV.cols{w:World}{g base:Nat}{vs:List Value}{L:List (List aj)}(h:kV base w vs L)(e:Blk w g polyT vs):pM w g vs L :=
 ⟨e,by rw[h.len];exact nL _,λi v p b d=>(h.own i v p b d).isSl⟩
end Go.Proofs.YtopclbeomcggiaaGreat
namespace Q
open Go Go.RowKit Go.Proofs.YtopclbeomcggiaaGreat
end Q
namespace Q
open Go Go.RowKit
theorem oL{P:Program}{w:World}{ops:Array Oper}{rest:List Oper}{o:Oper}{a:Act}{Q:Exit->Act->World->Prop}(hg:o.guard=none)(x p:Operand)(t:TypeId)(m:o.op=Op.slice t x none (some p) none){el:TypeId}(u:P.underlying t=some (.slice el)){size:Nat}(s:(P.info? el).map (·.size)=some size)
  (d:Option Addr) (n c:Nat) (y:a.eval x=.slice d n c) (k:IntKind) (i:Int) (l:a.eval p=.int k i) (j:Nat) (e:i=(j:Int)) (r:j<=c) (h:wpList P ops Q rest (a.put o.dst (.slice d j c)) w):wpList P ops Q (o::rest) a w:=by
 refine wpList_plain hg λK q=>?_;have b:=kR u s w d n c j k i e r;unfold Oper.wp;rw[jO m (by simp only[Option.map_some,Option.map_none];rw[y,l];exact b)];exact q _ _ h
end Q
namespace Go.Proofs.YtopclbeomcggiaaGreat
open Go.RowKit Q Go.WideMaps Go.Maps
def Dn (w:World) (l:List aj) (c:Int) (e:Ending) (w':World):Prop:=∃v,e=.returned (.tuple #[v,.int .i64 c])/\ai w' v l/\Below w.heap.size w w'
theorem Mk(vp vq:Value)(p q:List aj)(v:Nat)(w:World)(hp:ai w vp p)(hq:ai w vq q)(hv:v<4)(a0:q≠[])(np:dX p)(nq:dX q)(dp:aD p v<=100000)(dq:aD q v<=100000)(lp:p.length<=100000000)(lq:q.length<=100000000)
  (u:JU (aB q v) (aB p v).length (aB p v)) (I:UA (fromL v 0 (gH (aB q v) (aB p v).length (aB p v)))) (hl2:∀c∈gH (aB q v) (aB p v).length (aB p v),c.length<=100000000) :
  Calls Tryz.prog 94 #[vp,vq,.int .i64 v] w (Dn w (uD (gH (aB q v) (aB p v).length (aB p v)) v) 0):=by
 have hD:=λW (hb:Below w.heap.size w W)=>xg vq q v W (hq.on hb) hv nq oM lq;have hR:=λW (hb:Below w.heap.size w W)=>xg vp p v W (hp.on hb) hv np oM lp;obtain⟨aq,cq,rfl,bc⟩:=hq.shape;have bi:0<q.length:=List.length_pos_iff.2 a0
 have b9:1<=(aB q v).length/\(aB q v).length<=100001:=by rw[eB];obtain⟨t,ht⟩:=List.exists_mem_of_ne_nil _ a0;have:=dR ht v;have:=Ex.nat_get (nq t ht) v;omega
 have bb:(aB p v).length<=100001:=by rw[eB];have:=sG p v;omega
 have hq0:((q.length:Int)==0)=false:=by simp;omega
 generalize aB q v=D at *;generalize aB p v=R0 at *;obtain⟨B,n⟩:∃B,gH D R0.length R0=B:=⟨_,rfl⟩;rw[n]at I hl2 ⊢
 have ar:B.length<=100001:=by
  have:∀f R,(gH D f R).length<=R.length:=by
   intro f
   induction f with
   | zero=>intro R;exact nL _
   | succ f ih=>intro R;unfold gH;split;exact Nat.le_trans (ih _) (by rw[iL];omega);exact nL _
  have:=this R0.length R0;rw[n]at this;omega
 replace I:=zH I;replace hl2:=zH hl2;obtain⟨f0,hf0⟩:∃f0,f0=R0.length:=⟨_,rfl⟩;rw[<-hf0]at n u;have aa:R0.length<=D.length - 1+f0:=oM;replace n:=zH n;replace u:=zH u;have bh:((D.length:Int) - 1)=((D.length - 1:Nat):Int):=oM;clear a0 hp hq np nq dp dq lp lq hf0
 go_enter Tryz.func94,Tryz.ntmps94
 go_upto_region 4 with (go_at_call 62;refine(hD _ (Below.refl _ _)).mono ?_;rintro en w1 ⟨F,vd,rfl,a3,aw,N,hb1⟩)
 have m:=N.cols a3;have ap:=N.len;clear a3 N aw;rw[ap]
 go_upto_region 6 with (go_at_call 62;refine(hR _ hb1).mono ?_;rintro en w2 ⟨g,vs,rfl,hB,hg,S,hb2⟩)
 have hb12:=hb1.trans (hb2.mono hb1.size);have hc0:=S.cols hB;have hcD2:=m.on hb2;have bd:F<g:=by have:=m.b.lt;omega
 have ac:w.heap.size<=g:=by have:=hb1.size;omega
 have o:=S.len;have y:Hid (pM w2 g vs R0/\vs.length=R0.length/\gH D f0 R0=B/\JU D f0 R0/\R0.length<=D.length-1+f0):=zH ⟨hc0,o,n.out,u.out,aa⟩;rw[o];replace y:=y.out;clear n u hB S hD hR m hc0 hb1 hb2 hg o
 go_loopg [10] f0 (λf v10 wr=>∃(R:List (List aj))(vs:List Value),v10=.slice (some ⟨g,0,none⟩) R.length R0.length/\Hid (pM wr g vs R)/\vs.length=R0.length/\Hid (gH D f R=B)/\Hid (JU D f R)/\R.length<=D.length-1+f/\R.length<=R0.length/\Hid (pM wr F vd D)/\Below w.heap.size w wr)
 case atStart=>exact⟨R0,vs,rfl,zH y.1,y.2.1,zH y.2.2.1,zH y.2.2.2.1,y.2.2.2.2,oM,zH hcD2,hb12⟩
 case round =>
  clear y hcD2 hb12;obtain⟨R,vs,rfl,hc,o,G,u,aa,ba,m,s⟩:=hrel;by_cases Z:D.length - 1<R.length
  ·obtain⟨f',rfl⟩:∃f',gk=f'+1:=⟨gk - 1,oM⟩;have a1:Hid (gH D f' (fZ D R)=B):=zH (by rw[<-G.out,gH,if_pos Z]);have J:=u.out Z;have b3:=zH J.1;have b2:=zH J.2;obtain⟨vt,b7,a7,au⟩:=hc.out.get (i:=R.length - 1) oM;have aE:((R.length:Int) - 1)=((R.length - 1:Nat):Int):=oM;have an:((D.length - 1:Nat):Int)<(R.length:Int):=oM;have ao:=λW':World=>kR (P:=Tryz.prog) Tryz.underlying75 Rw W' (some ⟨g,0,none⟩) R.length R0.length (R.length - 1) .i64 ((R.length - 1:Nat):Int) rfl oM;have hct2:=(hc.out.take (R.length - 1));rw[<-PR D R]at hct2;replace hct2:=zH hct2;have L:=zH a7;have hR1:R.length<=100001:=oM;clear G u J b7 a7 hc
   go_upto_region 9 with (first
    | (refine ak rfl _ _ 75 rfl polyT Tryz.underlying75 _ 1 24 kM _ _ _ rfl .i64 _ rfl (R.length-1) oM oM g 0 rfl ?_;rw[nU,Nat.zero_add])
    | (refine oL rfl _ _ 75 rfl Tryz.underlying75 Rw _ _ _ rfl .i64 _ rfl (R.length-1) oM oM ?_))
   clear au ao;go_wp2
   go_loopw [43] (λi wr=>∃(k:Nat)(vs:List Value),k<=R.length-1/\i=.int .i64 k/\Hid (pM wr g vs (tK D R k))/\vs.length=R0.length/\Hid (ai wr vt (R.getD (R.length-1) []))/\Hid (pM wr F vd D)/\Below w.heap.size w wr) (λi _=>R.length-1-(intOf i).toNat)
   case atStart=>exact⟨0,vs,oM,nM,hct2,o,L,m,s⟩
   case round =>
    clear hct2 L m s o;obtain⟨k,vs,hk,rfl,hc,o,L,m,s⟩:=hrel;by_cases C:k<R.length - 1
    ·have b8:(k:Int)<((R.length - 1:Nat):Int):=oM;have al:(tK D R k).length=R.length - 1:=RQ oM;obtain⟨vk,a2,-,a8⟩:=hc.out.get (i:=k) oM;have a4:ai wr vk (R.getD k []):=hc.out.p k _ _ a2 (RS C);obtain⟨vn,b5,a5,a9⟩:=m.out.get (i:=D.length - 1) oM;obtain⟨mo,mo2⟩:=b3.out k C;have d:=PU (D:=D) C;replace d:=zH d;replace mo2:=zH mo2;have ax:g<wr.heap.size:=hc.out.b.lt;have ab:F<wr.heap.size:=m.out.b.lt;have f1:∀W,Below wr.heap.size wr W->W.cell? ⟨g,k,none⟩=some vk:=λW h=>by rw[h.cell ax];exact a8
     have f2:∀W,Below wr.heap.size wr W->W.cell? ⟨F,D.length-1,none⟩=some vn:=λW h=>by rw[h.cell ab];exact a9
     clear a8 a9
     go_upto_region 12 with (fail)
     refine aC mixed (none) (0) (fM.none) [.eq (.slice (some ⟨g,0,none⟩) (R.length-1) R0.length),.eq (.int .i64 k),.eq (.slice (some ⟨g,0,none⟩) (R.length-1) R0.length),.eq (.int .i64 k),.eq (.pointer (some ⟨g,0+k*1,none⟩)),.eq (vk),.eq (.slice (some ⟨F,0,none⟩) D.length D.length),.eq (.int .i64 (D.length-1:Nat)),.eq (.pointer (some ⟨F,0+(D.length-1)*1,none⟩)),.eq (vn),.poly dM dM ((aZ (R.getD k []) (D.getD (D.length-1) []))),.eq (.pointer (some ⟨g,0+k*1,none⟩))] [46,47,48,49,50,51,52,53,54,55,56,57] rfl rfl rfl rfl ⟨λ_ _ a _ _ _=>xM rfl (a 10 rfl),λ_ _ a _ _ _=>xM rfl (a 12 rfl),λ_ _ a _ _ _=>xM rfl (a 10 rfl),λ_ _ a _ _ _=>xM rfl (a 12 rfl),λ_ _ _ _ _ e=>pI rfl Tryz.underlying75 g 0 k (C) (e.1 rfl) (e.2.1 rfl),?_,λ_ _ a _ _ _=>xM rfl (a 8 rfl),λ_ _ a _ _ _=>xM rfl (a 9 rfl),λ_ _ _ _ _ e=>pI rfl Tryz.underlying75 F 0 (D.length-1) oM (e.1 rfl) (e.2.1 rfl),?_,λA _ _ _ hS he=>have hb:=hS rfl;have h51:=eT 51 (he.1 rfl);have h55:=eT 55 (he.2.1 rfl);have hf0:=eF A 54;cP (f:=54) (args:=#[vk,vn]) (zL _ _ _ _ _ (a4.on hb) (a5.on hb) mo.kp mo.kq mo.ko mo.kl.1 mo.kl.2),λ_ _ _ _ _ e=>pI rfl Tryz.underlying75 g 0 k (C) (e.1 rfl) (e.2.1 rfl),trivial⟩ ?_
     ·intro A w1 hA hL hS he;have h50:=eT 50 (he.1 rfl);refine ae rfl ?_;have c0:=f1 w1 hL.below;exact aA rfl rfl gZ
     ·intro A w1 hA hL hS he;have h54:=eT 54 (he.1 rfl);refine ae rfl ?_;have c0:=f2 w1 hL.below;exact aA rfl rfl gZ
     ·intro W2 hL2;have hb2:=hL2.below;simp only[aU,af.eq,af.poly,af.of,lZ];rintro v56 h56;go_frame;have hc2:=hc.out.on hb2;have hcD2:=m.out.on hb2;have hpt2:=L.out.on hb2;have hbr2:=s.trans (hb2.mono s.size);have z:=hc2.b.at1 k _ a2;have hf:=hc2.b.frozen k;have ay:k<(tK D R k).length:=oM;obtain⟨hc3,hl3⟩:=hc2.set ay h56;have hcD3:pM (W2.setCell ⟨g,k,none⟩ v56) F vd D:=hcD2.other hl3 oM;have hpt3:=hpt2.lr hl3 (aV dM) dM;have hbr3:=hbr2.trans (hl3.belowAt hbr2.size (λk hk=>by cases hk;exact ac));have h563:=h56.lr hl3 (aV dM) dM;obtain⟨a56,c56,hs56,-⟩:=h56.shape;subst hs56;clear f1 f2 a4 a5 hL2 hc m L hb2 s hc2 hcD2 hpt2 hbr2 a2 b5 h56 mo;generalize aZ (R.getD k []) (D.getD (D.length - 1) [])=A at *;have hR2:R.length - 1<=100000:=oM;have hD2:D.length - 1<=100000:=oM;by_cases Y:R.length - 1 - (D.length - 1)<=k
      ·obtain⟨r,so⟩:=mo2.out Y;have ag:(0:Int)<=(k:Int) - (((R.length - 1:Nat):Int) - ((D.length - 1:Nat):Int)):=oM;obtain⟨j,hj⟩:∃j,j=k - (R.length - 1 - (D.length - 1)):=⟨_,rfl⟩;have be:(k:Int) - (((R.length - 1:Nat):Int) - ((D.length - 1:Nat):Int))=(j:Int):=oM;replace hj:=zH hj
       go_upto_region 15 with (fail)
       have b0:((tK D R k).set k A).length=R.length-1:=by simpa using al
       have ad:j<D.length:=oM;rw[<-hj.out]at r so;obtain⟨vj,bj,M,X⟩:=hcD3.get (i:=j) ad;obtain⟨W3,hW3⟩:∃W3,W3=W2.setCell ⟨g,k,none⟩ (.slice a56 A.length c56):=⟨_,rfl⟩;rw[<-hW3]at hc3 hcD3 hpt3 hbr3 h563 M X ⊢;have hkT3:k<((tK D R k).set k A).length:=oM;have hck3:W3.cell? ⟨g,k,none⟩=some (.slice a56 A.length c56):=hc3.b.at1 k _ (by rw[List.getElem?_set,if_pos rfl,if_pos (by have:=hc3.l;simp at this;omega)]);have hgl3:g<W3.heap.size:=hc3.b.lt;have hgdl3:F<W3.heap.size:=hcD3.b.lt;have e1:∀W,Below W3.heap.size W3 W->W.cell? ⟨g,k,none⟩=some (.slice a56 A.length c56):=λW h=>by rw[h.cell hgl3];exact hck3
       have e2:∀W,Below W3.heap.size W3 W->W.cell? ⟨F,j,none⟩=some vj:=λW h=>by rw[h.cell hgdl3];exact X
       generalize hvv:Value.slice a56 A.length c56=vv at *;clear hW3 hl3 z hf hck3 X ag hvv;rw[if_pos Y,<-hj.out]at d;refine aC mixed (none) (0) (fM.none) [.eq (.slice (some ⟨g,0,none⟩) (R.length-1) R0.length),.eq (.int .i64 k),.eq (.slice (some ⟨g,0,none⟩) (R.length-1) R0.length),.eq (.int .i64 k),.eq (.pointer (some ⟨g,0+k*1,none⟩)),.eq (vv),.eq (vt),.eq (.slice (some ⟨F,0,none⟩) D.length D.length),.eq (.int .i64 j),.eq (.pointer (some ⟨F,0+j*1,none⟩)),.eq (vj),.poly dM dM ((aZ (R.getD (R.length-1) []) (D.getD j []))),.poly dM dM ((gp A (aZ (R.getD (R.length-1) []) (D.getD j [])))),.eq (.pointer (some ⟨g,0+k*1,none⟩))] [66,67,68,69,70,71,72,73,74,75,76,77,78,79] rfl rfl rfl rfl ⟨λ_ _ a _ _ _=>xM rfl (a 10 rfl),λ_ _ a _ _ _=>xM rfl (a 12 rfl),λ_ _ a _ _ _=>xM rfl (a 10 rfl),λ_ _ a _ _ _=>xM rfl (a 12 rfl),λ_ _ _ _ _ e=>pI rfl Tryz.underlying75 g 0 k (C) (e.1 rfl) (e.2.1 rfl),?_,λ_ _ a _ _ _=>xM rfl (a 11 rfl),λ_ _ a _ _ _=>xM rfl (a 8 rfl),λ_ _ a _ _ _=>xM rfl (a 13 rfl),λ_ _ _ _ _ e=>pI rfl Tryz.underlying75 F 0 j (ad) (e.1 rfl) (e.2.1 rfl),?_,λA _ _ _ hS he=>have hb:=hS rfl;have h72:=eT 72 (he.1 rfl);have h76:=eT 76 (he.2.1 rfl);have hf0:=eF A 54;cP (f:=54) (args:=#[vt,vj]) (zL _ _ _ _ _ (hpt3.on hb) (M.on hb) r.kp r.kq r.ko r.kl.1 r.kl.2),?_,λ_ _ _ _ _ e=>pI rfl Tryz.underlying75 g 0 k (C) (e.1 rfl) (e.2.1 rfl),trivial⟩ ?_
       ·intro A w1 hA hL hS he;have h70:=eT 70 (he.1 rfl);refine ae rfl ?_;have c0:=e1 w1 hL.below;exact aA rfl rfl gZ
       ·intro A w1 hA hL hS he;have h75:=eT 75 (he.1 rfl);refine ae rfl ?_;have c0:=e2 w1 hL.below;exact aA rfl rfl gZ
       ·intro A w1 hA hL hS he;have hb:=hS rfl;have h71:=eT 71 (he.1 rfl);obtain⟨v77,h77,f77⟩:=fT 77 (he.2.1 rfl);have hf0:=eF A 74;exact cP (f:=74) (args:=#[vv,v77]) (H8 _ _ _ _ _ (h563.on hb) f77 so.kp so.kq so.kl.1 so.kl.2 so.kv.1 so.kv.2)
       ·intro W5 hL5;have hb5:=hL5.below;simp only[aU,af.eq,af.poly,af.of,lZ];rintro v77 - v78 h78;generalize gp A (aZ (R.getD (R.length - 1) []) (D.getD j []))=A2 at h78 d;go_frame;have hc5:=hc3.on hb5;have hcD5:=hcD3.on hb5;have hpt5:=hpt3.on hb5;have hbr5:=hbr3.trans (hb5.mono hbr3.size);obtain⟨vq,b6,-,z5⟩:=hc5.get (i:=k) hkT3;have hf5:=hc5.b.frozen k;obtain⟨hc6,hl6⟩:=hc5.set hkT3 h78;have hcD6:=hcD5.other hl6 oM;have hpt6:=hpt5.lr hl6 (aV dM) dM;have hbr6:=hbr5.trans (hl6.belowAt hbr5.size (λk hk=>by cases hk;exact ac));obtain⟨a78,c78,hs78,-⟩:=h78.shape;subst hs78;rw[show((tK D R k).set k A).set k A2=tK D R (k+1) by rw[d.out];simp]at hc6;clear hc3 hcD3 hpt3 hbr3 h563 M e1 e2 hL5 hc5 hcD5 hpt5 hbr5 b6 h78;go_wp2;go_roundw
        case rel=>exact⟨k+1,_,oM,nM,zH hc6,by simpa using o,zH hpt6,zH hcD6,hbr6⟩
        case measure=>simp[intOf];omega
      ·have ag:¬(0:Int)<=(k:Int)-(((R.length-1:Nat):Int)-((D.length-1:Nat):Int)):=oM;rw[if_neg Y]at d;go_wp2;go_roundw
       case rel=>exact⟨k+1,_,oM,nM,zH (by rw[d.out];exact hc3),by simpa using o,zH hpt3,zH hcD3,hbr3⟩
       case measure=>simp[intOf];omega
    ·obtain rfl:k=R.length - 1:=oM;rw[PS]at hc;have b4:=iL D R;go_wp2;go_roundg f'
     case measure=>omega
     case rel=>exact⟨fZ D R,vs,by rw[b4],hc,o,a1,b2,oM,oM,m,s⟩
  ·have x:B=R:=by
    have:=G.out
    cases gk with
    | zero=>exact this.symm
    | succ f=>rw[gH,if_neg Z]at this;exact this.symm
   have an:¬((D.length-1:Nat):Int)<(R.length:Int):=oM;have a6:=hc.out.polys;rw[o]at a6;have av:=λW (hb:Below wr.heap.size wr W)=>RD _ R v W (a6.on hb) hv (by rw[<-x];exact I.out) oM (by rw[<-x];exact hl2.out);replace x:=zH x;clear G u hc m I hl2
   go_wp2_with (go_at_call 120;refine(av _ (Below.refl _ _)).mono ?_;rintro en w5 ⟨v5,rfl,hv5,hb5⟩)
   go_ret2;exact⟨_,rfl,by rw[x.out];exact hv5,s.trans (hb5.mono s.size)⟩
end Go.Proofs.YtopclbeomcggiaaGreat
end
section
namespace Q
def jX (p:List aj) (m:aj):List aj:=if m.2=0 then []else p.map λs=>mulT s m
def wQ (e f:Ex):Nat->Ex
 | 0=>e
 | k+1=>(wQ e f k).put k (e.get k+f.get k)
theorem Ml(e f:Ex):wQ e f 4=e.add f:=rfl
theorem PV(e f:Ex)(k:Nat)(h:k<4):(wQ e f k).get k=e.get k:=by
 obtain rfl|rfl|rfl|rfl:k=0\/k=1\/k=2\/k=3:=oM
 all_goals rfl
theorem Zl(m g:Ex)(v:Nat)(h:v<4):(Ex.add m g).get v=m.get v+g.get v:=by
 obtain rfl|rfl|rfl|rfl:v=0\/v=1\/v=2\/v=3:=oM
 all_goals rfl
theorem bQ.times{p:List aj}{m:aj}(h:bQ p)(hm:m.1.nat=true):bQ (jX p m):=by
 unfold jX;split
 ·exact bQ.nil
 ·rename_i hz;refine⟨h.1.map λs _ t _ b=>?_,λt e=>?_⟩
  ·show(s.1.add m.1).gt (t.1.add m.1)=true;rw[Ex.add_comm s.1,Ex.add_comm t.1,Ex.gt_add];exact b
  ·obtain⟨s,d,rfl⟩:=List.mem_map.1 e;exact⟨jm (h.2 s d).1 hz,Ex.nat_add (h.2 s d).2 hm⟩
theorem RV(x:Pt){p:List aj}(h:dX p){m:aj}(hm:m.1.nat=true):ev x (jX p m)=ev x p*(m.2*xP x m.1):=by
 unfold jX;split
 ·rename_i hz;rw[hz,jv];grind
 ·induction p with
  | nil=>rw[List.map_nil,jv];grind
  | cons s p b =>
   rw[List.map_cons,lu,lu,b h.tail];simp only[mulT];rw[Nl x h.head hm];grind
end Q
namespace Go.Proofs.YtopclbeomcggiaaGreat
open Go.RowKit Q Go.WideMaps Go.Maps
theorem RX(e:Ex):(bD e).toArray.all (·.oneCell')=true:=by rw[Array.all_eq_true_iff_forall_mem];intro v hv;exact BD e v (by simpa using hv)
theorem H9(e:Ex)(v:Nat)(hv:v<4):(bD e)[v]?=some (.int .i64 (e.get v)):=by
 obtain rfl|rfl|rfl|rfl:v=0\/v=1\/v=2\/v=3:=oM
 all_goals rfl
theorem RY(e:Ex)(v:Nat)(hv:v<4)(x:Int):(bD e).set v (.int .i64 x)=bD (e.put v x):=by
 obtain rfl|rfl|rfl|rfl:v=0\/v=1\/v=2\/v=3:=oM
 all_goals rfl
theorem xu(vp:Value)(p:List aj)(cs:List Value)(m:aj)(w:World)(hp:ai w vp p)(hm:qy w cs m)(rp:∀t∈p,Rs t.2)(rm:Rs m.2)(Y:∀t∈p,InR (t.1.add m.1))(lp:p.length<=100000000) :
  Calls Tryz.prog 44 #[vp,.agg cs.toArray] w (aP w (jX p m)):=by
 obtain⟨ap,cp,rfl,al⟩:=hp.shape;obtain⟨r,rfl,hr⟩:=hm;have h4:=hr.len;replace rp:=zH rp;replace Y:=zH Y;obtain⟨R,hR⟩:∃R,R=jX p m:=⟨_,rfl⟩;rw[<-hR];replace hR:=zH hR
 go_enter Tryz.func44,Tryz.ntmps44
 go_upto_region 1 with (fail)
 refine jg λW hb0 B ab=>?_;go_wp2;have X:Below W.heap.size W (W.alloc (.cells #[] aJ)):=(Below.refl _ _).alloc (nL _) _;have hown0:=FL aL (w:=W) (base:=w.heap.size+1) B.lt;have S:=hb0.trans (X.mono hb0.size);have B0:=B.on X;change bR (w.heap.size+1) (W.alloc (.cells #[] 43)) _ _ at hown0;change Below w.heap.size w (W.alloc (.cells #[] 43))at S;change Blk (W.alloc (.cells #[] 43)) _ _ _ at B0;clear X B hb0;replace hp:=zH hp
 go_loopw [5,6] (λo vi wr=>∃k:Nat,vi=.int .i64 k/\k<=p.length/\Hid (m.2=0->k=0)/\Hid (bR (w.heap.size+1) wr o ((p.take k).map λs=>mulT s m))/\Hid (Blk wr w.heap.size aJ (bD m.1++r))/\Below w.heap.size w wr) (λ_ vi _=>p.length-(intOf vi).toNat)
 case atStart=>exact⟨0,rfl,oM,zH (λ_=>rfl),zH hown0,zH B0,S⟩
 case round =>
  clear hown0 B0 S ab;obtain⟨k,rfl,J,hz0,d,hB,l⟩:=hrel;by_cases Z:k<p.length
  ·have ad:(k:Int)<(p.length:Int):=oM;have F:=hB.out;have hsgn:=λW (hb:Below wr.heap.size wr W)=>zM _ _ W (hr.on (l.trans (hb.mono l.size))).rat;have C:p[k]?=some p[k]:=gE Z;generalize p[k]=s at C;obtain⟨G,I,ra,rfl,a4,a2⟩:=fI hp.out C;have a9:=a4.len
   go_upto_region 3 with (fail)
   by_cases hz:m.2=0
   ·have hk0:=hz0.out hz;have hs0:jG m.2.num=0:=by rw[hz];rfl
    rw[hs0]at hsgn;replace hk0:=zH hk0;refine aN trivial (none) (0) (fM.none) [.eq (.int .i64 k),.eq (.slice (some ⟨G,I,none⟩) p.length cp),.eq (.int .i64 p.length),.eq (.bool true),.eq (.bool true),.eq (.pointer (some ⟨w.heap.size,0+4,none⟩)),.eq (.agg (r).toArray),.ret (.int .i64 0),.eq (.bool false),.eq (.bool false)] [10,11,12,13,14,15,16,17,18,19] rfl rfl rfl rfl ⟨λ_ _ a _ _ _=>xM rfl (a 6 rfl),λ_ _ a _ _ _=>xM rfl (a 0 rfl),λA _ _ _ _ he=>have h11:=eT 11 (he.1 rfl);pZ rfl,λA _ _ _ _ he=>have h10:=eT 10 (he.1 rfl);have h12:=eT 12 (he.2.1 rfl);pZ rfl,λ_ _ _ _ _ e=>xM rfl (e.1 rfl),λ_ _ a _ _ e=>aI rfl rfl (e.1 rfl) (FJ rfl (a 3 rfl)),λ_ _ _ hL _ e=>aI rfl rfl (e.2.1 rfl) (xL rfl (vX (F.on hL.below)) Tryz.underlying41 (h4) (e.1 rfl)),λA _ _ _ hS he=>have hb:=hS rfl;have h14:=eT 14 (he.2.1 rfl);have h16:=eT 16 (he.1 rfl);have hf0:=eF A 67;cY (f:=67) (args:=#[.agg (r).toArray]) h14 (hsgn _ hb),λA _ _ _ _ he=>have h14:=eT 14 (he.2.1 rfl);have h17:=eT 17 (he.1 rfl);have hc0:=eC A (.int .i64 0);yZ h14 rfl,λ_ _ _ _ _ e=>pK rfl (e.1 rfl) (e.2.1 rfl),trivial⟩ ?_
    ·intro W2 hL2;simp only[aU,af.eq,af.ret,lZ];go_frame;go_wp2;go_ret;refine⟨_,rfl,?_,l.trans (hL2.below.mono l.size)⟩;have:=(d.out.on hL2.below).isSl;rw[hk0.out]at this;rw[hR.out,jX,if_pos hz];simpa using this
   ·have hs0:=tF hz;generalize jG m.2.num=sg at hs0 hsgn;have hs1:(sg != 0)=true:=by simpa using hs0
    refine aN trivial (none) (0) (fM.none) [.eq (.int .i64 k),.eq (.slice (some ⟨G,I,none⟩) p.length cp),.eq (.int .i64 p.length),.eq (.bool true),.eq (.bool true),.eq (.pointer (some ⟨w.heap.size,0+4,none⟩)),.eq (.agg (r).toArray),.ret (.int .i64 sg),.eq (.bool true),.eq (.bool true)] [10,11,12,13,14,15,16,17,18,19] rfl rfl rfl rfl ⟨λ_ _ a _ _ _=>xM rfl (a 6 rfl),λ_ _ a _ _ _=>xM rfl (a 0 rfl),λA _ _ _ _ he=>have h11:=eT 11 (he.1 rfl);pZ rfl,λA _ _ _ _ he=>have h10:=eT 10 (he.1 rfl);have h12:=eT 12 (he.2.1 rfl);pZ rfl,λ_ _ _ _ _ e=>xM rfl (e.1 rfl),λ_ _ a _ _ e=>aI rfl rfl (e.1 rfl) (FJ rfl (a 3 rfl)),λ_ _ _ hL _ e=>aI rfl rfl (e.2.1 rfl) (xL rfl (vX (F.on hL.below)) Tryz.underlying41 (h4) (e.1 rfl)),λA _ _ _ hS he=>have hb:=hS rfl;have h14:=eT 14 (he.2.1 rfl);have h16:=eT 16 (he.1 rfl);have hf0:=eF A 67;cY (f:=67) (args:=#[.agg (r).toArray]) h14 (hsgn _ hb),λA _ _ _ _ he=>have h14:=eT 14 (he.2.1 rfl);have h17:=eT 17 (he.1 rfl);have hc0:=eC A (.int .i64 0);yZ h14 rfl,λ_ _ _ _ _ e=>pK rfl (e.1 rfl) (e.2.1 rfl),trivial⟩ ?_
    ·intro W2 hL2;simp only[aU,af.eq,af.ret,lZ];go_frame;have hown2:=d.out.on hL2.below;have BB2:=F.on hL2.below;have hbr2:=l.trans (hL2.below.mono l.size);clear hsgn hL2 F d hB l hs0 hs1
     go_upto_region 5 with (fail)
     refine aN trivial (none) (0) (fM.none) [.eq (.slice (some ⟨G,I,none⟩) p.length cp),.eq (.int .i64 k),.eq (.pointer (some ⟨G,I+k*8,none⟩)),.eq (.pointer (some ⟨G,I+k*8,none⟩)),.eq (.agg (bD s.1).toArray),.box 36 W2.heap.size [.int .i64 0,.int .i64 0,.int .i64 0,.int .i64 0]] [22,23,24,25,26,7] rfl rfl rfl rfl ⟨λ_ _ a _ _ _=>xM rfl (a 0 rfl),λ_ _ a _ _ _=>xM rfl (a 6 rfl),λ_ _ _ _ _ e=>pI rfl Tryz.underlying27 G I k (Z) (e.1 rfl) (e.2.1 rfl),λ_ _ _ _ _ e=>ae rfl (xK rfl (e.1 rfl)),λ_ w1 _ hL _ he=>have hb:=hL.below;have u:Below w.heap.size w w1:=hbr2.trans (hb.mono hbr2.size);pL rfl (fU (a2.on u)) Tryz.underlying36 (show(bD s.1).length=4 from rfl) (he.1 rfl),?_,trivial⟩ ?_
     ·intro A w1 hA hL hS he;refine ae rfl ?_;refine nN rfl rfl ((fM.none).lr hL) hL.1.size (by generalize A.eval=ev at *;go_simp) (λ_ _ h=>h)
     ·intro W3 hL3;have hb3:=hL3.below;simp only[aU,af.eq,af.box,af.of,lZ];rintro v7 ⟨x,-,a7,rfl,B7⟩;go_frame;have hown3:=hown2.on hb3;have BB3:=BB2.on hb3;have hbr3:=hbr2.trans (hb3.mono hbr2.size);have aq:w.heap.size<x:=by have:=BB2.lt;omega
      clear hL3 hb3 hown2 BB2
      go_upto_region 6 with (refine az rfl _ (.tmp 7) (.tmp 26) rfl _ _ _ _ rfl rfl B7 rfl kM (RX _) ?_;intro W4 R4 gr4)
      have hl4:Lr (some x) 36 W3 W4:=⟨gr4,λk J=>by cases J;exact⟨B7.noOther,R4.noOther⟩⟩
      have a1:u5.ownBlock≠some x:=by intro h;have h1:=(hown3.okr x h).2;exact absurd (h1 _ _ _ B7) dM
      have hown4:=hown3.lr hl4 (aV dM) (.inr a1);have BB4:=BB3.lr hl4 (by simp;omega);have hbr4:=hbr3.trans (hl4.belowAt hbr3.size (λk J=>by cases J;omega));have a6:Hid (Blk W4 x 36 (bD (wQ s.1 m.1 0))):=zH (by simpa[wQ]using R4);clear hl4 gr4 B7 hown3 BB3 hbr3 R4 a7;go_wp2
      go_loopw [8] (λi wr=>∃j:Nat,j<=4/\i=.int .i64 j/\Hid (Blk wr x 36 (bD (wQ s.1 m.1 j)))/\Hid (Blk wr w.heap.size aJ (bD m.1++r))/\Hid (bR (w.heap.size+1) wr u5 ((p.take k).map λs=>mulT s m))/\Below w.heap.size w wr) (λi _=>4-(intOf i).toNat)
      case atStart=>exact⟨0,oM,rfl,a6,zH BB4,zH hown4,hbr4⟩
      case round =>
       clear a6 BB4 hown4 hbr4 hbr2;obtain⟨j,hj,rfl,hX,hB,d,l⟩:=hrel;have BX:=hX.out;have F:=hB.out;have y:=Y.out s (List.mem_of_getElem? C);by_cases hj4:j<4
       ·have ac:(j:Int)<4:=oM;have N:=H9 (wQ s.1 m.1 j) j hj4;rw[PV _ _ _ hj4]at N;have a5:=RY (wQ s.1 m.1 j) j hj4 (s.1.get j+m.1.get j);have ao:IntKind.i64.wrap (s.1.get j+m.1.get j)=s.1.get j+m.1.get j:=lI (by rw[<-Zl _ _ j hj4];exact Ex.get_bounds y hj4);have L:=oK m.1 j hj4 r;have f1:∀M,Below wr.heap.size wr M->M.cell? ⟨x,j,none⟩=some (.int .i64 (s.1.get j)):=λM h=>(BX.on h).at1 j _ N;have f2:∀M,Below wr.heap.size wr M->M.cell? ⟨w.heap.size,j,none⟩=some (.int .i64 (m.1.get j)):=λM h=>(F.on h).at1 j _ L;have q:wQ s.1 m.1 (j+1)=Ex.put (wQ s.1 m.1 j) j (s.1.get j+m.1.get j):=rfl;generalize s.1.get j=a at *;generalize m.1.get j=b at *;replace q:=zH q;clear L y
        go_upto_region 9 with (fail)
        refine aC mixed (none) (0) (fM.none) [.eq (.int .i64 j),.eq (.pointer (some ⟨x,j,none⟩)),.eq (.int .i64 a),.eq (.int .i64 j),.eq (.pointer (some ⟨w.heap.size,0,none⟩)),.eq (.pointer (some ⟨w.heap.size,j,none⟩)),.eq (.int .i64 b),.eq (.int .i64 (a+b)),.eq (.pointer (some ⟨x,j,none⟩))] [31,32,33,34,35,36,37,38,39] rfl rfl rfl rfl ⟨λ_ _ a _ _ _=>xM rfl (a 8 rfl),λA _ hA _ _ he=>have h7:A.eval (.tmp 7)=.pointer (some ⟨x,0,none⟩):=hA 7 rfl;have h31:=eT 31 (he.1 rfl);pZ rfl,?_,λ_ _ a _ _ _=>xM rfl (a 8 rfl),λ_ _ a _ _ _=>ae rfl (xK rfl (a 3 rfl)),λA _ _ _ _ he=>have h35:=eT 35 (he.1 rfl);have h34:=eT 34 (he.2.1 rfl);pZ rfl,?_,λA _ _ _ _ he=>have h33:=eT 33 (he.1 rfl);have h37:=eT 37 (he.2.1 rfl);pZ rfl,λA _ hA _ _ he=>have h7:A.eval (.tmp 7)=.pointer (some ⟨x,0,none⟩):=hA 7 rfl;have h31:=eT 31 (he.1 rfl);pZ rfl,trivial⟩ ?_
        ·intro A w1 hA hL hS he;have h32:=eT 32 (he.1 rfl);refine ae rfl ?_;have c0:=f1 w1 hL.below;exact aA rfl rfl gZ
        ·intro A w1 hA hL hS he;have h36:=eT 36 (he.1 rfl);refine ae rfl ?_;have c0:=f2 w1 hL.below;exact aA rfl rfl gZ
        ·intro W2 hL2;have hb2:=hL2.below;simp only[aU,af.eq,lZ];go_frame;have B2:=BX.on hb2;have z:=B2.at1 j _ N;have hf:=B2.frozen j;have hown2:=d.out.on hb2;have BB2:=F.on hb2;have hbr2:=l.trans (hb2.mono l.size);have hl3:=aY (j:=j) B2 (.int .i64 (a+b));have B3:=B2.set j (.int .i64 (a+b));rw[a5]at B3;clear f1 f2 hL2;go_wp2;go_roundw
         case rel=>exact⟨j+1,oM,nM,zH (by rw[q.out];exact B3),zH (BB2.lr hl3 (by simp;omega)),zH (hown2.lr hl3 (aV dM) (.inr a1)),hbr2.trans (hl3.belowAt hbr2.size (λk J=>by cases J;omega))⟩
         case measure=>simp[intOf];omega
       ·obtain rfl:j=4:=oM;rw[Ml]at BX;have a8:Rs s.2:=rp.out s (List.mem_of_getElem? C);have aa:=zH (yC (λs=>mulT s m) C);have an:((p.take k).map λs=>mulT s m).length<=100000000:=by simp;omega
        replace d:=d.out;have n:∀k,u5.ownBlock=some k->w.heap.size<=k:=λk J=>by have:=(d.base_le k J).1;omega
        have D:some w.heap.size≠u5.ownBlock:=λh=>by have:=(d.base_le _ h.symm).1;omega
        have a3:some x≠u5.ownBlock:=λh=>a1 h.symm;obtain⟨E,hE⟩:∃E,E=s.1.add m.1:=⟨_,rfl⟩;have a0:mulT s m=(E,s.2*m.2):=by rw[hE];rfl
        rw[<-hE]at BX;replace a0:=zH a0;clear hE y
        go_upto_region 10 with (fail)
        refine aC mixed (u5.ownBlock) (aJ) (d.okr) [.eq (u5),.eq (.agg (bD E).toArray),.eq (.slice (some ⟨G,I,none⟩) p.length cp),.eq (.int .i64 k),.eq (.pointer (some ⟨G,I+k*8,none⟩)),.eq (.pointer (some ⟨G,I+k*8+4,none⟩)),.eq (.agg (ra).toArray),.eq (.pointer (some ⟨w.heap.size,0+4,none⟩)),.eq (.agg (r).toArray),.rat dM ((s.2*m.2)),.term dM ((E),(s.2*m.2)),.new1 aL fw ((E,s.2*m.2)),.row aL (w.heap.size+1) wr.heap.size (((p.take k).map λs=>mulT s m)++[(E,s.2*m.2)])] [40,41,42,43,44,45,46,47,48,49,50,51,52] rfl rfl rfl rfl ⟨λ_ _ a _ _ _=>xM rfl (a 5 rfl),λ_ _ a hL _ _=>pL rfl ((BX.lr hL a3).cells.range) Tryz.underlying36 (show(bD E).length=4 from rfl) (a 7 rfl),λ_ _ a _ _ _=>xM rfl (a 0 rfl),λ_ _ a _ _ _=>xM rfl (a 6 rfl),λ_ _ _ _ _ e=>pI rfl Tryz.underlying27 G I k (Z) (e.1 rfl) (e.2.1 rfl),λ_ _ _ _ _ e=>ae rfl (FJ rfl (e.1 rfl)),λ_ w1 _ hL _ he=>have u:Below w.heap.size w w1:=l.trans (hL.belowAt l.size n);pL rfl (iC (a2.on u)) Tryz.underlying41 (a9) (he.1 rfl),λ_ _ a _ _ _=>ae rfl (FJ rfl (a 3 rfl)),λ_ _ _ hL _ e=>pL rfl (vX (F.lr hL D)) Tryz.underlying41 (h4) (e.1 rfl),λA w1 _ hL hS he=>have hb:=hS rfl;have u:Below w.heap.size w w1:=l.trans (hL.belowAt l.size n);have h46:=eT 46 (he.1 rfl);have h48:=eT 48 (he.2.1 rfl);have hf0:=eF A 75;cP (f:=75) (args:=#[.agg (ra).toArray,.agg (r).toArray]) (JN _ _ _ _ _ (a4.on u).rat (hr.on u).rat a8 rm),?_,?_,?_,trivial⟩ ?_
        ·intro A w1 hA hL hS he;have h41:=eT 41 (he.1 rfl);obtain⟨v49,h49,f49⟩:=fT 49 (he.2.1 rfl);refine ae rfl ?_;obtain⟨n_,a_,k_,c_,n',a',k',c',rfl⟩:=fF f49;exact kQ (c:=.agg (_++[.bool n_,.slice a_ k_ c_,.bool n',.slice a' k' c']).toArray) rfl rfl (Below.refl _ _) ⟨_,rfl,⟨_,rfl,f49.cellsC⟩⟩ (pF rfl (by simp only[List.map_toArray,List.map_cons,List.map_nil,h41,h49];exact uX _ _ _ rfl))
        ·intro A w1 hA hL hS he;obtain⟨v50,h50,f50⟩:=fT 50 (he.1 rfl);refine ae rfl ?_;obtain⟨c50,rfl,e50⟩:=f50;refine fo rfl rfl ((d.okr).lr hL) (e:=aL) (t:=(E,s.2*m.2)) e50 (bu rfl ?_) (λ_ _ h=>h);simp only[List.map_toArray,List.map_cons,List.map_nil,h50];exact bM _ _ (aL.len e50)
        ·intro A w1 hA hL hS he;have hb:=hS rfl;have h40:=eT 40 (he.1 rfl);obtain⟨v51,h51,f51⟩:=fT 51 (he.2.1 rfl);exact ae rfl (dJ rfl rfl rfl Tryz.underlying27 bG h40 h51 (d.on hb) rfl rfl (dU f51) (by simp only[List.length_cons,List.length_nil];omega) ((F.lr hL D).lt) hL.1.size (λ_ _ h1 h2=>⟨h1,h2⟩))
        ·intro W5 hL5;simp only[aU,af.eq,af.rat,af.term,af.new1,af.row,af.asPure,af.of,af.fragile,lZ];rintro v49 - v50 - v51 - v52 ⟨hown5,ag⟩;go_frame;have hbW5:=l.trans (hL5.belowAt l.size n);have BB5:=F.lr hL5 D;go_wp2;go_roundw
         case measure=>simp[intOf];omega
         case rel=>exact⟨k+1,nM,oM,zH (λh=>absurd h hz),zH (by rw[aa.out,a0.out];exact hown5),zH BB5,hbW5⟩
  ·obtain rfl:k=p.length:=oM;rw[tL (nL _)]at d;go_wp2;go_ret;refine⟨_,rfl,?_,l⟩;rw[hR.out,jX];split
   ·rename_i h;have h1:=hz0.out h;have h2:p=[]:=List.eq_nil_of_length_eq_zero h1;subst h2;exact d.out.isSl
   ·exact d.out.isSl
end Go.Proofs.YtopclbeomcggiaaGreat
end
section
namespace Q
def Y8:List aj->List aj->Bool
 | _,[]=>true
 | [],_::_=>false
 | s::_,t::_=>s.1.gt t.1
def Zm:List aj->List aj->Bool
 | [],_=>true
 | _::_,[]=>false
 | s::_,t::_=>t.1.gt s.1
theorem RZ{P Q:List aj}(h:Y8 P Q=true)(d:P≠[]\/Q≠[]):∃s b,P=s::b/\dG P Q=s::dG b Q:=by
 cases Q with
 | nil=>cases P with
  | nil=>simp at d
  | cons s b=>exact⟨s,b,rfl,by rw[Q.mergeP_nil,Q.mergeP_nil]⟩
 | cons t e=>cases P with
  | nil=>cases h
  | cons s b=>exact⟨s,b,rfl,Go.Proofs.YtopclbeomcggiaaGreat.mergeP_gt h⟩
theorem PW{P Q:List aj}(h:Y8 P Q=false):∃t b,Q=t::b:=by
 cases Q with
 | nil=>cases P<;>cases h
 | cons t b=>exact⟨t,b,rfl⟩
theorem Sa{P Q2:List aj}{t:aj}(h:Zm P (t::Q2)=true):dG P (t::Q2)=t::dG P Q2:=by
 cases P with
 | nil=>rw[nY,nY]
 | cons s b=>exact Go.Proofs.YtopclbeomcggiaaGreat.mergeP_lt h
theorem PX{P Q2:List aj}{t:aj}(d:Y8 P (t::Q2)=false)(h:Zm P (t::Q2)=false):∃s b,P=s::b/\s.1=t.1/\dG P (t::Q2)=if s.2+t.2=0 then dG b Q2 else(s.1,s.2+t.2)::dG b Q2:=by
 cases P with
 | nil=>cases h
 | cons s b =>
  have he:s.1=t.1:=by
   rcases Classical.em (s.1=t.1)with e|e
   ·exact e
   ·have:=Ex.gt_total (show s.1.gt t.1=false from d) e;rw[show t.1.gt s.1=false from h]at this;cases this
  exact⟨s,b,rfl,he,Go.Proofs.YtopclbeomcggiaaGreat.mergeP_eq' he⟩
end Q
namespace Go.Proofs.YtopclbeomcggiaaGreat
open Go.RowKit Q Go.WideMaps Go.Maps
theorem JV(vp vq:Value)(p q:List aj)(w:World)(hp:ai w vp p)(hq:ai w vq q)(rp:∀t∈p,Rs t.2)(rq:∀t∈q,Rs t.2)(lp:p.length<=100000000)(lq:q.length<=100000000) :
  Calls Tryz.prog 39 #[vp,vq] w (xm w (dG p q)):=by
 obtain⟨ap,cp,rfl,al⟩:=hp.shape;obtain⟨aq,cq,rfl,an⟩:=hq.shape;replace rp:=zH rp;replace rq:=zH rq;obtain⟨R,hR⟩:∃R,R=dG p q:=⟨_,rfl⟩;rw[<-hR];replace hR:=zH hR
 go_enter Tryz.func39,Tryz.ntmps39
 go_wp2;have hown0:=fQ aL w;have hb0:Below w.heap.size w (w.alloc (.cells #[] aJ)):=(Below.refl _ _).alloc (nL _) _;change bR w.heap.size (w.alloc (.cells #[] 43)) _ _ at hown0;change Below w.heap.size w (w.alloc (.cells #[] 43))at hb0;replace hp:=zH hp;replace hq:=zH hq
 go_loopw [5,6,7] (λo vi vj wr=>∃(i j:Nat)(M:List aj),vi=.int .i64 i/\vj=.int .i64 j/\i<=p.length/\j<=q.length/\Hid (bR w.heap.size wr o M)/\Hid (R=M++dG (p.drop i) (q.drop j))/\M.length<=i+j/\Below w.heap.size w wr) (λ_ vi vj _=>p.length+q.length-((intOf vi).toNat+(intOf vj).toNat))
 case atStart=>exact⟨0,0,[],rfl,rfl,oM,oM,zH hown0,zH (by simpa using hR.out),sM,hb0⟩
 case round =>
  clear hown0 hb0;obtain⟨i,j,M,rfl,rfl,hi,hj,m,hR,hM,b⟩:=hrel;by_cases hd:i<p.length\/j<q.length
  ·have N:p.drop i≠[]\/q.drop j≠[]:=by
    rcases hd with h|h
    ·left;intro e;have:=congrArg List.length e;simp at this;omega
    ·right;intro e;have:=congrArg List.length e;simp at this;omega
   have hd1:¬i<p.length->j<q.length:=λh=>oM;replace N:=zH N;clear hd
   go_upto_region 2 with (fail)
   go_cut [10,11,12,13,14,15,16,17,18,19] (λ_ _ _ _ _ _ _ _ _ v19 wc=>v19=.bool true/\wr=wc)
   case first =>
    by_cases r:i<p.length
    ·have g1:(i:Int)<(p.length:Int):=oM;go_wp2;go_meet
     case rel=>exact⟨rfl,rfl⟩
    ·have g1:¬(i:Int)<(p.length:Int):=oM;have g2:(j:Int)<(q.length:Int):=by have:=hd1 r;omega
     go_wp2;go_meet
     case rel=>exact⟨rfl,rfl⟩
   case rest =>
   obtain⟨rfl,rfl⟩:=hcut
   go_upto_region 3 with (fail)
   obtain⟨g1,hg1⟩:∃g,g=Y8 (p.drop i) (q.drop j):=⟨_,rfl⟩;replace hg1:=zH hg1
   go_cut [20,21,22,23,24,25,26,27,28,29,30,31,32,33,34,35,36,37,38,39,40,41,42] (λ_ _ _ _ _ _ _ _ _ _ _ _ _ _ _ _ _ _ _ _ _ _ v42 wc=>v42=.bool g1/\Below wr.heap.size wr wc)
   case first =>
    clear m hR;by_cases D:j<q.length
    ·have e1:((j:Int)==(q.length:Int))=false:=by simp;omega
     have e2:¬(j:Int)=(q.length:Int):=oM;by_cases r:i<p.length
     ·have e3:(i:Int)<(p.length:Int):=oM;have z:p[i]?=some p[i]:=gE r;have S:q[j]?=some q[j]:=gE D;have hg:g1=p[i].1.gt q[j].1:=by rw[hg1.out,List.drop_eq_getElem_cons r,List.drop_eq_getElem_cons D];rfl
      generalize p[i]=s at z hg;generalize q[j]=t at S hg;obtain⟨u,y,ra,rfl,I,C⟩:=fI hp.out z;obtain⟨B,oq,rb,rfl,Y,L⟩:=fI hq.out S;refine aC mixed (none) (0) (fM.none) [.eq (.int .i64 j),.eq (.slice (some ⟨B,oq,none⟩) q.length cq),.eq (.int .i64 q.length),.eq (.bool false),.eq (.bool false),.eq (.int .i64 i),.eq (.slice (some ⟨u,y,none⟩) p.length cp),.eq (.int .i64 p.length),.eq (.bool true),.eq (.bool true),.eq (.slice (some ⟨u,y,none⟩) p.length cp),.eq (.int .i64 i),.eq (.pointer (some ⟨u,y+i*8,none⟩)),.eq (.pointer (some ⟨u,y+i*8,none⟩)),.eq (.agg (bD s.1).toArray),.eq (.slice (some ⟨B,oq,none⟩) q.length cq),.eq (.int .i64 j),.eq (.pointer (some ⟨B,oq+j*8,none⟩)),.eq (.pointer (some ⟨B,oq+j*8,none⟩)),.eq (.agg (bD t.1).toArray),.ret (.bool (s.1.gt t.1)),.eq (.bool (s.1.gt t.1)),.eq (.bool (s.1.gt t.1))] [20,21,22,23,24,25,26,27,28,29,30,31,32,33,34,35,36,37,38,39,40,41,42] rfl rfl rfl rfl ⟨λ_ _ a _ _ _=>xM rfl (a 7 rfl),λ_ _ a _ _ _=>xM rfl (a 1 rfl),λA _ _ _ _ he=>have h21:=eT 21 (he.1 rfl);pZ rfl,λA _ _ _ _ he=>have h20:=eT 20 (he.1 rfl);have h22:=eT 22 (he.2.1 rfl);pZ rfl,λ_ _ _ _ _ e=>xM rfl (e.1 rfl),λ_ _ a _ _ e=>yM (e.1 rfl) rfl (a 6 rfl),λ_ _ a _ _ e=>yM (e.1 rfl) rfl (a 0 rfl),λA _ _ _ _ he=>have h24:=eT 24 (he.2.1 rfl);have h26:=eT 26 (he.1 rfl);yZ h24 rfl,λA _ _ _ _ he=>have h24:=eT 24 (he.2.2.1 rfl);have h25:=eT 25 (he.1 rfl);have h27:=eT 27 (he.2.1 rfl);yZ h24 rfl,λ_ _ _ _ _ e=>yM (e.2.1 rfl) rfl (e.1 rfl),λ_ _ a _ _ e=>yM (e.1 rfl) rfl (a 0 rfl),λ_ _ a _ _ e=>yM (e.1 rfl) rfl (a 6 rfl),λ_ _ _ _ _ e=>aI rfl rfl (e.2.2.1 rfl) (xI rfl Tryz.underlying27 u y i (r) (e.1 rfl) (e.2.1 rfl)),λ_ _ _ _ _ e=>aI rfl rfl (e.2.1 rfl) (xK rfl (e.1 rfl)),λ_ w1 _ hL _ he=>have hb:=hL.below;have d:Below w.heap.size w w1:=b.trans (hb.mono b.size);aI rfl rfl (he.2.1 rfl) (xL rfl (fU (C.on d)) Tryz.underlying36 (show(bD s.1).length=4 from rfl) (he.1 rfl)),λ_ _ a _ _ e=>yM (e.1 rfl) rfl (a 1 rfl),λ_ _ a _ _ e=>yM (e.1 rfl) rfl (a 7 rfl),λ_ _ _ _ _ e=>aI rfl rfl (e.2.2.1 rfl) (xI rfl Tryz.underlying27 B oq j (D) (e.1 rfl) (e.2.1 rfl)),λ_ _ _ _ _ e=>aI rfl rfl (e.2.1 rfl) (xK rfl (e.1 rfl)),λ_ w1 _ hL _ he=>have hb:=hL.below;have d:Below w.heap.size w w1:=b.trans (hb.mono b.size);aI rfl rfl (he.2.1 rfl) (xL rfl (fU (L.on d)) Tryz.underlying36 (show(bD t.1).length=4 from rfl) (he.1 rfl)),λA _ _ _ hS he=>have hb:=hS rfl;have h29:=eT 29 (he.2.2.1 rfl);have h34:=eT 34 (he.1 rfl);have h39:=eT 39 (he.2.1 rfl);have hf0:=eF A 68;cY (f:=68) (args:=#[.agg (bD s.1).toArray,.agg (bD t.1).toArray]) h29 (uZ s.1 t.1 _),λ_ _ _ _ _ e=>aI rfl rfl (e.2.2.1 rfl) (iD rfl (e.1 rfl) rfl (e.2.1 rfl)),λ_ _ _ _ _ e=>pK rfl (e.1 rfl) (e.2.1 rfl),trivial⟩ ?_
      ·intro W2 hL2;simp only[aU,af.eq,af.ret,lZ];go_frame;go_wp2;go_meet
       case rel=>exact⟨by rw[hg],hL2.below⟩
     ·have e3:¬(i:Int)<(p.length:Int):=oM;have hg:g1=false:=by rw[hg1.out,List.drop_of_length_le oM,List.drop_eq_getElem_cons D];rfl
      refine aC mixed (none) (0) (fM.none) [.eq (.int .i64 j),.eq (.slice aq q.length cq),.eq (.int .i64 q.length),.eq (.bool false),.eq (.bool false),.eq (.int .i64 i),.eq (.slice ap p.length cp),.eq (.int .i64 p.length),.eq (.bool false),.eq (.bool false),.eq undef,.eq undef,.eq undef,.eq undef,.eq undef,.eq undef,.eq undef,.eq undef,.eq undef,.eq undef,.eq undef,.eq (.bool false),.eq (.bool false)] [20,21,22,23,24,25,26,27,28,29,30,31,32,33,34,35,36,37,38,39,40,41,42] rfl rfl rfl rfl ⟨λ_ _ a _ _ _=>xM rfl (a 7 rfl),λ_ _ a _ _ _=>xM rfl (a 1 rfl),λA _ _ _ _ he=>have h21:=eT 21 (he.1 rfl);pZ rfl,λA _ _ _ _ he=>have h20:=eT 20 (he.1 rfl);have h22:=eT 22 (he.2.1 rfl);pZ rfl,λ_ _ _ _ _ e=>xM rfl (e.1 rfl),λ_ _ a _ _ e=>yM (e.1 rfl) rfl (a 6 rfl),λ_ _ a _ _ e=>yM (e.1 rfl) rfl (a 0 rfl),λA _ _ _ _ he=>have h24:=eT 24 (he.2.1 rfl);have h26:=eT 26 (he.1 rfl);yZ h24 rfl,λA _ _ _ _ he=>have h24:=eT 24 (he.2.2.1 rfl);have h25:=eT 25 (he.1 rfl);have h27:=eT 27 (he.2.1 rfl);yZ h24 rfl,λ_ _ _ _ _ e=>yM (e.2.1 rfl) rfl (e.1 rfl),λ_ _ _ _ _ e=>nO false (e.1 rfl),λ_ _ _ _ _ e=>nO false (e.1 rfl),λ_ _ _ _ _ e=>nO false (e.2.2.1 rfl),λ_ _ _ _ _ e=>nO false (e.2.1 rfl),λ_ _ _ _ _ e=>nO false (e.2.1 rfl),λ_ _ _ _ _ e=>nO false (e.1 rfl),λ_ _ _ _ _ e=>nO false (e.1 rfl),λ_ _ _ _ _ e=>nO false (e.2.2.1 rfl),λ_ _ _ _ _ e=>nO false (e.2.1 rfl),λ_ _ _ _ _ e=>nO false (e.2.1 rfl),λ_ _ _ _ _ e=>nO false (e.2.2.1 rfl),λ_ _ _ _ _ e=>aI rfl rfl (e.2.2.1 rfl) (iD rfl (e.1 rfl) rfl rfl),λ_ _ _ _ _ e=>pK rfl (e.1 rfl) (e.2.1 rfl),trivial⟩ ?_
      ·intro W2 hL2;simp only[aU,af.eq,af.ret,lZ];go_frame;go_wp2;go_meet
       case rel=>exact⟨by rw[hg],hL2.below⟩
    ·have e2:(j:Int)=(q.length:Int):=oM;have e1:((j:Int)==(q.length:Int))=true:=by simp;omega
     have hg:g1=true:=by rw[hg1.out,List.drop_of_length_le (l:=q) oM];rfl
     refine aC mixed (none) (0) (fM.none) [.eq (.int .i64 j),.eq (.slice aq q.length cq),.eq (.int .i64 q.length),.eq (.bool true),.eq (.bool true),.eq undef,.eq undef,.eq undef,.eq undef,.eq undef,.eq undef,.eq undef,.eq undef,.eq undef,.eq undef,.eq undef,.eq undef,.eq undef,.eq undef,.eq undef,.eq undef,.eq undef,.eq (.bool true)] [20,21,22,23,24,25,26,27,28,29,30,31,32,33,34,35,36,37,38,39,40,41,42] rfl rfl rfl rfl ⟨λ_ _ a _ _ _=>xM rfl (a 7 rfl),λ_ _ a _ _ _=>xM rfl (a 1 rfl),λA _ _ _ _ he=>have h21:=eT 21 (he.1 rfl);pZ rfl,λA _ _ _ _ he=>have h20:=eT 20 (he.1 rfl);have h22:=eT 22 (he.2.1 rfl);pZ rfl,λ_ _ _ _ _ e=>xM rfl (e.1 rfl),λ_ _ _ _ _ e=>nO true (e.1 rfl),λ_ _ _ _ _ e=>nO true (e.1 rfl),λ_ _ _ _ _ e=>nO true (e.2.1 rfl),λ_ _ _ _ _ e=>nO true (e.2.2.1 rfl),λ_ _ _ _ _ e=>nO true (e.2.1 rfl),λ_ _ _ _ _ e=>iJ rfl rfl (e.1 rfl) rfl,λ_ _ _ _ _ e=>iJ rfl rfl (e.1 rfl) rfl,λ_ _ _ _ _ e=>iJ rfl rfl (e.2.2.1 rfl) rfl,λ_ _ _ _ _ e=>iJ rfl rfl (e.2.1 rfl) rfl,λ_ _ _ _ _ e=>iJ rfl rfl (e.2.1 rfl) rfl,λ_ _ _ _ _ e=>iJ rfl rfl (e.1 rfl) rfl,λ_ _ _ _ _ e=>iJ rfl rfl (e.1 rfl) rfl,λ_ _ _ _ _ e=>iJ rfl rfl (e.2.2.1 rfl) rfl,λ_ _ _ _ _ e=>iJ rfl rfl (e.2.1 rfl) rfl,λ_ _ _ _ _ e=>iJ rfl rfl (e.2.1 rfl) rfl,λ_ _ _ _ _ e=>iJ rfl rfl (e.2.2.1 rfl) rfl,λ_ _ _ _ _ e=>nO true (e.2.2.1 rfl),λ_ _ _ _ _ e=>ae rfl (iD rfl (e.1 rfl) rfl rfl),trivial⟩ ?_
     ·intro W2 hL2;simp only[aU,af.eq,af.ret,lZ];go_frame;go_wp2;go_meet
      case rel=>exact⟨by rw[hg],hL2.below⟩
   case rest =>
    obtain⟨rfl,G⟩:=hcut;replace b:=b.trans (G.mono b.size);replace m:=zH (m.out.on G);clear G hd1;cases g1
    ·obtain⟨t,Q2,hQ⟩:=PW hg1.out.symm;obtain⟨hq1,S,D⟩:=nP hQ;rw[hQ]at hg1 hR;have ad:(j:Int)<(q.length:Int):=oM;obtain⟨B,oq,rb,rfl,Y,L⟩:=fI hq.out S;have a4:=Y.len;clear N
     go_upto_region 6 with (fail)
     obtain⟨g2,hg2⟩:∃g,g=Zm (p.drop i) (t::Q2):=⟨_,rfl⟩;replace hg2:=zH hg2;replace hQ:=zH hQ;replace hq1:=zH hq1
     go_cut [52,53,54,55,56,57,58,59,60,61,62,63,64,65,66,67,68] (λ_ _ _ _ _ _ _ _ _ _ _ _ _ _ _ _ v68 wd=>v68=.bool g2/\Below wc.heap.size wc wd)
     case first =>
      clear m hR;by_cases r:i<p.length
      ·have e1:((i:Int)==(p.length:Int))=false:=by simp;omega
       have e2:¬(i:Int)=(p.length:Int):=oM;have z:p[i]?=some p[i]:=gE r;have hg:g2=t.1.gt p[i].1:=by rw[hg2.out,List.drop_eq_getElem_cons r];rfl
       generalize p[i]=s at z hg;obtain⟨u,y,ra,rfl,I,C⟩:=fI hp.out z;refine aC mixed (none) (0) (fM.none) [.eq (.int .i64 i),.eq (.slice (some ⟨u,y,none⟩) p.length cp),.eq (.int .i64 p.length),.eq (.bool false),.eq (.bool false),.eq (.slice (some ⟨B,oq,none⟩) q.length cq),.eq (.int .i64 j),.eq (.pointer (some ⟨B,oq+j*8,none⟩)),.eq (.pointer (some ⟨B,oq+j*8,none⟩)),.eq (.agg (bD t.1).toArray),.eq (.slice (some ⟨u,y,none⟩) p.length cp),.eq (.int .i64 i),.eq (.pointer (some ⟨u,y+i*8,none⟩)),.eq (.pointer (some ⟨u,y+i*8,none⟩)),.eq (.agg (bD s.1).toArray),.ret (.bool (t.1.gt s.1)),.eq (.bool (t.1.gt s.1))] [52,53,54,55,56,57,58,59,60,61,62,63,64,65,66,67,68] rfl rfl rfl rfl ⟨λ_ _ a _ _ _=>xM rfl (a 6 rfl),λ_ _ a _ _ _=>xM rfl (a 0 rfl),λA _ _ _ _ he=>have h53:=eT 53 (he.1 rfl);pZ rfl,λA _ _ _ _ he=>have h52:=eT 52 (he.1 rfl);have h54:=eT 54 (he.2.1 rfl);pZ rfl,λ_ _ _ _ _ e=>xM rfl (e.1 rfl),λ_ _ a _ _ e=>yM (e.1 rfl) rfl (a 1 rfl),λ_ _ a _ _ e=>yM (e.1 rfl) rfl (a 7 rfl),λ_ _ _ _ _ e=>aI rfl rfl (e.2.2.1 rfl) (xI rfl Tryz.underlying27 B oq j (D) (e.1 rfl) (e.2.1 rfl)),λ_ _ _ _ _ e=>aI rfl rfl (e.2.1 rfl) (xK rfl (e.1 rfl)),λ_ w1 _ hL _ he=>have hb:=hL.below;have d:Below w.heap.size w w1:=b.trans (hb.mono b.size);aI rfl rfl (he.2.1 rfl) (xL rfl (fU (L.on d)) Tryz.underlying36 (show(bD t.1).length=4 from rfl) (he.1 rfl)),λ_ _ a _ _ e=>yM (e.1 rfl) rfl (a 0 rfl),λ_ _ a _ _ e=>yM (e.1 rfl) rfl (a 6 rfl),λ_ _ _ _ _ e=>aI rfl rfl (e.2.2.1 rfl) (xI rfl Tryz.underlying27 u y i (r) (e.1 rfl) (e.2.1 rfl)),λ_ _ _ _ _ e=>aI rfl rfl (e.2.1 rfl) (xK rfl (e.1 rfl)),λ_ w1 _ hL _ he=>have hb:=hL.below;have d:Below w.heap.size w w1:=b.trans (hb.mono b.size);aI rfl rfl (he.2.1 rfl) (xL rfl (fU (C.on d)) Tryz.underlying36 (show(bD s.1).length=4 from rfl) (he.1 rfl)),λA _ _ _ hS he=>have hb:=hS rfl;have h56:=eT 56 (he.2.2.1 rfl);have h61:=eT 61 (he.1 rfl);have h66:=eT 66 (he.2.1 rfl);have hf0:=eF A 68;cY (f:=68) (args:=#[.agg (bD t.1).toArray,.agg (bD s.1).toArray]) h56 (uZ t.1 s.1 _),λ_ _ _ _ _ e=>pK rfl (e.1 rfl) (e.2.1 rfl),trivial⟩ ?_
       ·intro W2 hL2;simp only[aU,af.eq,af.ret,lZ];go_frame;go_wp2;go_meet
        case rel=>exact⟨by rw[hg],hL2.below⟩
      ·have e2:(i:Int)=(p.length:Int):=oM;have e1:((i:Int)==(p.length:Int))=true:=by simp;omega
       have hg:g2=true:=by rw[hg2.out,List.drop_of_length_le (l:=p) oM];rfl
       refine aC mixed (none) (0) (fM.none) [.eq (.int .i64 i),.eq (.slice ap p.length cp),.eq (.int .i64 p.length),.eq (.bool true),.eq (.bool true),.eq undef,.eq undef,.eq undef,.eq undef,.eq undef,.eq undef,.eq undef,.eq undef,.eq undef,.eq undef,.eq undef,.eq (.bool true)] [52,53,54,55,56,57,58,59,60,61,62,63,64,65,66,67,68] rfl rfl rfl rfl ⟨λ_ _ a _ _ _=>xM rfl (a 6 rfl),λ_ _ a _ _ _=>xM rfl (a 0 rfl),λA _ _ _ _ he=>have h53:=eT 53 (he.1 rfl);pZ rfl,λA _ _ _ _ he=>have h52:=eT 52 (he.1 rfl);have h54:=eT 54 (he.2.1 rfl);pZ rfl,λ_ _ _ _ _ e=>xM rfl (e.1 rfl),λ_ _ _ _ _ e=>nO true (e.1 rfl),λ_ _ _ _ _ e=>nO true (e.1 rfl),λ_ _ _ _ _ e=>nO true (e.2.2.1 rfl),λ_ _ _ _ _ e=>nO true (e.2.1 rfl),λ_ _ _ _ _ e=>nO true (e.2.1 rfl),λ_ _ _ _ _ e=>nO true (e.1 rfl),λ_ _ _ _ _ e=>nO true (e.1 rfl),λ_ _ _ _ _ e=>nO true (e.2.2.1 rfl),λ_ _ _ _ _ e=>nO true (e.2.1 rfl),λ_ _ _ _ _ e=>nO true (e.2.1 rfl),λ_ _ _ _ _ e=>nO true (e.2.2.1 rfl),λ_ _ _ _ _ e=>ae rfl (iD rfl (e.1 rfl) rfl rfl),trivial⟩ ?_
       ·intro W2 hL2;simp only[aU,af.eq,af.ret,lZ];go_frame;go_wp2;go_meet
        case rel=>exact⟨by rw[hg],hL2.below⟩
     case rest =>
      obtain⟨rfl,G⟩:=hcut;replace b:=b.trans (G.mono b.size);have m:=m.out.on G;clear G;have n:∀k,u5.ownBlock=some k->w.heap.size<=k:=λk hk=>(m.base_le k hk).1;cases g2
      ·obtain⟨s,P2,hP,a8,F⟩:=PX hg1.out.symm hg2.out.symm;obtain⟨hp1,z,r⟩:=nP hP;obtain⟨u,y,ra,rfl,I,C⟩:=fI hp.out z;have a0:=I.len;have aa:Rs s.2:=rp.out s (List.mem_of_getElem? z);have ab:Rs t.2:=rq.out t (List.mem_of_getElem? S);rw[F]at hR;have a2:(i:Int)<(p.length:Int):=oM;clear F hg1 hg2;replace hp1:=zH hp1;replace hP:=zH hP;replace a8:=zH a8
       go_upto_region 9 with (fail)
       refine aC mixed (none) (0) (fM.none) [.eq (.slice (some ⟨u,y,none⟩) p.length cp),.eq (.int .i64 i),.eq (.pointer (some ⟨u,y+i*8,none⟩)),.eq (.pointer (some ⟨u,y+i*8+4,none⟩)),.eq (.agg (ra).toArray),.eq (.slice (some ⟨B,oq,none⟩) q.length cq),.eq (.int .i64 j),.eq (.pointer (some ⟨B,oq+j*8,none⟩)),.eq (.pointer (some ⟨B,oq+j*8+4,none⟩)),.eq (.agg (rb).toArray),.rat dM ((s.2+t.2)),.box 41 wc.heap.size [.bool false,.slice none 0 0,.bool false,.slice none 0 0]] [78,79,80,81,82,83,84,85,86,87,88,8] rfl rfl rfl rfl ⟨λ_ _ a _ _ _=>xM rfl (a 0 rfl),λ_ _ a _ _ _=>xM rfl (a 6 rfl),λ_ _ _ _ _ e=>pI rfl Tryz.underlying27 u y i (r) (e.1 rfl) (e.2.1 rfl),λ_ _ _ _ _ e=>ae rfl (FJ rfl (e.1 rfl)),λ_ w1 _ hL _ he=>have hb:=hL.below;have d:Below w.heap.size w w1:=b.trans (hb.mono b.size);pL rfl (iC (C.on d)) Tryz.underlying41 (a0) (he.1 rfl),λ_ _ a _ _ _=>xM rfl (a 1 rfl),λ_ _ a _ _ _=>xM rfl (a 7 rfl),λ_ _ _ _ _ e=>pI rfl Tryz.underlying27 B oq j (D) (e.1 rfl) (e.2.1 rfl),λ_ _ _ _ _ e=>ae rfl (FJ rfl (e.1 rfl)),λ_ w1 _ hL _ he=>have hb:=hL.below;have d:Below w.heap.size w w1:=b.trans (hb.mono b.size);pL rfl (iC (L.on d)) Tryz.underlying41 (a4) (he.1 rfl),λA w1 _ _ hS he=>have hb:=hS rfl;have d:Below w.heap.size w w1:=b.trans (hb.mono b.size);have h82:=eT 82 (he.1 rfl);have h87:=eT 87 (he.2.1 rfl);have hf0:=eF A 81;cP (f:=81) (args:=#[.agg (ra).toArray,.agg (rb).toArray]) (JM _ _ _ _ _ (I.on d).rat (Y.on d).rat aa ab),?_,trivial⟩ ?_
       ·intro A w1 hA hL hS he;refine ae rfl ?_;refine nN rfl rfl ((fM.none).lr hL) hL.1.size (by generalize A.eval=ev at *;go_simp) (λ_ _ h=>h)
       ·intro W2 hL2;have hbW2:=b.trans (hL2.below.mono b.size);simp only[aU,af.eq,af.rat,af.box,af.of,lZ];rintro v88 h88 v8 ⟨x,-,ag,rfl,B8⟩;obtain⟨n5,a5,k5,c5,n6,a6,k6,c6,rfl⟩:=fF h88;go_frame;have hown2:=m.on hL2.below;have ac:w.heap.size<=x:=by have:=b.size;omega
        clear hL2
        go_upto_region 10 with (refine az rfl _ (.tmp 8) (.tmp 88) rfl _ _ _ _ rfl rfl B8 rfl dD dH ?_;intro W3 R3 gr3)
        have hl3:Lr (some x) 41 W2 W3:=⟨gr3,λk hk=>by cases hk;exact⟨B8.noOther,R3.noOther⟩⟩
        have a9:u5.ownBlock≠some x:=by intro h;have h1:=(hown2.okr x h).2;exact absurd (h1 _ _ _ B8) dM
        have hown3:=hown2.lr hl3 (aV dM) (.inr a9);have J:=h88.lr hl3 dM;have hbW3:=hbW2.trans (hl3.belowAt hbW2.size (λk hk=>by cases hk;exact ac));have hsgn:=λW hb=>zM _ _ W (J.on (w':=W) hb);have y1:=R3.at1 0 _ rfl;have y2:=R3.at1 1 _ rfl;have y3:=R3.at1 2 _ rfl;have y4:=R3.at1 3 _ rfl;clear hl3 gr3 B8 hown2 hbW2;by_cases hz:s.2+t.2=0
        ·have hs0:jG (s.2+t.2).num=0:=by rw[hz];rfl
         rw[if_pos hz]at hR;rw[hs0]at hsgn
         go_wp2_with (go_at_call 67;refine(hsgn _ (Below.refl _ _)).mono ?_;rintro en W4 ⟨rfl,hb4⟩)
         have hown4:=hown3.on hb4;have hbW4:=hbW3.trans (hb4.mono hbW3.size);go_roundw
         case measure=>simp[intOf];omega
         case rel=>exact⟨i+1,j+1,M,nM,nM,oM,oM,zH hown4,zH (by rw[hR.out,hp1.out,hq1.out]),oM,hbW4⟩
        ·have hs0:=tF hz;rw[if_neg hz]at hR;generalize jG (s.2+t.2).num=sg at hs0 hsgn;have hs1:(sg != 0)=true:=by simpa using hs0
         go_upto_region 11 with (go_at_call 67;refine(hsgn _ (Below.refl _ _)).mono ?_;rintro en W4 ⟨rfl,hb4⟩)
         have hown4:=hown3.on hb4;have hbW4:=hbW3.trans (hb4.mono hbW3.size);have R4:=R3.on hb4;have h884:=J.on hb4;have hxo4:some x≠u5.ownBlock:=λh=>a9 h.symm;obtain⟨rc,X⟩:∃rc,rc=[Value.bool n5,.slice a5 k5 c5,.bool n6,.slice a6 k6 c6]:=⟨_,rfl⟩;have a7:rc.length=4:=by rw[X];rfl
         rw[show(Value.agg #[.bool n5,.slice a5 k5 c5,.bool n6,.slice a6 k6 c6])=.agg rc.toArray by rw[X]]at h884;rw[<-X]at R4;clear hbW3 hown3 R3 h88 J hsgn y1 y2 y3 y4;refine aC mixed (u5.ownBlock) (aJ) (hown4.okr) [.eq (u5),.eq (.slice (some ⟨u,y,none⟩) p.length cp),.eq (.int .i64 i),.eq (.pointer (some ⟨u,y+i*8,none⟩)),.eq (.pointer (some ⟨u,y+i*8,none⟩)),.eq (.agg (bD s.1).toArray),.eq (.agg (rc).toArray),.eq (.agg (bD s.1++rc).toArray),.new1 aL fw ((s.1,s.2+t.2)),.row aL (w.heap.size) W4.heap.size (M++[(s.1,s.2+t.2)])] [92,93,94,95,96,97,98,99,100,101] rfl rfl rfl rfl ⟨λ_ _ a _ _ _=>xM rfl (a 5 rfl),λ_ _ a _ _ _=>xM rfl (a 0 rfl),λ_ _ a _ _ _=>xM rfl (a 6 rfl),λ_ _ _ _ _ e=>pI rfl Tryz.underlying27 u y i (r) (e.1 rfl) (e.2.1 rfl),λ_ _ _ _ _ e=>ae rfl (xK rfl (e.1 rfl)),λ_ w1 _ hL _ he=>have d:Below w.heap.size w w1:=hbW4.trans (hL.belowAt hbW4.size n);pL rfl (fU (C.on d)) Tryz.underlying36 (show(bD s.1).length=4 from rfl) (he.1 rfl),λ_ _ a hL _ _=>pL rfl ((R4.lr hL hxo4).range 0 rc (λj v h=>by rw[Nat.zero_add];exact h)) Tryz.underlying41 (a7) (a 8 rfl),λ_ _ _ _ _ he=>have h97:=eT 97 (he.1 rfl);have h98:=eT 98 (he.2.1 rfl);ae rfl (aA rfl rfl (pF rfl (by simp only[List.map_toArray,List.map_cons,List.map_nil,h97,h98];exact uX _ _ _ (a7)))),?_,?_,trivial⟩ ?_
         ·intro A w1 hA hL hS he;have hb:=hS rfl;have h99:=eT 99 (he.1 rfl);refine ae rfl ?_;have hE:(aL:El _).E w1 _ ((s.1,s.2+t.2)):=⟨_,rfl,(h884.on hb).cellsC⟩;refine fo rfl rfl ((hown4.okr).lr hL) hE (bu rfl ?_) (λ_ _ h=>h);simp only[List.map_toArray,List.map_cons,List.map_nil,h99];exact bM _ _ ((aL).len hE)
         ·intro A w1 hA hL hS he;have hb:=hS rfl;have d:Below w.heap.size w w1:=hbW4.trans (hL.belowAt hbW4.size n);have h92:=eT 92 (he.1 rfl);obtain⟨v100,h100,f100⟩:=fT 100 (he.2.1 rfl);exact ae rfl (dJ rfl rfl rfl Tryz.underlying27 bG h92 h100 (hown4.on hb) rfl rfl (dU f100) (by simp;omega) (d.size) hL.1.size (λ_ _ h1 h2=>⟨h1,h2⟩))
         ·intro W5 hL5;simp only[aU,af.eq,af.new1,af.row,af.asPure,af.of,af.fragile,lZ];rintro v100 - v101 ⟨hown5,Z⟩;go_frame;have hbW5:=hbW4.trans (hL5.belowAt hbW4.size n);go_wp2;go_roundw
          case measure=>simp[intOf];omega
          case rel=>exact⟨i+1,j+1,M++[(s.1,s.2+t.2)],nM,nM,oM,oM,zH hown5,zH (by rw[hR.out,hp1.out,hq1.out];simp),by simp;omega,hbW5⟩
      ·have F:=Sa hg2.out.symm;rw[F]at hR;clear F hg1 hg2;have h8:(bD t.1++rb).length=8:=by rw[List.length_append,a4];rfl
       go_upto_region 7 with (fail)
       refine aN trivial (u5.ownBlock) (aJ) (m.okr) [.eq (u5),.eq (.slice (some ⟨B,oq,none⟩) q.length cq),.eq (.int .i64 j),.eq (.pointer (some ⟨B,oq+j*8,none⟩)),.eq (.agg (bD t.1++rb).toArray),.new1 aL fw (t),.row aL (w.heap.size) wc.heap.size (M++[t])] [69,70,71,72,73,74,75] rfl rfl rfl rfl ⟨λ_ _ a _ _ _=>xM rfl (a 5 rfl),λ_ _ a _ _ _=>xM rfl (a 1 rfl),λ_ _ a _ _ _=>xM rfl (a 7 rfl),λ_ _ _ _ _ e=>pI rfl Tryz.underlying27 B oq j (D) (e.1 rfl) (e.2.1 rfl),λ_ w1 _ hL _ he=>have d:Below w.heap.size w w1:=b.trans (hL.belowAt b.size n);pL rfl ((L.on d).range) Tryz.underlying43 (h8) (he.1 rfl),?_,?_,trivial⟩ ?_
       ·intro A w1 hA hL hS he;have d:Below w.heap.size w w1:=b.trans (hL.belowAt b.size n);have h73:=eT 73 (he.1 rfl);refine ae rfl ?_;have hE:(aL:El _).E w1 _ (t):=⟨_,rfl,Y.on d⟩;refine fo rfl rfl ((m.okr).lr hL) hE (bu rfl ?_) (λ_ _ h=>h);simp only[List.map_toArray,List.map_cons,List.map_nil,h73];exact bM _ _ ((aL).len hE)
       ·intro A w1 hA hL hS he;have hb:=hS rfl;have d:Below w.heap.size w w1:=b.trans (hL.belowAt b.size n);have h69:=eT 69 (he.1 rfl);obtain⟨v74,h74,f74⟩:=fT 74 (he.2.1 rfl);exact ae rfl (dJ rfl rfl rfl Tryz.underlying27 bG h69 h74 (m.on hb) rfl rfl (dU f74) (by simp;omega) (d.size) hL.1.size (λ_ _ h1 h2=>⟨h1,h2⟩))
       ·intro W5 hL5;simp only[aU,af.eq,af.new1,af.row,af.asPure,af.of,af.fragile,lZ];rintro v74 - v75 ⟨hown5,Z⟩;go_frame;have hbW5:=b.trans (hL5.belowAt b.size n);go_wp2;go_roundw
        case measure=>simp[intOf];omega
        case rel=>exact⟨i,j+1,M++[t],rfl,nM,oM,oM,zH hown5,zH (by rw[hR.out,hq1.out];simp),by simp;omega,hbW5⟩
    ·obtain⟨s,P2,hP,F⟩:=RZ hg1.out.symm N.out;obtain⟨hp1,z,r⟩:=nP hP;obtain⟨u,y,ra,rfl,I,C⟩:=fI hp.out z;have a0:=I.len;rw[F]at hR;have a2:(i:Int)<(p.length:Int):=oM;clear F hg1 N hP;replace hp1:=zH hp1;have h8:(bD s.1++ra).length=8:=by rw[List.length_append,a0];rfl
     replace m:=m.out;have n:∀k,u5.ownBlock=some k->w.heap.size<=k:=λk hk=>(m.base_le k hk).1
     go_upto_region 4 with (fail)
     refine aN trivial (u5.ownBlock) (aJ) (m.okr) [.eq (u5),.eq (.slice (some ⟨u,y,none⟩) p.length cp),.eq (.int .i64 i),.eq (.pointer (some ⟨u,y+i*8,none⟩)),.eq (.agg (bD s.1++ra).toArray),.new1 aL fw (s),.row aL (w.heap.size) wc.heap.size (M++[s])] [43,44,45,46,47,48,49] rfl rfl rfl rfl ⟨λ_ _ a _ _ _=>xM rfl (a 5 rfl),λ_ _ a _ _ _=>xM rfl (a 0 rfl),λ_ _ a _ _ _=>xM rfl (a 6 rfl),λ_ _ _ _ _ e=>pI rfl Tryz.underlying27 u y i (r) (e.1 rfl) (e.2.1 rfl),λ_ w1 _ hL _ he=>have d:Below w.heap.size w w1:=b.trans (hL.belowAt b.size n);pL rfl ((C.on d).range) Tryz.underlying43 (h8) (he.1 rfl),?_,?_,trivial⟩ ?_
     ·intro A w1 hA hL hS he;have d:Below w.heap.size w w1:=b.trans (hL.belowAt b.size n);have h47:=eT 47 (he.1 rfl);refine ae rfl ?_;have hE:(aL:El _).E w1 _ (s):=⟨_,rfl,I.on d⟩;refine fo rfl rfl ((m.okr).lr hL) hE (bu rfl ?_) (λ_ _ h=>h);simp only[List.map_toArray,List.map_cons,List.map_nil,h47];exact bM _ _ ((aL).len hE)
     ·intro A w1 hA hL hS he;have hb:=hS rfl;have d:Below w.heap.size w w1:=b.trans (hL.belowAt b.size n);have h43:=eT 43 (he.1 rfl);obtain⟨v48,h48,f48⟩:=fT 48 (he.2.1 rfl);exact ae rfl (dJ rfl rfl rfl Tryz.underlying27 bG h43 h48 (m.on hb) rfl rfl (dU f48) (by simp;omega) (d.size) hL.1.size (λ_ _ h1 h2=>⟨h1,h2⟩))
     ·intro W5 hL5;simp only[aU,af.eq,af.new1,af.row,af.asPure,af.of,af.fragile,lZ];rintro v48 - v49 ⟨hown5,Z⟩;go_frame;have hbW5:=b.trans (hL5.belowAt b.size n);go_wp2;go_roundw
      case measure=>simp[intOf];omega
      case rel=>exact⟨i+1,j,M++[s],nM,rfl,oM,oM,zH hown5,zH (by rw[hR.out,hp1.out];simp),by simp;omega,hbW5⟩
  ·have a1:i=p.length:=oM;have a3:j=q.length:=oM;rw[a1,a3,List.drop_length,List.drop_length,mergeP_nil,List.append_nil]at hR;have g1:¬(i:Int)<(p.length:Int):=oM;have g2:¬(j:Int)<(q.length:Int):=oM;clear a1 a3;go_wp2;go_ret;exact⟨_,rfl,by rw[hR.out];exact m.out,b⟩
theorem Dt(b d:Value)(p q:List aj)(w:World)(hp:ai w b p)(hq:ai w d q)(j:∀t∈p,Rs t.2)(k:∀t∈q,Rs t.2)(e:p.length<=100000000)(i:q.length<=100000000) :
  Calls Tryz.prog 39 #[b,d] w (aP w (dG p q)):=(JV b d p q w hp hq j k e i).mono λ_ _ h=>h.poly
end Go.Proofs.YtopclbeomcggiaaGreat
end
