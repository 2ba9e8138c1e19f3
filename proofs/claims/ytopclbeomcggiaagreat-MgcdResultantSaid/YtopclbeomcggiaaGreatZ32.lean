/- mgcd.shared: the walk. -/
import Derived.Test.YtopclbeomcggiaaGreatZ31
set_option linter.unusedVariables false
set_option linter.unusedSimpArgs false
set_option maxHeartbeats 16000000
set_option maxRecDepth 100000
section
namespace Q
open Go Go.RowKit Go.Proofs.YtopclbeomcggiaaGreat
theorem Fu.mono{b d:Nat}{w:World}{v:Value}{l:List Nat}(h:Fu b w v l)(hb:d<=b):Fu d w v l:=by obtain⟨i,cap,j,k,m,n⟩:=h;refine⟨i,cap,j,k,m,λhp=>?_⟩;obtain⟨g,cs,e,hg,o⟩:=n hp;exact⟨g,cs,e,oM,o⟩
def ae.rst {T:TypeId} (B:Nat) (l:List Nat):ae (Lr none T):=ae.of (λv w=>Fu B w v l) (λ_ _ _ hb h=>h.on hb.below)
theorem Q6{w:World}{v:Value}{l:List Nat}(h:bZ Gv w v l)(hp:0<l.length):∃b off cap,v=.slice (some ⟨b,off,none⟩) l.length cap/\bW FI w b off (nc l)/\Gw l:=by obtain⟨i,cap,rfl,j,d,e⟩:=Ai.1 h;obtain⟨b,off,rfl,hc⟩:=d (by rw[Nr];exact hp);exact⟨b,off,cap,rfl,hc,e⟩
theorem pr2:pr-2=2147483645:=rfl
end Q
namespace Go.Proofs.YtopclbeomcggiaaGreat
open Go.RowKit Q
theorem Ny(vx vy:Value)(x y:List Nat)(R:Nat)(w:World)(hx:bZ Gv w vx x)(hy:bZ Gv w vy y)(lx:x.length<=1000000)(ly:y.length<=1000000)(h:rV x y=some R) :
  Calls Tryz.prog 119 #[vx,vy] w (oP w (.int .i64 ((R:Int)-1))):=by
 obtain⟨F,hF⟩:∃F,F=fuel:=⟨_,rfl⟩;unfold rV at h;rw[<-hF]at h;obtain⟨ax,cx,rfl,aw⟩:=hx.shape;obtain⟨ay,cy,rfl,az⟩:=hy.shape;replace hx:=zH hx;replace hy:=zH hy;replace hF:=zH hF
 go_enter Tryz.func119,Tryz.ntmps119
 go_upto_if 15 with (fail)
 go_cut [0,1,16,17] (λva vb _ _ wc=>∃a b,Hid (bZ Gv wc va a)/\Hid (bZ Gv wc vb b)/\Hid (ni F a b=some R)/\a.length<=1000000/\b.length<=1000000/\Below w.heap.size w wc)
 case first =>
  by_cases al:x.length<y.length
  ·rw[if_pos al]at h;replace h:=zH h;have an:(x.length:Int)<y.length:=oM;go_wp2;go_meet
   case rel=>exact⟨y,x,hy,hx,h,ly,lx,Below.refl _ _⟩
  ·rw[if_neg al]at h;replace h:=zH h;have an:¬(x.length:Int)<y.length:=oM;go_wp2;go_meet
   case rel=>exact⟨x,y,hx,hy,h,lx,ly,Below.refl _ _⟩
 case rest =>
  clear hx hy h lx ly aw az;obtain⟨a,b,ha,hb,hs,la,lb,a8⟩:=hcut;go_wp2
  go_loopg [0,1] F (λn va vb wr=>∃a b,Hid (bZ Gv wr va a)/\Hid (bZ Gv wr vb b)/\Hid (ni n a b=some R)/\a.length<=1000000/\b.length<=1000000/\Below w.heap.size w wr)
  case atStart=>exact⟨a,b,ha,hb,hs,la,lb,a8⟩
  case round =>
   clear ha hb hs la lb a8 a b;obtain⟨a,b,ha,hb,hs,la,lb,z⟩:=hrel
   cases gk with
   | zero=>exact absurd hs.out (by simp[ni])
   | succ n =>
   have hs2:=hs.out;rw[ni]at hs2;clear hs;by_cases hb0:b=[]
   ·rw[if_pos hb0,sJ]at hs2;subst hb0;obtain⟨aa,ca,rfl,b9⟩:=ha.out.shape;obtain⟨ab,cb,rfl,ba⟩:=hb.out.shape;simp only[List.length_nil];have s:=zH hs2;clear hs2;go_wp2;go_ret;exact⟨by rw[<-s.out];rfl,z⟩
   ·rw[if_neg hb0]at hs2;have b3:0<b.length:=List.length_pos_iff.2 hb0;obtain⟨bb,ob,cb,rfl,a0,a6⟩:=Q6 hb.out b3;rw[<-hF.out]at hs2;obtain⟨inv,hinv⟩:∃inv,inv=mK (b.getD (b.length - 1) 0) 2147483645:=⟨_,rfl⟩;rw[pr2,<-hinv]at hs2
    cases hr:sP b inv F a with
    | none=>rw[hr]at hs2;cases hs2
    | some r1 =>
    rw[hr]at hs2;have b2:inv<2147483647:=by rw[hinv];exact Ig _ _
    have a9:=zH (λW (hb:Below wr.heap.size wr W)=>Nw _ a W (ha.out.on hb) oM);have a1:=a6.getD (b.length-1);have N:=zH (λW=>zV (b.getD (b.length-1) 0) 2147483645 W oM oM);rw[<-hinv]at N;have p:∀W,Below wr.heap.size wr W->W.cell? ⟨bb,ob+(b.length-1),none⟩=some (.int .u64 ((b.getD (b.length-1) 0:Nat):Int)):=λW hb=>(a0.on hb).ncell _ oM;generalize b.getD (b.length-1) 0=xl at N p;replace hinv:=zH hinv;replace hs2:=zH hs2;replace hr:=zH hr;replace p:=zH p;have b8:(0:Int)<(b.length:Int):=oM;clear a1 hb0
    go_upto_region 4 with (fail)
    refine aD mixed (none) (0) (eQ.none) [.eq (u0),.rst wr.heap.size a,.eq (.slice (some ⟨bb,ob,none⟩) b.length cb),.eq (.slice (some ⟨bb,ob,none⟩) b.length cb),.eq (.int .i64 b.length),.eq (.int .i64 ((b.length:Int)-1)),.eq (.pointer (some ⟨bb,ob+(b.length-1)*1,none⟩)),.eq (.int .u64 xl),.ret (.int .u64 inv)] [21,22,23,24,25,26,27,28,29] rfl rfl rfl rfl ⟨λ_ _ a _ _ _=>xM rfl (a 0 rfl),?_,λ_ _ a _ _ _=>xM rfl (a 1 rfl),λ_ _ a _ _ _=>xM rfl (a 1 rfl),λA _ _ _ _ he=>have h24:=eT 24 (he.1 rfl);pZ rfl,?_,λ_ _ _ _ _ e=>pI rfl Tryz.underlying94 bb ob (b.length-1) oM (e.1 rfl) (e.2.1 rfl),?_,λA _ _ _ hS he=>have hb:=hS rfl;have h28:=eT 28 (he.1 rfl);have hf0:=eF A 137;have hc0:=eC A (.int .i64 2147483645);cP (f:=137) (args:=#[.int .u64 xl,(.int .i64 2147483645)]) (N.out _),trivial⟩ ?_
    ·intro A w1 hA hL hS he;have hb:=hS rfl;have h21:=eT 21 (he.1 rfl);have hf0:=eF A 138;refine af rfl ?_;refine dR (f:=138) (args:=#[u0]) rfl rfl ?_ ?_
     ·exact gZ
     ·refine(a9.out _ hb).mono ?_;rintro e w' ⟨v,rfl,hi,au⟩;exact⟨_,rfl,au,hi.mono hb.size⟩
    ·intro A w1 hA hL hS he;have h25:=eT 25 (he.1 rfl);have hc0:=eC A (.int .i64 1);refine af rfl (aC rfl rfl ?_);generalize A.eval=ev at *;go_simp;exact lL oM oM
    ·intro A w1 hA hL hS he;have hb:=hL.below;have h27:=eT 27 (he.1 rfl);refine af rfl ?_;have c0:=p.out w1 hb;exact aC rfl rfl gZ
    ·intro W1 hL1;have hb1:=hL1.below;simp only[aQ,ae.eq,ae.rst,ae.ret,ae.of,lZ];rintro v22 h22;go_frame;have hbr1:=z.trans (hb1.mono z.size);have J:∀W,Below wr.heap.size wr W->∀k,k<b.length->W.cell? ⟨bb,ob+k,none⟩=some (.int .u64 ((b.getD k 0:Nat):Int)):=λW hb k hk=>(a0.on hb).ncell _ hk;replace J:=zH J;replace h22:=zH h22;clear hL1 a9 N p a0;generalize wr=Wb at *;go_wp2
     go_loopg [5] F (λm v5 wz=>∃r,Hid (Fu Wb.heap.size wz v5 r)/\Hid (sP b inv m r=some r1)/\r.length<=1000000/\Below Wb.heap.size Wb wz)
     case atStart=>exact⟨a,h22,hr,la,hb1⟩
     case round =>
      clear h22 hr hb1 hbr1;obtain⟨r,hR,G,lr,l⟩:=hrel;obtain⟨a4,b0⟩:∃a4,a4=gk:=⟨_,rfl⟩
      cases gk with
      | zero=>exact absurd G.out (by simp[sP])
      | succ m =>
      clear b0;have hrun2:=G.out;rw[sP]at hrun2;clear G;by_cases mR:b.length<=r.length
      ·rw[if_pos mR]at hrun2;obtain⟨g,cap,rfl,b5,aE,bi,B,-,-,-⟩:=hR.out.open oM;obtain⟨A,hA⟩:∃A,A=r.length - b.length:=⟨_,rfl⟩;have hA2:(r.length:Int) - (b.length:Int)=(A:Int):=oM;have a5:A+b.length=r.length:=oM;rw[<-hA]at hrun2;have Z:=hR.out.isSl;obtain⟨-,-,-,-,-,u⟩:=Ai.1 Z;have bc:=B (r.length - 1) oM;have bl:=u.getD (r.length - 1);generalize r.getD (r.length - 1) 0=xt at *;obtain⟨f,hf⟩:∃f,f=xt*inv%pr:=⟨_,rfl⟩;rw[<-hf]at hrun2;have bh:f<2147483647:=by rw[hf];exact Nt _
       have bk:xt*inv<=2147483647*2147483647:=Nat.mul_le_mul oM oM;have bg:((xt:Int)*(inv:Int))%2147483647=(f:Int):=by rw[hf,mW];simp
       have ag:¬(r.length:Int)<(b.length:Int):=oM;replace hrun2:=zH hrun2;have o:Hid (Fu Wb.heap.size wr (.slice (some ⟨g,0,none⟩) r.length cap) (ja b r f A 0)):=hR;clear hf hA B Z hR
       go_wp2_with (refine ak rfl (.tmp 35) (.tmp 38) _ rfl _ Tryz.underlying94 _ _ _ rC _ _ _ rfl _ _ rfl (r.length-1) oM oM g 0 rfl ?_;rw[nU,Nat.zero_add])
       go_loopw [51] (λi wy=>∃k:Nat,k<=b.length/\i=.int .i64 k/\Hid (Fu Wb.heap.size wy (.slice (some ⟨g,0,none⟩) r.length cap) (ja b r f A k))/\Below Wb.heap.size Wb wy) (λi _=>b.length-(intOf i).toNat)
       case atStart=>exact⟨0,oM,rfl,o,l⟩
       case round =>
        clear o l;obtain⟨k,hk,rfl,hR,l⟩:=hrel;by_cases ad:k<b.length
        ·have b6:(k:Int)<(b.length:Int):=oM;have C:=Aj b r f A k;obtain⟨g',b4,ap,-,-,-,B,ac,-,Y⟩:=hR.out.open oM;simp only[Value.slice.injEq,sJ,Addr.mk.injEq,and_true]at ap;obtain⟨rfl,-,rfl⟩:=ap;have I:ja b r f A (k+1)=(ja b r f A k).set (A+k) (((ja b r f A k).getD (A+k) 0+(pr - b.getD k 0)*f)%pr):=rfl;have u:=hR.out.isSl;obtain⟨-,-,-,-,-,u⟩:=Ai.1 u;have h1:=B (A+k) oM;have h2:=J.out wr l k ad;have h3:=ac (A+k);have hx1:=u.getD (A+k);have hc1:=a6.getD k;have hs9:=Y (A+k) (((ja b r f A k).getD (A+k) 0+(pr - b.getD k 0)*f)%pr) oM (Nt _);rw[<-I]at hs9;obtain⟨nx,M⟩:∃nx,nx=ja b r f A (k+1):=⟨_,rfl⟩;rw[<-M]at hs9;replace M:=zH M;clear I;generalize(ja b r f A k).getD (A+k) 0=x at *;generalize b.getD k 0=c at *;obtain⟨d,hd⟩:∃d,d=pr - c:=⟨_,rfl⟩;rw[<-hd]at hs9;rw[mW]at hd hs9;have hd2:(2147483647:Int) - (c:Int)=(d:Int):=oM;have be:d*f<=2147483647*2147483647:=Nat.mul_le_mul oM oM;have hv9:(((x+d*f)%2147483647:Nat):Int)=((x:Int)+(d:Int)*(f:Int))%2147483647:=sM;rw[hv9]at hs9;have hAk2:A+k<r.length:=oM;have hbz9:=l.trans (bU (W:=wr) (g:=g) (j:=A+k) aE (.int .u64 (((x:Int)+(d:Int)*(f:Int))%2147483647)));replace hs9:=zH hs9;clear B ac Y hv9 hd hR u C
         replace a5:=zH a5
         go_wp2_with (first
          | (refine ak rfl (.tmp 49) (.tmp 51) _ rfl _ Tryz.underlying94 _ _ _ rC _ _ _ rfl _ _ rfl k rfl ad bb ob rfl ?_;rw[nU])
          | (refine ak rfl (.tmp 60) (.tmp 63) _ rfl _ Tryz.underlying94 _ _ _ rC _ _ _ rfl _ _ rfl (A+k) oM hAk2 g 0 rfl ?_;rw[nU,Nat.zero_add])
          | (refine ak rfl (.tmp 56) (.tmp 59) _ rfl _ Tryz.underlying94 _ _ _ rC _ _ _ rfl _ _ rfl (A+k) oM hAk2 g 0 rfl ?_;rw[nU,Nat.zero_add]))
         go_roundw
         case rel=>exact⟨k+1,oM,nM,by rw[<-M.out];exact hs9,hbz9⟩
         case measure=>simp[intOf];omega
        ·obtain rfl:k=b.length:=oM;have C:=Aj b r f A b.length;generalize ja b r f A b.length=r2 at *;obtain⟨S,hS⟩:∃S,S=strip r2:=⟨_,rfl⟩;have o:Hid (strip r2=S):=zH hS.symm;have hrun3:Hid (sP b inv m S=some r1):=zH (by rw[hS];exact hrun2.out);clear hrun2 hS;go_wp2
         go_loopg [5] r.length (λq v5 wy=>∃r3,Hid (Fu Wb.heap.size wy v5 r3)/\Hid (strip r3=S)/\r3.length<=q/\q<=1000000/\Below Wb.heap.size Wb wy)
         case atStart=>exact⟨r2,hR,o,oM,oM,l⟩
         case round =>
          clear hR o l C r2;obtain⟨r3,hR,o,lr3,hq,l⟩:=hrel;by_cases hp3:0<r3.length
          ·obtain⟨g3,cap3,rfl,hcap3,hgb3,hgl3,hcr3,-,htk3,-⟩:=hR.out.open hp3;have hct3:=hcr3 (r3.length - 1) oM;have hxl3:=(Ai.1 hR.out.isSl);obtain⟨-,-,-,-,-,hLr3⟩:=hxl3;have hx3:=hLr3.getD (r3.length - 1);have hz:=λh=>Nu (r:=r3) hp3 h;have a2:=λh=>Nv (r:=r3) hp3 h;have X:=htk3 (r3.length - 1) oM;have b7:(0:Int)<(r3.length:Int):=oM;generalize r3.getD (r3.length - 1) 0=x3 at *;clear hcr3 htk3 hLr3;by_cases hx0:x3=0
           ·subst hx0;have ao:Hid (strip (r3.take (r3.length-1))=S):=zH (by rw[hz rfl];exact o.out);have L:(r3.take (r3.length-1)).length=r3.length-1:=by rw[List.length_take];omega
            replace X:=zH X;clear hz a2 o hR;obtain⟨q',D⟩:∃q',gk=q'+1:=⟨gk - 1,oM⟩;replace D:=zH D;generalize r3.take (r3.length - 1)=r4 at *;replace L:=zH L
            go_wp2_with (first
             | (refine ak rfl (.tmp 78) (.tmp 81) _ rfl _ Tryz.underlying94 _ _ _ rC _ _ _ rfl _ _ rfl (r3.length-1) oM oM g3 0 rfl ?_;rw[nU,Nat.zero_add])
             | (refine oZ rfl _ _ 94 rfl Tryz.underlying94 kM _ _ _ rfl .i64 _ rfl (r3.length-1) oM oM ?_))
            go_roundg q'
            case measure=>have:=D.out;omega
            case rel=>exact⟨r4,by have h1:=X.out;have h2:=L.out;rw[<-h2]at h1;rw[<-h2];exact zH h1,ao,by have:=D.out;have:=L.out;omega,by have:=D.out;omega,l⟩
           ·have s:Hid (S=r3):=zH (by rw[<-o.out];exact a2 hx0);have bj:((x3:Int)==0)=false:=by simp;omega
            clear hz a2 o X hx0
            go_wp2_with (refine ak rfl (.tmp 78) (.tmp 81) _ rfl _ Tryz.underlying94 _ _ _ rC _ _ _ rfl _ _ rfl (r3.length-1) oM oM g3 0 rfl ?_;rw[nU,Nat.zero_add])
            go_roundg m
            case measure=>omega
            case rel=>exact⟨r3,hR,by rw[<-s.out];exact hrun3,oM,l⟩
          ·obtain rfl:r3=[]:=List.eq_nil_of_length_eq_zero oM;have s:Hid (S=[]):=zH (by rw[<-o.out];rfl);obtain⟨a3,c3,rfl,-⟩:=hR.out.isSl.shape;simp only[List.length_nil];clear o;go_wp2;go_roundg m
           case measure=>omega
           case rel=>exact⟨[],hR,by rw[<-s.out];exact hrun3,sM,l⟩
      ·rw[if_neg mR,sJ]at hrun2;subst hrun2;obtain⟨ar,cr,rfl,-⟩:=hR.out.isSl.shape;have ag:(r.length:Int)<(b.length:Int):=oM;have av:=zH (hb.out.on l);have a7:=z.trans (l.mono z.size);have aq:=zH hR.out.isSl;clear hR hb ha J;go_wp2;go_roundg n
       case measure=>omega
       case rel=>exact⟨b,r,av,aq,hs2,lb,lr,a7⟩
end Go.Proofs.YtopclbeomcggiaaGreat
end
section
namespace Q
theorem KW{a:List ai}{v at_:Nat}{l:List Nat}(b:Wp a)(h:qX a v at_=some l):l.length<=1000000:=by rw[(Gx h).1,List.length_replicate];have:=(b.deg v).2;omega
theorem IJ{a b:List ai}{v k:Nat}{l:List Nat}{m:Int}(h:lm a b v (k::l)=some m) :
  (oJ (qX a v (17+100*k))=true/\oJ (qX b v (17+100*k))=true/\∃x y n,qX a v (17+100*k)=some x/\qX b v (17+100*k)=some y/\rV x y=some n/\m=(n:Int)-1) \/
  ((oJ (qX a v (17+100*k))=false\/oJ (qX b v (17+100*k))=false)/\lm a b v l=some m):=by
 rw[lm]at h
 cases hx:qX a v (17+100*k)with
 | none=>rw[hx]at h;exact .inr ⟨.inl rfl,h⟩
 | some x =>
  cases hy:qX b v (17+100*k)with
  | none=>rw[hx,hy]at h;exact .inr ⟨.inr rfl,h⟩
  | some y =>
   rw[hx,hy]at h;change(if(oJ (some x)&&oJ (some y))=true then _ else _)=_ at h;cases h1:oJ (some x)
   ·rw[h1]at h;exact .inr ⟨.inl rfl,by simpa using h⟩
   ·cases h2:oJ (some y)
    ·rw[h1,h2]at h;exact .inr ⟨.inr rfl,by simpa using h⟩
    ·rw[h1,h2]at h;rw[if_pos (show(true&&true)=true from rfl)]at h
     cases hs:rV x y with
     | none=>rw[hs]at h;cases h
     | some n =>
      rw[hs]at h;have d:some ((n:Int)-1)=some m:=h;exact .inl ⟨rfl,rfl,x,y,n,rfl,rfl,hs,(Option.some.inj d).symm⟩
end Q
namespace Go.Proofs.YtopclbeomcggiaaGreat
open Go.RowKit Q
theorem Q7(F G:Value)(a b:List ai)(v:Nat)(m:Int)(w:World)(ha:aj w F a)(hb:aj w G b)(D:Wp a)(kb:Wp b)(hv:v<4)(z:a≠[])(B:b≠[])(h:Ah a b v=some m) :
  Calls Tryz.prog 92 #[F,G,.int .i64 v] w (oP w (.int .i64 m)):=by
 have I:=zH (λk W (N:k<3) (hb:Below w.heap.size w W)=>Gy F a v (17+100*k) W (ha.on hb) D hv z oM);have J:=zH (λk W (N:k<3) (o:Below w.heap.size w W)=>Gy G b v (17+100*k) W (hb.on o) kb hv B oM);have q:=zH (λW (hb:Below w.heap.size w W)=>kC F a v W (ha.on hb) hv (by have:=D.len;omega));have r:=zH (λW (o:Below w.heap.size w W)=>kC G b v W (hb.on o) hv (by have:=kb.len;omega));have L:=zH (λk l (h:qX a v (17+100*k)=some l)=>KW D h);have M:=zH (λk l (h:qX b v (17+100*k)=some l)=>KW kb h);have C:Hid (lm a b v ([0,1,2].drop 0)=some m):=zH h;obtain⟨aa,ca,rfl,-⟩:=ha.shape;obtain⟨ab,cb,rfl,-⟩:=hb.shape;have a0:=(D.deg v);have a1:=(kb.deg v);clear ha hb D kb z B h
 go_enter Tryz.func92,Tryz.ntmps92
 go_wp2
 go_loopw [12] (λi wr=>∃k:Nat,k<=3/\i=.int .u64 k/\Hid (lm a b v ([0,1,2].drop k)=some m)/\Below w.heap.size w wr) (λi _=>match i with|.int _ x=>3-x.toNat|_=>0)
 case atStart=>exact⟨0,oM,nM,C,Below.refl _ _⟩
 case round =>
  clear C;obtain⟨k,N,rfl,hB,d⟩:=hrel;by_cases hk3:k<3
  ·have S:(k:Int)<3:=oM
   have oV:([0,1,2]:List Nat).drop k=k::([0,1,2]:List Nat).drop (k+1):=by
    obtain rfl|rfl|rfl:k=0\/k=1\/k=2:=oM
    all_goals rfl
   have hB2:=hB.out;rw[oV]at hB2;have h1:=I.out k wr hk3 d;have h2:=J.out k;have u:((17+100*k:Nat):Int)=17+100*(k:Int):=oM;rw[u]at h1 h2;clear u;have hc:=IJ hB2;have hla1:=L.out k;have hlb1:=M.out k;clear oV hB hB2;generalize qX a v (17+100*k)=oa at *;generalize qX b v (17+100*k)=ob at *;replace hc:=zH hc;replace h2:=zH h2;replace hla1:=zH hla1;replace hlb1:=zH hlb1
   go_upto_region 6 with (first
    | (go_at_call 118;refine(h2.out w3 hk3 (d.trans (hb3.mono d.size))).mono ?_;rintro en w4 ⟨v4,rfl,hv4,hb4⟩)
    | (go_at_call 118;refine h1.mono ?_;rintro en w3 ⟨v3,rfl,hv3,hb3⟩))
   have hb34:=hb3.trans (hb4.mono hb3.size);have hbr4:=d.trans (hb34.mono d.size);rcases hc.out with ⟨f1,f2,x,y,n,rfl,rfl,X,rfl⟩|⟨hf,j⟩
   ·rw[f1,f2];have Y:=(hv3 x rfl).on hb4;have Z:=hv4 y rfl;have p:=Ny v3 v4 x y n w4 Y Z (hla1.out x rfl) (hlb1.out y rfl) X;replace p:=zH p;clear hv3 hv4 h1 h2 f1 f2 Y Z X hc
    go_wp2_with (go_at_call 119;refine p.out.mono ?_;rintro en w5 ⟨rfl,hb5⟩)
    go_ret;exact⟨rfl,hbr4.trans (hb5.mono hbr4.size)⟩
   ·have j:=zH j;clear hv3 hv4 h1 h2 hc;cases f1:oJ oa
    ·clear hf f1;go_wp2;go_roundw
     case rel=>exact⟨k+1,oM,nM,j,hbr4⟩
     case measure=>simp;omega
    ·cases f2:oJ ob
     ·clear hf f1 f2;go_wp2;go_roundw
      case rel=>exact⟨k+1,oM,nM,j,hbr4⟩
      case measure=>simp;omega
     ·rw[f1,f2]at hf;rcases hf with hf|hf<;>cases hf
  ·obtain rfl:k=3:=oM;have s:Hid (m=min (aH a v) (aH b v)):=zH (Option.some.inj hB.out).symm;have h1:=q.out wr d;have h2:=r.out;clear q r hB;generalize aH a v=da at *;generalize aH b v=db at *
   go_wp2_with (first
    | (go_at_call 53;refine(h2 w3 (d.trans (hb3.mono d.size))).mono ?_;rintro en w4 ⟨rfl,hb4⟩)
    | (go_at_call 53;refine h1.mono ?_;rintro en w3 ⟨rfl,hb3⟩))
   go_ret;exact⟨by rw[s.out];rfl,(d.trans (hb3.mono d.size)).trans (hb4.mono (d.trans (hb3.mono d.size)).size)⟩
end Go.Proofs.YtopclbeomcggiaaGreat
end
section
namespace Q
open Go Go.RowKit Go.Proofs.YtopclbeomcggiaaGreat
theorem aX{α b:Type}{a:Option α}{f:α->Option b}{y:b}(h:fP a f=some y):∃x,a=some x/\f x=some y:=by
 cases a with
 | none=>cases h
 | some x=>exact⟨x,rfl,h⟩
theorem Gz{G:List ai->List ai->Option (List ai)}{acc a g:List ai}{l:List (List ai)}(h:vF G acc (a::l)=some g):∃b,G acc a=some b/\(lT b=true->g=b)/\(lT b=false->vF G b l=some g):=by
 rw[vF]at h
 cases hG:G acc a with
 | none=>rw[hG]at h;cases h
 | some b =>
  rw[hG]at h;refine⟨b,rfl,λhc=>?_,λhc=>?_⟩
  ·simp only[hc,if_true,sJ]at h;exact h.symm
  ·simpa[hc]using h
end Q
namespace Go.Proofs.YtopclbeomcggiaaGreat
open Go.RowKit Q Go.WideMaps Go.Maps
def zaA (a b g:List ai):Prop:=∀(va vb:Value)(w:World),aj w va a->aj w vb b->Calls Tryz.prog 16 #[va,vb] w (aN w g)
def Ef (G:List ai->List ai->Option (List ai)):Prop:=∀a b g,Wp a->Wp b->G a b=some g->zaA a b g/\Wp g
theorem Wo{G:List ai->List ai->Option (List ai)}(z:Ef G)(vl:Value)(l:List (List ai))(g:List ai)(w:World)(y:gB w vl l)(X:l.length<=100000000)(D:∀c∈l,Wp c)(h:vF G [] l=some g) :
  Calls Tryz.prog 61 #[vl] w (aN w g):=by
 obtain⟨M,N,rfl,J⟩:=y.shape;replace h:=zH h;replace D:=zH D;replace z:=zH z;replace y:=zH y
 go_enter Tryz.func61,Tryz.ntmps61
 go_wp2
 go_loopw [3,8] (λo i wr=>∃(k:Nat)(n:List ai),k<=l.length/\i=.int .i64 k/\Hid (aj wr o n)/\Hid (Wp n/\vF G n (l.drop k)=some g)/\Below w.heap.size w wr) (λ_ i _=>l.length-(intOf i).toNat)
 case atStart=>exact⟨0,[],oM,rfl,zH (bZ.nil _ _),zH ⟨Wp.nil,h.out⟩,Below.refl _ _⟩
 case round =>
  clear h;obtain⟨k,n,S,rfl,hO,hA,m⟩:=hrel;by_cases q:k<l.length
  ·have u:l[k]?=some l[k]:=gE q;have hA2:=hA.out;rw[List.drop_eq_getElem_cons q]at hA2;have F:=D.out l[k] (List.getElem_mem q);generalize l[k]=a at *;obtain⟨b,off,L,rfl,C,hC⟩:=sN (y.out.on m) u;obtain⟨x,hG,B,hf⟩:=Gz hA2.2;obtain⟨hcall,p⟩:=z.out _ _ _ hA2.1 F hG;have d:=λv W (hv:aj W v x)=>ut v x W hv;have hcall2:=zH (hcall u3 L wr hO.out C);have I:(k:Int)<l.length:=oM;have r:=hC.cell 0 sM;simp only[List.getElem?_cons_zero,Nat.add_zero,nU]at r;clear hA hA2 hC hcall u hG;cases hcb:lT x
   ·have j:=zH (hf hcb);rw[hcb]at d;replace d:=zH d;replace p:=zH p;clear B hf hcb
    go_wp2_with (first
     | (refine ak rfl _ _ 75 rfl polyT Tryz.underlying75 _ 1 24 kM _ _ _ rfl .i64 _ rfl k rfl q b off rfl ?_;rw[nU])
     | (go_at_call 16;refine hcall2.out.mono ?_;rintro en w3 ⟨v3,rfl,hv3,hb3⟩)
     | (go_at_call 50;refine(d.out _ _ hv3).mono ?_;rintro en w4 ⟨rfl,hb4⟩))
    have hb34:=hb3.trans (hb4.mono hb3.size);go_roundw
    case rel=>exact⟨k+1,x,oM,nM,zH (hv3.on hb4),zH ⟨p.out,j.out⟩,m.trans (hb34.mono m.size)⟩
    case measure=>simp[intOf];omega
   ·have j:=zH (B hcb);rw[hcb]at d;replace d:=zH d;replace p:=zH p;clear B hf hcb
    go_wp2_with (first
     | (refine ak rfl _ _ 75 rfl polyT Tryz.underlying75 _ 1 24 kM _ _ _ rfl .i64 _ rfl k rfl q b off rfl ?_;rw[nU])
     | (go_at_call 16;refine hcall2.out.mono ?_;rintro en w3 ⟨v3,rfl,hv3,hb3⟩)
     | (go_at_call 50;refine(d.out _ _ hv3).mono ?_;rintro en w4 ⟨rfl,hb4⟩))
    go_ret;exact⟨_,rfl,by rw[j.out];exact hv3.on hb4,m.trans ((hb3.trans (hb4.mono hb3.size)).mono m.size)⟩
  ·obtain rfl:k=l.length:=oM
   have s:Hid (g=n):=by have:=hA.out.2;rw[List.drop_of_length_le (nL _),vF]at this;exact zH (Option.some.inj this).symm
   go_wp2;go_ret;exact⟨_,rfl,by rw[s.out];exact hO.out,m⟩
theorem O8{G:List ai->List ai->Option (List ai)}(d:Ef G):∀{l:List (List ai)}{acc g:List ai},(∀c∈l,Wp c)->Wp acc->vF G acc l=some g->Wp g
 | [],acc,g,_,ha,h=>by rw[vF,sJ]at h;subst h;exact ha
 | a::l,acc,g,hw,ha,h=>by
  obtain⟨e,i,j,hf⟩:=Gz h;have b:=(d _ _ _ ha (hw a sM) i).2;cases hc:lT e
  ·exact O8 d (λc hc=>hw c (by simp[hc])) b (hf hc)
  ·rw[j hc];exact b
theorem uu{G:List ai->List ai->Option (List ai)}(b:Ef G){a g:List ai}{v:Nat}(d:Wp a)(h:lI G a v=some g):Wp g:=O8 b (λ_ hc=>d.coeffs hc) Wp.nil h
theorem iM{G:List ai->List ai->Option (List ai)}(i:Ef G)(d:Value)(a g:List ai)(v:Nat)(w:World)(hv:v<4)(ha:aj w d a)(b:Wp a)(h:lI G a v=some g) :
  Calls Tryz.prog 18 #[d,.int .i64 v] w (aN w g):=by
 have h1:=xB d a v w ha hv b.val.nat (by have:=(b.deg v).2;omega) (by have:=b.len;omega);have h2:=λvl W (k:gB W vl (aB a v))=>Wo i vl (aB a v) g W k (by rw[bv];have:=(b.deg v).2;omega) (λc hc=>b.coeffs hc) h;obtain⟨l,m,rfl,j⟩:=ha.shape;replace h2:=zH h2;clear h i b
 go_enter Tryz.func18,Tryz.ntmps18
 go_wp2_with (first
  | (go_at_call 62;refine h1.mono ?_;rintro en w3 ⟨v3,rfl,hv3,hb3⟩)
  | (go_at_call 61;refine(h2.out _ _ hv3).mono ?_;rintro en w4 ⟨v4,rfl,hv4,hb4⟩))
 go_ret;exact⟨_,rfl,hv4,hb3.trans (hb4.mono hb3.size)⟩
theorem O9{G:List ai->List ai->Option (List ai)}{a p:List ai}{v:Nat}(h:lJ G a v=some p):Wp p:=by
 cases a with
 | nil=>simp only[lJ,sJ]at h;subst h;exact Wp.nil
 | cons t r =>
  rw[lJ]at h
  cases hc:lI G (t::r) v with
  | none=>rw[hc]at h;cases h
  | some c=>rw[hc]at h;exact rD h
theorem nZ{G:List ai->List ai->Option (List ai)}(i:Ef G)(d:Value)(a p:List ai)(v:Nat)(w:World)(hv:v<4)(ha:aj w d a)(b:Wp a)(h:lJ G a v=some p) :
  Calls Tryz.prog 20 #[d,.int .i64 v] w (aN w p):=by
 match a,ha,b,h with
 | [],ha,b,h =>
  simp only[lJ,sJ]at h;subst h;obtain⟨l,m,rfl,j⟩:=ha.shape;simp only[List.length_nil]
  go_enter Tryz.func20,Tryz.ntmps20
  go_wp2;go_ret;exact⟨_,rfl,bZ.nil _ _,Below.refl _ _⟩
 | t::r,ha,b,h =>
  rw[lJ]at h
  cases hc:lI G (t::r) v with
  | none=>rw[hc]at h;cases h
  | some c =>
   rw[hc]at h;have h1:=iM i d (t::r) c v w hv ha b hc;have k:=uu i b hc;have h2:=λvl W (hb:Below w.heap.size w W) (o:aj W vl c)=>oK d vl (t::r) c p W (ha.on hb) o k h;obtain⟨l,m,rfl,j⟩:=ha.shape;have q:(((t::r).length:Int)==0)=false:=by simp;omega
   replace h2:=zH h2;clear h hc i b k ha;generalize(t::r).length=n at *
   go_enter Tryz.func20,Tryz.ntmps20
   go_wp2_with (first
    | (go_at_call 18;refine h1.mono ?_;rintro en w3 ⟨v3,rfl,hv3,hb3⟩)
    | (go_at_call 56;refine(h2.out _ _ hb3 hv3).mono ?_;rintro en w4 ⟨v4,rfl,hv4,hb4⟩))
   go_ret;exact⟨_,rfl,hv4,hb3.trans (hb4.mono hb3.size)⟩
theorem Pb:∀{l:List (List ai)}{n v:Nat},uA l n=some v->v<n
 | l,n+1,v,h=>by
  rw[uA]at h;split at h
  ·cases h;omega
  ·have:=Pb h;omega
def Pd (o:Option Nat):Int:=match o with
 | none=>-1
 | some v=>v
theorem KX(vl:Value)(l:List (List ai))(w:World)(z:gB w vl l)(J:l.length<=100000000)(F:∀c∈l,Wp c):Calls Tryz.prog 52 #[vl] w (oP w (.int .i64 (Pd (TT l)))):=by
 obtain⟨M,N,rfl,I⟩:=z.shape;replace F:=zH F;replace z:=zH z;obtain⟨R,hR⟩:∃R,R=Pd (TT l):=⟨_,rfl⟩;rw[<-hR];replace hR:=zH hR
 go_enter Tryz.func52,Tryz.ntmps52
 go_wp2
 go_loopw [3] (λi wr=>∃(n:Nat),n<=4/\i=.int .i64 ((n:Int)-1)/\Hid (R=Pd (uA l n))/\Below w.heap.size w wr) (λi _=>(intOf i+1).toNat)
 case atStart=>exact⟨4,oM,rfl,zH hR.out,Below.refl _ _⟩
 case round =>
  clear hR;obtain⟨n,J,rfl,hR,d⟩:=hrel
  cases n with
  | zero =>
   have j:Hid (R=-1):=zH hR.out;go_wp2;go_ret;exact⟨by rw[j.out];rfl,d⟩
  | succ v =>
   have hv1:(((v+1:Nat):Int)-1)=(v:Int):=oM;have hv4:v<4:=oM;rw[hv1];go_wp2
   go_loopw [12] (λi wr=>∃k:Nat,k<=l.length/\i=.int .i64 k/\Hid (∀c∈l.take k,¬0<aH c v)/\Below w.heap.size w wr) (λi _=>l.length-(intOf i).toNat)
   case atStart=>exact⟨0,oM,rfl,zH (λc hc=>by simp at hc),d⟩
   case round =>
    clear d;obtain⟨k,S,rfl,hA,d⟩:=hrel;by_cases m:k<l.length
    ·have s:l[k]?=some l[k]:=gE m;have y:=F.out l[k] (List.getElem_mem m);have u:l.take (k+1)=l.take k++[l[k]]:=by rw[List.take_add_one,s];rfl
     have o:=List.getElem_mem m;generalize l[k]=a at *;obtain⟨b,off,L,rfl,C,hC⟩:=sN (z.out.on d) s;have hd:=kC L a v wr C hv4 (by have:=y.len;omega);have G:(k:Int)<l.length:=oM;have r:=hC.cell 0 sM;simp only[List.getElem?_cons_zero,Nat.add_zero,nU]at r;replace hd:=zH hd;replace o:=zH o;replace u:=zH u;clear hC s y;by_cases p:0<aH a v
     ·have q:=zH p;have j:Hid (R=v):=zH (by rw[hR.out,uA,if_pos (List.any_eq_true.2 ⟨a,o.out,by simpa using p⟩)];rfl);generalize aH a v=D at *
      go_wp2_with (first
       | (refine ak rfl _ _ 75 rfl polyT Tryz.underlying75 _ 1 24 kM _ _ _ rfl .i64 _ rfl k rfl m b off rfl ?_;rw[nU])
       | (go_at_call 53;refine hd.out.mono ?_;rintro en w3 ⟨rfl,hb3⟩))
      go_ret;exact⟨by rw[j.out];rfl,d.trans (hb3.mono d.size)⟩
     ·have q:=zH p;generalize aH a v=D at hd p
      go_wp2_with (first
       | (refine ak rfl _ _ 75 rfl polyT Tryz.underlying75 _ 1 24 kM _ _ _ rfl .i64 _ rfl k rfl m b off rfl ?_;rw[nU])
       | (go_at_call 53;refine hd.out.mono ?_;rintro en w3 ⟨rfl,hb3⟩))
      go_roundw
      case rel=>exact⟨k+1,oM,nM,zH (λc hc=>by
       rw[u.out]at hc;rcases List.mem_append.1 hc with hc|hc
       ·exact Int.not_lt.2 (hA.out c hc)
       ·rw[List.mem_singleton.1 hc];exact Int.not_lt.2 q.out),d.trans (hb3.mono d.size)⟩
      case measure=>simp[intOf];omega
    ·obtain rfl:k=l.length:=oM
     have B:Hid (R=Pd (uA l v)):=zH (by
      rw[hR.out,uA,if_neg];intro x;obtain⟨c,hc,hd⟩:=List.any_eq_true.1 x
      exact hA.out c (by rw[tL (nL _)];exact hc) (by simpa using hd))
     go_wp2;go_roundw
     case rel=>exact⟨v,oM,nM,B,d⟩
     case measure=>simp[intOf]
end Go.Proofs.YtopclbeomcggiaaGreat
end
section
namespace Q
open Go Go.RowKit Go.Proofs.YtopclbeomcggiaaGreat
theorem IK:Wp qd:=kS dK
theorem Bj{a:List ai}{v:Nat}(h:a≠[])(d:Wp a):0<=aH a v:=by obtain⟨t,b⟩:=List.exists_mem_of_ne_nil _ h;have e:=(d.exps b v).1;have i:=fw b v;omega
theorem KY{G:List ai->List ai->Option (List ai)}{v:Nat}:∀{n:Nat}{a b g:List ai},Wp b->sQ G v n a b=some g->Wp g
 | 0,a,b,g,_,h=>by simp[sQ]at h
 | n+1,a,b,g,kb,h=>by
  rw[sQ]at h
  cases hr:Vx a b v with
  | none=>rw[hr]at h;cases h
  | some r =>
   rw[hr]at h
   cases r with
   | nil=>cases h;exact kb
   | cons t r =>
    simp only at h;split at h
    ·cases h;exact IK
    ·cases hp:lJ G (t::r) v with
     | none=>rw[hp]at h;cases h
     | some p =>
      rw[hp]at h;simp only at h
      cases hq:kG p with
      | none=>rw[hq]at h;cases h
      | some q=>rw[hq]at h;exact KY (yR hq) h
theorem Pe{G:List ai->List ai->Option (List ai)}{v:Nat}{a b g:List ai}(kb:Wp b)(h:BQ G a b v=some g):Wp g:=by
 unfold BQ at h
 cases hm:Ah a b v with
 | none=>rw[hm]at h;cases h
 | some m =>
  rw[hm]at h;simp only at h;split at h
  ·cases h;exact IK
  ·cases hd:yO a b with
   | none=>rw[hd]at h;cases h
   | some r =>
    rw[hd]at h;simp only at h;split at h
    ·cases h;exact kb
    ·exact KY kb h
theorem KZ{a b r:List ai}{v:Nat}(h:Vx a b v=some r):b≠[]/\r=uI (gL (aB b v) (aB a v).length (aB a v)) v/\Wp r/\Nq (aB b v) (aB a v).length (aB a v)=true /\
  Vw (fromL v 0 (gL (aB b v) (aB a v).length (aB a v)))=true/\∀c∈gL (aB b v) (aB a v).length (aB a v),BP c=true:=by
 unfold Vx at h;simp only at h;split at h
 next hc =>
  obtain⟨d,e,i,j⟩:=hc;obtain⟨rfl,k⟩:=kF h;exact⟨d,rfl,k,e,i,λc hc=>List.all_eq_true.1 j c hc⟩
 next=>cases h
end Q
namespace Go.Proofs.YtopclbeomcggiaaGreat
open Go.RowKit Q
theorem K7(e i:Value)(a b r:List ai)(v:Nat)(w:World)(ha:aj w e a)(hb:aj w i b)(d:Wp a)(kb:Wp b)(hv:v<4)(h:Vx a b v=some r):Calls Tryz.prog 94 #[e,i,.int .i64 v] w (KJ w r 0):=by
 obtain⟨j,rfl,o,k,l,m⟩:=KZ h;have n:(aB a v).length<=100001:=by rw[bv];have:=(d.deg v).2;omega
 exact Nh e i a b v w ha hb hv j d.val.nat kb.val.nat (d.deg v).2 (kb.deg v).2 (by have:=d.len;omega) (by have:=kb.len;omega) (KT (λc hc=>kb.coeffs hc) k) (Wm l) (λc hc=>by have:=(kS (m c hc)).len;omega)
theorem IL{G:List ai->List ai->Option (List ai)}(HG:Ef G)(va vb:Value)(a b g:List ai)(v:Nat)(w:World)(ha:aj w va a)(hb:aj w vb b)(S:Wp a)(kb:Wp b)(J:a≠[])(L:b≠[])(hv:v<4)(h:FL G a b v=some g) :
  Calls Tryz.prog 55 #[va,vb,.int .i64 v] w (aN w g):=by
 have D:=zH (λW (hb:Below w.heap.size w W)=>kC va a v W (ha.on hb) hv (by have:=S.len;omega));have I:=zH (λW (a5:Below w.heap.size w W)=>kC vb b v W (hb.on a5) hv (by have:=kb.len;omega));replace ha:=zH ha;replace hb:=zH hb;unfold FL at h
 go_enter Tryz.func55,Tryz.ntmps55
 have X:∀(x y:List ai)(h:BQ G x y v=some g),(∃m,Ah x y v=some m):=λx y h=>by
  unfold BQ at h
  cases hm:Ah x y v with
  | none=>rw[hm]at h;cases h
  | some m=>exact⟨m,rfl⟩
 obtain⟨da,hda2⟩:∃da,da=aH a v:=⟨_,rfl⟩;obtain⟨db,hdb2⟩:∃db,db=aH b v:=⟨_,rfl⟩;rw[<-hda2]at D h;rw[<-hdb2]at I h
 go_upto_if 18 with (first
  | (go_at_call 53;refine(I.out w3 hb3).mono ?_;rintro en w4 ⟨rfl,hb4⟩)
  | (go_at_call 53;refine(D.out _ (Below.refl _ _)).mono ?_;rintro en w3 ⟨rfl,hb3⟩))
 have hb34:=hb3.trans (hb4.mono hb3.size)
 go_cut [0,1,19,20] (λvx vy _ _ wc=>∃x y,Hid (aj wc vx x)/\Hid (aj wc vy y)/\Wp x/\Wp y/\x≠[]/\y≠[]/\Hid (BQ G x y v=some g)/\Below w.heap.size w wc)
 case first =>
  by_cases a0:da<db
  ·rw[if_pos a0]at h;replace h:=zH h;go_wp2;go_meet
   case rel=>exact⟨b,a,zH (hb.out.on hb34),zH (ha.out.on hb34),kb,S,L,J,h,hb34⟩
  ·rw[if_neg a0]at h;replace h:=zH h;go_wp2;go_meet
   case rel=>exact⟨a,b,zH (ha.out.on hb34),zH (hb.out.on hb34),S,kb,J,L,h,hb34⟩
 case rest =>
  clear D I ha hb S kb J L h hda2 hdb2 hb34 hb3 hb4;obtain⟨x,y,N,B,kx,ky,a2,a3,j,i⟩:=hcut;obtain⟨m,hm⟩:=X x y j.out;have C:=zH (Q7 u0 u1 x y v m wc N.out B.out kx ky hv a2 a3 hm);have hs2:=j.out;unfold BQ at hs2;rw[hm]at hs2;simp only at hs2;clear hm X j;by_cases hm0:m=0
  ·rw[if_pos hm0,sJ]at hs2;subst hm0;have d:=zH hs2;clear hs2
   go_wp2_with (first
    | (go_at_call 92;refine C.out.mono ?_;rintro en w5 ⟨rfl,hb5⟩)
    | (go_at_call 51;refine(yQ _).mono ?_;rintro en w6 ⟨v6,rfl,h6,hb6⟩))
   go_ret;exact⟨_,rfl,by rw[<-d.out];exact h6,(i.trans (hb5.mono i.size)).trans (hb6.mono (i.trans (hb5.mono i.size)).size)⟩
  ·rw[if_neg hm0]at hs2;have a1:(m==0)=false:=by simpa using hm0
   cases hd:yO x y with
   | none=>rw[hd]at hs2;cases hs2
   | some r =>
   rw[hd]at hs2;simp only at hs2;have Y:=zH (λW (hb:Below wc.heap.size wc W)=>KV u0 u1 x y r W (N.out.on hb) (B.out.on hb) ky hd);have Z:=zH (λW (hb:Below wc.heap.size wc W)=>kC u1 y v W (B.out.on hb) hv (by have:=ky.len;omega));clear hd hm0
   go_upto_region 7 with (first
    | (go_at_call 92;refine C.out.mono ?_;rintro en w5 ⟨rfl,hb5⟩)
    | (go_at_call 93;refine(Y.out _ hb5).mono ?_;rintro en w6 ⟨v6,rfl,h6,hb6⟩))
   have hb56:=hb5.trans (hb6.mono hb5.size);have hdy2:=zH (Z.out w6 hb56);clear Y C Z h6 hb5 hb6;have hbw6:=i.trans (hb56.mono i.size);have hx6:=zH (N.out.on hb56);have hy6:=zH (B.out.on hb56);obtain⟨dy,hdy3⟩:∃dy,dy=aH y v:=⟨_,rfl⟩;rw[<-hdy3]at hdy2 hs2;obtain⟨F,hF⟩:∃F,F=fuel:=⟨_,rfl⟩;rw[<-hF]at hs2;clear N B hdy3 hF
   go_cut [34,35,36,37,38,39,40,41] (λ_ _ _ _ _ _ _ t wd=>∃fl,t=.bool fl/\Hid (aj wd u0 x)/\Hid (aj wd u1 y)/\Hid ((fl=true->g=y)/\(fl=false->sQ G v F x y=some g))/\Below w.heap.size w wd)
   case first =>
    cases r with
    | none =>
     simp only[Option.isSome_none,Bool.false_and]at hs2;rw[if_neg sM]at hs2;replace hs2:=zH hs2;simp only[Option.isSome_none];clear hdy2;go_wp2;go_meet
     case rel=>exact⟨_,rfl,hx6,hy6,zH ⟨λh=>(by cases h),λ_=>hs2.out⟩,hbw6⟩
    | some r =>
     simp only[Option.isSome_some,Bool.true_and]at hs2 ⊢;by_cases s:m=dy
     ·rw[if_pos (by simpa using s),sJ]at hs2;subst s;have d:=zH hs2;clear hs2 a1
      go_wp2_with (go_at_call 53;refine hdy2.out.mono ?_;rintro en w7 ⟨rfl,hb7⟩)
      go_meet
      case rel=>exact⟨_,rfl,zH (hx6.out.on hb7),zH (hy6.out.on hb7),zH ⟨λ_=>d.out.symm,λh=>(by cases h)⟩,hbw6.trans (hb7.mono hbw6.size)⟩
     ·rw[if_neg (by simpa using s)]at hs2;have hmd2:(m==dy)=false:=by simpa using s
      replace hs2:=zH hs2
      go_wp2_with (go_at_call 53;refine hdy2.out.mono ?_;rintro en w7 ⟨rfl,hb7⟩)
      go_meet
      case rel=>exact⟨_,rfl,zH (hx6.out.on hb7),zH (hy6.out.on hb7),zH ⟨λh=>(by cases h),λ_=>hs2.out⟩,hbw6.trans (hb7.mono hbw6.size)⟩
   case rest =>
    clear hs2 hdy2 hx6 hy6 hbw6 hb56 i a1;obtain⟨fl,rfl,N,B,j,i⟩:=hcut;cases fl
    case true =>
     have d:=zH (j.out.1 rfl);clear j;go_wp2;go_ret;exact⟨_,rfl,by rw[d.out];exact B.out,i⟩
    case false =>
     replace j:=zH (j.out.2 rfl);go_wp2
     go_loopg [0,1] F (λn va vb wr=>∃a b,Hid (aj wr va a)/\Hid (aj wr vb b)/\Wp a/\Wp b/\Hid (sQ G v n a b=some g)/\Below w.heap.size w wr)
     case atStart=>exact⟨x,y,N,B,kx,ky,j,i⟩
     case round =>
      clear N B kx ky j i a2 a3;obtain⟨a,b,ha,hb,S,kb,j,l⟩:=hrel
      cases gk with
      | zero=>exact absurd j.out (by simp[sQ])
      | succ n =>
      have hs2:=j.out;rw[sQ]at hs2
      cases hr:Vx a b v with
      | none=>rw[hr]at hs2;cases hs2
      | some r =>
      rw[hr]at hs2;have M:=K7 _ _ a b r v wr ha.out hb.out S kb hv hr;have kr:=(KZ hr).2.2.1;clear hr j
      cases r with
      | nil =>
       simp only[sJ]at hs2;have d:=zH hs2;clear hs2
       go_upto_region 10 with (go_at_call 94;refine M.mono ?_;rintro en w7 ⟨v7,rfl,h7,hb7⟩)
       obtain⟨a7,c7,rfl,-⟩:=h7.shape;simp only[List.length_nil];go_wp2;go_ret;exact⟨_,rfl,by rw[<-d.out];exact hb.out.on hb7,l.trans (hb7.mono l.size)⟩
      | cons t r =>
       simp only at hs2;have a9:(((t::r).length:Int)==0)=false:=by simp;omega
       have a6:=kr.len
       go_upto_region 10 with (go_at_call 94;refine M.mono ?_;rintro en w7 ⟨v7,rfl,h7,hb7⟩)
       have o:=zH (kC v7 (t::r) v w7 h7 hv oM);have k:∀p,lJ G (t::r) v=some p->∀W,Below w7.heap.size w7 W->Calls Tryz.prog 20 #[v7,.int .i64 v] W (aN W p):=λp hp W a4=>nZ HG v7 (t::r) p v W hv (h7.on a4) kr hp;obtain⟨a7,c7,rfl,-⟩:=h7.shape;replace k:=zH k;have hbr7:=l.trans (hb7.mono l.size);have hb2:=zH (hb.out.on hb7);have z:∀p,lJ G (t::r) v=some p->Wp p:=λp hp=>O9 hp;obtain⟨q9,hq9⟩:∃q9,q9=t::r:=⟨_,rfl⟩;rw[<-hq9]at hs2 a9 o k z ⊢;clear M kr h7 a6 hq9 hb;obtain⟨dr,oV⟩:∃dr,dr=aH q9 v:=⟨_,rfl⟩;rw[<-oV]at o hs2;by_cases hd0:dr=0
       ·rw[if_pos hd0,sJ]at hs2;subst hd0;have d:=zH hs2;clear hs2 k z oV;generalize q9.length=nq at *
        go_wp2_with (first
         | (go_at_call 53;refine o.out.mono ?_;rintro en w8 ⟨rfl,hb8⟩)
         | (go_at_call 51;refine(yQ _).mono ?_;rintro en w9 ⟨v9,rfl,h9,hb9⟩))
        go_ret;exact⟨_,rfl,by rw[<-d.out];exact h9,(hbr7.trans (hb8.mono hbr7.size)).trans (hb9.mono (hbr7.trans (hb8.mono hbr7.size)).size)⟩
       ·rw[if_neg hd0]at hs2;have hd1:(dr==0)=false:=by simpa using hd0
        cases hp:lJ G q9 v with
        | none=>rw[hp]at hs2;cases hs2
        | some p =>
        rw[hp]at hs2;simp only at hs2
        cases hq:kG p with
        | none=>rw[hq]at hs2;cases hs2
        | some q =>
        rw[hq]at hs2;simp only at hs2;have kp:=z p hp;have kq:=yR hq;have aa:=zH (k.out p hp);have a8:=zH (λW u (hu:aj W u p)=>mI u p q W hu kp hq);replace hs2:=zH hs2;clear hp hq z k oV hd0;generalize q9.length=nq at *
        go_wp2_with (first
         | (go_at_call 53;refine o.out.mono ?_;rintro en w8 ⟨rfl,hb8⟩)
         | (go_at_call 20;refine(aa.out _ hb8).mono ?_;rintro en w9 ⟨v9,rfl,h9,hb9⟩)
         | (go_at_call 14;refine(a8.out _ _ h9).mono ?_;rintro en w10 ⟨v10,rfl,h10,hb10⟩))
        have hb89:=hb8.trans (hb9.mono hb8.size);have hb810:=hb89.trans (hb10.mono hb89.size);go_roundg n
        case measure=>omega
        case rel=>exact⟨b,q,zH (hb2.out.on hb810),zH h10,kb,kq,hs2,hbr7.trans (hb810.mono hbr7.size)⟩
end Go.Proofs.YtopclbeomcggiaaGreat
end
section
namespace Q
open Go Go.RowKit Go.Proofs.YtopclbeomcggiaaGreat
def BR (G:List ai->List ai->Option (List ai)) (a b:List ai):Option (List ai) :=
 if a=[]then kG b else if b=[]then kG a else if lT a=true\/lT b=true then some qd else
 fP (TT [a,b]) λv =>
  if aH b v=0 then fP (lI G a v) λc=>G c b
  else if aH a v=0 then fP (lI G b v) λc=>G a c
  else fP (lI G a v) λx=>fP (lI G b v) λy=>fP (G x y) λg=>fP (fQ a x) λp=>fP (fQ b y) λq =>
   if p=[]\/q=[]then none else fP (FL G p q v) λs=>fP (g1 (aO g s)) kG
def uG:Nat->List ai->List ai->Option (List ai)
 | 0,_,_=>none
 | n+1,a,b=>BR (uG n) a b
theorem TY{w:World}{e d:Value}{a b:List ai}(ha:aj w e a)(hb:aj w d b):gB (w.alloc (.cells #[e,d] 27)) (.slice (some ⟨w.heap.size,0,none⟩) 2 2) [a,b]:=by have h:Below w.heap.size w (w.alloc (.cells #[e,d] 27)):=(Below.refl _ _).alloc (nL _) _;exact⟨_,_,[e,d],rfl,nL _,(Blk.new w polyT [e,d]).at,⟨[e],[d],rfl,⟨e,rfl,ha.on h⟩,⟨[d],[],rfl,⟨d,rfl,hb.on h⟩,rfl⟩⟩⟩
end Q
namespace Go.Proofs.YtopclbeomcggiaaGreat
open Go.RowKit Q
theorem Wq{G:List ai->List ai->Option (List ai)}{v:Nat}{a b g:List ai}(d:Wp a)(kb:Wp b)(h:FL G a b v=some g):Wp g:=by
 unfold FL at h;split at h
 ·exact Pe d h
 ·exact Pe kb h
theorem Ws{G:List ai->List ai->Option (List ai)}(d:Ef G){a b g:List ai}(e:Wp a)(kb:Wp b)(h:BR G a b=some g):Wp g:=by
 unfold BR at h;split at h
 ·exact yR h
 split at h
 ·exact yR h
 split at h
 ·cases h;exact IK
 obtain⟨v,-,h⟩:=aX h;split at h
 ·obtain⟨c,hc,h⟩:=aX h;exact(d _ _ _ (uu d e hc) kb h).2
 split at h
 ·obtain⟨c,hc,h⟩:=aX h;exact(d _ _ _ e (uu d kb hc) h).2
 obtain⟨x,k,h⟩:=aX h;obtain⟨y,l,h⟩:=aX h;obtain⟨i,hg,h⟩:=aX h;obtain⟨p,hp,h⟩:=aX h;obtain⟨q,hq,h⟩:=aX h;split at h
 ·cases h
 obtain⟨s,j,h⟩:=aX h;obtain⟨m,hm,h⟩:=aX h;exact yR h
theorem TZ{G:List ai->List ai->Option (List ai)}(n:Ef G):Ef (BR G):=by
 intro a b g D kb h;refine⟨λva vb w k l=>?_,Ws n D kb h⟩;unfold BR at h;by_cases ha0:a=[]
 ·rw[if_pos ha0]at h;subst ha0;have hc:=mI vb b g w l kb h;obtain⟨aa,ca,rfl,d⟩:=k.shape;simp only[List.length_nil];obtain⟨ab,cb,rfl,i⟩:=l.shape;clear h n
  go_enter Tryz.func16,Tryz.ntmps16
  go_wp2_with (go_at_call 14;refine hc.mono ?_;rintro en w1 ⟨v1,rfl,h1,hb1⟩)
  go_ret;exact⟨_,rfl,h1,hb1⟩
 rw[if_neg ha0]at h;by_cases hb0:b=[]
 ·rw[if_pos hb0]at h;subst hb0;have hc:=mI va a g w k D h;obtain⟨aa,ca,rfl,d⟩:=k.shape;obtain⟨ab,cb,rfl,i⟩:=l.shape;simp only[List.length_nil];have ad:((a.length:Int)==0)=false:=by have:=List.length_pos_iff.2 ha0;simp;omega
  generalize a.length=na at *;clear h n ha0
  go_enter Tryz.func16,Tryz.ntmps16
  go_wp2_with (go_at_call 14;refine hc.mono ?_;rintro en w1 ⟨v1,rfl,h1,hb1⟩)
  go_ret;exact⟨_,rfl,h1,hb1⟩
 rw[if_neg hb0]at h;have d:=λW (hb:Below w.heap.size w W)=>ut va a W (k.on hb);have i:=λW (hb:Below w.heap.size w W)=>ut vb b W (l.on hb)
 have j:=λW (hb:Below w.heap.size w W)=>KX _ [a,b] _ (TY (k.on hb) (l.on hb)) sM (λc hc=>by
  rcases List.mem_cons.1 hc with rfl|hc
  ·exact D
  ·rw[List.mem_singleton.1 hc];exact kb)
 have hA:=λW (hb:Below w.heap.size w W)=>k.on hb;have hB:=λW (hb:Below w.heap.size w W)=>l.on hb;have ag:=ha0;have al:=hb0;have X:((a.length:Int)==0)=false:=by have:=List.length_pos_iff.2 ha0;simp;omega
 have Y:((b.length:Int)==0)=false:=by have:=List.length_pos_iff.2 hb0;simp;omega
 obtain⟨aa,ca,rfl,I⟩:=k.shape;obtain⟨ab,cb,rfl,J⟩:=l.shape;obtain⟨na,N⟩:∃na,na=a.length:=⟨_,rfl⟩;obtain⟨nb,S⟩:∃nb,nb=b.length:=⟨_,rfl⟩;rw[<-N]at X d j hA ⊢;rw[<-S]at Y i j hB ⊢;replace j:=zH j;replace hA:=zH hA;replace hB:=zH hB;clear N S I J k l ha0 hb0;cases ha1:lT a
 case true =>
  rw[if_pos (.inl ha1)]at h;cases h;rw[ha1]at d;clear ha1 i;replace d:=zH d
  go_enter Tryz.func16,Tryz.ntmps16
  go_wp2_with (first
   | (go_at_call 50;refine(d.out _ (Below.refl _ _)).mono ?_;rintro en w1 ⟨rfl,hb1⟩)
   | (go_at_call 51;refine(yQ _).mono ?_;rintro en w2 ⟨v2,rfl,h2,hb2⟩))
  go_ret;exact⟨_,rfl,h2,hb1.trans (hb2.mono hb1.size)⟩
 case false =>
  rw[ha1]at d;cases hb1:lT b
  case true =>
   rw[if_pos (.inr hb1)]at h;cases h;rw[hb1]at i;clear ha1 hb1;replace d:=zH d;replace i:=zH i
   go_enter Tryz.func16,Tryz.ntmps16
   go_wp2_with (first
    | (go_at_call 50;refine(i.out w1 hb1).mono ?_;rintro en w2 ⟨rfl,hb2⟩)
    | (go_at_call 50;refine(d.out _ (Below.refl _ _)).mono ?_;rintro en w1 ⟨rfl,hb1⟩)
    | (go_at_call 51;refine(yQ _).mono ?_;rintro en w3 ⟨v3,rfl,h3,hb3⟩))
   go_ret;exact⟨_,rfl,h3,(hb1.trans (hb2.mono hb1.size)).trans (hb3.mono (hb1.trans (hb2.mono hb1.size)).size)⟩
  case false =>
   rw[if_neg (by rintro (h|h);rw[ha1]at h;cases h;rw[hb1]at h;cases h)]at h;obtain⟨v,hv,h⟩:=aX h;have hv4:v<4:=Pb hv;rw[hb1]at i;rw[hv]at j;clear ha1 hb1 hv;replace d:=zH d;replace i:=zH i;have z:=zH (λW (hb:Below w.heap.size w W)=>kC _ a v W (hA.out W hb) hv4 (by have:=D.len;omega));have C:=zH (λW (hb:Below w.heap.size w W)=>kC _ b v W (hB.out W hb) hv4 (by have:=kb.len;omega));change Hid (∀W,_->Calls _ _ _ _ (oP _ (.int .i64 (v:Int))))at j
   go_enter Tryz.func16,Tryz.ntmps16
   go_upto_region 8 with (first
    | (go_at_call 50;refine(i.out w1 hb1).mono ?_;rintro en w2 ⟨rfl,hb2⟩;have hb12:=hb1.trans (hb2.mono hb1.size))
    | (go_at_call 50;refine(d.out _ (Below.refl _ _)).mono ?_;rintro en w1 ⟨rfl,hb1⟩)
    | (go_at_call 52;refine(j.out _ hb12).mono ?_;rintro en w3 ⟨rfl,hb3⟩))
   have hb0:=hb12.trans (((Below.refl _ _).alloc (nL _) _).trans (hb3.mono sM) |>.mono hb12.size);obtain⟨da,hda2⟩:∃da,da=aH a v:=⟨_,rfl⟩;obtain⟨Z,hdb2⟩:∃Z,Z=aH b v:=⟨_,rfl⟩;rw[<-hda2]at z h;rw[<-hdb2]at C h;have hD1:=zH (C.out w3 hb0);clear d i j hb1 hb2 hb12 hb3 hda2 hdb2;by_cases hd1:Z=0
   ·rw[if_pos hd1]at h;obtain⟨c,hc,h⟩:=aX h;have F:=zH (λW (hb:Below w.heap.size w W)=>iM n _ a c v W hv4 (hA.out W hb) D hc);have o:=zH (n _ _ _ (uu n D hc) kb h).1;subst hd1;clear h hc z C
    go_wp2_with (first
     | (go_at_call 53;refine hD1.out.mono ?_;rintro en w4 ⟨rfl,hb4⟩;have hb04:=hb0.trans (hb4.mono hb0.size))
     | (go_at_call 18;refine(F.out _ hb04).mono ?_;rintro en w5 ⟨v5,rfl,h5,hb5⟩;have hb05:=hb04.trans (hb5.mono hb04.size);have a1:=hB.out _ hb05)
     | (go_at_call 16;refine(o.out _ _ _ h5 a1).mono ?_;rintro en w6 ⟨v6,rfl,h6,hb6⟩))
    go_ret;exact⟨_,rfl,h6,hb05.trans (hb6.mono hb05.size)⟩
   ·rw[if_neg hd1]at h;have a9:(Z==0)=false:=by simpa using hd1
    by_cases hd2:da=0
    ·rw[if_pos hd2]at h;obtain⟨c,hc,h⟩:=aX h;have F:=zH (λW (hb:Below w.heap.size w W)=>iM n _ b c v W hv4 (hB.out W hb) kb hc);have o:=zH (n _ _ _ D (uu n kb hc) h).1;subst hd2;clear h hc hd1
     go_wp2_with (first
      | (go_at_call 53;refine(z.out w4 hb04).mono ?_;rintro en w5 ⟨rfl,hb5⟩;have hb05:=hb04.trans (hb5.mono hb04.size))
      | (go_at_call 53;refine hD1.out.mono ?_;rintro en w4 ⟨rfl,hb4⟩;have hb04:=hb0.trans (hb4.mono hb0.size))
      | (go_at_call 18;refine(F.out _ hb05).mono ?_;rintro en w6 ⟨v6,rfl,h6,hb6⟩;have hb06:=hb05.trans (hb6.mono hb05.size);have a0:=hA.out _ hb06)
      | (go_at_call 16;refine(o.out _ _ _ a0 h6).mono ?_;rintro en w7 ⟨v7,rfl,h7,hb7⟩))
     go_ret;exact⟨_,rfl,h7,hb06.trans (hb7.mono hb06.size)⟩
    ·rw[if_neg hd2]at h;have ac:(da==0)=false:=by simpa using hd2
     obtain⟨x,hx,h⟩:=aX h;obtain⟨y,hy,h⟩:=aX h;obtain⟨g',hg,h⟩:=aX h;obtain⟨p,hp,h⟩:=aX h;obtain⟨q,hq,h⟩:=aX h;by_cases B:p=[]\/q=[]
     ·rw[if_pos B]at h;cases h
     rw[if_neg B]at h;obtain⟨s,hs,h⟩:=aX h;obtain⟨m,hm,h⟩:=aX h;obtain⟨rfl,km⟩:=kF hm;have kx:=uu n D hx;have ky:=uu n kb hy;have kg:=(n _ _ _ kx ky hg).2;have kp:=rD hp;have kq:=rD hq;have ks:=Wq kp kq hs;have r:=kg.mulOk ks;have L:=zH (λW (hb:Below w.heap.size w W)=>iM n _ a x v W hv4 (hA.out W hb) D hx);have M:=zH (λW (hb:Below w.heap.size w W)=>iM n _ b y v W hv4 (hB.out W hb) kb hy);have o:=zH (n _ _ _ kx ky hg).1;have a4:=zH (λW u (hb:Below w.heap.size w W) (hu:aj W u x)=>oK _ u a x p W (hA.out W hb) hu kx hp);have a5:=zH (λW u (hb:Below w.heap.size w W) (hu:aj W u y)=>oK _ u b y q W (hB.out W hb) hu ky hq);have a8:=zH (λW u1 u2 (h1:aj W u1 p) (h2:aj W u2 q) (n1:p≠[]) (n2:q≠[])=>IL n u1 u2 p q s v W h1 h2 kp kq n1 n2 hv4 hs);have a2:=zH (λW u1 u2 (h1:aj W u1 g') (h2:aj W u2 s)=>Ac u1 u2 g' s W h1 h2 r.kp r.kq r.ko r.kl.1 r.kl.2);have a3:=zH (λW u (hu:aj W u (aO g' s))=>mI u _ g W hu km h);have a6:p≠[]:=λh=>B (.inl h);have a7:q≠[]:=λh=>B (.inr h);clear h hx hy hg hp hq hs hm B km kx ky kg kp kq ks r hd1 hd2;generalize aO g' s=m at *
     go_upto_region 12 with (first
      | (go_at_call 53;refine(z.out w4 hb04).mono ?_;rintro en w5 ⟨rfl,hb5⟩;have hb05:=hb04.trans (hb5.mono hb04.size))
      | (go_at_call 53;refine hD1.out.mono ?_;rintro en w4 ⟨rfl,hb4⟩;have hb04:=hb0.trans (hb4.mono hb0.size)))
     clear hD1 z C
     go_upto_region 13 with (first
      | (go_at_call 18;refine(M.out w6 hb06).mono ?_;rintro en w7 ⟨v7,rfl,h7,hb7⟩;have hb07:=hb06.trans (hb7.mono hb06.size);have h67:=h6.on hb7)
      | (go_at_call 18;refine(L.out _ hb05).mono ?_;rintro en w6 ⟨v6,rfl,h6,hb6⟩;have hb06:=hb05.trans (hb6.mono hb05.size)))
     have hgc2:=zH (o.out _ _ _ h67 h7);clear L M o
     go_wp2_with (first
      | (go_at_call 56;refine(a5.out w9 v7 hb09 h79).mono ?_;rintro en w10 ⟨v10,rfl,h10,hb10⟩;have hb010:=hb09.trans (hb10.mono hb09.size);have h910:=h9.on hb10;have h810:=(h8.on hb9).on hb10)
      | (go_at_call 56;refine(a4.out w8 v6 hb08 h68).mono ?_;rintro en w9 ⟨v9,rfl,h9,hb9⟩;have hb09:=hb08.trans (hb9.mono hb08.size);have h79:=h78.on hb9)
      | (go_at_call 16;refine hgc2.out.mono ?_;rintro en w8 ⟨v8,rfl,h8,hb8⟩;have hb08:=hb07.trans (hb8.mono hb07.size);have h68:=h67.on hb8;have h78:=h7.on hb8)
      | (go_at_call 55;refine(a8.out _ _ _ h910 h10 a6 a7).mono ?_;rintro en w11 ⟨v11,rfl,h11,hb11⟩;have hb011:=hb010.trans (hb11.mono hb010.size);have h811:=h810.on hb11)
      | (go_at_call 54;refine(a2.out _ _ _ h811 h11).mono ?_;rintro en w12 ⟨v12,rfl,h12,hb12⟩;have hb012:=hb011.trans (hb12.mono hb011.size))
      | (go_at_call 14;refine(a3.out _ _ h12).mono ?_;rintro en w13 ⟨v13,rfl,h13,hb13⟩))
     go_ret;exact⟨_,rfl,h13,hb012.trans (hb13.mono hb012.size)⟩
theorem jF:∀n,Ef (uG n)
 | 0=>λa b g _ _ h=>by simp[uG]at h
 | n+1=>TZ (jF n)
end Go.Proofs.YtopclbeomcggiaaGreat
end
section
namespace Q
open Go Go.RowKit Go.Proofs.YtopclbeomcggiaaGreat
def K8:El (List ai × Nat) where
 T:=54
 sz:=2
 pos:=by decide
 E w cs f:=∃v,cs=[v,.int .i64 (f.2:Int)]/\aj w v f.1
 len:=by rintro w c t ⟨v,rfl,-⟩;rfl
 one:=by
  rintro w c t ⟨v,rfl,h⟩ u hu;simp only[List.mem_cons,List.not_mem_nil,or_false]at hu;rcases hu with rfl|rfl
  ·exact bZ.one h
  ·rfl
 on:=by rintro w w' c t ⟨v,rfl,h⟩ hb;exact⟨v,rfl,bZ.on h hb⟩
 ok T:=aT.ok T/\aR≠T
 lr:=by rintro g T' w w' c t ⟨v,rfl,h⟩ hl hT;exact⟨v,rfl,bZ.lr h hl hT.1 hT.2⟩
 self:=⟨bu (by decide),by decide⟩
theorem Wt{G:List ai->List ai->Option (List ai)}{a p:List ai}{v:Nat}{R:List (List ai × Nat)}(h:(if aH p v<1 then some []else
  fP (g1 (dN p v)) λd=>fP (G p d) λg=>fP (fQ p g) λw=>fP (fQ d g) λy=>Ed G v fuel 1 w y [])=some R)(hd:¬aH p v<1) :
  ∃g w0 b,Wp (dN p v)/\G p (dN p v)=some g/\fQ p g=some w0/\fQ (dN p v) g=some b/\Ed G v fuel 1 w0 b []=some R:=by
 rw[if_neg hd]at h;obtain⟨d,hd,h⟩:=aX h;obtain⟨rfl,j⟩:=kF hd;obtain⟨g,hg,h⟩:=aX h;obtain⟨w0,e,h⟩:=aX h;obtain⟨b,i,h⟩:=aX h;exact⟨g,w0,b,j,hg,e,i,h⟩
theorem Ua{G:List ai->List ai->Option (List ai)}{x y:List ai}{v f n:Nat}{out R:List (List ai × Nat)}(h:Ed G v (f+1) n x y out=some R)(hd:0<aH x v) :
  ∃g b e,Wp (dN x v)/\Wp (dL y (dN x v))/\G x (dL y (dN x v))=some g/\fQ x g=some b/\fQ (dL y (dN x v)) g=some e/\Ed G v f (n+1) b e (if 0<aH g v then out++[(g,n)]else out)=some R:=by
 rw[Ed,if_pos hd]at h;obtain⟨d,i,h⟩:=aX h;obtain⟨rfl,m⟩:=kF i;obtain⟨z,l,h⟩:=aX h;obtain⟨rfl,o⟩:=kF l;obtain⟨g,hg,h⟩:=aX h;obtain⟨b,j,h⟩:=aX h;obtain⟨e,k,h⟩:=aX h;exact⟨g,b,e,m,o,hg,j,k,h⟩
abbrev Ub (base:Nat) (w:World) (v:Value) (l:List (List ai × Nat)):Prop:=dC K8 base w v l
abbrev GD (w:World) (v:Value) (l:List (List ai × Nat)):Prop:=bZ K8 w v l
end Q
namespace Go.Proofs.YtopclbeomcggiaaGreat
open Go.RowKit Q
theorem Nz:∃z bytes,(Tryz.prog.info? K8.T).map (λi=>(i.zero,i.size,i.bytes))=some (some z,K8.sz,bytes)/\z.cells.size=K8.sz/\bytes<=100000:=⟨.agg #[.slice none 0 0,.int .i64 0],32,kM,rfl,dM⟩
def Uc (w:World) (l:List (List ai × Nat)) (e:Ending) (w':World):Prop:=∃v,e=.returned v/\GD w' v l/\Below w.heap.size w w'
theorem Wp.part{p:List ai}(h:Wp p)(v:Nat):∀t∈p,Rk t.2/\t.1.get v<=100000000/\Rk (t.1.get v:Rat):=λt b=>by have d:=h.exps b v;refine⟨h.rk t b,oM,?_⟩;obtain⟨m,hm⟩:∃m:Nat,t.1.get v=m:=⟨(t.1.get v).toNat,oM⟩;rw[hm];refine(D7 (s:=⟨1,100000,1,1⟩) dK (Dv.int 1 (m:Int)) ?_).rk;rw[rabs_int];exact Rat.natCast_le_natCast.2 (by show(m:Int).natAbs<=100000;omega)
theorem Xr{b:Value}{p:List ai}{v:Nat}{w:World}(h:Wp p)(hv:v<4)(hp:aj w b p):Calls Tryz.prog 73 #[b,.int .i64 v] w (aN w (dN p v)) :=
 Kw b p v w hp hv (Wp.part h v) (by have:=h.len;omega)
theorem Yo{d e:Value}{p q:List ai}{w:World}(h:Wp p)(b:Wp q)(hp:aj w d p)(hq:aj w e q):Calls Tryz.prog 74 #[d,e] w (aN w (dL p q)) :=
 IB d e p q w hp hq h.rk b.rk (by have:=h.len;omega) (by have:=b.len;omega) h.val b.val
theorem Eg{G:List ai->List ai->Option (List ai)}(HG:Ef G)(va:Value)(a:List ai)(R:List (List ai × Nat))(v:Nat)(w:World)(ha:aj w va a)(ka:Wp a)(hv:v<4)(h:Zy G a v=some R) :
  Calls Tryz.prog 29 #[va,.int .i64 v] w (Uc w R):=by
 have hex:∃p,lJ G a v=some p/\((aH p v<1/\R=[])\/(¬aH p v<1/\∃g w0 y0,Wp (dN p v)/\G p (dN p v)=some g/\fQ p g=some w0/\fQ (dN p v) g=some y0/\Ed G v fuel 1 w0 y0 []=some R)):=by
  unfold Zy at h;obtain⟨p,hp,h⟩:=aX h;refine⟨p,hp,?_⟩;by_cases hd:aH p v<1
  ·rw[if_pos hd,sJ]at h;exact .inl ⟨hd,h.symm⟩
  ·exact .inr ⟨hd,Wt (a:=a) h hd⟩
 clear h;obtain⟨p,hp,hex⟩:=hex;have kp:=O9 hp;have J:=zH (nZ HG va a p v w hv ha ka hp);have s:=zH (λW u (hu:aj W u p)=>kC u p v W hu hv (by have:=kp.len;omega));obtain⟨dp,hdp2⟩:∃dp,dp=aH p v:=⟨_,rfl⟩;rw[<-hdp2]at s hex;clear hp hdp2;rcases hex with ⟨hd1,rfl⟩|⟨hd1,g,w0,y0,kd,hg,hw,M,h⟩
 ·go_enter Tryz.func29,Tryz.ntmps29
  go_wp2_with (first
   | (go_at_call 20;refine J.out.mono ?_;rintro en w3 ⟨v3,rfl,h3,hb3⟩)
   | (go_at_call 53;refine(s.out _ _ h3).mono ?_;rintro en w4 ⟨rfl,hb4⟩))
  go_ret;exact⟨_,rfl,bZ.nil _ _,hb3.trans (hb4.mono hb3.size)⟩
 ·have q:=zH (λW u (hu:aj W u p)=>Xr (w:=W) kp hv hu);generalize dN p v=d at *;obtain⟨b,D⟩:=HG _ _ _ kp kd hg;have kw:=rD hw;have ky:=rD M;replace b:=zH b;have m:=zH (λW u1 u2 (h1:aj W u1 p) (h2:aj W u2 g)=>oK u1 u2 p g w0 W h1 h2 D hw);have o:=zH (λW u1 u2 (h1:aj W u1 d) (h2:aj W u2 g)=>oK u1 u2 d g y0 W h1 h2 D M);obtain⟨F,hF⟩:∃F,F=fuel:=⟨_,rfl⟩;have hF9:1+F<=10000001:=by rw[hF];decide
  rw[<-hF]at h;replace h:=zH h;clear hF hg hw M kp kd D
  go_enter Tryz.func29,Tryz.ntmps29
  go_upto_region 6 with (first
   | (go_at_call 20;refine J.out.mono ?_;rintro en w3 ⟨v3,rfl,h3,hb3⟩)
   | (go_at_call 53;refine(s.out _ _ h3).mono ?_;rintro en w4 ⟨rfl,hb4⟩;have h34:=h3.on hb4)
   | (go_at_call 73;refine(q.out _ _ h34).mono ?_;rintro en w5 ⟨v5,rfl,h5,hb5⟩))
  have h35:=h34.on hb5;have hb05:=(hb3.trans (hb4.mono hb3.size)).trans (hb5.mono (hb3.trans (hb4.mono hb3.size)).size);have hgc2:=zH (b.out _ _ _ h35 h5);clear hb3 hb4 hb5 h34 h3 J q s b hd1
  go_upto_region 7 with (go_at_call 16;refine hgc2.out.mono ?_;rintro en w6 ⟨v6,rfl,h6,hb6⟩)
  have how2:=zH (m.out _ _ _ (h35.on hb6) h6);have hoy2:=zH (λW (hb:Below w6.heap.size w6 W)=>o.out W _ _ ((h5.on hb6).on hb) (h6.on hb));clear m o h35 h5 hgc2
  go_upto_region 8 with (first
   | (go_at_call 56;refine(hoy2.out w7 hb7).mono ?_;rintro en w8 ⟨v8,rfl,h8,hb8⟩)
   | (go_at_call 56;refine how2.out.mono ?_;rintro en w7 ⟨v7,rfl,h7,hb7⟩))
  have hb68:=hb6.trans ((hb7.trans (hb8.mono hb7.size)).mono hb6.size);have hb08:=hb05.trans (hb68.mono hb05.size);have h78:=zH (h7.on hb8);replace h8:=zH h8;clear how2 hoy2 hb05 hb6 hb7 hb8 hb68 h6 h7;go_wp2
  go_loopg [6,9,10,11] F (λf vo vw vy vn wr=>∃(n:Nat)(x y:List ai)(out:List (List ai × Nat)),vn=.int .i64 n/\Hid (Ub w.heap.size wr vo out)/\Hid (aj wr vw x)/\Hid (aj wr vy y)/\Wp x/\Wp y/\Hid (Ed G v f n x y out=some R)/\n+f<=10000001/\out.length<=n/\Below w.heap.size w wr)
  case atStart=>exact⟨1,w0,y0,[],rfl,zH (dC.nil _ _ _),h78,h8,kw,ky,h,hF9,sM,hb08⟩
  case round =>
   clear h78 h8 kw ky h hF9 hb08;obtain⟨n,x,y,out,rfl,S,C,M,kx,ky,hs,a9,aa,r⟩:=hrel
   cases gk with
   | zero=>exact absurd hs.out (by simp[Ed])
   | succ f =>
   have hs2:=hs.out;have hinv:=Ua hs2;rw[Ed]at hs2;have B:=zH (kC _ x v wr C.out hv (by have:=kx.len;omega));obtain⟨dx,hdx2⟩:∃dx,dx=aH x v:=⟨_,rfl⟩;rw[<-hdx2]at B hs2 hinv;clear hs hdx2;by_cases hd:0<dx
   ·clear hs2;obtain⟨g,x',y',kd,kz,hg,L,N,hs2⟩:=hinv hd;clear hinv;have q:=zH (λW (h1:Below wr.heap.size wr W)=>Xr (w:=W) kx hv (C.out.on h1));have a1:=zH (λW u (h1:Below wr.heap.size wr W) (hu:aj W u (dN x v))=>Yo (w:=W) ky kd (M.out.on h1) hu);generalize dN x v=d at *;generalize dL y d=z at *;obtain⟨b,D⟩:=HG _ _ _ kx kz hg;replace b:=zH b;have I:=zH (λW u (hu:aj W u g)=>kC u g v W hu hv (by have:=D.len;omega));have a7:=rD L;have a8:=rD N;have m:=zH (λW u1 u2 (h1:aj W u1 x) (h2:aj W u2 g)=>oK u1 u2 x g x' W h1 h2 D L);have o:=zH (λW u1 u2 (h1:aj W u1 z) (h2:aj W u2 g)=>oK u1 u2 z g y' W h1 h2 D N);obtain⟨dg,hdg2⟩:∃dg,dg=aH g v:=⟨_,rfl⟩;rw[<-hdg2]at I hs2;clear hg L N kd kz D hdg2
    go_upto_region 12 with (first
     | (go_at_call 53;refine B.out.mono ?_;rintro en w3 ⟨rfl,hb3⟩)
     | (go_at_call 73;refine(q.out _ hb3).mono ?_;rintro en w4 ⟨v4,rfl,h4,hb4⟩;have hb34:=hb3.trans (hb4.mono hb3.size))
     | (go_at_call 74;refine(a1.out _ _ hb34 h4).mono ?_;rintro en w5 ⟨v5,rfl,h5,hb5⟩))
    have hb35:=hb34.trans (hb5.mono hb34.size);have hgc2:=zH (b.out _ _ _ (C.out.on hb35) h5);have hx5:=C.out.on hb35;have ho5:=S.out.on hb35;have hbr5:=r.trans (hb35.mono r.size);clear hb3 hb4 hb5 hb34 hb35 h4 q a1 B b C M S
    go_upto_region 13 with (go_at_call 16;refine hgc2.out.mono ?_;rintro en w6 ⟨v6,rfl,h6,hb6⟩)
    have hx6:=hx5.on hb6;have hz6:=h5.on hb6;have ho6:=ho5.on hb6;have hbr6:=hbr5.trans (hb6.mono hbr5.size);have hdg2:=zH (I.out _ _ h6);clear hgc2 hx5 h5 ho5 hbr5 hb6 I;have hn1:n<=10000000:=oM
    go_upto_if 50 with (go_at_call 53;refine hdg2.out.mono ?_;rintro en w7 ⟨rfl,hb7⟩)
    have hx7:=hx6.on hb7;have hz7:=hz6.on hb7;have ho7:=ho6.on hb7;have hg7:=h6.on hb7;have hbr7:=hbr6.trans (hb7.mono hbr6.size);clear hx6 hz6 ho6 h6 hbr6 hb7 hdg2
    go_cut [6,51,52,53,54,55,56] (λvo _ _ _ _ _ _ wd=>Hid (Ub w.heap.size wd vo (if 0<dg then out++[(g,n)]else out))/\Hid (aj wd u9 x)/\Hid (aj wd v5 z)/\Hid (aj wd v6 g)/\Below w.heap.size w wd)
    case first =>
     by_cases hp:0<dg
     ·have i:Below w7.heap.size w7 (w7.alloc (.cells #[v6,.int .i64 n] 54)):=(Below.refl _ _).alloc (nL _) _;have l:=hbr7.trans (i.mono hbr7.size);have a0:=ho7.on i
      have a3:GD (w7.alloc (.cells #[v6,.int .i64 n] 54)) (.slice (some ⟨w7.heap.size,0,none⟩) 1 1) [(g,n)] :=
       ⟨_,1,[v6,.int .i64 n],rfl,nL _,(Blk.new w7 54 [v6,.int .i64 n]).at,fA.single ⟨v6,rfl,hg7.on i⟩⟩
      have a4:=hx7.on i;have a5:=hz7.on i;have a2:=hg7.on i;have j:=ho7.base_le;obtain⟨a6,c6,rfl,-⟩:=hg7.shape;replace j:=zH j;clear hx7 hz7 hg7 ho7
      go_wp2_with (at_builtin;refine dF rfl _ _ 50 rfl Tryz.underlying50 Nz rfl rfl a0 a3 (by simp;omega) l.size ?_;intro v8 w8 hown8 hl8 hv8)
      have hb8:=l.trans (hl8.belowAt l.size (λk hk=>(j.out k hk).1));have hx8:=a4.lr hl8 (bu dM) dM;have hz8:=a5.lr hl8 (bu dM) dM;have hg8:=a2.lr hl8 (bu dM) dM;go_meet
      case rel=>exact⟨zH (by rw[if_pos hp];exact hown8),zH hx8,zH hz8,zH hg8,hb8⟩
     ·go_wp2;go_meet
      case rel=>exact⟨zH (by rw[if_neg oM];exact ho7),zH hx7,zH hz7,zH hg7,hbr7⟩
    case rest =>
     clear hx7 hz7 hg7 ho7 hbr7;obtain⟨S,C,hz,hg,X⟩:=hcut;have how2:=zH (m.out _ _ _ C.out hg.out);have hoy2:=zH (λW (hb:Below wc.heap.size wc W)=>o.out W _ _ (hz.out.on hb) (hg.out.on hb))
     have Z:(if 0<dg then out++[(g,n)]else out).length<=n+1:=by
      split
      ·simp;omega
      ·omega
     replace hs2:=zH hs2;generalize(if 0<dg then out++[(g,n)]else out)=out2 at *;clear m o C hz hg
     go_wp2_with (first
      | (go_at_call 56;refine(hoy2.out w9 hb9).mono ?_;rintro en w10 ⟨v10,rfl,h10,hb10⟩)
      | (go_at_call 56;refine how2.out.mono ?_;rintro en w9 ⟨v9,rfl,h9,hb9⟩))
     have hb910:=hb9.trans (hb10.mono hb9.size);go_roundg f
     case measure=>omega
     case rel=>exact⟨n+1,x',y',out2,nM,zH (S.out.on hb910),zH (h9.on hb10),zH h10,a7,a8,hs2,oM,Z,X.trans (hb910.mono X.size)⟩
   ·rw[if_neg hd,sJ]at hs2;have Y:=zH hs2;have hS:=S.out.isSl;clear hs2 S C M
    go_wp2_with (go_at_call 53;refine B.out.mono ?_;rintro en w3 ⟨rfl,hb3⟩)
    go_ret;exact⟨_,rfl,by rw[<-Y.out];exact hS.on hb3,r.trans (hb3.mono r.size)⟩
end Go.Proofs.YtopclbeomcggiaaGreat
end
section
namespace Q
open Go Go.RowKit Go.Proofs.YtopclbeomcggiaaGreat
abbrev Mx:=List (List (List ai))
def iT (M:Mx) (i j:Nat):List ai:=(M.getD i []).getD j []
def yS (M:Mx) (i j:Nat) (x:List ai):Mx:=M.set i ((M.getD i []).set j x)
def jT (l:List (List ai)) (at_ N:Nat):Nat->List (List ai)
 | 0=>List.replicate N []
 | k+1=>(jT l at_ N k).set (at_+l.length-1-k) (l.getD k [])
def dX (a b:List (List ai)) (N i:Nat):List (List ai):=if b.length-1<=i then jT b (i-(b.length-1)) N b.length else jT a i N a.length
def xY (a b:List (List ai)):Mx:=(List.range (a.length-1+(b.length-1))).map (dX a b (a.length-1+(b.length-1)))
theorem qp(l:List (List ai))(at_ N:Nat):∀k,(jT l at_ N k).length=N
 | 0=>by simp[jT]
 | k+1=>by rw[jT,List.length_set,qp l at_ N k]
def Za (N k i:Nat) (last:List ai):Nat->Mx->Option Mx
 | 0,M=>some M
 | f+1,M=>fP (fQ (dL (aO (iT M k k) (iT M i (N-(f+1)))) (aO (iT M i k) (iT M k (N-(f+1))))) last) λx=>Za N k i last f (yS M i (N-(f+1)) x)
def Zb (N k:Nat) (last:List ai):Nat->Mx->Option Mx
 | 0,M=>some M
 | f+1,M=>fP (Za N k (N-(f+1)) last (N-(k+1)) M) λM'=>Zb N k last f M'
def uB (N k:Nat) (M:Mx):Nat->Option Nat
 | 0=>none
 | f+1=>if iT M (N-(f+1)) k=[]then uB N k M f else some (N-(f+1))
def rE (M:Mx) (i j:Nat):Mx:=(M.set i (M.getD j [])).set j (M.getD i [])
def Q8 (last:List ai) (neg:Bool):List ai:=if neg then dL [] last else last
def resS (N:Nat):Nat->Mx->List ai->Bool->Option (List ai)
 | 0,_,last,neg=>some (Q8 last neg)
 | f+1,M,last,neg=>match uB N (N-(f+1)) M (f+1)with
  | none=>some []
  | some at_ =>
   let M1:=if at_=N-(f+1)then M else rE M (N-(f+1)) at_
   let neg1:=if at_=N-(f+1)then neg else !neg
   if f=0 then some (Q8 (iT M1 (N-(f+1)) (N-(f+1))) neg1)
   else fP (Zb N (N-(f+1)) last f M1) λM2=>resS N f M2 (iT M2 (N-(f+1)) (N-(f+1))) neg1
def Ak (a b:List ai) (v:Nat):Option (List ai) :=
 if a=[]\/b=[]then some []else resS ((aB a v).length-1+((aB b v).length-1)) ((aB a v).length-1+((aB b v).length-1)) (xY (aB a v) (aB b v)) qd false
structure xH (N:Nat) (M:Mx):Prop where
 len:M.length=N
 rows:∀r∈M,r.length=N
 el:∀r∈M,∀x∈r,Wp x
theorem xH.get{N:Nat}{M:Mx}(h:xH N M)(i j:Nat):Wp (iT M i j):=by
 unfold iT;rcases Nat.lt_or_ge i M.length with hi|hi
 ·rw[jD (l:=M),gE hi,Option.getD_some];rcases Nat.lt_or_ge j M[i].length with hj|hj
  ·rw[jD,gE hj];exact h.el _ (List.getElem_mem hi) _ (List.getElem_mem hj)
  ·rw[jD,gN hj];exact Wp.nil
 ·rw[jD (l:=M),gN hi];simp;exact Wp.nil
theorem xH.row{N:Nat}{M:Mx}(h:xH N M){i:Nat}(d:i<N):M.getD i []∈M/\(M.getD i []).length=N/\M[i]?=some (M.getD i []):=by
 have b:i<M.length:=by rw[h.len];exact d
 have e:M.getD i []=M[i]:=by rw[jD,gE b];rfl
 rw[e];exact⟨List.getElem_mem b,h.rows _ (List.getElem_mem b),gE b⟩
theorem xH.set{N:Nat}{M:Mx}(h:xH N M){i j:Nat}{x:List ai}(l:i<N)(m:Wp x):xH N (yS M i j x):=by
 obtain⟨e,k,n⟩:=h.row l;refine⟨by rw[yS,List.length_set];exact h.len,λr b=>?_,λr b y d=>?_⟩
 ·rcases List.mem_or_eq_of_mem_set b with b|rfl
  ·exact h.rows r b
  ·rw[List.length_set];exact k
 ·rcases List.mem_or_eq_of_mem_set b with b|rfl
  ·exact h.el r b y d
  ·rcases List.mem_or_eq_of_mem_set d with d|rfl
   ·exact h.el _ e y d
   ·exact m
theorem xH.swap{N:Nat}{M:Mx}(h:xH N M){i j:Nat}(d:i<N)(e:j<N):xH N (rE M i j):=by
 have hm:∀r∈rE M i j,r∈M:=λr b=>by
  rcases List.mem_or_eq_of_mem_set b with b|rfl
  ·rcases List.mem_or_eq_of_mem_set b with b|rfl
   ·exact b
   ·exact(h.row e).1
  ·exact(h.row d).1
 exact⟨by rw[rE,List.length_set,List.length_set];exact h.len,λr b=>h.rows r (hm r b),λr b=>h.el r (hm r b)⟩
theorem Eh{l:List (List ai)}(b:∀c∈l,Wp c)(at_ N:Nat):∀k,∀x∈jT l at_ N k,Wp x
 | 0,x,hx=>by rw[List.eq_of_mem_replicate hx];exact Wp.nil
 | k+1,x,hx=>by
  rcases List.mem_or_eq_of_mem_set hx with hx|rfl
  ·exact Eh b at_ N k x hx
  ·rcases Nat.lt_or_ge k l.length with hk|hk
   ·rw[jD,gE hk];exact b _ (List.getElem_mem hk)
   ·rw[jD,gN hk];exact Wp.nil
theorem Yp{a b:List (List ai)}(ha:∀c∈a,Wp c)(hb:∀c∈b,Wp c):xH (a.length-1+(b.length-1)) (xY a b):=by
 refine⟨by simp[xY],λr e=>?_,λr e x d=>?_⟩
 ·obtain⟨i,-,rfl⟩:=List.mem_map.1 e;unfold dX;split<;>exact qp _ _ _ _
 ·obtain⟨i,-,rfl⟩:=List.mem_map.1 e;unfold dX at d;split at d
  ·exact Eh hb _ _ _ x d
  ·exact Eh ha _ _ _ x d
abbrev sS:TypeId:=75
def oV (N:Nat) (b:Nat):Value:=.slice (some ⟨b,0,none⟩) N N
def jU (base:Nat) (w:World) (N b:Nat) (r:List (List ai)):Prop:=base<=b/\r.length=N/\∃vs,pY w b vs r/\vs.length=N
structure uC (base:Nat) (w:World) (g N:Nat) (bs:List Nat) (M:Mx):Prop where
 ob:Blk w g sS (bs.map (oV N)++List.replicate (N-bs.length) (.slice none 0 0))
 gb:base<=g
 len:M.length=bs.length
 le:bs.length<=N
 row:∀(i b:Nat)(r:List (List ai)),bs[i]?=some b->M[i]?=some r->jU base w N b r
 nd:bs.Nodup
theorem jU.on{base:Nat}{w w':World}{N b:Nat}{r:List (List ai)}(h:jU base w N b r)(hb:Below w.heap.size w w'):jU base w' N b r:=by obtain⟨d,e,vs,i,j⟩:=h;exact⟨d,e,vs,i.on hb,j⟩
theorem uC.on{base:Nat}{w w':World}{g N:Nat}{bs:List Nat}{M:Mx}(h:uC base w g N bs M)(hb:Below w.heap.size w w'):uC base w' g N bs M :=
 ⟨h.ob.on hb,h.gb,h.len,h.le,λi b r d e=>(h.row i b r d e).on hb,h.nd⟩
theorem jU.ne{base:Nat}{w:World}{N b g:Nat}{r:List (List ai)}{cs:List Value}(h:jU base w N b r)(hg:Blk w g sS cs):b≠g:=by rintro rfl;obtain⟨-,-,vs,d,-⟩:=h;have:=d.b;unfold Blk at *;rw[this]at hg;simp only[sJ,Obj.cells.injEq]at hg;exact absurd hg.2.1 dM
theorem jU.lr{base:Nat}{w w':World}{N b:Nat}{r:List (List ai)}{g:Nat}{T:TypeId}(h:jU base w N b r)(k:Lr (some g) T w w')(q:uT≠T)(e:aR≠T)(j:b≠g):jU base w' N b r:=by obtain⟨m,n,vs,d,o⟩:=h;exact⟨m,n,vs,⟨d.b.lr k (by simpa using j),d.l,λi v p hv hp=>(d.p i v p hv hp).lr k (bu q) e⟩,o⟩
theorem jU.set{base:Nat}{w:World}{N b:Nat}{r:List (List ai)}(h:jU base w N b r){j:Nat}(o:j<N){v:Value}{q:List ai}(hq:aj w v q) :
  jU base (w.setCell ⟨b,j,none⟩ v) N b (r.set j q)/\Lr (some b) polyT w (w.setCell ⟨b,j,none⟩ v):=by
 obtain⟨d,e,vs,k,l⟩:=h;obtain⟨m,n⟩:=k.set (i:=j) oM hq;exact⟨⟨d,by simpa using e,_,m,by simpa using l⟩,n⟩
theorem jU.get{base:Nat}{w:World}{N b:Nat}{r:List (List ai)}(h:jU base w N b r){j:Nat}(m:j<N):∃v,aj w v (r.getD j [])/\w.cell? ⟨b,j,none⟩=some v/\w.frozen? ⟨b,j,none⟩=false/\b<w.heap.size:=by obtain⟨e,k,vs,d,l⟩:=h;obtain⟨v,hv,hp,hc⟩:=d.get (i:=j) oM;exact⟨v,hp,hc,d.b.frozen j,d.b.lt⟩
end Q
end
section
namespace Q
open Go.Proofs.YtopclbeomcggiaaGreat
instance zan:DecidableEq (List ai × Nat):=@instDecidableEqProd (List ai) Nat inferInstance inferInstance
instance ZE:DecidableEq (List (List ai × Nat)):=inferInstance
instance Zc:DecidableEq (Option (List (List ai × Nat))):=inferInstance
def G8:List ai->List ai->Option (List ai):=uG 6
theorem Yq:mP [tm 1 1 0] [tm 1 0 1]=[tm 1 0 1,tm 1 1 0]:=dK
theorem K9:mP [tm 1 1 0] [tm 1 0 0]=[tm 1 1 0,tm 1 0 0]:=dK
theorem ZF:aO [tm 1 1 0,tm 1 0 0] [tm 1 1 0,tm 1 0 0]=[tm 1 2 0,tm 2 1 0,tm 1 0 0]:=dK
theorem Yr:dL [tm 1 1 0] [tm 1 0 1]=[tm (-1) 0 1,tm 1 1 0]:=dK
theorem zaB:aO [tm 1 0 1,tm 1 1 0] [tm (-1) 0 1,tm 1 1 0]=[tm (-1) 0 2,tm 1 2 0]:=dK
theorem zaC:aO [tm 1 0 1] [tm 1 0 1,tm 1 1 0]=[tm 1 0 2,tm 1 1 1]:=dK
theorem Yt:aO [tm 1 0 1] [tm 1 1 0,tm 1 0 0]=[tm 1 1 1,tm 1 0 1]:=dK
theorem zaD:bY [tm 1 1 1,tm 1 0 1] (((2:Int)):Rat)=[tm 2 1 1,tm 2 0 1]:=dK
theorem ZG:aO [tm 1 1 0] [tm 1 0 1]=[tm 1 1 1]:=dK
theorem zaE:aO [tm 1 1 1] [tm 1 2 0,tm 2 1 0,tm 1 0 0]=[tm 1 3 1,tm 2 2 1,tm 1 1 1]:=dK
theorem zaF:Zy G8 [tm 1 3 1,tm 2 2 1,tm 1 1 1] 0=some [([tm 1 1 0],1),([tm 1 1 0,tm 1 0 0],2)]:=dK
theorem Xt:mP [tm 1 1 0] [tm 2 0 0]=[tm 1 1 0,tm 2 0 0]:=dK
theorem Yu:bY [tm 1 1 0,tm 2 0 0] (((2:Int)):Rat)=[tm 2 1 0,tm 4 0 0]:=dK
theorem zaG:kG [tm 2 1 0,tm 4 0 0]=some [tm 1 1 0,tm 2 0 0]:=dK
theorem ZH:G8 [tm (-1) 0 2,tm 1 2 0] [tm 1 0 2,tm 1 1 1]=some [tm 1 0 1,tm 1 1 0]:=dK
theorem ZI:bY [tm 1 1 0] (((3:Int)):Rat)=[tm 3 1 0]:=dK
theorem ZJ:G8 [] [tm 3 1 0]=some [tm 1 1 0]:=dK
theorem ZK:G8 [tm 1 1 0] [tm 1 0 1]=some [tm 1 0 0]:=dK
theorem ZL:G8 [tm 4 0 0] [tm 6 0 0]=some [tm 1 0 0]:=dK
theorem Xu:G8 [] []=some []:=dK
theorem ZM:lI G8 [tm 2 1 1,tm 2 0 1] 0=some [tm 1 0 1]:=dK
theorem ZN:lJ G8 [tm 2 1 1,tm 2 0 1] 0=some [tm 2 1 0,tm 2 0 0]:=dK
theorem Yv:bY [tm 1 1 0,tm 1 0 0] (((2:Int)):Rat)=[tm 2 1 0,tm 2 0 0]:=dK
theorem ZO:Zy G8 [tm 1 0 1] 0=some []:=dK
theorem sw_xx:aO [tm 1 1 0] [tm 1 1 0]=[tm 1 2 0]:=dK
theorem Yw:dL [tm 1 2 0] [tm 1 0 1]=[tm (-1) 0 1,tm 1 2 0]:=dK
theorem Yx:dL [tm 1 1 0] [tm 1 0 0]=[tm 1 1 0,tm (-1) 0 0]:=dK
theorem Yy:dL [tm 1 0 0] [tm 1 0 1]=[tm (-1) 0 1,tm 1 0 0]:=dK
theorem ZP:Ak [tm (-1) 0 1,tm 1 2 0] [tm 1 1 0,tm (-1) 0 0] 0=some [tm (-1) 0 1,tm 1 0 0]:=dK
theorem ZQ:Ak [tm 2 0 0] [tm 3 0 0] 0=some [tm 1 0 0]:=dK
theorem ZR:Ak [tm 2 0 0] [tm 1 2 0] 0=some [tm 4 0 0]:=dK
theorem ZT:Ak [] [tm 1 0 0] 0=some []:=dK
end Q
end
