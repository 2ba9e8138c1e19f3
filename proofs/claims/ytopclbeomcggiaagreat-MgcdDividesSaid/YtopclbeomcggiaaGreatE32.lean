/- mgcd.shared: the walk. mgcd.bound. Sizes of polynomials: common denominators, sums of absolute values; a small combination with small coefficients. No program in sight. Integer polynomials: Gauss's lemma over the integers; a factor's coefficients are bounded by those of the product. No program in sight. Divisions of small polynomials: the runs, plain. -/
import Derived.Test.YtopclbeomcggiaaGreatE02
import Derived.Test.YtopclbeomcggiaaGreatE04
import Derived.Test.YtopclbeomcggiaaGreatE17
import Derived.Test.YtopclbeomcggiaaGreatE20
import Derived.Test.YtopclbeomcggiaaGreatE31
set_option linter.unusedVariables false
set_option linter.unusedSimpArgs false
set_option maxHeartbeats 16000000
set_option maxRecDepth 100000
section
namespace Q
open Go Go.RowKit Go.Proofs.YtopclbeomcggiaaGreat
theorem Rst.mono {b b':Nat} {w:World} {v:Value} {l:List Nat} (h:Rst b w v l) (hb:b'<=b):Rst b' w v l:=by
 obtain⟨ao,cap,h1,h2,h3,h4⟩:=h;refine⟨ao,cap,h1,h2,h3,fun hp=>?_⟩;obtain⟨g,cs,e,hg,hB⟩:=h4 hp;exact⟨g,cs,e,by omega,hB⟩
def FactL.rst {T:TypeId} (B:Nat) (l:List Nat):FactL (Lr none T):=FactL.of (fun v w=>Rst B w v l) (fun _ _ _ hb h=>h.on hb.below)
theorem nsl_cells {w:World} {v:Value} {l:List Nat} (h:IsSl elN w v l) (hp:0<l.length):∃ b off cap,v=.slice (some ⟨b,off,none⟩) l.length cap/\Cells u64T w b off (nc l)/\Lim l:=by
 obtain⟨ao,cap,rfl,h1,h2,h3⟩:=isSl_n.1 h;obtain⟨b,off,rfl,hc⟩:=h2 (by rw [nc_len];exact hp);exact⟨b,off,cap,rfl,hc,h3⟩
theorem pr2:pr-2=2147483645:=rfl
end Q
namespace Go.Proofs.YtopclbeomcggiaaGreat
open Go.RowKit Q
theorem shared_any (vx vy:Value) (x y:List Nat) (R:Nat) (w:World) (hx:IsSl elN w vx x) (hy:IsSl elN w vy y) (lx:x.length<=1000000) (ly:y.length<=1000000) (h:shareO x y=some R) :
  Calls Tryz.prog 119 #[vx,vy] w (Ret w (.int .i64 ((R:Int)-1))):=by
 obtain⟨F,hF⟩:∃ F,F=fuel:=⟨_,rfl⟩;unfold shareO at h;rw [<- hF] at h;obtain⟨ax,cx,rfl,hcx⟩:=hx.shape;obtain⟨ay,cy,rfl,hcy⟩:=hy.shape;replace hx:=zH hx;replace hy:=zH hy;replace hF:=zH hF
 go_enter Tryz.func119,Tryz.ntmps119
 go_upto_if 15 with (fail)
 go_cut [0,1,16,17] (fun va vb _ _ wc=>∃ a b,Hid (IsSl elN wc va a)/\Hid (IsSl elN wc vb b)/\Hid (shareGo F a b=some R)/\a.length<=1000000/\b.length<=1000000/\Below w.heap.size w wc)
 case first =>
  by_cases hlt:x.length<y.length
  ·rw [if_pos hlt] at h;replace h:=zH h;have hlt':(x.length:Int)<y.length:=by omega
   go_wp2;go_meet
   case rel=>exact⟨y,x,hy,hx,h,ly,lx,Below.refl _ _⟩
  ·rw [if_neg hlt] at h;replace h:=zH h;have hlt':¬ (x.length:Int)<y.length:=by omega
   go_wp2;go_meet
   case rel=>exact⟨x,y,hx,hy,h,lx,ly,Below.refl _ _⟩
 case rest =>
  clear hx hy h lx ly hcx hcy;obtain⟨a,b,ha,hb,hs,la,lb,hbw⟩:=hcut;go_wp2
  go_loopg [0,1] F (fun n va vb wr=>∃ a b,Hid (IsSl elN wr va a)/\Hid (IsSl elN wr vb b)/\Hid (shareGo n a b=some R)/\a.length<=1000000/\b.length<=1000000/\Below w.heap.size w wr)
  case atStart=>exact⟨a,b,ha,hb,hs,la,lb,hbw⟩
  case round =>
   clear ha hb hs la lb hbw a b;obtain⟨a,b,ha,hb,hs,la,lb,hbr⟩:=hrel
   cases gk with
  |zero=>exact absurd hs.out (by simp [shareGo])
  |succ n =>
   have hs2:=hs.out;rw [shareGo] at hs2;clear hs;by_cases hb0:b=[]
   ·rw [if_pos hb0,Option.some.injEq] at hs2;subst hb0;obtain⟨aa,ca,rfl,hca⟩:=ha.out.shape;obtain⟨ab,cb,rfl,hcb⟩:=hb.out.shape;simp only [List.length_nil];have hfin:=zH hs2;clear hs2;go_wp2;go_ret;exact⟨by rw [<- hfin.out];rfl,hbr⟩
   ·rw [if_neg hb0] at hs2;have hpb:0<b.length:=List.length_pos_iff.2 hb0;obtain⟨bb,ob,cb,rfl,hCb,hLb⟩:=nsl_cells hb.out hpb;rw [<- hF.out] at hs2;obtain⟨inv,hinv⟩:∃ inv,inv=powm (b.getD (b.length - 1) 0) 2147483645:=⟨_,rfl⟩;rw [pr2,<- hinv] at hs2
    cases hr:restO b inv F a with
   |none=>rw [hr] at hs2;cases hs2
   |some r1 =>
    rw [hr] at hs2;have hinvl:inv<2147483647:=by rw [hinv];exact powm_lt _ _
    have hcl:=zH (fun W (hb:Below wr.heap.size wr W)=>cloneN_any _ a W (ha.out.on hb) (by omega));have hlast:=hLb.getD (b.length-1);have hpw:=zH (fun W=>power_any (b.getD (b.length-1) 0) 2147483645 W (by omega) (by omega));rw [<- hinv] at hpw;have hcell:∀ W,Below wr.heap.size wr W->W.cell? ⟨bb,ob+(b.length-1),none⟩=some (.int .u64 ((b.getD (b.length-1) 0:Nat):Int)):=fun W hb=>(hCb.on hb).ncell _ (by omega);generalize b.getD (b.length-1) 0=xl at hpw hcell;replace hinv:=zH hinv;replace hs2:=zH hs2;replace hr:=zH hr;replace hcell:=zH hcell;have hpos:(0:Int)<(b.length:Int):=by omega
    clear hlast hb0
    go_upto_region 4 with (fail)
    refine wp_region_L mixed (none) (0) (Okr.none) [.eq (u0),.rst wr.heap.size a,.eq (.slice (some ⟨bb,ob,none⟩) b.length cb),.eq (.slice (some ⟨bb,ob,none⟩) b.length cb),.eq (.int .i64 b.length),.eq (.int .i64 ((b.length:Int)-1)),.eq (.pointer (some ⟨bb,ob+(b.length-1)*1,none⟩)),.eq (.int .u64 xl),.ret (.int .u64 inv)] [21,22,23,24,25,26,27,28,29] rfl rfl rfl rfl ⟨?_,?_,?_,?_,?_,?_,?_,?_,?_,trivial⟩ ?_
    ·exact fun _ _ a _ _ _=>xM rfl (a 0 rfl)
    ·intro A w1 hA hL hS he;have hb:=hS rfl;have h21:=eT 21 (he.1 rfl);have hf0:=eF A 138;refine goOn_plain rfl ?_;refine stepG_call (f:=138) (args:=#[u0]) rfl rfl ?_ ?_
     ·exact gZ
     ·refine (hcl.out _ hb).mono ?_;rintro e w' ⟨v,rfl,hi,hb'⟩;exact⟨_,rfl,hb',hi.mono hb.size⟩
    ·exact fun _ _ a _ _ _=>xM rfl (a 1 rfl)
    ·exact fun _ _ a _ _ _=>xM rfl (a 1 rfl)
    ·intro A w1 hA hL hS he;have h24:=eT 24 (he.1 rfl);exact pZ rfl
    ·intro A w1 hA hL hS he;have h25:=eT 25 (he.1 rfl);have hc0:=eC A (.int .i64 1);refine goOn_plain rfl (stepG_pure rfl rfl ?_);generalize A.eval=ev at *;go_simp;exact wrap64 (by omega) (by omega)
    ·exact fun _ _ _ _ _ e=>pI rfl Tryz.underlying94 bb ob (b.length-1) (by omega) (e.1 rfl) (e.2.1 rfl)
    ·intro A w1 hA hL hS he;have hb:=hL.below;have h27:=eT 27 (he.1 rfl);refine goOn_plain rfl ?_;have c0:=hcell.out w1 hb;exact stepG_pure rfl rfl gZ
    ·intro A w1 hA hL hS he;have hb:=hS rfl;have h28:=eT 28 (he.1 rfl);have hf0:=eF A 137;have hc0:=eC A (.int .i64 2147483645);refine goOn_plain rfl ?_;refine stepG_call (f:=137) (args:=#[.int .u64 xl,(.int .i64 2147483645)]) rfl rfl ?_ ?_
     ·exact gZ
     ·refine (hpw.out _).mono ?_;rintro e w' ⟨rfl,hb'⟩;exact⟨_,rfl,hb',rfl⟩
    ·intro W1 hL1;have hb1:=hL1.below;simp only [TailL,FactL.eq,FactL.rst,FactL.ret,FactL.of,lZ];rintro v22 h22;go_frame;have hbr1:=hbr.trans (hb1.mono hbr.size);have hbc:∀ W,Below wr.heap.size wr W->∀ k,k<b.length->W.cell? ⟨bb,ob+k,none⟩=some (.int .u64 ((b.getD k 0:Nat):Int)):=fun W hb k hk=>(hCb.on hb).ncell _ hk;replace hbc:=zH hbc;replace h22:=zH h22;clear hL1 hcl hpw hcell hCb;generalize wr=Wb at *;go_wp2
     go_loopg [5] F (fun m v5 wz=>∃ r,Hid (Rst Wb.heap.size wz v5 r)/\Hid (restO b inv m r=some r1)/\r.length<=1000000/\Below Wb.heap.size Wb wz)
     case atStart=>exact⟨a,h22,hr,la,hb1⟩
     case round =>
      clear h22 hr hb1 hbr1;obtain⟨r,hR,hrun,lr,hbz⟩:=hrel;obtain⟨gk',hgk⟩:∃ gk',gk'=gk:=⟨_,rfl⟩
      cases gk with
     |zero=>exact absurd hrun.out (by simp [restO])
     |succ m =>
      clear hgk;have hrun2:=hrun.out;rw [restO] at hrun2;clear hrun;by_cases hle:b.length<=r.length
      ·rw [if_pos hle] at hrun2;obtain⟨g,cap,rfl,hcap,hgb,hgl,hcr,-,-,-⟩:=hR.out.open (by omega);obtain⟨A,hA⟩:∃ A,A=r.length - b.length:=⟨_,rfl⟩;have hA2:(r.length:Int) - (b.length:Int)=(A:Int):=by omega
       have hAb:A+b.length=r.length:=by omega
       rw [<- hA] at hrun2;have htop:=hR.out.isSl;obtain⟨-,-,-,-,-,hLr⟩:=isSl_n.1 htop;have hct:=hcr (r.length - 1) (by omega);have hxl:=hLr.getD (r.length - 1);generalize r.getD (r.length - 1) 0=xt at *;obtain⟨f,hf⟩:∃ f,f=xt*inv % pr:=⟨_,rfl⟩;rw [<- hf] at hrun2;have hfl:f<2147483647:=by rw [hf];exact mod_pr _
       have hxi:xt*inv<=2147483647*2147483647:=Nat.mul_le_mul (by omega) (by omega);have hfi:((xt:Int)*(inv:Int)) % 2147483647=(f:Int):=by rw [hf,pr_eq];simp
       have hle':¬ (r.length:Int)<(b.length:Int):=by omega
       replace hrun2:=zH hrun2;have hst:Hid (Rst Wb.heap.size wr (.slice (some ⟨g,0,none⟩) r.length cap) (redTo b r f A 0)):=hR;clear hf hA hcr htop hR
       go_wp2_with (refine wpList_index_at rfl (.tmp 35) (.tmp 38) _ rfl _ Tryz.underlying94 _ _ _ infoU64 _ _ _ rfl _ _ rfl (r.length-1) (by omega) (by omega) g 0 rfl ?_;rw [Nat.mul_one,Nat.zero_add])
       go_loopw [51] (fun i wy=>∃ k:Nat,k<=b.length/\i=.int .i64 k/\Hid (Rst Wb.heap.size wy (.slice (some ⟨g,0,none⟩) r.length cap) (redTo b r f A k))/\Below Wb.heap.size Wb wy) (fun i _=>b.length-(intOf i).toNat)
       case atStart=>exact⟨0,by omega,rfl,hst,hbz⟩
       case round =>
        clear hst hbz;obtain⟨k,hk,rfl,hR,hbz⟩:=hrel;by_cases hkl:k<b.length
        ·have hkl':(k:Int)<(b.length:Int):=by omega
         have hlen:=redTo_len b r f A k;obtain⟨g',cap',hvv,-,-,-,hcr,hfr,-,hset⟩:=hR.out.open (by omega);simp only [Value.slice.injEq,Option.some.injEq,Addr.mk.injEq,and_true] at hvv;obtain⟨rfl,-,rfl⟩:=hvv;have hsucc:redTo b r f A (k+1)=(redTo b r f A k).set (A+k) (((redTo b r f A k).getD (A+k) 0+(pr - b.getD k 0)*f) % pr):=rfl;have hLr:=hR.out.isSl;obtain⟨-,-,-,-,-,hLr⟩:=isSl_n.1 hLr;have h1:=hcr (A+k) (by omega);have h2:=hbc.out wr hbz k hkl;have h3:=hfr (A+k);have hx1:=hLr.getD (A+k);have hc1:=hLb.getD k;have hs9:=hset (A+k) (((redTo b r f A k).getD (A+k) 0+(pr - b.getD k 0)*f) % pr) (by omega) (mod_pr _);rw [<- hsucc] at hs9;obtain⟨nx,hnx⟩:∃ nx,nx=redTo b r f A (k+1):=⟨_,rfl⟩;rw [<- hnx] at hs9;replace hnx:=zH hnx;clear hsucc;generalize (redTo b r f A k).getD (A+k) 0=x at *;generalize b.getD k 0=c at *;obtain⟨d,hd⟩:∃ d,d=pr - c:=⟨_,rfl⟩;rw [<- hd] at hs9;rw [pr_eq] at hd hs9;have hd2:(2147483647:Int) - (c:Int)=(d:Int):=by omega
         have hdf:d*f<=2147483647*2147483647:=Nat.mul_le_mul (by omega) (by omega);have hv9:(((x+d*f) % 2147483647:Nat):Int)=((x:Int)+(d:Int)*(f:Int)) % 2147483647:=by simp
         rw [hv9] at hs9;have hAk2:A+k<r.length:=by omega
         have hbz9:=hbz.trans (setCell_below (W:=wr) (g:=g) (j:=A+k) hgb (.int .u64 (((x:Int)+(d:Int)*(f:Int)) % 2147483647)));replace hs9:=zH hs9;clear hcr hfr hset hv9 hd hR hLr hlen;replace hAb:=zH hAb
         go_wp2_with (first
         |(refine wpList_index_at rfl (.tmp 49) (.tmp 51) _ rfl _ Tryz.underlying94 _ _ _ infoU64 _ _ _ rfl _ _ rfl k rfl hkl bb ob rfl ?_;rw [Nat.mul_one])
         |(refine wpList_index_at rfl (.tmp 60) (.tmp 63) _ rfl _ Tryz.underlying94 _ _ _ infoU64 _ _ _ rfl _ _ rfl (A+k) (by omega) hAk2 g 0 rfl ?_;rw [Nat.mul_one,Nat.zero_add])
         |(refine wpList_index_at rfl (.tmp 56) (.tmp 59) _ rfl _ Tryz.underlying94 _ _ _ infoU64 _ _ _ rfl _ _ rfl (A+k) (by omega) hAk2 g 0 rfl ?_;rw [Nat.mul_one,Nat.zero_add]))
         go_roundw
         case rel=>exact⟨k+1,by omega,by go_num,by rw [<- hnx.out];exact hs9,hbz9⟩
         case measure=>simp [intOf];omega
        ·obtain rfl:k=b.length:=by omega
         have hlen:=redTo_len b r f A b.length;generalize redTo b r f A b.length=r2 at *;obtain⟨S,hS⟩:∃ S,S=strip r2:=⟨_,rfl⟩;have hst:Hid (strip r2=S):=zH hS.symm;have hrun3:Hid (restO b inv m S=some r1):=zH (by rw [hS];exact hrun2.out);clear hrun2 hS;go_wp2
         go_loopg [5] r.length (fun q v5 wy=>∃ r3,Hid (Rst Wb.heap.size wy v5 r3)/\Hid (strip r3=S)/\r3.length<=q/\q<=1000000/\Below Wb.heap.size Wb wy)
         case atStart=>exact⟨r2,hR,hst,by omega,by omega,hbz⟩
         case round =>
          clear hR hst hbz hlen r2;obtain⟨r3,hR,hst,lr3,hq,hbz⟩:=hrel;by_cases hp3:0<r3.length
          ·obtain⟨g3,cap3,rfl,hcap3,hgb3,hgl3,hcr3,-,htk3,-⟩:=hR.out.open hp3;have hct3:=hcr3 (r3.length - 1) (by omega);have hxl3:=(isSl_n.1 hR.out.isSl);obtain⟨-,-,-,-,-,hLr3⟩:=hxl3;have hx3:=hLr3.getD (r3.length - 1);have hz:=fun h=>strip_zero (r:=r3) hp3 h;have hnz:=fun h=>strip_last (r:=r3) hp3 h;have htk:=htk3 (r3.length - 1) (by omega);have hp3':(0:Int)<(r3.length:Int):=by omega
           generalize r3.getD (r3.length-1) 0=x3 at *;clear hcr3 htk3 hLr3;by_cases hx0:x3=0
           ·subst hx0;have hstz:Hid (strip (r3.take (r3.length-1))=S):=zH (by rw [hz rfl];exact hst.out);have hlz:(r3.take (r3.length-1)).length=r3.length-1:=by rw [List.length_take];omega
            replace htk:=zH htk;clear hz hnz hst hR;obtain⟨q',hq'⟩:∃ q',gk=q'+1:=⟨gk - 1,by omega⟩;replace hq':=zH hq';generalize r3.take (r3.length - 1)=r4 at *;replace hlz:=zH hlz
            go_wp2_with (first
            |(refine wpList_index_at rfl (.tmp 78) (.tmp 81) _ rfl _ Tryz.underlying94 _ _ _ infoU64 _ _ _ rfl _ _ rfl (r3.length-1) (by omega) (by omega) g3 0 rfl ?_;rw [Nat.mul_one,Nat.zero_add])
            |(refine wpList_slice_hi rfl _ _ 94 rfl Tryz.underlying94 (by kernel_rfl) _ _ _ rfl .i64 _ rfl (r3.length-1) (by omega) (by omega) ?_))
            go_roundg q'
            case measure=>have:=hq'.out;omega
            case rel=>exact⟨r4,by have h1:=htk.out;have h2:=hlz.out;rw [<- h2] at h1;rw [<- h2];exact zH h1,hstz,by have:=hq'.out;have:=hlz.out;omega,by have:=hq'.out;omega,hbz⟩
           ·have hfin:Hid (S=r3):=zH (by rw [<- hst.out];exact hnz hx0);have hne:((x3:Int) == 0)=false:=by simp;omega
            clear hz hnz hst htk hx0
            go_wp2_with (refine wpList_index_at rfl (.tmp 78) (.tmp 81) _ rfl _ Tryz.underlying94 _ _ _ infoU64 _ _ _ rfl _ _ rfl (r3.length-1) (by omega) (by omega) g3 0 rfl ?_;rw [Nat.mul_one,Nat.zero_add])
            go_roundg m
            case measure=>omega
            case rel=>exact⟨r3,hR,by rw [<- hfin.out];exact hrun3,by omega,hbz⟩
          ·obtain rfl:r3=[]:=List.eq_nil_of_length_eq_zero (by omega);have hfin:Hid (S=[]):=zH (by rw [<- hst.out];rfl);obtain⟨a3,c3,rfl,-⟩:=hR.out.isSl.shape;simp only [List.length_nil];clear hst;go_wp2;go_roundg m
           case measure=>omega
           case rel=>exact⟨[],hR,by rw [<- hfin.out];exact hrun3,by simp,hbz⟩
      ·rw [if_neg hle,Option.some.injEq] at hrun2;subst hrun2;obtain⟨ar,cr,rfl,-⟩:=hR.out.isSl.shape;have hle':(r.length:Int)<(b.length:Int):=by omega
       have hbW:=zH (hb.out.on hbz);have hbrz:=hbr.trans (hbz.mono hbr.size);have hRs:=zH hR.out.isSl;clear hR hb ha hbc;go_wp2;go_roundg n
       case measure=>omega
       case rel=>exact⟨b,r,hbW,hRs,hs2,lb,lr,hbrz⟩
end Go.Proofs.YtopclbeomcggiaaGreat
end
section
namespace Q
theorem imgO_len {a:List Trm} {v at_:Nat} {l:List Nat} (ka:Wp a) (h:imgO a v at_=some l):l.length<=1000000:=by
 rw [(imgGo_len h).1,List.length_replicate];have:=(ka.deg v).2;omega
theorem boundGo_cons {a b:List Trm} {v k:Nat} {l:List Nat} {m:Int} (h:boundGo a b v (k::l)=some m) :
  (fineB (imgO a v (17+100*k))=true/\fineB (imgO b v (17+100*k))=true/\∃ x y n,imgO a v (17+100*k)=some x/\imgO b v (17+100*k)=some y/\shareO x y=some n/\m=(n:Int)-1) \/
  ((fineB (imgO a v (17+100*k))=false\/fineB (imgO b v (17+100*k))=false)/\boundGo a b v l=some m):=by
 rw [boundGo] at h
 cases hx:imgO a v (17+100*k) with
|none=>rw [hx] at h;exact .inr ⟨.inl rfl,h⟩
|some x =>
  cases hy:imgO b v (17+100*k) with
 |none=>rw [hx,hy] at h;exact .inr ⟨.inr rfl,h⟩
 |some y =>
   rw [hx,hy] at h;change (if (fineB (some x) && fineB (some y))=true then _ else _)=_ at h;cases h1:fineB (some x)
   ·rw [h1] at h;exact .inr ⟨.inl rfl,by simpa using h⟩
   ·cases h2:fineB (some y)
    ·rw [h1,h2] at h;exact .inr ⟨.inr rfl,by simpa using h⟩
    ·rw [h1,h2] at h;rw [if_pos (show (true && true)=true from rfl)] at h
     cases hs:shareO x y with
    |none=>rw [hs] at h;cases h
    |some n =>
      rw [hs] at h;have h9:some ((n:Int)-1)=some m:=h;exact .inl ⟨rfl,rfl,x,y,n,rfl,rfl,hs,(Option.some.inj h9).symm⟩
end Q
namespace Go.Proofs.YtopclbeomcggiaaGreat
open Go.RowKit Q
theorem bound_any (va vb:Value) (a b:List Trm) (v:Nat) (m:Int) (w:World) (ha:IsPoly w va a) (hb:IsPoly w vb b) (ka:Wp a) (kb:Wp b) (hv:v<4) (hna:a≠[]) (hnb:b≠[]) (h:boundO a b v=some m) :
  Calls Tryz.prog 92 #[va,vb,.int .i64 v] w (Ret w (.int .i64 m)):=by
 have hia:=zH (fun k W (hk:k<3) (hb:Below w.heap.size w W)=>image_any va a v (17+100*k) W (ha.on hb) ka hv hna (by omega));have hib:=zH (fun k W (hk:k<3) (hbb:Below w.heap.size w W)=>image_any vb b v (17+100*k) W (hb.on hbb) kb hv hnb (by omega));have hda:=zH (fun W (hb:Below w.heap.size w W)=>deg_any va a v W (ha.on hb) hv (by have:=ka.len;omega));have hdb:=zH (fun W (hbb:Below w.heap.size w W)=>deg_any vb b v W (hb.on hbb) hv (by have:=kb.len;omega));have hla:=zH (fun k l (h:imgO a v (17+100*k)=some l)=>imgO_len ka h);have hlb:=zH (fun k l (h:imgO b v (17+100*k)=some l)=>imgO_len kb h);have hst:Hid (boundGo a b v ([0,1,2].drop 0)=some m):=zH h;obtain⟨aa,ca,rfl,-⟩:=ha.shape;obtain⟨ab,cb,rfl,-⟩:=hb.shape;have hka:=(ka.deg v);have hkb:=(kb.deg v);clear ha hb ka kb hna hnb h
 go_enter Tryz.func92,Tryz.ntmps92
 go_wp2
 go_loopw [12] (fun i wr=>∃ k:Nat,k<=3/\i=.int .u64 k/\Hid (boundGo a b v ([0,1,2].drop k)=some m)/\Below w.heap.size w wr) (fun i _=>match i with|.int _ x=>3-x.toNat|_=>0)
 case atStart=>exact⟨0,by omega,by go_num,hst,Below.refl _ _⟩
 case round =>
  clear hst;obtain⟨k,hk,rfl,hB,hbr⟩:=hrel;by_cases hk3:k<3
  ·have hk3':(k:Int)<3:=by omega
   have hdr:([0,1,2]:List Nat).drop k=k::([0,1,2]:List Nat).drop (k+1):=by
    obtain rfl|rfl|rfl:k=0\/k=1\/k=2:=by omega
    all_goals rfl
   have hB2:=hB.out;rw [hdr] at hB2;have h1:=hia.out k wr hk3 hbr;have h2:=hib.out k;have hke:((17+100*k:Nat):Int)=17+100*(k:Int):=by omega
   rw [hke] at h1 h2;clear hke;have hc:=boundGo_cons hB2;have hla1:=hla.out k;have hlb1:=hlb.out k;clear hdr hB hB2;generalize imgO a v (17+100*k)=oa at *;generalize imgO b v (17+100*k)=ob at *;replace hc:=zH hc;replace h2:=zH h2;replace hla1:=zH hla1;replace hlb1:=zH hlb1
   go_upto_region 6 with (first
   |(go_at_call 118;refine (h2.out w3 hk3 (hbr.trans (hb3.mono hbr.size))).mono ?_;rintro en w4 ⟨v4,rfl,hv4,hb4⟩)
   |(go_at_call 118;refine h1.mono ?_;rintro en w3 ⟨v3,rfl,hv3,hb3⟩))
   have hb34:=hb3.trans (hb4.mono hb3.size);have hbr4:=hbr.trans (hb34.mono hbr.size);rcases hc.out with ⟨f1,f2,x,y,n,rfl,rfl,hs,rfl⟩|⟨hf,hrest⟩
   ·rw [f1,f2];have hx:=(hv3 x rfl).on hb4;have hy:=hv4 y rfl;have hsh:=shared_any v3 v4 x y n w4 hx hy (hla1.out x rfl) (hlb1.out y rfl) hs;replace hsh:=zH hsh;clear hv3 hv4 h1 h2 f1 f2 hx hy hs hc
    go_wp2_with (go_at_call 119;refine hsh.out.mono ?_;rintro en w5 ⟨rfl,hb5⟩)
    go_ret;exact⟨rfl,hbr4.trans (hb5.mono hbr4.size)⟩
   ·have hrest:=zH hrest;clear hv3 hv4 h1 h2 hc;cases f1:fineB oa
    ·clear hf f1;go_wp2;go_roundw
     case rel=>exact⟨k+1,by omega,by go_num,hrest,hbr4⟩
     case measure=>simp;omega
    ·cases f2:fineB ob
     ·clear hf f1 f2;go_wp2;go_roundw
      case rel=>exact⟨k+1,by omega,by go_num,hrest,hbr4⟩
      case measure=>simp;omega
     ·rw [f1,f2] at hf;rcases hf with hf|hf <;> cases hf
  ·obtain rfl:k=3:=by omega
   have hfin:Hid (m=min (degP a v) (degP b v)):=zH (Option.some.inj hB.out).symm;have h1:=hda.out wr hbr;have h2:=hdb.out;clear hda hdb hB;generalize degP a v=da at *;generalize degP b v=db at *
   go_wp2_with (first
   |(go_at_call 53;refine (h2 w3 (hbr.trans (hb3.mono hbr.size))).mono ?_;rintro en w4 ⟨rfl,hb4⟩)
   |(go_at_call 53;refine h1.mono ?_;rintro en w3 ⟨rfl,hb3⟩))
   go_ret;exact⟨by rw [hfin.out];rfl,(hbr.trans (hb3.mono hbr.size)).trans (hb4.mono (hbr.trans (hb3.mono hbr.size)).size)⟩
end Go.Proofs.YtopclbeomcggiaaGreat
end
section
namespace Q
namespace MP
def dv (D:Nat) (p:MP):Prop:=∀ t∈p.l,Dv D t.2
def am (p:MP):Rat:=asum p.l
theorem am_nonneg (p:MP):0<=p.am:=asum_nonneg _
theorem canon_dv {D:Nat} {l:List Trm} (h:∀ t∈l,Dv D t.2):∀ t∈canon l,Dv D t.2:=(foldl_bd (l:=l) (r:=[]) (p:=fun _=>True) (fun _ _=>trivial) (fun _ _=>trivial) h (fun _ h=>by cases h)).2.2.2
theorem ins_asum' (l:List Trm):∀ r,asum (l.foldl ins r)<=asum r+asum l:=by
 induction l with
|nil=>intro r;simp only [List.foldl_nil,asum];grind
|cons m l ih=>intro r;have:=ih (ins r m);have:=ins_asum r m;simp only [List.foldl_cons,asum];grind
theorem canon_asum (l:List Trm):asum (canon l)<=asum l:=by have:=ins_asum' l [];simp only [asum] at this;unfold canon;grind
theorem dv_add {D:Nat} {p q:MP} (h:p.dv D) (h':q.dv D):(p+q).dv D:=canon_dv fun t ht=>(List.mem_append.1 ht).elim (h t) (h' t)
theorem dv_mul {D D':Nat} {p q:MP} (h:p.dv D) (h':q.dv D'):(p*q).dv (D*D'):=canon_dv fun t ht=>by
 obtain⟨a,ha,b,hb,rfl⟩:=mem_prods ht;exact (h a ha).mul (h' b hb)
theorem dv_mul1 {p q:MP} (h:p.dv 1) (h':q.dv 1):(p*q).dv 1:=dv_mul h h'
theorem dv_c {D:Nat} {r:Rat} (h:Dv D r):(c r).dv D:=fun t ht=>by
 have ht:t∈constP r:=ht;unfold constP at ht;split at ht
 ·cases ht
 ·rw [List.mem_singleton.1 ht];exact h
theorem dv_mono {D D':Nat} (hd:D∣D') {p:MP} (h:p.dv D):p.dv D':=fun t ht=>(h t ht).dvd hd
theorem scale_mem {p:List Trm} {c:Rat} {t:Trm} (h:t∈scaleP p c):∃ s∈p,t=(s.1,s.2*c):=by
 unfold scaleP at h;split at h
 ·cases h
 ·obtain⟨s,hs,rfl⟩:=List.mem_map.1 h;exact⟨s,hs,rfl⟩
theorem dv_neg {D:Nat} {p:MP} (h:p.dv D):(-p).dv D:=fun t ht=>by
 obtain⟨s,hs,rfl⟩:=scale_mem (p:=p.l) (c:=-1) ht;have:=(h s hs).neg;have e:s.2*-1=-s.2:=by grind
 show Dv D (s.2*-1);rw [e];exact this
theorem sub_eq (p q:MP):p-q=p+-q:=by grind
theorem dv_sub {D:Nat} {p q:MP} (h:p.dv D) (h':q.dv D):(p-q).dv D:=by rw [sub_eq];exact dv_add h (dv_neg h')
theorem dv_zero (D:Nat):(0:MP).dv D:=fun _ h=>by cases h
theorem dv_one (D:Nat):(1:MP).dv D:=dv_c (r:=1) (Dv.int D 1)
theorem dv_int (D:Nat) (k:Int):(c (k:Rat)).dv D:=dv_c (Dv.int D k)
theorem am_add (p q:MP):(p+q).am<=p.am+q.am:=by
 have:=canon_asum (p.l++q.l);rw [asum_append] at this;exact this
theorem am_mul (p q:MP):(p*q).am<=p.am*q.am:=by
 have:=canon_asum (prods p.l q.l);rw [asum_prods] at this;exact this
theorem am_zero:(0:MP).am=0:=rfl
theorem am_c (r:Rat):(c r).am=rabs r:=by
 show asum (constP r)=_;unfold constP;split
 ·rename_i h;rw [h];rfl
 ·simp only [asum];grind
theorem rabs_one:rabs 1=1:=by decide
theorem am_one:(1:MP).am=1:=by rw [<- c_one,am_c,rabs_one]
theorem am_neg (p:MP):(-p).am<=p.am:=by
 have e:-p=c (-1)*p:=by
  refine ext' fun x=>?_;rw [ev_neg,ev_mul,ev_c];grind
 have:=am_mul (c (-1)) p;rw [am_c] at this;rw [e];have e2:rabs (-1)=1:=by decide
 rw [e2] at this;grind
theorem am_sub (p q:MP):(p-q).am<=p.am+q.am:=by have:=am_add p (-q);have:=am_neg q;rw [sub_eq];grind
theorem cf_abs (l:List Trm) (e:Ex):rabs (cf l e)<=asum l:=by
 induction l with
|nil=>simp only [cf_nil,asum];decide
|cons t l ih =>
  rw [cf_cons];simp only [asum];have h1:=rabs_add (if t.1=e then t.2 else 0) (cf l e)
  have h2:rabs (if t.1=e then t.2 else 0)<=rabs t.2:=by
   split
   ·exact Rat.le_refl
   ·have h3:=rabs_nonneg t.2;have h4:rabs 0=0:=by decide
    rw [h4];exact h3
  grind
theorem cf_dv {D:Nat} {l:List Trm} (h:∀ t∈l,Dv D t.2) (e:Ex):Dv D (cf l e):=by
 induction l with
|nil=>rw [cf_nil];exact Dv.zero D
|cons t l ih =>
  rw [cf_cons];refine Dv.add ?_ (ih fun s hs=>h s (by simp [hs]));split
  ·exact h t (by simp)
  ·exact Dv.zero D
theorem cf_mem {p:MP} {t:Trm} (h:t∈p.l):cf p.l t.1=t.2:=cf_one (List.Pairwise.imp (fun h=>Ex.gt_ne h) p.v.1) h
theorem dv_msum {D:Nat} {f:Nat->MP}:∀ {n:Nat},(∀ j,j<n->(f j).dv D)->(msum f n).dv D
|0,_=>dv_zero D
|n+1,h=>dv_add (dv_msum fun j hj=>h j (by omega)) (h n (by omega))
theorem am_msum {K:Rat} {f:Nat->MP}:∀ {n:Nat},(∀ j,j<n->(f j).am<=K)->(msum f n).am<=(n:Rat)*K
|0,_=>by
  rw [msum,am_zero];have e:((0:Nat):Rat)=0:=rfl;rw [e];grind
|n+1,h=>by
  have h1:=am_msum (n:=n) fun j hj=>h j (by omega);have h2:=h n (by omega);have h3:=am_add (msum f n) (f n);rw [msum,Rat.natCast_add];have e:((1:Nat):Rat)=1:=rfl;rw [e];grind
theorem cf_add (p q:MP) (e:Ex):cf (p+q).l e=cf p.l e+cf q.l e:=lf_add _ p q
theorem cf_msum (f:Nat->MP) (e:Ex):∀ n,cf (msum f n).l e=rsum (fun j=>cf (f j).l e) n
|0=>rfl
|n+1=>by rw [msum,cf_add,cf_msum f e n];rfl
theorem cf_cmul (r:Rat) (p:MP) (e:Ex):cf (c r*p).l e=r*cf p.l e:=by
 show Lf _ _=_;rw [lf_mul];by_cases h:r=0
 ·rw [h];show (0:Rat)=_;grind
 ·have:(c r).l=[(e0,r)]:=by show constP r=_;rw [constP,if_neg h]
  rw [this,Lf_cons,Lf_nil];simp only [Ex.zero_add];show r*cf p.l e+0=_;grind
theorem rsum_int {f:Nat->Rat} {g:Nat->Int}:∀ {n:Nat},(∀ i,i<n->f i=(g i:Rat))->rsum f n=(isum g n:Rat)
|0,_=>rfl
|n+1,h=>by
  rw [rsum,isum,rsum_int fun i hi=>h i (by omega),h n (by omega),Rat.intCast_add]
def exq (v R j w:Nat):Nat:=if w<v then dig R (j % R ^ v) w else if w=v then j / R ^ v else 0
def exE (v R j:Nat):Ex:=((exq v R j 0:Int),(exq v R j 1:Int),(exq v R j 2:Int),(exq v R j 3:Int))
theorem exE_get (v R j:Nat) {w:Nat} (hw:w<4):(exE v R j).get w=exq v R j w:=by
 rcases w with _|_|_|_|w
 ·rfl
 ·rfl
 ·rfl
 ·rfl
 ·omega
theorem exE_nat (v R j:Nat):(exE v R j).nat=true:=by rw [Ex.nat_iff];simp only [exE];omega
theorem Ex.ext4 {e f:Ex} (h:∀ w,w<4->e.get w=f.get w):e=f:=Ex.ext' (h 0 (by omega)) (h 1 (by omega)) (h 2 (by omega)) (h 3 (by omega))
def mo (v R j:Nat):MP:=⟨[(exE v R j,1)],vld_one (exE_nat v R j) (by decide)⟩
theorem mo_dv (v R j:Nat):(mo v R j).dv 1:=fun t ht=>by rw [List.mem_singleton.1 ht];exact Dv.int 1 1
theorem mo_am (v R j:Nat):(mo v R j).am=1:=by show rabs 1+0=(1:Rat);rw [rabs_one];decide +kernel
theorem mo_deg (v R j:Nat) {w:Nat} (hw:w<4):(mo v R j).deg w=exq v R j w:=by
 show max (-1) ((exE v R j).get w)=_;rw [exE_get _ _ _ hw];omega
theorem exq_lt {v R:Nat} (hR:0<R) (j:Nat) {w:Nat} (h:w<v):exq v R j w<R:=by rw [exq,if_pos h];exact dig_lt hR _ _
theorem exq_top (v R j:Nat):exq v R j v=j / R ^ v:=by rw [exq,if_neg (by omega),if_pos rfl]
theorem exE_inj {v R:Nat} (hv:v<4) (hR:0<R) {i j:Nat} (h:exE v R i=exE v R j):i=j:=by
 have hw:∀ w,w<4->exq v R i w=exq v R j w:=fun w hw=>by
  have:=congrArg (Ex.get · w) h;simp only [exE_get _ _ _ hw] at this;omega
 have h1:=hw v hv;rw [exq_top,exq_top] at h1
 have h2:i % R ^ v=j % R ^ v:=dig_inj hR v _ _ (Nat.mod_lt _ (Nat.pow_pos hR)) (Nat.mod_lt _ (Nat.pow_pos hR)) fun w h=>by
  have:=hw w (by omega);rw [exq,exq,if_pos h,if_pos h] at this;exact this
 have:=Nat.div_add_mod i (R ^ v);have:=Nat.div_add_mod j (R ^ v);rw [h1,h2] at *;omega
theorem dig_code {W:Nat}:∀ (n:Nat) (y:Nat->Nat),(∀ i,i<n->y i<W)->∀ i,i<n->dig W (codeN W y n) i=y i
|0,_,_=>fun i hi=>by omega
|n+1,y,h=>fun i hi=>by
  have h0:=h 0 (by omega)
  cases i with
 |zero=>rw [dig,codeN,Nat.add_mul_mod_self_left,Nat.mod_eq_of_lt h0]
 |succ i =>
   rw [dig,codeN,Nat.add_mul_div_left _ _ (by omega),Nat.div_eq_of_lt h0,Nat.zero_add];exact dig_code n _ (fun i hi=>h (i+1) (by omega)) i (by omega)
theorem exE_of {v R:Nat} (hv:v<4) (hR:0<R) {e:Ex} (h0:e.nat=true) (hlo:∀ w,w<v->e.get w<R) (hhi:∀ w,v<w->w<4->e.get w=0):∃ r,r<R ^ v/\e=exE v R (r+R ^ v*(e.get v).toNat):=by
 have hy:∀ i,i<v->(e.get i).toNat<R:=fun i hi=>by have:=hlo i hi;have:=Ex.nat_get h0 i;omega
 refine⟨codeN R (fun w=>(e.get w).toNat) v,codeN_lt v _ hy,Ex.ext4 fun w hw=>?_⟩;have hlt:=codeN_lt v _ hy;rw [exE_get _ _ _ hw,exq];have:=Ex.nat_get h0 w;by_cases h1:w<v
 ·rw [if_pos h1,Nat.add_mul_mod_self_left,Nat.mod_eq_of_lt hlt,dig_code v _ hy w h1];omega
 ·rw [if_neg h1];by_cases h2:w=v
  ·subst h2;rw [if_pos rfl,Nat.add_mul_div_left _ _ (Nat.pow_pos hR),Nat.div_eq_of_lt hlt,Nat.zero_add];omega
  ·rw [if_neg h2,hhi w (by omega) hw];rfl
def basI (v R A:Nat) (p q:MP) (j:Nat):MP:=if j<A then mo v R j*p else mo v R (j-A)*q
theorem am_mo_mul {v R j H:Nat} {p:MP} (h:p.am<=(H:Rat)):(mo v R j*p).am<=(H:Rat):=by
 have:=am_mul (mo v R j) p;rw [mo_am] at this;grind
theorem siegel_comb {v:Nat} (hv:v<4) {p q:MP} (lp:p.lo (v+1)) (lq:q.lo (v+1)) (ip:p.dv 1) (iq:q.dv 1) {m n k d H R X:Nat} (hm:p.deg v<=m) (hn:q.deg v<=n) (hkm:k<m) (hkn:k<n)
  (hp:∀ w,w<v->p.deg w<=d) (hq:∀ w,w<v->q.deg w<=d) (ap:p.am<=(H:Rat)) (aq:q.am<=(H:Rat)) (hR:0<R)
  (hX:(2*((m+n-2*k)*R ^ v*(X*H))+1) ^ ((m+n-2*k-1)*(R+d) ^ v)<(X+1) ^ ((m+n-2*k)*R ^ v)) :
  ∃ S T:MP,(S≠0\/T≠0)/\S.deg v<n-k/\(S*p+T*q).deg v<=k/\(∀ w,w<v->(S*p+T*q).deg w<=((R-1+d:Nat):Int))/\(S*p+T*q).dv 1/\(S*p+T*q).am<=(((m+n-2*k)*R ^ v*(X*H):Nat):Rat)/\(S*p+T*q).lo (v+1):=by
 obtain⟨u,hu⟩:∃ u,u=m+n - 2*k:=⟨_,rfl⟩;rw [<- hu] at hX ⊢;obtain⟨nS,hS⟩:∃ nS,nS=n - k:=⟨_,rfl⟩;obtain⟨nT,hT⟩:∃ nT,nT=m - k:=⟨_,rfl⟩;have huST:u=nS+nT:=by omega
 obtain⟨Q,hQ⟩:∃ Q,Q=R ^ v:=⟨_,rfl⟩;have hQ0:0<Q:=by rw [hQ];exact Nat.pow_pos hR
 rw [<- hQ] at hX ⊢;obtain⟨R',hR'⟩:∃ R',R'=R+d:=⟨_,rfl⟩;rw [<- hR'] at hX;obtain⟨Q',hQ'⟩:∃ Q',Q'=R' ^ v:=⟨_,rfl⟩;have hQ0':0<Q':=by rw [hQ'];exact Nat.pow_pos (by omega)
 rw [<- hQ'] at hX
 have hdvB:∀ j,(basI v R (nS*Q) p q j).dv 1:=fun j=>by
  unfold basI;split
  ·exact dv_mul1 (mo_dv _ _ _) ip
  ·exact dv_mul1 (mo_dv _ _ _) iq
 have hamB:∀ j,(basI v R (nS*Q) p q j).am<=(H:Rat):=fun j=>by
  unfold basI;split
  ·exact am_mo_mul ap
  ·exact am_mo_mul aq
 have hcf:∀ j e,∃ z:Int,cf (basI v R (nS*Q) p q j).l e=(z:Rat)/\z.natAbs<=H:=fun j e=>by
  obtain⟨z,hz⟩:=int_of_dv (cf_dv (hdvB j) e);refine⟨z,hz,int_le ?_⟩;rw [<- hz];exact Rat.le_trans (cf_abs _ _) (hamB j)
 have hch:∃ M:Nat->Ex->Int,∀ j e,cf (basI v R (nS*Q) p q j).l e=(M j e:Rat)/\(M j e).natAbs<=H :=
  ⟨fun j e=>(cf (basI v R (nS*Q) p q j).l e).num,fun j e=>by
   obtain⟨z,hz,hz2⟩:=hcf j e
   simp only [hz];exact⟨rfl,hz2⟩⟩
 obtain⟨M,hM⟩:=hch;obtain⟨s,s1,⟨j0,j1,j2⟩,s3⟩:=siegel (e:=(u - 1)*Q') (n:=u*Q) (H:=H) (X:=X) (fun i j=>M j (exE v R' (i+Q'*(k+1)))) (fun i j _ _=>(hM j _).2) hX
 let S:MP:=msum (fun j=>c (s j:Rat)*mo v R j) (nS*Q)
 let T:MP:=msum (fun j=>c (s (nS*Q+j):Rat)*mo v R j) (nT*Q)
 have hST:S*p+T*q=msum (fun j=>c (s j:Rat)*basI v R (nS*Q) p q j) (u*Q):=by
  rw [huST,Nat.add_mul,msum_split,<- msum_mulR,<- msum_mulR]
  congr 1
  ·refine msum_congr fun j hj=>?_;simp only [basI,if_pos hj];grind
  ·refine msum_congr fun j hj=>?_;simp only [basI,if_neg (show ¬ nS*Q+j<nS*Q by omega),show nS*Q+j-nS*Q=j by omega];grind
 have hfr:∀ (r:Rat) (w:Nat),(c r).fr w:=fun r w=>by
  by_cases h:r=0
  ·rw [h];exact fr_zero w
  ·exact fr_dvd one_ne (c_unit h) (fr_one w)
 have mow:∀ j w,w<v->(mo v R j).deg w<=(R-1:Nat):=fun j w hw=>by
  rw [mo_deg _ _ _ (by omega)];have:=exq_lt hR j hw;omega
 have mov:∀ j,(mo v R j).deg v=((j / Q:Nat):Int):=fun j=>by rw [mo_deg _ _ _ hv,exq_top,hQ]
 have hi:∀ j w,v<w->w<4->(mo v R j).deg w=0:=fun j w h1 h2=>by
  rw [mo_deg _ _ _ h2,exq,if_neg (by omega),if_neg (by omega)];rfl
 have hbw:∀ j w,w<v->(basI v R (nS*Q) p q j).deg w<=(R-1+d:Nat):=fun j w hw=>by
  unfold basI;split
  ·exact Int.le_trans (deg_mul_le w _ _ (mow j w hw) (hp w hw) (by omega)) (by omega)
  ·exact Int.le_trans (deg_mul_le w _ _ (mow _ w hw) (hq w hw) (by omega)) (by omega)
 have hbh:∀ j w,v<w->w<4->(basI v R (nS*Q) p q j).deg w<=0:=fun j w h1 h2=>by
  unfold basI;split
  ·exact Int.le_trans (deg_mul_le w _ _ (Int.le_of_eq (hi _ w h1 h2)) (lp w h1 h2) (by omega)) (by omega)
  ·exact Int.le_trans (deg_mul_le w _ _ (Int.le_of_eq (hi _ w h1 h2)) (lq w h1 h2) (by omega)) (by omega)
 have hbv:∀ j,j<u*Q->(basI v R (nS*Q) p q j).deg v<=(m+n-k-1:Nat):=fun j hj=>by
  unfold basI;split
  ·rename_i h;have h1:j / Q<nS:=(Nat.div_lt_iff_lt_mul hQ0).2 h;have h2:=mov j;obtain⟨c,hc⟩:∃ c:Nat,c=j / Q:=⟨_,rfl⟩;rw [<- hc] at h1 h2;exact Int.le_trans (deg_mul_le v _ _ (Int.le_of_eq h2) hm (by omega)) (by omega)
  ·rename_i h;have h1:(j - nS*Q) / Q<nT:=(Nat.div_lt_iff_lt_mul hQ0).2 (by rw [huST,Nat.add_mul] at hj;omega);have h2:=mov (j - nS*Q);obtain⟨c,hc⟩:∃ c:Nat,c=(j - nS*Q) / Q:=⟨_,rfl⟩;rw [<- hc] at h1 h2;exact Int.le_trans (deg_mul_le v _ _ (Int.le_of_eq h2) hn (by omega)) (by omega)
 have hd:∀ (w:Nat) (D:Nat),(∀ j,j<u*Q->(basI v R (nS*Q) p q j).deg w<=D)->(S*p+T*q).deg w<=D:=fun w D h=>by
  rw [hST];refine deg_msum (by omega) fun j hj=>?_;have:=deg_mul_le w (c (s j:Rat)) _ (hfr _ w) (h j hj) (by omega);omega
 have hfw:∀ w,w<v->(S*p+T*q).deg w<=(R-1+d:Nat):=fun w hw=>hd w _ fun j _=>hbw j w hw;have hfh:∀ w,v<w->w<4->(S*p+T*q).deg w<=0:=fun w h1 h2=>hd w 0 fun j _=>hbh j w h1 h2;have hfv:(S*p+T*q).deg v<=(m+n-k-1:Nat):=hd v _ hbv
 have hne:∀ (f:Nat->Int) (N:Nat),msum (fun j=>c (f j:Rat)*mo v R j) N=0->∀ j,j<N->f j=0:=by
  intro f N h0 j hj;have h1:=congrArg (fun g=>cf g.l (exE v R j)) h0;simp only [cf_msum] at h1;rw [rsum_one hj fun i hi hij=>?_,cf_cmul] at h1
  ·have e1:cf (mo v R j).l (exE v R j)=1:=by show cf [_] _=_;rw [cf_cons,cf_nil,if_pos rfl];exact Rat.add_zero _
   have e2:cf (0:MP).l (exE v R j)=0:=rfl;rw [e1,e2] at h1;exact Rat.intCast_inj.1 (by rw [Rat.mul_one] at h1;exact h1)
  ·rw [cf_cmul]
   have:cf (mo v R i).l (exE v R j)=0:=by
    show cf [_] _=_;rw [cf_cons,cf_nil,if_neg fun h=>hij (exE_inj hv hR h)];exact Rat.add_zero _
   rw [this];grind
 have hdvf:(S*p+T*q).dv 1:=by
  rw [hST];exact dv_msum fun j _=>dv_mul1 (dv_int 1 _) (hdvB j)
 refine⟨S,T,?_,?_,?_,hfw,hdvf,?_,fun w h1 h2=>hfh w h1 h2⟩
 ·by_cases hS0:S=0
  ·refine .inr fun hT0=>j2 ?_;rcases Nat.lt_or_ge j0 (nS*Q) with h|h
   ·exact hne s _ hS0 j0 h
   ·have hlt2:u*Q=nS*Q+nT*Q:=by rw [huST,Nat.add_mul]
    have:=hne (fun j=>s (nS*Q+j)) (nT*Q) hT0 (j0-nS*Q) (by omega);simp only [show nS*Q+(j0-nS*Q)=j0 by omega] at this;exact this
  ·exact .inl hS0
 ·have:S.deg v<=(nS-1:Nat):=deg_msum (by omega) fun j hj=>by
   have h1:j / Q<nS:=(Nat.div_lt_iff_lt_mul hQ0).2 hj;have h2:=mov j;obtain⟨x,hc⟩:∃ x:Nat,x=j / Q:=⟨_,rfl⟩;rw [<- hc] at h1 h2;have:=deg_mul_le v (c (s j:Rat)) (mo v R j) (hfr _ v) (Int.le_of_eq h2) (by omega);omega
  omega
 ·by_cases hf0:S*p+T*q=0
  ·rw [hf0,deg_zero];omega
  ·rcases Int.lt_or_le k ((S*p+T*q).deg v) with hlt|hle
   ·exfalso;obtain⟨t,ht,e⟩:=degP_mem (fun h=>hf0 (zero_iff.2 h)) (S*p+T*q).v.nat v;have e':t.1.get v=(S*p+T*q).deg v:=e;have tn:=(S*p+T*q).v.nat t ht
    obtain⟨r,r1,r2⟩:=exE_of hv (show 0<R' by omega) tn (fun w hw=>by
     have:=degP_le ht w;have h':degP (S*p+T*q).l w<=(R-1+d:Nat):=hfw w hw;omega) (fun w h1 h2=>by
     have:=degP_le ht w;have h':degP (S*p+T*q).l w<=0:=hfh w h1 h2;have:=Ex.nat_get tn w;omega)
    rw [<- hQ'] at r1 r2;obtain⟨l,hl⟩:∃ l,l=(t.1.get v).toNat:=⟨_,rfl⟩;rw [<- hl] at r2;have hlk:k+1<=l/\l<k+1+(u - 1):=by omega
    have hi:r+Q'*(l-(k+1))<(u-1)*Q':=by
     have:=Nat.mul_le_mul_left Q' (show l-(k+1)+1<=u-1 by omega);rw [Nat.mul_succ,Nat.mul_comm Q' (u-1)] at this;omega
    have h3:=s3 _ hi
    have e3:r+Q'*(l-(k+1))+Q'*(k+1)=r+Q'*l:=by
     rw [Nat.add_assoc,<- Nat.mul_add];congr 2;omega
    simp only [e3,<- r2] at h3
    have h4:cf (S*p+T*q).l t.1=0:=by
     rw [hST,cf_msum,rsum_int (g:=fun j=>s j*M j t.1) fun i _=>by rw [cf_cmul,(hM i _).1,Rat.intCast_mul],h3];rfl
    rw [cf_mem ht] at h4;exact ((S*p+T*q).v.2 t ht).1 h4
   ·exact hle
 ·rw [hST];have:(((u*Q*(X*H):Nat)):Rat)=((u*Q:Nat):Rat)*((X*H:Nat):Rat):=by rw [Rat.natCast_mul]
  rw [this];refine am_msum fun j _=>?_;have h1:=am_mul (c (s j:Rat)) (basI v R (nS*Q) p q j);rw [am_c] at h1;refine Rat.le_trans h1 ?_;rw [Rat.natCast_mul];refine rmul_le ?_ (hamB j) (rabs_nonneg _) Rat.natCast_nonneg;have h2:=s1 j;unfold rabs;split
  ·rw [<- Rat.intCast_neg,<- Rat.intCast_natCast];exact Rat.intCast_le_intCast.2 (by omega)
  ·rw [<- Rat.intCast_natCast];exact Rat.intCast_le_intCast.2 (by omega)
end MP
end Q
end
section
namespace Q
def prm (p:Nat):Prop:=1<p/\∀ m,m∣p->m=1\/m=p
theorem prm_ex:∀ n:Nat,1<n->∃ p,prm p/\p∣n:=fun n=>by
 induction n using Nat.strongRecOn with
|_ n ih =>
  intro h;by_cases hp:prm n
  ·exact⟨n,hp,Nat.dvd_refl n⟩
  ·have:∃ m,m∣n/\m≠1/\m≠n:=by
    rcases Classical.em (∃ m,m∣n/\m≠1/\m≠n) with h'|h'
    ·exact h'
    ·exfalso;apply hp;refine⟨h,fun m hm=>?_⟩;rcases Classical.em (m=1) with h1|h1
     ·exact .inl h1
     ·rcases Classical.em (m=n) with h2|h2
      ·exact .inr h2
      ·exact absurd ⟨m,hm,h1,h2⟩ h'
   obtain⟨m,hm,h1,h2⟩:=this;have hle:=Nat.le_of_dvd (by omega) hm;have h0:m≠0:=fun e=>by rw [e] at hm;have:=Nat.eq_zero_of_zero_dvd hm;omega
   obtain⟨p,hp,hd⟩:=ih m (by omega) (by omega);exact⟨p,hp,Nat.dvd_trans hd hm⟩
theorem prm_dvd {p:Nat} (hp:prm p) {a b:Int} (h:(p:Int)∣a*b):(p:Int)∣a\/(p:Int)∣b:=by
 rcases hp.2 _ (Nat.gcd_dvd_left p a.natAbs) with h1|h1
 ·right;have h2:p∣a.natAbs*b.natAbs:=by rw [<- Int.natAbs_mul];exact Int.ofNat_dvd_left.1 h
  exact Int.ofNat_dvd_left.2 (Nat.Coprime.dvd_of_dvd_mul_left h1 h2)
 ·left;have:=Nat.gcd_dvd_right p a.natAbs;rw [h1] at this;exact Int.ofNat_dvd_left.2 this
namespace MP
theorem c_mul_l (r:Rat) (p:MP):c r*p=⟨scaleP p.l r,p.v.scale r⟩:=ext' fun x=>by
 rw [ev_mul,ev_c];have:=Q.ev_scale x p.l r;show r*Q.ev x p.l=Q.ev x (scaleP p.l r);rw [this];grind
theorem am_cmul (r:Rat) (p:MP):(c r*p).am=rabs r*p.am:=by
 rw [c_mul_l];show asum (scaleP p.l r)=rabs r*asum p.l;unfold scaleP;split
 ·rename_i h;rw [h];show (0:Rat)=_;have e:rabs 0=0:=by decide
  rw [e];grind
 ·induction p.l with
 |nil=>simp only [List.map_nil,asum];grind
 |cons t l ih=>simp only [List.map_cons,asum,rabs_mul] at *;grind
theorem cmul_mem {r:Rat} {p:MP} {t:Trm} (h:t∈(c r*p).l):∃ s∈p.l,t=(s.1,s.2*r):=by
 rw [c_mul_l] at h;exact scale_mem h
theorem dv_clear {D:Nat} {p:MP} (h:p.dv D):(c (D:Rat)*p).dv 1:=fun t ht=>by
 obtain⟨s,hs,rfl⟩:=cmul_mem ht;obtain⟨k,hk⟩:=h s hs;exact⟨k,by show s.2*D*((1:Nat):Rat)=k;rw [hk,show ((1:Nat):Rat)=1 from rfl,Rat.mul_one]⟩
theorem nat_ne {D:Nat} (h:0<D):(D:Rat)≠0:=fun h'=>by
 have:(D:Rat)=((0:Nat):Rat):=h';have:=Rat.natCast_inj.1 this;omega
theorem dv_unclear {D:Nat} (h0:0<D) {p:MP} (h:(c (D:Rat)*p).dv 1):p.dv D:=fun t ht=>by
 have e:cf (c (D:Rat)*p).l t.1=D*t.2:=by rw [cf_cmul,cf_mem ht]
 obtain⟨z,hz⟩:=int_of_dv (cf_dv h t.1);exact⟨z,by rw [<- hz,e];grind⟩
def zdv (p:Nat) (P:MP):Prop:=∃ P':MP,P'.dv 1/\P=c (p:Rat)*P'
theorem zdv_add {p:Nat} {a b:MP} (h:zdv p a) (h':zdv p b):zdv p (a+b):=by
 obtain⟨x,hx,rfl⟩:=h;obtain⟨y,hy,rfl⟩:=h';exact⟨x+y,dv_add hx hy,by grind⟩
theorem zdv_sub {p:Nat} {a b:MP} (h:zdv p a) (h':zdv p b):zdv p (a-b):=by
 obtain⟨x,hx,rfl⟩:=h;obtain⟨y,hy,rfl⟩:=h';exact⟨x - y,dv_sub hx hy,by grind⟩
theorem zdv_mul {p:Nat} {a b:MP} (h:zdv p a) (h':b.dv 1):zdv p (a*b):=by
 obtain⟨x,hx,rfl⟩:=h;exact⟨x*b,dv_mul1 hx h',by grind⟩
theorem zdv_mul' {p:Nat} {a b:MP} (h:zdv p b) (h':a.dv 1):zdv p (a*b):=by
 obtain⟨x,hx,rfl⟩:=h;exact⟨a*x,dv_mul1 h' hx,by grind⟩
theorem zdv_zero (p:Nat):zdv p 0:=⟨0,dv_zero 1,by grind⟩
theorem Lf_part (f:Ex->Rat) (b:Trm->Bool) (l:List Trm):Lf f l=Lf f (l.filter b)+Lf f (l.filter fun t=>!b t):=by
 induction l with
|nil=>simp only [List.filter_nil,Lf];grind
|cons t l ih=>cases hb:b t <;> simp only [List.filter_cons,hb,Lf,ih,Bool.not_true,Bool.not_false,if_true,if_false,Bool.false_eq_true] <;> grind
def sel (b:Trm->Bool) (p:MP):MP:=⟨p.l.filter b,p.v.sublist List.filter_sublist⟩
theorem sel_add (b:Trm->Bool) (p:MP):p=sel b p+sel (fun t=>!b t) p:=eqvM fun f=>by rw [lf_add];exact Lf_part f b p.l
theorem sel_dv {D:Nat} {b:Trm->Bool} {p:MP} (h:p.dv D):(sel b p).dv D:=fun t ht=>h t (List.mem_filter.1 ht).1
def mulB (p:Nat) (t:Trm):Bool:=decide (t.2.num % (p:Int)=0)
theorem sel_zdv {p:Nat} (hp:0<p) {P:MP} (h:P.dv 1):zdv p (sel (mulB p) P):=by
 refine⟨c ((p:Rat)⁻¹)*sel (mulB p) P,fun t ht=>?_,?_⟩
 ·obtain⟨s,hs,rfl⟩:=cmul_mem ht;have hs':s∈P.l.filter (mulB p):=hs;obtain⟨h1,h2⟩:=List.mem_filter.1 hs';obtain⟨z,hz⟩:=int_of_dv (h s h1);have h3:s.2.num % (p:Int)=0:=of_decide_eq_true h2;rw [hz] at h3;have h3:z % (p:Int)=0:=h3;obtain⟨k,rfl⟩:=Int.dvd_of_emod_eq_zero h3;refine⟨k,?_⟩;show s.2*(p:Rat)⁻¹*((1:Nat):Rat)=k;rw [hz,Rat.intCast_mul,Rat.intCast_natCast,show ((1:Nat):Rat)=1 from rfl];have:=Rat.mul_inv_cancel _ (nat_ne hp);grind
 ·have e:c (p:Rat)*c ((p:Rat)⁻¹)=1:=by rw [c_mul,Rat.mul_inv_cancel _ (nat_ne hp)];rfl
  grind
theorem head_cf {G H:MP} {s t:Trm} {l r:List Trm} (hG:G.l=s::l) (hH:H.l=t::r):cf (G*H).l (s.1.add t.1)=s.2*t.2:=by
 have h1:cf (G*H).l (s.1.add t.1)=cf (prods G.l H.l) (s.1.add t.1):=(canon_eqv (G.v.nat.prods H.v.nat)).cf _;rw [h1,hG,hH];exact cf_prods_head (by rw [<- hG];exact G.v.1) (by rw [<- hH];exact H.v.1)
theorem zdv_prime {p:Nat} (hp:prm p) {G H:MP} (iG:G.dv 1) (iH:H.dv 1) (h:zdv p (G*H)):zdv p G\/zdv p H:=by
 have hp0:0<p:=by have:=hp.1;omega
 have eG:=sel_add (mulB p) G;have eH:=sel_add (mulB p) H;have zG:=sel_zdv hp0 iG;have zH:=sel_zdv hp0 iH;obtain⟨G2,hG2⟩:∃ g,g=sel (fun t=>!mulB p t) G:=⟨_,rfl⟩;obtain⟨H2,hH2⟩:∃ g,g=sel (fun t=>!mulB p t) H:=⟨_,rfl⟩;have iG2:G2.dv 1:=by rw [hG2];exact sel_dv iG
 have iH2:H2.dv 1:=by rw [hH2];exact sel_dv iH
 rw [<- hG2] at eG;rw [<- hH2] at eH
 cases hGl:G2.l with
|nil=>left;rw [eG,zero_iff.2 hGl];exact zdv_add zG (zdv_zero p)
|cons s l =>
  cases hHl:H2.l with
 |nil=>right;rw [eH,zero_iff.2 hHl];exact zdv_add zH (zdv_zero p)
 |cons t r =>
   exfalso
   have hz:zdv p (G2*H2):=by
    have e:G2*H2=G*H-(sel (mulB p) G*H+G2*sel (mulB p) H):=by grind
    rw [e];exact zdv_sub h (zdv_add (zdv_mul zG iH) (zdv_mul' zH iG2))
   obtain⟨P',iP,eP⟩:=hz;have h1:=head_cf hGl hHl;rw [eP,cf_cmul] at h1;obtain⟨z,hz⟩:=int_of_dv (cf_dv iP (s.1.add t.1));obtain⟨x,hx⟩:=int_of_dv (iG2 s (by rw [hGl];simp));obtain⟨y,hy⟩:=int_of_dv (iH2 t (by rw [hHl];simp));rw [hz,hx,hy,<- Rat.intCast_natCast,<- Rat.intCast_mul,<- Rat.intCast_mul] at h1;have h2:=Rat.intCast_inj.1 h1;have hs0:s∈G2.l:=by rw [hGl];simp
   have ht0:t∈H2.l:=by rw [hHl];simp
   rw [hG2] at hs0;rw [hH2] at ht0;have hs:s∈G.l.filter (fun t=>!mulB p t):=hs0;have ht:t∈H.l.filter (fun t=>!mulB p t):=ht0;have hs':=(List.mem_filter.1 hs).2;have ht':=(List.mem_filter.1 ht).2;simp only [mulB,Bool.not_eq_true',decide_eq_false_iff_not,hx,hy] at hs' ht';rcases prm_dvd hp ⟨z,h2.symm⟩ with h|h
   ·exact hs' (Int.emod_eq_zero_of_dvd h)
   ·exact ht' (Int.emod_eq_zero_of_dvd h)
def pz (G:MP):Prop:=G.dv 1/\∀ p,prm p->¬ zdv p G
theorem one_le_nat {n:Nat} (h:1<=n):(1:Rat)<=(n:Rat):=by
 have e:(1:Rat)=((1:Nat):Rat):=rfl;rw [e];exact Rat.natCast_le_natCast.2 h
theorem rabs_int {z:Int} (h:z≠0):(1:Rat)<=rabs (z:Rat):=by
 unfold rabs;have e:(1:Rat)=((1:Int):Rat):=rfl;split
 ·rename_i h';have e0:(0:Rat)=((0:Int):Rat):=rfl;rw [e0] at h';have:z<0:=Rat.intCast_lt_intCast.1 h';rw [e,<- Rat.intCast_neg];exact Rat.intCast_le_intCast.2 (by omega)
 ·rename_i h';have e0:(0:Rat)=((0:Int):Rat):=rfl;rw [e0] at h';have:¬ z<0:=fun hz=>h' (Rat.intCast_lt_intCast.2 hz);rw [e];exact Rat.intCast_le_intCast.2 (by omega)
theorem head_ex {p:MP} (h:p≠0):∃ t l,p.l=t::l:=by
 cases e:p.l with
|nil=>exact absurd (zero_iff.2 e) h
|cons t l=>exact⟨t,l,rfl⟩
theorem am_ge_one {p:MP} (h:p.dv 1) (h0:p≠0):1<=p.am:=by
 obtain⟨t,l,e⟩:=head_ex h0;have ht:t∈p.l:=by rw [e];simp
 obtain⟨z,hz⟩:=int_of_dv (h t ht);have h1:=asum_mem ht
 have h2:(1:Rat)<=rabs t.2:=by
  rw [hz];refine rabs_int fun e0=>(p.v.2 t ht).1 ?_;rw [hz,e0];rfl
 show 1<=asum p.l;grind
theorem c_ne {r:Rat} (h:r≠0):c r≠0:=unit_ne (c_unit h)
theorem pz_ex:∀ (k:Nat) (P:MP),P≠0->P.dv 1->P.am<=(2:Rat) ^ k->∃ r:Rat,r≠0/\pz (c r*P)
|k,P,h0,h1,h2=>by
  by_cases hz:∃ p,prm p/\zdv p P
  ·obtain⟨p,hp,P',i',e⟩:=hz;have hp0:0<p:=by have:=hp.1;omega
   have h0':P'≠0:=fun e'=>h0 (by rw [e,e'];grind)
   have ha:(p:Rat)*P'.am=P.am:=by
    rw [e,am_cmul,rabs_of_pos (by have:(0:Rat)<=(p:Rat):=Rat.natCast_nonneg;exact this)]
   have hg:=am_ge_one i' h0'
   have hp2:(2:Rat)<=(p:Rat):=by
    have e2:(2:Rat)=((2:Nat):Rat):=rfl;rw [e2];exact Rat.natCast_le_natCast.2 hp.1
   have hm:(2:Rat)*P'.am<=(p:Rat)*P'.am:=Rat.mul_le_mul_of_nonneg_right hp2 (by grind)
   cases k with
  |zero=>exfalso;rw [Rat.pow_zero] at h2;grind
  |succ k =>
    rw [Rat.pow_succ] at h2;obtain⟨r,hr,hpz⟩:=pz_ex k P' h0' i' (by grind);refine⟨r*(p:Rat)⁻¹,rmul_ne hr (fun h=>nat_ne hp0 (by have:=Rat.mul_inv_cancel _ (nat_ne hp0);rw [h] at this;grind)),?_⟩
    have e2:c (r*(p:Rat)⁻¹)*P=c r*P':=by
     rw [e,<- c_mul];have e:c ((p:Rat)⁻¹)*c (p:Rat)=1:=by rw [c_mul,Rat.inv_mul_cancel _ (nat_ne hp0)];rfl
     grind
    rw [e2];exact hpz
  ·refine⟨1,by decide,?_⟩;have e:c 1*P=P:=by rw [c_one];grind
   rw [e];exact⟨h1,fun p hp h=>hz ⟨p,hp,h⟩⟩
theorem dv_ex:∀ l:List Trm,∃ D,0<D/\∀ t∈l,Dv D t.2
|[]=>⟨1,by omega,fun _ h=>by cases h⟩
|t::l=>by
  obtain⟨D,h1,h2⟩:=dv_ex l
  have ht:Dv t.2.den t.2:=⟨t.2.num,by
   have h1:(t.2.den:Rat)≠0:=nat_ne t.2.den_pos;have h2:=Rat.num_divInt_den t.2;rw [Rat.divInt_eq_div,Rat.intCast_natCast] at h2;have h3:(t.2.num:Rat) / (t.2.den:Rat)*(t.2.den:Rat)=t.2.num:=Rat.div_mul_cancel h1
   rwa [h2] at h3⟩
  refine⟨t.2.den*D,Nat.mul_pos t.2.den_pos h1,fun s hs=>?_⟩;rcases List.mem_cons.1 hs with rfl|hs
  ·exact ht.dvd (Nat.dvd_mul_right _ _)
  ·exact (h2 s hs).dvd (Nat.dvd_mul_left _ _)
theorem two_pow_ge (r:Rat):∃ k:Nat,r<=(2:Rat) ^ k:=by
 have hn:∀ n:Nat,(n:Rat)<=(2:Rat) ^ n:=fun n=>by
  induction n with
 |zero=>rw [Rat.pow_zero];decide
 |succ n ih =>
   have h1:(1:Rat)<=(2:Rat) ^ n:=by have:=(pow_ge (T:=2) (by decide) (Nat.zero_le n)).2;rwa [Rat.pow_zero] at this
   rw [Rat.pow_succ,Rat.natCast_add];have e:((1:Nat):Rat)=1:=rfl;rw [e];grind
 refine⟨r.num.natAbs,Rat.le_trans ?_ (hn _)⟩
 have h1:r*(r.den:Rat)=r.num:=by
  have h1:(r.den:Rat)≠0:=nat_ne r.den_pos;have h2:=Rat.num_divInt_den r;rw [Rat.divInt_eq_div,Rat.intCast_natCast] at h2;have h3:(r.num:Rat) / (r.den:Rat)*(r.den:Rat)=r.num:=Rat.div_mul_cancel h1;rwa [h2] at h3
 rcases rlt_or_le r with hr|hr
 ·have:(0:Rat)<=(r.num.natAbs:Rat):=Rat.natCast_nonneg;grind
 ·have h4:(1:Rat)<=(r.den:Rat):=by
   have e:(1:Rat)=((1:Nat):Rat):=rfl;rw [e];exact Rat.natCast_le_natCast.2 r.den_pos
  have h5:r*1<=r*(r.den:Rat):=Rat.mul_le_mul_of_nonneg_left h4 hr;have h6:(r.num:Rat)<=(r.num.natAbs:Rat):=by rw [<- Rat.intCast_natCast];exact Rat.intCast_le_intCast.2 (by omega)
  grind
theorem pz_of {P:MP} (h:P≠0):∃ r:Rat,r≠0/\pz (c r*P):=by
 obtain⟨D,h1,h2⟩:=dv_ex P.l;obtain⟨k,hk⟩:=two_pow_ge (c (D:Rat)*P).am;obtain⟨r,hr,hp⟩:=pz_ex k (c (D:Rat)*P) (mul_ne (c_ne (nat_ne h1)) h) (dv_clear h2) hk;refine⟨r*D,rmul_ne hr (nat_ne h1),?_⟩;rw [<- c_mul];have e:c r*c (D:Rat)*P=c r*(c (D:Rat)*P):=by grind
 rw [e];exact hp
theorem gaussZ {F G H:MP} (iF:F.dv 1) (hG:pz G) (e:F=G*H):H.dv 1:=by
 obtain⟨D,h1,h2⟩:=dv_ex H.l
 have key:∀ D:Nat,0<D->H.dv D->H.dv 1:=fun D=>by
  induction D using Nat.strongRecOn with
 |_ D ih =>
   intro h1 h2;rcases Nat.eq_or_lt_of_le (show 1<=D by omega) with e1|hlt
   ·rw [<- e1] at h2;exact h2
   ·obtain⟨p,hp,D',rfl⟩:=prm_ex D hlt;have hp1:=hp.1;have hD':0<D':=Nat.pos_of_mul_pos_left h1
    have hz:zdv p (G*(c ((p*D':Nat):Rat)*H)):=⟨c (D':Rat)*F,dv_mul1 (dv_c ⟨D',by rw [show ((1:Nat):Rat)=1 from rfl,Rat.mul_one,Rat.intCast_natCast]⟩) iF,by
     rw [e,Rat.natCast_mul,<- c_mul];grind⟩
    rcases zdv_prime hp hG.1 (dv_clear h2) hz with h|h
    ·exact absurd h (hG.2 p hp)
    ·obtain⟨K,iK,eK⟩:=h
     have:c (D':Rat)*H=K:=cancel (c_ne (nat_ne (by omega:0<p))) (by
      rw [<- eK,Rat.natCast_mul,<- c_mul];grind)
     refine ih D' ?_ hD' (dv_unclear hD' (by rw [this];exact iK));have:=Nat.mul_le_mul_right D' hp1;omega
 exact key D h1 h2
def at' (w:Nat) (r:Rat) (p:MP):MP:=⟨evalP p.l w r,Vld.eval _ _ _⟩
theorem ev_at (x:Pt) (w:Nat) (r:Rat) (p:MP):(at' w r p).ev x=p.ev (x.put w r):=Q.ev_eval x p.v.nat w r
theorem at_add (w:Nat) (r:Rat) (p q:MP):at' w r (p+q)=at' w r p+at' w r q:=ext' fun x=>by rw [ev_at,ev_add,ev_add,ev_at,ev_at]
theorem at_mul (w:Nat) (r:Rat) (p q:MP):at' w r (p*q)=at' w r p*at' w r q:=ext' fun x=>by rw [ev_at,ev_mul,ev_mul,ev_at,ev_at]
theorem at_sub (w:Nat) (r:Rat) (p q:MP):at' w r (p-q)=at' w r p-at' w r q:=ext' fun x=>by rw [ev_at,ev_sub,ev_sub,ev_at,ev_at]
theorem at_c (w:Nat) (r s:Rat):at' w r (c s)=c s:=ext' fun x=>by rw [ev_at,ev_c,ev_c]
theorem at_fr {w:Nat} (r:Rat) {p:MP} (h:p.fr w):at' w r p=p:=ext' fun x=>by
 rw [ev_at];have e:=split w p (N:=1) (by have h':p.deg w<=0:=h;omega);have h1:∀ y:Pt,p.ev y=(p.co w 0).ev y:=fun y=>by rw [co_fr0 h]
 show Lf (mon (x.put w r)) p.l=Lf (mon x) p.l;refine Lf_congr fun t ht=>?_;rw [mon_put,fr_get h ht];have e2:t.1.put w 0=t.1:=by rw [<- fr_get h ht,Ex.put_get]
 rw [e2];simp [Rat.pow_zero]
theorem fr_at (w:Nat) (r:Rat) (p:MP):(at' w r p).fr w:=evalP_deg _ _ _
theorem deg_at {w:Nat} (r:Rat) (p:MP) {u d:Nat} (hw:w<4) (hu:u<4) (h:p.deg u<=d):(at' w r p).deg u<=d:=by
 have:∀ t∈(at' w r p).l,t.1.get u<=d:=by
  refine canon_ex (P:=fun e=>e.get u<=d) fun t ht=>?_;obtain⟨s,hs,rfl⟩:=List.mem_map.1 ht;have h1:=degP_le hs u;have h':degP p.l u<=d:=h;by_cases hc:w=u
  ·subst hc;show (s.1.put w 0).get w<=d;rw [Ex.get_put];omega
  ·show (s.1.put w 0).get u<=d;rw [Ex.get_put_ne _ hw hu hc];omega
 rcases (foldl_max (fun t=>t.1.get u) (at' w r p).l (-1)).2.2 with e|⟨t,ht,e⟩
 ·show degP _ u<=_;unfold degP;rw [e];omega
 ·show degP _ u<=_;unfold degP;rw [<- e];exact this t ht
theorem lo_at {n:Nat} (hn:n<4) {p:MP} (h:p.lo (n+1)) (r:Rat):(at' n r p).lo n:=fun w h1 h2=>by
 rcases Nat.eq_or_lt_of_le h1 with e|hlt
 ·subst e;exact fr_at _ _ _
 ·have h3:p.deg w<=(0:Nat):=h w hlt h2;exact deg_at r p hn h2 h3
theorem dv_at {D:Nat} {p:MP} (h:p.dv D) (w:Nat) (i:Int):(at' w (i:Rat) p).dv D:=canon_dv fun t ht=>by
 obtain⟨s,hs,rfl⟩:=List.mem_map.1 ht
 have h1:Dv 1 ((i:Rat) ^ (s.1.get w).toNat):=by
  induction (s.1.get w).toNat with
 |zero=>rw [Rat.pow_zero];exact Dv.int 1 1
 |succ n ih=>rw [Rat.pow_succ];exact ih.mul (Dv.int 1 i)
 have:=(h s hs).mul h1;rw [Nat.mul_one] at this;exact this
theorem am_at {p:MP} {w d i T:Nat} (hd:p.deg w<=d) (hi:i<=T) (hT:1<=T):(at' w ((i:Nat):Rat) p).am<=p.am*(T:Rat) ^ d:=by
 have h1:=canon_asum (evalL p.l w (i:Rat));refine Rat.le_trans h1 ?_
 have h2:∀ t∈p.l,rabs (t.2*(i:Rat) ^ (t.1.get w).toNat)<=rabs t.2*(T:Rat) ^ d:=fun t ht=>by
  rw [rabs_mul]
  refine rmul_le Rat.le_refl ?_ (rabs_nonneg _) (by
   exact (pow_ge (T:=(T:Rat)) (one_le_nat hT) (Nat.le_refl d)).1)
  have hk:(t.1.get w).toNat<=d:=by have:=degP_le ht w;have h':degP p.l w<=d:=hd;omega
  have h3:∀ k:Nat,0<=(i:Rat) ^ k/\(i:Rat) ^ k<=(T:Rat) ^ k:=fun k=>by
   induction k with
  |zero=>rw [Rat.pow_zero,Rat.pow_zero];exact⟨by decide,Rat.le_refl⟩
  |succ k ih =>
    rw [Rat.pow_succ,Rat.pow_succ];have hiT:(i:Rat)<=(T:Rat):=Rat.natCast_le_natCast.2 hi;have hi0:(0:Rat)<=(i:Rat):=Rat.natCast_nonneg;exact⟨Rat.mul_nonneg ih.1 hi0,rmul_le ih.2 hiT ih.1 (Rat.le_trans hi0 hiT)⟩
  rw [rabs_of_pos (h3 _).1];exact Rat.le_trans (h3 _).2 (pow_ge (T:=(T:Rat)) (one_le_nat hT) hk).2
 exact asum_map_mul h2
def lin (w:Nat) (r:Rat):MP:=xk w 1-c r
theorem fr_c (r:Rat) (w:Nat):(c r).fr w:=by
 by_cases h:r=0
 ·rw [h];exact fr_zero w
 ·exact fr_dvd one_ne (c_unit h) (fr_one w)
theorem deg_lin (w:Nat) (r:Rat):(lin w r).deg w=1:=by
 have h1:(lin w r).co w 1=1:=by rw [lin,co_sub,co_xk_self,if_pos rfl,co_frs (fr_c r w) (by omega)];grind
 have h2:=deg_sub_le w (xk w 1) (c r);rw [deg_xk] at h2;have h3:(c r).deg w<=0:=fr_c r w;rcases Int.lt_or_le ((lin w r).deg w) 1 with h|h
 ·exfalso;rw [co_above (by omega)] at h1;exact one_ne h1.symm
 ·have:(lin w r).deg w<=max ((1:Nat):Int) ((c r).deg w):=h2;omega
theorem lin_ne (w:Nat) (r:Rat):lin w r≠0:=fun h=>by have:=deg_lin w r;rw [h,deg_zero] at this;omega
theorem ev_lin (x:Pt) (w:Nat) (r:Rat):(lin w r).ev x=x.get w-r:=by rw [lin,ev_sub,ev_xk,ev_c,Rat.pow_succ,Rat.pow_zero];grind
theorem xk_lin (w:Nat) (r:Rat):∀ k:Nat,lin w r∣xk w k-c (r ^ k)
|0=>⟨0,ext' fun x=>by rw [ev_sub,ev_xk,ev_c,ev_mul,ev_zero,Rat.pow_zero,Rat.pow_zero];grind⟩
|k+1=>by
  obtain⟨q,hq⟩:=xk_lin w r k;refine⟨xk w 1*q+c (r ^ k),ext' fun x=>?_⟩;have:=congrArg (MP.ev x) hq;simp only [ev_sub,ev_mul,ev_add,ev_xk,ev_c,ev_lin,Rat.pow_succ,Rat.pow_zero] at *;grind
theorem lin_at (w:Nat) (r:Rat) (p:MP):lin w r∣p-at' w r p:=by
 obtain⟨N,hN⟩:∃ N,N=(p.deg w).toNat+1:=⟨_,rfl⟩;have e:=split w p (N:=N) (by have:=deg_ge w p;omega)
 have hat:∀ (f:Nat->MP) n,at' w r (msum f n)=msum (fun i=>at' w r (f i)) n:=fun f n=>by
  induction n with
 |zero=>rfl
 |succ n ih=>rw [msum,at_add,ih];rfl
 have hx:∀ k,at' w r (xk w k)=c (r ^ k):=fun k=>ext' fun x=>by
  rw [ev_at,ev_xk,ev_c];have:(x.put w r).get w=r:=by rcases w with _|_|_|w <;> rfl
  rw [this]
 have e2:p-at' w r p=msum (fun n=>p.co w n*(xk w n-c (r ^ n))) N:=by
  have h1:at' w r p=msum (fun n=>p.co w n*c (r ^ n)) N:=by
   have h2:=congrArg (at' w r) e;rw [hat] at h2;rw [h2];exact msum_congr fun i _=>by rw [at_mul,at_fr r (co_fr _ _ _),hx]
  rw [h1];have h3:=sub_eq (msum (fun n=>p.co w n*xk w n) N) (msum (fun n=>p.co w n*c (r ^ n)) N);rw [<- e] at h3;rw [h3,<- msum_neg];have h4:p+msum (fun i=>-(p.co w i*c (r ^ i))) N=msum (fun n=>p.co w n*xk w n) N+msum (fun i=>-(p.co w i*c (r ^ i))) N:=by rw [<- e]
  rw [h4,<- msum_add];exact msum_congr fun i _=>by grind
 rw [e2];exact dvd_msum fun i _=>dvd_mul_of' (xk_lin w r i) _
theorem at_lin (w:Nat) (r s:Rat):at' w s (lin w r)=c (s-r):=ext' fun x=>by
 rw [ev_at,ev_lin,ev_c];have:(x.put w s).get w=s:=by rcases w with _|_|_|w <;> rfl
 rw [this]
theorem am_lin {w i T:Nat} (h:i<=T):(lin w ((i:Nat):Rat)).am<=((T+1:Nat):Rat):=by
 have h1:=am_sub (xk w 1) (c ((i:Nat):Rat));rw [am_c,rabs_of_pos Rat.natCast_nonneg] at h1;have h2:(xk w 1).am=1:=by show rabs 1+0=(1:Rat);rw [rabs_one];decide +kernel
 rw [h2] at h1;have h3:((i:Nat):Rat)<=(T:Rat):=Rat.natCast_le_natCast.2 h;have e:((1:Nat):Rat)=1:=rfl;show (xk w 1-c ((i:Nat):Rat)).am<=_;rw [Rat.natCast_add,e];grind
theorem newton {w T:Nat} {M:Rat}:∀ (k:Nat) (M:Rat) (G:MP),0<=M->G.deg w<=k->∀ L:List Nat,L.length=k+1->L.Nodup->(∀ i∈L,i<=T/\(at' w ((i:Nat):Rat) G).am<=M)->G.am<=((2*T+3:Nat):Rat) ^ k*M
|0,M,G,hM,hd,L,hL,_,h=>by
  obtain⟨i,rfl⟩:=List.length_eq_one_iff.1 hL;have:=(h i (by simp)).2;rw [at_fr _ hd] at this;rw [Rat.pow_zero];grind
|k+1,M,G,hM,hd,L,hL,hn,h=>by
  cases L with
 |nil=>simp at hL
 |cons i L =>
   obtain⟨G1,e⟩:=lin_at w ((i:Nat):Rat) G;have hi:=h i (by simp);have hnd:=List.nodup_cons.1 hn;have eG:G=lin w ((i:Nat):Rat)*G1+at' w ((i:Nat):Rat) G:=by grind
   have hd1:G1.deg w<=k:=by
    by_cases h0:G1=0
    ·rw [h0,deg_zero];omega
    ·have h1:=deg_sub_le w G (at' w ((i:Nat):Rat) G);rw [e,deg_mul (lin_ne _ _) h0,deg_lin] at h1;have h2:(at' w ((i:Nat):Rat) G).deg w<=0:=fr_at _ _ _;omega
   have hv:∀ j∈L,j<=T/\(at' w ((j:Nat):Rat) G1).am<=2*M:=fun j hj=>by
    have hj':=h j (by simp [hj]);refine⟨hj'.1,?_⟩;have h1:=congrArg (at' w ((j:Nat):Rat)) e;rw [at_sub,at_mul,at_lin,at_fr _ (fr_at w _ G)] at h1;have h2:=am_sub (at' w ((j:Nat):Rat) G) (at' w ((i:Nat):Rat) G);rw [h1,am_cmul] at h2
    have hne:(j:Int)-i≠0:=fun hh=>by
     have hji:j=i:=by omega
     exact hnd.1 (by rw [<- hji];exact hj)
    have h3:=rabs_int hne
    have e3:((((j:Int)-i:Int)):Rat)=((j:Nat):Rat)-((i:Nat):Rat):=by
     rw [Rat.intCast_sub,Rat.intCast_natCast,Rat.intCast_natCast]
    rw [e3] at h3;have h4:=am_nonneg (at' w ((j:Nat):Rat) G1);have h5:1*(at' w ((j:Nat):Rat) G1).am<=rabs (((j:Nat):Rat)-((i:Nat):Rat))*(at' w ((j:Nat):Rat) G1).am:=Rat.mul_le_mul_of_nonneg_right h3 h4;have h6:=hi.2;have h7:=hj'.2;grind
   have ih:=newton (w:=w) (T:=T) (M:=M) k (2*M) G1 (by grind) hd1 L (by simpa using hL) hnd.2 hv;obtain⟨P,hP⟩:∃ P,P=((2*T+3:Nat):Rat) ^ k:=⟨_,rfl⟩
   have hP1:1<=P:=by
    have:=(pow_ge (T:=((2*T+3:Nat):Rat)) (one_le_nat (by omega)) (Nat.zero_le k)).2;rw [Rat.pow_zero] at this;rw [hP];exact this
   have h1:=am_add (lin w ((i:Nat):Rat)*G1) (at' w ((i:Nat):Rat) G);rw [<- eG] at h1;have h2:=am_mul (lin w ((i:Nat):Rat)) G1;have h3:=am_lin (w:=w) hi.1;have h4:=am_nonneg G1;have h5:(lin w ((i:Nat):Rat)).am*G1.am<=((T+1:Nat):Rat)*(P*(2*M)):=rmul_le h3 (by rw [hP];exact ih) (am_nonneg _) (Rat.mul_nonneg (by grind) (by grind));have h6:=hi.2;rw [Rat.pow_succ,<- hP]
   have e7:((2*T+3:Nat):Rat)=2*((T+1:Nat):Rat)+1:=by
    have:2*T+3=2*(T+1)+1:=by omega
    rw [this,Rat.natCast_add,Rat.natCast_mul];rfl
   rw [e7];have h8:M<=P*M:=by have:=Rat.mul_le_mul_of_nonneg_right hP1 hM;grind
   grind
theorem roots_le {w:Nat}:∀ (L:List Nat) (F:MP),F≠0->L.Nodup->(∀ i∈L,at' w ((i:Nat):Rat) F=0)->(L.length:Int)<=F.deg w
|[],F,h0,_,_=>by have:=deg_pos h0 w;simpa using this
|i::L,F,h0,hn,h=>by
  have hnd:=List.nodup_cons.1 hn;obtain⟨F1,e⟩:=lin_at w ((i:Nat):Rat) F;rw [h i (by simp)] at e;have e:F=lin w ((i:Nat):Rat)*F1:=by grind
  have h1:F1≠0:=fun h1=>h0 (by rw [e,h1];grind)
  have ih:=roots_le L F1 h1 hnd.2 fun j hj=>by
   have h2:=h j (by simp [hj]);rw [e,at_mul,at_lin] at h2;rcases mul_eq_zero.1 h2 with h3|h3
   ·exfalso;by_cases hji:((j:Nat):Rat)-((i:Nat):Rat)=0
    ·have:((j:Nat):Rat)=((i:Nat):Rat):=by grind
     exact hnd.1 (by rw [<- Rat.natCast_inj.1 this];exact hj)
    ·exact c_ne hji h3
   ·exact h3
  rw [e,deg_mul (lin_ne _ _) h1,deg_lin];simp only [List.length_cons];omega
instance:DecidableEq MP:=fun p q=>decidable_of_iff (p.l=q.l) ⟨MP.eq_of,fun h=>by rw [h]⟩
theorem rle_of_eq {a b:Rat} (h:a=b):a<=b:=by rw [h];exact Rat.le_refl
def facK (d:Nat->Nat):Nat->Nat
|0=>1
|n+1=>(4*d n+3) ^ d n*(2*d n+1) ^ d n*facK d n
theorem filter_two {α:Type} (p:α->Bool) (l:List α):(l.filter p).length+(l.filter fun x=>!p x).length=l.length:=by
 induction l with
|nil=>rfl
|cons x l ih=>cases h:p x <;> simp [List.filter_cons,h] <;> omega
theorem fac (d:Nat->Nat):∀ (n:Nat),n<=4->∀ F G H:MP,F=G*H->F≠0->G.dv 1->H.dv 1->F.lo n->(∀ w,w<n->F.deg w<=d w)->G.am<=(facK d n:Rat)*F.am
|0,_,F,G,H,e,h0,iG,iH,lF,_=>by
  have lG:=lo_dvd h0 (by rw [e];exact dvd_mul_right _ _) lF;have lH:=lo_dvd h0 (by rw [e];exact dvd_mul_left _ _) lF;obtain⟨g,rfl⟩:=const_of lG;obtain⟨h,rfl⟩:=const_of lH;have hh:c h≠0:=fun h'=>h0 (by rw [e,h'];grind);have h1:=am_ge_one iH hh;rw [e,am_cmul,am_c,show ((facK d 0:Nat):Rat)=1 from rfl];have:=Rat.mul_le_mul_of_nonneg_left h1 (rabs_nonneg g);grind
|n+1,hn,F,G,H,e,h0,iG,iH,lF,hd=>by
  obtain⟨L,hL⟩:∃ L:List Nat,L=(List.range (2*d n+1)).filter (fun i=>decide (at' n ((i:Nat):Rat) F≠0)):=⟨_,rfl⟩
  have hz:=roots_le (w:=n) ((List.range (2*d n+1)).filter (fun i=>!decide (at' n ((i:Nat):Rat) F≠0))) F h0 (List.nodup_range.sublist List.filter_sublist) fun i hi=>by
   have:=(List.mem_filter.1 hi).2;simpa using this
  have hlen:=filter_two (fun i:Nat=>decide (at' n ((i:Nat):Rat) F≠0)) (List.range (2*d n+1));rw [List.length_range,<- hL] at hlen;have hdn:=hd n (by omega);have hLn:L.Nodup:=by rw [hL];exact List.nodup_range.sublist List.filter_sublist
  have hT:(1:Nat)<=2*d n+1:=by omega
  have hG0:G≠0:=fun h=>h0 (by rw [e,h];grind);have hGd:G.deg n<=d n:=Int.le_trans (dvd_deg h0 (by rw [e];exact dvd_mul_right _ _) n) hdn
  have hval:∀ i∈L,i<=2*d n/\(at' n ((i:Nat):Rat) G).am<=(facK d n:Rat)*(F.am*((2*d n+1:Nat):Rat) ^ d n):=fun i hi=>by
   rw [hL] at hi;obtain⟨h1,h2⟩:=List.mem_filter.1 hi;have h1:=List.mem_range.1 h1;have h2:at' n ((i:Nat):Rat) F≠0:=of_decide_eq_true h2;refine⟨by omega,?_⟩;have h3:=fac d n (by omega) _ _ _ (by rw [<- at_mul,<- e]:at' n ((i:Nat):Rat) F=at' n ((i:Nat):Rat) G*at' n ((i:Nat):Rat) H) h2 (by rw [<- Rat.intCast_natCast];exact dv_at iG n _) (by rw [<- Rat.intCast_natCast];exact dv_at iH n _) (lo_at (by omega) lF _) fun w hw=>deg_at _ F (by omega) (by omega) (hd w (by omega));exact Rat.le_trans h3 (Rat.mul_le_mul_of_nonneg_left (am_at hdn (by omega) hT) Rat.natCast_nonneg)
  have hM:0<=(facK d n:Rat)*(F.am*((2*d n+1:Nat):Rat) ^ d n):=Rat.mul_nonneg Rat.natCast_nonneg (Rat.mul_nonneg (am_nonneg F) (pow_ge (T:=((2*d n+1:Nat):Rat)) (one_le_nat hT) (Nat.le_refl _)).1);have:=newton (w:=n) (T:=2*d n) (M:=0) (d n) _ G hM hGd (L.take (d n+1)) (by rw [List.length_take];omega) (hLn.sublist (List.take_sublist _ _)) fun i hi=>hval i (List.mem_of_mem_take hi);refine Rat.le_trans this ?_;rw [facK,Rat.natCast_mul,Rat.natCast_mul,Rat.natCast_pow,Rat.natCast_pow];have e4:2*(2*d n)+3=4*d n+3:=by omega
  rw [e4];refine rle_of_eq ?_;grind
end MP
end Q
end
section
namespace Q
open Go Go.Proofs.YtopclbeomcggiaaGreat
def cnt (f:Ex->Nat):List Trm->Nat
|[]=>0
|t::l=>f t.1+cnt f l
theorem canon_asum (l:List Trm):asum (canon l)<=asum l:=by
 have h:∀ (l r:List Trm),asum (l.foldl ins r)<=asum r+asum l:=fun l=>by
  induction l with
 |nil=>intro r;simp only [List.foldl_nil,asum];grind
 |cons m l ih=>intro r;have:=ih (ins r m);have:=ins_asum r m;simp only [List.foldl_cons,asum];grind
 have:=h l [];simp only [asum] at this;unfold canon;grind
theorem prods_one (l:List Trm) (q:Trm):prods l [q]=l.map fun s=>mulT s q:=by
 induction l with
|nil=>rfl
|cons s l ih=>rw [prods_cons,ih];rfl
theorem cf_scale (p:List Trm) (c:Rat) (e:Ex):cf (scaleP p c) e=cf p e*c:=by
 unfold scaleP;split
 ·rename_i h;rw [cf_nil,h];grind
 ·unfold cf;rw [Lf_map _ _ (fun e'=>c*(if e'=e then 1 else 0)) p (fun t _=>by grind),Lf_smul];grind
def rndL (a ts:List Trm) (q:Trm):List Trm:=a++ts.map fun t=>(t.1.add q.1,-(t.2*q.2))
theorem rnd_eq {m g:Trm} {a ts:List Trm} (hm:m.1.nat=true) (hz:g.2≠0):subP (m::a) (mulP (g::ts) [quoT m g])=canon (rndL a ts (quoT m g)):=by
 unfold subP addP;refine canon_congr fun e he=>?_;rw [cf_append,cf_scale,mulP,cf_canon,if_pos he,prods_one,List.map_cons,cf_cons,cf_cons,rndL,cf_append]
 have h1:(mulT g (quoT m g)).1=m.1:=by
  simp only [mulT,quoT,Ex.add,Ex.sub];refine Ex.ext' ?_ ?_ ?_ ?_ <;> simp only <;> omega
 have h2:(mulT g (quoT m g)).2=m.2:=by
  simp only [mulT,quoT];rw [Rat.mul_comm];exact Rat.div_mul_cancel hz
 have h3:cf (ts.map fun t=>(t.1.add (quoT m g).1,-(t.2*(quoT m g).2))) e=- cf (ts.map fun s=>mulT s (quoT m g)) e:=by
  induction ts with
 |nil=>simp only [List.map_nil,cf_nil];grind
 |cons t ts ih=>rw [List.map_cons,List.map_cons,cf_cons,cf_cons,ih];simp only [mulT];grind
 rw [h1,h2,h3];grind
structure Hgt (h:Ex->Nat) (g:Ex) (ts:List Trm):Prop where
 one:∀ m:Ex,m.nat=true->(m.sub g).nat=true->1<=h m
 dec:∀ m:Ex,m.nat=true->(m.sub g).nat=true->∀ t∈ts,h (t.1.add (m.sub g))+1<=h m
def hf (h:Ex->Nat) (e:Ex):Nat:=2 ^ (h e+1)-1
structure Jn (h:Ex->Nat) (H G:Nat) (e:Ex) (c:Rat):Prop where
 b:h e<=H
 x:e.1<=2+2*((H-h e:Nat):Int)/\e.2.1<=2+2*((H-h e:Nat):Int)/\e.2.2.1<=2+2*((H-h e:Nat):Int)/\e.2.2.2<=2+2*((H-h e:Nat):Int)
 d:Dv (G ^ (H-h e)) c
end Q
end
