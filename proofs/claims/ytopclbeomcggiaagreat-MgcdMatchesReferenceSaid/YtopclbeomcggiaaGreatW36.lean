/- R8.image. -/
import Derived.Test.YtopclbeomcggiaaGreatW31
set_option linter.unusedVariables false
set_option linter.unusedSimpArgs false
set_option maxHeartbeats 16000000
set_option maxRecDepth 100000
section
namespace Go.Proofs.YtopclbeomcggiaaGreat
open Go.RowKit Q Go.WideMaps Go.Maps
theorem XQ{x:Int}(h:aF x.natAbs<=7900000000):aF x.natAbs<=CS:=by have:=nQ;omega
theorem DY(va:Value)(a:List ai)(v at_:Nat)(w:World)(ha:ak w va a)(al:∀t∈a,Rs t.2)(hexp:∀t∈a,∀u,0<=t.1.get u/\t.1.get u<=900000)(b3:a.length<=100000000)(hv:v<4)(M:a≠[])(b4:at_<=1000) :
  Calls Tryz.prog 95 #[va,.int .i64 v,.int .u64 at_] w (Ro w (iZ a v at_)):=by
 have Z:=kH va a v w ha hv oM
 have a0:∀t∈a,0<=t.1.get v/\(t.1.get v).toNat<(aD a v+1).toNat:=λt ht=>by have h1:=(hexp t ht v).1;have h2:=eU ht v;omega
 have hd0:0<=aD a v:=by obtain⟨t,ht⟩:=List.exists_mem_of_ne_nil _ M;have:=a0 t ht;omega
 have hd2:aD a v<=900000:=by
  rcases(fQ (λt=>t.1.get v) a (-1)).2.2 with e|⟨t,ht,e⟩
  ·show a.foldl _ _<=_;rw[e];omega
  ·show a.foldl _ _<=_;rw[<-e];exact(hexp t ht v).2
 obtain⟨D,hD⟩:∃D:Nat,aD a v=D:=⟨(aD a v).toNat,oM⟩;have a6:iZ a v at_=jr v at_ a (List.replicate (D+1) 0):=by rw[iZ,hD];congr 1
 rw[a6];clear a6;obtain⟨J,hR⟩:∃J,J=jr v at_ a (List.replicate (D+1) 0):=⟨_,rfl⟩;rw[<-hR];rw[hD]at Z a0 hd2;have a7:∀t∈a,0<=t.1.get v/\(t.1.get v).toNat<D+1:=λt ht=>by have:=a0 t ht;omega
 have hD2:D<=900000:=oM;obtain⟨aa,ca,rfl,b5⟩:=ha.shape;replace hR:=zH hR;replace a0:=zH a7;replace hexp:=zH hexp;replace al:=zH al;replace ha:=zH ha;have hv4:(v:Int)<4:=oM;clear a7 M hd0 hD
 go_enter Tryz.func95,Tryz.ntmps95
 go_wp2_with (first
  | (go_at_call 27;refine Z.mono ?_;rintro en w1 ⟨rfl,hb1⟩)
  | (at_make;refine bL rfl _ _ _ rfl _ (.int .u64 0) 1 8 Tryz.underlying94 kU rfl rfl .i64 .i64 _ _ (D+1) rfl rfl oM oM oM oM ?_;intro w2 own2 gr2))
 rw[Ag]at own2;have aq:=hb1.size;have au:w.heap.size<=w1.heap.size:=aq;generalize hg:w1.heap.size=g at *;have hb12:=hb1.trans (gr2.mono aq);have ab:Hid (Blk w2 g xQ (nc (List.replicate (D+1) 0))):=zH own2;clear own2 gr2 hb1 hg
 go_loopw [9] (λi wr=>∃(k:Nat)(out:List Nat),k<=a.length/\i=.int .i64 k/\Hid (Blk wr g xQ (nc out))/\out.length=D+1/\Hid (Er out)/\Hid (J=jr v at_ (a.drop k) out)/\Below w.heap.size w wr) (λi _=>a.length-(intOf i).toNat)
 case atStart=>exact⟨0,_,oM,rfl,ab,sM,zH (Jm _),zH hR.out,hb12⟩
 case round =>
  clear ab hb12 hR
  rename World=>wo
  obtain⟨k,out,hk,rfl,hO,ag,ac,hR,s⟩:=hrel;by_cases n:k<a.length
  ·have ao:a[k]?=some a[k]:=gE n;have hR2:=hR.out;rw[List.drop_eq_getElem_cons n]at hR2;have o:=List.getElem_mem n;generalize a[k]=t at *;obtain⟨S,oq,rt,e1,ax,hC⟩:=fB (ha.out.on s) ao;have hx0:=hexp.out t o 0;have hx1:=hexp.out t o 1;have hx2:=hexp.out t o 2;have hx3:=hexp.out t o 3;have a3:=a0.out t o;have a2:=al.out t o;obtain⟨⟨z0,z1,z2,z3⟩,q⟩:=t;simp only[Ex.get]at hx0 hx1 hx2 hx3;obtain⟨n0,rfl⟩:=Int.eq_ofNat_of_zero_le hx0.1;obtain⟨n1,rfl⟩:=Int.eq_ofNat_of_zero_le hx1.1;obtain⟨n2,rfl⟩:=Int.eq_ofNat_of_zero_le hx2.1;obtain⟨n3,rfl⟩:=Int.eq_ofNat_of_zero_le hx3.1;obtain⟨z,I⟩:∃z:Nat,Ex.get ((n0:Int),(n1:Int),(n2:Int),(n3:Int)) v=(z:Int):=⟨_,(Int.toNat_of_nonneg a3.1).symm⟩;rw[I]at a3;have ap:z<D+1:=by simpa using a3.2
   have aE:(k:Int)<(a.length:Int):=oM;subst e1;replace hR2:=zH hR2;clear hR ao o a3 Z;obtain⟨N1,A1,K1,C1,N2,A2,K2,C2,rfl,i1,i2⟩:=ax;simp only at i1 i2 a2;have hE:bC ((n0:Int),(n1:Int),(n2:Int),(n3:Int))=[.int .i64 n0,.int .i64 n1,.int .i64 n2,.int .i64 n3]:=rfl;rw[hE]at hC
   have N:∀W,Below wo.heap.size wo W->∀j x,([.int .i64 n0,.int .i64 n1,.int .i64 n2,.int .i64 n3]++[.bool N1,.slice A1 K1 C1,.bool N2,.slice A2 K2 C2]:List Value)[j]?=some x->W.cell? ⟨S,oq+k*8+j,none⟩=some x:=λW hb j x hx=>by
    have hj:j<8:=by have:=(gS.1 hx).1;simpa using this
    rw[(hC.on hb).cell j (by simpa using hj)];exact hx
   have y6:=N wo (Below.refl _ _) 6 _ rfl;have y7:=N wo (Below.refl _ _) 7 _ rfl;have F:=xV _ _ _ wo i2 (by rw[Int.natAbs_natCast];exact Nat.le_trans a2.1 (by have:=nQ;omega));replace N:=zH N;have hR3:=hR2.out;rw[jr]at hR3;clear hR2;have hdl9:=qj (q.den:Int);by_cases hz:dY (q.den:Int)=0
   ·rw[if_pos hz]at hR3;rw[hz]at F;replace hR3:=zH hR3;clear hz hdl9
    go_wp2_with (first
     | (go_at_call 121;refine F.mono ?_;rintro en w4 ⟨rfl,hb4⟩)
     | (refine aj rfl _ _ 27 rfl aJ Tryz.underlying27 _ 8 96 kM _ _ _ rfl .i64 _ rfl k rfl n S oq rfl ?_))
    go_ret2;exact⟨_,by rw[hR3.out];rfl,(λl hl=>by rw[hR3.out]at hl;cases hl),s.trans (hb4.mono s.size)⟩
   ·rw[if_neg hz]at hR3;have G:=λW (hb:Below wo.heap.size wo W)=>xV _ _ _ W (i1.on hb) (XQ a2.2);have a5:=λW=>wH (dY (q.den:Int)) 2147483645 W oM oM;have av:=qj q.num;have hX0:sH (((n0:Int),(n1:Int),(n2:Int),(n3:Int)),q) v at_ 0=dY q.num*jC (dY (q.den:Int)) 2147483645%pr:=rfl;have a1:=uV (dY (q.den:Int)) 2147483645;rw[jq]at a1;generalize hdd:dY (q.den:Int)=d at *;generalize dY q.num=nn at *;generalize jC d 2147483645=pp at *;have ay:((d:Int)==0)=false:=by simp;omega
    have aw:nn*pp<=2147483647*2147483647:=Nat.mul_le_mul oM oM;obtain⟨X0,hX⟩:∃X0,X0=nn*pp%2147483647:=⟨_,rfl⟩;have an:((nn:Int)*(pp:Int))%2147483647=(X0:Int):=by rw[hX];simp
    rw[jq,<-hX]at hX0;have B:X0<2147483647:=by rw[hX];exact Nat.mod_lt _ dM
    replace hX0:=zH hX0;replace hR3:=zH hR3;replace G:=zH G;replace a5:=zH a5;clear hX hdd hz av a1 hdl9
    go_upto_region 8 with (first
     | (go_at_call 121;refine F.mono ?_;rintro en w4 ⟨rfl,hb4⟩)
     | (refine aj rfl _ _ 27 rfl aJ Tryz.underlying27 _ 8 96 kM _ _ _ rfl .i64 _ rfl k rfl n S oq rfl ?_))
    clear y6 y7;have y4:=N.out w4 hb4 4 _ rfl;have y5:=N.out w4 hb4 5 _ rfl
    go_upto_region 9 with (first
     | (go_at_call 121;refine(G.out _ hb4).mono ?_;rintro en w5 ⟨rfl,hb5⟩)
     | (go_at_call 122;refine(a5.out _).mono ?_;rintro en w6 ⟨rfl,hb6⟩)
     | (refine aj rfl _ _ 27 rfl aJ Tryz.underlying27 _ 8 96 kM _ _ _ rfl .i64 _ rfl k rfl n S oq rfl ?_))
    have hb46:=hb4.trans ((hb5.trans (hb6.mono hb5.size)).mono hb4.size);have hO6:=zH (hO.out.on hb46);clear hb4 hb5 hb6 y4 y5 i1 i2 F G a5;go_wp2
    go_loopw [11,12] (λx i wz=>∃u X:Nat,u<=4/\x=.int .u64 X/\i=.int .i64 u/\X<2147483647/\Hid (sH (((n0:Int),(n1:Int),(n2:Int),(n3:Int)),q) v at_ u=X)/\Hid (Blk wz g xQ (nc out))/\Below wo.heap.size wo wz) (λ_ i _=>4-(intOf i).toNat)
    case atStart=>exact⟨0,X0,oM,by rw[an],nM,B,hX0,hO6,hb46⟩
    case round =>
     clear hO6 hb46 hX0 B aw an hO;obtain⟨u,X,hu,rfl,rfl,B,hX,hO,b⟩:=hrel;by_cases hu4:u<4
     ·have p:∀W,Calls Tryz.prog 122 #[.int .u64 ((at_:Int)+(u:Int)),.int .i64 (Ex.get ((n0:Int),(n1:Int),(n2:Int),(n3:Int)) u)] W (rE W (.int .u64 (jC (at_+u) (Ex.get ((n0:Int),(n1:Int),(n2:Int),(n3:Int)) u).toNat))):=λW=>by
       have h1:0<=Ex.get ((n0:Int),(n1:Int),(n2:Int),(n3:Int)) u/\Ex.get ((n0:Int),(n1:Int),(n2:Int),(n3:Int)) u<=900000:=by
        obtain rfl|rfl|rfl|rfl:u=0\/u=1\/u=2\/u=3:=oM
        all_goals (simp only[Ex.get];omega)
       have h2:=wH (at_+u) (Ex.get ((n0:Int),(n1:Int),(n2:Int),(n3:Int)) u).toNat W oM oM;rw[Int.toNat_of_nonneg h1.1,Int.natCast_add]at h2;exact h2
      have a1:=uV (at_+u) (Ex.get ((n0:Int),(n1:Int),(n2:Int),(n3:Int)) u).toNat;rw[jq]at a1;by_cases m:u=v
      ·have r:Hid (sH (((n0:Int),(n1:Int),(n2:Int),(n3:Int)),q) v at_ (u+1)=X):=zH (by rw[sH,if_pos m];exact hX.out);clear p a1 hX;obtain rfl|rfl|rfl|rfl:u=0\/u=1\/u=2\/u=3:=oM
       ·have k1:((0:Int)=(v:Int))=True:=eq_true oM;have k2:((v:Int)=(0:Int))=True:=eq_true oM;have k3:(v=0)=True:=eq_true oM;have k4:((0:Nat)=v)=True:=eq_true oM;have k5:((0:Int)==(v:Int))=true:=by simp only[beq_iff_eq];omega
        have k6:((0:Int) != (v:Int))=false:=by simp only[bne,k5];rfl
        clear m;go_wp2;go_roundw
        case rel=>exact⟨1,X,oM,rfl,nM,B,r,hO,b⟩
        case measure=>simp[intOf]
       ·have k1:((1:Int)=(v:Int))=True:=eq_true oM;have k2:((v:Int)=(1:Int))=True:=eq_true oM;have k3:(v=1)=True:=eq_true oM;have k4:((1:Nat)=v)=True:=eq_true oM;have k5:((1:Int)==(v:Int))=true:=by simp only[beq_iff_eq];omega
        have k6:((1:Int) != (v:Int))=false:=by simp only[bne,k5];rfl
        clear m;go_wp2;go_roundw
        case rel=>exact⟨2,X,oM,rfl,nM,B,r,hO,b⟩
        case measure=>simp[intOf]
       ·have k1:((2:Int)=(v:Int))=True:=eq_true oM;have k2:((v:Int)=(2:Int))=True:=eq_true oM;have k3:(v=2)=True:=eq_true oM;have k4:((2:Nat)=v)=True:=eq_true oM;have k5:((2:Int)==(v:Int))=true:=by simp only[beq_iff_eq];omega
        have k6:((2:Int) != (v:Int))=false:=by simp only[bne,k5];rfl
        clear m;go_wp2;go_roundw
        case rel=>exact⟨3,X,oM,rfl,nM,B,r,hO,b⟩
        case measure=>simp[intOf]
       ·have k1:((3:Int)=(v:Int))=True:=eq_true oM;have k2:((v:Int)=(3:Int))=True:=eq_true oM;have k3:(v=3)=True:=eq_true oM;have k4:((3:Nat)=v)=True:=eq_true oM;have k5:((3:Int)==(v:Int))=true:=by simp only[beq_iff_eq];omega
        have k6:((3:Int) != (v:Int))=false:=by simp only[bne,k5];rfl
        clear m;go_wp2;go_roundw
        case rel=>exact⟨4,X,oM,rfl,nM,B,r,hO,b⟩
        case measure=>simp[intOf]
      ·obtain⟨Y,hY⟩:∃Y,Y=X*jC (at_+u) (Ex.get ((n0:Int),(n1:Int),(n2:Int),(n3:Int)) u).toNat%2147483647:=⟨_,rfl⟩;have r:Hid (sH (((n0:Int),(n1:Int),(n2:Int),(n3:Int)),q) v at_ (u+1)=Y):=zH (by rw[sH,if_neg m,hX.out,hY];rfl);generalize jC (at_+u) (Ex.get ((n0:Int),(n1:Int),(n2:Int),(n3:Int)) u).toNat=pw at *;have L:Y<2147483647:=by rw[hY];exact Nat.mod_lt _ dM
       have C:Hid (((X:Int)*(pw:Int))%2147483647=(Y:Int)):=zH (by rw[hY];simp);have b2:X*pw<=2147483647*2147483647:=Nat.mul_le_mul oM oM;clear hX hY;obtain rfl|rfl|rfl|rfl:u=0\/u=1\/u=2\/u=3:=oM
       ·simp only[Ex.get]at p;have M:¬v=0:=λh=>m h.symm;have hne2:¬(0:Int)=(v:Int):=oM;have hne3:¬(0:Nat)=v:=m;have k5:((0:Int)==(v:Int))=false:=by simp only[beq_eq_false_iff_ne];omega
        have k6:((0:Int) != (v:Int))=true:=by simp only[bne,k5];rfl
        have yu:wr.cell? ⟨S,oq+k*8,none⟩=some (.int .i64 n0):=N.out wr b 0 _ rfl
        go_wp2_with (first
         | (go_at_call 122;refine(p _).mono ?_;rintro en w7 ⟨rfl,hb7⟩)
         | (refine aj rfl _ _ 27 rfl aJ Tryz.underlying27 _ 8 96 kM _ _ _ rfl .i64 _ rfl k rfl n S oq rfl ?_))
        go_roundw
        case rel=>exact⟨1,Y,oM,by rw[<-C.out],nM,L,r,zH (hO.out.on hb7),b.trans (hb7.mono b.size)⟩
        case measure=>simp[intOf]
       ·simp only[Ex.get]at p;have M:¬v=1:=λh=>m h.symm;have hne2:¬(1:Int)=(v:Int):=oM;have hne3:¬(1:Nat)=v:=m;have k5:((1:Int)==(v:Int))=false:=by simp only[beq_eq_false_iff_ne];omega
        have k6:((1:Int) != (v:Int))=true:=by simp only[bne,k5];rfl
        have yu:=N.out wr b 1 _ rfl
        go_wp2_with (first
         | (go_at_call 122;refine(p _).mono ?_;rintro en w7 ⟨rfl,hb7⟩)
         | (refine aj rfl _ _ 27 rfl aJ Tryz.underlying27 _ 8 96 kM _ _ _ rfl .i64 _ rfl k rfl n S oq rfl ?_))
        go_roundw
        case rel=>exact⟨2,Y,oM,by rw[<-C.out],nM,L,r,zH (hO.out.on hb7),b.trans (hb7.mono b.size)⟩
        case measure=>simp[intOf]
       ·simp only[Ex.get]at p;have M:¬v=2:=λh=>m h.symm;have hne2:¬(2:Int)=(v:Int):=oM;have hne3:¬(2:Nat)=v:=m;have k5:((2:Int)==(v:Int))=false:=by simp only[beq_eq_false_iff_ne];omega
        have k6:((2:Int) != (v:Int))=true:=by simp only[bne,k5];rfl
        have yu:=N.out wr b 2 _ rfl
        go_wp2_with (first
         | (go_at_call 122;refine(p _).mono ?_;rintro en w7 ⟨rfl,hb7⟩)
         | (refine aj rfl _ _ 27 rfl aJ Tryz.underlying27 _ 8 96 kM _ _ _ rfl .i64 _ rfl k rfl n S oq rfl ?_))
        go_roundw
        case rel=>exact⟨3,Y,oM,by rw[<-C.out],nM,L,r,zH (hO.out.on hb7),b.trans (hb7.mono b.size)⟩
        case measure=>simp[intOf]
       ·simp only[Ex.get]at p;have M:¬v=3:=λh=>m h.symm;have hne2:¬(3:Int)=(v:Int):=oM;have hne3:¬(3:Nat)=v:=m;have k5:((3:Int)==(v:Int))=false:=by simp only[beq_eq_false_iff_ne];omega
        have k6:((3:Int) != (v:Int))=true:=by simp only[bne,k5];rfl
        have yu:=N.out wr b 3 _ rfl
        go_wp2_with (first
         | (go_at_call 122;refine(p _).mono ?_;rintro en w7 ⟨rfl,hb7⟩)
         | (refine aj rfl _ _ 27 rfl aJ Tryz.underlying27 _ 8 96 kM _ _ _ rfl .i64 _ rfl k rfl n S oq rfl ?_))
        go_roundw
        case rel=>exact⟨4,Y,oM,by rw[<-C.out],nM,L,r,zH (hO.out.on hb7),b.trans (hb7.mono b.size)⟩
        case measure=>simp[intOf]
     ·obtain rfl:u=4:=oM;have hO4:=hO.out;have hg4:g<wr.heap.size:=hO4.lt;have ar:=s.trans (b.mono s.size)
      have ev:wr.cell? ⟨S,oq+k*8+v,none⟩=some (.int .i64 z):=by have h1:=Gy ((n0:Int),(n1:Int),(n2:Int),(n3:Int)) v hv;rw[I]at h1;refine N.out wr b v _ ?_;rw[List.getElem?_append_left (by show v<4;exact hv)];exact h1
      have hol2:=ac.out.getD z;have a9:(Ex.get ((n0:Int),(n1:Int),(n2:Int),(n3:Int)) v).toNat=z:=by rw[I];rfl
      obtain⟨Y,hY⟩:∃Y,Y=(out.getD z 0+X)%2147483647:=⟨_,rfl⟩
      have hR4:Hid (J=jr v at_ (a.drop (k+1)) (out.set z Y)):=zH (by
       rw[hR3.out,hY];simp only[a9]
       rw[Ll,hX.out];rfl)
      have z5:=hO4.ncell z oM;have f5:=hO4.frozen z;have hO6:=zH (hO4.nset z Y);generalize out.getD z 0=y at *;have L:Y<2147483647:=by rw[hY];exact Nat.mod_lt _ dM
      have C:Hid (((y:Int)+(X:Int))%2147483647=(Y:Int)):=zH (by rw[hY];simp);have hol3:(out.set z Y).length=D+1:=by rw[List.length_set];exact ag
      have hLo2:=zH (ac.out.set z L);have hb6:=ar.trans (bF (W:=wr) (g:=g) (j:=z) au (.int .u64 (Y:Int)));clear hX hY a9 hR3 I hO4 hO N s
      go_wp2_with (first
       | (refine aj rfl _ _ 27 rfl aJ Tryz.underlying27 _ 8 96 kM _ _ _ rfl .i64 _ rfl k rfl n S oq rfl ?_)
       | (refine aj rfl _ _ 94 rfl xQ Tryz.underlying94 _ 1 8 kM _ _ _ rfl .i64 _ rfl z rfl ap g 0 rfl ?_;rw[nU,Nat.zero_add]))
      go_roundw
      case rel=>exact⟨k+1,out.set z Y,oM,nM,by rw[C.out];exact hO6,hol3,hLo2,hR4,by rw[C.out];exact hb6⟩
      case measure=>simp[intOf];omega
  ·obtain rfl:k=a.length:=oM;have a8:Hid (J=some out):=zH (by rw[hR.out,List.drop_of_length_le (nL _)];rfl);have hO4:=hO.out;have hg4:g<wo.heap.size:=hO4.lt;have a4:∀W,Below wo.heap.size wo W->W.cell? ⟨g,D,none⟩=some (.int .u64 ((out.getD D 0:Nat):Int)):=λW hb=>(hO4.on hb).ncell D oM
   have ad:Hid (iw J=decide (¬((out.getD D 0:Nat):Int)=0)):=zH (by
    rw[a8.out];show decide (out.getD (out.length-1) 0≠0)=_;rw[ag,Nat.add_sub_cancel];refine decide_eq_decide.2 ?_;constructor
    ·intro h h';exact h oM
    ·intro h h';exact h oM)
   have b0:((D:Int)+1-1)=D:=oM;have hw1:=lW (x:=(D:Int)+1) oM oM;have hw2:=lW (x:=(D:Int)) oM oM;replace a4:=zH a4;generalize out.getD D 0=y at *
   go_upto_region 16 with (fail)
   refine aC mixed (none) (0) (fK.none) [.eq (.slice (some ⟨g,0,none⟩) (D+1) (D+1)),.eq (.slice (some ⟨g,0,none⟩) (D+1) (D+1)),.eq (.slice (some ⟨g,0,none⟩) (D+1) (D+1)),.eq (.int .i64 (D+1)),.eq (.int .i64 D),.eq (.pointer (some ⟨g,0+D*1,none⟩)),.eq (.int .u64 y),.eq (.bool (decide (¬(y:Int)=0))),.eq (.slice (some ⟨g,0,none⟩) (D+1) (D+1))] [84,85,86,87,88,89,90,91,6] rfl rfl rfl rfl ⟨λ_ _ a _ _ _=>xM rfl (a 8 rfl),λ_ _ a _ _ _=>xM rfl (a 8 rfl),λ_ _ a _ _ _=>xM rfl (a 8 rfl),λA _ _ _ _ he=>have h86:=eT 86 (he.1 rfl);pZ rfl,λA _ _ _ _ he=>have h87:=eT 87 (he.1 rfl);have hc0:=eC A (.int .i64 1);pZ rfl,λ_ _ _ _ _ e=>pI rfl Tryz.underlying94 g 0 D oM (e.1 rfl) (e.2.1 rfl),?_,?_,λA _ _ _ _ he=>have h84:=eT 84 (he.1 rfl);pZ rfl,trivial⟩ ?_
   ·intro A w1 hA hL hS he;have h89:=eT 89 (he.1 rfl);refine ae rfl ?_;have c0:=a4.out w1 hL.below;exact aB rfl rfl gZ
   ·intro A w1 hA hL hS he;have h90:=eT 90 (he.1 rfl);have hc0:=eC A (.int .u64 0);refine ae rfl (aB rfl rfl ?_);generalize A.eval=ev at *;go_simp
    (by_cases h9:y=0<;>simp[h9])
   ·intro W5 hL5;have hb5:=hL5.below;simp only[aT,af.eq,lZ];go_frame;have hO5:=hO4.on hb5;have hS:=Go.RowKit.Blk.nsl hO5 ac.out;rw[ag]at hS;clear a4 hL5 hO4;go_wp2;go_ret2;exact⟨_,by rw[ad.out];rfl,λl hl=>by rw[a8.out]at hl;cases hl;exact hS,s.trans (hb5.mono s.size)⟩
end Go.Proofs.YtopclbeomcggiaaGreat
end
section
namespace Go.Proofs.YtopclbeomcggiaaGreat
open Go.RowKit Q
def XR (w:World) (l:List Nat) (e:Ending) (w':World):Prop:=∃v,e=.returned v/\bU wW w' v l/\Below w.heap.size w w'
theorem Ps:∃z bytes,(Tryz.prog.info? wW.T).map (λi=>(i.zero,i.size,i.bytes))=some (some z,wW.sz,bytes)/\z.cells.size=wW.sz/\bytes<=100000:=⟨.int .u64 0,8,kM,rfl,dM⟩
theorem Pv(va vb:Value)(a b r1:List Nat)(F inv:Nat)(w:World)(ha:bU wW w va a)(hb:bU wW w vb b)(la:a.length<=1000000)(lb:b.length<=1000000)(hb0:b≠[])(hinv:inv=jC (b.getD (b.length-1) 0) 2147483645)(hr:kX b inv F a=some r1) :
  Calls Tryz.prog 96 #[va,vb] w (XR w r1):=by
 obtain⟨aa,ca,rfl,b3⟩:=ha.shape;have aw:0<b.length:=List.length_pos_iff.2 hb0;obtain⟨bb,ob,cb,rfl,a4,a9⟩:=Fq hb aw;have au:inv<2147483647:=by rw[hinv];exact uV _ _
 have a5:=a9.getD (b.length-1);have a0:=zH (λW=>wH (b.getD (b.length-1) 0) 2147483645 W oM oM);rw[<-hinv]at a0;have s:∀W,Below w.heap.size w W->W.cell? ⟨bb,ob+(b.length-1),none⟩=some (.int .u64 ((b.getD (b.length-1) 0:Nat):Int)):=λW hb=>(a4.on hb).ncell _ oM;generalize b.getD (b.length-1) 0=xl at a0 s;have X:∀W,Below w.heap.size w W->∀k,k<b.length->W.cell? ⟨bb,ob+k,none⟩=some (.int .u64 ((b.getD k 0:Nat):Int)):=λW hb k hk=>(a4.on hb).ncell _ hk;have B:Below w.heap.size w (w.alloc (.cells #[] 97)):=(Below.refl _ _).alloc (nL _) _;have hl7:di wW w.heap.size (w.alloc (.cells #[] 97)) (.slice (some ⟨w.heap.size,0,none⟩) 0 0) []:=gX wW w;have ad:=ha.on B;have hba0:∀x,(Value.slice (some ⟨w.heap.size,0,none⟩) 0 0).ownBlock=some x->w.heap.size<=x:=λx hx=>(hl7.base_le x hx).1;have av:([]:List Nat).length+a.length<=1000000000:=by simp;omega
 have b2:(0:Int)<(b.length:Int):=oM;have hlb2:((b.length:Int)-1)=((b.length-1:Nat):Int):=oM;replace hinv:=zH hinv;replace hr:=zH hr;replace X:=zH X;replace s:=zH s;replace hb:=zH hb;replace hlb2:=zH hlb2;clear a5 hb0 a4 ha
 go_enter Tryz.func96,Tryz.ntmps96
 go_upto_region 2 with (at_builtin;refine dU rfl _ _ 94 rfl Tryz.underlying94 Ps rfl rfl hl7 ad av B.size ?_;intro v5 w5 hown5 hl5 hv5)
 rw[List.nil_append]at hown5;have hb5:=B.trans (hl5.belowAt B.size hba0);have h22:=zH (zy.of hown5);have hc5:=s.out w5 hb5;clear hl7 ad hl5 hv5 hown5 B hba0 s
 go_wp2_with (first
  | (refine aj rfl (.tmp 13) (.tmp 16) _ rfl _ Tryz.underlying94 _ _ _ kU _ _ _ rfl _ _ rfl (b.length-1) oM oM bb ob rfl ?_;rw[nU])
  | (go_at_call 122;refine(a0.out _).mono ?_;rintro e w6 ⟨rfl,hb6⟩))
 replace h22:=zH (h22.out.on hb6);have hb1:=hb5.trans (hb6.mono hb5.size);clear hb5 hb6 hc5 a0
 go_loopg [5] F (λm v5 wz=>∃r,Hid (zy w.heap.size wz v5 r)/\Hid (kX b inv m r=some r1)/\r.length<=1000000/\Below w.heap.size w wz)
 case atStart=>exact⟨a,h22,hr,la,hb1⟩
 case round =>
  clear h22 hr hb1;obtain⟨r,hR,I,lr,n⟩:=hrel;obtain⟨a7,aq⟩:∃a7,a7=gk:=⟨_,rfl⟩
  cases gk with
  | zero=>exact absurd I.out (by simp[kX])
  | succ m =>
  clear aq;have hrun2:=I.out;rw[kX]at hrun2;clear I;by_cases kQ:b.length<=r.length
  ·rw[if_pos kQ]at hrun2;obtain⟨g,cap,rfl,ay,ap,b7,C,-,-,-⟩:=hR.out.open oM;obtain⟨l,hA⟩:∃l,l=r.length - b.length:=⟨_,rfl⟩;have hA2:(r.length:Int) - (b.length:Int)=(l:Int):=oM;have a8:l+b.length=r.length:=oM;rw[<-hA]at hrun2;have a2:=hR.out.isSl;obtain⟨-,-,-,-,-,y⟩:=sI.1 a2;have b4:=C (r.length - 1) oM;have ba:=y.getD (r.length - 1);generalize r.getD (r.length - 1) 0=xt at *;obtain⟨f,hf⟩:∃f,f=xt*inv%pr:=⟨_,rfl⟩;rw[<-hf]at hrun2;have b6:f<2147483647:=by rw[hf];exact C8 _
   have b9:xt*inv<=2147483647*2147483647:=Nat.mul_le_mul oM oM;have b5:((xt:Int)*(inv:Int))%2147483647=(f:Int):=by rw[hf,jq];simp
   have ag:¬(r.length:Int)<(b.length:Int):=oM;replace hrun2:=zH hrun2;have o:Hid (zy w.heap.size wr (.slice (some ⟨g,0,none⟩) r.length cap) (fC b r f l 0)):=hR;clear hf hA C a2 hR
   go_wp2_with (refine aj rfl (.tmp 25) (.tmp 28) _ rfl _ Tryz.underlying94 _ _ _ kU _ _ _ rfl _ _ rfl (r.length-1) oM oM g 0 rfl ?_;rw[nU,Nat.zero_add])
   go_loopw [9] (λi wy=>∃k:Nat,k<=b.length/\i=.int .i64 k/\Hid (zy w.heap.size wy (.slice (some ⟨g,0,none⟩) r.length cap) (fC b r f l k))/\Below w.heap.size w wy) (λi _=>b.length-(intOf i).toNat)
   case atStart=>exact⟨0,oM,rfl,o,n⟩
   case round =>
    clear o n;obtain⟨k,hk,rfl,hR,n⟩:=hrel;by_cases ac:k<b.length
    ·have aE:(k:Int)<(b.length:Int):=oM;have u:=pJ b r f l k;obtain⟨g',ax,L,-,-,ab,C,-,-,-⟩:=hR.out.open oM;simp only[Value.slice.injEq,sJ,Addr.mk.injEq,and_true]at L;obtain⟨rfl,-,rfl⟩:=L;have J:fC b r f l (k+1)=(fC b r f l k).set (l+k) (((fC b r f l k).getD (l+k) 0+(pr - b.getD k 0)*f)%pr):=rfl;have y:=hR.out.isSl;obtain⟨-,-,-,-,-,y⟩:=sI.1 y;have h1:=C (l+k) oM;have M:∀W,Below wr.heap.size wr W->W.cell? ⟨g,l+k,none⟩=some (.int .u64 (((fC b r f l k).getD (l+k) 0:Nat):Int)):=λW hb=>by rw[hb.cell (p:=⟨g,l+k,none⟩) ab];exact h1
     have N:∀W,Below wr.heap.size wr W->W.cell? ⟨bb,ob+k,none⟩=some (.int .u64 ((b.getD k 0:Nat):Int)):=λW hb=>X.out W (n.trans (hb.mono n.size)) k ac;have hx1:=y.getD (l+k);have hc1:=a9.getD k;obtain⟨nx,Z⟩:∃nx,nx=fC b r f l (k+1):=⟨_,rfl⟩;have hnx2:nx=(fC b r f l k).set (l+k) (((fC b r f l k).getD (l+k) 0+(pr - b.getD k 0)*f)%pr):=by rw[Z,J]
     generalize hxx:(fC b r f l k).getD (l+k) 0=x at *;generalize b.getD k 0=c at *;obtain⟨d,hd⟩:∃d,d=pr - c:=⟨_,rfl⟩;rw[<-hd,jq]at hnx2;rw[jq]at hd;have hd2:(2147483647:Int) - (c:Int)=(d:Int):=oM;have ao:d*f<=2147483647*2147483647:=Nat.mul_le_mul oM oM;obtain⟨z,hdf2⟩:∃z:Nat,z=d*f:=⟨_,rfl⟩;have hdf3:(d:Int)*(f:Int)=(z:Int):=by rw[hdf2];simp
     rw[<-hdf2]at ao hnx2;have hAk2:l+k<r.length:=oM;have hAk3:(l:Int)+(k:Int)=((l+k:Nat):Int):=oM;replace Z:=zH Z;replace hnx2:=zH hnx2;replace hxx:=zH hxx;replace hdf2:=zH hdf2;replace M:=zH M;replace N:=zH N;replace u:=zH u;replace a8:=zH a8;replace hAk3:=zH hAk3;clear J C h1 y hd
     go_upto_region 8 with (fail)
     refine aC mixed (none) (0) (fK.none) [.eq (.slice (some ⟨g,0,none⟩) r.length cap),.eq (.int .i64 l),.eq (.int .i64 k),.eq (.int .i64 ((l:Int)+(k:Int))),.eq (.slice (some ⟨g,0,none⟩) r.length cap),.eq (.int .i64 l),.eq (.int .i64 k),.eq (.int .i64 ((l:Int)+(k:Int))),.eq (.pointer (some ⟨g,0+(l+k)*1,none⟩)),.eq (.int .u64 x),.eq (.slice (some ⟨bb,ob,none⟩) b.length cb),.eq (.int .i64 k),.eq (.pointer (some ⟨bb,ob+k*1,none⟩)),.eq (.int .u64 c),.eq (.int .u64 d),.eq (.int .u64 f),.eq (.int .u64 z),.eq (.int .u64 ((x:Int)+(z:Int))),.eq (.int .u64 (((x:Int)+(z:Int))%2147483647)),.eq (.pointer (some ⟨g,0+(l+k)*1,none⟩))] [45,46,47,48,49,50,51,52,53,54,55,56,57,58,59,60,61,62,63,64] rfl rfl rfl rfl ⟨λ_ _ a _ _ _=>xM rfl (a 5 rfl),λ_ _ a _ _ _=>xM rfl (a 8 rfl),λ_ _ a _ _ _=>xM rfl (a 9 rfl),?_,λ_ _ a _ _ _=>xM rfl (a 5 rfl),λ_ _ a _ _ _=>xM rfl (a 8 rfl),λ_ _ a _ _ _=>xM rfl (a 9 rfl),?_,λ_ _ _ _ _ e=>pI rfl Tryz.underlying94 g 0 (l+k) (hAk2) (e.1 rfl) (e.2.1 rfl),?_,λ_ _ a _ _ _=>xM rfl (a 1 rfl),λ_ _ a _ _ _=>xM rfl (a 9 rfl),λ_ _ _ _ _ e=>pI rfl Tryz.underlying94 bb ob k (ac) (e.1 rfl) (e.2.1 rfl),?_,?_,λ_ _ a _ _ _=>xM rfl (a 7 rfl),?_,?_,?_,λ_ _ _ _ _ e=>pI rfl Tryz.underlying94 g 0 (l+k) (hAk2) (e.1 rfl) (e.2.1 rfl),trivial⟩ ?_
     ·intro A w1 hA hL hS he;have h46:=eT 46 (he.1 rfl);have h47:=eT 47 (he.2.1 rfl);refine ae rfl (aB rfl rfl ?_);generalize A.eval=ev at *;go_simp;exact lW oM oM
     ·intro A w1 hA hL hS he;have h50:=eT 50 (he.1 rfl);have h51:=eT 51 (he.2.1 rfl);refine ae rfl (aB rfl rfl ?_);generalize A.eval=ev at *;go_simp;exact lW oM oM
     ·intro A w1 hA hL hS he;have h53:=eT 53 (he.1 rfl);refine ae rfl ?_;have c0:=M.out w1 hL.below;exact aB rfl rfl gZ
     ·intro A w1 hA hL hS he;have h57:=eT 57 (he.1 rfl);refine ae rfl ?_;have c0:=N.out w1 hL.below;exact aB rfl rfl gZ
     ·intro A w1 hA hL hS he;have h58:=eT 58 (he.1 rfl);have hc0:=eC A (.int .u64 2147483647);refine ae rfl (aB rfl rfl ?_);generalize A.eval=ev at *;go_simp
      (first|(have hw:=IntKind.wrap_u64 (d:Int);omega)|(have hw:=IntKind.wrap_u64 ((2147483647:Int)-(c:Int));omega))
     ·intro A w1 hA hL hS he;have h59:=eT 59 (he.1 rfl);have h60:=eT 60 (he.2.1 rfl);refine ae rfl (aB rfl rfl ?_);generalize A.eval=ev at *;go_simp
      (have hw:=IntKind.wrap_u64 (z:Int);omega)
     ·intro A w1 hA hL hS he;have h54:=eT 54 (he.1 rfl);have h61:=eT 61 (he.2.1 rfl);refine ae rfl (aB rfl rfl ?_);generalize A.eval=ev at *;go_simp
      (have hw:=IntKind.wrap_u64 ((x:Int)+(z:Int));omega)
     ·intro A w1 hA hL hS he;have h62:=eT 62 (he.1 rfl);have hc0:=eC A (.int .u64 2147483647);refine ae rfl (aB rfl rfl ?_);generalize A.eval=ev at *;go_simp;exact Int.tmod_eq_emod_of_nonneg oM
     ·intro W5 hL5;have hb5:=hL5.below;simp only[aT,af.eq,lZ];go_frame;obtain⟨g5,cap5,L,-,-,-,hcr5,hfr5,-,hset5⟩:=(hR.out.on hb5).open (by have:=u.out;omega);simp only[Value.slice.injEq,sJ,Addr.mk.injEq,and_true]at L;obtain⟨rfl,-,rfl⟩:=L;have z5:=hcr5 (l+k) (by have:=u.out;omega);have f5:=hfr5 (l+k);have hs9:=hset5 (l+k) ((x+z)%pr) (by have:=u.out;omega) (C8 _);rw[jq,<-hnx2.out]at hs9;have hv9:(((x+z)%2147483647:Nat):Int)=((x:Int)+(z:Int))%2147483647:=sM;rw[hv9]at hs9;have hbz9:=(n.trans (hb5.mono n.size)).trans (bF (W:=W5) (g:=g) (j:=l+k) ap (.int .u64 (((x:Int)+(z:Int))%2147483647)));replace hs9:=zH hs9;clear hcr5 hfr5 hset5 hv9 hL5 M N hR;go_wp2;go_roundw
      case rel=>exact⟨k+1,oM,nM,by rw[<-Z.out];exact hs9,hbz9⟩
      case measure=>simp[intOf];omega
    ·obtain rfl:k=b.length:=oM;have u:=pJ b r f l b.length;generalize fC b r f l b.length=r2 at *;obtain⟨S,hS⟩:∃S,S=strip r2:=⟨_,rfl⟩;have o:Hid (strip r2=S):=zH hS.symm;have hrun3:Hid (kX b inv m S=some r1):=zH (by rw[hS];exact hrun2.out);clear hrun2 hS;go_wp2
     go_loopg [5] r.length (λq v5 wy=>∃r3,Hid (zy w.heap.size wy v5 r3)/\Hid (strip r3=S)/\r3.length<=q/\q<=1000000/\Below w.heap.size w wy)
     case atStart=>exact⟨r2,hR,o,oM,oM,n⟩
     case round =>
      clear hR o n u r2;obtain⟨r3,hR,o,lr3,hq,n⟩:=hrel;by_cases hp3:0<r3.length
      ·obtain⟨g3,cap3,rfl,hcap3,hgb3,hgl3,hcr3,-,htk3,-⟩:=hR.out.open hp3;have hct3:=hcr3 (r3.length - 1) oM;have hxl3:=(sI.1 hR.out.isSl);obtain⟨-,-,-,-,-,hLr3⟩:=hxl3;have hx3:=hLr3.getD (r3.length - 1);have hz:=λh=>C9 (r:=r3) hp3 h;have a6:=λh=>Dc (r:=r3) hp3 h;have a1:=htk3 (r3.length - 1) oM;have b0:(0:Int)<(r3.length:Int):=oM;generalize r3.getD (r3.length - 1) 0=x3 at *;clear hcr3 htk3 hLr3;by_cases hx0:x3=0
       ·subst hx0;have al:Hid (strip (r3.take (r3.length-1))=S):=zH (by rw[hz rfl];exact o.out);have Y:(r3.take (r3.length-1)).length=r3.length-1:=by rw[List.length_take];omega
        replace a1:=zH a1;clear hz a6 o hR;obtain⟨q',G⟩:∃q',gk=q'+1:=⟨gk - 1,oM⟩;replace G:=zH G;generalize r3.take (r3.length - 1)=r4 at *;replace Y:=zH Y
        go_wp2_with (first
         | (refine aj rfl (.tmp 69) (.tmp 72) _ rfl _ Tryz.underlying94 _ _ _ kU _ _ _ rfl _ _ rfl (r3.length-1) oM oM g3 0 rfl ?_;rw[nU,Nat.zero_add])
         | (refine oo rfl _ _ 94 rfl Tryz.underlying94 kM _ _ _ rfl .i64 _ rfl (r3.length-1) oM oM ?_))
        go_roundg q'
        case measure=>have:=G.out;omega
        case rel=>exact⟨r4,by have h1:=a1.out;have h2:=Y.out;rw[<-h2]at h1;rw[<-h2];exact zH h1,al,by have:=G.out;have:=Y.out;omega,by have:=G.out;omega,n⟩
       ·have D:Hid (S=r3):=zH (by rw[<-o.out];exact a6 hx0);have b8:((x3:Int)==0)=false:=by simp;omega
        clear hz a6 o a1 hx0
        go_wp2_with (refine aj rfl (.tmp 69) (.tmp 72) _ rfl _ Tryz.underlying94 _ _ _ kU _ _ _ rfl _ _ rfl (r3.length-1) oM oM g3 0 rfl ?_;rw[nU,Nat.zero_add])
        go_roundg m
        case measure=>omega
        case rel=>exact⟨r3,hR,by rw[<-D.out];exact hrun3,oM,n⟩
      ·obtain rfl:r3=[]:=List.eq_nil_of_length_eq_zero oM;have D:Hid (S=[]):=zH (by rw[<-o.out];rfl);obtain⟨a3,c3,rfl,-⟩:=hR.out.isSl.shape;simp only[List.length_nil];clear o;go_wp2;go_roundg m
       case measure=>omega
       case rel=>exact⟨[],hR,by rw[<-D.out];exact hrun3,sM,n⟩
  ·rw[if_neg kQ,sJ]at hrun2;subst hrun2;obtain⟨ar,cr,rfl,-⟩:=hR.out.isSl.shape;have ag:¬(b.length:Int)<=(r.length:Int):=oM;have an:=zH hR.out.isSl;clear hR hb X;go_wp2;go_ret;exact⟨_,rfl,an.out,n⟩
end Go.Proofs.YtopclbeomcggiaaGreat
end
section
namespace Q
open Go Go.RowKit Go.Proofs.YtopclbeomcggiaaGreat
def kL (a b:List ai) (v:Nat):List Nat->Option Int
 | []=>some (aD a v)
 | k::l=>match iZ a v (17+100*k),iZ b v (17+100*k)with
  | some x,some y=>if iw (some x)&&iw (some y)then(il fuel x y).map (λn=>(n:Int)-1)else kL a b v l
  | _,_=>kL a b v l
theorem JU{a b:List ai}{v k:Nat}{l:List Nat}{m:Int}(h:kL a b v (k::l)=some m) :
  (iw (iZ a v (17+100*k))=true/\iw (iZ b v (17+100*k))=true/\∃x y n,iZ a v (17+100*k)=some x/\iZ b v (17+100*k)=some y/\il fuel x y=some n/\m=(n:Int)-1) \/
  ((iw (iZ a v (17+100*k))=false\/iw (iZ b v (17+100*k))=false)/\kL a b v l=some m):=by
 rw[kL]at h
 cases hx:iZ a v (17+100*k)with
 | none=>rw[hx]at h;exact .inr ⟨.inl rfl,h⟩
 | some x =>
  cases hy:iZ b v (17+100*k)with
  | none=>rw[hx,hy]at h;exact .inr ⟨.inr rfl,h⟩
  | some y =>
   rw[hx,hy]at h;change(if(iw (some x)&&iw (some y))=true then _ else _)=_ at h;cases h1:iw (some x)
   ·rw[h1]at h;exact .inr ⟨.inl rfl,by simpa using h⟩
   ·cases h2:iw (some y)
    ·rw[h1,h2]at h;exact .inr ⟨.inr rfl,by simpa using h⟩
    ·rw[h1,h2]at h;rw[if_pos (show(true&&true)=true from rfl)]at h
     cases hs:il fuel x y with
     | none=>rw[hs]at h;cases h
     | some n =>
      rw[hs]at h;have d:some ((n:Int)-1)=some m:=h;exact .inl ⟨rfl,rfl,x,y,n,rfl,rfl,hs,(Option.some.inj d).symm⟩
theorem JV:∀l:List Nat,(strip l).length<=l.length
 | []=>nL _
 | x::l=>by
  have b:=JV l;rw[strip];split
  ·split
   ·simp
   ·simp
  ·rename_i y r e;rw[e]at b;simpa using b
theorem FM{b:List Nat}{inv:Nat}:∀{F:Nat}{a r:List Nat}{N:Nat},kX b inv F a=some r->a.length<=N->r.length<=N
 | 0,_,_,_,h,_=>by simp[kX]at h
 | F+1,a,r,N,h,hl=>by
  rw[kX]at h;split at h
  ·exact FM h (Nat.le_trans (JV _) (by rw[pJ];exact hl))
  ·cases h;exact hl
structure W8 (p:List ai):Prop where
 w:Wr p
 e:∀t∈p,∀u,t.1.get u<=900000
theorem W8.exps{p:List ai}(h:W8 p):∀t∈p,∀u,0<=t.1.get u/\t.1.get u<=900000:=λt b u=>⟨Ex.nat_get (h.w.v.nat t b) u,h.e t b u⟩
theorem W8.deg{p:List ai}(h:W8 p)(v:Nat):aD p v<=900000:=by
 rcases(fQ (λt=>t.1.get v) p (-1)).2.2 with e|⟨t,b,e⟩
 ·show p.foldl _ _<=_;rw[e];omega
 ·show p.foldl _ _<=_;rw[<-e];exact h.e t b v
theorem W8.img{p:List ai}(h:W8 p){v at_:Nat}{l:List Nat}(b:iZ p v at_=some l):l.length<=1000000:=by unfold iZ at b;have d:=(zx b).1;rw[List.length_replicate]at d;have:=h.deg v;omega
end Q
namespace Go.Proofs.YtopclbeomcggiaaGreat
open Go.RowKit Q
theorem DZ(M vb:Value)(a b:List ai)(v:Nat)(m:Int)(w:World)(ha:ak w M a)(hb:ak w vb b)(B:W8 a)(kb:W8 b)(hv:v<4)(I:a≠[])(J:b≠[])(h:kL a b v [0,1,2]=some m) :
  Calls Tryz.prog 59 #[M,vb,.int .i64 v] w (rE w (.int .i64 m)):=by
 have X:=zH (λk W (hk:k<3) (hb:Below w.heap.size w W)=>DY M a v (17+100*k) W (ha.on hb) B.w.rs B.exps B.w.len hv I oM);have Y:=zH (λk W (hk:k<3) (N:Below w.heap.size w W)=>DY vb b v (17+100*k) W (hb.on N) kb.w.rs kb.exps kb.w.len hv J oM);have S:=zH (λW (hb:Below w.heap.size w W)=>kH M a v W (ha.on hb) hv B.w.len);have D:=zH (λk l (h:iZ a v (17+100*k)=some l)=>B.img h);have G:=zH (λk l (h:iZ b v (17+100*k)=some l)=>kb.img h);have L:Hid (kL a b v ([0,1,2].drop 0)=some m):=zH h;obtain⟨aa,ca,rfl,-⟩:=ha.shape;obtain⟨ab,cb,rfl,-⟩:=hb.shape;obtain⟨F,hF⟩:∃F,F=fuel:=⟨_,rfl⟩;replace hF:=zH hF;clear ha hb B kb I J h
 go_enter Tryz.func59,Tryz.ntmps59
 go_wp2
 go_loopw [7] (λi wr=>∃(k:Nat)(z:Int),k<=3/\i=.int .i64 z/\z=17+100*(k:Int)/\Hid (kL a b v ([0,1,2].drop k)=some m)/\Below w.heap.size w wr) (λi _=>match i with|.int _ x=>317-x.toNat|_=>0)
 case atStart=>exact⟨0,17,oM,rfl,oM,L,Below.refl _ _⟩
 case round =>
  clear L;obtain⟨k,z,hk,rfl,hz,hB,d⟩:=hrel;by_cases hk3:k<3
  ·have hz3:z<300:=oM;have hz0:0<=z:=oM;have a2:IntKind.u64.wrap z=z:=by have:=IntKind.wrap_u64 z;omega
   have nY:([0,1,2]:List Nat).drop k=k::([0,1,2]:List Nat).drop (k+1):=by
    obtain rfl|rfl|rfl:k=0\/k=1\/k=2:=oM
    all_goals rfl
   have hB2:=hB.out;rw[nY]at hB2;have h1:=X.out k wr hk3 d;have h2:=Y.out k;have C:((17+100*k:Nat):Int)=z:=oM;rw[C]at h1 h2;clear C;replace hz:=zH hz;have hc:=JU hB2;have hla1:=D.out k;have hlb1:=G.out k;clear nY hB hB2;generalize iZ a v (17+100*k)=oa at *;generalize iZ b v (17+100*k)=ob at *;replace hc:=zH hc;replace h2:=zH h2;replace hla1:=zH hla1;replace hlb1:=zH hlb1
   go_upto_region 6 with (first
    | (go_at_call 95;refine(h2.out w3 hk3 (d.trans (hb3.mono d.size))).mono ?_;rintro en w4 ⟨v4,rfl,hv4,hb4⟩)
    | (go_at_call 95;refine h1.mono ?_;rintro en w3 ⟨v3,rfl,hv3,hb3⟩))
   have hb34:=hb3.trans (hb4.mono hb3.size);have hbr4:=d.trans (hb34.mono d.size);rcases hc.out with ⟨f1,f2,x,y,n,rfl,rfl,s,rfl⟩|⟨hf,o⟩
   ·rw[f1,f2];have hx:=zH ((hv3 x rfl).on hb4);have hy:=zH (hv4 y rfl);have lx:=hla1.out x rfl;have ly:=hlb1.out y rfl;rw[<-hF.out]at s;replace s:=zH s;obtain⟨ax,cx,rfl,-⟩:=hx.out.shape;obtain⟨ay,cy,rfl,-⟩:=hy.out.shape;clear hv3 hv4 h1 h2 f1 f2 hc D G hla1 hlb1 hb34 hb3 hb4 d
    go_upto_region 7 with (fail)
    go_loopg [8,10] F (λj v8 v10 wz=>∃p q,Hid (bU wW wz v8 p)/\Hid (bU wW wz v10 q)/\Hid (il j p q=some n)/\p.length<=1000000/\q.length<=1000000/\Below w.heap.size w wz)
    case atStart=>exact⟨x,y,hx,hy,s,lx,ly,hbr4⟩
    case round =>
     clear hx hy s lx ly hbr4;obtain⟨p,q,hp,hq,s,lp,lq,u⟩:=hrel
     cases gk with
     | zero=>exact absurd s.out (by simp[il])
     | succ j =>
     have hs2:=s.out;rw[il]at hs2;clear s;rw[<-hF.out,YQ]at hs2;obtain⟨ap,cp,rfl,-⟩:=hp.out.shape;by_cases hq0:q=[]
     ·rw[if_pos hq0,sJ]at hs2;subst hq0;obtain⟨aq,cq,rfl,-⟩:=hq.out.shape;simp only[List.length_nil];have r:=zH hs2;clear hs2;go_wp2;go_ret;exact⟨by rw[<-r.out];rfl,u⟩
     ·rw[if_neg hq0]at hs2;have a1:0<q.length:=List.length_pos_iff.2 hq0;obtain⟨aq,cq,rfl,-⟩:=hq.out.shape;have a0:(0:Int)<(q.length:Int):=oM
      cases hr:kX q (jC (q.getD (q.length-1) 0) 2147483645) F p with
      | none=>rw[hr]at hs2;cases hs2
      | some r1 =>
      rw[hr]at hs2;have Z:=zH (Pv _ _ p q r1 F _ wr hp.out hq.out lp lq hq0 rfl hr);have lr:=FM hr lp;replace hs2:=zH hs2;replace hr:=zH hr
      go_wp2_with (go_at_call 96;refine Z.out.mono ?_;rintro en w5 ⟨v5,rfl,h5,hb5⟩)
      go_roundg j
      case measure=>omega
      case rel=>exact⟨q,r1,zH (hq.out.on hb5),zH h5,hs2,lq,lr,u.trans (hb5.mono u.size)⟩
   ·have o:=zH o;clear hv3 hv4 h1 h2 hc;cases f1:iw oa
    ·clear hf f1;go_wp2;go_roundw
     case rel=>exact⟨k+1,z+100,oM,nM,by have:=hz.out;omega,o,hbr4⟩
     case measure=>simp;omega
    ·cases f2:iw ob
     ·clear hf f1 f2;go_wp2;go_roundw
      case rel=>exact⟨k+1,z+100,oM,nM,by have:=hz.out;omega,o,hbr4⟩
      case measure=>simp;omega
     ·rw[f1,f2]at hf;exact absurd hf sM
  ·obtain rfl:k=3:=oM;have hz3:¬z<300:=oM;replace hz:=zH hz;have r:aD a v=m:=Option.some.inj hB.out;have hD:=S.out wr d;rw[r]at hD;replace hD:=zH hD;replace r:=zH r
   go_wp2_with (go_at_call 27;refine hD.out.mono ?_;rintro en w5 ⟨rfl,hb5⟩)
   go_ret;exact⟨rfl,d.trans (hb5.mono d.size)⟩
end Go.Proofs.YtopclbeomcggiaaGreat
end
section
namespace Q
open Go Go.Proofs.YtopclbeomcggiaaGreat
inductive Ur (sa sq:Sz) (b:List ai) (g:ai):Nat->List ai->List ai->Option (List ai)->Prop
 | done {out:List ai}:Ur sa sq b g 0 [] out (some out)
 | fail {m:ai} {a out:List ai}:(m.1.sub g.1).nat=false->Pk sa (m::a)->Ur sa sq b g 0 (m::a) out none
 | step {n:Nat} {m:ai} {a out:List ai} {r:Option (List ai)}:(m.1.sub g.1).nat=true->Pk sa (m::a)->Bd sq [gI m g]->out.length<=100000000 ->
   Ur sa sq b g n (gH (m::a) (aX b [gI m g])) (out++[gI m g]) r->Ur sa sq b g (n+1) (m::a) out r
structure Y0 (sa sb sq:Sz) (b:List ai) (g:ai):Prop where
 pb:Pk sb b
 hd:∃r,b=g::r
 oq:sq.ok
 om:(sb.mul sq).ok
 os:((sb.mul sq).mul ⟨1,1,0,1⟩).ok
 gs:sa.D*g.2.num.natAbs<4294967296
inductive wR (b:List ai) (g:ai):Nat->List ai->List ai->Option (List ai)->Prop
 | done {out:List ai}:wR b g 0 [] out (some out)
 | fail {m:ai} {a out:List ai}:(m.1.sub g.1).nat=false->Wr (m::a)->InR (m.1.sub g.1)->wR b g 0 (m::a) out none
 | step {n:Nat} {m:ai} {a out:List ai} {r:Option (List ai)}:(m.1.sub g.1).nat=true->Wr (m::a)->InR (m.1.sub g.1)->Wr [gI m g]->Wr (aX b [gI m g])->(∀t∈b,InR (t.1.add (gI m g).1))->out.length<=100000000 ->
   wR b g n (gH (m::a) (aX b [gI m g])) (out++[gI m g]) r->wR b g (n+1) (m::a) out r
theorem wR.inv{b:List ai}{g m:ai}{n:Nat}{a out:List ai}{r:Option (List ai)}(h:wR b g n (m::a) out r) :
  Wr (m::a)/\InR (m.1.sub g.1)/\((m.1.sub g.1).nat=false->r=none)/\((m.1.sub g.1).nat=true->∃n',n=n'+1/\Wr [gI m g]/\Wr (aX b [gI m g])/\(∀t∈b,InR (t.1.add (gI m g).1))/\out.length<=100000000/\wR b g n' (gH (m::a) (aX b [gI m g])) (out++[gI m g]) r):=by
 cases h with
 | fail d e i=>exact⟨e,i,λ_=>rfl,(λh=>by rw[d]at h;cases h)⟩
 | step d e i j k l o p=>exact⟨e,i,(λh=>by rw[d]at h;cases h),λ_=>⟨_,rfl,j,k,l,o,p⟩⟩
theorem wR.inv0{b:List ai}{g:ai}{n:Nat}{out:List ai}{r:Option (List ai)}(h:wR b g n [] out r):r=some out:=by cases h;rfl
theorem zL{b:List ai}{q:ai}(hb:bR b)(hq:bR [q]):jN b q=aX b [q]:=by rw[sF (hq.2 q sM).1,aX];refine(Ht ?_).symm;have:=hb.times (hq.2 q sM).2;rwa[sF (hq.2 q sM).1]at this
end Q
namespace Go.Proofs.YtopclbeomcggiaaGreat
open Go.RowKit Q Go.WideMaps Go.Maps
theorem Sr{b d:Value}{p q:List ai}{w:World}(hP:Wr p)(hQ:Wr q)(hp:ak w b p)(hq:ak w d q):Calls Tryz.prog 35 #[b,d] w (wh w (gH p q)):=by
 have i:=zH (λW u (hb:Below w.heap.size w W) (hu:bM W u (((-1:Int)):Rat))=>sG d u q (-1) W (hq.on hb) hu hQ.rs Q8 hQ.ir hQ.len);have ha:=zH (λW u (hb:Below w.heap.size w W) (hu:ak W u (bN q (-1)))=>qQ hP.v (hQ.v.scale (-1))▸Ja b u p _ W (hp.on hb) hu hP.rs hQ.neg.rs hP.len hQ.neg.len);replace hp:=zH hp;replace hq:=zH hq
 go_enter Tryz.func35,Tryz.ntmps35
 go_wp2_with (first
  | (go_at_call 24;refine(gG (-1) _ oM oM).mono ?_;rintro en w3 ⟨v3,rfl,hv3,hb3⟩)
  | (go_at_call 42;refine(i.out _ _ hb3 hv3).mono ?_;rintro en w4 ⟨v4,rfl,hv4,hb4⟩)
  | (go_at_call 39;refine(ha.out _ _ (hb3.trans (hb4.mono hb3.size)) hv4).mono ?_;rintro en w5 ⟨v5,rfl,hv5,hb5⟩))
 have hb34:=hb3.trans (hb4.mono hb3.size);go_ret;exact⟨_,rfl,hv5.base_mono hb34.size,hb34.trans (hb5.mono hb34.size)⟩
def JW (m g:Ex):Nat->Ex
 | 0=>e0
 | k+1=>(JW m g k).put k (m.get k-g.get k)
theorem Pw(m g:Ex):JW m g 4=m.sub g:=rfl
theorem Us{w:World}{base:Nat}(h:base<=w.heap.size):ak (w.alloc (.cells #[] 43)) (.slice (some ⟨w.heap.size,0,none⟩) 0 0) []:=(EX aO h).isSl
theorem XT(vp vq:Value)(p b:List ai)(g:ai)(n:Nat)(r:Option (List ai))(w:World)(hp:ak w vp p)(hq:ak w vq (g::b))(hB:Wr (g::b))(hd:wR (g::b) g n p [] r) :
  Calls Tryz.prog 25 #[vp,vq] w (AX w r):=by
 obtain⟨ap,cp,rfl,b9⟩:=hp.shape;obtain⟨aq,cq,rfl,bb⟩:=hq.shape;obtain⟨M,oq,rg,rfl,a9,a3⟩:=fB hq (i:=0) (s:=g) rfl;rw[Nat.zero_mul,Nat.add_zero]at a3;have b2:=a9.len;have a5:g.2≠0/\g.1.nat=true:=hB.v.2 g sM;have a4:=hB.rs g sM;have hn1:((b.length+1:Nat):Int)≠0:=oM;have hn2:(((b.length+1:Nat):Int)==0)=false:=by simp;omega
 replace hd:=zH hd;replace hB:=zH hB;replace a5:=zH a5;replace a4:=zH a4;simp only[List.length_cons]at *
 go_enter Tryz.func25,Tryz.ntmps25
 go_wp2;have hown0:=gX aO w;have hb0:Below w.heap.size w (w.alloc (.cells #[] aJ)):=(Below.refl _ _).alloc (nL _) _;change bV w.heap.size (w.alloc (.cells #[] 43)) _ _ at hown0;change Below w.heap.size w (w.alloc (.cells #[] 43))at hb0
 have hap0:p≠[]->∀I n c,(.slice ap p.length cp:Value)=.slice (some I) n c->some I.block≠(.slice (some ⟨w.heap.size,0,none⟩) 0 0:Value).ownBlock:=by
  intro b4 I n c h hh
  cases p with
  | nil=>exact b4 rfl
  | cons t p' =>
   obtain⟨b',o',r',e',-,au⟩:=fB hp (i:=0) (s:=t) rfl;simp only[Value.slice.injEq]at h;have h2:=au.lt;rw[e']at h;have h1:=h.1;simp only[sJ]at h1;subst h1;simp[Value.ownBlock]at hh;omega
 replace hp:=zH hp;replace hq:=zH hq;replace hap0:=zH hap0
 go_loopg [6,7] n (λn vo va wr=>∃a out,Hid (ak wr va a)/\Hid (bV w.heap.size wr vo out)/\Hid (wR (g::b) g n a out r)/\Below w.heap.size w wr/\Hid (a≠[]->∀I n c,va=.slice (some I) n c->some I.block≠vo.ownBlock))
 case atStart=>exact⟨p,[],zH (hp.out.on hb0),zH hown0,hd,hb0,hap0⟩
 case round =>
  clear hd hown0 hb0 hap0;obtain⟨a,out,ha,d,hd,l,L⟩:=hrel
  cases a with
  | nil =>
   have hr:r=some out:=hd.out.inv0;obtain⟨aa,ca,rfl,aE⟩:=ha.out.shape;replace hr:=zH hr;simp only[List.length_nil];go_wp2;go_ret2;exact⟨_,by rw[hr.out];rfl,by rw[hr.out];exact d.out.isSl,l⟩
  | cons m a =>
   obtain⟨ab,av,o,bY⟩:=hd.out.inv;obtain⟨aa,ca,rfl,aE⟩:=ha.out.shape;obtain⟨B,G,ra,rfl,D,C⟩:=fB ha.out (i:=0) (s:=m) rfl;rw[Nat.zero_mul,Nat.add_zero]at C;have b0:=D.len;have hne1:some B≠u6.ownBlock:=λh=>L.out sM _ _ _ rfl h;have S:=λv hv=>Ex.get_bounds av (v:=v) hv;have Y:=λv hv=>WR m.1 g.1 v hv;have hg0:((a.length+1:Nat):Int) > 0:=oM;replace S:=zH S;replace Y:=zH Y;replace o:=zH o;replace bY:=zH bY;simp only[List.length_cons]
   go_upto_region 6 with (fail)
   refine jb λW3 hb3 J hs3=>?_;have hbr3:=l.trans (hb3.mono l.size);have ha3:=ha.out.on hb3;have hown3:=d.out.on hb3;have hra3:=D.on hb3;have an:w.heap.size<=wr.heap.size:=l.size;have a7:u6.ownBlock≠some wr.heap.size:=λh=>by have:=(d.out.base_le _ h).2;omega
   have ac:B≠wr.heap.size:=λh=>by have:=C.lt;omega
   have q:∀k,u6.ownBlock=some k->w.heap.size<=k:=λk hk=>(d.out.base_le k hk).1;clear hb3 C ha d D l L hd hs3;generalize wr.heap.size=mb at *;have al:Hid (Blk W3 mb aJ (bC (JW m.1 g.1 0)++[.bool false,.slice none 0 0,.bool false,.slice none 0 0])):=zH J;clear J;go_wp2
   go_loopw [9] (λi wr=>∃k:Nat,k<=4/\i=.int .i64 k/\Hid (Blk wr mb aJ (bC (JW m.1 g.1 k)++[.bool false,.slice none 0 0,.bool false,.slice none 0 0]))/\Hid (ak wr (.slice (some ⟨B,G,none⟩) (a.length+1) ca) (m::a))/\Hid (bV w.heap.size wr u6 out)/\Below w.heap.size w wr) (λi _=>4-(intOf i).toNat)
   case atStart=>exact⟨0,oM,rfl,al,zH ha3,zH hown3,hbr3⟩
   case round =>
    clear al ha3 hown3 hra3 hbr3;obtain⟨k,hk,rfl,hB1,ha,d,l⟩:=hrel;obtain⟨b7,bd,ra,e9,D,C⟩:=fB (ap:=some ⟨B,G,none⟩) (cp:=ca) (p:=m::a) ha.out (i:=0) (s:=m) rfl;simp only[sJ,Addr.mk.injEq,and_true]at e9;obtain⟨rfl,rfl⟩:=e9;rw[Nat.zero_mul,Nat.add_zero]at C;have b0:=D.len;have J:=hB1.out;by_cases hk4:k<4
    ·have b6:(k:Int)<4:=oM;have aw:=qh (JW m.1 g.1 k) k hk4 [.bool false,.slice none 0 0,.bool false,.slice none 0 0];have ag:=uY (JW m.1 g.1 k) k hk4 (m.1.get k-g.1.get k) [.bool false,.slice none 0 0,.bool false,.slice none 0 0];have hw:IntKind.i64.wrap (m.1.get k-g.1.get k)=m.1.get k-g.1.get k:=mE (by rw[<-Y.out k hk4];exact S.out k hk4);have Z:=qh g.1 k hk4 rg;have a0:=qh m.1 k hk4 ra
     have f1:∀W',Below wr.heap.size wr W'->W'.cell? ⟨B,G+k,none⟩=some (.int .i64 (m.1.get k)):=λW' h=>by rw[(C.on h).cell k (by simp[bC];omega)];exact a0
     have f2:∀W',Below wr.heap.size wr W'->W'.cell? ⟨M,oq+k,none⟩=some (.int .i64 (g.1.get k)):=λW' h=>by rw[(a3.on (l.trans (h.mono l.size))).cell k (by simp[bC];omega)];exact Z
     have F:JW m.1 g.1 (k+1)=Ex.put (JW m.1 g.1 k) k (m.1.get k-g.1.get k):=rfl;generalize m.1.get k=x at *;generalize g.1.get k=y at *;replace F:=zH F;clear Z a0
     go_upto_region 9 with (fail)
     refine aC mixed (none) (0) (fK.none) [.eq (.int .i64 k),.eq (.slice (some ⟨B,G,none⟩) (a.length+1) ca),.eq (.int .i64 k),.eq (.pointer (some ⟨B,G+0*8,none⟩)),.eq (.pointer (some ⟨B,G+0*8,none⟩)),.eq (.pointer (some ⟨B,G+k,none⟩)),.eq (.int .i64 x),.eq (.slice (some ⟨M,oq,none⟩) (b.length+1) cq),.eq (.int .i64 k),.eq (.pointer (some ⟨M,oq+0*8,none⟩)),.eq (.pointer (some ⟨M,oq+0*8,none⟩)),.eq (.pointer (some ⟨M,oq+k,none⟩)),.eq (.int .i64 y),.eq (.int .i64 (x-y)),.eq (.pointer (some ⟨mb,0,none⟩)),.eq (.pointer (some ⟨mb,k,none⟩))] [24,25,26,27,28,29,30,31,32,33,34,35,36,37,38,39] rfl rfl rfl rfl ⟨λ_ _ a _ _ _=>xM rfl (a 9 rfl),λ_ _ a _ _ _=>xM rfl (a 7 rfl),λ_ _ a _ _ _=>xM rfl (a 9 rfl),λ_ _ _ _ _ e=>pI rfl Tryz.underlying27 B G 0 oM (e.1 rfl) rfl,λ_ _ _ _ _ e=>ae rfl (wV rfl (e.1 rfl)),λA _ _ _ _ he=>have h28:=eT 28 (he.1 rfl);have h26:=eT 26 (he.2.1 rfl);pZ rfl,?_,λ_ _ a _ _ _=>xM rfl (a 1 rfl),λ_ _ a _ _ _=>xM rfl (a 9 rfl),λ_ _ _ _ _ e=>pI rfl Tryz.underlying27 M oq 0 oM (e.1 rfl) rfl,λ_ _ _ _ _ e=>ae rfl (wV rfl (e.1 rfl)),λA _ _ _ _ he=>have h34:=eT 34 (he.1 rfl);have h32:=eT 32 (he.2.1 rfl);pZ rfl,?_,λA _ _ _ _ he=>have h30:=eT 30 (he.1 rfl);have h36:=eT 36 (he.2.1 rfl);pZ rfl,λ_ _ a _ _ _=>ae rfl (wV rfl (a 8 rfl)),λA _ _ _ _ he=>have h38:=eT 38 (he.1 rfl);have h24:=eT 24 (he.2.1 rfl);pZ rfl,trivial⟩ ?_
     ·intro A w1 hA hL hS he;have h29:=eT 29 (he.1 rfl);refine ae rfl ?_;have c0:=f1 w1 hL.below;exact aB rfl rfl gZ
     ·intro A w1 hA hL hS he;have h35:=eT 35 (he.1 rfl);refine ae rfl ?_;have c0:=f2 w1 hL.below;exact aB rfl rfl gZ
     ·intro W2 hL2;have hb2:=hL2.below;simp only[aT,af.eq,lZ];go_frame;have B2:=J.on hb2;have z:=B2.at1 k _ aw;have hf:=B2.frozen k;have hown2:=d.out.on hb2;have ha2:=ha.out.on hb2;have hbr2:=l.trans (hb2.mono l.size);have hl3:=aY (j:=k) B2 (.int .i64 (x - y));have B3:=B2.set k (.int .i64 (x - y));rw[ag]at B3;clear f1 f2 hL2;go_wp2;go_roundw
      case rel =>
       refine⟨k+1,oM,nM,zH (by rw[F.out];exact B3),zH (ha2.lrB hl3 (aW dM) (λI n c h=>by simp only[Value.slice.injEq,sJ]at h;rw[<-h.1];simpa using ac)),zH (hown2.lr hl3 (aW dM) (.inr a7)),hbr2.trans (hl3.belowAt hbr2.size (λk hk=>by cases hk;exact an))⟩
      case measure=>simp[intOf];omega
    ·obtain rfl:k=4:=oM;rw[Pw]at J;clear S Y hB1;obtain⟨E,hE⟩:∃E,E=m.1.sub g.1:=⟨_,rfl⟩;have a8:gI m g=(E,m.2/g.2):=by rw[hE];rfl
     rw[<-hE]at J o bY;replace a8:=zH a8;replace hE:=zH hE
     go_upto_region 10 with (fail)
     refine aR trivial (none) (0) (fK.none) [.eq (.pointer (some ⟨mb,0,none⟩)),.eq (.agg (bC E).toArray),.ret (.bool E.nat),.eq (.bool (!E.nat))] [40,41,42,43] rfl rfl rfl rfl ⟨λ_ _ a _ _ _=>ae rfl (wV rfl (a 8 rfl)),λ_ _ _ hL _ e=>pL rfl (Cy (J.on hL.below)) Tryz.underlying36 (show(bC E).length=4 from rfl) (e.1 rfl),λA _ _ _ hS he=>have hb:=hS rfl;have h41:=eT 41 (he.1 rfl);have hf0:=eF A 65;cP (f:=65) (args:=#[.agg (bC E).toArray]) (xK E _),λA _ _ _ _ he=>have h42:=eT 42 (he.1 rfl);pZ rfl,trivial⟩ ?_
     ·intro W2 hL2;have hb2:=hL2.below;simp only[aT,af.eq,af.ret,lZ];go_frame;have B2:=J.on hb2;have hown2:=d.out.on hb2;have ha2:=ha.out.on hb2;have hra2:=D.on hb2;have hCa2:=C.on hb2;have hbr2:=l.trans (hb2.mono l.size);clear hL2 J d ha D l hb2 C;cases hEn:E.nat
      ·have hr:=o.out hEn;replace hr:=zH hr;clear bY hEn;go_wp2;go_ret2;exact⟨_,by rw[hr.out];rfl,by rw[hr.out];exact Us (nL _),hbr2.trans (((Below.refl _ _).alloc (nL _) _).mono hbr2.size)⟩
      ·obtain⟨n',a6,QV,PT,a2,bc,N⟩:=bY.out hEn;rw[a8.out]at N QV PT a2;have b3:=ab.rs m sM;have b5:=zH (λW u (hu:ak W u (g::b)) cs (hc:qf W cs (E,m.2/g.2))=>zL hB.out.v QV.v▸wF u (g::b) cs (E,m.2/g.2) W hu hc hB.out.rs (QV.rs _ sM) a2 hB.out.len);replace N:=zH N;replace a6:=zH a6;clear o bY hEn;have hdiv:=λW (hb:Below W2.heap.size W2 W)=>Ji _ _ _ _ W (hra2.on hb).rat (a9.on (hbr2.trans (hb.mono hbr2.size))).rat b3 a4.out a5.out.1;obtain⟨N1,A1,K1,C1,N2,A2,K2,C2,rfl,-,-⟩:=id hra2;obtain⟨N3,A3,K3,C3,N4,A4,K4,C4,rfl,-,-⟩:=id a9;have u1:=B2.at1 4 _ rfl;have u2:=B2.at1 5 _ rfl;have u3:=B2.at1 6 _ rfl;have u4:=B2.at1 7 _ rfl;have hCg2:=a3.on hbr2;have x1:W2.cell? ⟨M,oq+4,none⟩=some (.bool N3):=by have:=hCg2.cell 4 (by simp[bC]);simpa[bC]using this
       have x2:W2.cell? ⟨M,oq+4+1,none⟩=some (.slice A3 K3 C3):=by have:=hCg2.cell 5 (by simp[bC]);simpa[bC,Nat.add_assoc]using this
       have x3:W2.cell? ⟨M,oq+4+2,none⟩=some (.bool N4):=by have:=hCg2.cell 6 (by simp[bC]);simpa[bC,Nat.add_assoc]using this
       have x4:W2.cell? ⟨M,oq+4+3,none⟩=some (.slice A4 K4 C4):=by have:=hCg2.cell 7 (by simp[bC]);simpa[bC,Nat.add_assoc]using this
       have y1:W2.cell? ⟨B,G+4,none⟩=some (.bool N1):=by have:=hCa2.cell 4 (by simp[bC]);simpa[bC]using this
       have y2:W2.cell? ⟨B,G+4+1,none⟩=some (.slice A1 K1 C1):=by have:=hCa2.cell 5 (by simp[bC]);simpa[bC,Nat.add_assoc]using this
       have y3:W2.cell? ⟨B,G+4+2,none⟩=some (.bool N2):=by have:=hCa2.cell 6 (by simp[bC]);simpa[bC,Nat.add_assoc]using this
       have y4:W2.cell? ⟨B,G+4+3,none⟩=some (.slice A2 K2 C2):=by have:=hCa2.cell 7 (by simp[bC]);simpa[bC,Nat.add_assoc]using this
       have f1:=B2.frozen 4;have f2:=B2.frozen 5;have f3:=B2.frozen 6;have f4:=B2.frozen 7;clear hCg2 hCa2
       go_upto_region 12 with (fail)
       go_cut [45,46,47,48,49,50,51,52,53,54,55,56,57] (λ_ _ _ _ _ _ _ _ _ _ _ _ _ wc=>∃r':List Value,Hid (Blk wc mb aJ (bC E++r'))/\Hid (gM wc r' (m.2/g.2))/\Hid (bV w.heap.size wc u6 out)/\Hid (ak wc (.slice (some ⟨B,G,none⟩) (a.length+1) ca) (m::a))/\Below w.heap.size w wc)
       case first =>
        replace hown2:=zH hown2;replace ha2:=zH ha2
        go_region_with (go_at_call 71;refine(hdiv _ (oZ (Below.refl _ _) _)).mono ?_;rintro en w5 ⟨v5,rfl,hv5,hb5⟩;obtain⟨N5,A5,K5,C5,N6,A6,K6,C6,rfl⟩:=fE hv5;have B5:=(B2.on (oZ (Below.refl _ _) _)).on hb5;have z1:=B5.at1 4 _ rfl;have z2:=B5.at1 5 _ rfl;have z3:=B5.at1 6 _ rfl;have z4:=B5.at1 7 _ rfl;have g1:=B5.frozen 4;have g2:=B5.frozen 5;have g3:=B5.frozen 6;have g4:=B5.frozen 7)
        all_goals
         obtain⟨R5,gr5⟩:=dW [.bool N5,.slice A5 K5 C5,.bool N6,.slice A6 K6 C6] 4 w5 _ B5 (by simp[bC]);have hl5:Lr (some mb) aJ w5 _:=⟨gr5,λk hk=>by cases hk;exact⟨B5.noOther,R5.noOther⟩⟩;have hb25:Below W2.heap.size W2 w5:=(oZ (Below.refl _ _) _).trans (hb5.mono (nL _));have hbw5:=hbr2.trans (hb25.mono hbr2.size);have hown5:=(hown2.out.on hb25).lr hl5 (aW dM) (.inr a7);have ha5:=(ha2.out.on hb25).lrB hl5 (aW dM) (λI n c h=>by simp only[Value.slice.injEq,sJ]at h;rw[<-h.1];simpa using ac);have hr5:=(hv5.lr hl5 dM).cellsC (cs:=[.bool N5,.slice A5 K5 C5,.bool N6,.slice A6 K6 C6]);have hbw6:=hbw5.trans (hl5.belowAt hbw5.size (λk hk=>by cases hk;exact an));clear z1 z2 z3 z4 g1 g2 g3 g4 B5 hv5 hl5 gr5;go_wp2;go_meet
         case rel=>exact⟨_,zH R5,zH hr5,zH hown5,zH ha5,hbw6⟩
       case rest =>
        clear B2 hown2 ha2 hra2 hdiv y1 y2 y3 y4 x1 x2 x3 x4 f1 f2 f3 f4 u1 u2 u3 u4 hbr2;obtain⟨r',hB1,X,d,ha,l⟩:=hcut;have J:=hB1.out;have ar:=X.out.len;have hlen8:(bC E++r').length=8:=by rw[List.length_append,ar];rfl
        have a1:some mb≠u6.ownBlock:=λh=>a7 h.symm;replace q:=zH q;clear hB1 b2
        go_upto_region 13 with (fail)
        refine aR trivial (u6.ownBlock) (aJ) (d.out.okr) [.eq (u6),.eq (.agg (bC E++r').toArray),.new1 aO fw ((E,m.2/g.2)),.row aO (w.heap.size) wc.heap.size (out++[(E,m.2/g.2)])] [58,59,60,61] rfl rfl rfl rfl ⟨λ_ _ a _ _ _=>xM rfl (a 6 rfl),λ_ _ a hL _ _=>pL rfl ((J.lr hL a1).cells.range) Tryz.underlying43 (hlen8) (a 8 rfl),?_,?_,trivial⟩ ?_
        ·intro A w1 hA hL hS he;have h59:=eT 59 (he.1 rfl);refine ae rfl ?_;have hE:(aO:El _).E w1 _ ((E,m.2/g.2)):=⟨_,rfl,X.out.lr hL dM⟩;refine fo rfl rfl ((d.out.okr).lr hL) hE (bu rfl ?_) (λ_ _ h=>h);simp only[List.map_toArray,List.map_cons,List.map_nil,h59];exact bK _ _ ((aO).len hE)
        ·intro A w1 hA hL hS he;have hb:=hS rfl;have ay:Below w.heap.size w w1:=l.trans (hL.belowAt l.size q.out);have h58:=eT 58 (he.1 rfl);obtain⟨v60,h60,f60⟩:=fT 60 (he.2.1 rfl);exact ae rfl (dL rfl rfl rfl Tryz.underlying27 bG h58 h60 (d.out.on hb) rfl rfl (dV f60) (by simp only[List.length_cons,List.length_nil];omega) (ay.size) hL.1.size (λ_ _ h1 h2=>⟨h1,h2⟩))
        ·intro W6 hL6;simp only[aT,af.eq,af.new1,af.row,af.asPure,af.of,af.fragile,lZ];rintro v60 - v61 ⟨hown6,ad⟩;go_frame;have hbW6:=l.trans (hL6.belowAt l.size q.out);have ha6:=ha.out.lrB hL6 (aW dM) (λI n c h=>by simp only[Value.slice.injEq,sJ]at h;rw[<-h.1];exact hne1);have B6:=J.lr hL6 a1;have hr6:=X.out.lr hL6 dM;have hq6:=hq.out.on hbW6;have hblk6:=zH hown6.base_le;clear hL6 J ha d X l ad
         go_upto_region 14 with (fail)
         refine aR trivial (none) (0) (fK.none) [.eq (.slice (some ⟨B,G,none⟩) (a.length+1) ca),.eq (.slice (some ⟨M,oq,none⟩) (b.length+1) cq),.eq (.agg (bC E++r').toArray),.poly dM dM ((aX (g::b) [(E,m.2/g.2)])),.own W6.heap.size (gH (m::a) (aX (g::b) [(E,m.2/g.2)]))] [62,63,64,65,66] rfl rfl rfl rfl ⟨λ_ _ a _ _ _=>xM rfl (a 7 rfl),λ_ _ a _ _ _=>xM rfl (a 1 rfl),λ_ _ a hL _ _=>pL rfl ((B6.on hL.below).cells.range) Tryz.underlying43 (hlen8) (a 8 rfl),λA _ _ _ hS he=>have hb:=hS rfl;have h63:=eT 63 (he.1 rfl);have h64:=eT 64 (he.2.1 rfl);have hf0:=eF A 44;cP (f:=44) (args:=#[.slice (some ⟨M,oq,none⟩) (b.length+1) cq,.agg (bC E++r').toArray]) (b5.out _ _ (hq6.on hb) _ ⟨_,rfl,hr6.on hb⟩),?_,trivial⟩ ?_
         ·intro A w1 hA hL hS he;have hb:=hS rfl;have h62:=eT 62 (he.1 rfl);obtain⟨v65,h65,f65⟩:=fT 65 (he.2.1 rfl);have hf0:=eF A 35;refine ae rfl ?_;refine dI (f:=35) (args:=#[.slice (some ⟨B,G,none⟩) (a.length+1) ca,v65]) rfl rfl ?_ ?_
          ·exact gZ
          ·refine(Sr ab PT (ha6.on hb) f65).mono ?_;rintro e w' ⟨v,rfl,hi,ax⟩;exact⟨_,rfl,ax,hi.base_mono hb.size⟩
         ·intro W7 hL7;have hb7:=hL7.below;simp only[aT,af.eq,af.poly,af.own,af.of,lZ];rintro v65 - v66 hown9;go_frame;have hown7:=hown6.on hb7;have hbW7:=hbW6.trans (hb7.mono hbW6.size)
          have L:(gH (m::a) (aX (g::b) [(E,m.2/g.2)]))≠[]->∀I n c,v66=.slice (some I) n c->some I.block≠v61.ownBlock:=λ_ I n c h hc=>by
           have h1:=(hblk6.out I.block hc.symm).2;obtain⟨xs,⟨-,h2⟩,-⟩:=hown9;rcases h2 with ⟨h2,-⟩|⟨gg,cap,b8,h2,h3,-⟩
           ·rw[h]at h2;cases h2
           ·rw[h]at h2;cases h2;simp only at h1;omega
          replace L:=zH L;clear hL7 hb7 hown6 ha6 B6 hr6 hq6 hbW6;go_wp2;go_roundg n'
          case measure=>have:=a6.out;omega
          case rel=>exact⟨_,_,zH hown9.isSl,zH hown7,N,hbW7,L⟩
theorem Px(v1 v2:Value)(p q:Rat)(w:World)(h1:bM w v1 p)(h2:bM w v2 q)(k1:Rs p)(k2:Rs q)(hz:q≠0):Calls Tryz.prog 49 #[v1,v2] w (pX w (p/q)):=by
 have hd:=zH (λW (hb:Below w.heap.size w W)=>Ji v1 v2 p q W (h1.on hb) (h2.on hb) k1 k2 hz);obtain⟨s1,a1,l1,c1,s2,a2,l2,c2,rfl⟩:=fE h1;obtain⟨s3,a3,l3,c3,s4,a4,l4,c4,rfl⟩:=fE h2;clear h1 h2 k1 k2 hz
 go_enter Tryz.func49,Tryz.ntmps49
 go_upto_region 1 with (fail)
 refine rQ λW hb0 B1 B2 B3 i=>?_;have x1:=B1.at1 0 _ rfl;have x2:=B1.at1 1 _ rfl;have x3:=B1.at1 2 _ rfl;have x4:=B1.at1 3 _ rfl;have y1:=B2.at1 0 _ rfl;have y2:=B2.at1 1 _ rfl;have y3:=B2.at1 2 _ rfl;have y4:=B2.at1 3 _ rfl
 go_upto_region 2 with (go_at_call 71;refine(hd.out W hb0).mono ?_;rintro e w1 ⟨v,rfl,hv,hb1⟩;obtain⟨t1,b1,g1,d1,t2,b2,g2,d2,rfl,j1,j2⟩:=hv)
 refine jb λW2 hb2 B5 hsz2=>?_;have b:=hb1.trans (hb2.mono hb1.size);have C3:=B3.on b;have e1:=B5.at1 0 _ rfl;have e2:=B5.at1 1 _ rfl;have e3:=B5.at1 2 _ rfl;have e4:=B5.at1 3 _ rfl;clear x1 x2 x3 x4 y1 y2 y3 y4
 go_wp2_with (refine az rfl _ (.tmp 4) (.tmp 13) rfl _ _ _ _ rfl rfl C3 rfl dA dJ ?_;intro w3 R d)
 exact dH rfl rfl rfl R Tryz.underlying41 rfl dA (oI hb0 b oM C3 ⟨_,_,_,_,_,_,_,_,rfl,j1.on hb2,j2.on hb2⟩ d)
theorem Py(d i:Value)(a b q:List ai)(g:ai)(n:Nat)(w:World)(ha:ak w d a)(hb:ak w i (g::b))(kb:Wr (g::b))(hd:wR (g::b) g n a [] (some q)):Calls Tryz.prog 64 #[d,i] w (aS w q):=by
 have hD:=zH (XT d i a b g n (some q) w ha hb kb hd);clear ha hb kb hd
 go_enter Tryz.func64,Tryz.ntmps64
 go_wp2_with (go_at_call 25;refine hD.out.mono ?_;rintro e w1 ⟨v,rfl,hv,hb1⟩)
 go_ret;exact⟨_,rfl,hv,hb1⟩
theorem JX(b:Value)(w:World)(ha:ak w b []):Calls Tryz.prog 15 #[b] w (aS w []):=by
 obtain⟨d,i,rfl,-⟩:=ha.shape;simp only[List.length_nil]
 go_enter Tryz.func15,Tryz.ntmps15
 go_wp2;go_ret;exact⟨_,rfl,bU.nil _ _,Below.refl _ _⟩
theorem Ww:Rs 1:=xN (s:=⟨1,1,0,1⟩) dK (Dv.int 1 1) (show bH (((1:Int)):Rat)<=((1:Nat):Rat) by rw[rabs_int];exact Rat.natCast_le_natCast.2 dM)
theorem JY(p:Value)(t:ai)(a:List ai)(w:World)(ha:ak w p (t::a))(b:Wr (t::a))(q:Rs (1/t.2)):Calls Tryz.prog 15 #[p] w (aS w (bN (t::a) (1/t.2))):=by
 have o:t.2≠0:=(b.v.2 t sM).1;have n:=b.rs t sM;obtain⟨r,k,rfl,-⟩:=ha.shape;obtain⟨d,oq,rt,rfl,j,hC⟩:=fB ha (i:=0) (s:=t) rfl;rw[Nat.zero_mul,Nat.add_zero]at hC;have l:=j.len;have m:(((t::a).length:Int)==0)=false:=by simp;omega
 have hW:=zH (λW=>(gG 1 W oM oM:Calls Tryz.prog 24 #[.int .i64 1] W (pX W 1)));replace b:=zH b;replace ha:=zH ha;simp only[List.length_cons]at m ⊢
 go_enter Tryz.func15,Tryz.ntmps15
 go_upto_region 3 with (fail)
 refine aC mixed (none) (0) (fK.none) [.eq (.slice (some ⟨d,oq,none⟩) (a.length+1) k),.rat dM ((1:Rat)),.eq (.slice (some ⟨d,oq,none⟩) (a.length+1) k),.eq (.pointer (some ⟨d,oq+0*8,none⟩)),.eq (.pointer (some ⟨d,oq+0*8+4,none⟩)),.eq (.agg (rt).toArray),.rat dM ((1/t.2)),.poly dM dM ((bN (t::a) (1/t.2)))] [6,7,8,9,10,11,12,13] rfl rfl rfl rfl ⟨λ_ _ a _ _ _=>xM rfl (a 0 rfl),λA _ _ _ hS _=>have hb:=hS rfl;have hf0:=eF A 24;have hc0:=eC A (.int .i64 1);cP (f:=24) (args:=#[(.int .i64 1)]) (hW.out _),λ_ _ a _ _ _=>xM rfl (a 0 rfl),λ_ _ _ _ _ e=>pI rfl Tryz.underlying27 d oq 0 (Nat.succ_pos _) (e.1 rfl) rfl,λ_ _ _ _ _ e=>ae rfl (EU rfl (e.1 rfl)),λ_ _ _ hL _ e=>pL rfl (gU (hC.on hL.below)) Tryz.underlying41 (l) (e.1 rfl),?_,?_,trivial⟩ ?_
 ·intro A w1 hA hL hS he;have hb:=hS rfl;obtain⟨v7,h7,f7⟩:=fT 7 (he.1 rfl);have h11:=eT 11 (he.2.1 rfl);have hf0:=eF A 49;exact cP (f:=49) (args:=#[v7,.agg (rt).toArray]) (Px _ _ _ _ _ f7 ((j.on hb).rat) Ww n o)
 ·intro A w1 hA hL hS he;have hb:=hS rfl;have h6:=eT 6 (he.1 rfl);obtain⟨v12,h12,f12⟩:=fT 12 (he.2.1 rfl);have hf0:=eF A 42;exact cP (f:=42) (args:=#[.slice (some ⟨d,oq,none⟩) (a.length+1) k,v12]) (sG _ _ _ _ _ (ha.out.on hb) f12 b.out.rs q b.out.ir b.out.len)
 intro w2 hL;simp only[aT,af.eq,af.poly,af.rat,af.ret,af.of,lZ];rintro _ - _ - v13 h13;go_frame;have hb:=hL.below;clear hL;go_wp2;go_ret;exact⟨_,rfl,h13,hb⟩
end Go.Proofs.YtopclbeomcggiaaGreat
end
section
namespace Q
open Go Go.RowKit Go.Proofs.YtopclbeomcggiaaGreat
def wS (a b:List ai):Nat->Int
 | 0=>-1
 | m+1=>if aD a m<1/\aD b m<1 then wS a b m else m
abbrev mH:=List ai->List ai->List ai->Prop
def mI (G:mH):List (List ai)->List ai->List ai->Prop
 | [],out,r=>out=r
 | c::L,out,r=>∃o,G out c o/\mI G L o r
def N7 (G:mH) (a:List ai) (v:Nat) (r:List ai):Prop :=
 a=[]/\r=[]\/a≠[]/\∃g b n,mI G (aA a v) [] (g::b)/\Wr (g::b)/\wR (g::b) g n a [] (some r)
theorem Mm{G:mH}{L:List (List ai)}{out r:List ai}{k:Nat}(b:k<L.length)(h:mI G (L.drop k) out r):∃o,G out L[k] o/\mI G (L.drop (k+1)) o r:=by rw[List.drop_eq_getElem_cons b]at h;exact h
end Q
namespace Go.Proofs.YtopclbeomcggiaaGreat
open Go.RowKit Q Go.WideMaps Go.Maps
def FN (G:mH):Prop:=∀u v a b r W,ak W u a->ak W v b->G a b r->Calls Tryz.prog 17 #[u,v] W (aS W r)
theorem JZ(p q:Value)(a b:List ai)(w:World)(ha:ak w p a)(hb:ak w q b)(u:a.length<=100000000)(lb:b.length<=100000000):Calls Tryz.prog 57 #[p,q] w (rE w (.int .i64 (wS a b 4))):=by
 have n:=zH (λW v (hb:Below w.heap.size w W) (hv:v<4)=>kH p a v W (ha.on hb) hv u);have o:=zH (λW v (l:Below w.heap.size w W) (hv:v<4)=>kH q b v W (hb.on l) hv lb);obtain⟨R,hR⟩:∃R,R=wS a b 4:=⟨_,rfl⟩;rw[<-hR];replace hR:=zH hR;clear ha hb u lb
 go_enter Tryz.func57,Tryz.ntmps57
 go_wp2
 go_loopw [5] (λi wr=>∃(m:Nat)(z:Int),m<=4/\i=.int .i64 z/\Hid (z=(m:Int)-1)/\-1<=z/\z<=3/\Hid (R=wS a b m)/\Below w.heap.size w wr) (λi _=>(intOf i+1).toNat)
 case atStart=>exact⟨4,3,oM,rfl,zH oM,oM,oM,hR,Below.refl _ _⟩
 case round =>
  clear hR;obtain⟨m,z,hm,rfl,hz,z0,z1,hR,d⟩:=hrel
  cases m with
  | zero =>
   have B:¬(0:Int)<=z:=by have:=hz.out;omega
   have k:Hid (R=z):=zH (by rw[hR.out,wS];have:=hz.out;omega);clear hR;go_wp2;go_ret;exact⟨by rw[k.out];rfl,d⟩
  | succ m =>
   have j:z=(m:Int):=by have:=hz.out;omega
   have C:(0:Int)<=z:=oM;have h1:=n.out wr m d oM;have h2:=λW hb=>o.out W m (d.trans (Below.mono hb d.size)) oM;have hR2:=hR.out;rw[wS]at hR2;rw[<-j]at h1 h2;generalize aD a m=x at *;generalize aD b m=y at *;by_cases r:x<1
   ·by_cases s:y<1
    ·rw[if_pos ⟨r,s⟩]at hR2;replace hR2:=zH hR2;replace j:=zH j;clear hR hz
     go_wp2_with (first
      | (go_at_call 27;refine(h2 w3 hb3).mono ?_;rintro e w4 ⟨rfl,hb4⟩;have hb34:=hb3.trans (hb4.mono hb3.size))
      | (go_at_call 27;refine h1.mono ?_;rintro e w3 ⟨rfl,hb3⟩))
     go_roundw
     case rel=>exact⟨m,z-1,oM,nM,zH (by have:=j.out;omega),oM,oM,hR2,d.trans (hb34.mono d.size)⟩
     case measure=>simp[intOf];omega
    ·rw[if_neg (λh=>s h.2)]at hR2;have k:Hid (R=z):=zH (by rw[hR2,j]);replace j:=zH j;clear hR hR2 hz
     go_wp2_with (first
      | (go_at_call 27;refine(h2 w3 hb3).mono ?_;rintro e w4 ⟨rfl,hb4⟩;have hb34:=hb3.trans (hb4.mono hb3.size))
      | (go_at_call 27;refine h1.mono ?_;rintro e w3 ⟨rfl,hb3⟩))
     go_ret;exact⟨by rw[k.out];rfl,d.trans (hb34.mono d.size)⟩
   ·rw[if_neg (λh=>r h.1)]at hR2;have k:Hid (R=z):=zH (by rw[hR2,j]);replace j:=zH j;clear hR hR2 hz
    go_wp2_with (go_at_call 27;refine h1.mono ?_;rintro e w3 ⟨rfl,hb3⟩)
    go_ret;exact⟨by rw[k.out];rfl,d.trans (hb3.mono d.size)⟩
theorem oP{G:mH}(hG:FN G)(x:Value)(a r:List ai)(v:Nat)(w:World)(ha:ak w x a)(hv:v<4)(hd:aD a v<=900000)(C:a.length<=100000000)(h:mI G (aA a v) [] r):Calls Tryz.prog 19 #[x,.int .i64 v] w (aS w r):=by
 have s:=zH (Jj x a v w ha hv oM C);have M:(aA a v).length<=1000000:=by rw[dS];omega
 replace hG:=zH hG;generalize aA a v=L at *;have u:Hid (mI G (L.drop 0) [] r):=zH h;clear ha hd C h
 go_enter Tryz.func19,Tryz.ntmps19
 go_wp2_with (go_at_call 63;refine s.out.mono ?_;rintro e w2 ⟨v2,rfl,hL,hb2⟩;obtain⟨a2,c2,rfl,-⟩:=hL.shape)
 have hb3:Below w2.heap.size w2 (w2.alloc (.cells #[] 43)):=(Below.refl _ _).alloc (nL _) _;have m:Hid (ak (w2.alloc (.cells #[] 43)) (.slice (some ⟨w2.heap.size,0,none⟩) 0 0) []):=zH (gX aO w2).isSl;have hL3:=zH (hL.on hb3);have hb23:=hb2.trans (hb3.mono hb2.size);clear hL hb2 hb3 s;generalize w2.alloc (.cells #[] 43)=w3 at *
 go_loopw [6,7] (λo i wr=>∃(k:Nat)(out:List ai),k<=L.length/\i=.int .i64 k/\Hid (ak wr o out)/\Hid (mI G (L.drop k) out r)/\Below w3.heap.size w3 wr) (λ_ i _=>L.length-(intOf i).toNat)
 case atStart=>exact⟨0,[],oM,nM,m,u,Below.refl _ _⟩
 case round =>
  clear m u
  rename World=>wo
  obtain⟨k,out,S,rfl,B,hc,j⟩:=hrel;by_cases p:k<L.length
  ·obtain⟨D,hg,n⟩:=Mm p hc.out;have q:L[k]?=some L[k]:=gE p;generalize L[k]=c at *;obtain⟨y,F,N,rfl,l,hC⟩:=ve (hL3.out.on j) q;have b:=λx=>hG.out x N out c D wo;obtain⟨I,J,rfl,-⟩:=bU.shape l
   have e24:wo.cell? ⟨y,F+k,none⟩=some (.slice I c.length J):=by have h1:=hC.cell 0 sM;simpa using h1
   have z:(k:Int)<(L.length:Int):=oM;replace q:=zH q;replace n:=zH n;replace hg:=zH hg;replace l:=zH l;replace b:=zH b;clear hC hc
   go_wp2_with (first
    | (refine aj rfl _ _ 75 rfl polyT Tryz.underlying75 _ 1 24 kM _ _ _ rfl .i64 _ rfl k rfl p y F rfl ?_;rw[nU])
    | (go_at_call 17;refine(b.out _ B.out l.out hg.out).mono ?_;rintro e w4 ⟨v4,rfl,h4,hb4⟩))
   go_roundw
   case rel=>exact⟨k+1,D,oM,nM,zH h4,n,j.trans (hb4.mono j.size)⟩
   case measure=>simp[intOf];omega
  ·obtain rfl:k=L.length:=oM;have d:out=r:=by have:=hc.out;rwa[List.drop_of_length_le (nL _)]at this
   replace d:=zH d;go_wp2;go_ret;exact⟨_,rfl,by rw[<-d.out];exact B.out,hb23.trans (j.mono hb23.size)⟩
theorem mJ{G:mH}(hG:FN G)(i:Value)(a r:List ai)(v:Nat)(w:World)(ha:ak w i a)(hv:v<4)(hd:aD a v<=900000)(k:a.length<=100000000)(h:N7 G a v r):Calls Tryz.prog 21 #[i,.int .i64 v] w (aS w r):=by
 rcases h with ⟨rfl,rfl⟩|⟨d,g,b,n,h1,h2,h3⟩
 ·obtain⟨m,o,rfl,-⟩:=ha.shape;simp only[List.length_nil]
  go_enter Tryz.func21,Tryz.ntmps21
  go_wp2;go_ret;exact⟨_,rfl,bU.nil _ _,Below.refl _ _⟩
 ·have hc:=zH (oP hG i a _ v w ha hv hd k h1);have q:=zH (λW vb (hb:Below w.heap.size w W) (j:ak W vb (g::b))=>Py i vb a b r g n W (ha.on hb) j h2 h3);have p:((a.length:Int)==0)=false:=by have:=List.length_pos_iff.2 d;simp;exact d
  obtain⟨m,o,rfl,-⟩:=ha.shape;generalize a.length=l at *;clear ha h1 h2 h3 d hd k
  go_enter Tryz.func21,Tryz.ntmps21
  go_wp2_with (first
   | (go_at_call 64;refine(q.out w3 _ hb3 h3).mono ?_;rintro e w4 ⟨v4,rfl,h4,hb4⟩)
   | (go_at_call 19;refine hc.out.mono ?_;rintro e w3 ⟨v3,rfl,h3,hb3⟩))
  go_ret;exact⟨_,rfl,h4,hb3.trans (hb4.mono hb3.size)⟩
end Go.Proofs.YtopclbeomcggiaaGreat
end
section
namespace Q
open Go Go.Proofs.YtopclbeomcggiaaGreat
end Q
namespace Go.Proofs.YtopclbeomcggiaaGreat
open Go Go.RowKit Q
def Yi (w:World) (s:List ai) (t:Bool) (e:Ending) (w':World):Prop:=∃v,e=.returned (.tuple #[v,.bool t])/\ak w' v s/\Below w.heap.size w w'
end Go.Proofs.YtopclbeomcggiaaGreat
end
