/- mgcd.sequence. -/
import Derived.Test.YtopclbeomcggiaaGreatY29
set_option linter.unusedVariables false
set_option linter.unusedSimpArgs false
set_option maxHeartbeats 16000000
set_option maxRecDepth 100000
section
namespace Q
open Go Go.RowKit Go.Proofs.YtopclbeomcggiaaGreat
theorem D7:Wp Ir:=kW dK
theorem AR{a:List aj}{v:Nat}(h:a≠[])(d:Wp a):0<=aD a v:=by obtain⟨t,b⟩:=List.exists_mem_of_ne_nil _ h;have e:=(d.exps b v).1;have i:=dR b v;omega
theorem Ki{G:List aj->List aj->Option (List aj)}{v:Nat}:∀{n:Nat}{a b g:List aj},Wp b->rX G v n a b=some g->Wp g
 | 0,a,b,g,_,h=>by simp[rX]at h
 | n+1,a,b,g,kb,h=>by
  rw[rX]at h
  cases hr:Ub a b v with
  | none=>rw[hr]at h;cases h
  | some r =>
   rw[hr]at h
   cases r with
   | nil=>cases h;exact kb
   | cons t r =>
    simp only at h;split at h
    ·cases h;exact D7
    ·cases hp:lN G (t::r) v with
     | none=>rw[hp]at h;cases h
     | some p =>
      rw[hp]at h;simp only at h
      cases hq:mr p with
      | none=>rw[hq]at h;cases h
      | some q=>rw[hq]at h;exact Ki (yO hq) h
theorem Om{G:List aj->List aj->Option (List aj)}{v:Nat}{a b g:List aj}(kb:Wp b)(h:Bf G a b v=some g):Wp g:=by
 unfold Bf at h
 cases hm:zV a b v with
 | none=>rw[hm]at h;cases h
 | some m =>
  rw[hm]at h;simp only at h;split at h
  ·cases h;exact D7
  ·cases hd:zU a b with
   | none=>rw[hd]at h;cases h
   | some r =>
    rw[hd]at h;simp only at h;split at h
    ·cases h;exact kb
    ·exact Ki kb h
theorem Kj{a b r:List aj}{v:Nat}(h:Ub a b v=some r):b≠[]/\r=uD (gH (aB b v) (aB a v).length (aB a v)) v/\Wp r/\MI (aB b v) (aB a v).length (aB a v)=true /\
  VQ (fromL v 0 (gH (aB b v) (aB a v).length (aB a v)))=true/\∀c∈gH (aB b v) (aB a v).length (aB a v),DV c=true:=by
 unfold Ub at h;simp only at h;split at h
 next hc =>
  obtain⟨d,e,i,j⟩:=hc;obtain⟨rfl,k⟩:=kG h;exact⟨d,rfl,k,e,i,λc hc=>List.all_eq_true.1 j c hc⟩
 next=>cases h
end Q
namespace Go.Proofs.YtopclbeomcggiaaGreat
open Go.RowKit Q
theorem Kk(e i:Value)(a b r:List aj)(v:Nat)(w:World)(ha:ai w e a)(hb:ai w i b)(d:Wp a)(kb:Wp b)(hv:v<4)(h:Ub a b v=some r):Calls Tryz.prog 94 #[e,i,.int .i64 v] w (Dn w r 0):=by
 obtain⟨j,rfl,o,k,l,m⟩:=Kj h;have n:(aB a v).length<=100001:=by rw[eB];have:=(d.deg v).2;omega
 exact Mk e i a b v w ha hb hv j d.val.nat kb.val.nat (d.deg v).2 (kb.deg v).2 (by have:=d.len;omega) (by have:=kb.len;omega) (J9 (λc hc=>kb.coeffs hc) k) (UV l) (λc hc=>by have:=(kW (m c hc)).len;omega)
theorem Iw{G:List aj->List aj->Option (List aj)}(HG:D5 G)(va vb:Value)(a b g:List aj)(v:Nat)(w:World)(ha:ai w va a)(hb:ai w vb b)(S:Wp a)(kb:Wp b)(J:a≠[])(L:b≠[])(hv:v<4)(h:EX G a b v=some g) :
  Calls Tryz.prog 55 #[va,vb,.int .i64 v] w (aP w g):=by
 have D:=zH (λW (hb:Below w.heap.size w W)=>kD va a v W (ha.on hb) hv (by have:=S.len;omega));have I:=zH (λW (a5:Below w.heap.size w W)=>kD vb b v W (hb.on a5) hv (by have:=kb.len;omega));replace ha:=zH ha;replace hb:=zH hb;unfold EX at h
 go_enter Tryz.func55,Tryz.ntmps55
 have X:∀(x y:List aj)(h:Bf G x y v=some g),(∃m,zV x y v=some m):=λx y h=>by
  unfold Bf at h
  cases hm:zV x y v with
  | none=>rw[hm]at h;cases h
  | some m=>exact⟨m,rfl⟩
 obtain⟨da,hda2⟩:∃da,da=aD a v:=⟨_,rfl⟩;obtain⟨db,hdb2⟩:∃db,db=aD b v:=⟨_,rfl⟩;rw[<-hda2]at D h;rw[<-hdb2]at I h
 go_upto_if 18 with (first
  | (go_at_call 53;refine(I.out w3 hb3).mono ?_;rintro en w4 ⟨rfl,hb4⟩)
  | (go_at_call 53;refine(D.out _ (Below.refl _ _)).mono ?_;rintro en w3 ⟨rfl,hb3⟩))
 have hb34:=hb3.trans (hb4.mono hb3.size)
 go_cut [0,1,19,20] (λvx vy _ _ wc=>∃x y,Hid (ai wc vx x)/\Hid (ai wc vy y)/\Wp x/\Wp y/\x≠[]/\y≠[]/\Hid (Bf G x y v=some g)/\Below w.heap.size w wc)
 case first =>
  by_cases a0:da<db
  ·rw[if_pos a0]at h;replace h:=zH h;go_wp2;go_meet
   case rel=>exact⟨b,a,zH (hb.out.on hb34),zH (ha.out.on hb34),kb,S,L,J,h,hb34⟩
  ·rw[if_neg a0]at h;replace h:=zH h;go_wp2;go_meet
   case rel=>exact⟨a,b,zH (ha.out.on hb34),zH (hb.out.on hb34),S,kb,J,L,h,hb34⟩
 case rest =>
  clear D I ha hb S kb J L h hda2 hdb2 hb34 hb3 hb4;obtain⟨x,y,N,B,kx,ky,a2,a3,j,i⟩:=hcut;obtain⟨m,hm⟩:=X x y j.out;have C:=zH (P9 u0 u1 x y v m wc N.out B.out kx ky hv a2 a3 hm);have hs2:=j.out;unfold Bf at hs2;rw[hm]at hs2;simp only at hs2;clear hm X j;by_cases hm0:m=0
  ·rw[if_pos hm0,sJ]at hs2;subst hm0;have d:=zH hs2;clear hs2
   go_wp2_with (first
    | (go_at_call 92;refine C.out.mono ?_;rintro en w5 ⟨rfl,hb5⟩)
    | (go_at_call 51;refine(yN _).mono ?_;rintro en w6 ⟨v6,rfl,h6,hb6⟩))
   go_ret;exact⟨_,rfl,by rw[<-d.out];exact h6,(i.trans (hb5.mono i.size)).trans (hb6.mono (i.trans (hb5.mono i.size)).size)⟩
  ·rw[if_neg hm0]at hs2;have a1:(m==0)=false:=by simpa using hm0
   cases hd:zU x y with
   | none=>rw[hd]at hs2;cases hs2
   | some r =>
   rw[hd]at hs2;simp only at hs2;have Y:=zH (λW (hb:Below wc.heap.size wc W)=>Kg u0 u1 x y r W (N.out.on hb) (B.out.on hb) ky hd);have Z:=zH (λW (hb:Below wc.heap.size wc W)=>kD u1 y v W (B.out.on hb) hv (by have:=ky.len;omega));clear hd hm0
   go_upto_region 7 with (first
    | (go_at_call 92;refine C.out.mono ?_;rintro en w5 ⟨rfl,hb5⟩)
    | (go_at_call 93;refine(Y.out _ hb5).mono ?_;rintro en w6 ⟨v6,rfl,h6,hb6⟩))
   have hb56:=hb5.trans (hb6.mono hb5.size);have hdy2:=zH (Z.out w6 hb56);clear Y C Z h6 hb5 hb6;have hbw6:=i.trans (hb56.mono i.size);have hx6:=zH (N.out.on hb56);have hy6:=zH (B.out.on hb56);obtain⟨dy,hdy3⟩:∃dy,dy=aD y v:=⟨_,rfl⟩;rw[<-hdy3]at hdy2 hs2;obtain⟨F,hF⟩:∃F,F=fuel:=⟨_,rfl⟩;rw[<-hF]at hs2;clear N B hdy3 hF
   go_cut [34,35,36,37,38,39,40,41] (λ_ _ _ _ _ _ _ t wd=>∃fl,t=.bool fl/\Hid (ai wd u0 x)/\Hid (ai wd u1 y)/\Hid ((fl=true->g=y)/\(fl=false->rX G v F x y=some g))/\Below w.heap.size w wd)
   case first =>
    cases r with
    | none =>
     simp only[Option.isSome_none,Bool.false_and]at hs2;rw[if_neg sM]at hs2;replace hs2:=zH hs2;simp only[Option.isSome_none];clear hdy2;go_wp2;go_meet
     case rel=>exact⟨_,rfl,hx6,hy6,zH ⟨λh=>(by cases h),λ_=>hs2.out⟩,hbw6⟩
    | some r =>
     simp only[Option.isSome_some,Bool.true_and]at hs2 ⊢;by_cases s:m=dy
     ·rw[if_pos (by simpa using s),sJ]at hs2;subst s;have d:=zH hs2;clear hs2 a1
      go_wp2_with (go_at_call 53;refine hdy2.out.mono ?_;rintro en w7 ⟨rfl,hb7⟩)
      go_meet
      case rel=>exact⟨_,rfl,zH (hx6.out.on hb7),zH (hy6.out.on hb7),zH ⟨λ_=>d.out.symm,λh=>(by cases h)⟩,hbw6.trans (hb7.mono hbw6.size)⟩
     ·rw[if_neg (by simpa using s)]at hs2;have hmd2:(m==dy)=false:=by simpa using s
      replace hs2:=zH hs2
      go_wp2_with (go_at_call 53;refine hdy2.out.mono ?_;rintro en w7 ⟨rfl,hb7⟩)
      go_meet
      case rel=>exact⟨_,rfl,zH (hx6.out.on hb7),zH (hy6.out.on hb7),zH ⟨λh=>(by cases h),λ_=>hs2.out⟩,hbw6.trans (hb7.mono hbw6.size)⟩
   case rest =>
    clear hs2 hdy2 hx6 hy6 hbw6 hb56 i a1;obtain⟨fl,rfl,N,B,j,i⟩:=hcut;cases fl
    case true =>
     have d:=zH (j.out.1 rfl);clear j;go_wp2;go_ret;exact⟨_,rfl,by rw[d.out];exact B.out,i⟩
    case false =>
     replace j:=zH (j.out.2 rfl);go_wp2
     go_loopg [0,1] F (λn va vb wr=>∃a b,Hid (ai wr va a)/\Hid (ai wr vb b)/\Wp a/\Wp b/\Hid (rX G v n a b=some g)/\Below w.heap.size w wr)
     case atStart=>exact⟨x,y,N,B,kx,ky,j,i⟩
     case round =>
      clear N B kx ky j i a2 a3;obtain⟨a,b,ha,hb,S,kb,j,l⟩:=hrel
      cases gk with
      | zero=>exact absurd j.out (by simp[rX])
      | succ n =>
      have hs2:=j.out;rw[rX]at hs2
      cases hr:Ub a b v with
      | none=>rw[hr]at hs2;cases hs2
      | some r =>
      rw[hr]at hs2;have M:=Kk _ _ a b r v wr ha.out hb.out S kb hv hr;have kr:=(Kj hr).2.2.1;clear hr j
      cases r with
      | nil =>
       simp only[sJ]at hs2;have d:=zH hs2;clear hs2
       go_upto_region 10 with (go_at_call 94;refine M.mono ?_;rintro en w7 ⟨v7,rfl,h7,hb7⟩)
       obtain⟨a7,c7,rfl,-⟩:=h7.shape;simp only[List.length_nil];go_wp2;go_ret;exact⟨_,rfl,by rw[<-d.out];exact hb.out.on hb7,l.trans (hb7.mono l.size)⟩
      | cons t r =>
       simp only at hs2;have a9:(((t::r).length:Int)==0)=false:=by simp;omega
       have a6:=kr.len
       go_upto_region 10 with (go_at_call 94;refine M.mono ?_;rintro en w7 ⟨v7,rfl,h7,hb7⟩)
       have o:=zH (kD v7 (t::r) v w7 h7 hv oM);have k:∀p,lN G (t::r) v=some p->∀W,Below w7.heap.size w7 W->Calls Tryz.prog 20 #[v7,.int .i64 v] W (aP W p):=λp hp W a4=>rC HG v7 (t::r) p v W hv (h7.on a4) kr hp;obtain⟨a7,c7,rfl,-⟩:=h7.shape;replace k:=zH k;have hbr7:=l.trans (hb7.mono l.size);have hb2:=zH (hb.out.on hb7);have z:∀p,lN G (t::r) v=some p->Wp p:=λp hp=>Oi hp;obtain⟨q9,hq9⟩:∃q9,q9=t::r:=⟨_,rfl⟩;rw[<-hq9]at hs2 a9 o k z ⊢;clear M kr h7 a6 hq9 hb;obtain⟨dr,oU⟩:∃dr,dr=aD q9 v:=⟨_,rfl⟩;rw[<-oU]at o hs2;by_cases hd0:dr=0
       ·rw[if_pos hd0,sJ]at hs2;subst hd0;have d:=zH hs2;clear hs2 k z oU;generalize q9.length=nq at *
        go_wp2_with (first
         | (go_at_call 53;refine o.out.mono ?_;rintro en w8 ⟨rfl,hb8⟩)
         | (go_at_call 51;refine(yN _).mono ?_;rintro en w9 ⟨v9,rfl,h9,hb9⟩))
        go_ret;exact⟨_,rfl,by rw[<-d.out];exact h9,(hbr7.trans (hb8.mono hbr7.size)).trans (hb9.mono (hbr7.trans (hb8.mono hbr7.size)).size)⟩
       ·rw[if_neg hd0]at hs2;have hd1:(dr==0)=false:=by simpa using hd0
        cases hp:lN G q9 v with
        | none=>rw[hp]at hs2;cases hs2
        | some p =>
        rw[hp]at hs2;simp only at hs2
        cases hq:mr p with
        | none=>rw[hq]at hs2;cases hs2
        | some q =>
        rw[hq]at hs2;simp only at hs2;have kp:=z p hp;have kq:=yO hq;have aa:=zH (k.out p hp);have a8:=zH (λW u (hu:ai W u p)=>qF u p q W hu kp hq);replace hs2:=zH hs2;clear hp hq z k oU hd0;generalize q9.length=nq at *
        go_wp2_with (first
         | (go_at_call 53;refine o.out.mono ?_;rintro en w8 ⟨rfl,hb8⟩)
         | (go_at_call 20;refine(aa.out _ hb8).mono ?_;rintro en w9 ⟨v9,rfl,h9,hb9⟩)
         | (go_at_call 14;refine(a8.out _ _ h9).mono ?_;rintro en w10 ⟨v10,rfl,h10,hb10⟩))
        have hb89:=hb8.trans (hb9.mono hb8.size);have hb810:=hb89.trans (hb10.mono hb89.size);go_roundg n
        case measure=>omega
        case rel=>exact⟨b,q,zH (hb2.out.on hb810),zH h10,kb,kq,hs2,hbr7.trans (hb810.mono hbr7.size)⟩
end Go.Proofs.YtopclbeomcggiaaGreat
end
section
namespace Q
open Go Go.RowKit Go.Proofs.YtopclbeomcggiaaGreat
def Bh (G:List aj->List aj->Option (List aj)) (a b:List aj):Option (List aj) :=
 if a=[]then mr b else if b=[]then mr a else if lX a=true\/lX b=true then some Ir else
 dY (SV [a,b]) λv =>
  if aD b v=0 then dY (ni G a v) λc=>G c b
  else if aD a v=0 then dY (ni G b v) λc=>G a c
  else dY (ni G a v) λx=>dY (ni G b v) λy=>dY (G x y) λg=>dY (gT a x) λp=>dY (gT b y) λq =>
   if p=[]\/q=[]then none else dY (EX G p q v) λs=>dY (g1 (aZ g s)) mr
def uz:Nat->List aj->List aj->Option (List aj)
 | 0,_,_=>none
 | n+1,a,b=>Bh (uz n) a b
theorem Tc{w:World}{e d:Value}{a b:List aj}(ha:ai w e a)(hb:ai w d b):jq (w.alloc (.cells #[e,d] 27)) (.slice (some ⟨w.heap.size,0,none⟩) 2 2) [a,b]:=by have h:Below w.heap.size w (w.alloc (.cells #[e,d] 27)):=(Below.refl _ _).alloc (nL _) _;exact⟨_,_,[e,d],rfl,nL _,(Blk.new w polyT [e,d]).at,⟨[e],[d],rfl,⟨e,rfl,ha.on h⟩,⟨[d],[],rfl,⟨d,rfl,hb.on h⟩,rfl⟩⟩⟩
end Q
namespace Go.Proofs.YtopclbeomcggiaaGreat
open Go.RowKit Q
theorem UY{G:List aj->List aj->Option (List aj)}{v:Nat}{a b g:List aj}(d:Wp a)(kb:Wp b)(h:EX G a b v=some g):Wp g:=by
 unfold EX at h;split at h
 ·exact Om d h
 ·exact Om kb h
theorem UZ{G:List aj->List aj->Option (List aj)}(d:D5 G){a b g:List aj}(e:Wp a)(kb:Wp b)(h:Bh G a b=some g):Wp g:=by
 unfold Bh at h;split at h
 ·exact yO h
 split at h
 ·exact yO h
 split at h
 ·cases h;exact D7
 obtain⟨v,-,h⟩:=aX h;split at h
 ·obtain⟨c,hc,h⟩:=aX h;exact(d _ _ _ (uf d e hc) kb h).2
 split at h
 ·obtain⟨c,hc,h⟩:=aX h;exact(d _ _ _ e (uf d kb hc) h).2
 obtain⟨x,k,h⟩:=aX h;obtain⟨y,l,h⟩:=aX h;obtain⟨i,hg,h⟩:=aX h;obtain⟨p,hp,h⟩:=aX h;obtain⟨q,hq,h⟩:=aX h;split at h
 ·cases h
 obtain⟨s,j,h⟩:=aX h;obtain⟨m,hm,h⟩:=aX h;exact yO h
theorem Td{G:List aj->List aj->Option (List aj)}(n:D5 G):D5 (Bh G):=by
 intro a b g D kb h;refine⟨λva vb w k l=>?_,UZ n D kb h⟩;unfold Bh at h;by_cases ha0:a=[]
 ·rw[if_pos ha0]at h;subst ha0;have hc:=qF vb b g w l kb h;obtain⟨aa,ca,rfl,d⟩:=k.shape;simp only[List.length_nil];obtain⟨ab,cb,rfl,i⟩:=l.shape;clear h n
  go_enter Tryz.func16,Tryz.ntmps16
  go_wp2_with (go_at_call 14;refine hc.mono ?_;rintro en w1 ⟨v1,rfl,h1,hb1⟩)
  go_ret;exact⟨_,rfl,h1,hb1⟩
 rw[if_neg ha0]at h;by_cases hb0:b=[]
 ·rw[if_pos hb0]at h;subst hb0;have hc:=qF va a g w k D h;obtain⟨aa,ca,rfl,d⟩:=k.shape;obtain⟨ab,cb,rfl,i⟩:=l.shape;simp only[List.length_nil];have ad:((a.length:Int)==0)=false:=by have:=List.length_pos_iff.2 ha0;simp;omega
  generalize a.length=na at *;clear h n ha0
  go_enter Tryz.func16,Tryz.ntmps16
  go_wp2_with (go_at_call 14;refine hc.mono ?_;rintro en w1 ⟨v1,rfl,h1,hb1⟩)
  go_ret;exact⟨_,rfl,h1,hb1⟩
 rw[if_neg hb0]at h;have d:=λW (hb:Below w.heap.size w W)=>tZ va a W (k.on hb);have i:=λW (hb:Below w.heap.size w W)=>tZ vb b W (l.on hb)
 have j:=λW (hb:Below w.heap.size w W)=>Kh _ [a,b] _ (Tc (k.on hb) (l.on hb)) sM (λc hc=>by
  rcases List.mem_cons.1 hc with rfl|hc
  ·exact D
  ·rw[List.mem_singleton.1 hc];exact kb)
 have hA:=λW (hb:Below w.heap.size w W)=>k.on hb;have hB:=λW (hb:Below w.heap.size w W)=>l.on hb;have ag:=ha0;have al:=hb0;have X:((a.length:Int)==0)=false:=by have:=List.length_pos_iff.2 ha0;simp;omega
 have Y:((b.length:Int)==0)=false:=by have:=List.length_pos_iff.2 hb0;simp;omega
 obtain⟨aa,ca,rfl,I⟩:=k.shape;obtain⟨ab,cb,rfl,J⟩:=l.shape;obtain⟨na,N⟩:∃na,na=a.length:=⟨_,rfl⟩;obtain⟨nb,S⟩:∃nb,nb=b.length:=⟨_,rfl⟩;rw[<-N]at X d j hA ⊢;rw[<-S]at Y i j hB ⊢;replace j:=zH j;replace hA:=zH hA;replace hB:=zH hB;clear N S I J k l ha0 hb0;cases ha1:lX a
 case true =>
  rw[if_pos (.inl ha1)]at h;cases h;rw[ha1]at d;clear ha1 i;replace d:=zH d
  go_enter Tryz.func16,Tryz.ntmps16
  go_wp2_with (first
   | (go_at_call 50;refine(d.out _ (Below.refl _ _)).mono ?_;rintro en w1 ⟨rfl,hb1⟩)
   | (go_at_call 51;refine(yN _).mono ?_;rintro en w2 ⟨v2,rfl,h2,hb2⟩))
  go_ret;exact⟨_,rfl,h2,hb1.trans (hb2.mono hb1.size)⟩
 case false =>
  rw[ha1]at d;cases hb1:lX b
  case true =>
   rw[if_pos (.inr hb1)]at h;cases h;rw[hb1]at i;clear ha1 hb1;replace d:=zH d;replace i:=zH i
   go_enter Tryz.func16,Tryz.ntmps16
   go_wp2_with (first
    | (go_at_call 50;refine(i.out w1 hb1).mono ?_;rintro en w2 ⟨rfl,hb2⟩)
    | (go_at_call 50;refine(d.out _ (Below.refl _ _)).mono ?_;rintro en w1 ⟨rfl,hb1⟩)
    | (go_at_call 51;refine(yN _).mono ?_;rintro en w3 ⟨v3,rfl,h3,hb3⟩))
   go_ret;exact⟨_,rfl,h3,(hb1.trans (hb2.mono hb1.size)).trans (hb3.mono (hb1.trans (hb2.mono hb1.size)).size)⟩
  case false =>
   rw[if_neg (by rintro (h|h);rw[ha1]at h;cases h;rw[hb1]at h;cases h)]at h;obtain⟨v,hv,h⟩:=aX h;have hv4:v<4:=Oj hv;rw[hb1]at i;rw[hv]at j;clear ha1 hb1 hv;replace d:=zH d;replace i:=zH i;have z:=zH (λW (hb:Below w.heap.size w W)=>kD _ a v W (hA.out W hb) hv4 (by have:=D.len;omega));have C:=zH (λW (hb:Below w.heap.size w W)=>kD _ b v W (hB.out W hb) hv4 (by have:=kb.len;omega));change Hid (∀W,_->Calls _ _ _ _ (pX _ (.int .i64 (v:Int))))at j
   go_enter Tryz.func16,Tryz.ntmps16
   go_upto_region 8 with (first
    | (go_at_call 50;refine(i.out w1 hb1).mono ?_;rintro en w2 ⟨rfl,hb2⟩;have hb12:=hb1.trans (hb2.mono hb1.size))
    | (go_at_call 50;refine(d.out _ (Below.refl _ _)).mono ?_;rintro en w1 ⟨rfl,hb1⟩)
    | (go_at_call 52;refine(j.out _ hb12).mono ?_;rintro en w3 ⟨rfl,hb3⟩))
   have hb0:=hb12.trans (((Below.refl _ _).alloc (nL _) _).trans (hb3.mono sM) |>.mono hb12.size);obtain⟨da,hda2⟩:∃da,da=aD a v:=⟨_,rfl⟩;obtain⟨Z,hdb2⟩:∃Z,Z=aD b v:=⟨_,rfl⟩;rw[<-hda2]at z h;rw[<-hdb2]at C h;have hD1:=zH (C.out w3 hb0);clear d i j hb1 hb2 hb12 hb3 hda2 hdb2;by_cases hd1:Z=0
   ·rw[if_pos hd1]at h;obtain⟨c,hc,h⟩:=aX h;have F:=zH (λW (hb:Below w.heap.size w W)=>mP n _ a c v W hv4 (hA.out W hb) D hc);have o:=zH (n _ _ _ (uf n D hc) kb h).1;subst hd1;clear h hc z C
    go_wp2_with (first
     | (go_at_call 53;refine hD1.out.mono ?_;rintro en w4 ⟨rfl,hb4⟩;have hb04:=hb0.trans (hb4.mono hb0.size))
     | (go_at_call 18;refine(F.out _ hb04).mono ?_;rintro en w5 ⟨v5,rfl,h5,hb5⟩;have hb05:=hb04.trans (hb5.mono hb04.size);have a1:=hB.out _ hb05)
     | (go_at_call 16;refine(o.out _ _ _ h5 a1).mono ?_;rintro en w6 ⟨v6,rfl,h6,hb6⟩))
    go_ret;exact⟨_,rfl,h6,hb05.trans (hb6.mono hb05.size)⟩
   ·rw[if_neg hd1]at h;have a9:(Z==0)=false:=by simpa using hd1
    by_cases hd2:da=0
    ·rw[if_pos hd2]at h;obtain⟨c,hc,h⟩:=aX h;have F:=zH (λW (hb:Below w.heap.size w W)=>mP n _ b c v W hv4 (hB.out W hb) kb hc);have o:=zH (n _ _ _ D (uf n kb hc) h).1;subst hd2;clear h hc hd1
     go_wp2_with (first
      | (go_at_call 53;refine(z.out w4 hb04).mono ?_;rintro en w5 ⟨rfl,hb5⟩;have hb05:=hb04.trans (hb5.mono hb04.size))
      | (go_at_call 53;refine hD1.out.mono ?_;rintro en w4 ⟨rfl,hb4⟩;have hb04:=hb0.trans (hb4.mono hb0.size))
      | (go_at_call 18;refine(F.out _ hb05).mono ?_;rintro en w6 ⟨v6,rfl,h6,hb6⟩;have hb06:=hb05.trans (hb6.mono hb05.size);have a0:=hA.out _ hb06)
      | (go_at_call 16;refine(o.out _ _ _ a0 h6).mono ?_;rintro en w7 ⟨v7,rfl,h7,hb7⟩))
     go_ret;exact⟨_,rfl,h7,hb06.trans (hb7.mono hb06.size)⟩
    ·rw[if_neg hd2]at h;have ac:(da==0)=false:=by simpa using hd2
     obtain⟨x,hx,h⟩:=aX h;obtain⟨y,hy,h⟩:=aX h;obtain⟨g',hg,h⟩:=aX h;obtain⟨p,hp,h⟩:=aX h;obtain⟨q,hq,h⟩:=aX h;by_cases B:p=[]\/q=[]
     ·rw[if_pos B]at h;cases h
     rw[if_neg B]at h;obtain⟨s,hs,h⟩:=aX h;obtain⟨m,hm,h⟩:=aX h;obtain⟨rfl,km⟩:=kG hm;have kx:=uf n D hx;have ky:=uf n kb hy;have kg:=(n _ _ _ kx ky hg).2;have kp:=qX hp;have kq:=qX hq;have ks:=UY kp kq hs;have r:=kg.mulOk ks;have L:=zH (λW (hb:Below w.heap.size w W)=>mP n _ a x v W hv4 (hA.out W hb) D hx);have M:=zH (λW (hb:Below w.heap.size w W)=>mP n _ b y v W hv4 (hB.out W hb) kb hy);have o:=zH (n _ _ _ kx ky hg).1;have a4:=zH (λW u (hb:Below w.heap.size w W) (hu:ai W u x)=>oC _ u a x p W (hA.out W hb) hu kx hp);have a5:=zH (λW u (hb:Below w.heap.size w W) (hu:ai W u y)=>oC _ u b y q W (hB.out W hb) hu ky hq);have a8:=zH (λW u1 u2 (h1:ai W u1 p) (h2:ai W u2 q) (n1:p≠[]) (n2:q≠[])=>Iw n u1 u2 p q s v W h1 h2 kp kq n1 n2 hv4 hs);have a2:=zH (λW u1 u2 (h1:ai W u1 g') (h2:ai W u2 s)=>zL u1 u2 g' s W h1 h2 r.kp r.kq r.ko r.kl.1 r.kl.2);have a3:=zH (λW u (hu:ai W u (aZ g' s))=>qF u _ g W hu km h);have a6:p≠[]:=λh=>B (.inl h);have a7:q≠[]:=λh=>B (.inr h);clear h hx hy hg hp hq hs hm B km kx ky kg kp kq ks r hd1 hd2;generalize aZ g' s=m at *
     go_upto_region 12 with (first
      | (go_at_call 53;refine(z.out w4 hb04).mono ?_;rintro en w5 ⟨rfl,hb5⟩;have hb05:=hb04.trans (hb5.mono hb04.size))
      | (go_at_call 53;refine hD1.out.mono ?_;rintro en w4 ⟨rfl,hb4⟩;have hb04:=hb0.trans (hb4.mono hb0.size)))
     clear hD1 z C
     go_upto_region 13 with (first
      | (go_at_call 18;refine(M.out w6 hb06).mono ?_;rintro en w7 ⟨v7,rfl,h7,hb7⟩;have hb07:=hb06.trans (hb7.mono hb06.size);have h67:=h6.on hb7)
      | (go_at_call 18;refine(L.out _ hb05).mono ?_;rintro en w6 ⟨v6,rfl,h6,hb6⟩;have hb06:=hb05.trans (hb6.mono hb05.size)))
     have hgc2:=zH (o.out _ _ _ h67 h7);clear L M o
     go_wp2_with (first
      | (go_at_call 56;refine(a5.out w9 v7 hb09 h79).mono ?_;rintro en w10 ⟨v10,rfl,h10,hb10⟩;have hb010:=hb09.trans (hb10.mono hb09.size);have h910:=h9.on hb10;have h810:=(h8.on hb9).on hb10)
      | (go_at_call 56;refine(a4.out w8 v6 hb08 h68).mono ?_;rintro en w9 ⟨v9,rfl,h9,hb9⟩;have hb09:=hb08.trans (hb9.mono hb08.size);have h79:=h78.on hb9)
      | (go_at_call 16;refine hgc2.out.mono ?_;rintro en w8 ⟨v8,rfl,h8,hb8⟩;have hb08:=hb07.trans (hb8.mono hb07.size);have h68:=h67.on hb8;have h78:=h7.on hb8)
      | (go_at_call 55;refine(a8.out _ _ _ h910 h10 a6 a7).mono ?_;rintro en w11 ⟨v11,rfl,h11,hb11⟩;have hb011:=hb010.trans (hb11.mono hb010.size);have h811:=h810.on hb11)
      | (go_at_call 54;refine(a2.out _ _ _ h811 h11).mono ?_;rintro en w12 ⟨v12,rfl,h12,hb12⟩;have hb012:=hb011.trans (hb12.mono hb011.size))
      | (go_at_call 14;refine(a3.out _ _ h12).mono ?_;rintro en w13 ⟨v13,rfl,h13,hb13⟩))
     go_ret;exact⟨_,rfl,h13,hb012.trans (hb13.mono hb012.size)⟩
theorem rY:∀n,D5 (uz n)
 | 0=>λa b g _ _ h=>by simp[uz]at h
 | n+1=>Td (rY n)
end Go.Proofs.YtopclbeomcggiaaGreat
end
section
namespace Q
open Go Go.RowKit Go.Proofs.YtopclbeomcggiaaGreat
def AU:El (List aj × Nat) where
 T:=54
 sz:=2
 pos:=by decide
 E w cs f:=∃v,cs=[v,.int .i64 (f.2:Int)]/\ai w v f.1
 len:=by rintro w c t ⟨v,rfl,-⟩;rfl
 one:=by
  rintro w c t ⟨v,rfl,h⟩ u hu;simp only[List.mem_cons,List.not_mem_nil,or_false]at hu;rcases hu with rfl|rfl
  ·exact bV.one h
  ·rfl
 on:=by rintro w w' c t ⟨v,rfl,h⟩ hb;exact⟨v,rfl,bV.on h hb⟩
 ok T:=aL.ok T/\aJ≠T
 lr:=by rintro g T' w w' c t ⟨v,rfl,h⟩ hl hT;exact⟨v,rfl,bV.lr h hl hT.1 hT.2⟩
 self:=⟨aV (by decide),by decide⟩
theorem U3{G:List aj->List aj->Option (List aj)}{a p:List aj}{v:Nat}{R:List (List aj × Nat)}(h:(if aD p v<1 then some []else
  dY (g1 (aS p v)) λd=>dY (G p d) λg=>dY (gT p g) λw=>dY (gT d g) λy=>yK G v fuel 1 w y [])=some R)(hd:¬aD p v<1) :
  ∃g w0 b,Wp (aS p v)/\G p (aS p v)=some g/\gT p g=some w0/\gT (aS p v) g=some b/\yK G v fuel 1 w0 b []=some R:=by
 rw[if_neg hd]at h;obtain⟨d,hd,h⟩:=aX h;obtain⟨rfl,j⟩:=kG hd;obtain⟨g,hg,h⟩:=aX h;obtain⟨w0,e,h⟩:=aX h;obtain⟨b,i,h⟩:=aX h;exact⟨g,w0,b,j,hg,e,i,h⟩
theorem Te{G:List aj->List aj->Option (List aj)}{x y:List aj}{v f n:Nat}{out R:List (List aj × Nat)}(h:yK G v (f+1) n x y out=some R)(hd:0<aD x v) :
  ∃g x' y',Wp (aS x v)/\Wp (gp y (aS x v))/\G x (gp y (aS x v))=some g/\gT x g=some x'/\gT (gp y (aS x v)) g=some y'/\yK G v f (n+1) x' y' (if 0<aD g v then out++[(g,n)]else out)=some R:=by
 rw[yK,if_pos hd]at h;obtain⟨d,b,h⟩:=aX h;obtain⟨rfl,k⟩:=kG b;obtain⟨z,j,h⟩:=aX h;obtain⟨rfl,l⟩:=kG j;obtain⟨g,hg,h⟩:=aX h;obtain⟨x',e,h⟩:=aX h;obtain⟨y',i,h⟩:=aX h;exact⟨g,x',y',k,l,hg,e,i,h⟩
abbrev zY (base:Nat) (w:World) (v:Value) (l:List (List aj × Nat)):Prop:=di AU base w v l
abbrev vC (w:World) (v:Value) (l:List (List aj × Nat)):Prop:=bV AU w v l
end Q
namespace Go.Proofs.YtopclbeomcggiaaGreat
open Go.RowKit Q
theorem D9:∃z bytes,(Tryz.prog.info? AU.T).map (λi=>(i.zero,i.size,i.bytes))=some (some z,AU.sz,bytes)/\z.cells.size=AU.sz/\bytes<=100000:=⟨.agg #[.slice none 0 0,.int .i64 0],32,kM,rfl,dM⟩
def Ea (w:World) (l:List (List aj × Nat)) (e:Ending) (w':World):Prop:=∃v,e=.returned v/\vC w' v l/\Below w.heap.size w w'
theorem Wp.part{p:List aj}(h:Wp p)(v:Nat):∀t∈p,Rk t.2/\t.1.get v<=100000000/\Rk (t.1.get v:Rat):=λt b=>by have d:=h.exps b v;refine⟨h.rk t b,oM,?_⟩;obtain⟨m,hm⟩:∃m:Nat,t.1.get v=m:=⟨(t.1.get v).toNat,oM⟩;rw[hm];refine(ve (s:=⟨1,100000,1,1⟩) dK (Dv.int 1 (m:Int)) ?_).rk;rw[rabs_int];exact Rat.natCast_le_natCast.2 (by show(m:Int).natAbs<=100000;omega)
theorem VS{b:Value}{p:List aj}{v:Nat}{w:World}(h:Wp p)(hv:v<4)(hp:ai w b p):Calls Tryz.prog 73 #[b,.int .i64 v] w (aP w (aS p v)) :=
 JL b p v w hp hv (Wp.part h v) (by have:=h.len;omega)
theorem Xe{d e:Value}{p q:List aj}{w:World}(h:Wp p)(b:Wp q)(hp:ai w d p)(hq:ai w e q):Calls Tryz.prog 74 #[d,e] w (aP w (gp p q)) :=
 H8 d e p q w hp hq h.rk b.rk (by have:=h.len;omega) (by have:=b.len;omega) h.val b.val
theorem vD{G:List aj->List aj->Option (List aj)}(HG:D5 G)(va:Value)(a:List aj)(R:List (List aj × Nat))(v:Nat)(w:World)(ha:ai w va a)(ka:Wp a)(hv:v<4)(h:VR G a v=some R) :
  Calls Tryz.prog 29 #[va,.int .i64 v] w (Ea w R):=by
 have hex:∃p,lN G a v=some p/\((aD p v<1/\R=[])\/(¬aD p v<1/\∃g w0 y0,Wp (aS p v)/\G p (aS p v)=some g/\gT p g=some w0/\gT (aS p v) g=some y0/\yK G v fuel 1 w0 y0 []=some R)):=by
  unfold VR at h;obtain⟨p,hp,h⟩:=aX h;refine⟨p,hp,?_⟩;by_cases hd:aD p v<1
  ·rw[if_pos hd,sJ]at h;exact .inl ⟨hd,h.symm⟩
  ·exact .inr ⟨hd,U3 (a:=a) h hd⟩
 clear h;obtain⟨p,hp,hex⟩:=hex;have kp:=Oi hp;have J:=zH (rC HG va a p v w hv ha ka hp);have s:=zH (λW u (hu:ai W u p)=>kD u p v W hu hv (by have:=kp.len;omega));obtain⟨dp,hdp2⟩:∃dp,dp=aD p v:=⟨_,rfl⟩;rw[<-hdp2]at s hex;clear hp hdp2;rcases hex with ⟨hd1,rfl⟩|⟨hd1,g,w0,y0,kd,hg,hw,M,h⟩
 ·go_enter Tryz.func29,Tryz.ntmps29
  go_wp2_with (first
   | (go_at_call 20;refine J.out.mono ?_;rintro en w3 ⟨v3,rfl,h3,hb3⟩)
   | (go_at_call 53;refine(s.out _ _ h3).mono ?_;rintro en w4 ⟨rfl,hb4⟩))
  go_ret;exact⟨_,rfl,bV.nil _ _,hb3.trans (hb4.mono hb3.size)⟩
 ·have q:=zH (λW u (hu:ai W u p)=>VS (w:=W) kp hv hu);generalize aS p v=d at *;obtain⟨b,D⟩:=HG _ _ _ kp kd hg;have kw:=qX hw;have ky:=qX M;replace b:=zH b;have m:=zH (λW u1 u2 (h1:ai W u1 p) (h2:ai W u2 g)=>oC u1 u2 p g w0 W h1 h2 D hw);have o:=zH (λW u1 u2 (h1:ai W u1 d) (h2:ai W u2 g)=>oC u1 u2 d g y0 W h1 h2 D M);obtain⟨F,hF⟩:∃F,F=fuel:=⟨_,rfl⟩;have hF9:1+F<=10000001:=by rw[hF];decide
  rw[<-hF]at h;replace h:=zH h;clear hF hg hw M kp kd D
  go_enter Tryz.func29,Tryz.ntmps29
  go_upto_region 6 with (first
   | (go_at_call 20;refine J.out.mono ?_;rintro en w3 ⟨v3,rfl,h3,hb3⟩)
   | (go_at_call 53;refine(s.out _ _ h3).mono ?_;rintro en w4 ⟨rfl,hb4⟩;have h34:=h3.on hb4)
   | (go_at_call 73;refine(q.out _ _ h34).mono ?_;rintro en w5 ⟨v5,rfl,h5,hb5⟩))
  have h35:=h34.on hb5;have hb05:=(hb3.trans (hb4.mono hb3.size)).trans (hb5.mono (hb3.trans (hb4.mono hb3.size)).size);have hgc2:=zH (b.out _ _ _ h35 h5);clear hb3 hb4 hb5 h34 h3 J q s b hd1
  go_upto_region 7 with (go_at_call 16;refine hgc2.out.mono ?_;rintro en w6 ⟨v6,rfl,h6,hb6⟩)
  have how2:=zH (m.out _ _ _ (h35.on hb6) h6);have hoy2:=zH (λW (hb:Below w6.heap.size w6 W)=>o.out W _ _ ((h5.on hb6).on hb) (h6.on hb));clear m o h35 h5 hgc2
  go_upto_region 8 with (first
   | (go_at_call 56;refine(hoy2.out w7 hb7).mono ?_;rintro en w8 ⟨v8,rfl,h8,hb8⟩)
   | (go_at_call 56;refine how2.out.mono ?_;rintro en w7 ⟨v7,rfl,h7,hb7⟩))
  have hb68:=hb6.trans ((hb7.trans (hb8.mono hb7.size)).mono hb6.size);have hb08:=hb05.trans (hb68.mono hb05.size);have h78:=zH (h7.on hb8);replace h8:=zH h8;clear how2 hoy2 hb05 hb6 hb7 hb8 hb68 h6 h7;go_wp2
  go_loopg [6,9,10,11] F (λf vo vw vy vn wr=>∃(n:Nat)(x y:List aj)(out:List (List aj × Nat)),vn=.int .i64 n/\Hid (zY w.heap.size wr vo out)/\Hid (ai wr vw x)/\Hid (ai wr vy y)/\Wp x/\Wp y/\Hid (yK G v f n x y out=some R)/\n+f<=10000001/\out.length<=n/\Below w.heap.size w wr)
  case atStart=>exact⟨1,w0,y0,[],rfl,zH (di.nil _ _ _),h78,h8,kw,ky,h,hF9,sM,hb08⟩
  case round =>
   clear h78 h8 kw ky h hF9 hb08;obtain⟨n,x,y,out,rfl,S,C,M,kx,ky,hs,a9,aa,r⟩:=hrel
   cases gk with
   | zero=>exact absurd hs.out (by simp[yK])
   | succ f =>
   have hs2:=hs.out;have hinv:=Te hs2;rw[yK]at hs2;have B:=zH (kD _ x v wr C.out hv (by have:=kx.len;omega));obtain⟨dx,hdx2⟩:∃dx,dx=aD x v:=⟨_,rfl⟩;rw[<-hdx2]at B hs2 hinv;clear hs hdx2;by_cases hd:0<dx
   ·clear hs2;obtain⟨g,x',y',kd,kz,hg,L,N,hs2⟩:=hinv hd;clear hinv;have q:=zH (λW (h1:Below wr.heap.size wr W)=>VS (w:=W) kx hv (C.out.on h1));have a1:=zH (λW u (h1:Below wr.heap.size wr W) (hu:ai W u (aS x v))=>Xe (w:=W) ky kd (M.out.on h1) hu);generalize aS x v=d at *;generalize gp y d=z at *;obtain⟨b,D⟩:=HG _ _ _ kx kz hg;replace b:=zH b;have I:=zH (λW u (hu:ai W u g)=>kD u g v W hu hv (by have:=D.len;omega));have a7:=qX L;have a8:=qX N;have m:=zH (λW u1 u2 (h1:ai W u1 x) (h2:ai W u2 g)=>oC u1 u2 x g x' W h1 h2 D L);have o:=zH (λW u1 u2 (h1:ai W u1 z) (h2:ai W u2 g)=>oC u1 u2 z g y' W h1 h2 D N);obtain⟨dg,hdg2⟩:∃dg,dg=aD g v:=⟨_,rfl⟩;rw[<-hdg2]at I hs2;clear hg L N kd kz D hdg2
    go_upto_region 12 with (first
     | (go_at_call 53;refine B.out.mono ?_;rintro en w3 ⟨rfl,hb3⟩)
     | (go_at_call 73;refine(q.out _ hb3).mono ?_;rintro en w4 ⟨v4,rfl,h4,hb4⟩;have hb34:=hb3.trans (hb4.mono hb3.size))
     | (go_at_call 74;refine(a1.out _ _ hb34 h4).mono ?_;rintro en w5 ⟨v5,rfl,h5,hb5⟩))
    have hb35:=hb34.trans (hb5.mono hb34.size);have hgc2:=zH (b.out _ _ _ (C.out.on hb35) h5);have hx5:=C.out.on hb35;have ho5:=S.out.on hb35;have hbr5:=r.trans (hb35.mono r.size);clear hb3 hb4 hb5 hb34 hb35 h4 q a1 B b C M S
    go_upto_region 13 with (go_at_call 16;refine hgc2.out.mono ?_;rintro en w6 ⟨v6,rfl,h6,hb6⟩)
    have hx6:=hx5.on hb6;have hz6:=h5.on hb6;have ho6:=ho5.on hb6;have hbr6:=hbr5.trans (hb6.mono hbr5.size);have hdg2:=zH (I.out _ _ h6);clear hgc2 hx5 h5 ho5 hbr5 hb6 I;have hn1:n<=10000000:=oM
    go_upto_if 50 with (go_at_call 53;refine hdg2.out.mono ?_;rintro en w7 ⟨rfl,hb7⟩)
    have hx7:=hx6.on hb7;have hz7:=hz6.on hb7;have ho7:=ho6.on hb7;have hg7:=h6.on hb7;have hbr7:=hbr6.trans (hb7.mono hbr6.size);clear hx6 hz6 ho6 h6 hbr6 hb7 hdg2
    go_cut [6,51,52,53,54,55,56] (λvo _ _ _ _ _ _ wd=>Hid (zY w.heap.size wd vo (if 0<dg then out++[(g,n)]else out))/\Hid (ai wd u9 x)/\Hid (ai wd v5 z)/\Hid (ai wd v6 g)/\Below w.heap.size w wd)
    case first =>
     by_cases hp:0<dg
     ·have i:Below w7.heap.size w7 (w7.alloc (.cells #[v6,.int .i64 n] 54)):=(Below.refl _ _).alloc (nL _) _;have l:=hbr7.trans (i.mono hbr7.size);have a0:=ho7.on i
      have a3:vC (w7.alloc (.cells #[v6,.int .i64 n] 54)) (.slice (some ⟨w7.heap.size,0,none⟩) 1 1) [(g,n)] :=
       ⟨_,1,[v6,.int .i64 n],rfl,nL _,(Blk.new w7 54 [v6,.int .i64 n]).at,eU.single ⟨v6,rfl,hg7.on i⟩⟩
      have a4:=hx7.on i;have a5:=hz7.on i;have a2:=hg7.on i;have j:=ho7.base_le;obtain⟨a6,c6,rfl,-⟩:=hg7.shape;replace j:=zH j;clear hx7 hz7 hg7 ho7
      go_wp2_with (at_builtin;refine dL rfl _ _ 50 rfl Tryz.underlying50 D9 rfl rfl a0 a3 (by simp;omega) l.size ?_;intro v8 w8 hown8 hl8 hv8)
      have hb8:=l.trans (hl8.belowAt l.size (λk hk=>(j.out k hk).1));have hx8:=a4.lr hl8 (aV dM) dM;have hz8:=a5.lr hl8 (aV dM) dM;have hg8:=a2.lr hl8 (aV dM) dM;go_meet
      case rel=>exact⟨zH (by rw[if_pos hp];exact hown8),zH hx8,zH hz8,zH hg8,hb8⟩
     ·go_wp2;go_meet
      case rel=>exact⟨zH (by rw[if_neg oM];exact ho7),zH hx7,zH hz7,zH hg7,hbr7⟩
    case rest =>
     clear hx7 hz7 hg7 ho7 hbr7;obtain⟨S,C,hz,hg,X⟩:=hcut;have how2:=zH (m.out _ _ _ C.out hg.out);have hoy2:=zH (λW (hb:Below wc.heap.size wc W)=>o.out W _ _ (hz.out.on hb) (hg.out.on hb))
     have Z:(if 0<dg then out++[(g,n)]else out).length<=n+1:=by
      split
      ·simp;omega
      ·omega
     replace hs2:=zH hs2;generalize(if 0<dg then out++[(g,n)]else out)=out2 at *;clear m o C hz hg
     go_wp2_with (first
      | (go_at_call 56;refine(hoy2.out w9 hb9).mono ?_;rintro en w10 ⟨v10,rfl,h10,hb10⟩)
      | (go_at_call 56;refine how2.out.mono ?_;rintro en w9 ⟨v9,rfl,h9,hb9⟩))
     have hb910:=hb9.trans (hb10.mono hb9.size);go_roundg f
     case measure=>omega
     case rel=>exact⟨n+1,x',y',out2,nM,zH (S.out.on hb910),zH (h9.on hb10),zH h10,a7,a8,hs2,oM,Z,X.trans (hb910.mono X.size)⟩
   ·rw[if_neg hd,sJ]at hs2;have Y:=zH hs2;have hS:=S.out.isSl;clear hs2 S C M
    go_wp2_with (go_at_call 53;refine B.out.mono ?_;rintro en w3 ⟨rfl,hb3⟩)
    go_ret;exact⟨_,rfl,by rw[<-Y.out];exact hS.on hb3,r.trans (hb3.mono r.size)⟩
end Go.Proofs.YtopclbeomcggiaaGreat
end
section
namespace Q
open Go Go.RowKit Go.Proofs.YtopclbeomcggiaaGreat
abbrev Mx:=List (List (List aj))
def lY (M:Mx) (i j:Nat):List aj:=(M.getD i []).getD j []
def EZ (M:Mx) (i j:Nat) (x:List aj):Mx:=M.set i ((M.getD i []).set j x)
def nk (l:List (List aj)) (at_ N:Nat):Nat->List (List aj)
 | 0=>List.replicate N []
 | k+1=>(nk l at_ N k).set (at_+l.length-1-k) (l.getD k [])
def jk (a b:List (List aj)) (N i:Nat):List (List aj):=if b.length-1<=i then nk b (i-(b.length-1)) N b.length else nk a i N a.length
def Xf (a b:List (List aj)):Mx:=(List.range (a.length-1+(b.length-1))).map (jk a b (a.length-1+(b.length-1)))
theorem Gb(l:List (List aj))(at_ N:Nat):∀k,(nk l at_ N k).length=N
 | 0=>by simp[nk]
 | k+1=>by rw[nk,List.length_set,Gb l at_ N k]
def Zb (N k i:Nat) (last:List aj):Nat->Mx->Option Mx
 | 0,M=>some M
 | f+1,M=>dY (gT (gp (aZ (lY M k k) (lY M i (N-(f+1)))) (aZ (lY M i k) (lY M k (N-(f+1))))) last) λx=>Zb N k i last f (EZ M i (N-(f+1)) x)
def Zc (N k:Nat) (last:List aj):Nat->Mx->Option Mx
 | 0,M=>some M
 | f+1,M=>dY (Zb N k (N-(f+1)) last (N-(k+1)) M) λM'=>Zc N k last f M'
def Kl (N k:Nat) (M:Mx):Nat->Option Nat
 | 0=>none
 | f+1=>if lY M (N-(f+1)) k=[]then Kl N k M f else some (N-(f+1))
def vE (M:Mx) (i j:Nat):Mx:=(M.set i (M.getD j [])).set j (M.getD i [])
def Ye (last:List aj) (neg:Bool):List aj:=if neg then gp [] last else last
def resS (N:Nat):Nat->Mx->List aj->Bool->Option (List aj)
 | 0,_,last,neg=>some (Ye last neg)
 | f+1,M,last,neg=>match Kl N (N-(f+1)) M (f+1)with
  | none=>some []
  | some at_ =>
   let M1:=if at_=N-(f+1)then M else vE M (N-(f+1)) at_
   let neg1:=if at_=N-(f+1)then neg else !neg
   if f=0 then some (Ye (lY M1 (N-(f+1)) (N-(f+1))) neg1)
   else dY (Zc N (N-(f+1)) last f M1) λM2=>resS N f M2 (lY M2 (N-(f+1)) (N-(f+1))) neg1
def Km (a b:List aj) (v:Nat):Option (List aj) :=
 if a=[]\/b=[]then some []else resS ((aB a v).length-1+((aB b v).length-1)) ((aB a v).length-1+((aB b v).length-1)) (Xf (aB a v) (aB b v)) Ir false
structure xy (N:Nat) (M:Mx):Prop where
 len:M.length=N
 rows:∀r∈M,r.length=N
 el:∀r∈M,∀x∈r,Wp x
theorem xy.get{N:Nat}{M:Mx}(h:xy N M)(i j:Nat):Wp (lY M i j):=by
 unfold lY;rcases Nat.lt_or_ge i M.length with hi|hi
 ·rw[jD (l:=M),gE hi,Option.getD_some];rcases Nat.lt_or_ge j M[i].length with hj|hj
  ·rw[jD,gE hj];exact h.el _ (List.getElem_mem hi) _ (List.getElem_mem hj)
  ·rw[jD,gN hj];exact Wp.nil
 ·rw[jD (l:=M),gN hi];simp;exact Wp.nil
theorem xy.row{N:Nat}{M:Mx}(h:xy N M){i:Nat}(d:i<N):M.getD i []∈M/\(M.getD i []).length=N/\M[i]?=some (M.getD i []):=by
 have b:i<M.length:=by rw[h.len];exact d
 have e:M.getD i []=M[i]:=by rw[jD,gE b];rfl
 rw[e];exact⟨List.getElem_mem b,h.rows _ (List.getElem_mem b),gE b⟩
theorem xy.set{N:Nat}{M:Mx}(h:xy N M){i j:Nat}{x:List aj}(l:i<N)(m:Wp x):xy N (EZ M i j x):=by
 obtain⟨e,k,n⟩:=h.row l;refine⟨by rw[EZ,List.length_set];exact h.len,λr b=>?_,λr b y d=>?_⟩
 ·rcases List.mem_or_eq_of_mem_set b with b|rfl
  ·exact h.rows r b
  ·rw[List.length_set];exact k
 ·rcases List.mem_or_eq_of_mem_set b with b|rfl
  ·exact h.el r b y d
  ·rcases List.mem_or_eq_of_mem_set d with d|rfl
   ·exact h.el _ e y d
   ·exact m
theorem xy.swap{N:Nat}{M:Mx}(h:xy N M){i j:Nat}(d:i<N)(e:j<N):xy N (vE M i j):=by
 have hm:∀r∈vE M i j,r∈M:=λr b=>by
  rcases List.mem_or_eq_of_mem_set b with b|rfl
  ·rcases List.mem_or_eq_of_mem_set b with b|rfl
   ·exact b
   ·exact(h.row e).1
  ·exact(h.row d).1
 exact⟨by rw[vE,List.length_set,List.length_set];exact h.len,λr b=>h.rows r (hm r b),λr b=>h.el r (hm r b)⟩
theorem Eb{l:List (List aj)}(b:∀c∈l,Wp c)(at_ N:Nat):∀k,∀x∈nk l at_ N k,Wp x
 | 0,x,hx=>by rw[List.eq_of_mem_replicate hx];exact Wp.nil
 | k+1,x,hx=>by
  rcases List.mem_or_eq_of_mem_set hx with hx|rfl
  ·exact Eb b at_ N k x hx
  ·rcases Nat.lt_or_ge k l.length with hk|hk
   ·rw[jD,gE hk];exact b _ (List.getElem_mem hk)
   ·rw[jD,gN hk];exact Wp.nil
theorem Xg{a b:List (List aj)}(ha:∀c∈a,Wp c)(hb:∀c∈b,Wp c):xy (a.length-1+(b.length-1)) (Xf a b):=by
 refine⟨by simp[Xf],λr e=>?_,λr e x d=>?_⟩
 ·obtain⟨i,-,rfl⟩:=List.mem_map.1 e;unfold jk;split<;>exact Gb _ _ _ _
 ·obtain⟨i,-,rfl⟩:=List.mem_map.1 e;unfold jk at d;split at d
  ·exact Eb hb _ _ _ x d
  ·exact Eb ha _ _ _ x d
abbrev Iy:TypeId:=75
def oU (N:Nat) (b:Nat):Value:=.slice (some ⟨b,0,none⟩) N N
def mQ (base:Nat) (w:World) (N b:Nat) (r:List (List aj)):Prop:=base<=b/\r.length=N/\∃vs,pM w b vs r/\vs.length=N
structure uu (base:Nat) (w:World) (g N:Nat) (bs:List Nat) (M:Mx):Prop where
 ob:Blk w g Iy (bs.map (oU N)++List.replicate (N-bs.length) (.slice none 0 0))
 gb:base<=g
 len:M.length=bs.length
 le:bs.length<=N
 row:∀(i b:Nat)(r:List (List aj)),bs[i]?=some b->M[i]?=some r->mQ base w N b r
 nd:bs.Nodup
theorem mQ.on{base:Nat}{w w':World}{N b:Nat}{r:List (List aj)}(h:mQ base w N b r)(hb:Below w.heap.size w w'):mQ base w' N b r:=by obtain⟨d,e,vs,i,j⟩:=h;exact⟨d,e,vs,i.on hb,j⟩
theorem uu.on{base:Nat}{w w':World}{g N:Nat}{bs:List Nat}{M:Mx}(h:uu base w g N bs M)(hb:Below w.heap.size w w'):uu base w' g N bs M :=
 ⟨h.ob.on hb,h.gb,h.len,h.le,λi b r d e=>(h.row i b r d e).on hb,h.nd⟩
theorem mQ.ne{base:Nat}{w:World}{N b g:Nat}{r:List (List aj)}{cs:List Value}(h:mQ base w N b r)(hg:Blk w g Iy cs):b≠g:=by rintro rfl;obtain⟨-,-,vs,d,-⟩:=h;have:=d.b;unfold Blk at *;rw[this]at hg;simp only[sJ,Obj.cells.injEq]at hg;exact absurd hg.2.1 dM
theorem mQ.lr{base:Nat}{w w':World}{N b:Nat}{r:List (List aj)}{g:Nat}{T:TypeId}(h:mQ base w N b r)(k:Lr (some g) T w w')(q:uT≠T)(e:aJ≠T)(j:b≠g):mQ base w' N b r:=by obtain⟨m,n,vs,d,o⟩:=h;exact⟨m,n,vs,⟨d.b.lr k (by simpa using j),d.l,λi v p hv hp=>(d.p i v p hv hp).lr k (aV q) e⟩,o⟩
theorem mQ.set{base:Nat}{w:World}{N b:Nat}{r:List (List aj)}(h:mQ base w N b r){j:Nat}(o:j<N){v:Value}{q:List aj}(hq:ai w v q) :
  mQ base (w.setCell ⟨b,j,none⟩ v) N b (r.set j q)/\Lr (some b) polyT w (w.setCell ⟨b,j,none⟩ v):=by
 obtain⟨d,e,vs,k,l⟩:=h;obtain⟨m,n⟩:=k.set (i:=j) oM hq;exact⟨⟨d,by simpa using e,_,m,by simpa using l⟩,n⟩
theorem mQ.get{base:Nat}{w:World}{N b:Nat}{r:List (List aj)}(h:mQ base w N b r){j:Nat}(m:j<N):∃v,ai w v (r.getD j [])/\w.cell? ⟨b,j,none⟩=some v/\w.frozen? ⟨b,j,none⟩=false/\b<w.heap.size:=by obtain⟨e,k,vs,d,l⟩:=h;obtain⟨v,hv,hp,hc⟩:=d.get (i:=j) oM;exact⟨v,hp,hc,d.b.frozen j,d.b.lt⟩
end Q
end
section
namespace Q
open Go.Proofs.YtopclbeomcggiaaGreat
instance Zd:DecidableEq (List aj × Nat):=@instDecidableEqProd (List aj) Nat inferInstance inferInstance
instance Yf:DecidableEq (List (List aj × Nat)):=inferInstance
instance XG:DecidableEq (Option (List (List aj × Nat))):=inferInstance
def G8:List aj->List aj->Option (List aj):=uz 6
theorem Xh:oH [tm 1 1 0] [tm 1 0 1]=[tm 1 0 1,tm 1 1 0]:=dK
theorem Kn:oH [tm 1 1 0] [tm 1 0 0]=[tm 1 1 0,tm 1 0 0]:=dK
theorem Yg:aZ [tm 1 1 0,tm 1 0 0] [tm 1 1 0,tm 1 0 0]=[tm 1 2 0,tm 2 1 0,tm 1 0 0]:=dK
theorem Xi:gp [tm 1 1 0] [tm 1 0 1]=[tm (-1) 0 1,tm 1 1 0]:=dK
theorem Zy:aZ [tm 1 0 1,tm 1 1 0] [tm (-1) 0 1,tm 1 1 0]=[tm (-1) 0 2,tm 1 2 0]:=dK
theorem Zz:aZ [tm 1 0 1] [tm 1 0 1,tm 1 1 0]=[tm 1 0 2,tm 1 1 1]:=dK
theorem Xj:aZ [tm 1 0 1] [tm 1 1 0,tm 1 0 0]=[tm 1 1 1,tm 1 0 1]:=dK
theorem ZA:bS [tm 1 1 1,tm 1 0 1] (((2:Int)):Rat)=[tm 2 1 1,tm 2 0 1]:=dK
theorem Yh:aZ [tm 1 1 0] [tm 1 0 1]=[tm 1 1 1]:=dK
theorem ZB:aZ [tm 1 1 1] [tm 1 2 0,tm 2 1 0,tm 1 0 0]=[tm 1 3 1,tm 2 2 1,tm 1 1 1]:=dK
theorem ZC:VR G8 [tm 1 3 1,tm 2 2 1,tm 1 1 1] 0=some [([tm 1 1 0],1),([tm 1 1 0,tm 1 0 0],2)]:=dK
theorem VT:oH [tm 1 1 0] [tm 2 0 0]=[tm 1 1 0,tm 2 0 0]:=dK
theorem Xk:bS [tm 1 1 0,tm 2 0 0] (((2:Int)):Rat)=[tm 2 1 0,tm 4 0 0]:=dK
theorem ZE:mr [tm 2 1 0,tm 4 0 0]=some [tm 1 1 0,tm 2 0 0]:=dK
theorem Yi:G8 [tm (-1) 0 2,tm 1 2 0] [tm 1 0 2,tm 1 1 1]=some [tm 1 0 1,tm 1 1 0]:=dK
theorem Yj:bS [tm 1 1 0] (((3:Int)):Rat)=[tm 3 1 0]:=dK
theorem Yk:G8 [] [tm 3 1 0]=some [tm 1 1 0]:=dK
theorem Yl:G8 [tm 1 1 0] [tm 1 0 1]=some [tm 1 0 0]:=dK
theorem Ym:G8 [tm 4 0 0] [tm 6 0 0]=some [tm 1 0 0]:=dK
theorem Yo:G8 [] []=some []:=dK
theorem Yq:ni G8 [tm 2 1 1,tm 2 0 1] 0=some [tm 1 0 1]:=dK
theorem Yr:lN G8 [tm 2 1 1,tm 2 0 1] 0=some [tm 2 1 0,tm 2 0 0]:=dK
theorem Xl:bS [tm 1 1 0,tm 1 0 0] (((2:Int)):Rat)=[tm 2 1 0,tm 2 0 0]:=dK
theorem Yt:VR G8 [tm 1 0 1] 0=some []:=dK
theorem sw_xx:aZ [tm 1 1 0] [tm 1 1 0]=[tm 1 2 0]:=dK
theorem Xm:gp [tm 1 2 0] [tm 1 0 1]=[tm (-1) 0 1,tm 1 2 0]:=dK
theorem Xn:gp [tm 1 1 0] [tm 1 0 0]=[tm 1 1 0,tm (-1) 0 0]:=dK
theorem Xo:gp [tm 1 0 0] [tm 1 0 1]=[tm (-1) 0 1,tm 1 0 0]:=dK
theorem Yu:Km [tm (-1) 0 1,tm 1 2 0] [tm 1 1 0,tm (-1) 0 0] 0=some [tm (-1) 0 1,tm 1 0 0]:=dK
theorem Yv:Km [tm 2 0 0] [tm 3 0 0] 0=some [tm 1 0 0]:=dK
theorem Yw:Km [tm 2 0 0] [tm 1 2 0] 0=some [tm 4 0 0]:=dK
theorem Yx:Km [] [tm 1 0 0] 0=some []:=dK
end Q
end
section
namespace Q
open Go Go.RowKit Go.Proofs.YtopclbeomcggiaaGreat
def XH (D:Nat):Sz:=⟨D,2^200,1000,900⟩
def Ze (l:List aj):Bool :=
 decide (l.length<=900)&&l.all (λt=>decide (-1000<=t.1.1)&&decide (t.1.1<=1000)&&decide (-1000<=t.1.2.1)&&decide (t.1.2.1<=1000)&&decide (-1000<=t.1.2.2.1)&&decide (t.1.2.2.1<=1000)&&decide (-1000<=t.1.2.2.2)&&decide (t.1.2.2.2<=1000))&&decide (zT l<=200)&&decide (bF l<=((2^200:Nat):Rat))
theorem MO{l:List aj}(h:Ze l=true):Bd (XH (zT l)) l/\zT l<=200:=by
 simp only[Ze,Bool.and_eq_true,decide_eq_true_eq,List.all_eq_true]at h;obtain⟨⟨⟨p,q⟩,r⟩,s⟩:=h;refine⟨⟨p,λt b=>?_,λt b=>?_,s⟩,r⟩
 ·obtain⟨⟨⟨⟨⟨⟨⟨d,e⟩,i⟩,j⟩,k⟩,m⟩,n⟩,o⟩:=q t b;exact⟨d,e,i,j,k,m,n,o⟩
 ·exact(Ip t.2).dvd (J8 b)
def Tf (l:List aj):Bool:=Mi l&&Ze l
theorem Yy:2^200<2^1000:=dK
theorem Yz:2^200*2^200<2^1000:=dK
theorem Tg{D:Nat}(h:0<D)(b:D<=200):(XH D).ok:=⟨h,by show D<65536;omega,Yy,by show 1000<1000000;omega,by show 900<1000000;omega⟩
theorem U4{D b:Nat}(h:0<D)(d:D<=200)(k:0<b)(k':b<=200):((XH D).mul (XH b)).ok:=by refine⟨Nat.mul_pos h k,?_,Yz,by show 1000+1000<1000000;omega,by show 900*900<1000000;omega⟩;have:=Nat.mul_le_mul d k';show D*b < 65536;omega
theorem vF{l:List aj}(h:Tf l=true):∃D,0<D/\D<=200/\Pk (XH D) l:=by rw[Tf,Bool.and_eq_true]at h;obtain⟨d,b⟩:=MO h.2;exact⟨zT l,qE l,b,Dk.1 h.1,d,Tg (qE l) b⟩
theorem U5{D:Nat}(h:0<D)(b:D<=200):((XH D).mul ⟨1,1,0,1⟩).ok:=by
 refine⟨Nat.mul_pos h Nat.one_pos,?_,?_,by show 1000+0<1000000;omega,by show 900*1<1000000;omega⟩
 ·show D*1<65536;omega
 ·show 2^200*1<2^1000;rw[nU];exact Yy
def Xp (c:Rat):Bool:=decide (c.den<65536)&&decide (c.num.natAbs<4294967296)
theorem U6{c:Rat}(h:Xp c=true):Rs c:=by simp only[Xp,Bool.and_eq_true,decide_eq_true_eq]at h;refine⟨Nat.le_trans (jU (k:=16) h.1) oM,?_⟩;have:=jU (n:=c.num.natAbs) (k:=32) oM;omega
end Q
namespace Go.Proofs.YtopclbeomcggiaaGreat
open Go.RowKit Q
section
variable {w:World} {v u:Value} {p q r:List aj}
theorem AV(e:oH p q=r)(h:Tf p=true)(d:Tf q=true)(hp:ai w v p)(hq:ai w u q):Calls Tryz.prog 39 #[v,u] w (aP w r):=by obtain⟨D,d1,d2,P⟩:=vF h;obtain⟨i,e1,j,b⟩:=vF d;exact e▸X5 P b hp hq
theorem AX(e:aZ p q=r)(h:Tf p=true)(i:Tf q=true)(hp:ai w v p)(hq:ai w u q):Calls Tryz.prog 12 #[v,u] w (aP w r):=by obtain⟨D,d1,d2,P⟩:=vF h;obtain⟨j,e1,d,b⟩:=vF i;exact e▸NY P b (U4 d1 d2 e1 d) hp hq
theorem Oo(e:gp p q=r)(h:Tf p=true)(i:Tf q=true)(hp:ai w v p)(hq:ai w u q):Calls Tryz.prog 35 #[v,u] w (aP w r):=by obtain⟨D,d1,d2,P⟩:=vF h;obtain⟨j,e1,d,b⟩:=vF i;exact e▸X6 P b (U5 e1 d) hp hq
theorem BO{c:Rat}(e:bS p c=r)(h:Tf p=true)(b:Xp c=true)(hp:ai w v p)(hc:bO w u c):Calls Tryz.prog 42 #[v,u] w (aP w r):=by obtain⟨D,d1,d2,P⟩:=vF h;exact e▸WK P (U6 b) hp hc
theorem qG(h:Tf p=true)(hp:ai w v p)(hq:ai w u p):Calls Tryz.prog 13 #[v,u] w (pX w (.bool true)):=by obtain⟨D,d1,d2,P⟩:=vF h;exact X4 P P rfl hp hq
theorem Ti{g:List aj}(e:G8 p q=some g)(h:DV p=true)(b:DV q=true)(hp:ai w v p)(hq:ai w u q):Calls Tryz.prog 16 #[v,u] w (aP w g) :=
 (rY 6 p q g (kW h) (kW b) e).1 v u w hp hq
theorem YA{g:List aj}(e:mr p=some g)(h:DV p=true)(hp:ai w v p):Calls Tryz.prog 14 #[v] w (aP w g):=qF v p g w hp (kW h) e
theorem YB{g:List aj}(e:ni G8 p 0=some g)(h:DV p=true)(hp:ai w v p):Calls Tryz.prog 18 #[v,.int .i64 0] w (aP w g):=mP (rY 6) v p g 0 w dM hp (kW h) e
theorem YC{g:List aj}(e:lN G8 p 0=some g)(h:DV p=true)(hp:ai w v p):Calls Tryz.prog 20 #[v,.int .i64 0] w (aP w g):=rC (rY 6) v p g 0 w dM hp (kW h) e
theorem YD{R:List (List aj × Nat)}(e:VR G8 p 0=some R)(h:DV p=true)(hp:ai w v p):Calls Tryz.prog 29 #[v,.int .i64 0] w (Ea w R):=vD (rY 6) v p R 0 w hp (kW h) dM e
end
theorem jR(w:World):Calls Tryz.prog 40 #[] w (aP w [tm 1 1 0]):=by
 go_enter Tryz.func40,Tryz.ntmps40
 go_wp2_with (go_at_call 37;refine(Dj 0 _ oM).mono ?_;rintro e w3 ⟨v3,rfl,h3,hb3⟩)
 go_ret;exact⟨_,rfl,Zo▸h3,hb3⟩
theorem rD(w:World):Calls Tryz.prog 41 #[] w (aP w [tm 1 0 1]):=by
 go_enter Tryz.func41,Tryz.ntmps41
 go_wp2_with (go_at_call 37;refine(Dj 1 _ oM).mono ?_;rintro e w3 ⟨v3,rfl,h3,hb3⟩)
 go_ret;exact⟨_,rfl,Zp▸h3,hb3⟩
theorem fK(n:Int)(p:List aj)(w:World)(h1:-1000<=n)(h2:n<=1000)(hp:bW (n:Rat)=p)(hb:Ze [(e0,(n:Rat))]=true):Calls Tryz.prog 26 #[.int .i64 n] w (aP w p):=by
 have hc:=zH (λW v (hv:bO W v (n:Rat))=>xq v (n:Rat) _ W hv (MO hb).1 (Tg (qE _) (MO hb).2));rw[hp]at hc
 go_enter Tryz.func26,Tryz.ntmps26
 go_wp2_with (first
  | (go_at_call 24;refine(gF n _ oM oM).mono ?_;rintro e w3 ⟨v3,rfl,h3,hb3⟩)
  | (go_at_call 72;refine(hc.out _ _ h3).mono ?_;rintro e w4 ⟨v4,rfl,h4,hb4⟩))
 go_ret;exact⟨_,rfl,h4,hb3.trans (hb4.mono hb3.size)⟩
theorem MQ(p q:Value)(L:List (List aj × Nat))(w:World)(ha:vC w p L)(hb:vC w q L)(l:∀f∈L,Tf f.1=true)(x:L.length<=1000):Calls Tryz.prog 30 #[p,q] w (pX w (.bool true)):=by
 obtain⟨r,n,rfl,-⟩:=ha.shape;obtain⟨s,o,rfl,-⟩:=hb.shape;replace ha:=zH ha;replace hb:=zH hb;replace l:=zH l
 go_enter Tryz.func30,Tryz.ntmps30
 go_wp2
 go_loopw [5] (λi wr=>∃k:Nat,k<=L.length/\i=.int .i64 k/\Below w.heap.size w wr) (λi _=>L.length-(intOf i).toNat)
 case atStart=>exact⟨0,oM,nM,Below.refl _ _⟩
 case round =>
  obtain⟨k,u,rfl,d⟩:=hrel;by_cases b:k<L.length
  ·have j:L[k]?=some L[k]:=gE b;have m:=l.out _ (List.getElem_mem b);generalize L[k]=f at *;obtain⟨b1,o1,cs1,rfl,-,⟨v1,rfl,p1⟩,C1⟩:=(ha.out.on d).get j;obtain⟨b2,o2,VJ,rfl,-,⟨v2,rfl,p2⟩,C2⟩:=(hb.out.on d).get j;change bL _ wr b1 (o1+k*2) _ at C1;change bL _ wr b2 (o2+k*2) _ at C2;have y:(k:Int)<(L.length:Int):=oM;have c10:∀W,Below wr.heap.size wr W->W.cell? ⟨b1,o1+k*2,none⟩=some v1:=λW hb=>(C1.on hb).cell 0 sM;have c11:∀W,Below wr.heap.size wr W->W.cell? ⟨b1,o1+k*2+1,none⟩=some (.int .i64 (f.2:Int)):=λW hb=>(C1.on hb).cell 1 sM;have c20:∀W,Below wr.heap.size wr W->W.cell? ⟨b2,o2+k*2,none⟩=some v2:=λW hb=>(C2.on hb).cell 0 sM;have c21:∀W,Below wr.heap.size wr W->W.cell? ⟨b2,o2+k*2+1,none⟩=some (.int .i64 (f.2:Int)):=λW hb=>(C2.on hb).cell 1 sM;generalize f.2=e at *;clear C1 C2 j
   go_upto_region 6 with (fail)
   refine aC mixed (none) (0) (fM.none) [.eq (.slice (some ⟨b1,o1,none⟩) L.length n),.eq (.int .i64 k),.eq (.pointer (some ⟨b1,o1+k*2,none⟩)),.eq (.pointer (some ⟨b1,o1+k*2+1,none⟩)),.eq (.int .i64 e),.eq (.slice (some ⟨b2,o2,none⟩) L.length o),.eq (.int .i64 k),.eq (.pointer (some ⟨b2,o2+k*2,none⟩)),.eq (.pointer (some ⟨b2,o2+k*2+1,none⟩)),.eq (.int .i64 e),.eq (.bool false),.eq (.bool false),.eq (.slice (some ⟨b1,o1,none⟩) L.length n),.eq (.int .i64 k),.eq (.pointer (some ⟨b1,o1+k*2,none⟩)),.eq (.pointer (some ⟨b1,o1+k*2,none⟩)),.eq (v1),.eq (.slice (some ⟨b2,o2,none⟩) L.length o),.eq (.int .i64 k),.eq (.pointer (some ⟨b2,o2+k*2,none⟩)),.eq (.pointer (some ⟨b2,o2+k*2,none⟩)),.eq (v2),.ret (.bool true),.eq (.bool false),.eq (.bool false)] [17,18,19,20,21,22,23,24,25,26,27,28,29,30,31,32,33,34,35,36,37,38,39,40,41] rfl rfl rfl rfl ⟨λ_ _ a _ _ _=>xM rfl (a 0 rfl),λ_ _ a _ _ _=>xM rfl (a 5 rfl),λ_ _ _ _ _ e=>pI rfl Tryz.underlying50 b1 o1 k (b) (e.1 rfl) (e.2.1 rfl),λA _ _ _ _ he=>have h19:=eT 19 (he.1 rfl);pZ rfl,?_,λ_ _ a _ _ _=>xM rfl (a 1 rfl),λ_ _ a _ _ _=>xM rfl (a 5 rfl),λ_ _ _ _ _ e=>pI rfl Tryz.underlying50 b2 o2 k (b) (e.1 rfl) (e.2.1 rfl),λA _ _ _ _ he=>have h24:=eT 24 (he.1 rfl);pZ rfl,?_,λA _ _ _ _ he=>have h21:=eT 21 (he.1 rfl);have h26:=eT 26 (he.2.1 rfl);pZ rfl,λ_ _ _ _ _ e=>xM rfl (e.1 rfl),λ_ _ a _ _ e=>yM (e.1 rfl) rfl (a 0 rfl),λ_ _ a _ _ e=>yM (e.1 rfl) rfl (a 5 rfl),λ_ _ _ _ _ e=>aI rfl rfl (e.2.2.1 rfl) (xI rfl Tryz.underlying50 b1 o1 k (b) (e.1 rfl) (e.2.1 rfl)),λA _ _ _ _ he=>have h28:=eT 28 (he.2.1 rfl);have h31:=eT 31 (he.1 rfl);yZ h28 rfl,?_,λ_ _ a _ _ e=>yM (e.1 rfl) rfl (a 1 rfl),λ_ _ a _ _ e=>yM (e.1 rfl) rfl (a 5 rfl),λ_ _ _ _ _ e=>aI rfl rfl (e.2.2.1 rfl) (xI rfl Tryz.underlying50 b2 o2 k (b) (e.1 rfl) (e.2.1 rfl)),λA _ _ _ _ he=>have h28:=eT 28 (he.2.1 rfl);have h36:=eT 36 (he.1 rfl);yZ h28 rfl,?_,λA _ _ _ hS he=>have hb:=hS rfl;have h28:=eT 28 (he.2.2.1 rfl);have h33:=eT 33 (he.1 rfl);have h38:=eT 38 (he.2.1 rfl);have hf0:=eF A 13;cY (f:=13) (args:=#[v1,v2]) h28 (qG m (p1.on hb) (p2.on hb)),λA _ _ _ _ he=>have h28:=eT 28 (he.2.1 rfl);have h39:=eT 39 (he.1 rfl);yZ h28 rfl,λA _ _ _ _ he=>have h28:=eT 28 (he.1 rfl);have h40:=eT 40 (he.2.1 rfl);have hc0:=eC A (.bool true);pZ rfl,trivial⟩ ?_
   ·intro A w1 hA hL hS he;have h20:=eT 20 (he.1 rfl);refine ae rfl ?_;have c0:=c11 w1 hL.below;exact aA rfl rfl gZ
   ·intro A w1 hA hL hS he;have h25:=eT 25 (he.1 rfl);refine ae rfl ?_;have c0:=c21 w1 hL.below;exact aA rfl rfl gZ
   ·intro A w1 hA hL hS he;have h28:=eT 28 (he.2.1 rfl);have h32:=eT 32 (he.1 rfl);refine aI rfl rfl h28 ?_;have c0:=c10 w1 hL.below;exact aA rfl rfl gZ
   ·intro A w1 hA hL hS he;have h28:=eT 28 (he.2.1 rfl);have h37:=eT 37 (he.1 rfl);refine aI rfl rfl h28 ?_;have c0:=c20 w1 hL.below;exact aA rfl rfl gZ
   ·intro W5 hL5;have hb5:=hL5.below;simp only[aU,af.eq,af.ret,af.of,lZ];go_frame;clear hL5 c10 c11 c20 c21;go_wp2;go_roundw
    case rel=>exact⟨k+1,oM,nM,d.trans (hb5.mono d.size)⟩
    case measure=>simp[intOf];omega
  ·obtain rfl:L.length=k:=oM;go_wp2;go_ret;exact⟨rfl,d⟩
end Go.Proofs.YtopclbeomcggiaaGreat
end
section
namespace Q
open Go Go.Proofs.YtopclbeomcggiaaGreat
abbrev wh:=Int × Int × Int × Int
def MR (t:wh):Prop:=(-128<=t.1/\t.1<128)/\(-128<=t.2.1/\t.2.1<128)/\(-128<=t.2.2.1/\t.2.2.1<128)/\-128<=t.2.2.2/\t.2.2.2<128
def oN (t:wh):aj:=((t.1%256%3,t.2.1%256%3,t.2.2.1%256%2,0),((t.2.2.2.tmod 6:Int):Rat))
def zZ (L:List wh):List aj:=(L.take 3).map oN
def Iz (L:List wh):List aj:=canon (zZ L)
def rE (t:wh):wh:=(t.1,t.2.1,0,t.2.2.2)
def kI (L:List wh):List aj:=Iz ((L.take 3).map rE)
theorem MS(c:Int):bJ ((c.tmod 6:Int):Rat)<=((5:Nat):Rat):=by
 rw[rabs_int];have:(c.tmod 6).natAbs<6:=by rw[Int.natAbs_tmod];exact Nat.mod_lt _ dM
 exact Rat.natCast_le_natCast.2 oM
theorem Ec:∀(L:List wh),bF (L.map oN)<=((5*L.length:Nat):Rat)
 | []=>by simp only[List.map_nil,bF,List.length_nil,Nat.mul_zero];exact Rat.natCast_nonneg
 | t::L=>by
  have d:=Ec L;have e:bJ (oN t).2<=((5:Nat):Rat):=MS _
  have b:((5*(t::L).length:Nat):Rat)=((5:Nat):Rat)+((5*L.length:Nat):Rat):=by rw[<-Rat.natCast_add];congr 1;simp only[List.length_cons];omega
  rw[b];simp only[List.map_cons,bF];grind
def Qc:Sz:=⟨1,15,2,3⟩
theorem Ko(L:List wh):Bd Qc (zZ L):=by
 have d:(L.take 3).length<=3:=by rw[List.length_take];exact Nat.min_le_left _ _
 refine⟨by simpa[zZ,Qc]using d,λt b=>?_,λt b=>?_,Rat.le_trans (Ec _) (Rat.natCast_le_natCast.2 (by show 5*(L.take 3).length<=15;omega))⟩
 ·obtain⟨s,e,rfl⟩:=List.mem_map.1 b;simp only[oN,Qc];omega
 ·obtain⟨s,e,rfl⟩:=List.mem_map.1 b;refine⟨s.2.2.2.tmod 6,?_⟩;show((s.2.2.2.tmod 6:Int):Rat)*((1:Nat):Rat)=_;rw[show((1:Nat):Rat)=1 from rfl,Rat.mul_one]
theorem Tj:Qc.ok:=dK
theorem Tk(L:List wh):Pk Qc (Iz L):=⟨fB _,(Ko L).canon,Tj⟩
theorem Aa(L:List wh):Pk Qc (kI L):=Tk _
theorem Qd(L:List wh):∀t∈kI L,(0<=t.1.1/\t.1.1<=2)/\(0<=t.1.2.1/\t.1.2.1<=2)/\t.1.2.2.1=0/\t.1.2.2.2=0 :=
 mf (P:=λe=>(0<=e.1/\e.1<=2)/\(0<=e.2.1/\e.2.1<=2)/\e.2.2.1=0/\e.2.2.2=0) λt d=>by obtain⟨s,b,rfl⟩:=List.mem_map.1 d;obtain⟨r,h,rfl⟩:=List.mem_map.1 (List.mem_of_mem_take b);show(0<=r.1%256%3/\r.1%256%3<=2)/\(0<=r.2.1%256%3/\r.2.1%256%3<=2)/\(0:Int)%256%2=0/\(0:Int)=0;omega
end Q
namespace Go.Proofs.YtopclbeomcggiaaGreat
open Go.RowKit Q
def qH (t:wh):List Value:=[.int .i8 t.1,.int .i8 t.2.1,.int .i8 t.2.2.1,.int .i8 t.2.2.2]
def E8 (T:TypeId):El wh where
 T:=T
 sz:=4
 pos:=by decide
 E _ cs t:=cs=qH t/\MR t
 len:=by rintro w c t ⟨rfl,h⟩;rfl
 one:=by rintro w c t ⟨rfl,h⟩ v hv;simp only[qH,List.mem_cons,List.not_mem_nil,or_false]at hv;rcases hv with rfl|rfl|rfl|rfl<;>rfl
 on:=λh _=>h
 ok _:=True
 lr:=λh _ _=>h
 self:=trivial
def wK (w:World) (v:Value) (l:List wh):Prop:=∃T,bV (E8 T) w v l
theorem wK.on{w w':World}{v:Value}{l:List wh}(h:wK w v l)(hb:Below w.heap.size w w'):wK w' v l:=let ⟨T,h⟩:=h;⟨T,h.on hb⟩
theorem wK.shape{w:World}{v:Value}{l:List wh}(h:wK w v l):∃b cap,v=.slice b l.length cap/\l.length<=cap:=let ⟨_,h⟩:=h;h.shape
theorem wK.get{w:World}{i:Option Addr}{n c j:Nat}{t:wh}{l:List wh}(h:wK w (.slice i n c) l)(m:l[j]?=some t):∃T b off,i=some ⟨b,off,none⟩/\MR t/\bL T w b (off+j*4) (qH t):=by obtain⟨T,h⟩:=h;obtain⟨b,off,cs,e,-,⟨rfl,d⟩,k⟩:=h.get m;exact⟨T,b,off,e,d,k⟩
end Go.Proofs.YtopclbeomcggiaaGreat
end
section
namespace Q
open Go Go.RowKit Go.Proofs.YtopclbeomcggiaaGreat
theorem Gc{l:List Nat}(h:l.Nodup){i j x:Nat}(o:l[i]?=some x)(p:l[j]?=some x):i=j:=by
 have b:=(gS.1 o);have d:=(gS.1 p);obtain⟨e,k⟩:=b;obtain⟨m,n⟩:=d;have hp:=List.pairwise_iff_getElem.1 h;rcases Nat.lt_trichotomy i j with hlt|heq|hgt
 ·exact absurd (k.trans n.symm) (hp i j e m hlt)
 ·exact heq
 ·exact absurd (n.trans k.symm) (hp j i m e hgt)
theorem uu.hd{base:Nat}{w:World}{g N:Nat}{bs:List Nat}{M:Mx}(h:uu base w g N bs M){i b:Nat}(hb:bs[i]?=some b):w.cell? ⟨g,i,none⟩=some (oU N b):=by have d:i<bs.length:=(gS.1 hb).1;refine h.ob.at1 i _ ?_;rw[List.getElem?_append_left (by rw[List.length_map];exact d),List.getElem?_map,hb];rfl
theorem uu.lt{base:Nat}{w:World}{g N:Nat}{bs:List Nat}{M:Mx}(h:uu base w g N bs M):g<w.heap.size:=h.ob.lt
theorem uu.push{base:Nat}{w:World}{g N:Nat}{bs:List Nat}{M:Mx}(h:uu base w g N bs M)(C:bs.length<N){b:Nat}{r:List (List aj)}(q:mQ base w N b r)(hb:b∉bs) :
  uu base (w.setCell ⟨g,bs.length,none⟩ (oU N b)) g N (bs++[b]) (M++[r]):=by
 have p:=aY (j:=bs.length) h.ob (oU N b);refine⟨?_,h.gb,by simp[h.len],by simp;omega,λi s B k l=>?_,?_⟩
 ·have n:=h.ob.set bs.length (oU N b)
  have e:(bs.map (oU N)++List.replicate (N-bs.length) (Value.slice none 0 0)).set bs.length (oU N b)=(bs++[b]).map (oU N)++List.replicate (N-(bs++[b]).length) (Value.slice none 0 0):=by
   obtain⟨d,hd⟩:∃d,N - bs.length=d+1:=⟨N - bs.length - 1,oM⟩;have m:N - (bs++[b]).length=d:=by simp;omega
   rw[hd,m,List.set_append_right _ _ sM,List.length_map,Nat.sub_self,List.replicate_succ,List.set_cons_zero,List.map_append,List.append_assoc];rfl
  rw[e]at n;exact n
 ·rcases Nat.lt_or_ge i bs.length with hi|hi
  ·rw[List.getElem?_append_left hi]at k;rw[List.getElem?_append_left (by rw[h.len];exact hi)]at l;have o:=h.row i s B k l;exact o.lr p dM dM (o.ne h.ob)
  ·rw[List.getElem?_append_right hi]at k;rw[List.getElem?_append_right (by rw[h.len];exact hi),h.len]at l;rcases Nat.eq_zero_or_pos (i - bs.length)with h0|h0
   ·rw[h0]at k l;simp only[List.getElem?_cons_zero,sJ]at k l;subst k;subst l;exact q.lr p dM dM (q.ne h.ob)
   ·rw[gN (by simp;omega)]at k;cases k
 ·rw[List.nodup_append];refine⟨h.nd,sM,λx u y z=>?_⟩;rw[List.mem_singleton.1 z];rintro rfl;exact hb u
theorem uu.set{base:Nat}{w:World}{g N:Nat}{bs:List Nat}{M:Mx}(h:uu base w g N bs M){i b j:Nat}(hb:bs[i]?=some b)(u:j<N){v:Value}{q:List aj}(hq:ai w v q) :
  uu base (w.setCell ⟨b,j,none⟩ v) g N bs (EZ M i j q)/\Lr (some b) polyT w (w.setCell ⟨b,j,none⟩ v)/\base<=b:=by
 have n:i<bs.length:=(gS.1 hb).1;have s:M[i]?=some (M.getD i []):=by rw[jD,gE (by rw[h.len];exact n)];rfl
 have m:=h.row i b _ hb s;obtain⟨r,l⟩:=m.set u hq;refine⟨⟨h.ob.lr l (by simpa using(m.ne h.ob).symm),h.gb,by rw[EZ,List.length_set];exact h.len,h.le,λo p x e k=>?_,h.nd⟩,l,m.1⟩;by_cases d:i=o
 ·subst d;rw[hb]at e;cases e;rw[EZ,List.getElem?_set,if_pos rfl,if_pos (by rw[h.len];exact n)]at k;cases k;exact r
 ·rw[EZ,List.getElem?_set,if_neg d]at k;refine(h.row o p x e k).lr l dM dM ?_;rintro rfl;exact d (Gc h.nd hb e)
theorem Qe(M:Mx)(r:List (List aj))(j:Nat)(x:List aj):EZ (M++[r]) M.length j x=M++[r.set j x]:=by unfold EZ;rw[jD,List.getElem?_append_right (nL _),Nat.sub_self,List.set_append_right _ _ (nL _),Nat.sub_self];rfl
end Q
namespace Go.Proofs.YtopclbeomcggiaaGreat
open Go.RowKit Q Go.WideMaps Go.Maps
def Xq (w:World) (N:Nat) (M:Mx) (e:Ending) (w':World):Prop:=∃g bs,e=.returned (.slice (some ⟨g,0,none⟩) N N)/\uu w.heap.size w' g N bs M/\Below w.heap.size w w'
theorem E9(va vb:Value)(a b:List (List aj))(w:World)(ha:jq w va a)(hb:jq w vb b)(la:1<=a.length)(la2:a.length<=100001)(lb:1<=b.length)(lb2:b.length<=100001) :
  Calls Tryz.prog 76 #[va,vb] w (Xq w (a.length-1+(b.length-1)) (Xf a b)):=by
 obtain⟨aa,ca,rfl,ag⟩:=ha.shape;obtain⟨ab,cb,rfl,an⟩:=hb.shape;obtain⟨m,hm⟩:∃m,a.length=m+1:=⟨a.length - 1,oM⟩;obtain⟨n,hn⟩:∃n,b.length=n+1:=⟨b.length - 1,oM⟩;have o:∀i,jk a b (m+n) i=if n<=i then nk b (i - n) (m+n) b.length else nk a i (m+n) a.length:=λi=>by rw[jk,hn,Nat.add_sub_cancel]
 have C:Xf a b=(List.range (m+n)).map (jk a b (m+n)):=by rw[Xf,hm,hn,Nat.add_sub_cancel,Nat.add_sub_cancel]
 rw[C,(oM:a.length-1+(b.length-1)=m+n)];have hm2:(a.length:Int)-1=(m:Int):=oM;have hn2:(b.length:Int)-1=(n:Int):=oM;have ap:m<=100000:=oM;have aq:n<=100000:=oM;replace o:=zH o;replace ha:=zH ha;replace hb:=zH hb;replace hm:=zH hm;replace hn:=zH hn;clear C
 go_enter Tryz.func76,Tryz.ntmps76
 go_wp2_with (at_make;refine bN rfl _ _ _ rfl Iy (.slice none 0 0) 1 24 Tryz.underlying84 kM rfl rfl .i64 .i64 _ _ (m+n) rfl rfl oM oM oM oM ?_;intro w2 own2 gr2)
 have J:Hid (uu w.heap.size w2 w.heap.size (m+n) [] ((List.range 0).map (jk a b (m+n)))):=zH ⟨by simpa using(show Blk w2 w.heap.size Iy (List.replicate (m+n) (Value.slice none 0 0))from own2),nL _,rfl,sM,λi b r h=>by simp at h,List.nodup_nil⟩;generalize hg:w.heap.size=g at J ⊢;have a5:w.heap.size<=g:=oM;clear own2
 go_loopw [24] (λi wr=>∃(k:Nat)(bs:List Nat),k<=m+n/\i=.int .i64 k/\bs.length=k/\Hid (uu w.heap.size wr g (m+n) bs ((List.range k).map (jk a b (m+n))))/\Below w.heap.size w wr) (λi _=>m+n-(intOf i).toNat)
 case atStart=>exact⟨0,[],oM,nM,rfl,by rw[hg];exact J,gr2⟩
 case round =>
  clear J gr2;replace hg:=zH hg;obtain⟨k,bs,hk,rfl,u,hM,q⟩:=hrel;by_cases Z:k<m+n
  ·have ad:(k:Int)<(m:Int)+(n:Int):=oM;have hM0:=hM.out;have a4:=hM0.lt;have hz:=hM0.ob.at1 k (.slice none 0 0) (by rw[List.getElem?_append_right (by rw[List.length_map];omega),List.length_map,u,Nat.sub_self,List.getElem?_replicate,if_pos oM]);have hf:=hM0.ob.frozen k
   go_upto_region 7 with (first
    | (at_make;refine bN rfl _ _ _ rfl polyT (.slice none 0 0) 1 24 Tryz.underlying75 kM rfl rfl .i64 .i64 _ _ (m+n) rfl rfl oM oM oM oM ?_;intro w3 own3 gr3;have hz3:=(hM0.on gr3).ob.at1 k (.slice none 0 0) (by rw[List.getElem?_append_right (by rw[List.length_map];omega),List.length_map,u,Nat.sub_self,List.getElem?_replicate,if_pos oM]);have hf3:=(hM0.on gr3).ob.frozen k)
    | (refine ak rfl (.tmp 27) (.tmp 28) _ rfl _ Tryz.underlying84 _ 1 24 kM _ _ _ rfl _ _ rfl k rfl Z g 0 rfl ?_;rw[nU,Nat.zero_add]))
   have hM3:=hM0.on gr3
   have B:wr.heap.size∉bs:=λa6=>by
    obtain⟨i,hi,he⟩:=List.getElem_of_mem a6;have h1:bs[i]?=some wr.heap.size:=by rw[gE hi,he]
    have h2:((List.range k).map (jk a b (m+n)))[i]?=some (((List.range k).map (jk a b (m+n))).getD i []):=by rw[jD,gE (by simp;omega)];rfl
    have h3:=hM0.row i _ _ h1 h2;obtain⟨-,-,-,-,h4⟩:=h3.get (j:=0) oM;omega
   have a2:mQ w.heap.size w3 (m+n) wr.heap.size (List.replicate (m+n) []):=by refine⟨q.size,sM,List.replicate (m+n) (.slice none 0 0),⟨own3,sM,λi v p h1 h2=>?_⟩,sM⟩;rw[yA h1,yA h2];exact bV.nil _ _
   have d:=hM3.push oM a2 B;rw[u]at d;have hb4:=(q.trans (gr3.mono q.size)).trans (bI (W:=w3) (g:=g) (j:=k) a5 (oU (m+n) wr.heap.size));have hst0:Hid (uu w.heap.size (w3.setCell ⟨g,k,none⟩ (oU (m+n) wr.heap.size)) g (m+n) (bs++[wr.heap.size]) ((List.range k).map (jk a b (m+n))++[List.replicate (m+n) []])):=zH d;obtain⟨gb,S⟩:∃gb,gb=wr.heap.size:=⟨_,rfl⟩;rw[<-S]at hst0 hb4 ⊢;obtain⟨W4,hW4⟩:∃W4,W4=w3.setCell ⟨g,k,none⟩ (oU (m+n) gb):=⟨_,rfl⟩;rw[<-hW4]at hst0 hb4;change Code.wp _ _ _ _ (w3.setCell ⟨g,k,none⟩ (oU (m+n) gb));rw[<-hW4];clear hM hM0 hM3 hz hf own3 gr3 hz3 hf3 B a2 d hW4 S a4 q
   go_upto_if 38 with (fail)
   go_cut [9,10,39,40,41,42] (λvl vt _ _ _ _ wc=>∃(l:List (List aj))(t:Nat),vt=.int .i64 t/\Hid (jq w vl l)/\Hid (jk a b (m+n) k=nk l t (m+n) l.length)/\1<=l.length/\l.length<=100001/\t+l.length<=m+n/\Hid (uu w.heap.size wc g (m+n) (bs++[gb]) ((List.range k).map (jk a b (m+n))++[List.replicate (m+n) []]))/\Below w.heap.size w wc)
   case first =>
    by_cases a7:n<=k
    ·have a0:(n:Int)<=(k:Int):=oM;obtain⟨t,ht⟩:∃t,t=k - n:=⟨_,rfl⟩;have ht2:(k:Int) - (n:Int)=(t:Int):=oM;have hr9:=zH (o.out k);replace ht:=zH ht;go_wp2;go_meet
     case rel=>exact⟨b,t,rfl,hb,zH (by rw[hr9.out,if_pos a7,ht.out]),lb,lb2,by have:=ht.out;have:=hn.out;omega,hst0,hb4⟩
    ·have a0:¬(n:Int)<=(k:Int):=oM;have hr9:=zH (o.out k);go_wp2;go_meet
     case rel=>exact⟨a,k,rfl,ha,zH (by rw[hr9.out,if_neg oM]),la,la2,by have:=hm.out;omega,hst0,hb4⟩
   case rest =>
    clear hst0 hb4;obtain⟨l,t,rfl,hl,I,ll,ll2,au,hM,N⟩:=hcut;obtain⟨al,cl,rfl,-⟩:=hl.out.shape;go_wp2
    go_loopw [45] (λi wz=>∃j:Nat,j<=l.length/\i=.int .i64 j/\Hid (uu w.heap.size wz g (m+n) (bs++[gb]) ((List.range k).map (jk a b (m+n))++[nk l t (m+n) j]))/\Below w.heap.size w wz) (λi _=>l.length-(intOf i).toNat)
    case atStart=>exact⟨0,oM,nM,hM,N⟩
    case round =>
     clear hM N;obtain⟨j,hj,rfl,hM,x⟩:=hrel;by_cases Y:j<l.length
     ·have F:l[j]?=some l[j]:=gE Y;have X:l.getD j []=l[j]:=by rw[jD,F];rfl
      have hl0:=hl.out.on x;generalize l[j]=c at *;obtain⟨M,ol,vc,rfl,L,hC⟩:=vZ hl0 F;have a9:=bV.shape L;obtain⟨p,hp⟩:∃p,p=t+l.length - 1 - j:=⟨_,rfl⟩;have a8:(t:Int)+(l.length:Int) - 1 - (j:Int)=(p:Int):=oM;have G:p<m+n:=oM;have hM0:=hM.out;have D:(bs++[gb])[k]?=some gb:=by rw[List.getElem?_append_right oM,u,Nat.sub_self];rfl
      have hlen9:((List.range k).map (jk a b (m+n))).length=k:=sM
      have s:Hid ((List.range k).map (jk a b (m+n))++[nk l t (m+n) (j+1)]=EZ ((List.range k).map (jk a b (m+n))++[nk l t (m+n) j]) k p c):=zH (by
       have h1:=Qe ((List.range k).map (jk a b (m+n))) (nk l t (m+n) j) p c;rw[hlen9]at h1
       rw[h1,nk,<-hp,X])
      have z:∀W,Below wr.heap.size wr W->W.cell? ⟨g,k,none⟩=some (.slice (some ⟨gb,0,none⟩) (m+n) (m+n)):=λW hb=>(hM0.on hb).hd D
      have y:∀W,Below wr.heap.size wr W->W.cell? ⟨M,ol+j,none⟩=some vc:=λW hb=>by have h1:=(hC.on hb).cell 0 sM;simpa using h1
      have ao:(l.length:Int)<=100001:=oM;have ar:(t:Int)<=200000:=oM;replace z:=zH z;replace y:=zH y;replace hp:=zH hp;clear hC F X hlen9 I
      go_upto_region 13 with (fail)
      refine aC mixed (none) (0) (fM.none) [.eq (.slice (some ⟨g,0,none⟩) (m+n) (m+n)),.eq (.int .i64 k),.eq (.pointer (some ⟨g,0+k*1,none⟩)),.eq (.slice (some ⟨gb,0,none⟩) (m+n) (m+n)),.eq (.int .i64 t),.eq (.slice (some ⟨M,ol,none⟩) l.length cl),.eq (.int .i64 l.length),.eq (.int .i64 ((t:Int)+l.length)),.eq (.int .i64 ((t:Int)+l.length-1)),.eq (.int .i64 j),.eq (.int .i64 p),.eq (.slice (some ⟨M,ol,none⟩) l.length cl),.eq (.int .i64 j),.eq (.pointer (some ⟨M,ol+j*1,none⟩)),.eq (vc),.eq (.pointer (some ⟨gb,0+p*1,none⟩))] [48,49,50,51,52,53,54,55,56,57,58,59,60,61,62,63] rfl rfl rfl rfl ⟨λ_ _ a _ _ _=>xM rfl (a 7 rfl),λ_ _ a _ _ _=>xM rfl (a 8 rfl),λ_ _ _ _ _ e=>pI rfl Tryz.underlying84 g 0 k (Z) (e.1 rfl) (e.2.1 rfl),?_,λ_ _ a _ _ _=>xM rfl (a 10 rfl),λ_ _ a _ _ _=>xM rfl (a 9 rfl),λA _ _ _ _ he=>have h53:=eT 53 (he.1 rfl);pZ rfl,?_,?_,λ_ _ a _ _ _=>xM rfl (a 11 rfl),?_,λ_ _ a _ _ _=>xM rfl (a 9 rfl),λ_ _ a _ _ _=>xM rfl (a 11 rfl),λ_ _ _ _ _ e=>pI rfl Tryz.underlying75 M ol j (Y) (e.1 rfl) (e.2.1 rfl),?_,λ_ _ _ _ _ e=>pI rfl Tryz.underlying75 gb 0 p (G) (e.1 rfl) (e.2.1 rfl),trivial⟩ ?_
      ·intro A w1 hA hL hS he;have h50:=eT 50 (he.1 rfl);refine ae rfl ?_;have c0:=z.out w1 hL.below;exact aA rfl rfl gZ
      ·intro A w1 hA hL hS he;have h52:=eT 52 (he.1 rfl);have h54:=eT 54 (he.2.1 rfl);refine ae rfl (aA rfl rfl ?_);generalize A.eval=ev at *;go_simp;exact mJ oM oM
      ·intro A w1 hA hL hS he;have h55:=eT 55 (he.1 rfl);have hc0:=eC A (.int .i64 1);refine ae rfl (aA rfl rfl ?_);generalize A.eval=ev at *;go_simp;exact mJ oM oM
      ·intro A w1 hA hL hS he;have h56:=eT 56 (he.1 rfl);have h57:=eT 57 (he.2.1 rfl);refine ae rfl (aA rfl rfl ?_);generalize A.eval=ev at *;go_simp
       (first|exact mJ oM oM|(rw[a8];exact mJ oM oM))
      ·intro A w1 hA hL hS he;have h61:=eT 61 (he.1 rfl);refine ae rfl ?_;have c0:=y.out w1 hL.below;exact aA rfl rfl gZ
      ·intro W5 hL5;have hb5:=hL5.below;simp only[aU,af.eq,lZ];go_frame;have hM5:=hM0.on hb5;have a1:=hM5.row k gb _ D (show((List.range k).map (jk a b (m+n))++[nk l t (m+n) j])[k]?=some (nk l t (m+n) j) by rw[List.getElem?_append_right sM,List.length_map,List.length_range,Nat.sub_self];rfl);obtain⟨vo,-,z5,f5,-⟩:=a1.get G;obtain⟨hM6,hl6,hgb6⟩:=hM5.set D G (L.on hb5);have a3:Hid (uu w.heap.size (W5.setCell ⟨gb,p,none⟩ vc) g (m+n) (bs++[gb]) ((List.range k).map (jk a b (m+n))++[nk l t (m+n) (j+1)])):=zH (by rw[s.out];exact hM6);have hb6:=(x.trans (hb5.mono x.size)).trans (bI (W:=W5) (g:=gb) (j:=p) hgb6 vc);clear hM5 a1 hM6 hl6 hM0 hM hl0 z y hL5 s L;obtain⟨ac,cc,rfl,-⟩:=a9;go_wp2;go_roundw
       case rel=>exact⟨j+1,oM,nM,a3,hb6⟩
       case measure=>simp[intOf];omega
     ·obtain rfl:j=l.length:=oM
      have hM2:Hid (uu w.heap.size wr g (m+n) (bs++[gb]) ((List.range (k+1)).map (jk a b (m+n)))):=zH (by
       rw[List.range_succ,List.map_append,List.map_cons,List.map_nil,I.out];exact hM.out)
      clear hM hl I;go_wp2;go_roundw
      case rel=>exact⟨k+1,bs++[gb],oM,nM,by simp;omega,hM2,x⟩
      case measure=>simp[intOf];omega
  ·obtain rfl:k=m+n:=oM;go_wp2;go_ret;exact⟨g,bs,rfl,hM.out,q⟩
end Go.Proofs.YtopclbeomcggiaaGreat
end
section
namespace Go.Proofs.YtopclbeomcggiaaGreat
open Go.RowKit Q
theorem xz(a n:Nat)(w:World)(ha:a<4294967296)(j:n<4611686018427387904):Calls Tryz.prog 122 #[.int .u64 a,.int .i64 n] w (pX w (.int .u64 (jN a n))):=by
 obtain⟨R,hR⟩:∃R,R=jN a n:=⟨_,rfl⟩;rw[<-hR];replace hR:=zH hR
 go_enter Tryz.func122,Tryz.ntmps122
 go_wp2
 go_loopw [0,1,5] (λx y o wr=>∃(a n out f:Nat),x=.int .u64 a/\y=.int .i64 n/\o=.int .u64 out/\a<4294967296/\n<4611686018427387904/\out<2147483647/\n<2^f/\Hid (R=zD f out a n)/\Below w.heap.size w wr) (λ_ y _ _=>(intOf y).toNat)
 case atStart=>exact⟨a,n,1,64,rfl,rfl,rfl,ha,j,oM,oM,zH hR.out,Below.refl _ _⟩
 case round =>
  clear hR ha j;obtain⟨a,n,out,f,rfl,rfl,rfl,ha,j,r,hf,hR,d⟩:=hrel;by_cases h0:n=0
  ·have i:Hid (R=out):=zH (by rw[hR.out,h0,Fz]);have k:¬(0:Int)<(n:Int):=oM;clear h0;clear hR hf;go_wp2;go_ret;exact⟨by rw[i.out];rfl,d⟩
  ·obtain⟨f,rfl⟩:∃m,f=m+1:=⟨f - 1,by cases f with|zero=>omega|succ f=>omega⟩;have l:(0:Int)<(n:Int):=oM;have hm2:(n:Int).tmod 2=((n%2:Nat):Int):=by rw[Int.tmod_eq_emod_of_nonneg oM];omega
   have hd2:(n:Int).tdiv 2=((n/2:Nat):Int):=by rw[Int.tdiv_eq_ediv_of_nonneg oM];omega
   have hR2:=hR.out;rw[zD,if_neg h0]at hR2;have b:n/2<2^f:=by rw[Nat.pow_succ]at hf;omega
   replace b:=zH b;have p:a*a<=4294967295*4294967295:=Nat.mul_le_mul oM oM;have q:out*a<=2147483646*4294967295:=Nat.mul_le_mul oM oM;clear hR hf;rcases Nat.mod_two_eq_zero_or_one n with h2|h2
   ·rw[if_neg oM]at hR2;rw[h2]at hm2;replace hR2:=zH hR2;go_wp2;go_roundw
    case rel=>exact⟨a*a%2147483647,n/2,out,f,sM,sM,sM,oM,oM,oM,b.out,hR2,d⟩
    case measure=>simp[intOf];omega
   ·rw[if_pos h2]at hR2;rw[h2]at hm2;replace hR2:=zH hR2;go_wp2;go_roundw
    case rel=>exact⟨a*a%2147483647,n/2,out*a%2147483647,f,sM,sM,sM,oM,oM,oM,b.out,hR2,d⟩
    case measure=>simp[intOf];omega
theorem yP(n:Bool)(m:Value)(z:Int)(w:World)(h:bf w n m z)(c:aF z.natAbs<=CS):Calls Tryz.prog 121 #[.agg #[.bool n,m]] w (pX w (.int .u64 (eZ z))):=by
 have hn0:=h;obtain⟨l,J,cap,rfl,hc,b,u,L,hm,F,hp,e⟩:=h.openS c;have hl0:=aW L;have hZ1:n=false->z=ah l:=λp=>by rw[e,p];rfl
 have hZ2:n=true->z=- ah l:=λp=>by rw[e,p];rfl
 have hZ3:n=true->0<ah l:=λp=>F.pos L (hp p);replace hZ1:=zH hZ1;replace hZ2:=zH hZ2;replace hZ3:=zH hZ3;clear e c hp F hn0
 go_enter Tryz.func121,Tryz.ntmps121
 go_upto_region 1 with (fail)
 refine jg λW hb0 B G=>?_;have u1:=B.at1 1 _ rfl;have s:ah ([]:List Int)=0:=rfl;go_wp2;clear u1
 go_loopw [3,4] (λI C wr=>∃(M:Int)(k:Nat),I=.int .u64 M/\C=.int .i64 ((k:Int)-1)/\k<=l.length/\0<=M/\M<2147483647/\Hid (M=ah (l.drop k)%2147483647)/\Below W.heap.size W wr) (λ_ C _=>(intOf C+1).toNat)
 case atStart=>exact⟨0,l.length,rfl,rfl,nL _,oM,oM,zH (by rw[List.drop_of_length_le (nL _),s];rfl),Below.refl _ _⟩
 case round =>
  obtain⟨M,k,rfl,rfl,N,m0,m1,hM,d⟩:=hrel;have D:=B.on d;by_cases hk0:k=0
  ·subst hk0;rw[List.drop_zero]at hM;have u0:=D.at1 0 _ rfl
   cases n with
   | false =>
    have hz:=hZ1.out rfl;have hR:=AL (z:=z) (M:=M) (by rw[hz];exact hl0) (by rw[hz];exact hM.out);replace hz:=zH hz;replace hR:=zH hR;clear hM;go_wp2;go_ret;exact⟨by first|rfl|(rw[hR.out];rfl)|rw[hR.out],hb0.trans (d.mono hb0.size)⟩
   | true =>
    obtain⟨r1,r2⟩:=Du (hZ3.out rfl) (hZ2.out rfl) hM.out;by_cases i:0<M
    ·have hR:=zH (r1 i);clear hM r1 r2;go_wp2;go_ret;exact⟨by first|rfl|(rw[hR.out];rfl)|rw[hR.out],hb0.trans (d.mono hb0.size)⟩
    ·have hR:=zH (r2 i);clear hM r1 r2;go_wp2;go_ret;exact⟨by first|rfl|(rw[hR.out];rfl)|rw[hR.out],hb0.trans (d.mono hb0.size)⟩
  ·obtain⟨j,rfl⟩:∃j,k=j+1:=⟨k - 1,oM⟩;obtain⟨p1,o1,rfl,r⟩:=hm (by rw[dN];omega);have o:=((r.on (hb0.trans (d.mono hb0.size)))).ucell j oM;have hd:=L.getD j;rw[aT]at hd
   have cK:ah (l.drop j)=l.getD j 0+bC*ah (l.drop (j+1)):=by
    rw[List.drop_eq_getElem_cons (oM:j<l.length)];rw[jD,gE (oM:j<l.length)]
    rfl
   obtain⟨x,y⟩:∃x,x=l.getD j 0:=⟨_,rfl⟩;rw[<-y]at o hd cK;have q:Hid ((M*4294967296+x)%2147483647=ah (l.drop j)%2147483647):=zH (by rw[hM.out,cK,aT];omega);have u1:=D.at1 1 _ rfl;have hj1:((j:Int)+1 - 1)=(j:Int):=oM;replace y:=zH y;replace cK:=zH cK;clear hM
   go_wp2_with (refine ak rfl (.tmp 16) (.tmp 17) _ rfl _ Tryz.underlying37 _ _ _ bH _ _ _ rfl _ _ rfl j oM oM p1 o1 rfl ?_;rw[nU])
   go_roundw
   case rel=>exact⟨(M*4294967296+x)%2147483647,j,nM,nM,oM,oM,oM,q,d⟩
   case measure=>simp[intOf]
end Go.Proofs.YtopclbeomcggiaaGreat
end
section
namespace Q
open Go Go.Proofs.YtopclbeomcggiaaGreat
structure xA (p q:List aj):Prop where
 wp:Wr p
 wq:Wr q
 ms:∀k,Wr (aZ p (q.take k))
 ti:∀u∈q,Wr (jX p u)/\∀t∈p,InR (t.1.add u.1)
def Ed (v:Nat) (n:Nat) (rest:List aj) (i:Nat):List aj:=aZ (aR rest v ((n+i:Nat):Int)) (rF (sF v) i)
def Ee (v n:Nat) (c b rest:List aj) (i:Nat):List aj:=gp (aZ c rest) (aZ (Ed v n rest i) b)
def QE (v n:Nat) (c b:List aj):Nat->List aj->List aj
 | 0,rest=>rest
 | i+1,rest=>QE v n c b i (Ee v n c b rest i)
def MU (v n:Nat) (c b:List aj):Nat->List aj->Prop
 | 0,rest=>rest.length<=100000000
 | i+1,rest=>i<900000/\xA (aR rest v ((n+i:Nat):Int)) (rF (sF v) i)/\xA c rest/\xA (Ed v n rest i) b/\Wr (aZ c rest)/\Wr (aZ (Ed v n rest i) b)/\MU v n c b i (Ee v n c b rest i)
theorem MU.len{v n:Nat}{c b:List aj}:∀{i:Nat}{rest:List aj},MU v n c b i rest->rest.length<=100000000
 | 0,_,h=>h
 | _+1,_,h=>h.2.2.1.wq.len
theorem Gf{v:Nat}(hv:v<4):∀j,j<900000->Pk ⟨1,1,j,1⟩ (rF (sF v) j)
 | 0,_=>WM
 | j+1,h=>by have:=(Gf hv j oM).mul (Pk.var v) (by show(0:Nat)<1*1/\1*1<65536/\1*1<2^1000/\j+1<1000000/\1*1<1000000;exact⟨oM,oM,dK,oM,oM⟩);exact this
end Q
namespace Go.Proofs.YtopclbeomcggiaaGreat
open Go.RowKit Q Go.WideMaps Go.Maps
theorem Kq(b:Value)(v i:Nat)(hv:v<4)(d:i<900000)(w:World)(hp:ai w b (sF v)):Calls Tryz.prog 98 #[b,.int .i64 i] w (aP w (rF (sF v) i)) :=
 Ta b (sF v) i w ⟨1,1,1,1⟩ (λj=>⟨1,1,j,1⟩) (Pk.var v) (λj e=>⟨Gf hv j oM,by show(0:Nat)<1*1/\1*1<65536/\1*1<2^1000/\j+1<1000000/\1*1<1000000;exact⟨oM,oM,dK,oM,oM⟩⟩) oM hp
theorem Kr(z s:Value)(a b:List aj)(v n:Nat)(w:World)(ha:ai w z a)(hb:ai w s b)(hv:v<4)(F:a.length<=100000000)(lb:b.length<=100000000)(q:b≠[])(C:aD b v=(n:Int))(I:aD a v<=900000)(L:n<=900000)
  (l:MU v n (aR b v (n:Int)) b (aD a v-n+1).toNat a) :
  Calls Tryz.prog 60 #[z,s,.int .i64 v] w (Dn w (QE v n (aR b v (n:Int)) b (aD a v-n+1).toNat a) 0):=by
 have hD:=zH (λW (h:Below w.heap.size w W)=>gK z a v W (ha.on h) hv F);have hE:=zH (gK s b v w hb hv lb);have hL:=zH (λW (h:Below w.heap.size w W)=>Qb s b v W (hb.on h) hv lb);rw[C]at hE hL;obtain⟨Y,Z,rfl,G⟩:=hb.shape;have N:((b.length:Int)==0)=false:=by have:=List.length_pos_iff.2 q;simp;exact q
 have J:=sG a v;generalize hc:aR b v (n:Int)=c at *;generalize hd:aD a v=d at *;obtain⟨R,hR⟩:∃R,R=QE v n c b (d - n+1).toNat a:=⟨_,rfl⟩;rw[<-hR];replace hR:=zH hR;replace l:=zH l;replace ha:=zH ha;replace hb:=zH hb;clear hc hd C
 go_enter Tryz.func60,Tryz.ntmps60
 go_upto_region 4 with (first
  | (go_at_call 97;refine(hL.out w2 hb2).mono ?_;rintro e w3 ⟨v3,rfl,h3,hb3⟩)
  | (go_at_call 27;refine hE.out.mono ?_;rintro e w2 ⟨rfl,hb2⟩))
 have hb03:=hb2.trans (hb3.mono hb2.size)
 go_wp2_with (go_at_call 27;refine(hD.out w3 hb03).mono ?_;rintro e w4 ⟨rfl,hb4⟩)
 have hb04:=hb03.trans (hb4.mono hb03.size);have x:=zH (h3.on hb4);have hr0:=zH (ha.out.on hb04);have u:=zH (hb.out.on hb04);clear hD hE hL h3 hb2 hb3 hb4 hb03 ha hb
 go_loopw [10,11] (λX B wr=>∃(rest:List aj)(i:Nat)(o:Int),B=.int .i64 o/\Hid (ai wr X rest)/\Hid (MU v n c b i rest)/\Hid (R=QE v n c b i rest)/\(o-n+1).toNat=i/\-1<=o/\o<=d/\rest.length<=100000000/\Below w4.heap.size w4 wr) (λ_ B _=>(intOf B-n+1).toNat)
 case atStart=>exact⟨a,_,d,rfl,hr0,l,hR,rfl,oM,oM,F,Below.refl _ _⟩
 case round =>
  clear hr0 l hR;obtain⟨rest,i,o,rfl,hr,l,hR,hi,hk1,hk2,y,k⟩:=hrel;by_cases M:(n:Int)<=o
  ·obtain⟨j,r⟩:∃j:Nat,o=((n+j:Nat):Int):=⟨(o - n).toNat,oM⟩;obtain rfl:i=j+1:=oM;obtain⟨hj9,m1,m2,m3,p1,p2,m⟩:=l.out;have D:o - (n:Int)=(j:Int):=oM;have p:=hR.out;rw[QE]at p;replace p:=zH p;have hlr2:=m.len;replace r:=zH r;clear l hR
   go_wp2_with (first
    | (go_at_call 35;refine(Sg p1 p2 (q5.on z6) q6).mono ?_;rintro e w7 ⟨v7,rfl,q7,z7⟩;have y7:=y6.trans (z7.mono y6.size))
    | (go_at_call 12;refine(FW m3.wp m3.wq m3.ms m3.ti (q4.on z5) (u.out.on (k.trans (y5.mono k.size)))).mono ?_;rintro e w6 ⟨v6,rfl,q6,z6⟩;have y6:=y5.trans (z6.mono y5.size))
    | (go_at_call 12;refine(FW m2.wp m2.wq m2.ms m2.ti (x.out.on (k.trans (y4.mono k.size))) (hr.out.on y4)).mono ?_;rintro e w5 ⟨v5,rfl,q5,z5⟩;have y5:=y4.trans (z5.mono y4.size))
    | (go_at_call 12;refine(FW m1.wp m1.wq m1.ms m1.ti (q1.on (z2.trans (z3.mono z2.size))) q3).mono ?_;rintro e w14 ⟨v4,rfl,q4,z4⟩;have y4:=y3.trans (z4.mono y3.size))
    | (go_at_call 98;refine(Kq _ v j hv hj9 w12 q2).mono ?_;rintro e w13 ⟨S,rfl,q3,z3⟩;have y3:=y2.trans (z3.mono y2.size))
    | (go_at_call 37;refine(Dj v w11 hv).mono ?_;rintro e w12 ⟨v2,rfl,q2,z2⟩;have y2:=z1.trans (z2.mono z1.size))
    | (go_at_call 80;refine(xx _ rest v o wr hr.out hv y).mono ?_;rintro e w11 ⟨v1,rfl,q1,z1⟩;rw[r.out]at q1))
   go_roundw
   case rel=>exact⟨Ee v n c b rest j,j,o-1,nM,zH q7,zH m,p,by have:=r.out;omega,oM,oM,hlr2,k.trans (y7.mono k.size)⟩
   case measure=>simp[intOf];omega
  ·obtain rfl:i=0:=oM;have hR0:R=rest:=hR.out;replace hR0:=zH hR0;go_wp2;go_ret2;exact⟨_,rfl,by rw[hR0.out];exact hr.out,hb04.trans (k.mono hb04.size)⟩
theorem Kt(v1 v2:Value)(p q:Rat)(w:World)(h1:bO w v1 p)(h2:bO w v2 q)(k1:Rs p)(k2:Rs q)(hz:q≠0) :
  Calls Tryz.prog 71 #[v1,v2] w (BG w (p/q) 0):=by
 rw[<-CP];obtain⟨s1,a1,l1,c1,s2,a2,l2,c2,rfl,i1,i2⟩:=h1;obtain⟨s3,a3,l3,c3,s4,a4,l4,c4,rfl,i3,i4⟩:=h2
 have dz:(p.den:Int)*q.num≠0:=by
  intro h;rcases Int.mul_eq_zero.1 h with h|h
  ·have:=p.den_nz;omega
  ·exact hz (Rat.num_eq_zero.1 h)
 have k:aF ((p.den:Int)*q.num).natAbs<=CT:=by have h1:=gL p.den q.num.natAbs;have h2:=k1.1;have h3:=k2.2;rw[Int.natAbs_mul,Int.natAbs_natCast];have q2:=mX;omega
 have sb:aF (p.num*(q.den:Int)).natAbs<=CT:=by have h1:=gL p.num.natAbs q.den;have h2:=k1.2;have h3:=k2.1;rw[Int.natAbs_mul,Int.natAbs_natCast];have q2:=mX;omega
 go_enter Tryz.func71,Tryz.ntmps71
 go_upto_region 1 with (fail)
 refine sU λW hb0 B1 B2 B3 m=>?_;replace i1:=i1.on hb0;replace i2:=i2.on hb0;replace i3:=i3.on hb0;replace i4:=i4.on hb0;refine aC mixed (none) (0) (fM.none) [.eq (.pointer (some ⟨w.heap.size,0,none⟩)),.eq (.agg #[.bool s1,.slice a1 l1 c1]),.eq (.pointer (some ⟨w.heap.size+1,2,none⟩)),.eq (.agg #[.bool s4,.slice a4 l4 c4]),.int dM ((p.num*(q.den:Int))),.eq (.pointer (some ⟨w.heap.size,2,none⟩)),.eq (.agg #[.bool s2,.slice a2 l2 c2]),.eq (.pointer (some ⟨w.heap.size+1,0,none⟩)),.eq (.agg #[.bool s3,.slice a3 l3 c3]),.int dM (((p.den:Int)*q.num)),.ratE dM (Rat.divInt (p.num*(q.den:Int)) ((p.den:Int)*q.num)) 0,.rat dM (Rat.divInt (p.num*(q.den:Int)) ((p.den:Int)*q.num)),.eq (.int .i64 0)] [6,7,8,9,10,11,12,13,14,15,16,17,18] rfl rfl rfl rfl ⟨λA _ hA _ _ _=>have h2:A.eval (.tmp 2)=.pointer (some ⟨w.heap.size,0,none⟩):=hA 2 rfl;pZ rfl,λA _ _ hL _ he=>have hb:=hL.below;have h6:=eT 6 (he.1 rfl);have c0:=((B1).on hb).at1 0 _ rfl;have c1:=((B1).on hb).at1 1 _ rfl;pZ rfl,λA _ hA _ _ _=>have h3:A.eval (.tmp 3)=.pointer (some ⟨w.heap.size+1,0,none⟩):=hA 3 rfl;pZ rfl,λA _ _ hL _ he=>have hb:=hL.below;have h8:=eT 8 (he.1 rfl);have c0:=((B2).on hb).at1 2 _ rfl;have c1:=((B2).on hb).at1 3 _ rfl;pZ rfl,λA _ _ _ hS he=>have hb:=hS rfl;have h7:=eT 7 (he.1 rfl);have h9:=eT 9 (he.2.1 rfl);have hf0:=eF A 105;cP (f:=105) (args:=#[.agg #[.bool s1,.slice a1 l1 c1],.agg #[.bool s4,.slice a4 l4 c4]]) (mq _ _ _ _ _ _ _ (i1.on hb) (i4.on hb) (La k1.num) (La k2.den)),λA _ hA _ _ _=>have h2:A.eval (.tmp 2)=.pointer (some ⟨w.heap.size,0,none⟩):=hA 2 rfl;pZ rfl,λA _ _ hL _ he=>have hb:=hL.below;have h11:=eT 11 (he.1 rfl);have c0:=((B1).on hb).at1 2 _ rfl;have c1:=((B1).on hb).at1 3 _ rfl;pZ rfl,λA _ hA _ _ _=>have h3:A.eval (.tmp 3)=.pointer (some ⟨w.heap.size+1,0,none⟩):=hA 3 rfl;pZ rfl,λA _ _ hL _ he=>have hb:=hL.below;have h13:=eT 13 (he.1 rfl);have c0:=((B2).on hb).at1 0 _ rfl;have c1:=((B2).on hb).at1 1 _ rfl;pZ rfl,λA _ _ _ hS he=>have hb:=hS rfl;have h12:=eT 12 (he.1 rfl);have h14:=eT 14 (he.2.1 rfl);have hf0:=eF A 105;cP (f:=105) (args:=#[.agg #[.bool s2,.slice a2 l2 c2],.agg #[.bool s3,.slice a3 l3 c3]]) (mq _ _ _ _ _ _ _ (i2.on hb) (i3.on hb) (La k1.den) (La k2.num)),?_,?_,?_,trivial⟩ ?_
 ·intro A w1 hA hL hS he;have hb:=hS rfl;obtain⟨v10,h10,f10⟩:=fT 10 (he.1 rfl);obtain⟨v15,h15,f15⟩:=fT 15 (he.2.1 rfl);have hf0:=eF A 104;refine ae rfl ?_;refine dV (f:=104) (args:=#[v10,v15]) rfl rfl ?_ ?_
  ·exact gZ
  ·obtain⟨n10,m10,rfl,i10⟩:=f10;obtain⟨n15,m15,rfl,i15⟩:=f15;refine(NS _ _ _ _ _ _ _ i10 i15 sb k dz).mono ?_;rintro e w' ⟨x,rfl,l,b⟩;exact⟨_,rfl,b,x,rfl,l⟩
 ·intro A w1 hA hL hS he;obtain⟨v16,h16,f16⟩:=fT 16 (he.1 rfl);refine ae rfl ?_;obtain⟨x,rfl,j⟩:=f16;refine kQ (c:=x) rfl rfl (Below.refl _ _) j ?_;exact gZ
 ·intro A w1 hA hL hS he;obtain⟨v16,h16,f16⟩:=fT 16 (he.1 rfl);refine ae rfl ?_;obtain⟨x,rfl,j⟩:=f16;exact aA rfl rfl gZ
 ·intro w4 hL4;have hb4:=hL4.below;simp only[aU,af.eq,af.int,af.rat,af.ratE,af.of,lZ];rintro _ - _ - _ - v17 h17;obtain⟨t1,b1,g1,d1,t2,b2,g2,d2,rfl,u1,u2⟩:=h17;go_frame;have E3:=B3.on hb4;have d:=hb0.trans (hb4.mono hb0.size)
  go_wp2_with (refine az rfl _ (.tmp 4) (.tmp 17) rfl _ _ _ _ rfl rfl E3 rfl dD dH ?_;intro w5 R i)
  exact bodyPost_ret (nV rfl _ _ _ Tryz.underlying41 rfl rfl R dD) rfl ⟨_,rfl,bO.stored ⟨t1,b1,g1,d1,t2,b2,g2,d2,rfl,u1,u2⟩ i E3 dM,d.trans ((aH i (Nat.le_of_lt E3.lt) (nL _)).mono oM)⟩
end Go.Proofs.YtopclbeomcggiaaGreat
end
