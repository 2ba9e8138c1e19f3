/- mgcd.Resultant. -/
import Derived.Test.YtopclbeomcggiaaGreatW31
set_option linter.unusedVariables false
set_option linter.unusedSimpArgs false
set_option maxHeartbeats 16000000
set_option maxRecDepth 100000
namespace Q
open Go Go.RowKit Go.Proofs.YtopclbeomcggiaaGreat
theorem jr.mono {b b':Nat} {w:World} {N c:Nat} {r:List (List ai)} (h:jr b w N c r) (hb:b'<=b):jr b' w N c r:=⟨by have:=h.1;omega,h.2⟩
theorem rR.mono {b b':Nat} {w:World} {g N:Nat} {bs:List Nat} {M:Mx} (h:rR b w g N bs M) (hb:b'<=b):rR b' w g N bs M :=
 ⟨h.ob,by have:=h.gb;omega,h.len,h.le,fun i c r h1 h2=>(h.row i c r h1 h2).mono hb,h.nd⟩
theorem rR.get {base:Nat} {w:World} {g N:Nat} {bs:List Nat} {M:Mx} (h:rR base w g N bs M) {i b j:Nat} (hb:bs[i]?=some b) (hj:j<N) :
  ∃ v,ak w v (gI M i j)/\w.cell? ⟨b,j,none⟩=some v/\w.frozen? ⟨b,j,none⟩=false/\b<w.heap.size:=by
 have hi:i<bs.length:=(List.getElem?_eq_some_iff.1 hb).1;have hM:M[i]?=some (M.getD i []):=by rw [List.getD_eq_getElem?_getD,List.getElem?_eq_getElem (by rw [h.len];exact hi)];rfl
 exact (h.row i b _ hb hM).get hj
theorem yH {α:Type} {l:List α} {i j:Nat} {x y:α} (hi:l[i]?=some x) (hj:l[j]?=some y) (k:Nat) :
  ((l.set i y).set j x)[k]?=if k=j then some x else if k=i then some y else l[k]?:=by
 have hil:=(List.getElem?_eq_some_iff.1 hi).1;have hjl:=(List.getElem?_eq_some_iff.1 hj).1;rw [List.getElem?_set,List.getElem?_set];by_cases h1:j=k
 ·subst h1;simp [hjl]
 ·have h1':¬ k=j:=fun h=>h1 h.symm;by_cases h2:i=k
  ·subst h2;simp [h1,h1',hil]
  ·have h2':¬ k=i:=fun h=>h2 h.symm;simp [h1,h1',h2,h2']
theorem rR.swap {base:Nat} {w w':World} {g N:Nat} {bs:List Nat} {M:Mx} (h:rR base w g N bs M) (hN:bs.length=N) {i j b c:Nat} (hi:bs[i]?=some b) (hj:bs[j]?=some c)
  (hB:Blk w' g qL (((bs.map (mY N)).set i (mY N c)).set j (mY N b))) (hl:Lr (some g) qL w w'):rR base w' g N ((bs.set i c).set j b) (pR M i j):=by
 have hil:=(List.getElem?_eq_some_iff.1 hi).1;have hjl:=(List.getElem?_eq_some_iff.1 hj).1;have hMi:M[i]?=some (M.getD i []):=by rw [List.getD_eq_getElem?_getD,List.getElem?_eq_getElem (by rw [h.len];exact hil)];rfl
 have hMj:M[j]?=some (M.getD j []):=by rw [List.getD_eq_getElem?_getD,List.getElem?_eq_getElem (by rw [h.len];exact hjl)];rfl
 refine⟨?_,h.gb,by simp [pR,h.len],by simp;omega,fun k d r h1 h2=>?_,?_⟩
 ·rw [show N-((bs.set i c).set j b).length=0 by simp;omega,List.replicate_zero,List.append_nil,List.map_set,List.map_set];exact hB
 ·rw [yH hi hj] at h1;rw [pR,yH hMi hMj] at h2
  have hrow:jr base w N d r:=by
   split at h1
   ·next hk=>rw [if_pos hk] at h2;cases h1;cases h2;exact h.row i _ _ hi hMi
   ·next hk =>
    rw [if_neg hk] at h2;split at h1
    ·next hk2=>rw [if_pos hk2] at h2;cases h1;cases h2;exact h.row j _ _ hj hMj
    ·next hk2=>rw [if_neg hk2] at h2;exact h.row k _ _ h1 h2
  exact hrow.lr hl (by decide) (by decide) (hrow.ne h.ob)
 ·rw [List.nodup_iff_pairwise_ne,List.pairwise_iff_getElem];intro p q hp hq hpq he;have e1:=List.getElem?_eq_getElem hp;have e2:=List.getElem?_eq_getElem hq;rw [he] at e1;have hinj:=fun {x y z:Nat} (h1:bs[x]?=some z) (h2:bs[y]?=some z)=>Eg h.nd h1 h2;rw [yH hi hj] at e1 e2;generalize ((bs.set i c).set j b)[q]=z at *;split at e1 <;> split at e2
  ·omega
  ·split at e2
   ·cases e1;cases e2;have:=hinj hi hj;omega
   ·cases e1;have:=hinj hi e2;omega
  ·split at e1
   ·cases e1;cases e2;have:=hinj hi hj;omega
   ·cases e2;have:=hinj hi e1;omega
  ·split at e1 <;> split at e2
   ·omega
   ·cases e1;have:=hinj hj e2;omega
   ·cases e2;have:=hinj hj e1;omega
   ·have:=hinj e1 e2;omega
theorem rR.swapW {base:Nat} {w:World} {g N:Nat} {bs:List Nat} {M:Mx} (h:rR base w g N bs M) (hN:bs.length=N) {i j b c:Nat} (hi:bs[i]?=some b) (hj:bs[j]?=some c) (hne:i≠j) :
  (rR base ((w.setCell ⟨g,i,none⟩ (mY N c)).setCell ⟨g,j,none⟩ (mY N b)) g N ((bs.set i c).set j b) (pR M i j)/\Lr (some g) qL w ((w.setCell ⟨g,i,none⟩ (mY N c)).setCell ⟨g,j,none⟩ (mY N b))) /\
  (rR base ((w.setCell ⟨g,j,none⟩ (mY N b)).setCell ⟨g,i,none⟩ (mY N c)) g N ((bs.set i c).set j b) (pR M i j)/\Lr (some g) qL w ((w.setCell ⟨g,j,none⟩ (mY N b)).setCell ⟨g,i,none⟩ (mY N c))):=by
 have hB:Blk w g qL (bs.map (mY N)):=by
  have:=h.ob;rwa [show N-bs.length=0 by omega,List.replicate_zero,List.append_nil] at this
 have h1:=hB.set i (mY N c);have h2:=h1.set j (mY N b);have l1:=(aY (j:=i) hB (mY N c)).trans (aY (j:=j) h1 (mY N b));have h3:=hB.set j (mY N b);have h4:=h3.set i (mY N c);have l2:=(aY (j:=j) hB (mY N b)).trans (aY (j:=i) h3 (mY N c));rw [List.set_comm _ _ (fun h=>hne h.symm)] at h4;exact⟨⟨h.swap hN hi hj h2 l1,l1⟩,h.swap hN hi hj h4 l2,l2⟩
end Q
namespace Go.Proofs.YtopclbeomcggiaaGreat
open Go.RowKit Q Go.WideMaps Go.Maps
theorem Dh (va vb:Value) (a b:List ai) (v:Int) (w:World) (ha:ak w va a) (hb:ak w vb b) (h:a=[]\/b=[]):Calls Tryz.prog 33 #[va,vb,.int .i64 v] w (aX w []):=by
 obtain⟨aa,ca,rfl,-⟩:=ha.shape;obtain⟨ab,cb,rfl,-⟩:=hb.shape;by_cases h0:a=[]
 ·subst h0;simp only [List.length_nil]
  go_enter Tryz.func33,Tryz.ntmps33
  go_wp2;go_step3;go_wp2;rw [Exit.noGoto_ret];go_ret;exact⟨_,rfl,bS.nil _ _,Below.refl _ _⟩
 ·have h1:b=[]:=h.resolve_left h0;subst h1;have hne:((a.length:Int) == 0)=false:=by have:=List.length_pos_iff.2 h0;simp;omega
  simp only [List.length_nil];generalize a.length=n at *;clear h
  go_enter Tryz.func33,Tryz.ntmps33
  go_wp2;go_step3;go_wp2;rw [Exit.noGoto_ret];go_ret;exact⟨_,rfl,bS.nil _ _,Below.refl _ _⟩
theorem qp (va vb:Value) (a b R:List ai) (v:Nat) (w:World) (ha:ak w va a) (hb:ak w vb b) (ka:Wp a) (kb:Wp b) (hv:v<4) (h:yj a b v=some R) :
  Calls Tryz.prog 33 #[va,vb,.int .i64 v] w (aX w R):=by
 by_cases hab:a=[]\/b=[]
 ·unfold yj at h;rw [if_pos hab,Option.some.injEq] at h;subst h;exact Dh va vb a b v w ha hb hab
 have hna:a≠[]:=fun h=>hab (.inl h);have hnb:b≠[]:=fun h=>hab (.inr h);unfold yj at h;rw [if_neg hab] at h;have hca:=zH (fun W (hb:Below w.heap.size w W)=>uY va a v W (ha.on hb) hv ka.val.nat (by have:=(ka.deg v).2;omega) (by have:=ka.len;omega));have hcb:=zH (fun W (hbb:Below w.heap.size w W)=>uY vb b v W (hb.on hbb) hv kb.val.nat (by have:=(kb.deg v).2;omega) (by have:=kb.len;omega));have la:1<=(aB a v).length/\(aB a v).length<=100001:=by rw [aW];have:=yX (v:=v) hna ka;have:=(ka.deg v).2;omega
 have lb:1<=(aB b v).length/\(aB b v).length<=100001:=by rw [aW];have:=yX (v:=v) hnb kb;have:=(kb.deg v).2;omega
 have hsok:=Vk (a:=aB a v) (b:=aB b v) (fun c hc=>ka.coeffs hc) (fun c hc=>kb.coeffs hc);have hsy:=zH (fun W u1 u2 (h1:fG W u1 (aB a v)) (h2:fG W u2 (aB b v))=>De u1 u2 _ _ W h1 h2 la.1 la.2 lb.1 lb.2);generalize vJ (aB a v) (aB b v)=M0 at *;obtain⟨N,hN⟩:∃ N,N=(aB a v).length - 1+((aB b v).length - 1):=⟨_,rfl⟩;have hNl:N<=200000:=by omega
 rw [<- hN] at h hsok hsy;have hnea:((a.length:Int) == 0)=false:=by have:=List.length_pos_iff.2 hna;simp;omega
 have hneb:((b.length:Int) == 0)=false:=by have:=List.length_pos_iff.2 hnb;simp;omega
 generalize aB a v=A at *;generalize aB b v=B at *;obtain⟨aa,ca,rfl,-⟩:=ha.shape;obtain⟨ab,cb,rfl,-⟩:=hb.shape;obtain⟨na,hna2⟩:∃ n,n=a.length:=⟨_,rfl⟩;obtain⟨nb,hnb2⟩:∃ n,n=b.length:=⟨_,rfl⟩;rw [<- hna2] at hnea hca ⊢;rw [<- hnb2] at hneb hcb ⊢;replace h:=zH h;replace hsok:=zH hsok;clear hna2 hnb2 ha hb ka kb hab hna hnb la lb hN
 go_enter Tryz.func33,Tryz.ntmps33
 go_wp2;go_step3
 go_upto_region 5 with (first
  | (go_at_call 62;refine (hcb.out w3 hb3).mono ?_;rintro en w4 ⟨v4,rfl,h4,hb4⟩;have h34:=h3.on hb4)
  | (go_at_call 62;refine (hca.out _ (Below.refl _ _)).mono ?_;rintro en w3 ⟨v3,rfl,h3,hb3⟩)
  | (go_at_call 76;refine (hsy.out _ _ _ h34 h4).mono ?_;rintro en w5 ⟨g,bs,rfl,hM,hb5⟩)
  | (go_at_call 51;refine (wO _).mono ?_;rintro en w6 ⟨v6,rfl,h6,hb6⟩))
 have hb04:=hb3.trans (hb4.mono hb3.size);have hb05:=hb04.trans (hb5.mono hb04.size);have hb06:=hb05.trans (hb6.mono hb05.size);have hM6:=zH ((hM.mono hb04.size).on hb6);replace h6:=zH h6;clear hca hcb hsy h3 h34 h4 hM hb3 hb4 hb5 hb6 hb04 hb05 hnea hneb;go_wp2;go_step3;go_wp2
 go_loopg [8,9,32] N (fun f vl vn vk wr=>∃ (M:Mx) (bs:List Nat) (last:List ai) (neg:Bool) (k:Nat),k+f=N/\vk=.int .i64 k/\vn=.bool neg/\Hid (ak wr vl last)/\Wp last/\Hid (rR w.heap.size wr g N bs M)/\bs.length=N/\Hid (vB N M)/\Hid (Q.resS N f M last neg=some R)/\Below w.heap.size w wr)
 case atStart=>exact⟨M0,bs,nP,false,0,by omega,by go_num,rfl,h6,FQ,hM6,by have h1:=hM6.out.len;have h2:=hsok.out.len;omega,hsok,h,hb06⟩
 case round =>
  clear h6 hM6 hsok h hb06 bs;obtain⟨M,bs,last,neg,k,hkf,rfl,rfl,hla,kla,hM,hbl,hok,hr,hbr⟩:=hrel
  cases gk with
  | zero =>
   obtain rfl:k=N:=by omega
   replace hr:=hr.out;rw [Q.resS] at hr;clear hM hok hbl;cases neg
   ·have hfin:=zH (show R=last from (Option.some.inj hr).symm);go_wp2;rw [Exit.noGoto_ret];go_ret;exact⟨_,rfl,by rw [hfin.out];exact hla.out,hbr⟩
   ·have hfin:=zH (show R=dK [] last from (Option.some.inj hr).symm);have hsub:=zH (fun W vl (hl:ak W vl last)=>Vj (w:=W) Wp.nil kla (bS.nil _ _) hl)
    go_wp2_with (go_at_call 74;refine (hsub.out _ _ hla.out).mono ?_;rintro en w7 ⟨v7,rfl,h7,hb7⟩)
    rw [Exit.noGoto_ret];go_ret;exact⟨_,rfl,by rw [hfin.out];exact h7,hbr.trans (hb7.mono hbr.size)⟩
  | succ f =>
   have hkN:k<N:=by omega
   have hkN':(k:Int)<(N:Int):=by omega
   have hr2:=hr.out;rw [Q.resS] at hr2;have hNk:N-(f+1)=k:=by omega
   rw [hNk] at hr2;clear hr hNk;have hM0:=hM.out;have hall:∀ i,i<N->∃ b,bs[i]?=some b:=fun i hi=>⟨_,List.getElem?_eq_getElem (by omega)⟩;have hNN:=zH hNl;go_wp2
   go_loopg [11] (f+1) (fun q vi wz=>∃ p:Nat,p+q=N/\q<=f+1/\0<q/\vi=.int .i64 p/\Hid (rQ N k M q=rQ N k M (f+1))/\wz=wr)
   case atStart=>exact⟨k,by omega,by omega,by omega,rfl,zH rfl,rfl⟩
   case round =>
    obtain⟨p,hpq,hqf,hq0,rfl,hfd,rfl⟩:=hrel;have hpN:p<N:=by omega
    obtain⟨bp,hbp⟩:=hall p hpN;have hhd:wr.cell? ⟨g,p,none⟩=some (.slice (some ⟨bp,0,none⟩) N N):=hM0.hd hbp;obtain⟨vp,hvp,hcp,-,-⟩:=hM0.get hbp (j:=k) hkN;obtain⟨ap,cp,rfl,-⟩:=hvp.shape;obtain⟨q,rfl⟩:∃ q',gk=q'+1:=⟨gk - 1,by omega⟩;have hNp:N - (q+1)=p:=by omega
    have hfd2:=hfd.out;rw [rQ,hNp] at hfd2;clear hfd hNp hvp;by_cases he:gI M p k=[]
    ·rw [if_pos he] at hfd2;rw [he] at hcp;simp only [List.length_nil] at hcp;clear he;by_cases lY:q=0
     ·subst lY;rw [<- hfd2] at hr2;have hfin:Hid (R=[]):=zH (Option.some.inj hr2).symm;have hpN1:(p:Int)+1=(N:Int):=by omega
      have hp2:(p:Int)<=200000:=by have:=hNN.out;omega
      clear hr2 hfd2
      go_wp2_with (first
       | (refine aj rfl (.tmp 36) (.tmp 37) _ rfl _ Tryz.underlying84 _ 1 24 (by kernel_rfl) _ _ _ rfl _ _ rfl p rfl (by omega) g 0 rfl ?_;rw [Nat.mul_one,Nat.zero_add])
       | (refine aj rfl (.tmp 39) (.tmp 40) _ rfl _ Tryz.underlying75 _ 1 24 (by kernel_rfl) _ _ _ rfl _ _ rfl k rfl hkN bp 0 rfl ?_;rw [Nat.mul_one,Nat.zero_add]))
      rw [Exit.noGoto_ret];go_ret;exact⟨_,rfl,by rw [hfin.out];exact bS.nil _ _,hbr⟩
     ·have hpN1:((p:Int)+1 == (N:Int))=false:=by simp;omega
      have hpN2:¬ (p:Int)+1=(N:Int):=by omega
      have hp2:(p:Int)<=200000:=by have:=hNN.out;omega
      have hfd3:=zH hfd2;clear hfd2
      go_wp2_with (first
       | (refine aj rfl (.tmp 36) (.tmp 37) _ rfl _ Tryz.underlying84 _ 1 24 (by kernel_rfl) _ _ _ rfl _ _ rfl p rfl (by omega) g 0 rfl ?_;rw [Nat.mul_one,Nat.zero_add])
       | (refine aj rfl (.tmp 39) (.tmp 40) _ rfl _ Tryz.underlying75 _ 1 24 (by kernel_rfl) _ _ _ rfl _ _ rfl k rfl hkN bp 0 rfl ?_;rw [Nat.mul_one,Nat.zero_add]))
      go_roundg q
      case measure=>omega
      case rel=>exact⟨p+1,by omega,by omega,by omega,by go_num,hfd3,rfl⟩
    ·rw [if_neg he] at hfd2;have hne:(((gI M p k).length:Int) == 0)=false:=by have:=List.length_pos_iff.2 he;simp;omega
     obtain⟨lp,hlp⟩:∃ lp,lp=(gI M p k).length:=⟨_,rfl⟩;rw [<- hlp] at hne hcp;clear hlp he;rw [<- hfd2] at hr2;simp only at hr2;clear hfd2
     go_upto_if 53 with (first
      | (refine aj rfl (.tmp 36) (.tmp 37) _ rfl _ Tryz.underlying84 _ 1 24 (by kernel_rfl) _ _ _ rfl _ _ rfl p rfl (by omega) g 0 rfl ?_;rw [Nat.mul_one,Nat.zero_add])
      | (refine aj rfl (.tmp 39) (.tmp 40) _ rfl _ Tryz.underlying75 _ 1 24 (by kernel_rfl) _ _ _ rfl _ _ rfl k rfl hkN bp 0 rfl ?_;rw [Nat.mul_one,Nat.zero_add]))
     clear hhd hcp;have hkp:k<=p:=by omega
     go_cut [9,54,55,56,57,58,59,60,61,62,63,64,65,66,67,68,69] (fun vneg _ _ _ _ _ _ _ _ _ _ _ _ _ _ _ _ wc=>∃ (bs1:List Nat) (M1:Mx) (neg1:Bool),vneg=.bool neg1/\Hid (rR w.heap.size wc g N bs1 M1)/\bs1.length=N/\Hid (vB N M1)/\Hid (M1=if p=k then M else pR M k p)/\Hid (neg1=if p=k then neg else !neg)/\Hid (ak wc u8 last)/\Below w.heap.size w wc)
     case first =>
      by_cases hpk:p=k
      ·have hpk2:((p:Int) == (k:Int))=true:=by simp;omega
       have hpk3:((p:Int)=(k:Int))=True:=eq_true (by omega);have hpk4:=zH hpk;clear hpk;go_wp2;go_meet
       case rel=>exact⟨bs,M,neg,rfl,hM,hbl,hok,zH (by rw [if_pos hpk4.out]),zH (by rw [if_pos hpk4.out]),hla,hbr⟩
      ·have hpk2:((p:Int) == (k:Int))=false:=by simp;omega
       have hpk3:((p:Int)=(k:Int))=False:=eq_false (by omega);have hpk4:=zH hpk;obtain⟨bk,hbk⟩:=hall k hkN;have hMd:=hM0.on (pV (Below.refl _ _) 1);obtain⟨⟨s1,t1⟩,s2,t2⟩:=hMd.swapW hbl hbk hbp (fun h=>hpk h.symm);have hlad:=hla.out.on (pV (Below.refl wr.heap.size wr) 1);have hbrd:=pV hbr 1;have hgw:=hM0.gb;have e1:wr.cell? ⟨g,p,none⟩=some (.slice (some ⟨bp,0,none⟩) N N):=hM0.hd hbp;have e2:wr.cell? ⟨g,k,none⟩=some (.slice (some ⟨bk,0,none⟩) N N):=hM0.hd hbk;have e3:=hM0.ob.frozen p;have e4:=hM0.ob.frozen k;have hne9:¬ k=p:=fun h=>hpk h.symm;have hlen9:((bs.set k bp).set p bk).length=N:=by simp;exact hbl
       have hok9:=zH (hok.out.swap hkN hpN);replace s1:=zH s1;replace s2:=zH s2;replace t1:=zH t1;replace t2:=zH t2;clear hMd hpk
       go_upto_region 14 with (fail)
       go_cut [54,55,56,57,58,59,60,61,62,63,64,65,66,67] (fun _ _ _ _ _ _ _ _ _ _ _ _ _ _ wd=>Hid (rR w.heap.size wd g N ((bs.set k bp).set p bk) (pR M k p))/\Hid (ak wd u8 last)/\Below w.heap.size w wd)
       case first =>
        go_region_with (fail)
        all_goals
         go_wp2;go_meet
         case rel=>first
          | exact⟨s1,zH (hlad.lr t1.out (bu (by decide)) (by decide)),hbrd.trans (t1.out.belowAt hbrd.size (fun k hk=>by cases hk;exact hgw))⟩
          | exact⟨s2,zH (hlad.lr t2.out (bu (by decide)) (by decide)),hbrd.trans (t2.out.belowAt hbrd.size (fun k hk=>by cases hk;exact hgw))⟩
       case rest =>
        obtain⟨hMx,hlx,hbx⟩:=hcut;cases neg
        ·go_wp2;go_meet
         case rel=>exact⟨_,_,true,rfl,hMx,hlen9,hok9,zH (by rw [if_neg hpk4.out]),zH (by rw [if_neg hpk4.out];rfl),hlx,hbx⟩
        ·go_wp2;go_meet
         case rel=>exact⟨_,_,false,rfl,hMx,hlen9,hok9,zH (by rw [if_neg hpk4.out]),zH (by rw [if_neg hpk4.out];rfl),hlx,hbx⟩
     case rest =>
      obtain⟨bs1,M1,neg1,rfl,hM1,hbl1,hok1,hM1e,hn1e,hl1,hbc⟩:=hcut;rw [<- hM1e.out,<- hn1e.out] at hr2;have hall1:∀ i,i<N->∃ b,bs1[i]?=some b:=fun i hi=>⟨_,List.getElem?_eq_getElem (by omega)⟩;clear hM1e hn1e hM hM0 hok hbl hla hbr hall hbp hne;have hk2:(k:Int)<=200000:=by have:=hNN.out;omega
      have hN2:(N:Int)<=200000:=by have:=hNN.out;omega
      by_cases hf0:f=0
      ·rw [if_pos hf0] at hr2;have hNk:(N:Int)-1=(k:Int):=by omega
       obtain⟨bk,hbk⟩:=hall1 k hkN;have hhd:wc.cell? ⟨g,k,none⟩=some (.slice (some ⟨bk,0,none⟩) N N):=hM1.out.hd hbk;obtain⟨vk,hvk,hck,-,-⟩:=hM1.out.get hbk (j:=k) hkN;have kvk:=hok1.out.get k k;replace hvk:=zH hvk;clear hf0 hM1 hok1 hall1;cases neg1
       ·have hfin:=zH (show R=gI M1 k k from (Option.some.inj hr2).symm)
        go_wp2_with (first|(refine aj rfl (.tmp 75) (.tmp 76) _ rfl _ Tryz.underlying84 _ 1 24 (by kernel_rfl) _ _ _ rfl _ _ rfl k rfl hkN g 0 rfl ?_;rw [Nat.mul_one,Nat.zero_add])|(refine aj rfl (.tmp 78) (.tmp 79) _ rfl _ Tryz.underlying75 _ 1 24 (by kernel_rfl) _ _ _ rfl _ _ rfl k rfl hkN bk 0 rfl ?_;rw [Nat.mul_one,Nat.zero_add]))
        rw [Exit.noGoto_ret];go_ret;exact⟨_,rfl,by rw [hfin.out];exact hvk.out,hbc⟩
       ·have hfin:=zH (show R=dK [] (gI M1 k k) from (Option.some.inj hr2).symm);have hsub:=zH (fun W vl (hl:ak W vl (gI M1 k k))=>Vj (w:=W) Wp.nil kvk (bS.nil _ _) hl);have hsu2:=zH (hsub.out _ _ hvk.out)
        go_wp2_with (first|(refine aj rfl (.tmp 75) (.tmp 76) _ rfl _ Tryz.underlying84 _ 1 24 (by kernel_rfl) _ _ _ rfl _ _ rfl k rfl hkN g 0 rfl ?_;rw [Nat.mul_one,Nat.zero_add])|(refine aj rfl (.tmp 78) (.tmp 79) _ rfl _ Tryz.underlying75 _ 1 24 (by kernel_rfl) _ _ _ rfl _ _ rfl k rfl hkN bk 0 rfl ?_;rw [Nat.mul_one,Nat.zero_add])|(go_at_call 74;refine hsu2.out.mono ?_;rintro en w7 ⟨v7,rfl,h7,hb7⟩))
        rw [Exit.noGoto_ret];go_ret;exact⟨_,rfl,by rw [hfin.out];exact h7,hbc.trans (hb7.mono hbc.size)⟩
      ·rw [if_neg hf0] at hr2;obtain⟨M2,hM2,hr3⟩:=aS hr2;replace hM2:=zH hM2;replace hr3:=zH hr3;have hNk:(((k:Int)) == (N:Int) - 1)=false:=by simp;omega
       have hNk2:¬ (k:Int)=(N:Int)-1:=by omega
       have hN1:1<=(N:Int):=by omega
       clear hr2;go_wp2
       go_loopg [12] f (fun q vi wz=>∃ (M':Mx) (i:Nat),i+q=N/\q<=f/\vi=.int .i64 i/\Hid (rR w.heap.size wz g N bs1 M')/\Hid (vB N M')/\Hid (VT N k last q M'=some M2)/\Hid (ak wz u8 last)/\Below w.heap.size w wz)
       case atStart=>exact⟨M1,k+1,by omega,by omega,by go_num,hM1,hok1,hM2,hl1,hbc⟩
       case round =>
        clear hM1 hok1 hM2 hl1 hbc;obtain⟨M',i,hiq,hqf,rfl,hM',hok',hel,hl',hbz⟩:=hrel
        cases gk with
        | zero =>
         obtain rfl:N=i:=by omega
         have he2:M'=M2:=Option.some.inj hel.out;subst he2;obtain⟨bk,hbk⟩:=hall1 k hkN;have hhd:wr.cell? ⟨g,k,none⟩=some (.slice (some ⟨bk,0,none⟩) N N):=hM'.out.hd hbk;obtain⟨vk,hvk,hck,-,-⟩:=hM'.out.get hbk (j:=k) hkN;have kvk:=hok'.out.get k k;replace hvk:=zH hvk;clear hel
         go_wp2_with (first
          | (refine aj rfl (.tmp 137) (.tmp 138) _ rfl _ Tryz.underlying84 _ 1 24 (by kernel_rfl) _ _ _ rfl _ _ rfl k rfl hkN g 0 rfl ?_;rw [Nat.mul_one,Nat.zero_add])
          | (refine aj rfl (.tmp 140) (.tmp 141) _ rfl _ Tryz.underlying75 _ 1 24 (by kernel_rfl) _ _ _ rfl _ _ rfl k rfl hkN bk 0 rfl ?_;rw [Nat.mul_one,Nat.zero_add]))
         go_roundg f
         case measure=>omega
         case rel=>exact⟨M',bs1,gI M' k k,neg1,k+1,by omega,by go_num,rfl,hvk,kvk,hM',hbl1,hok',hr3,hbz⟩
        | succ q =>
         have hel2:=hel.out;rw [VT,show N - (q+1)=i by omega,show N - (k+1)=f by omega] at hel2;obtain⟨M3,hM3,hel3⟩:=aS hel2;replace hM3:=zH hM3;replace hel3:=zH hel3;have hiN:i<N:=by omega
         have hiN':(i:Int)<(N:Int):=by omega
         clear hel hel2;go_wp2
         go_loopg [13] f (fun q2 vj wz=>∃ (M'':Mx) (j:Nat),j+q2=N/\q2<=f/\vj=.int .i64 j/\Hid (rR w.heap.size wz g N bs1 M'')/\Hid (vB N M'')/\Hid (VS N k i last q2 M''=some M3)/\Hid (ak wz u8 last)/\Below w.heap.size w wz)
         case atStart=>exact⟨M',k+1,by omega,by omega,by go_num,hM',hok',hM3,hl',hbz⟩
         case round =>
          clear hM' hok' hM3 hl' hbz;obtain⟨M'',j,hjq,hq2f,rfl,hM'',hok'',hej,hl'',hby⟩:=hrel
          cases gk with
          | zero =>
           obtain rfl:N=j:=by omega
           have he2:M''=M3:=Option.some.inj hej.out;subst he2;clear hej;go_wp2;go_roundg q
           case measure=>omega
           case rel=>exact⟨M'',i+1,by omega,by omega,by go_num,hM'',hok'',hel3,hl'',hby⟩
          | succ q2 =>
           have hjN:j<N:=by omega
           have hjN':(j:Int)<(N:Int):=by omega
           have hej2:=hej.out;rw [VS,show N - (q2+1)=j by omega] at hej2;obtain⟨x,hx,hej3⟩:=aS hej2;obtain⟨bk,hbk⟩:=hall1 k hkN;obtain⟨bi,hbi⟩:=hall1 i hiN;have hMM:=hM''.out;obtain⟨vkk,pkk,ckk,-,gkk⟩:=hMM.get hbk (j:=k) hkN;obtain⟨vij,pij,cij,-,gij⟩:=hMM.get hbi (j:=j) hjN;obtain⟨vik,pik,cik,-,-⟩:=hMM.get hbi (j:=k) hkN;obtain⟨vkj,pkj,ckj,-,-⟩:=hMM.get hbk (j:=j) hjN;have kkk:=hok''.out.get k k;have kij:=hok''.out.get i j;have kik:=hok''.out.get i k;have kkj:=hok''.out.get k j;have c1:∀ W,Below wr.heap.size wr W->W.cell? ⟨g,k,none⟩=some (.slice (some ⟨bk,0,none⟩) N N):=fun W hb=>(hMM.on hb).hd hbk;have c2:∀ W,Below wr.heap.size wr W->W.cell? ⟨g,i,none⟩=some (.slice (some ⟨bi,0,none⟩) N N):=fun W hb=>(hMM.on hb).hd hbi;have c3:∀ W,Below wr.heap.size wr W->W.cell? ⟨bk,k,none⟩=some vkk:=fun W hb=>(hb.cell (p:=⟨bk,k,none⟩) gkk).trans ckk;have c4:∀ W,Below wr.heap.size wr W->W.cell? ⟨bi,j,none⟩=some vij:=fun W hb=>(hb.cell (p:=⟨bi,j,none⟩) gij).trans cij;have c5:∀ W,Below wr.heap.size wr W->W.cell? ⟨bi,k,none⟩=some vik:=fun W hb=>(hb.cell (p:=⟨bi,k,none⟩) gij).trans cik;have c6:∀ W,Below wr.heap.size wr W->W.cell? ⟨bk,j,none⟩=some vkj:=fun W hb=>(hb.cell (p:=⟨bk,j,none⟩) gkk).trans ckj;have m1:=kkk.mulOk kij;have m2:=kik.mulOk kkj;have r1:=kkk.prod kij;have r2:=kik.prod kkj;have hcm1:=fun W u1 u2 (h1:ak W u1 (gI M'' k k)) (h2:ak W u2 (gI M'' i j))=>xU u1 u2 _ _ W h1 h2 m1.kp m1.kq m1.ko m1.kl.1 m1.kl.2
           have hcm2:=fun W u1 u2 (h1:ak W u1 (gI M'' i k)) (h2:ak W u2 (gI M'' k j))=>xU u1 u2 _ _ W h1 h2 m2.kp m2.kq m2.ko m2.kl.1 m2.kl.2;have hcs:=fun W u1 u2 (h1:ak W u1 (aQ (gI M'' k k) (gI M'' i j))) (h2:ak W u2 (aQ (gI M'' i k) (gI M'' k j)))=>Fu u1 u2 _ _ W h1 h2 r1.1 r2.1 r1.2 r2.2 (aV.mul _ _) (aV.mul _ _);have hco:=fun W u1 u2 (h1:ak W u1 (dK (aQ (gI M'' k k) (gI M'' i j)) (aQ (gI M'' i k) (gI M'' k j)))) (h2:ak W u2 last)=>mW u1 u2 _ last x W h1 h2 kla hx;have kx:=pQ hx;generalize gI M'' k k=Pkk at *;generalize gI M'' i j=Pij at *;generalize gI M'' i k=Pik at *;generalize gI M'' k j=Pkj at *;generalize aQ Pkk Pij=Q1 at *;generalize aQ Pik Pkj=Q2 at *;generalize dK Q1 Q2=Q3 at *;have hokn:=zH (hok''.out.set (j:=j) hiN kx);replace hej3:=zH hej3;replace hbi:=zH hbi;clear hej hej2 hx kkk kij kik kkj m1 m2 r1 r2 kx ckk cij cik ckj gkk hok'' hbk;replace hMM:=zH hMM;clear hM''
           go_upto_region 24 with (fail)
           refine aF mixed (none) (0) (gp.none) [.eq (.slice (some ⟨g,0,none⟩) N N),.eq (.int .i64 i),.eq (.pointer (some ⟨g,0+i*1,none⟩)),.eq (.slice (some ⟨bi,0,none⟩) N N),.eq (.int .i64 j),.eq (.slice (some ⟨g,0,none⟩) N N),.eq (.int .i64 k),.eq (.pointer (some ⟨g,0+k*1,none⟩)),.eq (.slice (some ⟨bk,0,none⟩) N N),.eq (.int .i64 k),.eq (.pointer (some ⟨bk,0+k*1,none⟩)),.eq (vkk),.eq (.slice (some ⟨g,0,none⟩) N N),.eq (.int .i64 i),.eq (.pointer (some ⟨g,0+i*1,none⟩)),.eq (.slice (some ⟨bi,0,none⟩) N N),.eq (.int .i64 j),.eq (.pointer (some ⟨bi,0+j*1,none⟩)),.eq (vij),.poly (by decide) (by decide) (Q1),.eq (.slice (some ⟨g,0,none⟩) N N),.eq (.int .i64 i),.eq (.pointer (some ⟨g,0+i*1,none⟩)),.eq (.slice (some ⟨bi,0,none⟩) N N),.eq (.int .i64 k),.eq (.pointer (some ⟨bi,0+k*1,none⟩)),.eq (vik),.eq (.slice (some ⟨g,0,none⟩) N N),.eq (.int .i64 k),.eq (.pointer (some ⟨g,0+k*1,none⟩)),.eq (.slice (some ⟨bk,0,none⟩) N N),.eq (.int .i64 j),.eq (.pointer (some ⟨bk,0+j*1,none⟩)),.eq (vkj),.poly (by decide) (by decide) (Q2),.poly (by decide) (by decide) (Q3),.eq (u8),.poly (by decide) (by decide) (x),.eq (.pointer (some ⟨bi,0+j*1,none⟩))] [98,99,100,101,102,103,104,105,106,107,108,109,110,111,112,113,114,115,116,117,118,119,120,121,122,123,124,125,126,127,128,129,130,131,132,133,134,135,136] rfl rfl rfl rfl ⟨?_,?_,?_,?_,?_,?_,?_,?_,?_,?_,?_,?_,?_,?_,?_,?_,?_,?_,?_,?_,?_,?_,?_,?_,?_,?_,?_,?_,?_,?_,?_,?_,?_,?_,?_,?_,?_,?_,?_,trivial⟩ ?_
           ·exact fun _ _ a _ _ _=>xM rfl (a 7 rfl)
           ·exact fun _ _ a _ _ _=>xM rfl (a 12 rfl)
           ·exact fun _ _ _ _ _ e=>pI rfl Tryz.underlying84 g 0 i (hiN) (e.1 rfl) (e.2.1 rfl)
           ·intro A w1 hA hL hS he;have h100:=eT 100 (he.1 rfl);refine ae rfl ?_;have c0:=c2 w1 hL.below;exact aC rfl rfl gZ
           ·exact fun _ _ a _ _ _=>xM rfl (a 13 rfl)
           ·exact fun _ _ a _ _ _=>xM rfl (a 7 rfl)
           ·exact fun _ _ a _ _ _=>xM rfl (a 10 rfl)
           ·exact fun _ _ _ _ _ e=>pI rfl Tryz.underlying84 g 0 k (hkN) (e.1 rfl) (e.2.1 rfl)
           ·intro A w1 hA hL hS he;have h105:=eT 105 (he.1 rfl);refine ae rfl ?_;have c0:=c1 w1 hL.below;exact aC rfl rfl gZ
           ·exact fun _ _ a _ _ _=>xM rfl (a 10 rfl)
           ·exact fun _ _ _ _ _ e=>pI rfl Tryz.underlying75 bk 0 k (hkN) (e.1 rfl) (e.2.1 rfl)
           ·intro A w1 hA hL hS he;have h108:=eT 108 (he.1 rfl);refine ae rfl ?_;have c0:=c3 w1 hL.below;exact aC rfl rfl gZ
           ·exact fun _ _ a _ _ _=>xM rfl (a 7 rfl)
           ·exact fun _ _ a _ _ _=>xM rfl (a 12 rfl)
           ·exact fun _ _ _ _ _ e=>pI rfl Tryz.underlying84 g 0 i (hiN) (e.1 rfl) (e.2.1 rfl)
           ·intro A w1 hA hL hS he;have h112:=eT 112 (he.1 rfl);refine ae rfl ?_;have c0:=c2 w1 hL.below;exact aC rfl rfl gZ
           ·exact fun _ _ a _ _ _=>xM rfl (a 13 rfl)
           ·exact fun _ _ _ _ _ e=>pI rfl Tryz.underlying75 bi 0 j (hjN) (e.1 rfl) (e.2.1 rfl)
           ·intro A w1 hA hL hS he;have h115:=eT 115 (he.1 rfl);refine ae rfl ?_;have c0:=c4 w1 hL.below;exact aC rfl rfl gZ
           ·intro A w1 hA hL hS he;have hb:=hS rfl;have h109:=eT 109 (he.1 rfl);have h116:=eT 116 (he.2.1 rfl);have hf0:=eF A 54;exact cP (f:=54) (args:=#[vkk,vij]) (hcm1 _ _ _ (pkk.on hb) (pij.on hb))
           ·exact fun _ _ a _ _ _=>xM rfl (a 7 rfl)
           ·exact fun _ _ a _ _ _=>xM rfl (a 12 rfl)
           ·exact fun _ _ _ _ _ e=>pI rfl Tryz.underlying84 g 0 i (hiN) (e.1 rfl) (e.2.1 rfl)
           ·intro A w1 hA hL hS he;have h120:=eT 120 (he.1 rfl);refine ae rfl ?_;have c0:=c2 w1 hL.below;exact aC rfl rfl gZ
           ·exact fun _ _ a _ _ _=>xM rfl (a 10 rfl)
           ·exact fun _ _ _ _ _ e=>pI rfl Tryz.underlying75 bi 0 k (hkN) (e.1 rfl) (e.2.1 rfl)
           ·intro A w1 hA hL hS he;have h123:=eT 123 (he.1 rfl);refine ae rfl ?_;have c0:=c5 w1 hL.below;exact aC rfl rfl gZ
           ·exact fun _ _ a _ _ _=>xM rfl (a 7 rfl)
           ·exact fun _ _ a _ _ _=>xM rfl (a 10 rfl)
           ·exact fun _ _ _ _ _ e=>pI rfl Tryz.underlying84 g 0 k (hkN) (e.1 rfl) (e.2.1 rfl)
           ·intro A w1 hA hL hS he;have h127:=eT 127 (he.1 rfl);refine ae rfl ?_;have c0:=c1 w1 hL.below;exact aC rfl rfl gZ
           ·exact fun _ _ a _ _ _=>xM rfl (a 13 rfl)
           ·exact fun _ _ _ _ _ e=>pI rfl Tryz.underlying75 bk 0 j (hjN) (e.1 rfl) (e.2.1 rfl)
           ·intro A w1 hA hL hS he;have h130:=eT 130 (he.1 rfl);refine ae rfl ?_;have c0:=c6 w1 hL.below;exact aC rfl rfl gZ
           ·intro A w1 hA hL hS he;have hb:=hS rfl;have h124:=eT 124 (he.1 rfl);have h131:=eT 131 (he.2.1 rfl);have hf0:=eF A 54;exact cP (f:=54) (args:=#[vik,vkj]) (hcm2 _ _ _ (pik.on hb) (pkj.on hb))
           ·intro A w1 hA hL hS he;have hb:=hS rfl;obtain⟨v117,h117,f117⟩:=fT 117 (he.1 rfl);obtain⟨v132,h132,f132⟩:=fT 132 (he.2.1 rfl);have hf0:=eF A 74;exact cP (f:=74) (args:=#[v117,v132]) (hcs _ _ _ f117 f132)
           ·exact fun _ _ a _ _ _=>xM rfl (a 8 rfl)
           ·intro A w1 hA hL hS he;have hb:=hS rfl;obtain⟨v133,h133,f133⟩:=fT 133 (he.1 rfl);have h134:=eT 134 (he.2.1 rfl);have hf0:=eF A 56;exact cP (f:=56) (args:=#[v133,u8]) (hco _ _ _ f133 (hl''.out.on hb))
           ·exact fun _ _ _ _ _ e=>pI rfl Tryz.underlying75 bi 0 j (hjN) (e.1 rfl) (e.2.1 rfl)
           ·intro W5 hL5;have hb5:=hL5.below;simp only [aU,af.eq,af.poly,af.of,lZ];rintro v117 - v132 - v133 - v135 h135;go_frame;have hM5:=hMM.out.on hb5;obtain⟨vo,-,z5,f5,-⟩:=hM5.get hbi.out (j:=j) hjN;obtain⟨hM6,hl6,hgb6⟩:=hM5.set hbi.out hjN h135;have hlast6:=(hl''.out.on hb5).lr hl6 (bu (by decide)) (by decide);have hb6:=(hby.trans (hb5.mono hby.size)).trans (bI (W:=W5) (g:=bi) (j:=j) hgb6 v135);obtain⟨a9,c9,rfl,-⟩:=h135.shape;replace hM6:=zH hM6;replace hlast6:=zH hlast6;clear hM5 hl6 h135 hL5 hMM hl'' hby hb5 c1 c2 c3 c4 c5 c6 pkk pij pik pkj hcm1 hcm2 hcs hco gij;have hj9:(j:Int)<=200000:=by omega
            go_wp2;go_roundg q2
            case measure=>omega
            case rel=>exact⟨_,j+1,by omega,by omega,by go_num,hM6,hokn,hej3,hlast6,hb6⟩
end Go.Proofs.YtopclbeomcggiaaGreat
