/- mgcd.Resultant. -/
import Derived.Test.YtopclbeomcggiaaGreatW33
set_option linter.unusedVariables false
set_option linter.unusedSimpArgs false
set_option maxHeartbeats 16000000
set_option maxRecDepth 100000
namespace Q
open Go Go.RowKit Go.Proofs.YtopclbeomcggiaaGreat
theorem mi.mono{b d:Nat}{w:World}{N c:Nat}{r:List (List ai)}(h:mi b w N c r)(hb:d<=b):mi d w N c r:=⟨by have:=h.1;omega,h.2⟩
theorem tq.mono{b d:Nat}{w:World}{g N:Nat}{bs:List Nat}{M:Mx}(h:tq b w g N bs M)(hb:d<=b):tq d w g N bs M :=
 ⟨h.ob,by have:=h.gb;omega,h.len,h.le,λi c r e j=>(h.row i c r e j).mono hb,h.nd⟩
theorem tq.get{base:Nat}{w:World}{g N:Nat}{bs:List Nat}{M:Mx}(h:tq base w g N bs M){i b j:Nat}(hb:bs[i]?=some b)(k:j<N) :
  ∃v,ak w v (lv M i j)/\w.cell? ⟨b,j,none⟩=some v/\w.frozen? ⟨b,j,none⟩=false/\b<w.heap.size:=by
 have e:i<bs.length:=(gS.1 hb).1;have d:M[i]?=some (M.getD i []):=by rw[jD,gE (by rw[h.len];exact e)];rfl
 exact(h.row i b _ hb d).get k
theorem zP{α:Type}{l:List α}{i j:Nat}{x y:α}(p:l[i]?=some x)(q:l[j]?=some y)(k:Nat) :
  ((l.set i y).set j x)[k]?=if k=j then some x else if k=i then some y else l[k]?:=by
 have n:=(gS.1 p).1;have o:=(gS.1 q).1;rw[List.getElem?_set,List.getElem?_set];by_cases d:j=k
 ·subst d;simp[o]
 ·have b:¬k=j:=λh=>d h.symm;by_cases e:i=k
  ·subst e;simp[d,b,n]
  ·have m:¬k=i:=λh=>e h.symm;simp[d,b,e,m]
theorem tq.swap{base:Nat}{w w':World}{g N:Nat}{bs:List Nat}{M:Mx}(h:tq base w g N bs M)(I:bs.length=N){i j b c:Nat}(o:bs[i]?=some b)(s:bs[j]?=some c)
  (F:Blk w' g GR (((bs.map (nY N)).set i (nY N c)).set j (nY N b))) (G:Lr (some g) GR w w'):tq base w' g N ((bs.set i c).set j b) (uE M i j):=by
 have D:=(gS.1 o).1;have E:=(gS.1 s).1;have B:M[i]?=some (M.getD i []):=by rw[jD,gE (by rw[h.len];exact D)];rfl
 have C:M[j]?=some (M.getD j []):=by rw[jD,gE (by rw[h.len];exact E)];rfl
 refine⟨?_,h.gb,by simp[uE,h.len],by simp;omega,λk d r n m=>?_,?_⟩
 ·rw[show N-((bs.set i c).set j b).length=0 by simp;omega,List.replicate_zero,List.append_nil,List.map_set,List.map_set];exact F
 ·rw[zP o s]at n;rw[uE,zP B C]at m
  have u:mi base w N d r:=by
   split at n
   ·next hk=>rw[if_pos hk]at m;cases n;cases m;exact h.row i _ _ o B
   ·next hk =>
    rw[if_neg hk]at m;split at n
    ·next hk2=>rw[if_pos hk2]at m;cases n;cases m;exact h.row j _ _ s C
    ·next hk2=>rw[if_neg hk2]at m;exact h.row k _ _ n m
  exact u.lr G dM dM (u.ne h.ob)
 ·rw[List.nodup_iff_pairwise_ne,List.pairwise_iff_getElem];intro p q hp hq H he;have e1:=gE hp;have l:=gE hq;rw[he]at e1;have e:=λ{x y z:Nat}(n:bs[x]?=some z)(m:bs[y]?=some z)=>Fx h.nd n m;rw[zP o s]at e1 l;generalize((bs.set i c).set j b)[q]=z at *;split at e1<;>split at l
  ·omega
  ·split at l
   ·cases e1;cases l;have:=e o s;omega
   ·cases e1;have:=e o l;omega
  ·split at e1
   ·cases e1;cases l;have:=e o s;omega
   ·cases l;have:=e o e1;omega
  ·split at e1<;>split at l
   ·omega
   ·cases e1;have:=e s l;omega
   ·cases l;have:=e s e1;omega
   ·have:=e e1 l;omega
theorem tq.swapW{base:Nat}{w:World}{g N:Nat}{bs:List Nat}{M:Mx}(h:tq base w g N bs M)(n:bs.length=N){i j b c:Nat}(o:bs[i]?=some b)(p:bs[j]?=some c)(e:i≠j) :
  (tq base ((w.setCell ⟨g,i,none⟩ (nY N c)).setCell ⟨g,j,none⟩ (nY N b)) g N ((bs.set i c).set j b) (uE M i j)/\Lr (some g) GR w ((w.setCell ⟨g,i,none⟩ (nY N c)).setCell ⟨g,j,none⟩ (nY N b))) /\
  (tq base ((w.setCell ⟨g,j,none⟩ (nY N b)).setCell ⟨g,i,none⟩ (nY N c)) g N ((bs.set i c).set j b) (uE M i j)/\Lr (some g) GR w ((w.setCell ⟨g,j,none⟩ (nY N b)).setCell ⟨g,i,none⟩ (nY N c))):=by
 have d:Blk w g GR (bs.map (nY N)):=by have:=h.ob;rwa[(oM:N-bs.length=0),List.replicate_zero,List.append_nil]at this
 have k:=d.set i (nY N c);have r:=k.set j (nY N b);have q:=(aY (j:=i) d (nY N c)).trans (aY (j:=j) k (nY N b));have l:=d.set j (nY N b);have m:=l.set i (nY N c);have l2:=(aY (j:=j) d (nY N b)).trans (aY (j:=i) l (nY N c));rw[List.set_comm _ _ (λh=>e h.symm)]at m;exact⟨⟨h.swap n o p r q,q⟩,h.swap n o p m l2,l2⟩
end Q
namespace Go.Proofs.YtopclbeomcggiaaGreat
open Go.RowKit Q Go.WideMaps Go.Maps
theorem Ev(d i:Value)(a b:List ai)(v:Int)(w:World)(ha:ak w d a)(hb:ak w i b)(h:a=[]\/b=[]):Calls Tryz.prog 33 #[d,i,.int .i64 v] w (aS w []):=by
 obtain⟨k,m,rfl,-⟩:=ha.shape;obtain⟨l,o,rfl,-⟩:=hb.shape;by_cases h0:a=[]
 ·subst h0;simp only[List.length_nil]
  go_enter Tryz.func33,Tryz.ntmps33
  go_wp2;go_step3;go_wp2;rw[Exit.noGoto_ret];go_ret;exact⟨_,rfl,bU.nil _ _,Below.refl _ _⟩
 ·have h1:b=[]:=h.resolve_left h0;subst h1;have j:((a.length:Int)==0)=false:=by have:=List.length_pos_iff.2 h0;simp;omega
  simp only[List.length_nil];generalize a.length=n at *;clear h
  go_enter Tryz.func33,Tryz.ntmps33
  go_wp2;go_step3;go_wp2;rw[Exit.noGoto_ret];go_ret;exact⟨_,rfl,bU.nil _ _,Below.refl _ _⟩
theorem Ew(va vb:Value)(a b R:List ai)(v:Nat)(w:World)(ha:ak w va a)(hb:ak w vb b)(ka:Wp a)(kb:Wp b)(hv:v<4)(h:Jz a b v=some R) :
  Calls Tryz.prog 33 #[va,vb,.int .i64 v] w (aS w R):=by
 by_cases S:a=[]\/b=[]
 ·unfold Jz at h;rw[if_pos S,sJ]at h;subst h;exact Ev va vb a b v w ha hb S
 have b3:a≠[]:=λh=>S (.inl h);have b4:b≠[]:=λh=>S (.inr h);unfold Jz at h;rw[if_neg S]at h;have aE:=zH (λW (hb:Below w.heap.size w W)=>wD va a v W (ha.on hb) hv ka.val.nat (by have:=(ka.deg v).2;omega) (by have:=ka.len;omega));have b0:=zH (λW (cq:Below w.heap.size w W)=>wD vb b v W (hb.on cq) hv kb.val.nat (by have:=(kb.deg v).2;omega) (by have:=kb.len;omega));have la:1<=(aA a v).length/\(aA a v).length<=100001:=by rw[dS];have:=Ah (v:=v) b3 ka;have:=(ka.deg v).2;omega
 have lb:1<=(aA b v).length/\(aA b v).length<=100001:=by rw[dS];have:=Ah (v:=v) b4 kb;have:=(kb.deg v).2;omega
 have y:=VT (a:=aA a v) (b:=aA b v) (λc hc=>ka.coeffs hc) (λc hc=>kb.coeffs hc);have b5:=zH (λW u1 u2 (h1:je W u1 (aA a v)) (h2:je W u2 (aA b v))=>Et u1 u2 _ _ W h1 h2 la.1 la.2 lb.1 lb.2);generalize VS (aA a v) (aA b v)=M0 at *;obtain⟨N,hN⟩:∃N,N=(aA a v).length - 1+((aA b v).length - 1):=⟨_,rfl⟩;have cn:N<=200000:=oM;rw[<-hN]at h y b5;have au:((a.length:Int)==0)=false:=by have:=List.length_pos_iff.2 b3;simp;omega
 have av:((b.length:Int)==0)=false:=by have:=List.length_pos_iff.2 b4;simp;omega
 generalize aA a v=A at *;generalize aA b v=B at *;obtain⟨aa,ca,rfl,-⟩:=ha.shape;obtain⟨ab,cb,rfl,-⟩:=hb.shape;obtain⟨na,hna2⟩:∃n,n=a.length:=⟨_,rfl⟩;obtain⟨nb,hnb2⟩:∃n,n=b.length:=⟨_,rfl⟩;rw[<-hna2]at au aE ⊢;rw[<-hnb2]at av b0 ⊢;replace h:=zH h;replace y:=zH y;clear hna2 hnb2 ha hb ka kb S b3 b4 la lb hN
 go_enter Tryz.func33,Tryz.ntmps33
 go_wp2;go_step3
 go_upto_region 5 with (first
  | (go_at_call 62;refine(b0.out w3 hb3).mono ?_;rintro en w4 ⟨v4,rfl,h4,hb4⟩;have h34:=h3.on hb4)
  | (go_at_call 62;refine(aE.out _ (Below.refl _ _)).mono ?_;rintro en w3 ⟨v3,rfl,h3,hb3⟩)
  | (go_at_call 76;refine(b5.out _ _ _ h34 h4).mono ?_;rintro en w5 ⟨g,bs,rfl,hM,hb5⟩)
  | (go_at_call 51;refine(xY _).mono ?_;rintro en w6 ⟨v6,rfl,h6,hb6⟩))
 have hb04:=hb3.trans (hb4.mono hb3.size);have hb05:=hb04.trans (hb5.mono hb04.size);have hb06:=hb05.trans (hb6.mono hb05.size);have hM6:=zH ((hM.mono hb04.size).on hb6);replace h6:=zH h6;clear aE b0 b5 h3 h34 h4 hM hb3 hb4 hb5 hb6 hb04 hb05 au av;go_wp2;go_step3;go_wp2
 go_loopg [8,9,32] N (λf vl vn vk wr=>∃(M:Mx)(bs:List Nat)(last:List ai)(neg:Bool)(k:Nat),k+f=N/\vk=.int .i64 k/\vn=.bool neg/\Hid (ak wr vl last)/\Wp last/\Hid (tq w.heap.size wr g N bs M)/\bs.length=N/\Hid (wK N M)/\Hid (Q.resS N f M last neg=some R)/\Below w.heap.size w wr)
 case atStart=>exact⟨M0,bs,GL,false,0,oM,nM,rfl,h6,GN,hM6,by have h1:=hM6.out.len;have h2:=y.out.len;omega,y,h,hb06⟩
 case round =>
  clear h6 hM6 y h hb06 bs;obtain⟨M,bs,last,neg,k,cA,rfl,rfl,a5,cg,hM,a2,an,hr,F⟩:=hrel
  cases gk with
  | zero =>
   obtain rfl:k=N:=oM;replace hr:=hr.out;rw[Q.resS]at hr;clear hM an a2;cases neg
   ·have o:=zH (show R=last from(Option.some.inj hr).symm);go_wp2;rw[Exit.noGoto_ret];go_ret;exact⟨_,rfl,by rw[o.out];exact a5.out,F⟩
   ·have o:=zH (show R=gH [] last from(Option.some.inj hr).symm);have a6:=zH (λW vl (hl:ak W vl last)=>VR (w:=W) Wp.nil cg (bU.nil _ _) hl)
    go_wp2_with (go_at_call 74;refine(a6.out _ _ a5.out).mono ?_;rintro en w7 ⟨v7,rfl,h7,hb7⟩)
    rw[Exit.noGoto_ret];go_ret;exact⟨_,rfl,by rw[o.out];exact h7,F.trans (hb7.mono F.size)⟩
  | succ f =>
   have d:k<N:=oM;have cv:(k:Int)<(N:Int):=oM;have hr2:=hr.out;rw[Q.resS]at hr2;have a8:N-(f+1)=k:=oM;rw[a8]at hr2;clear hr a8;have hM0:=hM.out;have a0:∀i,i<N->∃b,bs[i]?=some b:=λi hi=>⟨_,gE oM⟩;have a7:=zH cn;go_wp2
   go_loopg [11] (f+1) (λq vi wz=>∃p:Nat,p+q=N/\q<=f+1/\0<q/\vi=.int .i64 p/\Hid (Jy N k M q=Jy N k M (f+1))/\wz=wr)
   case atStart=>exact⟨k,oM,oM,oM,rfl,zH rfl,rfl⟩
   case round =>
    obtain⟨p,cC,cs,hq0,rfl,bz,rfl⟩:=hrel;have cd:p<N:=oM;obtain⟨bp,a3⟩:=a0 p cd;have b2:wr.cell? ⟨g,p,none⟩=some (.slice (some ⟨bp,0,none⟩) N N):=hM0.hd a3;obtain⟨vp,ce,ad,-,-⟩:=hM0.get a3 (j:=k) d;obtain⟨ap,cp,rfl,-⟩:=ce.shape;obtain⟨q,rfl⟩:∃q',gk=q'+1:=⟨gk - 1,oM⟩;have bq:N - (q+1)=p:=oM;have hfd2:=bz.out;rw[Jy,bq]at hfd2;clear bz bq ce;by_cases he:lv M p k=[]
    ·rw[if_pos he]at hfd2;rw[he]at ad;simp only[List.length_nil]at ad;clear he;by_cases hq1:q=0
     ·subst hq1;rw[<-hfd2]at hr2;have o:Hid (R=[]):=zH (Option.some.inj hr2).symm;have hpN1:(p:Int)+1=(N:Int):=oM;have hp2:(p:Int)<=200000:=by have:=a7.out;omega
      clear hr2 hfd2
      go_wp2_with (first
       | (refine aj rfl (.tmp 36) (.tmp 37) _ rfl _ Tryz.underlying84 _ 1 24 kM _ _ _ rfl _ _ rfl p rfl oM g 0 rfl ?_;rw[nU,Nat.zero_add])
       | (refine aj rfl (.tmp 39) (.tmp 40) _ rfl _ Tryz.underlying75 _ 1 24 kM _ _ _ rfl _ _ rfl k rfl d bp 0 rfl ?_;rw[nU,Nat.zero_add]))
      rw[Exit.noGoto_ret];go_ret;exact⟨_,rfl,by rw[o.out];exact bU.nil _ _,F⟩
     ·have hpN1:((p:Int)+1==(N:Int))=false:=by simp;omega
      have hpN2:¬(p:Int)+1=(N:Int):=oM;have hp2:(p:Int)<=200000:=by have:=a7.out;omega
      have hfd3:=zH hfd2;clear hfd2
      go_wp2_with (first
       | (refine aj rfl (.tmp 36) (.tmp 37) _ rfl _ Tryz.underlying84 _ 1 24 kM _ _ _ rfl _ _ rfl p rfl oM g 0 rfl ?_;rw[nU,Nat.zero_add])
       | (refine aj rfl (.tmp 39) (.tmp 40) _ rfl _ Tryz.underlying75 _ 1 24 kM _ _ _ rfl _ _ rfl k rfl d bp 0 rfl ?_;rw[nU,Nat.zero_add]))
      go_roundg q
      case measure=>omega
      case rel=>exact⟨p+1,oM,oM,oM,nM,hfd3,rfl⟩
    ·rw[if_neg he]at hfd2;have c8:(((lv M p k).length:Int)==0)=false:=by have:=List.length_pos_iff.2 he;simp;omega
     obtain⟨lp,bP⟩:∃lp,lp=(lv M p k).length:=⟨_,rfl⟩;rw[<-bP]at c8 ad;clear bP he;rw[<-hfd2]at hr2;simp only at hr2;clear hfd2
     go_upto_if 53 with (first
      | (refine aj rfl (.tmp 36) (.tmp 37) _ rfl _ Tryz.underlying84 _ 1 24 kM _ _ _ rfl _ _ rfl p rfl oM g 0 rfl ?_;rw[nU,Nat.zero_add])
      | (refine aj rfl (.tmp 39) (.tmp 40) _ rfl _ Tryz.underlying75 _ 1 24 kM _ _ _ rfl _ _ rfl k rfl d bp 0 rfl ?_;rw[nU,Nat.zero_add]))
     clear b2 ad;have cB:k<=p:=oM
     go_cut [9,54,55,56,57,58,59,60,61,62,63,64,65,66,67,68,69] (λcm _ _ _ _ _ _ _ _ _ _ _ _ _ _ _ _ wc=>∃(bs1:List Nat)(M1:Mx)(neg1:Bool),cm=.bool neg1/\Hid (tq w.heap.size wc g N bs1 M1)/\bs1.length=N/\Hid (wK N M1)/\Hid (M1=if p=k then M else uE M k p)/\Hid (neg1=if p=k then neg else !neg)/\Hid (ak wc u8 last)/\Below w.heap.size w wc)
     case first =>
      by_cases X:p=k
      ·have hpk2:((p:Int)==(k:Int))=true:=by simp;omega
       have hpk3:((p:Int)=(k:Int))=True:=eq_true oM;have hpk4:=zH X;clear X;go_wp2;go_meet
       case rel=>exact⟨bs,M,neg,rfl,hM,a2,an,zH (by rw[if_pos hpk4.out]),zH (by rw[if_pos hpk4.out]),a5,F⟩
      ·have hpk2:((p:Int)==(k:Int))=false:=by simp;omega
       have hpk3:((p:Int)=(k:Int))=False:=eq_false oM;have hpk4:=zH X;obtain⟨s,r⟩:=a0 k d;have bn:=hM0.on (oZ (Below.refl _ _) 1);obtain⟨⟨s1,t1⟩,s2,t2⟩:=bn.swapW a2 r a3 (λh=>X h.symm);have aq:=a5.out.on (oZ (Below.refl wr.heap.size wr) 1);have I:=oZ F 1;have bA:=hM0.gb;have e1:wr.cell? ⟨g,p,none⟩=some (.slice (some ⟨bp,0,none⟩) N N):=hM0.hd a3;have e2:wr.cell? ⟨g,k,none⟩=some (.slice (some ⟨s,0,none⟩) N N):=hM0.hd r;have e3:=hM0.ob.frozen p;have e4:=hM0.ob.frozen k;have hne9:¬k=p:=λh=>X h.symm;have hlen9:((bs.set k bp).set p s).length=N:=by simp;exact a2
       have hok9:=zH (an.out.swap d cd);replace s1:=zH s1;replace s2:=zH s2;replace t1:=zH t1;replace t2:=zH t2;clear bn X
       go_upto_region 14 with (fail)
       go_cut [54,55,56,57,58,59,60,61,62,63,64,65,66,67] (λ_ _ _ _ _ _ _ _ _ _ _ _ _ _ wd=>Hid (tq w.heap.size wd g N ((bs.set k bp).set p s) (uE M k p))/\Hid (ak wd u8 last)/\Below w.heap.size w wd)
       case first =>
        go_region_with (fail)
        all_goals
         go_wp2;go_meet
         case rel=>first
          | exact⟨s1,zH (aq.lr t1.out (aW dM) dM),I.trans (t1.out.belowAt I.size (λk hk=>by cases hk;exact bA))⟩
          | exact⟨s2,zH (aq.lr t2.out (aW dM) dM),I.trans (t2.out.belowAt I.size (λk hk=>by cases hk;exact bA))⟩
       case rest =>
        obtain⟨bo,c7,br⟩:=hcut;cases neg
        ·go_wp2;go_meet
         case rel=>exact⟨_,_,true,rfl,bo,hlen9,hok9,zH (by rw[if_neg hpk4.out]),zH (by rw[if_neg hpk4.out];rfl),c7,br⟩
        ·go_wp2;go_meet
         case rel=>exact⟨_,_,false,rfl,bo,hlen9,hok9,zH (by rw[if_neg hpk4.out]),zH (by rw[if_neg hpk4.out];rfl),c7,br⟩
     case rest =>
      obtain⟨bs1,M1,neg1,rfl,hM1,hbl1,hok1,ao,ar,hl1,a1⟩:=hcut;rw[<-ao.out,<-ar.out]at hr2;have hall1:∀i,i<N->∃b,bs1[i]?=some b:=λi hi=>⟨_,gE oM⟩;clear ao ar hM hM0 an a2 a5 F a0 a3 c8;have hk2:(k:Int)<=200000:=by have:=a7.out;omega
      have hN2:(N:Int)<=200000:=by have:=a7.out;omega
      by_cases hf0:f=0
      ·rw[if_pos hf0]at hr2;have a8:(N:Int) - 1=(k:Int):=oM;obtain⟨s,r⟩:=hall1 k d;have b2:wc.cell? ⟨g,k,none⟩=some (.slice (some ⟨s,0,none⟩) N N):=hM1.out.hd r;obtain⟨vk,z,cr,-,-⟩:=hM1.out.get r (j:=k) d;have ba:=hok1.out.get k k;replace z:=zH z;clear hf0 hM1 hok1 hall1;cases neg1
       ·have o:=zH (show R=lv M1 k k from(Option.some.inj hr2).symm)
        go_wp2_with (first|(refine aj rfl (.tmp 75) (.tmp 76) _ rfl _ Tryz.underlying84 _ 1 24 kM _ _ _ rfl _ _ rfl k rfl d g 0 rfl ?_;rw[nU,Nat.zero_add])|(refine aj rfl (.tmp 78) (.tmp 79) _ rfl _ Tryz.underlying75 _ 1 24 kM _ _ _ rfl _ _ rfl k rfl d s 0 rfl ?_;rw[nU,Nat.zero_add]))
        rw[Exit.noGoto_ret];go_ret;exact⟨_,rfl,by rw[o.out];exact z.out,a1⟩
       ·have o:=zH (show R=gH [] (lv M1 k k)from(Option.some.inj hr2).symm);have a6:=zH (λW vl (hl:ak W vl (lv M1 k k))=>VR (w:=W) Wp.nil ba (bU.nil _ _) hl);have hsu2:=zH (a6.out _ _ z.out)
        go_wp2_with (first|(refine aj rfl (.tmp 75) (.tmp 76) _ rfl _ Tryz.underlying84 _ 1 24 kM _ _ _ rfl _ _ rfl k rfl d g 0 rfl ?_;rw[nU,Nat.zero_add])|(refine aj rfl (.tmp 78) (.tmp 79) _ rfl _ Tryz.underlying75 _ 1 24 kM _ _ _ rfl _ _ rfl k rfl d s 0 rfl ?_;rw[nU,Nat.zero_add])|(go_at_call 74;refine hsu2.out.mono ?_;rintro en w7 ⟨v7,rfl,h7,hb7⟩))
        rw[Exit.noGoto_ret];go_ret;exact⟨_,rfl,by rw[o.out];exact h7,a1.trans (hb7.mono a1.size)⟩
      ·rw[if_neg hf0]at hr2;obtain⟨M2,hM2,hr3⟩:=aV hr2;replace hM2:=zH hM2;replace hr3:=zH hr3;have a8:(((k:Int))==(N:Int) - 1)=false:=by simp;omega
       have hNk2:¬(k:Int)=(N:Int)-1:=oM;have hN1:1<=(N:Int):=oM;clear hr2;go_wp2
       go_loopg [12] f (λq vi wz=>∃(M':Mx)(i:Nat),i+q=N/\q<=f/\vi=.int .i64 i/\Hid (tq w.heap.size wz g N bs1 M')/\Hid (wK N M')/\Hid (Yb N k last q M'=some M2)/\Hid (ak wz u8 last)/\Below w.heap.size w wz)
       case atStart=>exact⟨M1,k+1,oM,oM,nM,hM1,hok1,hM2,hl1,a1⟩
       case round =>
        clear hM1 hok1 hM2 hl1 a1;obtain⟨M',i,cx,cs,rfl,Y,L,al,bB,ay⟩:=hrel
        cases gk with
        | zero =>
         obtain rfl:N=i:=oM;have he2:M'=M2:=Option.some.inj al.out;subst he2;obtain⟨s,r⟩:=hall1 k d;have b2:wr.cell? ⟨g,k,none⟩=some (.slice (some ⟨s,0,none⟩) N N):=Y.out.hd r;obtain⟨vk,z,cr,-,-⟩:=Y.out.get r (j:=k) d;have ba:=L.out.get k k;replace z:=zH z;clear al
         go_wp2_with (first
          | (refine aj rfl (.tmp 137) (.tmp 138) _ rfl _ Tryz.underlying84 _ 1 24 kM _ _ _ rfl _ _ rfl k rfl d g 0 rfl ?_;rw[nU,Nat.zero_add])
          | (refine aj rfl (.tmp 140) (.tmp 141) _ rfl _ Tryz.underlying75 _ 1 24 kM _ _ _ rfl _ _ rfl k rfl d s 0 rfl ?_;rw[nU,Nat.zero_add]))
         go_roundg f
         case measure=>omega
         case rel=>exact⟨M',bs1,lv M' k k,neg1,k+1,oM,nM,rfl,z,ba,Y,hbl1,L,hr3,ay⟩
        | succ q =>
         have hel2:=al.out;rw[Yb,(oM:N - (q+1)=i),(oM:N - (k+1)=f)]at hel2;obtain⟨M3,hM3,hel3⟩:=aV hel2;replace hM3:=zH hM3;replace hel3:=zH hel3;have a4:i<N:=oM;have ct:(i:Int)<(N:Int):=oM;clear al hel2;go_wp2
         go_loopg [13] f (λq2 vj wz=>∃(l:Mx)(j:Nat),j+q2=N/\q2<=f/\vj=.int .i64 j/\Hid (tq w.heap.size wz g N bs1 l)/\Hid (wK N l)/\Hid (Ya N k i last q2 l=some M3)/\Hid (ak wz u8 last)/\Below w.heap.size w wz)
         case atStart=>exact⟨M',k+1,oM,oM,nM,Y,L,hM3,bB,ay⟩
         case round =>
          clear Y L hM3 bB ay;obtain⟨l,j,cy,cw,rfl,Z,m,ag,J,ac⟩:=hrel
          cases gk with
          | zero =>
           obtain rfl:N=j:=oM;have he2:l=M3:=Option.some.inj ag.out;subst he2;clear ag;go_wp2;go_roundg q
           case measure=>omega
           case rel=>exact⟨l,i+1,oM,oM,nM,Z,m,hel3,J,ac⟩
          | succ q2 =>
           have G:j<N:=oM;have cu:(j:Int)<(N:Int):=oM;have hej2:=ag.out;rw[Ya,(oM:N - (q2+1)=j)]at hej2;obtain⟨x,hx,hej3⟩:=aV hej2;obtain⟨s,r⟩:=hall1 k d;obtain⟨C,D⟩:=hall1 i a4;have u:=Z.out;obtain⟨be,cl,bm,-,ax⟩:=u.get r (j:=k) d;obtain⟨bb,ci,bh,-,aw⟩:=u.get D (j:=j) G;obtain⟨bc,cj,bj,-,-⟩:=u.get D (j:=k) d;obtain⟨bd,ck,bl,-,-⟩:=u.get r (j:=j) G;have b9:=m.out.get k k;have b6:=m.out.get i j;have b7:=m.out.get i k;have b8:=m.out.get k j;have c1:∀W,Below wr.heap.size wr W->W.cell? ⟨g,k,none⟩=some (.slice (some ⟨s,0,none⟩) N N):=λW hb=>(u.on hb).hd r;have c2:∀W,Below wr.heap.size wr W->W.cell? ⟨g,i,none⟩=some (.slice (some ⟨C,0,none⟩) N N):=λW hb=>(u.on hb).hd D;have c3:∀W,Below wr.heap.size wr W->W.cell? ⟨s,k,none⟩=some be:=λW hb=>(hb.cell (p:=⟨s,k,none⟩) ax).trans bm;have c4:∀W,Below wr.heap.size wr W->W.cell? ⟨C,j,none⟩=some bb:=λW hb=>(hb.cell (p:=⟨C,j,none⟩) aw).trans bh;have c5:∀W,Below wr.heap.size wr W->W.cell? ⟨C,k,none⟩=some bc:=λW hb=>(hb.cell (p:=⟨C,k,none⟩) aw).trans bj;have c6:∀W,Below wr.heap.size wr W->W.cell? ⟨s,j,none⟩=some bd:=λW hb=>(hb.cell (p:=⟨s,j,none⟩) ax).trans bl;have m1:=b9.mulOk b6;have m2:=b7.mulOk b8
           have r1:=b9.prod b6;have r2:=b7.prod b8;have hcm1:=λW u1 u2 (h1:ak W u1 (lv l k k)) (h2:ak W u2 (lv l i j))=>ze u1 u2 _ _ W h1 h2 m1.kp m1.kq m1.ko m1.kl.1 m1.kl.2;have hcm2:=λW u1 u2 (h1:ak W u1 (lv l i k)) (h2:ak W u2 (lv l k j))=>ze u1 u2 _ _ W h1 h2 m2.kp m2.kq m2.ko m2.kl.1 m2.kl.2;have bw:=λW u1 u2 (h1:ak W u1 (aX (lv l k k) (lv l i j))) (h2:ak W u2 (aX (lv l i k) (lv l k j)))=>Gx u1 u2 _ _ W h1 h2 r1.1 r2.1 r1.2 r2.2 (bR.mul _ _) (bR.mul _ _);have bt:=λW u1 u2 (h1:ak W u1 (gH (aX (lv l k k) (lv l i j)) (aX (lv l i k) (lv l k j)))) (h2:ak W u2 last)=>nR u1 u2 _ last x W h1 h2 cg hx;have kx:=qG hx;generalize lv l k k=Pkk at *;generalize lv l i j=Pij at *;generalize lv l i k=Pik at *;generalize lv l k j=Pkj at *;generalize aX Pkk Pij=Q1 at *;generalize aX Pik Pkj=Q2 at *;generalize gH Q1 Q2=Q3 at *;have cc:=zH (m.out.set (j:=j) a4 kx);replace hej3:=zH hej3;replace D:=zH D;clear ag hej2 hx b9 b6 b7 b8 m1 m2 r1 r2 kx bm bh bj bl ax m r;replace u:=zH u;clear Z
           go_upto_region 24 with (fail)
           refine aC mixed (none) (0) (fK.none) [.eq (.slice (some ⟨g,0,none⟩) N N),.eq (.int .i64 i),.eq (.pointer (some ⟨g,0+i*1,none⟩)),.eq (.slice (some ⟨C,0,none⟩) N N),.eq (.int .i64 j),.eq (.slice (some ⟨g,0,none⟩) N N),.eq (.int .i64 k),.eq (.pointer (some ⟨g,0+k*1,none⟩)),.eq (.slice (some ⟨s,0,none⟩) N N),.eq (.int .i64 k),.eq (.pointer (some ⟨s,0+k*1,none⟩)),.eq (be),.eq (.slice (some ⟨g,0,none⟩) N N),.eq (.int .i64 i),.eq (.pointer (some ⟨g,0+i*1,none⟩)),.eq (.slice (some ⟨C,0,none⟩) N N),.eq (.int .i64 j),.eq (.pointer (some ⟨C,0+j*1,none⟩)),.eq (bb),.poly dM dM (Q1),.eq (.slice (some ⟨g,0,none⟩) N N),.eq (.int .i64 i),.eq (.pointer (some ⟨g,0+i*1,none⟩)),.eq (.slice (some ⟨C,0,none⟩) N N),.eq (.int .i64 k),.eq (.pointer (some ⟨C,0+k*1,none⟩)),.eq (bc),.eq (.slice (some ⟨g,0,none⟩) N N),.eq (.int .i64 k),.eq (.pointer (some ⟨g,0+k*1,none⟩)),.eq (.slice (some ⟨s,0,none⟩) N N),.eq (.int .i64 j),.eq (.pointer (some ⟨s,0+j*1,none⟩)),.eq (bd),.poly dM dM (Q2),.poly dM dM (Q3),.eq (u8),.poly dM dM (x),.eq (.pointer (some ⟨C,0+j*1,none⟩))] [98,99,100,101,102,103,104,105,106,107,108,109,110,111,112,113,114,115,116,117,118,119,120,121,122,123,124,125,126,127,128,129,130,131,132,133,134,135,136] rfl rfl rfl rfl ⟨?_,?_,?_,?_,?_,?_,?_,?_,?_,?_,?_,?_,?_,?_,?_,?_,?_,?_,?_,?_,?_,?_,?_,?_,?_,?_,?_,?_,?_,?_,?_,?_,?_,?_,?_,?_,?_,?_,?_,trivial⟩ ?_
           ·exact λ_ _ a _ _ _=>xM rfl (a 7 rfl)
           ·exact λ_ _ a _ _ _=>xM rfl (a 12 rfl)
           ·exact λ_ _ _ _ _ e=>pI rfl Tryz.underlying84 g 0 i (a4) (e.1 rfl) (e.2.1 rfl)
           ·intro A w1 hA hL hS he;have h100:=eT 100 (he.1 rfl);refine ae rfl ?_;have c0:=c2 w1 hL.below;exact aB rfl rfl gZ
           ·exact λ_ _ a _ _ _=>xM rfl (a 13 rfl)
           ·exact λ_ _ a _ _ _=>xM rfl (a 7 rfl)
           ·exact λ_ _ a _ _ _=>xM rfl (a 10 rfl)
           ·exact λ_ _ _ _ _ e=>pI rfl Tryz.underlying84 g 0 k (d) (e.1 rfl) (e.2.1 rfl)
           ·intro A w1 hA hL hS he;have h105:=eT 105 (he.1 rfl);refine ae rfl ?_;have c0:=c1 w1 hL.below;exact aB rfl rfl gZ
           ·exact λ_ _ a _ _ _=>xM rfl (a 10 rfl)
           ·exact λ_ _ _ _ _ e=>pI rfl Tryz.underlying75 s 0 k (d) (e.1 rfl) (e.2.1 rfl)
           ·intro A w1 hA hL hS he;have h108:=eT 108 (he.1 rfl);refine ae rfl ?_;have c0:=c3 w1 hL.below;exact aB rfl rfl gZ
           ·exact λ_ _ a _ _ _=>xM rfl (a 7 rfl)
           ·exact λ_ _ a _ _ _=>xM rfl (a 12 rfl)
           ·exact λ_ _ _ _ _ e=>pI rfl Tryz.underlying84 g 0 i (a4) (e.1 rfl) (e.2.1 rfl)
           ·intro A w1 hA hL hS he;have h112:=eT 112 (he.1 rfl);refine ae rfl ?_;have c0:=c2 w1 hL.below;exact aB rfl rfl gZ
           ·exact λ_ _ a _ _ _=>xM rfl (a 13 rfl)
           ·exact λ_ _ _ _ _ e=>pI rfl Tryz.underlying75 C 0 j (G) (e.1 rfl) (e.2.1 rfl)
           ·intro A w1 hA hL hS he;have h115:=eT 115 (he.1 rfl);refine ae rfl ?_;have c0:=c4 w1 hL.below;exact aB rfl rfl gZ
           ·intro A w1 hA hL hS he;have hb:=hS rfl;have h109:=eT 109 (he.1 rfl);have h116:=eT 116 (he.2.1 rfl);have hf0:=eF A 54;exact cP (f:=54) (args:=#[be,bb]) (hcm1 _ _ _ (cl.on hb) (ci.on hb))
           ·exact λ_ _ a _ _ _=>xM rfl (a 7 rfl)
           ·exact λ_ _ a _ _ _=>xM rfl (a 12 rfl)
           ·exact λ_ _ _ _ _ e=>pI rfl Tryz.underlying84 g 0 i (a4) (e.1 rfl) (e.2.1 rfl)
           ·intro A w1 hA hL hS he;have h120:=eT 120 (he.1 rfl);refine ae rfl ?_;have c0:=c2 w1 hL.below;exact aB rfl rfl gZ
           ·exact λ_ _ a _ _ _=>xM rfl (a 10 rfl)
           ·exact λ_ _ _ _ _ e=>pI rfl Tryz.underlying75 C 0 k (d) (e.1 rfl) (e.2.1 rfl)
           ·intro A w1 hA hL hS he;have h123:=eT 123 (he.1 rfl);refine ae rfl ?_;have c0:=c5 w1 hL.below;exact aB rfl rfl gZ
           ·exact λ_ _ a _ _ _=>xM rfl (a 7 rfl)
           ·exact λ_ _ a _ _ _=>xM rfl (a 10 rfl)
           ·exact λ_ _ _ _ _ e=>pI rfl Tryz.underlying84 g 0 k (d) (e.1 rfl) (e.2.1 rfl)
           ·intro A w1 hA hL hS he;have h127:=eT 127 (he.1 rfl);refine ae rfl ?_;have c0:=c1 w1 hL.below;exact aB rfl rfl gZ
           ·exact λ_ _ a _ _ _=>xM rfl (a 13 rfl)
           ·exact λ_ _ _ _ _ e=>pI rfl Tryz.underlying75 s 0 j (G) (e.1 rfl) (e.2.1 rfl)
           ·intro A w1 hA hL hS he;have h130:=eT 130 (he.1 rfl);refine ae rfl ?_;have c0:=c6 w1 hL.below;exact aB rfl rfl gZ
           ·intro A w1 hA hL hS he;have hb:=hS rfl;have h124:=eT 124 (he.1 rfl);have h131:=eT 131 (he.2.1 rfl);have hf0:=eF A 54;exact cP (f:=54) (args:=#[bc,bd]) (hcm2 _ _ _ (cj.on hb) (ck.on hb))
           ·intro A w1 hA hL hS he;have hb:=hS rfl;obtain⟨v117,h117,f117⟩:=fT 117 (he.1 rfl);obtain⟨v132,h132,f132⟩:=fT 132 (he.2.1 rfl);have hf0:=eF A 74;exact cP (f:=74) (args:=#[v117,v132]) (bw _ _ _ f117 f132)
           ·exact λ_ _ a _ _ _=>xM rfl (a 8 rfl)
           ·intro A w1 hA hL hS he;have hb:=hS rfl;obtain⟨v133,h133,f133⟩:=fT 133 (he.1 rfl);have h134:=eT 134 (he.2.1 rfl);have hf0:=eF A 56;exact cP (f:=56) (args:=#[v133,u8]) (bt _ _ _ f133 (J.out.on hb))
           ·exact λ_ _ _ _ _ e=>pI rfl Tryz.underlying75 C 0 j (G) (e.1 rfl) (e.2.1 rfl)
           ·intro W5 hL5;have hb5:=hL5.below;simp only[aT,af.eq,af.poly,af.of,lZ];rintro v117 - v132 - v133 - v135 h135;go_frame;have hM5:=u.out.on hb5;obtain⟨vo,-,z5,f5,-⟩:=hM5.get D.out (j:=j) G;obtain⟨hM6,hl6,hgb6⟩:=hM5.set D.out G h135;have hlast6:=(J.out.on hb5).lr hl6 (aW dM) dM;have hb6:=(ac.trans (hb5.mono ac.size)).trans (bF (W:=W5) (g:=C) (j:=j) hgb6 v135);obtain⟨a9,c9,rfl,-⟩:=h135.shape;replace hM6:=zH hM6;replace hlast6:=zH hlast6;clear hM5 hl6 h135 hL5 u J ac hb5 c1 c2 c3 c4 c5 c6 cl ci cj ck hcm1 hcm2 bw bt aw;have hj9:(j:Int)<=200000:=oM;go_wp2;go_roundg q2
            case measure=>omega
            case rel=>exact⟨_,j+1,oM,oM,nM,hM6,cc,hej3,hlast6,hb6⟩
end Go.Proofs.YtopclbeomcggiaaGreat
