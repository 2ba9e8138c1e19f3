/- mgcd.Resultant. -/
import Derived.Test.YtopclbeomcggiaaGreatY30
set_option linter.unusedVariables false
set_option linter.unusedSimpArgs false
set_option maxHeartbeats 16000000
set_option maxRecDepth 100000
namespace Q
open Go Go.RowKit Go.Proofs.YtopclbeomcggiaaGreat
theorem mQ.mono{b d:Nat}{w:World}{N c:Nat}{r:List (List aj)}(h:mQ b w N c r)(hb:d<=b):mQ d w N c r:=⟨by have:=h.1;omega,h.2⟩
theorem uu.mono{b d:Nat}{w:World}{g N:Nat}{bs:List Nat}{M:Mx}(h:uu b w g N bs M)(hb:d<=b):uu d w g N bs M :=
 ⟨h.ob,by have:=h.gb;omega,h.len,h.le,λi c r e j=>(h.row i c r e j).mono hb,h.nd⟩
theorem uu.get{base:Nat}{w:World}{g N:Nat}{bs:List Nat}{M:Mx}(h:uu base w g N bs M){i b j:Nat}(hb:bs[i]?=some b)(d:j<N) :
  ∃v,ai w v (lY M i j)/\w.cell? ⟨b,j,none⟩=some v/\w.frozen? ⟨b,j,none⟩=false/\b<w.heap.size:=by
 have k:i<bs.length:=(gS.1 hb).1;have e:M[i]?=some (M.getD i []):=by rw[jD,gE (by rw[h.len];exact k)];rfl
 exact(h.row i b _ hb e).get d
theorem Am{α:Type}{l:List α}{i j:Nat}{x y:α}(p:l[i]?=some x)(q:l[j]?=some y)(k:Nat) :
  ((l.set i y).set j x)[k]?=if k=j then some x else if k=i then some y else l[k]?:=by
 have o:=(gS.1 p).1;have n:=(gS.1 q).1;rw[List.getElem?_set,List.getElem?_set];by_cases d:j=k
 ·subst d;simp[n]
 ·have b:¬k=j:=λh=>d h.symm;by_cases m:i=k
  ·subst m;simp[d,b,o]
  ·have e:¬k=i:=λh=>m h.symm;simp[d,b,m,e]
theorem uu.swap{base:Nat}{w w':World}{g N:Nat}{bs:List Nat}{M:Mx}(h:uu base w g N bs M)(I:bs.length=N){i j b c:Nat}(n:bs[i]?=some b)(o:bs[j]?=some c)
  (H:Blk w' g Iy (((bs.map (oU N)).set i (oU N c)).set j (oU N b))) (G:Lr (some g) Iy w w'):uu base w' g N ((bs.set i c).set j b) (vE M i j):=by
 have E:=(gS.1 n).1;have D:=(gS.1 o).1;have C:M[i]?=some (M.getD i []):=by rw[jD,gE (by rw[h.len];exact E)];rfl
 have B:M[j]?=some (M.getD j []):=by rw[jD,gE (by rw[h.len];exact D)];rfl
 refine⟨?_,h.gb,by simp[vE,h.len],by simp;omega,λk d r u m=>?_,?_⟩
 ·rw[show N-((bs.set i c).set j b).length=0 by simp;omega,List.replicate_zero,List.append_nil,List.map_set,List.map_set];exact H
 ·rw[Am n o]at u;rw[vE,Am C B]at m
  have s:mQ base w N d r:=by
   split at u
   ·next hk=>rw[if_pos hk]at m;cases u;cases m;exact h.row i _ _ n C
   ·next hk =>
    rw[if_neg hk]at m;split at u
    ·next hk2=>rw[if_pos hk2]at m;cases u;cases m;exact h.row j _ _ o B
    ·next hk2=>rw[if_neg hk2]at m;exact h.row k _ _ u m
  exact s.lr G dM dM (s.ne h.ob)
 ·rw[List.nodup_iff_pairwise_ne,List.pairwise_iff_getElem];intro p q hp hq F he;have e1:=gE hp;have l:=gE hq;rw[he]at e1;have e:=λ{x y z:Nat}(u:bs[x]?=some z)(m:bs[y]?=some z)=>Gc h.nd u m;rw[Am n o]at e1 l;generalize((bs.set i c).set j b)[q]=z at *;split at e1<;>split at l
  ·omega
  ·split at l
   ·cases e1;cases l;have:=e n o;omega
   ·cases e1;have:=e n l;omega
  ·split at e1
   ·cases e1;cases l;have:=e n o;omega
   ·cases l;have:=e n e1;omega
  ·split at e1<;>split at l
   ·omega
   ·cases e1;have:=e o l;omega
   ·cases l;have:=e o e1;omega
   ·have:=e e1 l;omega
theorem uu.swapW{base:Nat}{w:World}{g N:Nat}{bs:List Nat}{M:Mx}(h:uu base w g N bs M)(n:bs.length=N){i j b c:Nat}(l:bs[i]?=some b)(m:bs[j]?=some c)(e:i≠j) :
  (uu base ((w.setCell ⟨g,i,none⟩ (oU N c)).setCell ⟨g,j,none⟩ (oU N b)) g N ((bs.set i c).set j b) (vE M i j)/\Lr (some g) Iy w ((w.setCell ⟨g,i,none⟩ (oU N c)).setCell ⟨g,j,none⟩ (oU N b))) /\
  (uu base ((w.setCell ⟨g,j,none⟩ (oU N b)).setCell ⟨g,i,none⟩ (oU N c)) g N ((bs.set i c).set j b) (vE M i j)/\Lr (some g) Iy w ((w.setCell ⟨g,j,none⟩ (oU N b)).setCell ⟨g,i,none⟩ (oU N c))):=by
 have d:Blk w g Iy (bs.map (oU N)):=by have:=h.ob;rwa[(oM:N-bs.length=0),List.replicate_zero,List.append_nil]at this
 have q:=d.set i (oU N c);have r:=q.set j (oU N b);have o:=(aY (j:=i) d (oU N c)).trans (aY (j:=j) q (oU N b));have p:=d.set j (oU N b);have k:=p.set i (oU N c);have l2:=(aY (j:=j) d (oU N b)).trans (aY (j:=i) p (oU N c));rw[List.set_comm _ _ (λh=>e h.symm)]at k;exact⟨⟨h.swap n l m r o,o⟩,h.swap n l m k l2,l2⟩
end Q
namespace Go.Proofs.YtopclbeomcggiaaGreat
open Go.RowKit Q Go.WideMaps Go.Maps
theorem Fa(d i:Value)(a b:List aj)(v:Int)(w:World)(ha:ai w d a)(hb:ai w i b)(h:a=[]\/b=[]):Calls Tryz.prog 33 #[d,i,.int .i64 v] w (aP w []):=by
 obtain⟨k,l,rfl,-⟩:=ha.shape;obtain⟨o,m,rfl,-⟩:=hb.shape;by_cases h0:a=[]
 ·subst h0;simp only[List.length_nil]
  go_enter Tryz.func33,Tryz.ntmps33
  go_wp2;go_step3;go_wp2;rw[Exit.noGoto_ret];go_ret;exact⟨_,rfl,bV.nil _ _,Below.refl _ _⟩
 ·have h1:b=[]:=h.resolve_left h0;subst h1;have j:((a.length:Int)==0)=false:=by have:=List.length_pos_iff.2 h0;simp;omega
  simp only[List.length_nil];generalize a.length=n at *;clear h
  go_enter Tryz.func33,Tryz.ntmps33
  go_wp2;go_step3;go_wp2;rw[Exit.noGoto_ret];go_ret;exact⟨_,rfl,bV.nil _ _,Below.refl _ _⟩
theorem Fb(va vb:Value)(a b R:List aj)(v:Nat)(w:World)(ha:ai w va a)(hb:ai w vb b)(ka:Wp a)(kb:Wp b)(hv:v<4)(h:Km a b v=some R) :
  Calls Tryz.prog 33 #[va,vb,.int .i64 v] w (aP w R):=by
 by_cases S:a=[]\/b=[]
 ·unfold Km at h;rw[if_pos S,sJ]at h;subst h;exact Fa va vb a b v w ha hb S
 have bc:a≠[]:=λh=>S (.inl h);have bb:b≠[]:=λh=>S (.inr h);unfold Km at h;rw[if_neg S]at h;have b3:=zH (λW (hb:Below w.heap.size w W)=>xh va a v W (ha.on hb) hv ka.val.nat (by have:=(ka.deg v).2;omega) (by have:=ka.len;omega));have b8:=zH (λW (cr:Below w.heap.size w W)=>xh vb b v W (hb.on cr) hv kb.val.nat (by have:=(kb.deg v).2;omega) (by have:=kb.len;omega));have la:1<=(aB a v).length/\(aB a v).length<=100001:=by rw[eB];have:=AR (v:=v) bc ka;have:=(ka.deg v).2;omega
 have lb:1<=(aB b v).length/\(aB b v).length<=100001:=by rw[eB];have:=AR (v:=v) bb kb;have:=(kb.deg v).2;omega
 have y:=Xg (a:=aB a v) (b:=aB b v) (λc hc=>ka.coeffs hc) (λc hc=>kb.coeffs hc);have b6:=zH (λW u1 u2 (h1:jq W u1 (aB a v)) (h2:jq W u2 (aB b v))=>E9 u1 u2 _ _ W h1 h2 la.1 la.2 lb.1 lb.2);generalize Xf (aB a v) (aB b v)=M0 at *;obtain⟨N,hN⟩:∃N,N=(aB a v).length - 1+((aB b v).length - 1):=⟨_,rfl⟩;have cn:N<=200000:=oM;rw[<-hN]at h y b6;have ar:((a.length:Int)==0)=false:=by have:=List.length_pos_iff.2 bc;simp;omega
 have ao:((b.length:Int)==0)=false:=by have:=List.length_pos_iff.2 bb;simp;omega
 generalize aB a v=A at *;generalize aB b v=B at *;obtain⟨aa,ca,rfl,-⟩:=ha.shape;obtain⟨ab,cb,rfl,-⟩:=hb.shape;obtain⟨na,hna2⟩:∃n,n=a.length:=⟨_,rfl⟩;obtain⟨nb,hnb2⟩:∃n,n=b.length:=⟨_,rfl⟩;rw[<-hna2]at ar b3 ⊢;rw[<-hnb2]at ao b8 ⊢;replace h:=zH h;replace y:=zH y;clear hna2 hnb2 ha hb ka kb S bc bb la lb hN
 go_enter Tryz.func33,Tryz.ntmps33
 go_wp2;go_step3
 go_upto_region 5 with (first
  | (go_at_call 62;refine(b8.out w3 hb3).mono ?_;rintro en w4 ⟨v4,rfl,h4,hb4⟩;have h34:=h3.on hb4)
  | (go_at_call 62;refine(b3.out _ (Below.refl _ _)).mono ?_;rintro en w3 ⟨v3,rfl,h3,hb3⟩)
  | (go_at_call 76;refine(b6.out _ _ _ h34 h4).mono ?_;rintro en w5 ⟨g,bs,rfl,hM,hb5⟩)
  | (go_at_call 51;refine(yN _).mono ?_;rintro en w6 ⟨v6,rfl,h6,hb6⟩))
 have hb04:=hb3.trans (hb4.mono hb3.size);have hb05:=hb04.trans (hb5.mono hb04.size);have hb06:=hb05.trans (hb6.mono hb05.size);have hM6:=zH ((hM.mono hb04.size).on hb6);replace h6:=zH h6;clear b3 b8 b6 h3 h34 h4 hM hb3 hb4 hb5 hb6 hb04 hb05 ar ao;go_wp2;go_step3;go_wp2
 go_loopg [8,9,32] N (λf vl vn vk wr=>∃(M:Mx)(bs:List Nat)(last:List aj)(neg:Bool)(k:Nat),k+f=N/\vk=.int .i64 k/\vn=.bool neg/\Hid (ai wr vl last)/\Wp last/\Hid (uu w.heap.size wr g N bs M)/\bs.length=N/\Hid (xy N M)/\Hid (Q.resS N f M last neg=some R)/\Below w.heap.size w wr)
 case atStart=>exact⟨M0,bs,Ir,false,0,oM,nM,rfl,h6,D7,hM6,by have h1:=hM6.out.len;have h2:=y.out.len;omega,y,h,hb06⟩
 case round =>
  clear h6 hM6 y h hb06 bs;obtain⟨M,bs,last,neg,k,cx,rfl,rfl,a5,c8,hM,a1,ac,hr,D⟩:=hrel
  cases gk with
  | zero =>
   obtain rfl:k=N:=oM;replace hr:=hr.out;rw[Q.resS]at hr;clear hM ac a1;cases neg
   ·have o:=zH (show R=last from(Option.some.inj hr).symm);go_wp2;rw[Exit.noGoto_ret];go_ret;exact⟨_,rfl,by rw[o.out];exact a5.out,D⟩
   ·have o:=zH (show R=gp [] last from(Option.some.inj hr).symm);have a3:=zH (λW vl (hl:ai W vl last)=>Xe (w:=W) Wp.nil c8 (bV.nil _ _) hl)
    go_wp2_with (go_at_call 74;refine(a3.out _ _ a5.out).mono ?_;rintro en w7 ⟨v7,rfl,h7,hb7⟩)
    rw[Exit.noGoto_ret];go_ret;exact⟨_,rfl,by rw[o.out];exact h7,D.trans (hb7.mono D.size)⟩
  | succ f =>
   have d:k<N:=oM;have cv:(k:Int)<(N:Int):=oM;have hr2:=hr.out;rw[Q.resS]at hr2;have a8:N-(f+1)=k:=oM;rw[a8]at hr2;clear hr a8;have hM0:=hM.out;have a6:∀i,i<N->∃b,bs[i]?=some b:=λi hi=>⟨_,gE oM⟩;have a7:=zH cn;go_wp2
   go_loopg [11] (f+1) (λq vi wz=>∃p:Nat,p+q=N/\q<=f+1/\0<q/\vi=.int .i64 p/\Hid (Kl N k M q=Kl N k M (f+1))/\wz=wr)
   case atStart=>exact⟨k,oM,oM,oM,rfl,zH rfl,rfl⟩
   case round =>
    obtain⟨p,cB,cq,hq0,rfl,cm,rfl⟩:=hrel;have bl:p<N:=oM;obtain⟨bp,a2⟩:=a6 p bl;have b7:wr.cell? ⟨g,p,none⟩=some (.slice (some ⟨bp,0,none⟩) N N):=hM0.hd a2;obtain⟨vp,cl,ad,-,-⟩:=hM0.get a2 (j:=k) d;obtain⟨ap,cp,rfl,-⟩:=cl.shape;obtain⟨q,rfl⟩:∃q',gk=q'+1:=⟨gk - 1,oM⟩;have cc:N - (q+1)=p:=oM;have hfd2:=cm.out;rw[Kl,cc]at hfd2;clear cm cc cl;by_cases he:lY M p k=[]
    ·rw[if_pos he]at hfd2;rw[he]at ad;simp only[List.length_nil]at ad;clear he;by_cases hq1:q=0
     ·subst hq1;rw[<-hfd2]at hr2;have o:Hid (R=[]):=zH (Option.some.inj hr2).symm;have hpN1:(p:Int)+1=(N:Int):=oM;have hp2:(p:Int)<=200000:=by have:=a7.out;omega
      clear hr2 hfd2
      go_wp2_with (first
       | (refine ak rfl (.tmp 36) (.tmp 37) _ rfl _ Tryz.underlying84 _ 1 24 kM _ _ _ rfl _ _ rfl p rfl oM g 0 rfl ?_;rw[nU,Nat.zero_add])
       | (refine ak rfl (.tmp 39) (.tmp 40) _ rfl _ Tryz.underlying75 _ 1 24 kM _ _ _ rfl _ _ rfl k rfl d bp 0 rfl ?_;rw[nU,Nat.zero_add]))
      rw[Exit.noGoto_ret];go_ret;exact⟨_,rfl,by rw[o.out];exact bV.nil _ _,D⟩
     ·have hpN1:((p:Int)+1==(N:Int))=false:=by simp;omega
      have hpN2:¬(p:Int)+1=(N:Int):=oM;have hp2:(p:Int)<=200000:=by have:=a7.out;omega
      have hfd3:=zH hfd2;clear hfd2
      go_wp2_with (first
       | (refine ak rfl (.tmp 36) (.tmp 37) _ rfl _ Tryz.underlying84 _ 1 24 kM _ _ _ rfl _ _ rfl p rfl oM g 0 rfl ?_;rw[nU,Nat.zero_add])
       | (refine ak rfl (.tmp 39) (.tmp 40) _ rfl _ Tryz.underlying75 _ 1 24 kM _ _ _ rfl _ _ rfl k rfl d bp 0 rfl ?_;rw[nU,Nat.zero_add]))
      go_roundg q
      case measure=>omega
      case rel=>exact⟨p+1,oM,oM,oM,nM,hfd3,rfl⟩
    ·rw[if_neg he]at hfd2;have bj:(((lY M p k).length:Int)==0)=false:=by have:=List.length_pos_iff.2 he;simp;omega
     obtain⟨lp,bw⟩:∃lp,lp=(lY M p k).length:=⟨_,rfl⟩;rw[<-bw]at bj ad;clear bw he;rw[<-hfd2]at hr2;simp only at hr2;clear hfd2
     go_upto_if 53 with (first
      | (refine ak rfl (.tmp 36) (.tmp 37) _ rfl _ Tryz.underlying84 _ 1 24 kM _ _ _ rfl _ _ rfl p rfl oM g 0 rfl ?_;rw[nU,Nat.zero_add])
      | (refine ak rfl (.tmp 39) (.tmp 40) _ rfl _ Tryz.underlying75 _ 1 24 kM _ _ _ rfl _ _ rfl k rfl d bp 0 rfl ?_;rw[nU,Nat.zero_add]))
     clear b7 ad;have cC:k<=p:=oM
     go_cut [9,54,55,56,57,58,59,60,61,62,63,64,65,66,67,68,69] (λcd _ _ _ _ _ _ _ _ _ _ _ _ _ _ _ _ wc=>∃(bs1:List Nat)(M1:Mx)(neg1:Bool),cd=.bool neg1/\Hid (uu w.heap.size wc g N bs1 M1)/\bs1.length=N/\Hid (xy N M1)/\Hid (M1=if p=k then M else vE M k p)/\Hid (neg1=if p=k then neg else !neg)/\Hid (ai wc u8 last)/\Below w.heap.size w wc)
     case first =>
      by_cases X:p=k
      ·have hpk2:((p:Int)==(k:Int))=true:=by simp;omega
       have hpk3:((p:Int)=(k:Int))=True:=eq_true oM;have hpk4:=zH X;clear X;go_wp2;go_meet
       case rel=>exact⟨bs,M,neg,rfl,hM,a1,ac,zH (by rw[if_pos hpk4.out]),zH (by rw[if_pos hpk4.out]),a5,D⟩
      ·have hpk2:((p:Int)==(k:Int))=false:=by simp;omega
       have hpk3:((p:Int)=(k:Int))=False:=eq_false oM;have hpk4:=zH X;obtain⟨s,r⟩:=a6 k d;have bP:=hM0.on (pV (Below.refl _ _) 1);obtain⟨⟨s1,t1⟩,s2,t2⟩:=bP.swapW a1 r a2 (λh=>X h.symm);have aq:=a5.out.on (pV (Below.refl wr.heap.size wr) 1);have I:=pV D 1;have bn:=hM0.gb;have e1:wr.cell? ⟨g,p,none⟩=some (.slice (some ⟨bp,0,none⟩) N N):=hM0.hd a2;have e2:wr.cell? ⟨g,k,none⟩=some (.slice (some ⟨s,0,none⟩) N N):=hM0.hd r;have e3:=hM0.ob.frozen p;have e4:=hM0.ob.frozen k;have hne9:¬k=p:=λh=>X h.symm;have hlen9:((bs.set k bp).set p s).length=N:=by simp;exact a1
       have hok9:=zH (ac.out.swap d bl);replace s1:=zH s1;replace s2:=zH s2;replace t1:=zH t1;replace t2:=zH t2;clear bP X
       go_upto_region 14 with (fail)
       go_cut [54,55,56,57,58,59,60,61,62,63,64,65,66,67] (λ_ _ _ _ _ _ _ _ _ _ _ _ _ _ wd=>Hid (uu w.heap.size wd g N ((bs.set k bp).set p s) (vE M k p))/\Hid (ai wd u8 last)/\Below w.heap.size w wd)
       case first =>
        go_region_with (fail)
        all_goals
         go_wp2;go_meet
         case rel=>first
          | exact⟨s1,zH (aq.lr t1.out (aV dM) dM),I.trans (t1.out.belowAt I.size (λk hk=>by cases hk;exact bn))⟩
          | exact⟨s2,zH (aq.lr t2.out (aV dM) dM),I.trans (t2.out.belowAt I.size (λk hk=>by cases hk;exact bn))⟩
       case rest =>
        obtain⟨br,ci,bo⟩:=hcut;cases neg
        ·go_wp2;go_meet
         case rel=>exact⟨_,_,true,rfl,br,hlen9,hok9,zH (by rw[if_neg hpk4.out]),zH (by rw[if_neg hpk4.out];rfl),ci,bo⟩
        ·go_wp2;go_meet
         case rel=>exact⟨_,_,false,rfl,br,hlen9,hok9,zH (by rw[if_neg hpk4.out]),zH (by rw[if_neg hpk4.out];rfl),ci,bo⟩
     case rest =>
      obtain⟨bs1,M1,neg1,rfl,hM1,hbl1,hok1,au,av,hl1,Y⟩:=hcut;rw[<-au.out,<-av.out]at hr2;have hall1:∀i,i<N->∃b,bs1[i]?=some b:=λi hi=>⟨_,gE oM⟩;clear au av hM hM0 ac a1 a5 D a6 a2 bj;have hk2:(k:Int)<=200000:=by have:=a7.out;omega
      have hN2:(N:Int)<=200000:=by have:=a7.out;omega
      by_cases hf0:f=0
      ·rw[if_pos hf0]at hr2;have a8:(N:Int) - 1=(k:Int):=oM;obtain⟨s,r⟩:=hall1 k d;have b7:wc.cell? ⟨g,k,none⟩=some (.slice (some ⟨s,0,none⟩) N N):=hM1.out.hd r;obtain⟨vk,z,cs,-,-⟩:=hM1.out.get r (j:=k) d;have be:=hok1.out.get k k;replace z:=zH z;clear hf0 hM1 hok1 hall1;cases neg1
       ·have o:=zH (show R=lY M1 k k from(Option.some.inj hr2).symm)
        go_wp2_with (first|(refine ak rfl (.tmp 75) (.tmp 76) _ rfl _ Tryz.underlying84 _ 1 24 kM _ _ _ rfl _ _ rfl k rfl d g 0 rfl ?_;rw[nU,Nat.zero_add])|(refine ak rfl (.tmp 78) (.tmp 79) _ rfl _ Tryz.underlying75 _ 1 24 kM _ _ _ rfl _ _ rfl k rfl d s 0 rfl ?_;rw[nU,Nat.zero_add]))
        rw[Exit.noGoto_ret];go_ret;exact⟨_,rfl,by rw[o.out];exact z.out,Y⟩
       ·have o:=zH (show R=gp [] (lY M1 k k)from(Option.some.inj hr2).symm);have a3:=zH (λW vl (hl:ai W vl (lY M1 k k))=>Xe (w:=W) Wp.nil be (bV.nil _ _) hl);have hsu2:=zH (a3.out _ _ z.out)
        go_wp2_with (first|(refine ak rfl (.tmp 75) (.tmp 76) _ rfl _ Tryz.underlying84 _ 1 24 kM _ _ _ rfl _ _ rfl k rfl d g 0 rfl ?_;rw[nU,Nat.zero_add])|(refine ak rfl (.tmp 78) (.tmp 79) _ rfl _ Tryz.underlying75 _ 1 24 kM _ _ _ rfl _ _ rfl k rfl d s 0 rfl ?_;rw[nU,Nat.zero_add])|(go_at_call 74;refine hsu2.out.mono ?_;rintro en w7 ⟨v7,rfl,h7,hb7⟩))
        rw[Exit.noGoto_ret];go_ret;exact⟨_,rfl,by rw[o.out];exact h7,Y.trans (hb7.mono Y.size)⟩
      ·rw[if_neg hf0]at hr2;obtain⟨M2,hM2,hr3⟩:=aX hr2;replace hM2:=zH hM2;replace hr3:=zH hr3;have a8:(((k:Int))==(N:Int) - 1)=false:=by simp;omega
       have hNk2:¬(k:Int)=(N:Int)-1:=oM;have hN1:1<=(N:Int):=oM;clear hr2;go_wp2
       go_loopg [12] f (λq vi wz=>∃(M':Mx)(i:Nat),i+q=N/\q<=f/\vi=.int .i64 i/\Hid (uu w.heap.size wz g N bs1 M')/\Hid (xy N M')/\Hid (Zc N k last q M'=some M2)/\Hid (ai wz u8 last)/\Below w.heap.size w wz)
       case atStart=>exact⟨M1,k+1,oM,oM,nM,hM1,hok1,hM2,hl1,Y⟩
       case round =>
        clear hM1 hok1 hM2 hl1 Y;obtain⟨M',i,cy,cq,rfl,a4,J,al,bm,b2⟩:=hrel
        cases gk with
        | zero =>
         obtain rfl:N=i:=oM;have he2:M'=M2:=Option.some.inj al.out;subst he2;obtain⟨s,r⟩:=hall1 k d;have b7:wr.cell? ⟨g,k,none⟩=some (.slice (some ⟨s,0,none⟩) N N):=a4.out.hd r;obtain⟨vk,z,cs,-,-⟩:=a4.out.get r (j:=k) d;have be:=J.out.get k k;replace z:=zH z;clear al
         go_wp2_with (first
          | (refine ak rfl (.tmp 137) (.tmp 138) _ rfl _ Tryz.underlying84 _ 1 24 kM _ _ _ rfl _ _ rfl k rfl d g 0 rfl ?_;rw[nU,Nat.zero_add])
          | (refine ak rfl (.tmp 140) (.tmp 141) _ rfl _ Tryz.underlying75 _ 1 24 kM _ _ _ rfl _ _ rfl k rfl d s 0 rfl ?_;rw[nU,Nat.zero_add]))
         go_roundg f
         case measure=>omega
         case rel=>exact⟨M',bs1,lY M' k k,neg1,k+1,oM,nM,rfl,z,be,a4,hbl1,J,hr3,b2⟩
        | succ q =>
         have hel2:=al.out;rw[Zc,(oM:N - (q+1)=i),(oM:N - (k+1)=f)]at hel2;obtain⟨M3,hM3,hel3⟩:=aX hel2;replace hM3:=zH hM3;replace hel3:=zH hel3;have a0:i<N:=oM;have cu:(i:Int)<(N:Int):=oM;clear al hel2;go_wp2
         go_loopg [13] f (λq2 vj wz=>∃(l:Mx)(j:Nat),j+q2=N/\q2<=f/\vj=.int .i64 j/\Hid (uu w.heap.size wz g N bs1 l)/\Hid (xy N l)/\Hid (Zb N k i last q2 l=some M3)/\Hid (ai wz u8 last)/\Below w.heap.size w wz)
         case atStart=>exact⟨M',k+1,oM,oM,nM,a4,J,hM3,bm,b2⟩
         case round =>
          clear a4 J hM3 bm b2;obtain⟨l,j,cA,cw,rfl,Z,m,an,L,ag⟩:=hrel
          cases gk with
          | zero =>
           obtain rfl:N=j:=oM;have he2:l=M3:=Option.some.inj an.out;subst he2;clear an;go_wp2;go_roundg q
           case measure=>omega
           case rel=>exact⟨l,i+1,oM,oM,nM,Z,m,hel3,L,ag⟩
          | succ q2 =>
           have G:j<N:=oM;have ct:(j:Int)<(N:Int):=oM;have hej2:=an.out;rw[Zb,(oM:N - (q2+1)=j)]at hej2;obtain⟨x,hx,hej3⟩:=aX hej2;obtain⟨s,r⟩:=hall1 k d;obtain⟨F,C⟩:=hall1 i a0;have u:=Z.out;obtain⟨b4,bz,ce,-,bd⟩:=u.get r (j:=k) d;obtain⟨ax,cg,bh,-,ay⟩:=u.get C (j:=j) G;obtain⟨b5,bt,ck,-,-⟩:=u.get C (j:=k) d;obtain⟨ba,bA,bq,-,-⟩:=u.get r (j:=j) G;have b0:=m.out.get k k;have aE:=m.out.get i j;have b9:=m.out.get i k;have aw:=m.out.get k j;have c1:∀W,Below wr.heap.size wr W->W.cell? ⟨g,k,none⟩=some (.slice (some ⟨s,0,none⟩) N N):=λW hb=>(u.on hb).hd r;have c2:∀W,Below wr.heap.size wr W->W.cell? ⟨g,i,none⟩=some (.slice (some ⟨F,0,none⟩) N N):=λW hb=>(u.on hb).hd C;have c3:∀W,Below wr.heap.size wr W->W.cell? ⟨s,k,none⟩=some b4:=λW hb=>(hb.cell (p:=⟨s,k,none⟩) bd).trans ce;have c4:∀W,Below wr.heap.size wr W->W.cell? ⟨F,j,none⟩=some ax:=λW hb=>(hb.cell (p:=⟨F,j,none⟩) ay).trans bh;have c5:∀W,Below wr.heap.size wr W->W.cell? ⟨F,k,none⟩=some b5:=λW hb=>(hb.cell (p:=⟨F,k,none⟩) ay).trans ck;have c6:∀W,Below wr.heap.size wr W->W.cell? ⟨s,j,none⟩=some ba:=λW hb=>(hb.cell (p:=⟨s,j,none⟩) bd).trans bq;have m1:=b0.mulOk aE;have m2:=b9.mulOk aw
           have r1:=b0.prod aE;have r2:=b9.prod aw;have hcm1:=λW u1 u2 (h1:ai W u1 (lY l k k)) (h2:ai W u2 (lY l i j))=>zL u1 u2 _ _ W h1 h2 m1.kp m1.kq m1.ko m1.kl.1 m1.kl.2;have hcm2:=λW u1 u2 (h1:ai W u1 (lY l i k)) (h2:ai W u2 (lY l k j))=>zL u1 u2 _ _ W h1 h2 m2.kp m2.kq m2.ko m2.kl.1 m2.kl.2;have bB:=λW u1 u2 (h1:ai W u1 (aZ (lY l k k) (lY l i j))) (h2:ai W u2 (aZ (lY l i k) (lY l k j)))=>H8 u1 u2 _ _ W h1 h2 r1.1 r2.1 r1.2 r2.2 (bQ.mul _ _) (bQ.mul _ _);have cj:=λW u1 u2 (h1:ai W u1 (gp (aZ (lY l k k) (lY l i j)) (aZ (lY l i k) (lY l k j)))) (h2:ai W u2 last)=>oC u1 u2 _ last x W h1 h2 c8 hx;have kx:=qX hx;generalize lY l k k=Pkk at *;generalize lY l i j=Pij at *;generalize lY l i k=Pik at *;generalize lY l k j=Pkj at *;generalize aZ Pkk Pij=Q1 at *;generalize aZ Pik Pkj=Q2 at *;generalize gp Q1 Q2=Q3 at *;have c7:=zH (m.out.set (j:=j) a0 kx);replace hej3:=zH hej3;replace C:=zH C;clear an hej2 hx b0 aE b9 aw m1 m2 r1 r2 kx ce bh ck bq bd m r;replace u:=zH u;clear Z
           go_upto_region 24 with (fail)
           refine aC mixed (none) (0) (fM.none) [.eq (.slice (some ⟨g,0,none⟩) N N),.eq (.int .i64 i),.eq (.pointer (some ⟨g,0+i*1,none⟩)),.eq (.slice (some ⟨F,0,none⟩) N N),.eq (.int .i64 j),.eq (.slice (some ⟨g,0,none⟩) N N),.eq (.int .i64 k),.eq (.pointer (some ⟨g,0+k*1,none⟩)),.eq (.slice (some ⟨s,0,none⟩) N N),.eq (.int .i64 k),.eq (.pointer (some ⟨s,0+k*1,none⟩)),.eq (b4),.eq (.slice (some ⟨g,0,none⟩) N N),.eq (.int .i64 i),.eq (.pointer (some ⟨g,0+i*1,none⟩)),.eq (.slice (some ⟨F,0,none⟩) N N),.eq (.int .i64 j),.eq (.pointer (some ⟨F,0+j*1,none⟩)),.eq (ax),.poly dM dM (Q1),.eq (.slice (some ⟨g,0,none⟩) N N),.eq (.int .i64 i),.eq (.pointer (some ⟨g,0+i*1,none⟩)),.eq (.slice (some ⟨F,0,none⟩) N N),.eq (.int .i64 k),.eq (.pointer (some ⟨F,0+k*1,none⟩)),.eq (b5),.eq (.slice (some ⟨g,0,none⟩) N N),.eq (.int .i64 k),.eq (.pointer (some ⟨g,0+k*1,none⟩)),.eq (.slice (some ⟨s,0,none⟩) N N),.eq (.int .i64 j),.eq (.pointer (some ⟨s,0+j*1,none⟩)),.eq (ba),.poly dM dM (Q2),.poly dM dM (Q3),.eq (u8),.poly dM dM (x),.eq (.pointer (some ⟨F,0+j*1,none⟩))] [98,99,100,101,102,103,104,105,106,107,108,109,110,111,112,113,114,115,116,117,118,119,120,121,122,123,124,125,126,127,128,129,130,131,132,133,134,135,136] rfl rfl rfl rfl ⟨?_,?_,?_,?_,?_,?_,?_,?_,?_,?_,?_,?_,?_,?_,?_,?_,?_,?_,?_,?_,?_,?_,?_,?_,?_,?_,?_,?_,?_,?_,?_,?_,?_,?_,?_,?_,?_,?_,?_,trivial⟩ ?_
           ·exact λ_ _ a _ _ _=>xM rfl (a 7 rfl)
           ·exact λ_ _ a _ _ _=>xM rfl (a 12 rfl)
           ·exact λ_ _ _ _ _ e=>pI rfl Tryz.underlying84 g 0 i (a0) (e.1 rfl) (e.2.1 rfl)
           ·intro A w1 hA hL hS he;have h100:=eT 100 (he.1 rfl);refine ae rfl ?_;have c0:=c2 w1 hL.below;exact aA rfl rfl gZ
           ·exact λ_ _ a _ _ _=>xM rfl (a 13 rfl)
           ·exact λ_ _ a _ _ _=>xM rfl (a 7 rfl)
           ·exact λ_ _ a _ _ _=>xM rfl (a 10 rfl)
           ·exact λ_ _ _ _ _ e=>pI rfl Tryz.underlying84 g 0 k (d) (e.1 rfl) (e.2.1 rfl)
           ·intro A w1 hA hL hS he;have h105:=eT 105 (he.1 rfl);refine ae rfl ?_;have c0:=c1 w1 hL.below;exact aA rfl rfl gZ
           ·exact λ_ _ a _ _ _=>xM rfl (a 10 rfl)
           ·exact λ_ _ _ _ _ e=>pI rfl Tryz.underlying75 s 0 k (d) (e.1 rfl) (e.2.1 rfl)
           ·intro A w1 hA hL hS he;have h108:=eT 108 (he.1 rfl);refine ae rfl ?_;have c0:=c3 w1 hL.below;exact aA rfl rfl gZ
           ·exact λ_ _ a _ _ _=>xM rfl (a 7 rfl)
           ·exact λ_ _ a _ _ _=>xM rfl (a 12 rfl)
           ·exact λ_ _ _ _ _ e=>pI rfl Tryz.underlying84 g 0 i (a0) (e.1 rfl) (e.2.1 rfl)
           ·intro A w1 hA hL hS he;have h112:=eT 112 (he.1 rfl);refine ae rfl ?_;have c0:=c2 w1 hL.below;exact aA rfl rfl gZ
           ·exact λ_ _ a _ _ _=>xM rfl (a 13 rfl)
           ·exact λ_ _ _ _ _ e=>pI rfl Tryz.underlying75 F 0 j (G) (e.1 rfl) (e.2.1 rfl)
           ·intro A w1 hA hL hS he;have h115:=eT 115 (he.1 rfl);refine ae rfl ?_;have c0:=c4 w1 hL.below;exact aA rfl rfl gZ
           ·intro A w1 hA hL hS he;have hb:=hS rfl;have h109:=eT 109 (he.1 rfl);have h116:=eT 116 (he.2.1 rfl);have hf0:=eF A 54;exact cP (f:=54) (args:=#[b4,ax]) (hcm1 _ _ _ (bz.on hb) (cg.on hb))
           ·exact λ_ _ a _ _ _=>xM rfl (a 7 rfl)
           ·exact λ_ _ a _ _ _=>xM rfl (a 12 rfl)
           ·exact λ_ _ _ _ _ e=>pI rfl Tryz.underlying84 g 0 i (a0) (e.1 rfl) (e.2.1 rfl)
           ·intro A w1 hA hL hS he;have h120:=eT 120 (he.1 rfl);refine ae rfl ?_;have c0:=c2 w1 hL.below;exact aA rfl rfl gZ
           ·exact λ_ _ a _ _ _=>xM rfl (a 10 rfl)
           ·exact λ_ _ _ _ _ e=>pI rfl Tryz.underlying75 F 0 k (d) (e.1 rfl) (e.2.1 rfl)
           ·intro A w1 hA hL hS he;have h123:=eT 123 (he.1 rfl);refine ae rfl ?_;have c0:=c5 w1 hL.below;exact aA rfl rfl gZ
           ·exact λ_ _ a _ _ _=>xM rfl (a 7 rfl)
           ·exact λ_ _ a _ _ _=>xM rfl (a 10 rfl)
           ·exact λ_ _ _ _ _ e=>pI rfl Tryz.underlying84 g 0 k (d) (e.1 rfl) (e.2.1 rfl)
           ·intro A w1 hA hL hS he;have h127:=eT 127 (he.1 rfl);refine ae rfl ?_;have c0:=c1 w1 hL.below;exact aA rfl rfl gZ
           ·exact λ_ _ a _ _ _=>xM rfl (a 13 rfl)
           ·exact λ_ _ _ _ _ e=>pI rfl Tryz.underlying75 s 0 j (G) (e.1 rfl) (e.2.1 rfl)
           ·intro A w1 hA hL hS he;have h130:=eT 130 (he.1 rfl);refine ae rfl ?_;have c0:=c6 w1 hL.below;exact aA rfl rfl gZ
           ·intro A w1 hA hL hS he;have hb:=hS rfl;have h124:=eT 124 (he.1 rfl);have h131:=eT 131 (he.2.1 rfl);have hf0:=eF A 54;exact cP (f:=54) (args:=#[b5,ba]) (hcm2 _ _ _ (bt.on hb) (bA.on hb))
           ·intro A w1 hA hL hS he;have hb:=hS rfl;obtain⟨v117,h117,f117⟩:=fT 117 (he.1 rfl);obtain⟨v132,h132,f132⟩:=fT 132 (he.2.1 rfl);have hf0:=eF A 74;exact cP (f:=74) (args:=#[v117,v132]) (bB _ _ _ f117 f132)
           ·exact λ_ _ a _ _ _=>xM rfl (a 8 rfl)
           ·intro A w1 hA hL hS he;have hb:=hS rfl;obtain⟨v133,h133,f133⟩:=fT 133 (he.1 rfl);have h134:=eT 134 (he.2.1 rfl);have hf0:=eF A 56;exact cP (f:=56) (args:=#[v133,u8]) (cj _ _ _ f133 (L.out.on hb))
           ·exact λ_ _ _ _ _ e=>pI rfl Tryz.underlying75 F 0 j (G) (e.1 rfl) (e.2.1 rfl)
           ·intro W5 hL5;have hb5:=hL5.below;simp only[aU,af.eq,af.poly,af.of,lZ];rintro v117 - v132 - v133 - v135 h135;go_frame;have hM5:=u.out.on hb5;obtain⟨vo,-,z5,f5,-⟩:=hM5.get C.out (j:=j) G;obtain⟨hM6,hl6,hgb6⟩:=hM5.set C.out G h135;have hlast6:=(L.out.on hb5).lr hl6 (aV dM) dM;have hb6:=(ag.trans (hb5.mono ag.size)).trans (bI (W:=W5) (g:=F) (j:=j) hgb6 v135);obtain⟨a9,c9,rfl,-⟩:=h135.shape;replace hM6:=zH hM6;replace hlast6:=zH hlast6;clear hM5 hl6 h135 hL5 u L ag hb5 c1 c2 c3 c4 c5 c6 bz cg bt bA hcm1 hcm2 bB cj ay;have hj9:(j:Int)<=200000:=oM;go_wp2;go_roundg q2
            case measure=>omega
            case rel=>exact⟨_,j+1,oM,oM,nM,hM6,c7,hej3,hlast6,hb6⟩
end Go.Proofs.YtopclbeomcggiaaGreat
