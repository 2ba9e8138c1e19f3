/- mgcd.sylvester. -/
import Derived.Test.YtopclbeomcggiaaGreatW30
set_option linter.unusedVariables false
set_option linter.unusedSimpArgs false
set_option maxHeartbeats 16000000
set_option maxRecDepth 100000
section
namespace Q
open Go Go.RowKit Go.Proofs.YtopclbeomcggiaaGreat
theorem Eg {l:List Nat} (h:l.Nodup) {i j x:Nat} (hi:l[i]?=some x) (hj:l[j]?=some x):i=j:=by
 have hil:=(List.getElem?_eq_some_iff.1 hi);have hjl:=(List.getElem?_eq_some_iff.1 hj);obtain⟨h1,h2⟩:=hil;obtain⟨h3,h4⟩:=hjl;have hp:=List.pairwise_iff_getElem.1 h;rcases Nat.lt_trichotomy i j with hlt|heq|hgt
 ·exact absurd (h2.trans h4.symm) (hp i j h1 h3 hlt)
 ·exact heq
 ·exact absurd (h4.trans h2.symm) (hp j i h3 h1 hgt)
theorem rR.hd {base:Nat} {w:World} {g N:Nat} {bs:List Nat} {M:Mx} (h:rR base w g N bs M) {i b:Nat} (hb:bs[i]?=some b):w.cell? ⟨g,i,none⟩=some (mY N b):=by
 have hi:i<bs.length:=(List.getElem?_eq_some_iff.1 hb).1;refine h.ob.at1 i _ ?_;rw [List.getElem?_append_left (by rw [List.length_map];exact hi),List.getElem?_map,hb];rfl
theorem rR.lt {base:Nat} {w:World} {g N:Nat} {bs:List Nat} {M:Mx} (h:rR base w g N bs M):g<w.heap.size:=h.ob.lt
theorem rR.push {base:Nat} {w:World} {g N:Nat} {bs:List Nat} {M:Mx} (h:rR base w g N bs M) (hn:bs.length<N) {b:Nat} {r:List (List ai)} (hr:jr base w N b r) (hb:b∉bs) :
  rR base (w.setCell ⟨g,bs.length,none⟩ (mY N b)) g N (bs++[b]) (M++[r]):=by
 have hl:=aY (j:=bs.length) h.ob (mY N b);refine⟨?_,h.gb,by simp [h.len],by simp;omega,fun i b' r' h1 h2=>?_,?_⟩
 ·have h3:=h.ob.set bs.length (mY N b)
  have e:(bs.map (mY N)++List.replicate (N-bs.length) (Value.slice none 0 0)).set bs.length (mY N b)=(bs++[b]).map (mY N)++List.replicate (N-(bs++[b]).length) (Value.slice none 0 0):=by
   obtain⟨d,hd⟩:∃ d,N - bs.length=d+1:=⟨N - bs.length - 1,by omega⟩;have hd2:N - (bs++[b]).length=d:=by simp;omega
   rw [hd,hd2,List.set_append_right _ _ (by simp),List.length_map,Nat.sub_self,List.replicate_succ,List.set_cons_zero,List.map_append,List.append_assoc];rfl
  rw [e] at h3;exact h3
 ·rcases Nat.lt_or_ge i bs.length with hi|hi
  ·rw [List.getElem?_append_left hi] at h1;rw [List.getElem?_append_left (by rw [h.len];exact hi)] at h2;have h4:=h.row i b' r' h1 h2;exact h4.lr hl (by decide) (by decide) (h4.ne h.ob)
  ·rw [List.getElem?_append_right hi] at h1;rw [List.getElem?_append_right (by rw [h.len];exact hi),h.len] at h2;rcases Nat.eq_zero_or_pos (i - bs.length) with h0|h0
   ·rw [h0] at h1 h2;simp only [List.getElem?_cons_zero,Option.some.injEq] at h1 h2;subst h1;subst h2;exact hr.lr hl (by decide) (by decide) (hr.ne h.ob)
   ·rw [List.getElem?_eq_none (by simp;omega)] at h1;cases h1
 ·rw [List.nodup_append];refine⟨h.nd,by simp,fun x hx y hy=>?_⟩;rw [List.mem_singleton.1 hy];rintro rfl;exact hb hx
theorem rR.set {base:Nat} {w:World} {g N:Nat} {bs:List Nat} {M:Mx} (h:rR base w g N bs M) {i b j:Nat} (hb:bs[i]?=some b) (hj:j<N) {v:Value} {q:List ai} (hq:ak w v q) :
  rR base (w.setCell ⟨b,j,none⟩ v) g N bs (wQ M i j q)/\Lr (some b) polyT w (w.setCell ⟨b,j,none⟩ v)/\base<=b:=by
 have hi:i<bs.length:=(List.getElem?_eq_some_iff.1 hb).1;have hM:M[i]?=some (M.getD i []):=by rw [List.getD_eq_getElem?_getD,List.getElem?_eq_getElem (by rw [h.len];exact hi)];rfl
 have hr:=h.row i b _ hb hM;obtain⟨h1,h2⟩:=hr.set hj hq;refine⟨⟨h.ob.lr h2 (by simpa using (hr.ne h.ob).symm),h.gb,by rw [wQ,List.length_set];exact h.len,h.le,fun i' b' r' h3 h4=>?_,h.nd⟩,h2,hr.1⟩;by_cases hii:i=i'
 ·subst hii;rw [hb] at h3;cases h3;rw [wQ,List.getElem?_set,if_pos rfl,if_pos (by rw [h.len];exact hi)] at h4;cases h4;exact h1
 ·rw [wQ,List.getElem?_set,if_neg hii] at h4;refine (h.row i' b' r' h3 h4).lr h2 (by decide) (by decide) ?_;rintro rfl;exact hii (Eg h.nd hb h3)
theorem Oh (M:Mx) (r:List (List ai)) (j:Nat) (x:List ai):wQ (M++[r]) M.length j x=M++[r.set j x]:=by
 unfold wQ;rw [List.getD_eq_getElem?_getD,List.getElem?_append_right (Nat.le_refl _),Nat.sub_self,List.set_append_right _ _ (Nat.le_refl _),Nat.sub_self];rfl
end Q
namespace Go.Proofs.YtopclbeomcggiaaGreat
open Go.RowKit Q Go.WideMaps Go.Maps
def Vw (w:World) (N:Nat) (M:Mx) (e:Ending) (w':World):Prop:=∃ g bs,e=.returned (.slice (some ⟨g,0,none⟩) N N)/\rR w.heap.size w' g N bs M/\Below w.heap.size w w'
theorem De (va vb:Value) (a b:List (List ai)) (w:World) (ha:fG w va a) (hb:fG w vb b) (la:1<=a.length) (la2:a.length<=100001) (lb:1<=b.length) (lb2:b.length<=100001) :
  Calls Tryz.prog 76 #[va,vb] w (Vw w (a.length-1+(b.length-1)) (vJ a b)):=by
 obtain⟨aa,ca,rfl,hca⟩:=ha.shape;obtain⟨ab,cb,rfl,hcb⟩:=hb.shape;obtain⟨m,hm⟩:∃ m,a.length=m+1:=⟨a.length - 1,by omega⟩;obtain⟨n,hn⟩:∃ n,b.length=n+1:=⟨b.length - 1,by omega⟩;have hrow:∀ i,dJ a b (m+n) i=if n<=i then jq b (i - n) (m+n) b.length else jq a i (m+n) a.length:=fun i=>by rw [dJ,hn,Nat.add_sub_cancel]
 have hsyl:vJ a b=(List.range (m+n)).map (dJ a b (m+n)):=by rw [vJ,hm,hn,Nat.add_sub_cancel,Nat.add_sub_cancel]
 rw [hsyl,show a.length-1+(b.length-1)=m+n by omega];have hm2:(a.length:Int)-1=(m:Int):=by omega
 have hn2:(b.length:Int)-1=(n:Int):=by omega
 have hml:m<=100000:=by omega
 have hnl:n<=100000:=by omega
 replace hrow:=zH hrow;replace ha:=zH ha;replace hb:=zH hb;replace hm:=zH hm;replace hn:=zH hn;clear hsyl
 go_enter Tryz.func76,Tryz.ntmps76
 go_wp2_with (at_make;refine bQ rfl _ _ _ rfl qL (.slice none 0 0) 1 24 Tryz.underlying84 (by kernel_rfl) rfl rfl .i64 .i64 _ _ (m+n) rfl rfl (by omega) (by omega) (by omega) (by omega) ?_;intro w2 own2 gr2)
 have hst:Hid (rR w.heap.size w2 w.heap.size (m+n) [] ((List.range 0).map (dJ a b (m+n)))):=zH ⟨by simpa using (show Blk w2 w.heap.size qL (List.replicate (m+n) (Value.slice none 0 0)) from own2),Nat.le_refl _,rfl,by simp,fun i b r h=>by simp at h,List.nodup_nil⟩;generalize hg:w.heap.size=g at hst ⊢;have hgw:w.heap.size<=g:=by omega
 clear own2
 go_loopw [24] (fun i wr=>∃ (k:Nat) (bs:List Nat),k<=m+n/\i=.int .i64 k/\bs.length=k/\Hid (rR w.heap.size wr g (m+n) bs ((List.range k).map (dJ a b (m+n))))/\Below w.heap.size w wr) (fun i _=>m+n-(intOf i).toNat)
 case atStart=>exact⟨0,[],by omega,by go_num,rfl,by rw [hg];exact hst,gr2⟩
 case round =>
  clear hst gr2;replace hg:=zH hg;obtain⟨k,bs,hk,rfl,hbl,hM,hbr⟩:=hrel;by_cases hkl:k<m+n
  ·have hkl':(k:Int)<(m:Int)+(n:Int):=by omega
   have hM0:=hM.out;have hgl:=hM0.lt;have hz:=hM0.ob.at1 k (.slice none 0 0) (by rw [List.getElem?_append_right (by rw [List.length_map];omega),List.length_map,hbl,Nat.sub_self,List.getElem?_replicate,if_pos (by omega)]);have hf:=hM0.ob.frozen k
   go_upto_region 7 with (first
    | (at_make;refine bQ rfl _ _ _ rfl polyT (.slice none 0 0) 1 24 Tryz.underlying75 (by kernel_rfl) rfl rfl .i64 .i64 _ _ (m+n) rfl rfl (by omega) (by omega) (by omega) (by omega) ?_;intro w3 own3 gr3;have hz3:=(hM0.on gr3).ob.at1 k (.slice none 0 0) (by rw [List.getElem?_append_right (by rw [List.length_map];omega),List.length_map,hbl,Nat.sub_self,List.getElem?_replicate,if_pos (by omega)]);have hf3:=(hM0.on gr3).ob.frozen k)
    | (refine aj rfl (.tmp 27) (.tmp 28) _ rfl _ Tryz.underlying84 _ 1 24 (by kernel_rfl) _ _ _ rfl _ _ rfl k rfl hkl g 0 rfl ?_;rw [Nat.mul_one,Nat.zero_add]))
   have hM3:=hM0.on gr3
   have hnin:wr.heap.size∉bs:=fun hin=>by
    obtain⟨i,hi,he⟩:=List.getElem_of_mem hin;have h1:bs[i]?=some wr.heap.size:=by rw [List.getElem?_eq_getElem hi,he]
    have h2:((List.range k).map (dJ a b (m+n)))[i]?=some (((List.range k).map (dJ a b (m+n))).getD i []):=by
     rw [List.getD_eq_getElem?_getD,List.getElem?_eq_getElem (by simp;omega)];rfl
    have h3:=hM0.row i _ _ h1 h2;obtain⟨-,-,-,-,h4⟩:=h3.get (j:=0) (by omega);omega
   have hrw:jr w.heap.size w3 (m+n) wr.heap.size (List.replicate (m+n) []):=by
    refine⟨hbr.size,by simp,List.replicate (m+n) (.slice none 0 0),⟨own3,by simp,fun i v p h1 h2=>?_⟩,by simp⟩;rw [rF h1,rF h2];exact bS.nil _ _
   have hpush:=hM3.push (by omega) hrw hnin;rw [hbl] at hpush;have hb4:=(hbr.trans (gr3.mono hbr.size)).trans (bI (W:=w3) (g:=g) (j:=k) hgw (mY (m+n) wr.heap.size));have hst0:Hid (rR w.heap.size (w3.setCell ⟨g,k,none⟩ (mY (m+n) wr.heap.size)) g (m+n) (bs++[wr.heap.size]) ((List.range k).map (dJ a b (m+n))++[List.replicate (m+n) []])):=zH hpush;obtain⟨gb,hgb⟩:∃ gb,gb=wr.heap.size:=⟨_,rfl⟩;rw [<- hgb] at hst0 hb4 ⊢;obtain⟨W4,hW4⟩:∃ W4,W4=w3.setCell ⟨g,k,none⟩ (mY (m+n) gb):=⟨_,rfl⟩;rw [<- hW4] at hst0 hb4;change Code.wp _ _ _ _ (w3.setCell ⟨g,k,none⟩ (mY (m+n) gb));rw [<- hW4];clear hM hM0 hM3 hz hf own3 gr3 hz3 hf3 hnin hrw hpush hW4 hgb hgl hbr
   go_upto_if 38 with (fail)
   go_cut [9,10,39,40,41,42] (fun vl vt _ _ _ _ wc=>∃ (l:List (List ai)) (t:Nat),vt=.int .i64 t/\Hid (fG w vl l)/\Hid (dJ a b (m+n) k=jq l t (m+n) l.length)/\1<=l.length/\l.length<=100001/\t+l.length<=m+n/\Hid (rR w.heap.size wc g (m+n) (bs++[gb]) ((List.range k).map (dJ a b (m+n))++[List.replicate (m+n) []]))/\Below w.heap.size w wc)
   case first =>
    by_cases hnk:n<=k
    ·have hnk':(n:Int)<=(k:Int):=by omega
     obtain⟨t,ht⟩:∃ t,t=k - n:=⟨_,rfl⟩;have ht2:(k:Int) - (n:Int)=(t:Int):=by omega
     have hr9:=zH (hrow.out k);replace ht:=zH ht;go_wp2;go_meet
     case rel=>exact⟨b,t,rfl,hb,zH (by rw [hr9.out,if_pos hnk,ht.out]),lb,lb2,by have:=ht.out;have:=hn.out;omega,hst0,hb4⟩
    ·have hnk':¬ (n:Int)<=(k:Int):=by omega
     have hr9:=zH (hrow.out k);go_wp2;go_meet
     case rel=>exact⟨a,k,rfl,ha,zH (by rw [hr9.out,if_neg (by omega)]),la,la2,by have:=hm.out;omega,hst0,hb4⟩
   case rest =>
    clear hst0 hb4;obtain⟨l,t,rfl,hl,hsr,ll,ll2,htl,hM,hbc⟩:=hcut;obtain⟨al,cl,rfl,-⟩:=hl.out.shape;go_wp2
    go_loopw [45] (fun i wz=>∃ j:Nat,j<=l.length/\i=.int .i64 j/\Hid (rR w.heap.size wz g (m+n) (bs++[gb]) ((List.range k).map (dJ a b (m+n))++[jq l t (m+n) j]))/\Below w.heap.size w wz) (fun i _=>l.length-(intOf i).toNat)
    case atStart=>exact⟨0,by omega,by go_num,hM,hbc⟩
    case round =>
     clear hM hbc;obtain⟨j,hj,rfl,hM,hbz⟩:=hrel;by_cases hjl:j<l.length
     ·have hjq:l[j]?=some l[j]:=List.getElem?_eq_getElem hjl;have hgd:l.getD j []=l[j]:=by rw [List.getD_eq_getElem?_getD,hjq];rfl
      have hl0:=hl.out.on hbz;generalize l[j]=c at *;obtain⟨bl,ol,vc,rfl,hvc,hC⟩:=qG hl0 hjq;have hvs:=bS.shape hvc;obtain⟨p,hp⟩:∃ p,p=t+l.length - 1 - j:=⟨_,rfl⟩;have hpi:(t:Int)+(l.length:Int) - 1 - (j:Int)=(p:Int):=by omega
      have hpN:p<m+n:=by omega
      have hM0:=hM.out;have hbk:(bs++[gb])[k]?=some gb:=by rw [List.getElem?_append_right (by omega),hbl,Nat.sub_self];rfl
      have hlen9:((List.range k).map (dJ a b (m+n))).length=k:=by simp
      have hsucc:Hid ((List.range k).map (dJ a b (m+n))++[jq l t (m+n) (j+1)]=wQ ((List.range k).map (dJ a b (m+n))++[jq l t (m+n) j]) k p c):=zH (by
       have h1:=Oh ((List.range k).map (dJ a b (m+n))) (jq l t (m+n) j) p c;rw [hlen9] at h1
       rw [h1,jq,<- hp,hgd])
      have hhd:∀ W,Below wr.heap.size wr W->W.cell? ⟨g,k,none⟩=some (.slice (some ⟨gb,0,none⟩) (m+n) (m+n)):=fun W hb=>(hM0.on hb).hd hbk
      have hcc:∀ W,Below wr.heap.size wr W->W.cell? ⟨bl,ol+j,none⟩=some vc:=fun W hb=>by
       have h1:=(hC.on hb).cell 0 (by simp);simpa using h1
      have hll:(l.length:Int)<=100001:=by omega
      have htN:(t:Int)<=200000:=by omega
      replace hhd:=zH hhd;replace hcc:=zH hcc;replace hp:=zH hp;clear hC hjq hgd hlen9 hsr
      go_upto_region 13 with (fail)
      refine aF mixed (none) (0) (gp.none) [.eq (.slice (some ⟨g,0,none⟩) (m+n) (m+n)),.eq (.int .i64 k),.eq (.pointer (some ⟨g,0+k*1,none⟩)),.eq (.slice (some ⟨gb,0,none⟩) (m+n) (m+n)),.eq (.int .i64 t),.eq (.slice (some ⟨bl,ol,none⟩) l.length cl),.eq (.int .i64 l.length),.eq (.int .i64 ((t:Int)+l.length)),.eq (.int .i64 ((t:Int)+l.length-1)),.eq (.int .i64 j),.eq (.int .i64 p),.eq (.slice (some ⟨bl,ol,none⟩) l.length cl),.eq (.int .i64 j),.eq (.pointer (some ⟨bl,ol+j*1,none⟩)),.eq (vc),.eq (.pointer (some ⟨gb,0+p*1,none⟩))] [48,49,50,51,52,53,54,55,56,57,58,59,60,61,62,63] rfl rfl rfl rfl ⟨?_,?_,?_,?_,?_,?_,?_,?_,?_,?_,?_,?_,?_,?_,?_,?_,trivial⟩ ?_
      ·exact fun _ _ a _ _ _=>xM rfl (a 7 rfl)
      ·exact fun _ _ a _ _ _=>xM rfl (a 8 rfl)
      ·exact fun _ _ _ _ _ e=>pI rfl Tryz.underlying84 g 0 k (hkl) (e.1 rfl) (e.2.1 rfl)
      ·intro A w1 hA hL hS he;have h50:=eT 50 (he.1 rfl);refine ae rfl ?_;have c0:=hhd.out w1 hL.below;exact aC rfl rfl gZ
      ·exact fun _ _ a _ _ _=>xM rfl (a 10 rfl)
      ·exact fun _ _ a _ _ _=>xM rfl (a 9 rfl)
      ·intro A w1 hA hL hS he;have h53:=eT 53 (he.1 rfl);exact pZ rfl
      ·intro A w1 hA hL hS he;have h52:=eT 52 (he.1 rfl);have h54:=eT 54 (he.2.1 rfl);refine ae rfl (aC rfl rfl ?_);generalize A.eval=ev at *;go_simp;exact kG (by omega) (by omega)
      ·intro A w1 hA hL hS he;have h55:=eT 55 (he.1 rfl);have hc0:=eC A (.int .i64 1);refine ae rfl (aC rfl rfl ?_);generalize A.eval=ev at *;go_simp;exact kG (by omega) (by omega)
      ·exact fun _ _ a _ _ _=>xM rfl (a 11 rfl)
      ·intro A w1 hA hL hS he;have h56:=eT 56 (he.1 rfl);have h57:=eT 57 (he.2.1 rfl);refine ae rfl (aC rfl rfl ?_);generalize A.eval=ev at *;go_simp
       (first|exact kG (by omega) (by omega)|(rw [hpi];exact kG (by omega) (by omega)))
      ·exact fun _ _ a _ _ _=>xM rfl (a 9 rfl)
      ·exact fun _ _ a _ _ _=>xM rfl (a 11 rfl)
      ·exact fun _ _ _ _ _ e=>pI rfl Tryz.underlying75 bl ol j (hjl) (e.1 rfl) (e.2.1 rfl)
      ·intro A w1 hA hL hS he;have h61:=eT 61 (he.1 rfl);refine ae rfl ?_;have c0:=hcc.out w1 hL.below;exact aC rfl rfl gZ
      ·exact fun _ _ _ _ _ e=>pI rfl Tryz.underlying75 gb 0 p (hpN) (e.1 rfl) (e.2.1 rfl)
      ·intro W5 hL5;have hb5:=hL5.below;simp only [aU,af.eq,lZ];go_frame;have hM5:=hM0.on hb5;have hrk:=hM5.row k gb _ hbk (show ((List.range k).map (dJ a b (m+n))++[jq l t (m+n) j])[k]?=some (jq l t (m+n) j) by rw [List.getElem?_append_right (by simp),List.length_map,List.length_range,Nat.sub_self];rfl);obtain⟨vo,-,z5,f5,-⟩:=hrk.get hpN;obtain⟨hM6,hl6,hgb6⟩:=hM5.set hbk hpN (hvc.on hb5);have hMs:Hid (rR w.heap.size (W5.setCell ⟨gb,p,none⟩ vc) g (m+n) (bs++[gb]) ((List.range k).map (dJ a b (m+n))++[jq l t (m+n) (j+1)])):=zH (by rw [hsucc.out];exact hM6);have hb6:=(hbz.trans (hb5.mono hbz.size)).trans (bI (W:=W5) (g:=gb) (j:=p) hgb6 vc);clear hM5 hrk hM6 hl6 hM0 hM hl0 hhd hcc hL5 hsucc hvc;obtain⟨ac,cc,rfl,-⟩:=hvs;go_wp2;go_roundw
       case rel=>exact⟨j+1,by omega,by go_num,hMs,hb6⟩
       case measure=>simp [intOf];omega
     ·obtain rfl:j=l.length:=by omega
      have hM2:Hid (rR w.heap.size wr g (m+n) (bs++[gb]) ((List.range (k+1)).map (dJ a b (m+n)))):=zH (by
       rw [List.range_succ,List.map_append,List.map_cons,List.map_nil,hsr.out];exact hM.out)
      clear hM hl hsr;go_wp2;go_roundw
      case rel=>exact⟨k+1,bs++[gb],by omega,by go_num,by simp;omega,hM2,hbz⟩
      case measure=>simp [intOf];omega
  ·obtain rfl:k=m+n:=by omega
   go_wp2;go_ret;exact⟨g,bs,rfl,hM.out,hbr⟩
end Go.Proofs.YtopclbeomcggiaaGreat
end
section
namespace Q
open Go Go.RowKit Go.Proofs.YtopclbeomcggiaaGreat
def VV (D:Nat):Sz:=⟨D,2 ^ 200,1000,900⟩
def Xx (l:List ai):Bool :=
 decide (l.length<=900) && l.all (fun t=>decide (-1000<=t.1.1) && decide (t.1.1<=1000) && decide (-1000<=t.1.2.1) && decide (t.1.2.1<=1000) && decide (-1000<=t.1.2.2.1) && decide (t.1.2.2.1<=1000) && decide (-1000<=t.1.2.2.2) && decide (t.1.2.2.2<=1000)) && decide (ve l<=200) && decide (bD l<=((2 ^ 200:Nat):Rat))
theorem Kv {l:List ai} (h:Xx l=true):Bd (VV (ve l)) l/\ve l<=200:=by
 simp only [Xx,Bool.and_eq_true,decide_eq_true_eq,List.all_eq_true] at h;obtain⟨⟨⟨h1,h2⟩,h3⟩,h4⟩:=h;refine⟨⟨h1,fun t ht=>?_,fun t ht=>?_,h4⟩,h3⟩
 ·obtain⟨⟨⟨⟨⟨⟨⟨a1,a2⟩,a3⟩,a4⟩,a5⟩,a6⟩,a7⟩,a8⟩:=h2 t ht;exact⟨a1,a2,a3,a4,a5,a6,a7,a8⟩
 ·exact (FN t.2).dvd (IB ht)
def QK (l:List ai):Bool:=JU l && Xx l
theorem Vx:2 ^ 200<2 ^ 1000:=by decide +kernel
theorem WO:2 ^ 200*2 ^ 200<2 ^ 1000:=by decide +kernel
theorem QL {D:Nat} (h:0<D) (h':D<=200):(VV D).ok:=⟨h,by show D<65536;omega,Vx,by show 1000<1000000;omega,by show 900<1000000;omega⟩
theorem Tn {D D':Nat} (h:0<D) (h':D<=200) (k:0<D') (k':D'<=200):((VV D).mul (VV D')).ok:=by
 refine⟨Nat.mul_pos h k,?_,WO,by show 1000+1000<1000000;omega,by show 900*900<1000000;omega⟩;have:=Nat.mul_le_mul h' k';show D*D' < 65536;omega
theorem tF {l:List ai} (h:QK l=true):∃ D,0<D/\D<=200/\Pk (VV D) l:=by
 rw [QK,Bool.and_eq_true] at h;obtain⟨h1,h2⟩:=Kv h.2;exact⟨ve l,oK l,h2,sZ.1 h.1,h1,QL (oK l) h2⟩
theorem Tq {D:Nat} (h:0<D) (h':D<=200):((VV D).mul ⟨1,1,0,1⟩).ok:=by
 refine⟨Nat.mul_pos h Nat.one_pos,?_,?_,by show 1000+0<1000000;omega,by show 900*1<1000000;omega⟩
 ·show D*1<65536;omega
 ·show 2 ^ 200*1<2 ^ 1000;rw [Nat.mul_one];exact Vx
def Vy (c:Rat):Bool:=decide (c.den<65536) && decide (c.num.natAbs<4294967296)
theorem Tt {c:Rat} (h:Vy c=true):Rs c:=by
 simp only [Vy,Bool.and_eq_true,decide_eq_true_eq] at h;refine⟨h.1,?_⟩;have:=jH (n:=c.num.natAbs) (k:=32) (by omega);omega
end Q
namespace Go.Proofs.YtopclbeomcggiaaGreat
open Go.RowKit Q
section
variable {w:World} {v u:Value} {p q r:List ai}
theorem yY (e:lN p q=r) (h:QK p=true) (h':QK q=true) (hp:ak w v p) (hq:ak w u q):Calls Tryz.prog 39 #[v,u] w (aX w r):=by
 obtain⟨D,d1,d2,P⟩:=tF h;obtain⟨D',e1,e2,P'⟩:=tF h';exact e ▸ Mg P P' hp hq
theorem za (e:aQ p q=r) (h:QK p=true) (h':QK q=true) (hp:ak w v p) (hq:ak w u q):Calls Tryz.prog 12 #[v,u] w (aX w r):=by
 obtain⟨D,d1,d2,P⟩:=tF h;obtain⟨D',e1,e2,P'⟩:=tF h';exact e ▸ Ui P P' (Tn d1 d2 e1 e2) hp hq
theorem Mo (e:dK p q=r) (h:QK p=true) (h':QK q=true) (hp:ak w v p) (hq:ak w u q):Calls Tryz.prog 35 #[v,u] w (aX w r):=by
 obtain⟨D,d1,d2,P⟩:=tF h;obtain⟨D',e1,e2,P'⟩:=tF h';exact e ▸ Qw P P' (Tq e1 e2) hp hq
theorem zN {c:Rat} (e:bY p c=r) (h:QK p=true) (h':Vy c=true) (hp:ak w v p) (hc:bV w u c):Calls Tryz.prog 42 #[v,u] w (aX w r):=by
 obtain⟨D,d1,d2,P⟩:=tF h;exact e ▸ Qv P (Tt h') hp hc
theorem oM (h:QK p=true) (hp:ak w v p) (hq:ak w u p):Calls Tryz.prog 13 #[v,u] w (rO w (.bool true)):=by
 obtain⟨D,d1,d2,P⟩:=tF h;exact Ie P P rfl hp hq
theorem QM {g:List ai} (e:G8 p q=some g) (h:zw p=true) (h':zw q=true) (hp:ak w v p) (hq:ak w u q):Calls Tryz.prog 16 #[v,u] w (aX w g) :=
 (qK 6 p q g (jS h) (jS h') e).1 v u w hp hq
theorem WP {g:List ai} (e:kS p=some g) (h:zw p=true) (hp:ak w v p):Calls Tryz.prog 14 #[v] w (aX w g):=oL v p g w hp (jS h) e
theorem WQ {g:List ai} (e:mU G8 p 0=some g) (h:zw p=true) (hp:ak w v p):Calls Tryz.prog 18 #[v,.int .i64 0] w (aX w g):=lw (qK 6) v p g 0 w (by decide) hp (jS h) e
theorem WR {g:List ai} (e:lU G8 p 0=some g) (h:zw p=true) (hp:ak w v p):Calls Tryz.prog 20 #[v,.int .i64 0] w (aX w g):=ql (qK 6) v p g 0 w (by decide) hp (jS h) e
theorem WS {R:List (List ai × Nat)} (e:Ws G8 p 0=some R) (h:zw p=true) (hp:ak w v p):Calls Tryz.prog 29 #[v,.int .i64 0] w (QI w R):=BO (qK 6) v p R 0 w hp (jS h) (by decide) e
end
theorem jl (w:World):Calls Tryz.prog 40 #[] w (aX w [tm 1 1 0]):=by
 go_enter Tryz.func40,Tryz.ntmps40
 go_wp2_with (go_at_call 37;refine (H8 0 _ (by omega)).mono ?_;rintro e w3 ⟨v3,rfl,h3,hb3⟩)
 go_ret;exact⟨_,rfl,XF ▸ h3,hb3⟩
theorem qm (w:World):Calls Tryz.prog 41 #[] w (aX w [tm 1 0 1]):=by
 go_enter Tryz.func41,Tryz.ntmps41
 go_wp2_with (go_at_call 37;refine (H8 1 _ (by omega)).mono ?_;rintro e w3 ⟨v3,rfl,h3,hb3⟩)
 go_ret;exact⟨_,rfl,XG ▸ h3,hb3⟩
theorem fB (n:Int) (p:List ai) (w:World) (h1:-1000<=n) (h2:n<=1000) (hp:bX (n:Rat)=p) (hb:Xx [(e0,(n:Rat))]=true):Calls Tryz.prog 26 #[.int .i64 n] w (aX w p):=by
 have hc:=zH (fun W v (hv:bV W v (n:Rat))=>Bi v (n:Rat) _ W hv (Kv hb).1 (QL (oK _) (Kv hb).2));rw [hp] at hc
 go_enter Tryz.func26,Tryz.ntmps26
 go_wp2_with (first
  | (go_at_call 24;refine (jh n _ (by omega) (by omega)).mono ?_;rintro e w3 ⟨v3,rfl,h3,hb3⟩)
  | (go_at_call 72;refine (hc.out _ _ h3).mono ?_;rintro e w4 ⟨v4,rfl,h4,hb4⟩))
 go_ret;exact⟨_,rfl,h4,hb3.trans (hb4.mono hb3.size)⟩
theorem Kw (va vb:Value) (L:List (List ai × Nat)) (w:World) (ha:Ef w va L) (hb:Ef w vb L) (hw:∀ f∈L,QK f.1=true) (hn:L.length<=1000):Calls Tryz.prog 30 #[va,vb] w (rO w (.bool true)):=by
 obtain⟨aa,ca,rfl,-⟩:=ha.shape;obtain⟨ab,cb,rfl,-⟩:=hb.shape;replace ha:=zH ha;replace hb:=zH hb;replace hw:=zH hw
 go_enter Tryz.func30,Tryz.ntmps30
 go_wp2
 go_loopw [5] (fun i wr=>∃ k:Nat,k<=L.length/\i=.int .i64 k/\Below w.heap.size w wr) (fun i _=>L.length-(intOf i).toNat)
 case atStart=>exact⟨0,by omega,by go_num,Below.refl _ _⟩
 case round =>
  obtain⟨k,hk,rfl,hbr⟩:=hrel;by_cases hkl:k<L.length
  ·have hjq:L[k]?=some L[k]:=List.getElem?_eq_getElem hkl;have hwk:=hw.out _ (List.getElem_mem hkl);generalize L[k]=f at *;obtain⟨b1,o1,cs1,rfl,-,⟨v1,rfl,p1⟩,C1⟩:=(ha.out.on hbr).get hjq;obtain⟨b2,o2,UQ,rfl,-,⟨v2,rfl,p2⟩,C2⟩:=(hb.out.on hbr).get hjq;change bO _ wr b1 (o1+k*2) _ at C1;change bO _ wr b2 (o2+k*2) _ at C2;have kk:(k:Int)<(L.length:Int):=by omega
   have c10:∀ W,Below wr.heap.size wr W->W.cell? ⟨b1,o1+k*2,none⟩=some v1:=fun W hb=>(C1.on hb).cell 0 (by simp);have c11:∀ W,Below wr.heap.size wr W->W.cell? ⟨b1,o1+k*2+1,none⟩=some (.int .i64 (f.2:Int)):=fun W hb=>(C1.on hb).cell 1 (by simp);have c20:∀ W,Below wr.heap.size wr W->W.cell? ⟨b2,o2+k*2,none⟩=some v2:=fun W hb=>(C2.on hb).cell 0 (by simp);have c21:∀ W,Below wr.heap.size wr W->W.cell? ⟨b2,o2+k*2+1,none⟩=some (.int .i64 (f.2:Int)):=fun W hb=>(C2.on hb).cell 1 (by simp);generalize f.2=e at *;clear C1 C2 hjq
   go_upto_region 6 with (fail)
   refine aF mixed (none) (0) (gp.none) [.eq (.slice (some ⟨b1,o1,none⟩) L.length ca),.eq (.int .i64 k),.eq (.pointer (some ⟨b1,o1+k*2,none⟩)),.eq (.pointer (some ⟨b1,o1+k*2+1,none⟩)),.eq (.int .i64 e),.eq (.slice (some ⟨b2,o2,none⟩) L.length cb),.eq (.int .i64 k),.eq (.pointer (some ⟨b2,o2+k*2,none⟩)),.eq (.pointer (some ⟨b2,o2+k*2+1,none⟩)),.eq (.int .i64 e),.eq (.bool false),.eq (.bool false),.eq (.slice (some ⟨b1,o1,none⟩) L.length ca),.eq (.int .i64 k),.eq (.pointer (some ⟨b1,o1+k*2,none⟩)),.eq (.pointer (some ⟨b1,o1+k*2,none⟩)),.eq (v1),.eq (.slice (some ⟨b2,o2,none⟩) L.length cb),.eq (.int .i64 k),.eq (.pointer (some ⟨b2,o2+k*2,none⟩)),.eq (.pointer (some ⟨b2,o2+k*2,none⟩)),.eq (v2),.ret (.bool true),.eq (.bool false),.eq (.bool false)] [17,18,19,20,21,22,23,24,25,26,27,28,29,30,31,32,33,34,35,36,37,38,39,40,41] rfl rfl rfl rfl ⟨?_,?_,?_,?_,?_,?_,?_,?_,?_,?_,?_,?_,?_,?_,?_,?_,?_,?_,?_,?_,?_,?_,?_,?_,?_,trivial⟩ ?_
   ·exact fun _ _ a _ _ _=>xM rfl (a 0 rfl)
   ·exact fun _ _ a _ _ _=>xM rfl (a 5 rfl)
   ·exact fun _ _ _ _ _ e=>pI rfl Tryz.underlying50 b1 o1 k (hkl) (e.1 rfl) (e.2.1 rfl)
   ·intro A w1 hA hL hS he;have h19:=eT 19 (he.1 rfl);exact pZ rfl
   ·intro A w1 hA hL hS he;have h20:=eT 20 (he.1 rfl);refine ae rfl ?_;have c0:=c11 w1 hL.below;exact aC rfl rfl gZ
   ·exact fun _ _ a _ _ _=>xM rfl (a 1 rfl)
   ·exact fun _ _ a _ _ _=>xM rfl (a 5 rfl)
   ·exact fun _ _ _ _ _ e=>pI rfl Tryz.underlying50 b2 o2 k (hkl) (e.1 rfl) (e.2.1 rfl)
   ·intro A w1 hA hL hS he;have h24:=eT 24 (he.1 rfl);exact pZ rfl
   ·intro A w1 hA hL hS he;have h25:=eT 25 (he.1 rfl);refine ae rfl ?_;have c0:=c21 w1 hL.below;exact aC rfl rfl gZ
   ·intro A w1 hA hL hS he;have h21:=eT 21 (he.1 rfl);have h26:=eT 26 (he.2.1 rfl);exact pZ rfl
   ·exact fun _ _ _ _ _ e=>xM rfl (e.1 rfl)
   ·exact fun _ _ a _ _ e=>yM (e.1 rfl) rfl (a 0 rfl)
   ·exact fun _ _ a _ _ e=>yM (e.1 rfl) rfl (a 5 rfl)
   ·exact fun _ _ _ _ _ e=>aJ rfl rfl (e.2.2.1 rfl) (xI rfl Tryz.underlying50 b1 o1 k (hkl) (e.1 rfl) (e.2.1 rfl))
   ·intro A w1 hA hL hS he;have h28:=eT 28 (he.2.1 rfl);have h31:=eT 31 (he.1 rfl);exact yZ h28 rfl
   ·intro A w1 hA hL hS he;have h28:=eT 28 (he.2.1 rfl);have h32:=eT 32 (he.1 rfl);refine aJ rfl rfl h28 ?_;have c0:=c10 w1 hL.below;exact aC rfl rfl gZ
   ·exact fun _ _ a _ _ e=>yM (e.1 rfl) rfl (a 1 rfl)
   ·exact fun _ _ a _ _ e=>yM (e.1 rfl) rfl (a 5 rfl)
   ·exact fun _ _ _ _ _ e=>aJ rfl rfl (e.2.2.1 rfl) (xI rfl Tryz.underlying50 b2 o2 k (hkl) (e.1 rfl) (e.2.1 rfl))
   ·intro A w1 hA hL hS he;have h28:=eT 28 (he.2.1 rfl);have h36:=eT 36 (he.1 rfl);exact yZ h28 rfl
   ·intro A w1 hA hL hS he;have h28:=eT 28 (he.2.1 rfl);have h37:=eT 37 (he.1 rfl);refine aJ rfl rfl h28 ?_;have c0:=c20 w1 hL.below;exact aC rfl rfl gZ
   ·intro A w1 hA hL hS he;have hb:=hS rfl;have h28:=eT 28 (he.2.2.1 rfl);have h33:=eT 33 (he.1 rfl);have h38:=eT 38 (he.2.1 rfl);have hf0:=eF A 13;exact cY (f:=13) (args:=#[v1,v2]) h28 (oM hwk (p1.on hb) (p2.on hb))
   ·intro A w1 hA hL hS he;have h28:=eT 28 (he.2.1 rfl);have h39:=eT 39 (he.1 rfl);exact yZ h28 rfl
   ·intro A w1 hA hL hS he;have h28:=eT 28 (he.1 rfl);have h40:=eT 40 (he.2.1 rfl);have hc0:=eC A (.bool true);exact pZ rfl
   ·intro W5 hL5;have hb5:=hL5.below;simp only [aU,af.eq,af.ret,af.of,lZ];go_frame;clear hL5 c10 c11 c20 c21;go_wp2;go_roundw
    case rel=>exact⟨k+1,by omega,by go_num,hbr.trans (hb5.mono hbr.size)⟩
    case measure=>simp [intOf];omega
  ·obtain rfl:L.length=k:=by omega
   go_wp2;go_ret;exact⟨rfl,hbr⟩
end Go.Proofs.YtopclbeomcggiaaGreat
end
section
namespace Q
open Go Go.Proofs.YtopclbeomcggiaaGreat
abbrev uK:=Int × Int × Int × Int
def Ky (t:uK):Prop:=(-128<=t.1/\t.1<128)/\(-128<=t.2.1/\t.2.1<128)/\(-128<=t.2.2.1/\t.2.2.1<128)/\-128<=t.2.2.2/\t.2.2.2<128
def nk (t:uK):ai:=((t.1 % 256 % 3,t.2.1 % 256 % 3,t.2.2.1 % 256 % 2,0),((t.2.2.2.tmod 6:Int):Rat))
def yl (L:List uK):List ai:=(L.take 3).map nk
def FT (L:List uK):List ai:=canon (yl L)
def qo (t:uK):uK:=(t.1,t.2.1,0,t.2.2.2)
def fC (L:List uK):List ai:=FT ((L.take 3).map qo)
theorem Kz (c:Int):bH ((c.tmod 6:Int):Rat)<=((5:Nat):Rat):=by
 rw [rabs_int];have:(c.tmod 6).natAbs<6:=by rw [Int.natAbs_tmod];exact Nat.mod_lt _ (by decide)
 exact Rat.natCast_le_natCast.2 (by omega)
theorem BQ:∀ (L:List uK),bD (L.map nk)<=((5*L.length:Nat):Rat)
 | []=>by simp only [List.map_nil,bD,List.length_nil,Nat.mul_zero];exact Rat.natCast_nonneg
 | t::L=>by
  have h1:=BQ L;have h2:bH (nk t).2<=((5:Nat):Rat):=Kz _
  have h3:((5*(t::L).length:Nat):Rat)=((5:Nat):Rat)+((5*L.length:Nat):Rat):=by
   rw [<- Rat.natCast_add];congr 1;simp only [List.length_cons];omega
  rw [h3];simp only [List.map_cons,bD];grind
def Ul:Sz:=⟨1,15,2,3⟩
theorem BR (L:List uK):Bd Ul (yl L):=by
 have hl:(L.take 3).length<=3:=by rw [List.length_take];exact Nat.min_le_left _ _
 refine⟨by simpa [yl,Ul] using hl,fun t ht=>?_,fun t ht=>?_,Rat.le_trans (BQ _) (Rat.natCast_le_natCast.2 (by show 5*(L.take 3).length<=15;omega))⟩
 ·obtain⟨s,hs,rfl⟩:=List.mem_map.1 ht;simp only [nk,Ul];omega
 ·obtain⟨s,hs,rfl⟩:=List.mem_map.1 ht;refine⟨s.2.2.2.tmod 6,?_⟩;show ((s.2.2.2.tmod 6:Int):Rat)*((1:Nat):Rat)=_;rw [show ((1:Nat):Rat)=1 from rfl,Rat.mul_one]
theorem QN:Ul.ok:=by decide +kernel
theorem QO (L:List uK):Pk Ul (FT L):=⟨fD _,(BR L).canon,QN⟩
theorem uq (L:List uK):Pk Ul (fC L):=QO _
theorem Oi (L:List uK):∀ t∈fC L,(0<=t.1.1/\t.1.1<=2)/\(0<=t.1.2.1/\t.1.2.1<=2)/\t.1.2.2.1=0/\t.1.2.2.2=0 :=
 gL (P:=fun e=>(0<=e.1/\e.1<=2)/\(0<=e.2.1/\e.2.1<=2)/\e.2.2.1=0/\e.2.2.2=0) fun t ht=>by
  obtain⟨s,hs,rfl⟩:=List.mem_map.1 ht;obtain⟨r,hr,rfl⟩:=List.mem_map.1 (List.mem_of_mem_take hs);show (0<=r.1 % 256 % 3/\r.1 % 256 % 3<=2)/\(0<=r.2.1 % 256 % 3/\r.2.1 % 256 % 3<=2)/\(0:Int) % 256 % 2=0/\(0:Int)=0;omega
end Q
namespace Go.Proofs.YtopclbeomcggiaaGreat
open Go.RowKit Q
def oN (t:uK):List Value:=[.int .i8 t.1,.int .i8 t.2.1,.int .i8 t.2.2.1,.int .i8 t.2.2.2]
def Df (T:TypeId):El uK where
 T:=T
 sz:=4
 pos:=by decide
 E _ cs t:=cs=oN t/\Ky t
 len:=by rintro w c t ⟨rfl,h⟩;rfl
 one:=by
  rintro w c t ⟨rfl,h⟩ v hv;simp only [oN,List.mem_cons,List.not_mem_nil,or_false] at hv;rcases hv with rfl|rfl|rfl|rfl <;> rfl
 on:=fun h _=>h
 ok _:=True
 lr:=fun h _ _=>h
 self:=trivial
def tH (w:World) (v:Value) (l:List uK):Prop:=∃ T,bS (Df T) w v l
theorem tH.on {w w':World} {v:Value} {l:List uK} (h:tH w v l) (hb:Below w.heap.size w w'):tH w' v l:=let ⟨T,h⟩:=h;⟨T,h.on hb⟩
theorem tH.shape {w:World} {v:Value} {l:List uK} (h:tH w v l):∃ ao cap,v=.slice ao l.length cap/\l.length<=cap:=let ⟨_,h⟩:=h;h.shape
theorem tH.get {w:World} {ao:Option Addr} {n c j:Nat} {t:uK} {l:List uK} (h:tH w (.slice ao n c) l) (hj:l[j]?=some t):∃ T b off,ao=some ⟨b,off,none⟩/\Ky t/\bO T w b (off+j*4) (oN t):=by
 obtain⟨T,h⟩:=h;obtain⟨b,off,cs,e,-,⟨rfl,hok⟩,hC⟩:=h.get hj;exact⟨T,b,off,e,hok,hC⟩
end Go.Proofs.YtopclbeomcggiaaGreat
end
section
namespace Q
open MP
def iI (v t:Nat):Nat->MP->MP
 | 0,p=>p
 | w+1,p=>if w=v then iI v t w p else at' w ((t+w:Nat):Rat) (iI v t w p)
theorem wR (v t:Nat):∀ (w:Nat) (p q:MP),iI v t w (p*q)=iI v t w p*iI v t w q
 | 0,_,_=>rfl
 | w+1,p,q=>by
  simp only [iI];split
  ·exact wR v t w p q
  ·rw [wR v t w p q,BF]
theorem wS (v t:Nat) {D:Nat}:∀ (w:Nat) {p:MP},p.dv D->(iI v t w p).dv D
 | 0,_,h=>h
 | w+1,p,h=>by
  simp only [iI];split
  ·exact wS v t w h
  ·rw [<- Rat.intCast_natCast];exact Qd (wS v t w h) w _
theorem tJ (v t:Nat) (hv:v<4):∀ (w:Nat),w<=4->∀ {p:MP} {u d:Nat},u<4->p.deg u<=d->(iI v t w p).deg u<=d
 | 0,_,_,_,_,_,h=>h
 | w+1,hw,p,u,d,hu,h=>by
  simp only [iI];split
  ·exact tJ v t hv w (by omega) hu h
  ·exact FK _ _ (by omega) hu (tJ v t hv w (by omega) hu h)
def Eh (v t:Nat) (e:Ex):Nat->Nat
 | 0=>1
 | w+1=>if w=v then Eh v t e w else Eh v t e w*(t+w) ^ (e.get w).toNat
def RQ (v:Nat) (e:Ex):Nat->Ex
 | 0=>e
 | w+1=>if w=v then RQ v e w else (RQ v e w).put w 0
theorem zO (v:Nat) (hv:v<4) (e:Ex):∀ w,w<=4->∀ u,u<4->(RQ v e w).get u=if u<w/\u≠v then 0 else e.get u
 | 0,_,u,_=>by simp [RQ]
 | w+1,hw,u,hu=>by
  have ih:=zO v hv e w (by omega) u hu;simp only [RQ];split
  ·rename_i h;rw [ih];by_cases h1:u<w/\u≠v
   ·rw [if_pos h1,if_pos ⟨by omega,h1.2⟩]
   ·rw [if_neg h1,if_neg (by omega)]
  ·rename_i h;by_cases h1:w=u
   ·subst h1;rw [Ex.get_put,if_pos ⟨by omega,h⟩]
   ·rw [Ex.get_put_ne _ (by omega) hu h1,ih];by_cases h2:u<w/\u≠v
    ·rw [if_pos h2,if_pos ⟨by omega,h2.2⟩]
    ·rw [if_neg h2,if_neg (by omega)]
theorem WT (f:Ex->Rat) (w:Nat) (r:Rat) (p:MP):Lf f (at' w r p).l=Lf (fun e=>r ^ (e.get w).toNat * f (e.put w 0)) p.l:=by
 have h:dh (evalL p.l w r):=dh.evalL p.v.nat w r;show Lf f (canon (evalL p.l w r))=_;rw [iN h f];exact xE _ _ _ _ fun t _=>by show t.2*r ^ _*f (t.1.put w 0)=_;grind
theorem Mq (v t:Nat) (hv:v<4) (p:MP):∀ (w:Nat),w<=4->∀ f:Ex->Rat,Lf f (iI v t w p).l=Lf (fun e=>(Eh v t e w:Rat)*f (RQ v e w)) p.l
 | 0,_,f=>gK fun s _=>by
  show f s.1=((1:Nat):Rat)*f s.1;have e:((1:Nat):Rat)=1:=rfl;rw [e];grind
 | w+1,hw,f=>by
  have ih:=Mq v t hv p w (by omega);by_cases h:w=v
  ·simp only [iI,Eh,RQ,if_pos h];exact ih f
  ·simp only [iI,Eh,RQ,if_neg h];rw [WT,ih];refine gK fun s _=>?_;have e:(RQ v s.1 w).get w=s.1.get w:=by rw [zO v hv s.1 w (by omega) w (by omega),if_neg (by omega)]
   rw [e,Rat.natCast_mul,Rat.natCast_pow];grind
theorem Tu (v t:Nat) (hv:v<4) (p:MP) (i:Nat):cf (iI v t 4 p).l (e0.put v i)=Lf (fun e=>if e.get v=i then (Eh v t e 4:Rat) else 0) p.l:=by
 show Lf _ _=_;rw [Mq v t hv p 4 (Nat.le_refl _)];refine gK fun s _=>?_
 have e:(RQ v s.1 4=e0.put v i)↔s.1.get v=(i:Int):=by
  constructor
  ·intro h;have:=congrArg (Ex.get · v) h;simp only [zO v hv s.1 4 (Nat.le_refl _) v hv,Ex.get_put] at this;rw [if_neg (by omega)] at this;exact this
  ·intro h;refine Ex.ext4 fun u hu=>?_;rw [zO v hv s.1 4 (Nat.le_refl _) u hu];by_cases hc:v=u
   ·subst hc;rw [if_neg (by omega),Ex.get_put,h]
   ·rw [if_pos ⟨hu,Ne.symm hc⟩,Ex.get_put_ne _ hv hu hc,AL]
 by_cases hc:s.1.get v=(i:Int)
 ·rw [if_pos hc,if_pos (e.2 hc)];grind
 ·rw [if_neg hc,if_neg fun h=>hc (e.1 h)];grind
def Cg (a b:Int):Prop:=∃ k:Int,a=b+2147483647*k
theorem Cg.refl (a:Int):Cg a a:=⟨0,by omega⟩
theorem Cg.symm {a b:Int} (h:Cg a b):Cg b a:=by obtain⟨k,h⟩:=h;exact⟨-k,by omega⟩
theorem Cg.trans {a b c:Int} (h:Cg a b) (h':Cg b c):Cg a c:=by obtain⟨k,h⟩:=h;obtain⟨l,h'⟩:=h';exact⟨k+l,by omega⟩
theorem Cg.add {a b c d:Int} (h:Cg a b) (h':Cg c d):Cg (a+c) (b+d):=by obtain⟨k,h⟩:=h;obtain⟨l,h'⟩:=h';exact⟨k+l,by omega⟩
theorem Cg.mul {a b c d:Int} (h:Cg a b) (h':Cg c d):Cg (a*c) (b*d):=by
 obtain⟨k,rfl⟩:=h;obtain⟨l,rfl⟩:=h';exact⟨b*l+k*d+2147483647*k*l,by grind⟩
theorem Cg.mod (a:Nat):Cg ((a % pr:Nat):Int) a:=⟨-((a / pr:Nat):Int),by have:=Nat.div_add_mod a pr;rw [lL] at *;omega⟩
theorem Cg.zero {a:Int} (h:Cg a 0):(2147483647:Int)∣a:=by obtain⟨k,h⟩:=h;exact⟨k,by omega⟩
theorem Cg.cancel {a b d:Int} (hd:¬ (2147483647:Int)∣d) (h:Cg (a*d) (b*d)):Cg a b:=by
 obtain⟨k,h⟩:=h;have h2:((pr:Nat):Int)∣(a - b)*d:=⟨k,by rw [lL];grind⟩;rcases zM BJ h2 with h3|h3
 ·obtain⟨l,h3⟩:=h3;exact⟨l,by rw [lL] at h3;omega⟩
 ·rw [lL] at h3;exact absurd h3 hd
theorem wT (z:Int):Cg (fH z) z:=by
 unfold fH;split
 ·exact⟨(z.natAbs / 2147483647:Nat)+1,by have:=Nat.div_add_mod z.natAbs 2147483647;omega⟩
 ·rename_i h;by_cases hz:z<0
  ·exact⟨(z.natAbs / 2147483647:Nat),by have:=Nat.div_add_mod z.natAbs 2147483647;omega⟩
  ·exact⟨-((z.natAbs / 2147483647:Nat):Int),by have:=Nat.div_add_mod z.natAbs 2147483647;omega⟩
theorem Tv (a:Nat) {n:Nat} (h:n<18446744073709551616):Cg (lC a n) ((a ^ n:Nat):Int):=by rw [Me a h];exact Cg.mod _
theorem Mr {m:ai} {v t:Nat} (hn:m.1.nat=true) (he:∀ w,m.1.get w<18446744073709551616):∀ w:Nat,Cg (yc m v t w) ((fH m.2.num*lC (fH m.2.den) (pr-2):Nat)*(Eh v t m.1 w:Nat):Int)
 | 0=>by
  rw [yc,Eh];have:=Cg.mod (fH m.2.num*lC (fH m.2.den) (pr-2));have e:∀ x:Int,x*((1:Nat):Int)=x:=fun x=>by omega
  rw [e];exact this
 | w+1=>by
  rw [yc,Eh];have ih:=Mr (v:=v) (t:=t) hn he w;split
  ·exact ih
  ·have h2:=Tv (t+w) (n:=(m.1.get w).toNat) (by have:=he w;omega);have h1:=(Cg.mod (yc m v t w*lC (t+w) (m.1.get w).toNat)).trans (by rw [Int.natCast_mul];exact ih.mul h2);rw [Int.natCast_mul (Eh v t m.1 w),<- Int.mul_assoc];exact h1
theorem Tw {m:ai} {v t:Nat} (hn:m.1.nat=true) (he:∀ w,m.1.get w<18446744073709551616) (hd:fH m.2.den≠0):Cg (Oa m v t*m.2.den) (m.2.num*(Eh v t m.1 4:Nat)):=by
 have h1:=Mr (v:=v) (t:=t) hn he 4;have h2:=wT m.2.num;have h3:=wT (m.2.den:Int);have hlt:fH (m.2.den:Int)<pr:=tq _;have h4:=J8 (x:=fH (m.2.den:Int)) (by omega) hlt;have h5:=Cg.mod (lC (fH m.2.den) (pr-2)*fH m.2.den);rw [h4] at h5
 have h6:Cg ((lC (fH m.2.den) (pr-2):Nat)*(m.2.den:Int)) 1:=by
  have:=(Cg.refl ((lC (fH m.2.den) (pr-2):Nat):Int)).mul h3;refine (this.symm.trans ?_);rw [<- Int.natCast_mul];exact h5.symm
 have h7:=h1.mul (Cg.refl (m.2.den:Int));refine h7.trans ?_;have h8:=(h2.mul h6).mul (Cg.refl (Eh v t m.1 4:Int));rw [Int.mul_one] at h8;rw [Int.natCast_mul];have e:(fH m.2.num:Int)*(lC (fH m.2.den) (pr-2):Nat)*(Eh v t m.1 4:Nat)*m.2.den=(fH m.2.num:Int)*((lC (fH m.2.den) (pr-2):Nat)*(m.2.den:Int))*(Eh v t m.1 4:Nat):=by grind
 rw [e];exact h8
def cS (N v t i:Nat):List ai->Int
 | []=>0
 | m::l=>(if m.1.get v=(i:Int) then (m.2*(N:Rat)).num*(Eh v t m.1 4:Nat) else 0)+cS N v t i l
theorem Um {N v t i:Nat}:∀ {l:List ai},(∀ m∈l,Dv N m.2)->(N:Rat)*Lf (fun e=>if e.get v=i then (Eh v t e 4:Rat) else 0) l=(cS N v t i l:Rat)
 | [],_=>by show (N:Rat)*0=((0:Int):Rat);rw [Rat.mul_zero];rfl
 | m::l,h=>by
  have ih:=Um (i:=i) (v:=v) (t:=t) (l:=l) fun s hs=>h s (by simp [hs]);obtain⟨k,hk⟩:=h m (by simp);rw [nG,cS,Rat.intCast_add,<- ih,hk];split
  ·rw [Rat.intCast_mul,Rat.intCast_natCast];have:((k:Rat)).num=k:=rfl;rw [this,<- hk];grind
  ·rw [Rat.intCast_zero];grind
theorem IR {N v t:Nat} (hv:v<4):∀ {l:List ai} {out x:List Nat},kT v t l out=some x->dh l->(∀ m∈l,∀ w,m.1.get w<18446744073709551616)->(∀ m∈l,Dv N m.2)->(∀ m∈l,(m.1.get v).toNat<out.length) ->
  x.length=out.length/\∀ i,i<out.length->Cg ((N:Int)*x.getD i 0) ((N:Int)*out.getD i 0+cS N v t i l)
 | [],out,x,h,_,_,_,_=>by
  simp only [kT,Option.some.injEq] at h;subst h;exact⟨rfl,fun i _=>by rw [cS,Int.add_zero];exact Cg.refl _⟩
 | m::l,out,x,h,hn,he,hd,hk=>by
  rw [kT] at h;split at h
  ·cases h
  ·rename_i hres;have hm:=hn m (by simp);obtain⟨h1,h2⟩:=IR hv h (fun s hs=>hn s (by simp [hs])) (fun s hs=>he s (by simp [hs])) (fun s hs=>hd s (by simp [hs])) (fun s hs=>by rw [List.length_set];exact hk s (by simp [hs]));rw [List.length_set] at h1 h2;refine⟨h1,fun i hi=>(h2 i hi).trans ?_⟩;rw [cS,<- Int.add_assoc];refine Cg.add ?_ (Cg.refl _);have hk0:=hk m (by simp);have hg0:=Ex.nat_get hm v;by_cases hc:m.1.get v=(i:Int)
   ·have e:(m.1.get v).toNat=i:=by omega
    rw [if_pos hc,e,List.getD_eq_getElem?_getD,List.getElem?_set_self (by omega),Option.getD_some];have h3:=Cg.mod (out.getD i 0+Oa m v t);rw [Int.natCast_add] at h3;have h4:=(Cg.refl (N:Int)).mul h3;refine h4.trans ?_;rw [Int.mul_add];refine (Cg.refl _).add ?_;have h5:=Tw (v:=v) (t:=t) hm (he m (by simp)) hres;obtain⟨z,hz⟩:=hd m (by simp);rw [hz];show Cg _ (z*_)
    have hden:¬ (2147483647:Int)∣m.2.den:=fun hdv=>hres (by
     have:=wT (m.2.den:Int);have h6:=tq (m.2.den:Int);obtain⟨a,ha⟩:=hdv;obtain⟨b,hb⟩:=this
     omega)
    refine Cg.cancel hden ?_
    have h7:z*m.2.den=N*m.2.num:=by
     have h8:m.2*(m.2.den:Rat)=m.2.num:=by
      have h1:(m.2.den:Rat)≠0:=jk m.2.den_pos;have h2:=Rat.num_divInt_den m.2;rw [Rat.divInt_eq_div,Rat.intCast_natCast] at h2;have h3:(m.2.num:Rat) / (m.2.den:Rat)*(m.2.den:Rat)=m.2.num:=Rat.div_mul_cancel h1;rwa [h2] at h3
     have h9:((z*m.2.den:Int):Rat)=((N*m.2.num:Int):Rat):=by
      rw [Rat.intCast_mul,Rat.intCast_mul,<- hz,<- h8,Rat.intCast_natCast,Rat.intCast_natCast];grind
     exact Rat.intCast_inj.1 h9
    have h10:=(Cg.refl (N:Int)).mul h5;have e1:(N:Int)*Oa m v t*m.2.den=N*(Oa m v t*m.2.den):=by grind
    have e2:z*(Eh v t m.1 4:Nat)*m.2.den=N*(m.2.num*(Eh v t m.1 4:Nat)):=by
     have:z*(Eh v t m.1 4:Nat)*m.2.den=(z*m.2.den)*(Eh v t m.1 4:Nat):=by grind
     rw [this,h7];grind
    rw [e1,e2];exact h10
   ·have e:(m.1.get v).toNat≠i:=by omega
    rw [if_neg hc,Int.add_zero,List.getD_eq_getElem?_getD,List.getElem?_set_ne e,<- List.getD_eq_getElem?_getD];exact Cg.refl _
theorem BS (n i:Nat):(List.replicate n 0).getD i 0=0:=by
 rw [List.getD_eq_getElem?_getD];rcases Nat.lt_or_ge i n with h|h
 ·rw [List.getElem?_replicate,if_pos h];rfl
 ·rw [List.getElem?_eq_none (by simpa using h)];rfl
def pU (v:Nat) (l:List Nat):MP:=bZ (fun i=>c ((l.getD i 0:Nat):Rat)*xk v i) l.length
theorem mX (v:Nat) (l:List Nat) (i:Nat):(pU v l).co v i=c ((l.getD i 0:Nat):Rat):=by
 rw [pU,rC];rcases Nat.lt_or_ge i l.length with h|h
 ·rw [oC _ h fun j _ hj=>by rw [co_mul_fr (nN _ _),fe,if_neg (Ne.symm hj)];grind];rw [co_mul_fr (nN _ _),fe,if_pos rfl];grind
 ·rw [dF (g:=fun _=>0) fun j hj=>by rw [co_mul_fr (nN _ _),fe,if_neg (by omega)];grind,mD];rw [List.getD_eq_getElem?_getD,List.getElem?_eq_none h];rfl
theorem Oj (v:Nat) (l:List Nat):(pU v l).deg v<=(l.length:Int)-1:=by
 refine deg_le_of (by omega) fun n hn=>?_;rw [mX,List.getD_eq_getElem?_getD,List.getElem?_eq_none (by omega)];rfl
theorem KA (v:Nat) {p q:MP} (h:∀ i,p.co v i=q.co v i):p=q:=by
 obtain⟨N,hN⟩:∃ N,N=(max (p.deg v) (q.deg v)).toNat+1:=⟨_,rfl⟩;rw [split v p (N:=N) (by omega),split v q (N:=N) (by omega)];exact dF fun i _=>by rw [h i]
def Tx (v:Nat) (F:MP) (l:List Nat):Prop:=∃ E R:MP,E.dv 1/\R.dv 1/\pU v l=F*E+c (pr:Rat)*R
theorem QP (n:Nat):(c (n:Rat)).dv 1:=by rw [<- Rat.intCast_natCast];exact uZ 1 _
theorem Ms (v k:Nat):(xk v k).dv 1:=fun t ht=>by rw [List.mem_singleton.1 ht];exact Dv.int 1 1
theorem QQ (v:Nat) (l:List Nat):(pU v l).dv 1:=wH fun i _=>iL (QP _) (Ms v i)
theorem QR (l:List Nat) (k y i:Nat) (hk:k<l.length):(l.set k y).getD i 0=if i=k then y else l.getD i 0:=by
 rw [List.getD_eq_getElem?_getD];by_cases h:i=k
 ·subst h;rw [if_pos rfl,List.getElem?_set_self hk];rfl
 ·rw [if_neg h,List.getElem?_set_ne (Ne.symm h),List.getD_eq_getElem?_getD]
theorem Un (r s:Rat):c (r+s)=c r+c s:=ext' fun x=>by rw [MP.ev_add,ev_c,ev_c,ev_c]
theorem ym:∀ (l:List Nat) (i:Nat),(strip l).getD i 0=l.getD i 0
 | [],_=>rfl
 | x::l,i=>by
  have ih:=ym l;rw [strip];split
  ·rename_i h;rw [h] at ih;have hz:∀ j,l.getD j 0=0:=fun j=>by rw [<- ih j];rfl
   split
   ·rename_i hx
    cases i with
    | zero=>rw [hx];rfl
    | succ i=>have:=hz i;simpa using this.symm
   ·cases i with
    | zero=>rfl
    | succ i=>have:=hz i;simpa using this.symm
  ·rename_i y r h;rw [<- h]
   cases i with
   | zero=>rfl
   | succ i=>have:=ih i;simpa using this
theorem IU (v:Nat) (l:List Nat):pU v (strip l)=pU v l:=KA v fun i=>by rw [mX,mX,ym]
def Tp (l:List Nat):Prop:=l≠[]->l.getD (l.length-1) 0≠0
theorem wU:∀ l:List Nat,Tp (strip l)
 | []=>fun h=>absurd rfl h
 | x::l=>by
  have ih:=wU l;rw [strip];split
  ·split
   ·exact fun h=>absurd rfl h
   ·rename_i hx;exact fun _=>hx
  ·rename_i y r h;rw [h] at ih;intro _;have:=ih (by simp);simpa using this
theorem Ei:∀ l:List Nat,(strip l).length<=l.length
 | []=>Nat.le_refl _
 | x::l=>by
  have ih:=Ei l;rw [strip];split
  ·split <;> simp
  ·rename_i y r h;rw [h] at ih;simpa using ih
theorem QS {l:List Nat} (h0:l≠[]) (h:l.getD (l.length-1) 0=0):(strip l).length<l.length:=by
 have h1:=Ei l;rcases Nat.eq_or_lt_of_le h1 with e|hlt
 ·exfalso;have hne:strip l≠[]:=fun h'=>by rw [h'] at e;have:=List.length_eq_zero_iff.1 e.symm;exact h0 this
  have h2:=wU l hne;rw [ym,e] at h2;exact h2 h
 ·exact hlt
theorem yn {l:List Nat} (h:∀ x∈l,x<pr):∀ x∈strip l,x<pr:=by
 induction l with
 | nil=>exact h
 | cons x l ih =>
  have ih:=ih fun y hy=>h y (by simp [hy]);rw [strip];split
  ·split
   ·intro _ hy;cases hy
   ·intro y hy;rw [List.mem_singleton.1 hy];exact h x (by simp)
  ·rename_i z r e;rw [e] at ih;intro y hy;rcases List.mem_cons.1 hy with rfl|hy
   ·exact h _ (by simp)
   ·exact ih y hy
theorem qM (b rest:List Nat) (f at_:Nat):∀ i,(gT b rest f at_ i).length=rest.length
 | 0=>rfl
 | i+1=>by rw [gT,List.length_set,qM b rest f at_ i]
theorem ut {b rest:List Nat} {f at_:Nat} (h:∀ x∈rest,x<pr):∀ i,∀ x∈gT b rest f at_ i,x<pr
 | 0=>h
 | i+1=>fun x hx=>by
  rw [gT] at hx;rcases List.mem_or_eq_of_mem_set hx with hx|rfl
  ·exact ut h i x hx
  ·exact Nat.mod_lt _ (by decide)
theorem yo {b rest:List Nat} {f at_:Nat}:∀ (i:Nat),at_+i<=rest.length->∀ j,(gT b rest f at_ i).getD j 0=if at_<=j/\j<at_+i then (rest.getD j 0+(pr-b.getD (j-at_) 0)*f) % pr else rest.getD j 0
 | 0,_,j=>by rw [gT,if_neg (by omega)]
 | i+1,h,j=>by
  have ih:=yo (b:=b) (rest:=rest) (f:=f) (at_:=at_) i (by omega);rw [gT,QR _ _ _ _ (by rw [qM];omega),ih j,ih (at_+i)];by_cases hj:j=at_+i
  ·subst hj;rw [if_pos rfl,if_neg (by omega),if_pos (by omega),show at_+i-at_=i by omega]
  ·rw [if_neg hj];by_cases h2:at_<=j/\j<at_+i
   ·rw [if_pos h2,if_pos (by omega)]
   ·rw [if_neg h2,if_neg (by omega)]
theorem Tx.red {v:Nat} {F:MP} {b rest:List Nat} (hr:Tx v F rest) (hb:Tx v F b) (hbl:∀ x∈b,x<pr) (f:Nat) {at_:Nat} (h:at_+b.length=rest.length):Tx v F (gT b rest f at_ b.length):=by
 obtain⟨E,R,iE,iR,e⟩:=hr;obtain⟨E',R',iE',iR',e'⟩:=hb
 have key:∃ K:MP,K.dv 1/\pU v (gT b rest f at_ b.length)=pU v rest-c (f:Rat)*(xk v at_*pU v b)+c (pr:Rat)*K:=by
  have hq:∀ j,∃ k:Int,((gT b rest f at_ b.length).getD j 0:Int)=(rest.getD j 0:Int)-(if at_<=j then (f:Int)*(b.getD (j-at_) 0:Nat) else 0)+2147483647*k:=fun j=>by
   rw [yo b.length (by omega)];by_cases h1:at_<=j/\j<at_+b.length
   ·rw [if_pos h1,if_pos h1.1]
    have hlt:b.getD (j-at_) 0<pr:=by
     rw [List.getD_eq_getElem?_getD,List.getElem?_eq_getElem (by omega:j-at_<b.length)];exact hbl _ (List.getElem_mem _)
    obtain⟨y,hy⟩:∃ y,y=b.getD (j - at_) 0:=⟨_,rfl⟩;rw [<- hy] at hlt ⊢;obtain⟨k,hk⟩:=Cg.mod (rest.getD j 0+(pr - y)*f);refine⟨k+f,?_⟩;rw [hk,Int.natCast_add,Int.natCast_mul,Int.ofNat_sub (by omega),lL];grind
   ·rw [if_neg h1];refine⟨0,?_⟩;by_cases h2:at_<=j
    ·rw [if_pos h2,List.getD_eq_getElem?_getD (l:=b),List.getElem?_eq_none (by omega)];simp
    ·rw [if_neg h2];omega
  have ⟨k,hk⟩:∃ k:Nat->Int,∀ j,((gT b rest f at_ b.length).getD j 0:Int)=(rest.getD j 0:Int)-(if at_<=j then (f:Int)*(b.getD (j-at_) 0:Nat) else 0)+2147483647*k j :=
   ⟨fun j=>(((gT b rest f at_ b.length).getD j 0:Int)-((rest.getD j 0:Int)-(if at_<=j then (f:Int)*(b.getD (j-at_) 0:Nat) else 0))) / 2147483647,fun j=>by
    obtain⟨k,hk⟩:=hq j
    simp only [hk];omega⟩
  refine⟨bZ (fun i=>c (k i:Rat)*xk v i) rest.length,wH fun i _=>iL (uZ 1 _) (Ms v i),KA v fun j=>?_⟩
  have hK:(bZ (fun i=>c (k i:Rat)*xk v i) rest.length).co v j=if j<rest.length then c (k j:Rat) else 0:=by
   rw [rC];split
   ·rename_i hj;rw [oC _ hj fun i _ hi=>by rw [co_mul_fr (nN _ _),fe,if_neg (Ne.symm hi)];grind];rw [co_mul_fr (nN _ _),fe,if_pos rfl];grind
   ·rename_i hj;rw [dF (g:=fun _=>0) fun i hi=>by rw [co_mul_fr (nN _ _),fe,if_neg (by omega)];grind,mD]
  rw [co_add,co_sub,co_mul_fr (nN _ _),co_xk,co_mul_fr (nN _ _),hK,mX,mX,mX];have h1:=hk j
  have h2:(((gT b rest f at_ b.length).getD j 0:Nat):Rat)=(rest.getD j 0:Nat)-(if at_<=j then (f:Rat)*(b.getD (j-at_) 0:Nat) else 0)+(pr:Rat)*(k j:Rat):=by
   have h3:=congrArg (fun z:Int=>(z:Rat)) h1;simp only [Rat.intCast_add,Rat.intCast_sub,Rat.intCast_mul,Rat.intCast_natCast] at h3;rw [h3,lL];by_cases hc:at_<=j
   ·rw [if_pos hc,if_pos hc,Rat.intCast_mul,Rat.intCast_natCast,Rat.intCast_natCast];rfl
   ·rw [if_neg hc,if_neg hc];rfl
  rw [h2]
  have hk0:¬ j<rest.length->(k j:Rat)=0:=fun hj=>by
   have z1:(gT b rest f at_ b.length).getD j 0=0:=by rw [List.getD_eq_getElem?_getD,List.getElem?_eq_none (by rw [qM];omega)];rfl
   have z2:rest.getD j 0=0:=by rw [List.getD_eq_getElem?_getD,List.getElem?_eq_none (by omega)];rfl
   have z3:b.getD (j-at_) 0=0:=by rw [List.getD_eq_getElem?_getD,List.getElem?_eq_none (by omega)];rfl
   rw [z1,z2,z3] at h1;have:k j=0:=by split at h1 <;> omega
   rw [this];rfl
  refine ext' fun x=>?_;by_cases hj:j<rest.length
  ·rw [if_pos hj];by_cases hc:at_<=j
   ·rw [if_pos hc,if_pos hc];simp only [MP.ev_add,MP.ev_sub,MP.ev_mul,ev_c]
   ·rw [if_neg hc,if_neg hc];simp only [MP.ev_add,MP.ev_sub,MP.ev_mul,ev_c,ev_zero];grind
  ·rw [if_neg hj,hk0 hj];by_cases hc:at_<=j
   ·rw [if_pos hc,if_pos hc];simp only [MP.ev_add,MP.ev_sub,MP.ev_mul,ev_c,ev_zero]
   ·rw [if_neg hc,if_neg hc];simp only [MP.ev_add,MP.ev_sub,MP.ev_mul,ev_c,ev_zero];grind
 obtain⟨K,iK,eK⟩:=key;have i1:(c (f:Rat)*xk v at_).dv 1:=iL (QP f) (Ms v at_);refine⟨E - c (f:Rat)*xk v at_*E',R - c (f:Rat)*xk v at_*R'+K,Bw iE (iL i1 iE'),Bt (Bw iR (iL i1 iR')) iK,?_⟩;rw [eK,e,e'];grind
theorem Tx.strip {v:Nat} {F:MP} {l:List Nat} (h:Tx v F l):Tx v F (strip l):=by
 obtain⟨E,R,iE,iR,e⟩:=h;exact⟨E,R,iE,iR,by rw [IU,e]⟩
structure Gd (v:Nat) (F:MP) (l:List Nat):Prop where
 d:Tx v F l
 t:Tp l
 m:∀ x∈l,x<pr
theorem Gd.rest {v:Nat} {F:MP} {b:List Nat} (hb:Gd v F b) (inv:Nat):∀ {n:Nat} {r x:List Nat},qI b inv n r=some x->Gd v F r->Gd v F x
 | 0,_,_,h,_=>by cases h
 | n+1,r,x,h,hr=>by
  rw [qI] at h;split at h
  ·rename_i nz;exact Gd.rest hb inv h ⟨(hr.d.red hb.d hb.m _ (by omega)).strip,wU _,yn (ut hr.m _)⟩
  ·simp only [Option.some.injEq] at h;subst h;exact hr
theorem Gd.share {v:Nat} {F:MP}:∀ {n:Nat} {a b:List Nat} {k:Nat},lW n a b=some k->Gd v F a->Gd v F b->a≠[]->∃ l,Gd v F l/\l≠[]/\l.length=k
 | 0,_,_,_,h,_,_,_=>by cases h
 | n+1,a,b,k,h,ha,hb,hne=>by
  rw [lW] at h;split at h
  ·simp only [Option.some.injEq] at h;exact⟨a,ha,hne,h⟩
  ·rename_i hb0;split at h
   ·cases h
   ·rename_i r hr;exact Gd.share h hb (hb.rest _ hr ha) hb0
theorem Gd.len {v:Nat} {F:MP} {l:List Nat} (h:Gd v F l) (hne:l≠[]) (iF:F.dv 1) (hF:¬ BD pr (F.lc v)):F.deg v<=(l.length:Int)-1:=by
 obtain⟨E,R,iE,iR,e⟩:=h.d;have hp0:0<pr:=by decide
 rcases Int.lt_or_le ((l.length:Int) - 1) (F.deg v) with hlt|nz
 ·exfalso;have eE:=FI (C8 pr) E;obtain⟨X,iX,eX⟩:=FJ hp0 iE;obtain⟨E2,hE2⟩:∃ g,g=RN (fun t=>!C8 pr t) E:=⟨_,rfl⟩;have iE2:E2.dv 1:=by rw [hE2];exact J4 iE
  rw [<- hE2,eX] at eE;have e2:pU v l=F*E2+c (pr:Rat)*(F*X+R):=by rw [e,eE];grind
  have iR2:(F*X+R).dv 1:=Bt (iL iF iX) iR;have hF0:F≠0:=fun h0=>hF (by rw [h0];exact tu pr);by_cases hz:E2=0
  ·have h1:=congrArg (fun g=>cf (MP.co v (l.length-1) g).l e0) e2;simp only [mX,hz] at h1;have e3:F*0+c (pr:Rat)*(F*X+R)=c (pr:Rat)*(F*X+R):=by grind
   rw [e3,co_mul_fr (nN _ _),pM] at h1
   have i3:((F*X+R).co v (l.length-1)).dv 1:=fun t ht=>by
    have ht:t∈((F*X+R).l.filter fun u=>u.1.get v=((l.length - 1:Nat):Int)).map fun u=>(u.1.put v 0,u.2):=ht;obtain⟨u,hu,rfl⟩:=List.mem_map.1 ht;exact iR2 u (List.mem_filter.1 hu).1
   obtain⟨z,hz⟩:=gH (DZ i3 e0);rw [hz] at h1;have ht:=h.t hne
   have hm:l.getD (l.length-1) 0<pr:=by
    rw [List.getD_eq_getElem?_getD,List.getElem?_eq_getElem (by have:=List.length_pos_iff.2 hne;omega:l.length-1<l.length)];exact h.m _ (List.getElem_mem _)
   have e4:cf (c ((l.getD (l.length-1) 0:Nat):Rat)).l e0=((l.getD (l.length-1) 0:Nat):Rat):=by
    show cf (bX _) e0=_;rw [bX,if_neg (jk (by omega)),bG,jd,if_pos rfl];exact Rat.add_zero _
   rw [e4,<- Rat.intCast_natCast,<- Rat.intCast_natCast,<- Rat.intCast_mul] at h1;have h5:=Rat.intCast_inj.1 h1;have h6:(0:Int)<((l.getD (l.length-1) 0:Nat):Int):=by omega
   rw [lL] at *;omega
  ·have h1:=congrArg (fun g=>MP.co v ((F.deg v).toNat+(E2.deg v).toNat) g) e2;simp only [co_add] at h1;rw [uO v hF0 hz,co_mul_fr (nN _ _)] at h1;have hd:=Oj v l;have:=deg_pos hF0 v;rw [co_above (by omega)] at h1
   have i3:((F*X+R).co v ((F.deg v).toNat+(E2.deg v).toNat)).dv 1:=fun t ht=>by
    have ht:t∈((F*X+R).l.filter fun u=>u.1.get v=(((F.deg v).toNat+(E2.deg v).toNat:Nat):Int)).map fun u=>(u.1.put v 0,u.2):=ht;obtain⟨u,hu,rfl⟩:=List.mem_map.1 ht;exact iR2 u (List.mem_filter.1 hu).1
   have icoF:(F.lc v).dv 1:=fun t ht=>by
    have ht:t∈(F.l.filter fun u=>u.1.get v=((F.deg v).toNat:Int)).map fun u=>(u.1.put v 0,u.2):=ht;obtain⟨u,hu,rfl⟩:=List.mem_map.1 ht;exact iF u (List.mem_filter.1 hu).1
   have icoE:(E2.lc v).dv 1:=fun t ht=>by
    have ht:t∈(E2.l.filter fun u=>u.1.get v=((E2.deg v).toNat:Int)).map fun u=>(u.1.put v 0,u.2):=ht;obtain⟨u,hu,rfl⟩:=List.mem_map.1 ht;exact iE2 u (List.mem_filter.1 hu).1
   have hz2:BD pr (F.lc v*E2.lc v):=⟨-((F*X+R).co v ((F.deg v).toNat+(E2.deg v).toNat)),P8 i3,by grind⟩;rcases D6 BJ icoF icoE hz2 with h3|h3
   ·exact hF h3
   ·obtain⟨Y,iY,eY⟩:=h3;obtain⟨t,r,ht⟩:=kW (lc_ne hz v);have htm:t∈(E2.lc v).l:=by rw [ht];simp
    have h4:=JZ htm;rw [eY,pM] at h4;have htm':t∈(E2.l.filter fun u=>u.1.get v=((E2.deg v).toNat:Int)).map fun u=>(u.1.put v 0,u.2):=htm;obtain⟨u,hu,rfl⟩:=List.mem_map.1 htm';have hu1:=(List.mem_filter.1 hu).1;rw [hE2] at hu1;have hu2:u∈E.l.filter (fun t=>!C8 pr t):=hu1;have hu3:=(List.mem_filter.1 hu2).2;obtain⟨y,hy⟩:=gH (DZ iY (u.1.put v 0));obtain⟨x,hx⟩:=gH (iE u (List.mem_filter.1 hu2).1);simp only [C8,Bool.not_eq_true',decide_eq_false_iff_not,hx] at hu3;have h4:(pr:Rat)*cf Y.l (u.1.put v 0)=u.2:=h4;rw [hy,hx,<- Rat.intCast_natCast,<- Rat.intCast_mul] at h4;exact hu3 (Int.emod_eq_zero_of_dvd ⟨y,(Rat.intCast_inj.1 h4).symm⟩)
 ·exact nz
theorem QT (v t:Nat) (r:Rat):∀ w,iI v t w (c r)=c r
 | 0=>rfl
 | w+1=>by simp only [iI];split <;> simp only [QT v t r w,XK]
theorem FU (v t:Nat) (p:MP):∀ w,w<=4->∀ u,u<w->u≠v->(iI v t w p).fr u
 | 0,_,u,h,_=>by omega
 | w+1,hw,u,h,hne=>by
  simp only [iI];split
  ·rename_i e;exact FU v t p w (by omega) u (by omega) hne
  ·rcases Nat.eq_or_lt_of_le (show u<=w by omega) with e|h1
   ·subst e;exact L9 _ _ _
   ·have h2:(iI v t w p).deg u<=(0:Nat):=FU v t p w (by omega) u h1 hne;exact FK _ _ (by omega) (by omega) h2
theorem WU (v i:Nat) (hv:v<4) (p:MP):cf (p.co v i).l e0=cf p.l (e0.put v i):=by
 show Lf _ (aD p.l v i)=Lf _ _;rw [dX];refine gK fun s _=>?_;by_cases h:s.1=e0.put v i
 ·rw [if_pos h,h,Ex.get_put,if_pos rfl,Ex.put_put,if_pos];have:=Ex.put_get e0 v;rw [AL] at this;exact this
 ·rw [if_neg h];by_cases h2:s.1.get v=(i:Int)
  ·rw [if_pos h2,if_neg fun h3=>h (by rw [<- h3,Ex.put_put,<- h2,Ex.put_get])]
  ·rw [if_neg h2]
theorem XZ {p:MP} (h:p.lo 0):p=c (cf p.l e0):=by
 obtain⟨r,rfl⟩:=mR h
 congr 1
 show r=cf (bX r) e0;unfold bX;split
 ·rename_i h;rw [h];rfl
 ·rw [bG,jd,if_pos rfl];exact (Rat.add_zero _).symm
theorem Ty (v t i:Nat) (hv:v<4) (p:MP):(iI v t 4 p).co v i=c (cf (iI v t 4 p).l (e0.put v i)):=by
 rw [<- WU v i hv];refine XZ fun w _ hw=>?_;by_cases h:w=v
 ·subst h;exact co_fr _ _ _
 ·exact Ub hw hv (FU v t p 4 (Nat.le_refl _) w hw h)
def IV:List ai->Nat
 | []=>1
 | t::l=>t.2.den*IV l
theorem Ej:∀ l,0<IV l
 | []=>Nat.one_pos
 | t::l=>Nat.mul_pos t.2.den_pos (Ej l)
theorem IW:∀ {l:List ai},∀ t∈l,Dv (IV l) t.2
 | s::l,t,h=>by
  rcases List.mem_cons.1 h with rfl|h
  ·exact (FN _).dvd (Nat.dvd_mul_right _ _)
  ·exact (IW t h).dvd (Nat.dvd_mul_left _ _)
theorem BU {v t:Nat}:∀ {l:List ai} {out x:List Nat},kT v t l out=some x->¬ pr∣IV l
 | [],_,_,_=>by decide
 | m::l,out,x,h=>by
  rw [kT] at h;split at h
  ·cases h
  ·rename_i hres;have ih:=BU h;intro hd;rcases BI BJ hd with h1|h1
   ·apply hres;have h2:=wT (m.2.den:Int);have h3:=tq (m.2.den:Int);obtain⟨a,ha⟩:=h1;obtain⟨b,hb⟩:=h2;rw [lL] at ha;omega
   ·exact ih h1
theorem uu {v t:Nat}:∀ {l:List ai} {out x:List Nat},kT v t l out=some x->(∀ y∈out,y<pr)->∀ y∈x,y<pr
 | [],out,x,h,ho=>by simp only [kT,Option.some.injEq] at h;subst h;exact ho
 | m::l,out,x,h,ho=>by
  rw [kT] at h;split at h
  ·cases h
  ·refine uu h fun y hy=>?_;rcases List.mem_or_eq_of_mem_set hy with hy|rfl
   ·exact ho y hy
   ·exact Nat.mod_lt _ (by decide)
theorem Yq {N:Nat} (h:¬ pr∣N):∃ M K:Int,(N:Int)*M=1+(pr:Int)*K:=by
 have h0:0<N % pr:=Nat.pos_of_ne_zero fun e=>h (Nat.dvd_of_mod_eq_zero e);have hlt:N % pr<pr:=Nat.mod_lt _ (by decide);have h1:=J8 h0 hlt;have h2:=Cg.mod (lC (N % pr) (pr - 2)*(N % pr));rw [h1] at h2;have h3:=Cg.mod N;have h4:=(Cg.refl ((lC (N % pr) (pr - 2):Nat):Int)).mul h3;rw [Int.natCast_mul] at h2;obtain⟨k,hk⟩:=(h2.trans h4).symm;exact⟨lC (N % pr) (pr - 2),k,by rw [lL];rw [Int.mul_comm];exact hk⟩
structure Im (v:Nat) (d:MP) (F:MP) (x:List Nat):Prop where
 g:Gd v F x
 ne:x≠[]
 i:F.dv 1
 l:¬ BD pr (F.lc v)
 dg:F.deg v=d.deg v
theorem Uo {D:Nat} {p:MP} (h:p.dv D) (v n:Nat):(p.co v n).dv D:=fun t ht=>by
 have ht:t∈(p.l.filter fun u=>u.1.get v=(n:Int)).map fun u=>(u.1.put v 0,u.2):=ht;obtain⟨u,hu,rfl⟩:=List.mem_map.1 ht;exact h u (List.mem_filter.1 hu).1
theorem QU {v t:Nat} (hv:v<4) {a d:MP} (ha:a≠0) (he:∀ m∈a.l,∀ w,m.1.get w<18446744073709551616) {r:Rat} (hr:r≠0) (hp:pz (c r*d)) (hd:d∣a) {x:List Nat} (hx:oU a.l v t=some x) (hf:mV (some x)=true) :
  Im v d (iI v t 4 (c r*d)) x:=by
 obtain⟨e,rfl⟩:=hd;have hpd:=BU hx;obtain⟨N,hN⟩:∃ N,N=IV (d*e).l:=⟨_,rfl⟩;rw [<- hN] at hpd;have hN0:0<N:=by rw [hN];exact Ej _
 have hdv:(d*e).dv N:=by rw [hN];exact fun t ht=>IW t ht
 obtain⟨D,hD⟩:∃ D,D=c r*d:=⟨_,rfl⟩;rw [<- hD] at hp ⊢;obtain⟨E,hE⟩:∃ E,E=c ((N:Rat)*r⁻¹)*e:=⟨_,rfl⟩
 have hA:c (N:Rat)*(d*e)=D*E:=by
  rw [hD,hE]
  have h1:c r*c ((N:Rat)*r⁻¹)=c (N:Rat):=by
   rw [lv];congr 1;have:=Rat.mul_inv_cancel _ hr;grind
  rw [<- h1];grind
 have iE:E.dv 1:=J6 (qE hdv) hp hA
 have hAA:c (N:Rat)*iI v t 4 (d*e)=iI v t 4 D*iI v t 4 E:=by
  rw [<- wR,<- hA,wR v t 4 (c (N:Rat)),QT]
 have d0:d≠0:=fun h=>ha (by rw [h];grind);have e0':e≠0:=fun h=>ha (by rw [h];grind);have hdeg:=deg_pos ha v;have hlen0:(List.replicate (aG (d*e).l v+1).toNat 0).length=((d*e).deg v+1).toNat:=by rw [List.length_replicate];rfl
 obtain⟨L,hL⟩:∃ L,L=((d*e).deg v+1).toNat:=⟨_,rfl⟩;rw [<- hL] at hlen0
 obtain⟨h1,h2⟩:=IR (N:=N) hv hx (d*e).v.nat he hdv fun m hm=>by
  rw [hlen0];have:=dU hm v;have h':(d*e).deg v=aG (d*e).l v:=rfl;have:=Ex.nat_get ((d*e).v.nat m hm) v;omega
 rw [hlen0] at h1 h2
 have hz:∀ i,c (N:Rat)*(iI v t 4 (d*e)).co v i=c ((cS N v t i (d*e).l:Int):Rat):=fun i=>by
  rw [Ty v t i hv,lv,Tu v t hv,Um hdv]
 have hx0:∀ i,L<=i->x.getD i 0=0:=fun i hi=>by rw [List.getD_eq_getElem?_getD,List.getElem?_eq_none (by omega)];rfl
 have hco0:∀ i,L<=i->(iI v t 4 (d*e)).co v i=0:=fun i hi=>co_above (by
  have:=tJ v t hv 4 (Nat.le_refl _) (p:=d*e) (u:=v) (d:=((d*e).deg v).toNat) hv (by omega);omega)
 have hxm:∀ y∈x,y<pr:=uu hx fun y hy=>by rw [(List.mem_replicate.1 hy).2];decide
 have hne:x≠[]:=fun h=>by rw [h] at h1;simp at h1;omega
 have hlast:x.getD (x.length-1) 0≠0:=of_decide_eq_true hf
 -- the congruence of polynomials
 have ⟨k,hk⟩:∃ k:Nat->Int,∀ i,i<L->(N:Int)*x.getD i 0=cS N v t i (d*e).l+2147483647*k i :=
  ⟨fun i=>((N:Int)*x.getD i 0-cS N v t i (d*e).l) / 2147483647,fun i hi=>by
   obtain⟨k,hk⟩:=h2 i hi;rw [BS] at hk
   simp only [hk];omega⟩
 have hpoly:c (N:Rat)*pU v x=c (N:Rat)*iI v t 4 (d*e)+c (pr:Rat)*bZ (fun i=>c (k i:Rat)*xk v i) L:=KA v fun i=>by
  have hK:(bZ (fun i=>c (k i:Rat)*xk v i) L).co v i=if i<L then c (k i:Rat) else 0:=by
   rw [rC];split
   ·rename_i hj;rw [oC _ hj fun j _ hi=>by rw [co_mul_fr (nN _ _),fe,if_neg (Ne.symm hi)];grind];rw [co_mul_fr (nN _ _),fe,if_pos rfl];grind
   ·rename_i hj;rw [dF (g:=fun _=>0) fun j hj=>by rw [co_mul_fr (nN _ _),fe,if_neg (by omega)];grind,mD]
  rw [co_add,co_mul_fr (nN _ _),co_mul_fr (nN _ _),co_mul_fr (nN _ _),hK,mX];rcases Nat.lt_or_ge i L with hi|hi
  ·rw [if_pos hi,hz,lv,lv,<- Un];congr 1;have:=congrArg (fun z:Int=>(z:Rat)) (hk i hi);simp only [Rat.intCast_add,Rat.intCast_mul,Rat.intCast_natCast] at this;rw [this,lL];rfl
  ·rw [if_neg (by omega),hco0 i hi,hx0 i hi];have e1:c ((0:Nat):Rat)=0:=rfl;rw [e1];grind
 obtain⟨M,K,hMK⟩:=Yq hpd
 have hDv:Tx v (iI v t 4 D) x:=by
  refine⟨c (M:Rat)*iI v t 4 E,c (M:Rat)*bZ (fun i=>c (k i:Rat)*xk v i) L-c (K:Rat)*pU v x,iL (uZ 1 _) (wS v t 4 iE),Bw (iL (uZ 1 _) (wH fun i _=>iL (uZ 1 _) (Ms v i))) (iL (uZ 1 _) (QQ v x)),?_⟩
  have h3:c (N:Rat)*c (M:Rat)=1+c (pr:Rat)*c (K:Rat):=by
   rw [lv,lv,<- AQ,<- Un];congr 1;have:=congrArg (fun z:Int=>(z:Rat)) hMK;simp only [Rat.intCast_add,Rat.intCast_mul,Rat.intCast_natCast] at this;exact this
  have h4:c (M:Rat)*(c (N:Rat)*pU v x)=c (M:Rat)*(iI v t 4 D*iI v t 4 E+c (pr:Rat)*bZ (fun i=>c (k i:Rat)*xk v i) L):=by rw [hpoly,hAA]
  grind
 have htop:¬ BD pr ((c (N:Rat)*iI v t 4 (d*e)).co v (L-1)):=fun⟨Y,iY,eY⟩=>by
  rw [co_mul_fr (nN _ _),hz] at eY;have h3:=congrArg (fun g:MP=>cf g.l e0) eY
  have hcc:∀ r:Rat,cf (c r).l e0=r:=fun r=>by
   show cf (bX r) e0=r;unfold bX;split
   ·rename_i h;rw [h];rfl
   ·rw [bG,jd,if_pos rfl];exact Rat.add_zero _
  simp only [pM,hcc] at h3;obtain⟨y,hy⟩:=gH (DZ iY e0);rw [hy,<- Rat.intCast_natCast,<- Rat.intCast_mul] at h3;have h4:=Rat.intCast_inj.1 h3;have h5:=hk (L - 1) (by omega)
  have h6:pr∣N*x.getD (L-1) 0:=by
   refine Int.ofNat_dvd.1 ⟨y+k (L-1),?_⟩;rw [Int.natCast_mul,h5,h4,lL,Int.mul_add];rfl
  rcases BI BJ h6 with h7|h7
  ·exact hpd h7
  ·rw [h1] at hlast;have h8:=Nat.le_of_dvd (Nat.pos_of_ne_zero hlast) h7
   have h9:x.getD (L-1) 0<pr:=by
    rw [List.getD_eq_getElem?_getD,List.getElem?_eq_getElem (by omega:L-1<x.length)];exact hxm _ (List.getElem_mem _)
   omega
 have hAA0:c (N:Rat)*iI v t 4 (d*e)≠0:=fun h=>htop (by rw [h];exact tu pr)
 have hdA:(L-1:Nat)<=(c (N:Rat)*iI v t 4 (d*e)).deg v:=by
  rcases Int.lt_or_le ((c (N:Rat)*iI v t 4 (d*e)).deg v) (L - 1:Nat) with h|h
  ·exact absurd (by rw [co_above h];exact tu pr) htop
  ·exact h
 have hDD0:iI v t 4 D≠0:=fun h=>hAA0 (by rw [hAA,h];grind);have hEE0:iI v t 4 E≠0:=fun h=>hAA0 (by rw [hAA,h];grind);have hDd:D.deg v=d.deg v:=by rw [hD,deg_mul (wI hr) d0,uQ (nN _ _) (wI hr)];omega
 have hEd:E.deg v=e.deg v:=by
  have hc0:c ((N:Rat)*r⁻¹)≠0:=wI (je (jk hN0) fun h=>by have:=Rat.mul_inv_cancel _ hr;rw [h] at this;grind);rw [hE,deg_mul hc0 e0',uQ (nN _ _) hc0];omega
 have hdd:=deg_mul d0 e0' v;have hd1:=tJ v t hv 4 (Nat.le_refl _) (p:=D) (u:=v) (d:=(D.deg v).toNat) hv (by omega);have hd2:=tJ v t hv 4 (Nat.le_refl _) (p:=E) (u:=v) (d:=(E.deg v).toNat) hv (by omega);have hdp:=deg_pos d0 v;have hep:=deg_pos e0' v;rw [hAA,deg_mul hDD0 hEE0] at hdA;have hFd:(iI v t 4 D).deg v=d.deg v:=by omega
 refine⟨⟨hDv,fun _=>hlast,hxm⟩,hne,wS v t 4 hp.1,fun hzd=>htop ?_,hFd⟩;have:L-1=((iI v t 4 D).deg v).toNat+((iI v t 4 E).deg v).toNat:=by omega
 rw [hAA,this,uO v hDD0 hEE0];exact L6 hzd (Uo (wS v t 4 iE) _ _)
theorem Ol {v t:Nat} (hv:v<4) {a b d:MP} (ha:a≠0) (hb:b≠0) (hea:∀ m∈a.l,∀ w,m.1.get w<18446744073709551616) (heb:∀ m∈b.l,∀ w,m.1.get w<18446744073709551616) (hda:d∣a) (hdb:d∣b) {x y:List Nat}
  (hx:oU a.l v t=some x) (hfx:mV (some x)=true) (hy:oU b.l v t=some y) (hfy:mV (some y)=true) {n:Nat} (hs:qj x y=some n):d.deg v+1<=n:=by
 obtain⟨r,hr,hp⟩:=Qb (dvd_ne ha hda);have ix:=QU hv ha hea hr hp hda hx hfx;have iy:=QU hv hb heb hr hp hdb hy hfy
 have key:∃ l,Gd v (iI v t 4 (c r*d)) l/\l≠[]/\l.length=n:=by
  unfold qj at hs;split at hs
  ·exact Gd.share hs iy.g ix.g iy.ne
  ·exact Gd.share hs ix.g iy.g ix.ne
 obtain⟨l,h1,h2,h3⟩:=key;have:=h1.len h2 ix.i ix.l;rw [ix.dg,h3] at this;omega
theorem tK {v:Nat} (hv:v<4) {a b d:MP} (ha:a≠0) (hb:b≠0) (hea:∀ m∈a.l,∀ w,m.1.get w<18446744073709551616) (heb:∀ m∈b.l,∀ w,m.1.get w<18446744073709551616) (hda:d∣a) (hdb:d∣b) :
  ∀ {l:List Nat} {m:Int},kF a.l b.l v l=some m->d.deg v<=m
 | [],m,h=>by
  simp only [kF,Option.some.injEq] at h;have h1:=dvd_deg ha hda v;have h2:=dvd_deg hb hdb v;have e1:a.deg v=aG a.l v:=rfl;have e2:b.deg v=aG b.l v:=rfl;omega
 | k::l,m,h=>by
  rw [kF] at h;split at h
  ·rename_i x y hx hy;split at h
   ·rename_i hf;rw [Bool.and_eq_true] at hf
    cases hs:qj x y with
    | none=>rw [hs] at h;cases h
    | some n =>
     rw [hs] at h;have h:some ((n:Int)-1)=some m:=h;have h:=Option.some.inj h;have:=Ol hv ha hb hea heb hda hdb hx hf.1 hy hf.2 hs;omega
   ·exact tK hv ha hb hea heb hda hdb h
  ·exact tK hv ha hb hea heb hda hdb h
theorem IX {b:List Nat} (hb:b≠[]) (ht:Tp b) (hm:∀ x∈b,x<pr):∀ (n:Nat) (r:List Nat),r.length<n->(∀ x∈r,x<pr)->∃ x,qI b (lC (b.getD (b.length-1) 0) (pr-2)) n r=some x/\x.length<b.length
 | 0,_,h,_=>by omega
 | n+1,r,h,hr=>by
  rw [qI];have hb1:=List.length_pos_iff.2 hb;split
  ·rename_i nz;obtain⟨f,hf⟩:∃ f,f=r.getD (r.length - 1) 0*lC (b.getD (b.length - 1) 0) (pr - 2) % pr:=⟨_,rfl⟩;rw [<- hf]
   have hl:(strip (gT b r f (r.length-b.length) b.length)).length<r.length:=by
    have h1:=QS (l:=gT b r f (r.length-b.length) b.length) (fun e=>by have:=qM b r f (r.length-b.length) b.length;rw [e] at this;simp at this;omega) (by
     rw [qM,yo b.length (by omega),if_pos (by omega),show r.length - 1 - (r.length - b.length)=b.length - 1 by omega];have hb0:=ht hb;obtain⟨y,hy⟩:∃ y,y=b.getD (b.length - 1) 0:=⟨_,rfl⟩;have hyl:y<pr:=by rw [hy,List.getD_eq_getElem?_getD,List.getElem?_eq_getElem (by omega:b.length - 1<b.length)];exact hm _ (List.getElem_mem _)
     rw [<- hy] at hb0 hf ⊢;obtain⟨z,hz⟩:∃ z,z=r.getD (r.length - 1) 0:=⟨_,rfl⟩;rw [<- hz] at hf ⊢;have hi:=J8 (Nat.pos_of_ne_zero hb0) hyl;obtain⟨i,hi2⟩:∃ i,i=lC y (pr - 2):=⟨_,rfl⟩;rw [<- hi2] at hi hf;have c1:=Cg.mod (z*i);rw [<- hf] at c1;have c2:=Cg.mod (i*y);rw [hi] at c2
     have c3:Cg ((z+(pr-y)*f:Nat):Int) 0:=by
      rw [Int.natCast_add,Int.natCast_mul,Int.ofNat_sub (by omega)];obtain⟨k1,hk1⟩:=c1;obtain⟨k2,hk2⟩:=c2;rw [Int.natCast_mul] at hk1 hk2;refine⟨f - y*k1+z*k2,?_⟩;rw [lL];have e1:(y:Int)*f=y*(z*i+2147483647*k1):=by rw [hk1]
      have e2:(z:Int)=z*(i*y+2147483647*k2):=by rw [<- hk2];omega
      grind
     exact Nat.mod_eq_zero_of_dvd (Int.ofNat_dvd.1 (by rw [lL];exact c3.zero)))
    rw [qM] at h1;exact h1
   exact IX hb ht hm n _ (by omega) (yn (ut hr _))
  ·exact⟨r,rfl,by omega⟩
theorem Gd.tp_rest {b:List Nat} (inv:Nat):∀ {n:Nat} {r x:List Nat},qI b inv n r=some x->Tp r->(∀ y∈r,y<pr)->Tp x/\∀ y∈x,y<pr
 | 0,_,_,h,_,_=>by cases h
 | n+1,r,x,h,hr,hm=>by
  rw [qI] at h;split at h
  ·exact Gd.tp_rest inv h (wU _) (yn (ut hm _))
  ·simp only [Option.some.injEq] at h;subst h;exact⟨hr,hm⟩
theorem vC:∀ (n:Nat) (a b:List Nat),b.length<n->a.length<fuel->b.length<fuel->Tp a->Tp b->(∀ x∈a,x<pr)->(∀ x∈b,x<pr)->∃ k,lW n a b=some k
 | 0,_,_,h,_,_,_,_,_,_=>by omega
 | n+1,a,b,h,ha,hb,ta,tb,ma,mb=>by
  rw [lW];split
  ·exact⟨_,rfl⟩
  ·rename_i hb0;obtain⟨x,hx,hxl⟩:=IX hb0 tb mb fuel a ha ma;have hx2:=Gd.tp_rest _ hx ta ma;rw [hx];exact vC n b x (by omega) hb (by omega) tb hx2.1 mb hx2.2
theorem Mt {a:List ai} {v t:Nat} {x:List Nat} (h:oU a v t=some x):x.length=(aG a v+1).toNat:=by
 have key:∀ {l:List ai} {out x:List Nat},kT v t l out=some x->x.length=out.length:=by
  intro l
  induction l with
  | nil=>intro out x h;simp only [kT,Option.some.injEq] at h;subst h;rfl
  | cons m l ih =>
   intro out x h;rw [kT] at h;split at h
   ·cases h
   ·rw [ih h,List.length_set]
 rw [key h,List.length_replicate]
theorem vD {a b:List ai} {v:Nat} (ha:aG a v+1<fuel) (hb:aG b v+1<fuel):∀ l,∃ m,kF a b v l=some m
 | []=>⟨_,rfl⟩
 | k::l=>by
  rw [kF];split
  ·rename_i x y hx hy;split
   ·rename_i hf;rw [Bool.and_eq_true] at hf;have hx1:=Mt hx;have hy1:=Mt hy;have tx:Tp x:=fun _=>of_decide_eq_true hf.1;have ty:Tp y:=fun _=>of_decide_eq_true hf.2;have mx:∀ z∈x,z<pr:=uu hx fun y hy=>by rw [(List.mem_replicate.1 hy).2];decide
    have my:∀ z∈y,z<pr:=uu hy fun y hy=>by rw [(List.mem_replicate.1 hy).2];decide
    have hfu:0<fuel:=by decide
    have key:∃ n,qj x y=some n:=by
     unfold qj;split
     ·exact vC fuel y x (by omega) (by omega) (by omega) ty tx my mx
     ·exact vC fuel x y (by omega) (by omega) (by omega) tx ty mx my
    obtain⟨n,hn⟩:=key;rw [hn];exact⟨_,rfl⟩
   ·exact vD ha hb l
  ·exact vD ha hb l
end Q
end
