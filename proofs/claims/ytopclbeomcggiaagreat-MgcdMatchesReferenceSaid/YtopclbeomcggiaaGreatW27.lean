/- The reference's polynomials: insert, Make. -/
import Derived.Test.YtopclbeomcggiaaGreatW26
set_option linter.unusedVariables false
set_option linter.unusedSimpArgs false
set_option maxHeartbeats 16000000
set_option maxRecDepth 100000
section
namespace Q
def I1 (n:ai) (r:List ai):List ai:=if n.2≠0/\n.1.nat=true then n::r else r
theorem I4{m:ai}:∀{k:Nat}{p:List ai},(∀t∈p.take k,t.1.gt m.1=true)->ins p m=p.take k++ins (p.drop k) m
 | 0,p,_=>by simp
 | k+1,[],_=>by simp
 | k+1,t::p,h=>by have b:=h t sM;have d:=I4 (m:=m) (k:=k) (p:=p) (λs e=>h s (by simp[e]));rw[List.take_succ_cons,List.drop_succ_cons,ins,if_pos b,d];rfl
theorem QP(m:ai):ins [] m=I1 m []:=rfl
theorem TB{t m:ai}{r:List ai}(h:t.1=m.1):ins (t::r) m=I1 (m.1,m.2+t.2) r:=by rw[ins,if_neg (by rw[h,Ex.gt_irrefl];simp),if_pos h];rfl
theorem TD{t m:ai}{r:List ai}(hg:t.1.gt m.1=false)(h:t.1≠m.1):ins (t::r) m=I1 m (t::r):=by rw[ins,if_neg (by rw[hg];simp),if_neg h];rfl
end Q
namespace Go.Proofs.YtopclbeomcggiaaGreat
open Go.RowKit Q
theorem QQ(e f:Ex)(w:World):(Op.equalIn 10000 36 (.agg (bC e).toArray) (.agg (bC f).toArray)).run Tryz.prog w=.ok (decide (e=f)) w:=by obtain⟨x1,x2,x3,x4⟩:=e;obtain⟨y1,y2,y3,y4⟩:=f;simp only[bC];have u3:=Tryz.underlying3;have a3:=Tryz.isAgg3;have z3:=Tryz.sizeOf3;rw[show(10000:Nat)=9999+1 from rfl,Op.equalIn];simp only[Sem.run_bind,run_underlying Tryz.underlying36,Result.andThen_ok];simp only[Std.Legacy.Range.forIn_eq_forIn_range',Std.Legacy.Range.size,Nat.sub_zero,Nat.add_sub_cancel,Nat.div_one,List.range'_succ,List.range'_zero,List.forIn_cons,List.forIn_nil];go_simp;by_cases h1:x1=y1<;>by_cases h2:x2=y2<;>by_cases h3:x3=y3<;>by_cases h4:x4=y4<;>simp[h1,h2,h3,h4]
theorem Cy{w:World}{b:Nat}{e:Ex}{r:List Value}(h:Blk w b aJ (bC e++r)):w.rangeAt b 0 (bC e):=fI h.cells
theorem uZ{w:World}{b:Nat}{e:Ex}{r:List Value}(h:Blk w b aJ (bC e++r)):w.rangeAt b (0+4) r:=gU h.cells
end Go.Proofs.YtopclbeomcggiaaGreat
namespace Q
open Go Go.RowKit Q Go.Proofs.YtopclbeomcggiaaGreat
theorem di.rebase{α:Type}{e:El α}{base:Nat}{w:World}{v:Value}{l:List α}(h:di e base w v l):di e 0 w v l:=by
 obtain⟨n,⟨i,d⟩,j⟩:=h;refine⟨n,⟨i,?_⟩,j⟩;rcases d with d|⟨g,cap,b,k,o,m⟩
 ·exact .inl d
 ·exact .inr ⟨g,cap,b,k,Nat.zero_le _,m⟩
end Q
namespace Go.Proofs.YtopclbeomcggiaaGreat
open Go.RowKit Q
theorem KU(vp:Value)(p:List ai)(cs:List Value)(m:ai)(w:World)(hp:ak w vp p)(hm:qf w cs m)(a9:∀t∈p,Rs t.2)(av:Rs m.2)(bc:p.length<=100000000) :
  Calls Tryz.prog 82 #[vp,.agg cs.toArray] w (aS w (ins p m)):=by
 obtain⟨ap,cp,rfl,b2⟩:=hp.shape;obtain⟨r,rfl,hr⟩:=hm;obtain⟨e,q⟩:=m;simp only at hr av ⊢;replace a9:=zH a9;obtain⟨a4,u⟩:∃a4,a4=ins p (e,q):=⟨_,rfl⟩;rw[<-u];replace u:=zH u;have h4:=hr.len
 go_enter Tryz.func82,Tryz.ntmps82
 go_upto_region 1 with (fail)
 refine jb λW hb0 B b6=>?_;go_wp2
 go_loopw [5] (λi wr=>∃k:Nat,k<=p.length/\i=.int .i64 k/\Hid (∀t∈p.take k,t.1.gt e=true)/\Below w.heap.size w wr/\Hid (Blk wr w.heap.size aJ (bC e++r))) (λi _=>p.length-(intOf i).toNat)
 case atStart=>exact⟨0,oM,rfl,zH sM,hb0,zH B⟩
 case round =>
  clear hb0 B b6;obtain⟨k,I,rfl,X,b,hB⟩:=hrel;have D:=hB.out;obtain⟨g,n⟩:∃g:Bool,g=(match p[k]? with|some t=>t.1.gt e|none=>false):=⟨_,rfl⟩
  go_upto_region 2 with (fail)
  go_cut [8,9,10,11,12,13,14,15,16,17,18,19,20,21] (λ_ _ _ _ _ _ _ _ _ _ _ _ _ v21 wc=>v21=.bool g/\Below wr.heap.size wr wc)
  case first =>
   by_cases N:k<p.length
   ·have a8:p[k]?=some p[k]:=gE N;rw[a8]at n;generalize p[k]=t at a8 n;obtain⟨o,op,al,rfl,-,hE,hC⟩:=(hp.on b).get a8;obtain⟨rt,rfl,a1⟩:=hE;change bS aJ wr o (op+k*8) _ at hC;have b7:(k:Int)<p.length:=oM;simp only at n;refine aC mixed (none) (0) (fK.none) [.eq (.int .i64 k),.eq (.slice (some ⟨o,op,none⟩) p.length cp),.eq (.int .i64 p.length),.eq (.bool true),.eq (.bool true),.eq (.slice (some ⟨o,op,none⟩) p.length cp),.eq (.int .i64 k),.eq (.pointer (some ⟨o,op+k*8,none⟩)),.eq (.pointer (some ⟨o,op+k*8,none⟩)),.eq (.agg (bC t.1).toArray),.eq (.pointer (some ⟨w.heap.size,0,none⟩)),.eq (.agg (bC e).toArray),.ret (.bool (t.1.gt e)),.eq (.bool (t.1.gt e))] [8,9,10,11,12,13,14,15,16,17,18,19,20,21] rfl rfl rfl rfl ⟨λ_ _ a _ _ _=>xM rfl (a 5 rfl),λ_ _ a _ _ _=>xM rfl (a 0 rfl),λA _ _ _ _ he=>have h9:=eT 9 (he.1 rfl);pZ rfl,λA _ _ _ _ he=>have h8:=eT 8 (he.1 rfl);have h10:=eT 10 (he.2.1 rfl);pZ rfl,λ_ _ _ _ _ e=>xM rfl (e.1 rfl),λ_ _ a _ _ e=>yM (e.1 rfl) rfl (a 0 rfl),λ_ _ a _ _ e=>yM (e.1 rfl) rfl (a 5 rfl),λ_ _ _ _ _ e=>aQ rfl rfl (e.2.2.1 rfl) (xI rfl Tryz.underlying27 o op k (N) (e.1 rfl) (e.2.1 rfl)),λ_ _ _ _ _ e=>aQ rfl rfl (e.2.1 rfl) (wV rfl (e.1 rfl)),λ_ _ _ hL _ e=>aQ rfl rfl (e.2.1 rfl) (xL rfl (fI (hC.on hL.below)) Tryz.underlying36 (show(bC t.1).length=4 from rfl) (e.1 rfl)),λ_ _ a _ _ e=>aQ rfl rfl (e.1 rfl) (wV rfl (a 3 rfl)),λA w1 hA hL hS he=>aQ rfl rfl (he.2.1 rfl) (xL rfl (Cy (D.on hL.below)) Tryz.underlying36 (show(bC e).length=4 from rfl) (he.1 rfl)),λA _ _ _ hS he=>have hb:=hS rfl;have h12:=eT 12 (he.2.2.1 rfl);have h17:=eT 17 (he.1 rfl);have h19:=eT 19 (he.2.1 rfl);have hf0:=eF A 68;cY (f:=68) (args:=#[.agg (bC t.1).toArray,.agg (bC e).toArray]) h12 (uC t.1 e _),λ_ _ _ _ _ e=>pK rfl (e.1 rfl) (e.2.1 rfl),trivial⟩ ?_
    ·intro W2 hL2;simp only[aT,af.eq,af.ret,lZ];go_frame;go_wp2;go_meet
     case rel=>exact⟨by rw[n],hL2.below⟩
   ·rw[gN oM]at n;obtain rfl:k=p.length:=oM;refine aC mixed (none) (0) (fK.none) [.eq (.int .i64 p.length),.eq (.slice ap p.length cp),.eq (.int .i64 p.length),.eq (.bool false),.eq (.bool false),.eq undef,.eq undef,.eq undef,.eq undef,.eq undef,.eq undef,.eq undef,.eq undef,.eq (.bool false)] [8,9,10,11,12,13,14,15,16,17,18,19,20,21] rfl rfl rfl rfl ⟨λ_ _ a _ _ _=>xM rfl (a 5 rfl),λ_ _ a _ _ _=>xM rfl (a 0 rfl),λA _ _ _ _ he=>have h9:=eT 9 (he.1 rfl);pZ rfl,λA _ _ _ _ he=>have h8:=eT 8 (he.1 rfl);have h10:=eT 10 (he.2.1 rfl);pZ rfl,λ_ _ _ _ _ e=>xM rfl (e.1 rfl),λ_ _ _ _ _ e=>nO false (e.1 rfl),λ_ _ _ _ _ e=>nO false (e.1 rfl),λ_ _ _ _ _ e=>nO false (e.2.2.1 rfl),λ_ _ _ _ _ e=>nO false (e.2.1 rfl),λ_ _ _ _ _ e=>nO false (e.2.1 rfl),λ_ _ _ _ _ e=>nO false (e.1 rfl),λ_ _ _ _ _ e=>nO false (e.2.1 rfl),λ_ _ _ _ _ e=>nO false (e.2.2.1 rfl),λ_ _ _ _ _ e=>ae rfl (ji rfl (e.1 rfl) rfl rfl),trivial⟩ ?_
    ·intro W2 hL2;simp only[aT,af.eq,af.ret,lZ];go_frame;go_wp2;go_meet
     case rel=>exact⟨by rw[n],hL2.below⟩
  case rest =>
   obtain⟨rfl,d⟩:=hcut;replace b:=b.trans (d.mono b.size);replace D:=D.on d;replace hr:=hr.on b;clear hB d
   have a0:g=true->k<p.length/\∀t∈p.take (k+1),t.1.gt e=true:=λh=>by
    rw[h]at n;split at n
    ·rename_i t ht;have N:=(gS.1 ht).1;refine⟨N,λs hs=>?_⟩;rw[List.take_add_one,ht]at hs;rcases List.mem_append.1 hs with hs|hs
     ·exact X.out s hs
     ·simp at hs;subst hs;exact n.symm
    ·cases n
   have M:g=false->∀t rest,p.drop k=t::rest->t.1.gt e=false:=λh t rest hd=>by have ht:=(nu hd).2.1;rw[h,ht]at n;exact n.symm
   replace a0:=zH a0;replace M:=zH M;clear n;cases g
   ·have y:=I4 (m:=(e,q)) (k:=k) (p:=p) X.out;replace y:=zH y;clear X a0;have hP:=hp.on b;have an:=hP.take k I;have Z:=hp.drop k;change ak w (.slice (if cp=k then ap else ap.map (·.add (k*8))) _ _) _ at Z;have b0:=λW':World=>jX (P:=Tryz.prog) Tryz.underlying27 za W' ap p.length cp k .i64 (k:Int) rfl oM;have a3:=λW':World=>gT (P:=Tryz.prog) Tryz.underlying27 za W' ap p.length cp k .i64 (k:Int) rfl I b2;obtain⟨vr,ad⟩:∃vr:Value,vr=.slice (if cp=k then ap else ap.map (·.add (k*8))) (p.length - k) (cp - k):=⟨_,rfl⟩;rw[<-ad]at a3 Z;have L:Below wc.heap.size wc (wc.alloc (.cells #[] aJ)):=(Below.refl _ _).alloc (nL _) _;have aw:([]:List ai).length+(p.take k).length<=1000000000:=by simp;omega
    have a2:=an.on L;have bb:w.heap.size<wc.heap.size:=D.lt;replace ad:=zH ad
    go_upto_region 5 with (first
     | (at_builtin;refine dU rfl _ _ 27 rfl Tryz.underlying27 bG rfl rfl (gX aO wc) a2 aw L.size ?_;intro v6 w6 hown6 hl6 hv6))
    rw[List.nil_append]at hown6;have hb6:Below wc.heap.size wc w6:=L.trans (hl6.belowAt L.size (λk I=>by cases I;exact nL _));have BB6:=D.on hb6;have hP6:=Z;replace hr:=hr.on hb6;replace b:=b.trans (hb6.mono b.size);clear hP an a2 Z hl6 hv6 L aw D b0
    go_upto_region 6 with (fail)
    clear a3;have aE:∀t∈p.drop k,Rs t.2:=λt ht=>a9.out t (List.mem_of_mem_drop ht);have au:(p.drop k).length<=p.length:=sM;generalize wc.heap.size=base at *;obtain⟨ar,cr,b5,aq⟩:=hP6.shape;subst b5;generalize p.drop k=P at *;obtain⟨g2,hg2⟩:∃g:Bool,g=(match P with|t::_=>decide (t.1=e)|[]=>false):=⟨_,rfl⟩
    go_cut [32,33,34,35,36,37,38,39,40,41,42,43] (λ_ _ _ _ _ _ _ _ _ _ _ v43 wc=>v43=.bool g2/\Below w6.heap.size w6 wc)
    case first =>
     cases P with
     | nil =>
      simp only[List.length_nil];refine aC mixed (none) (0) (fK.none) [.eq (.slice ar 0 cr),.eq (.int .i64 0),.eq (.bool false),.eq (.bool false),.eq undef,.eq undef,.eq undef,.eq undef,.eq undef,.eq undef,.eq undef,.eq (.bool false)] [32,33,34,35,36,37,38,39,40,41,42,43] rfl rfl rfl rfl ⟨λ_ _ a _ _ _=>xM rfl (a 7 rfl),λA _ _ _ _ he=>have h32:=eT 32 (he.1 rfl);pZ rfl,λA _ _ _ _ he=>have h33:=eT 33 (he.1 rfl);have hc0:=eC A (.int .i64 0);pZ rfl,λ_ _ _ _ _ e=>xM rfl (e.1 rfl),λ_ _ _ _ _ e=>nO false (e.1 rfl),λ_ _ _ _ _ e=>nO false (e.2.1 rfl),λ_ _ _ _ _ e=>nO false (e.2.1 rfl),λ_ _ _ _ _ e=>nO false (e.2.1 rfl),λ_ _ _ _ _ e=>nO false (e.1 rfl),λ_ _ _ _ _ e=>nO false (e.2.1 rfl),λ_ _ _ _ _ e=>nO false (e.2.2.1 rfl),λ_ _ _ _ _ e=>ae rfl (ji rfl (e.1 rfl) rfl rfl),trivial⟩ ?_
      ·intro W2 hL2;simp only[aT,af.eq,af.ret,lZ];go_frame;go_wp2;go_meet
       case rel=>exact⟨by rw[hg2],hL2.below⟩
     | cons t P2 =>
      obtain⟨o,op,al,rfl,-,hE,hC⟩:=hP6.get (j:=0) (t:=t) rfl;obtain⟨rt,rfl,a1⟩:=hE;change bS aJ w o (op+0*8) _ at hC;simp only[List.length_cons]at hg2 ⊢;have b9:=λW'=>QQ t.1 e W';refine aC mixed (none) (0) (fK.none) [.eq (.slice (some ⟨o,op,none⟩) (P2.length+1) cr),.eq (.int .i64 (P2.length+1:Nat)),.eq (.bool true),.eq (.bool true),.eq (.slice (some ⟨o,op,none⟩) (P2.length+1) cr),.eq (.pointer (some ⟨o,op+0*8,none⟩)),.eq (.pointer (some ⟨o,op+0*8,none⟩)),.eq (.agg (bC t.1).toArray),.eq (.pointer (some ⟨w.heap.size,0,none⟩)),.eq (.agg (bC e).toArray),.eq (.bool (decide (t.1=e))),.eq (.bool (decide (t.1=e)))] [32,33,34,35,36,37,38,39,40,41,42,43] rfl rfl rfl rfl ⟨λ_ _ a _ _ _=>xM rfl (a 7 rfl),λA _ _ _ _ he=>have h32:=eT 32 (he.1 rfl);pZ rfl,λA _ _ _ _ he=>have h33:=eT 33 (he.1 rfl);have hc0:=eC A (.int .i64 0);pZ rfl,λ_ _ _ _ _ e=>xM rfl (e.1 rfl),λ_ _ a _ _ e=>yM (e.1 rfl) rfl (a 7 rfl),λ_ _ _ _ _ e=>aQ rfl rfl (e.2.1 rfl) (xI rfl Tryz.underlying27 o op 0 oM (e.1 rfl) rfl),λ_ _ _ _ _ e=>aQ rfl rfl (e.2.1 rfl) (wV rfl (e.1 rfl)),λ_ _ _ hL _ e=>aQ rfl rfl (e.2.1 rfl) (xL rfl (fI (hC.on (b.trans (hL.below.mono b.size)))) Tryz.underlying36 (show(bC t.1).length=4 from rfl) (e.1 rfl)),λ_ _ a _ _ e=>aQ rfl rfl (e.1 rfl) (wV rfl (a 3 rfl)),λA w1 hA hL hS he=>aQ rfl rfl (he.2.1 rfl) (xL rfl (Cy (BB6.on hL.below)) Tryz.underlying36 (show(bC e).length=4 from rfl) (he.1 rfl)),λA _ _ _ _ he=>have h35:=eT 35 (he.2.2.1 rfl);have h39:=eT 39 (he.1 rfl);have h41:=eT 41 (he.2.1 rfl);yZ h35 rfl,λ_ _ _ _ _ e=>pK rfl (e.1 rfl) (e.2.1 rfl),trivial⟩ ?_
      ·intro W2 hL2;simp only[aT,af.eq,af.ret,lZ];go_frame;go_wp2;go_meet
       case rel=>exact⟨by rw[hg2],hL2.below⟩
    case rest =>
     obtain⟨rfl,d⟩:=hcut;replace b:=b.trans (d.mono b.size);replace BB6:=BB6.on d;replace hown6:=hown6.on d;replace hr:=hr.on d;clear d;have hlt6:=BB6.lt;have F:=hown6.base_le
     go_upto_if 43 with (fail)
     go_cut [7] (λv7 wc=>∃(c:Rat)(r':List Value)(rest:List ai),Hid (Blk wc w.heap.size aJ (bC e++r'))/\Hid (gM wc r' c)/\Hid (ak w v7 rest)/\Hid (bV base wc v6 (p.take k))/\Hid (a4=p.take k++I1 (e,c) rest)/\Below w.heap.size w wc/\rest.length<=p.length)
     case first =>
      cases g2
      ·go_wp2;go_meet
       case rel =>
        refine⟨q,r,P,zH BB6,zH hr,zH hP6,zH hown6,zH ?_,b,au⟩;rw[u.out,y.out]
        cases P with
        | nil=>rw[QP]
        | cons t P2 =>
         have h1:=M.out rfl t P2 rfl;have h2:t.1≠e:=of_decide_eq_false hg2.symm;rw[TD h1 h2]
      ·obtain⟨t,P2,rfl⟩:∃t P2,P=t::P2:=by
        cases P with
        | nil=>cases hg2
        | cons t P2=>exact⟨t,P2,rfl⟩
       have ac:t.1=e:=of_decide_eq_true hg2.symm;have b3:Rs t.2:=aE t sM;obtain⟨o,op,al,rfl,-,hE,hC⟩:=hP6.get (j:=0) (t:=t) rfl;obtain⟨rt,rfl,a1⟩:=hE;change bS aJ w o (op+0*8) _ at hC;have J:=hP6.drop 1;rw[List.drop_succ_cons,List.drop_zero]at J;change ak w (.slice (if cr=1 then some ⟨o,op,none⟩else(some ⟨o,op,none⟩:Option Addr).map (·.add (1*8))) _ _) _ at J;simp only[List.length_cons]at J aq au ⊢;have hl48:=a1.len;clear hg2 aE M;replace ac:=zH ac;replace F:=zH F;have z:=λW':World=>gT (P:=Tryz.prog) Tryz.underlying27 za W' (some ⟨o,op,none⟩) (P2.length+1) cr 1 .i64 (1:Int) rfl oM aq;obtain⟨vz,ag⟩:∃vz:Value,vz=.slice (if cr=1 then some ⟨o,op,none⟩else(some ⟨o,op,none⟩:Option Addr).map (·.add (1*8))) (P2.length+1 - 1) (cr - 1):=⟨_,rfl⟩;rw[<-ag]at z J;replace ag:=zH ag;replace z:=zH z
       go_upto_region 7 with (fail)
       refine aC mixed (none) (0) (fK.none) [.eq (.pointer (some ⟨w.heap.size,0+4,none⟩)),.eq (.agg (r).toArray),.eq (.slice (some ⟨o,op,none⟩) (P2.length+1) cr),.eq (.pointer (some ⟨o,op+0*8,none⟩)),.eq (.pointer (some ⟨o,op+0*8+4,none⟩)),.eq (.agg (rt).toArray),.rat dM ((q+t.2)),.eq (.pointer (some ⟨w.heap.size,0+4,none⟩))] [44,45,46,47,48,49,50,51] rfl rfl rfl rfl ⟨λ_ _ a _ _ _=>ae rfl (EU rfl (a 3 rfl)),λ_ _ _ hL _ e=>pL rfl (uZ (BB6.on hL.below)) Tryz.underlying41 (h4) (e.1 rfl),λ_ _ a _ _ _=>xM rfl (a 7 rfl),λ_ _ _ _ _ e=>pI rfl Tryz.underlying27 o op 0 oM (e.1 rfl) rfl,λ_ _ _ _ _ e=>ae rfl (EU rfl (e.1 rfl)),λ_ _ _ hL _ e=>pL rfl (gU (hC.on (b.trans (hL.below.mono b.size)))) Tryz.underlying41 (hl48) (e.1 rfl),λA _ _ _ hS he=>have hb:=hS rfl;have h45:=eT 45 (he.1 rfl);have h49:=eT 49 (he.2.1 rfl);have hf0:=eF A 81;cP (f:=81) (args:=#[.agg (r).toArray,.agg (rt).toArray]) (IZ _ _ _ _ _ (hr.on hb).rat (a1.on (b.trans (hb.mono b.size))).rat av b3),λ_ _ a _ _ _=>ae rfl (EU rfl (a 3 rfl)),trivial⟩ ?_
       ·intro W2 hL2;have hb2:=hL2.below;simp only[aT,af.eq,af.rat,af.of,lZ];rintro v50 h50;obtain⟨n5,a5,k5,c5,n6,a6,k6,c6,rfl⟩:=fE h50;go_frame;have C6:=BB6.on hb2;have hown2:=hown6.on hb2;have hbr2:=b.trans (hb2.mono b.size);have ao:(bC e++r).length=8:=by rw[List.length_append,h4];rfl
        clear hL2 BB6 hown6 b
        go_upto_region 8 with (refine mF rfl _ (.tmp 51) (.tmp 50) rfl w.heap.size (0+4) aJ _ _ rfl rfl C6 (by rw[ao];simp) dA dJ ?_;intro W3 R3 hl3)
        have hR3:Blk W3 w.heap.size aJ (bC e++[.bool n5,.slice a5 k5 c5,.bool n6,.slice a6 k6 c6]):=by have e1:(bC e++r).take (0+4)=bC e:=rfl;have e2:(bC e++r).drop (0+4+4)=[]:=List.drop_of_length_le (by rw[ao];omega);have:=R3;simp only[List.size_toArray,List.length_cons,List.length_nil]at this;rw[e1,e2,List.append_nil]at this;exact this
        have b4:v6.ownBlock≠some w.heap.size:=λh=>by have:=(F.out _ h).1;omega
        replace z:=z.out;have hown3:=hown2.lr hl3 (aW dM) (.inr b4);have h503:=(h50.lr hl3 dM).cellsC;have hbr3:=hbr2.trans (hl3.belowAt hbr2.size (λk I=>by cases I;exact nL _));go_wp2;go_meet
        case rel =>
         refine⟨q+t.2,_,P2,zH hR3,zH h503,zH J,zH hown3,zH ?_,hbr3,oM⟩;rw[u.out,y.out,TB ac.out]
     case rest =>
      clear hg2 BB6 hP6 hown6 hr b u y F;obtain⟨c,r',rest,hB,hr,x,l,G,b,bd⟩:=hcut;have D:=hB.out;have a7:=hr.out.len
      go_upto_region 9 with (fail)
      have Y:=λW (hb:Below wc.heap.size wc W)=>zf _ _ W (hr.out.on hb).rat;obtain⟨g3,hg3⟩:∃g:Bool,g=(if c≠0/\e.nat=true then true else false):=⟨_,rfl⟩
      go_cut [54,55,56,57,58,59,60,61,62] (λ_ _ _ _ _ _ _ _ v62 wd=>v62=.bool g3/\Below wc.heap.size wc wd)
      case first =>
       by_cases hc:c=0
       ·rw[if_neg (by simp[hc])]at hg3;rw[show jm c.num=0 by rw[hc];rfl]at Y;refine aR trivial (none) (0) (fK.none) [.eq (.pointer (some ⟨w.heap.size,0+4,none⟩)),.eq (.agg (r').toArray),.ret (.int .i64 0),.eq (.bool false),.eq (.bool false),.eq undef,.eq undef,.eq undef,.eq (.bool false)] [54,55,56,57,58,59,60,61,62] rfl rfl rfl rfl ⟨λ_ _ a _ _ _=>ae rfl (EU rfl (a 3 rfl)),λ_ _ _ hL _ e=>pL rfl (uZ (D.on hL.below)) Tryz.underlying41 (a7) (e.1 rfl),λA _ _ _ hS he=>have hb:=hS rfl;have h55:=eT 55 (he.1 rfl);have hf0:=eF A 67;cP (f:=67) (args:=#[.agg (r').toArray]) (Y _ hb),λA _ _ _ _ he=>have h56:=eT 56 (he.1 rfl);have hc0:=eC A (.int .i64 0);pZ rfl,λ_ _ _ _ _ e=>xM rfl (e.1 rfl),λ_ _ _ _ _ e=>nO false (e.1 rfl),λ_ _ _ _ _ e=>nO false (e.2.1 rfl),λ_ _ _ _ _ e=>nO false (e.2.1 rfl),λ_ _ _ _ _ e=>ae rfl (ji rfl (e.1 rfl) rfl rfl),trivial⟩ ?_
        ·intro W2 hL2;simp only[aT,af.eq,af.ret,lZ];go_frame;go_wp2;go_meet
         case rel=>exact⟨by rw[hg3],hL2.below⟩
       ·have hs0:=sj hc;generalize jm c.num=sg at hs0 Y;have hs1:(sg != 0)=true:=by simpa using hs0
        have hg4:g3=e.nat:=by rw[hg3];cases e.nat<;>simp[hc]
        refine aR trivial (none) (0) (fK.none) [.eq (.pointer (some ⟨w.heap.size,0+4,none⟩)),.eq (.agg (r').toArray),.ret (.int .i64 sg),.eq (.bool true),.eq (.bool true),.eq (.pointer (some ⟨w.heap.size,0,none⟩)),.eq (.agg (bC e).toArray),.ret (.bool e.nat),.eq (.bool e.nat)] [54,55,56,57,58,59,60,61,62] rfl rfl rfl rfl ⟨λ_ _ a _ _ _=>ae rfl (EU rfl (a 3 rfl)),λ_ _ _ hL _ e=>pL rfl (uZ (D.on hL.below)) Tryz.underlying41 (a7) (e.1 rfl),λA _ _ _ hS he=>have hb:=hS rfl;have h55:=eT 55 (he.1 rfl);have hf0:=eF A 67;cP (f:=67) (args:=#[.agg (r').toArray]) (Y _ hb),λA _ _ _ _ he=>have h56:=eT 56 (he.1 rfl);have hc0:=eC A (.int .i64 0);pZ rfl,λ_ _ _ _ _ e=>xM rfl (e.1 rfl),λ_ _ a _ _ e=>aQ rfl rfl (e.1 rfl) (wV rfl (a 3 rfl)),λA w1 hA hL hS he=>aQ rfl rfl (he.2.1 rfl) (xL rfl (Cy (D.on hL.below)) Tryz.underlying36 (show(bC e).length=4 from rfl) (he.1 rfl)),λA _ _ _ hS he=>have hb:=hS rfl;have h58:=eT 58 (he.2.1 rfl);have h60:=eT 60 (he.1 rfl);have hf0:=eF A 65;cY (f:=65) (args:=#[.agg (bC e).toArray]) h58 (xK e _),λ_ _ _ _ _ e=>pK rfl (e.1 rfl) (e.2.1 rfl),trivial⟩ ?_
        ·intro W2 hL2;simp only[aT,af.eq,af.ret,lZ];go_frame;go_wp2;go_meet
         case rel=>exact⟨by rw[hg4],hL2.below⟩
      case rest =>
       obtain⟨rfl,d⟩:=hcut;clear Y;replace D:=D.on d;replace hr:=hr.out.on d;replace x:=x.out;replace l:=l.out.on d;replace b:=b.trans (d.mono b.size);clear d hB;have C:∀k,v6.ownBlock=some k->w.heap.size<=k:=λk I=>by have:=(l.base_le k I).1;omega
       have b8:base<=wc.heap.size\/v6.ownBlock=none:=by
        cases hv:v6.ownBlock with
        | none=>exact .inr rfl
        | some k=>have:=l.base_le k hv;exact .inl oM
       have be:(p.take k).length<=p.length:=by simp;omega
       have ax:some w.heap.size≠v6.ownBlock:=λh=>by have:=(l.base_le _ h.symm).1;omega
       cases g3
       ·have hi:I1 (e,c) rest=rest:=by
         unfold I1;split
         ·rename_i h;rw[if_pos h]at hg3;cases hg3
         ·rfl
        rw[hi]at G;clear hi hg3;have ab:=x.on b;have S:(p.take k).length+rest.length<=1000000000:=oM
        go_wp2_with (at_builtin;refine dU rfl _ _ 27 rfl Tryz.underlying27 bG rfl rfl (l.rebase) ab S (Nat.zero_le _) ?_;intro v8 w8 hown8 hl8 hv8)
        go_ret;exact⟨_,rfl,by rw[G.out];exact hown8.isSl,b.trans (hl8.belowAt b.size C)⟩
       ·have hi:I1 (e,c) rest=(e,c)::rest:=by
         unfold I1;split
         ·rfl
         ·rename_i h;rw[if_neg h]at hg3;cases hg3
        rw[hi]at G;clear hi hg3;have h8:(bC e++r').length=8:=by rw[List.length_append,a7];rfl
        have hown0:=l.rebase
        go_upto_region 10 with (fail)
        refine aR trivial (v6.ownBlock) (aJ) (l.okr) [.eq (v6),.eq (.agg (bC e++r').toArray),.new1 aO fw ((e,c)),.row aO (0) wc.heap.size (p.take k++[(e,c)])] [63,64,65,66] rfl rfl rfl rfl ⟨λ_ _ a _ _ _=>xM rfl (a 6 rfl),λ_ _ a hL _ _=>pL rfl ((D.lr hL ax).cells.range) Tryz.underlying43 (h8) (a 3 rfl),?_,?_,trivial⟩ ?_
        ·intro A w1 hA hL hS he;have h64:=eT 64 (he.1 rfl);refine ae rfl ?_;have hE:(aO:El _).E w1 _ ((e,c)):=⟨_,rfl,hr.lr hL dM⟩;refine fo rfl rfl ((l.okr).lr hL) hE (bu rfl ?_) (λ_ _ h=>h);simp only[List.map_toArray,List.map_cons,List.map_nil,h64];exact bK _ _ ((aO).len hE)
        ·intro A w1 hA hL hS he;have hb:=hS rfl;have h63:=eT 63 (he.1 rfl);obtain⟨v65,h65,f65⟩:=fT 65 (he.2.1 rfl);exact ae rfl (dL rfl rfl rfl Tryz.underlying27 bG h63 h65 (hown0.on hb) rfl rfl (dV f65) (by simp only[List.length_cons,List.length_nil];omega) (Nat.zero_le _) hL.1.size (λ_ _ h1 h2=>⟨h1,h2⟩))
        ·intro W6 hL6;simp only[aT,af.eq,af.new1,af.row,af.asPure,af.of,af.fragile,lZ];rintro v65 - v66 ⟨hown6,ay⟩;go_frame;have hbW6:=b.trans (hL6.belowAt b.size C);have ab:=x.on hbW6;have S:(p.take k++[(e,c)]).length+rest.length<=1000000000:=by simp only[List.length_append,List.length_cons,List.length_nil];omega
         have bh:w.heap.size<=wc.heap.size:=b.size
         have hbase6:∀k,v66.ownBlock=some k->w.heap.size<=k:=λk I=>by
          rcases ay with h|⟨k',h,ba⟩
          ·exact C k (by rw[<-h];exact I)
          ·rw[h]at I;cases I;omega
         go_wp2_with (at_builtin;refine dU rfl _ _ 27 rfl Tryz.underlying27 bG rfl rfl hown6 ab S (Nat.zero_le _) ?_;intro v8 w8 hown8 hl8 hv8)
         go_ret;exact⟨_,rfl,by rw[G.out];simpa using hown8.isSl,hbW6.trans (hl8.belowAt hbW6.size hbase6)⟩
   ·obtain⟨N,aa⟩:=a0.out rfl;clear M;go_wp2;go_roundw
    case rel=>exact⟨k+1,oM,nM,zH aa,b,zH D⟩
    case measure=>simp[intOf];omega
end Go.Proofs.YtopclbeomcggiaaGreat
end
section
namespace Q
theorem rabs_int(k:Int):bH (k:Rat)=(k.natAbs:Rat):=by
 unfold bH;rcases Int.lt_or_le k 0 with h|h
 ·rw[if_pos (by rw[show(0:Rat)=((0:Int):Rat)from rfl];exact Rat.intCast_lt_intCast.2 h)];rw[<-Rat.intCast_neg,<-iN];congr 1;omega
 ·rw[if_neg (by rw[show(0:Rat)=((0:Int):Rat)from rfl];intro b;have:=Rat.intCast_lt_intCast.1 b;omega)];rw[<-iN];congr 1;omega
theorem KV{l:List ai}{k:Nat}{t:ai}(h:l[k]?=some t):canon (l.take (k+1))=ins (canon (l.take k)) t:=by rw[List.take_add_one,h];simp[canon]
end Q
namespace Go.Proofs.YtopclbeomcggiaaGreat
open Go.RowKit Q
theorem I5{D B:Nat}{c:Rat}(p:0<D)(h:Dv D c)(l:bH c<=(B:Rat)):c.den∣D/\c.num.natAbs<=B*D:=by
 obtain⟨k,i⟩:=h
 have m:(D:Rat)≠0:=by intro h;have:D=0:=Rat.natCast_inj.1 (by rw[h];rfl);omega
 have hc:c=Rat.divInt k D:=by rw[Rat.divInt_eq_div,iN,<-i];grind
 obtain⟨e1,d⟩:=rU k D oM;rw[<-hc]at e1 d
 have b:c.den∣D:=by refine Int.natCast_dvd_natCast.1 ⟨(Int.gcd k D:Int),?_⟩;rw[d];exact(Int.ediv_mul_cancel (Int.gcd_dvd_right _ _)).symm
 refine⟨b,?_⟩;have e:bH c*(D:Rat)<=(B:Rat)*(D:Rat):=Rat.mul_le_mul_of_nonneg_right l Rat.natCast_nonneg;have j:bH c*(D:Rat)=bH (k:Rat):=by rw[<-i,jK,bO (c:=(D:Rat)) Rat.natCast_nonneg]
 rw[j,rabs_int,<-Rat.natCast_mul]at e;have n:k.natAbs<=B*D:=Rat.natCast_le_natCast.1 e;have o:c.num.natAbs<=k.natAbs:=by rw[e1];exact Int.natAbs_ediv_le_natAbs _ _
 omega
theorem KW{B D a b:Nat}(h:B<2^a)(d:D<2^b):B*D<2^(a+b):=by rw[Nat.pow_add];exact Nat.mul_lt_mul'' h d
theorem xN{s:Sz}{c:Rat}(d:s.ok)(h:Dv s.D c)(l:bH c<=(s.B:Rat)):Rs c:=by obtain⟨i,j⟩:=I5 d.1 h l;have hd:=Nat.le_of_dvd d.1 i;obtain⟨p1,e,m,n,o⟩:=d;refine⟨Nat.le_trans (jL (k:=16) (Nat.lt_of_le_of_lt hd e)) oM,?_⟩;have:=jL (Nat.lt_of_le_of_lt j (KW (a:=1000) (b:=16) m (show s.D<2^16 from e)));omega
end Go.Proofs.YtopclbeomcggiaaGreat
namespace Q
open Go Go.RowKit Q Go.Proofs.YtopclbeomcggiaaGreat
def Sz.okw (s:Sz):Prop:=0<s.D/\aF s.D<=jl/32/\aF s.B<=jl/32/\s.E<1000000/\s.N<=100000000
theorem Sz.ok.w{s:Sz}(h:s.ok):s.okw:=by obtain⟨b,d,e,i,j⟩:=h;exact⟨b,Nat.le_trans (Qu d) (by unfold jl;omega),Nat.le_trans (jL e) (by unfold jl;omega),i,oM⟩
theorem I6{s:Sz}{c:Rat}(b:s.okw)(h:Dv s.D c)(i:bH c<=(s.B:Rat)):Rk c:=by obtain⟨d,e⟩:=I5 b.1 h i;have hd:=Nat.le_of_dvd b.1 d;obtain⟨p1,j,m,n,o⟩:=b;refine⟨Nat.le_trans (iV hd) (Nat.le_trans j (by unfold jl;omega)),?_⟩;have k:=iV e;have l:=gB s.B s.D;unfold jl at *;omega
theorem Bd.rs{s:Sz}{l:List ai}(h:Bd s l)(i:s.ok):∀t∈l,Rs t.2:=λt e=>xN i (h.d t e) (Rat.le_trans (tN e) h.b)
end Q
namespace Go.Proofs.YtopclbeomcggiaaGreat
open Go.RowKit Q
end Go.Proofs.YtopclbeomcggiaaGreat
namespace Q
open Go Go.RowKit Q Go.Proofs.YtopclbeomcggiaaGreat
theorem Bd.inRw{s:Sz}{l:List ai}(h:Bd s l)(b:s.okw):∀t∈l,InR t.1:=λt d=>InR.of (K:=s.E) (by have:=b.2.2.2.1;omega) (h.e t d)
theorem Bd.inR{s:Sz}{l:List ai}(h:Bd s l)(b:s.ok):∀t∈l,InR t.1:=h.inRw b.w
end Q
namespace Go.Proofs.YtopclbeomcggiaaGreat
open Go.RowKit Q
end Go.Proofs.YtopclbeomcggiaaGreat
namespace Q
open Go Go.RowKit Q Go.Proofs.YtopclbeomcggiaaGreat
theorem Bd.len{s:Sz}{l:List ai}(h:Bd s l)(b:s.ok):l.length<=100000000:=by have:=h.n;have:=b.2.2.2.2;omega
end Q
namespace Go.Proofs.YtopclbeomcggiaaGreat
open Go.RowKit Q
end Go.Proofs.YtopclbeomcggiaaGreat
namespace Q
open Go Go.RowKit Q Go.Proofs.YtopclbeomcggiaaGreat
theorem Bd.take{s:Sz}{l:List ai}(h:Bd s l)(k:Nat):Bd s (l.take k):=h.sub (List.take_sublist _ _)
end Q
namespace Go.Proofs.YtopclbeomcggiaaGreat
open Go.RowKit Q
theorem I7{s:Sz}:∀{l:List ai},(∀t∈l,Dv s.D t.2)->∀e,Dv s.D (cf l e)/\bH (cf l e)<=bI l
 | [],_,e=>⟨by rw[jv];exact Dv.zero _,by rw[jv];simp only[bI,bH];split<;>grind⟩
 | t::l,h,e=>by
  obtain⟨b,j⟩:=I7 (s:=s) (l:=l) (λt i=>h t (by simp[i])) e;rw[bJ];have d:=h t sM;have k:=fM t.2;split
  ·refine⟨d.add b,?_⟩;have:=Bi t.2 (cf l e);simp only[bI];grind
  ·have e0:0+cf l e=cf l e:=gR;rw[e0];refine⟨b,?_⟩;simp only[bI];grind
end Go.Proofs.YtopclbeomcggiaaGreat
namespace Q
open Go Go.RowKit Q Go.Proofs.YtopclbeomcggiaaGreat
theorem Bd.rkw{s:Sz}{l:List ai}(h:Bd s l)(i:s.okw):∀t∈l,Rk t.2:=λt e=>I6 i (h.d t e) (Rat.le_trans (tN e) h.b)
theorem Bd.oklw{s:Sz}{l:List ai}(h:Bd s l)(i:s.okw):Tv l where
 n:=Nat.le_trans h.n i.2.2.2.2
 r:=λt j=>⟨h.inRw i t j,h.rkw i t j⟩
 c:=λk e=>by obtain⟨m,o⟩:=I7 (s:=s) (h.take k).d e;exact I6 i m (Rat.le_trans o (h.take k).b)
end Q
namespace Go.Proofs.YtopclbeomcggiaaGreat
open Go.RowKit Q
theorem Fb(v:Value)(l:List ai)(s:Sz)(w:World)(h:ak w v l)(hb:Bd s l)(q:s.ok):Calls Tryz.prog 43 #[v] w (aS w (canon l)):=by
 obtain⟨ap,cp,rfl,C⟩:=h.shape;have B:=hb.len q;have x:=zH (hb.rs q);have r:=zH (λk=>(hb.take k).canon.rs q);have u:=zH (λk=>(hb.take k).canon.len q);clear hb
 go_enter Tryz.func43,Tryz.ntmps43
 go_wp2;have hb0:Below w.heap.size w (w.alloc (.cells #[] aJ)):=(Below.refl _ _).alloc (nL _) _;have j:ak (w.alloc (.cells #[] aJ)) (.slice (some ⟨w.heap.size,0,none⟩) 0 0) []:=(gX aO w).isSl;change Below w.heap.size w (w.alloc (.cells #[] 43))at hb0;change ak (w.alloc (.cells #[] 43)) _ _ at j
 go_loopw [3,4] (λo i wr=>∃k:Nat,k<=l.length/\i=.int .i64 k/\Hid (ak wr o (canon (l.take k)))/\Below w.heap.size w wr) (λ_ i _=>l.length-(intOf i).toNat)
 case atStart=>exact⟨0,oM,rfl,zH j,hb0⟩
 case round =>
  clear j hb0;obtain⟨k,D,rfl,hP,b⟩:=hrel;by_cases p:k<l.length
  ·have d:l[k]?=some l[k]:=gE p;generalize l[k]=t at d;obtain⟨y,op,m,rfl,-,hE,hC⟩:=(h.on b).get d;change bS aJ wr y (op+k*8) _ at hC;have z:(k:Int)<l.length:=oM;have hr:=hC.range;have h8:m.length=8:=aO.len hE;have n:=KU u3 (canon (l.take k)) m t wr hP.out hE (r.out k) (x.out t (List.mem_of_getElem? d)) (u.out k);rw[<-KV d]at n
   go_wp2_with (first
    | (refine aj rfl _ _ 26 rfl aJ Tryz.underlying26 _ 8 96 kM _ _ _ rfl .i64 _ rfl k rfl p y op rfl ?_)
    | (refine wpList_load_mid rfl 43 _ rfl _ _ rfl _ _ hr Tryz.underlying43 rfl (by rw[h8];kernel_rfl) ?_)
    | (go_at_call 82;refine n.mono ?_;rintro en w3 ⟨v3,rfl,hv3,hb3⟩))
   go_roundw
   case rel=>exact⟨k+1,oM,nM,zH hv3,b.trans (hb3.mono b.size)⟩
   case measure=>simp[intOf];omega
  ·obtain rfl:k=l.length:=oM;rw[tL (nL _)]at hP;go_wp2;go_ret;exact⟨_,rfl,hP.out,b⟩
end Go.Proofs.YtopclbeomcggiaaGreat
end
section
namespace Go.Proofs.YtopclbeomcggiaaGreat
open Go.RowKit Q Go.WideMaps Go.Maps
theorem Cz(v:Nat)(w:World)(hv:v<4):Calls Tryz.prog 37 #[.int .i64 v] w (aS w (rG v)):=by
 have l:=λW=>gG 1 W oM oM;obtain rfl|rfl|rfl|rfl:v=0\/v=1\/v=2\/v=3:=oM
 ·go_enter Tryz.func37,Tryz.ntmps37
  go_upto_region 2 with (go_at_call 24;refine(l _).mono ?_;rintro e w1 ⟨v1,rfl,hv1,hb1⟩;obtain⟨n,a,k,c,n',a',k',c',rfl⟩:=fE hv1)
  refine jb λW hb2 B j=>?_;have z:=B.at1 0 _ rfl;have hf:=B.frozen 0
  go_upto_region 3 with (fail)
  have b:=B.set 0 (.int .i64 1);have hb3:Below w1.heap.size W (W.setCell ⟨w1.heap.size,0,none⟩ (.int .i64 1)):=bF (nL _) _;generalize W.setCell ⟨w1.heap.size,0,none⟩ (.int .i64 1)=W3 at *;have hv3:=(hv1.on hb2);have hb13:=hb2.trans hb3;have z1:=b.at1 0 _ rfl;have z2:=b.at1 1 _ rfl;have z3:=b.at1 2 _ rfl;have z4:=b.at1 3 _ rfl;have y1:=b.at1 4 _ rfl;have y2:=b.at1 5 _ rfl;have y3:=b.at1 6 _ rfl;have y4:=b.at1 7 _ rfl;clear z hf;go_wp2;go_ret;have i:Below W3.heap.size W3 (W3.alloc (.cells #[.int .i64 1,.int .i64 0,.int .i64 0,.int .i64 0,.bool n,.slice a k c,.bool n',.slice a' k' c'] aJ)):=(Below.refl _ _).alloc (nL _) _;have d:=hb13.trans (i.mono hb13.size);exact⟨_,rfl,mh (t:=(zR 0,1)) (Blk.new W3 aJ [.int .i64 1,.int .i64 0,.int .i64 0,.int .i64 0,.bool n,.slice a k c,.bool n',.slice a' k' c']) ⟨[.bool n,.slice a k c,.bool n',.slice a' k' c'],rfl,(hv1.on d).cellsC⟩,hb1.trans (d.mono hb1.size)⟩
 ·go_enter Tryz.func37,Tryz.ntmps37
  go_upto_region 2 with (go_at_call 24;refine(l _).mono ?_;rintro e w1 ⟨v1,rfl,hv1,hb1⟩;obtain⟨n,a,k,c,n',a',k',c',rfl⟩:=fE hv1)
  refine jb λW hb2 B j=>?_;have z:=B.at1 1 _ rfl;have hf:=B.frozen 1
  go_upto_region 3 with (fail)
  have b:=B.set 1 (.int .i64 1);have hb3:Below w1.heap.size W (W.setCell ⟨w1.heap.size,1,none⟩ (.int .i64 1)):=bF (nL _) _;generalize W.setCell ⟨w1.heap.size,1,none⟩ (.int .i64 1)=W3 at *;have hv3:=(hv1.on hb2);have hb13:=hb2.trans hb3;have z1:=b.at1 0 _ rfl;have z2:=b.at1 1 _ rfl;have z3:=b.at1 2 _ rfl;have z4:=b.at1 3 _ rfl;have y1:=b.at1 4 _ rfl;have y2:=b.at1 5 _ rfl;have y3:=b.at1 6 _ rfl;have y4:=b.at1 7 _ rfl;clear z hf;go_wp2;go_ret;have i:Below W3.heap.size W3 (W3.alloc (.cells #[.int .i64 0,.int .i64 1,.int .i64 0,.int .i64 0,.bool n,.slice a k c,.bool n',.slice a' k' c'] aJ)):=(Below.refl _ _).alloc (nL _) _;have d:=hb13.trans (i.mono hb13.size);exact⟨_,rfl,mh (t:=(zR 1,1)) (Blk.new W3 aJ [.int .i64 0,.int .i64 1,.int .i64 0,.int .i64 0,.bool n,.slice a k c,.bool n',.slice a' k' c']) ⟨[.bool n,.slice a k c,.bool n',.slice a' k' c'],rfl,(hv1.on d).cellsC⟩,hb1.trans (d.mono hb1.size)⟩
 ·go_enter Tryz.func37,Tryz.ntmps37
  go_upto_region 2 with (go_at_call 24;refine(l _).mono ?_;rintro e w1 ⟨v1,rfl,hv1,hb1⟩;obtain⟨n,a,k,c,n',a',k',c',rfl⟩:=fE hv1)
  refine jb λW hb2 B j=>?_;have z:=B.at1 2 _ rfl;have hf:=B.frozen 2
  go_upto_region 3 with (fail)
  have b:=B.set 2 (.int .i64 1);have hb3:Below w1.heap.size W (W.setCell ⟨w1.heap.size,2,none⟩ (.int .i64 1)):=bF (nL _) _;generalize W.setCell ⟨w1.heap.size,2,none⟩ (.int .i64 1)=W3 at *;have hv3:=(hv1.on hb2);have hb13:=hb2.trans hb3;have z1:=b.at1 0 _ rfl;have z2:=b.at1 1 _ rfl;have z3:=b.at1 2 _ rfl;have z4:=b.at1 3 _ rfl;have y1:=b.at1 4 _ rfl;have y2:=b.at1 5 _ rfl;have y3:=b.at1 6 _ rfl;have y4:=b.at1 7 _ rfl;clear z hf;go_wp2;go_ret;have i:Below W3.heap.size W3 (W3.alloc (.cells #[.int .i64 0,.int .i64 0,.int .i64 1,.int .i64 0,.bool n,.slice a k c,.bool n',.slice a' k' c'] aJ)):=(Below.refl _ _).alloc (nL _) _;have d:=hb13.trans (i.mono hb13.size);exact⟨_,rfl,mh (t:=(zR 2,1)) (Blk.new W3 aJ [.int .i64 0,.int .i64 0,.int .i64 1,.int .i64 0,.bool n,.slice a k c,.bool n',.slice a' k' c']) ⟨[.bool n,.slice a k c,.bool n',.slice a' k' c'],rfl,(hv1.on d).cellsC⟩,hb1.trans (d.mono hb1.size)⟩
 ·go_enter Tryz.func37,Tryz.ntmps37
  go_upto_region 2 with (go_at_call 24;refine(l _).mono ?_;rintro e w1 ⟨v1,rfl,hv1,hb1⟩;obtain⟨n,a,k,c,n',a',k',c',rfl⟩:=fE hv1)
  refine jb λW hb2 B j=>?_;have z:=B.at1 3 _ rfl;have hf:=B.frozen 3
  go_upto_region 3 with (fail)
  have b:=B.set 3 (.int .i64 1);have hb3:Below w1.heap.size W (W.setCell ⟨w1.heap.size,3,none⟩ (.int .i64 1)):=bF (nL _) _;generalize W.setCell ⟨w1.heap.size,3,none⟩ (.int .i64 1)=W3 at *;have hv3:=(hv1.on hb2);have hb13:=hb2.trans hb3;have z1:=b.at1 0 _ rfl;have z2:=b.at1 1 _ rfl;have z3:=b.at1 2 _ rfl;have z4:=b.at1 3 _ rfl;have y1:=b.at1 4 _ rfl;have y2:=b.at1 5 _ rfl;have y3:=b.at1 6 _ rfl;have y4:=b.at1 7 _ rfl;clear z hf;go_wp2;go_ret;have i:Below W3.heap.size W3 (W3.alloc (.cells #[.int .i64 0,.int .i64 0,.int .i64 0,.int .i64 1,.bool n,.slice a k c,.bool n',.slice a' k' c'] aJ)):=(Below.refl _ _).alloc (nL _) _;have d:=hb13.trans (i.mono hb13.size);exact⟨_,rfl,mh (t:=(zR 3,1)) (Blk.new W3 aJ [.int .i64 0,.int .i64 0,.int .i64 0,.int .i64 1,.bool n,.slice a k c,.bool n',.slice a' k' c']) ⟨[.bool n,.slice a k c,.bool n',.slice a' k' c'],rfl,(hv1.on d).cellsC⟩,hb1.trans (d.mono hb1.size)⟩
theorem OY(c:Rat):canon [(e0,c)]=bZ c:=by
 show ins [] (e0,c)=_;unfold ins bZ;by_cases h:c=0
 ·rw[if_pos h,if_neg (by simp[h])]
 ·rw[if_neg h,if_pos ⟨h,rfl⟩]
theorem wE(v:Value)(c:Rat)(s:Sz)(w:World)(h:bM w v c)(hb:Bd s [(e0,c)])(l:s.ok):Calls Tryz.prog 72 #[v] w (aS w (bZ c)):=by
 obtain⟨n,a,k,q,n',a',k',i,rfl⟩:=fE h;have d:=λW v hv=>Fb v [(e0,c)] s W hv hb l;rw[OY]at d;clear hb l
 go_enter Tryz.func72,Tryz.ntmps72
 go_upto_region 1 with (fail)
 refine jb λW hb B m=>?_;have y1:=B.at1 0 _ rfl;have y2:=B.at1 1 _ rfl;have y3:=B.at1 2 _ rfl;have y4:=B.at1 3 _ rfl;have b:Below W.heap.size W (W.alloc (.cells #[.int .i64 0,.int .i64 0,.int .i64 0,.int .i64 0,.bool n,.slice a k q,.bool n',.slice a' k' i] aJ)):=(Below.refl _ _).alloc (nL _) _
 have j:ak (W.alloc (.cells #[.int .i64 0,.int .i64 0,.int .i64 0,.int .i64 0,.bool n,.slice a k q,.bool n',.slice a' k' i] aJ)) (.slice (some ⟨W.heap.size,0,none⟩) 1 1) [(e0,c)] :=
  mh (t:=(e0,c)) (Blk.new W aJ [.int .i64 0,.int .i64 0,.int .i64 0,.int .i64 0,.bool n,.slice a k q,.bool n',.slice a' k' i]) ⟨[.bool n,.slice a k q,.bool n',.slice a' k' i],rfl,((h.on hb).on b).cellsC⟩
 go_wp2_with (go_at_call 43;refine(d _ _ j).mono ?_;rintro e w4 ⟨v4,rfl,hv4,hb4⟩)
 go_ret;exact⟨_,rfl,hv4,hb.trans ((b.trans (hb4.mono b.size)).mono hb.size)⟩
theorem KX(n:Int)(s:Sz)(w:World)(h1:-4611686018427387904<=n)(h2:n<=4611686018427387904)(hb:Bd s [(e0,(n:Rat))])(b:s.ok):Calls Tryz.prog 79 #[.int .i64 n] w (aS w (bZ n)):=by
 go_enter Tryz.func79,Tryz.ntmps79
 go_wp2_with (first
  | (go_at_call 24;refine(gG n _ h1 h2).mono ?_;rintro e w1 ⟨v1,rfl,hv1,hb1⟩)
  | (go_at_call 72;refine(wE _ _ s _ hv1 hb b).mono ?_;rintro e w2 ⟨v2,rfl,hv2,hb2⟩))
 go_ret;exact⟨_,rfl,hv2,hb1.trans (hb2.mono hb1.size)⟩
theorem WQ{p q:List ai}(d:p.length=q.length)(h:∀j:Nat,j<p.length->p[j]?=q[j]?):p=q:=by
 apply List.ext_getElem? ;intro j;by_cases b:j<p.length
 ·exact h j b
 ·rw[gN oM,gN oM]
theorem KY(I J:Value)(p q:List ai)(w:World)(hp:ak w I p)(hq:ak w J q)(D:∀t∈p,Rk t.2)(F:∀t∈q,Rk t.2)(Z:p.length<=100000000) :
  Calls Tryz.prog 45 #[I,J] w (rE w (.bool (decide (p=q)))):=by
 obtain⟨ap,cp,rfl,M⟩:=hp.shape;obtain⟨X,x,rfl,N⟩:=hq.shape;obtain⟨R,hR⟩:∃R,R=decide (p=q):=⟨_,rfl⟩;rw[<-hR];replace hR:=zH hR;by_cases u:p.length=q.length
 ·have B:((p.length:Int) != q.length)=false:=by simp[u]
  replace D:=zH D;replace F:=zH F;replace u:=zH u
  go_enter Tryz.func45,Tryz.ntmps45
  go_wp2
  go_loopw [5] (λi wr=>∃k:Nat,k<=p.length/\i=.int .i64 k/\Hid (∀j:Nat,j<k->p[j]?=q[j]?)/\Below w.heap.size w wr) (λi _=>p.length-(intOf i).toNat)
  case atStart=>exact⟨0,oM,rfl,zH (λj h=>oM),Below.refl _ _⟩
  case round =>
   obtain⟨k,Y,rfl,r,b⟩:=hrel;by_cases m:k<p.length
   ·have hj1:p[k]?=some p[k]:=gE m;have n:k<q.length:=by have:=u.out;omega
    have hj2:q[k]?=some q[k]:=gE n;generalize p[k]=s at hj1;generalize q[k]=t at hj2;obtain⟨b1,o1,cs1,rfl,-,hE1,hC1⟩:=hp.get hj1;obtain⟨b2,o2,Vx,rfl,-,hE2,hC2⟩:=hq.get hj2;obtain⟨r1,rfl,hr1⟩:=hE1;obtain⟨r2,rfl,hr2⟩:=hE2;change bS aJ w b1 (o1+k*8) _ at hC1;change bS aJ w b2 (o2+k*8) _ at hC2;have y:=D.out s (List.mem_of_getElem? hj1);have z:=F.out t (List.mem_of_getElem? hj2);have G:(k:Int)<p.length:=oM;have hl1:=hr1.len;have hl2:=hr2.len;have hex:=λL=>QQ s.1 t.1 L
    have bY:s=t->Hid (∀j:Nat,j<k+1->p[j]?=q[j]?):=λh j S=>by
     rcases Nat.lt_or_ge j k with h'|h'
     ·exact r.out j h'
     ·obtain rfl:j=k:=oM;rw[hj1,hj2,h]
    have d:s≠t->Hid (R=false):=λh=>by rw[hR.out,decide_eq_false_iff_not];intro C;rw[C,hj2]at hj1;exact h (Option.some.inj hj1.symm)
    clear hj1 hj2 r
    go_upto_region 6 with (fail)
    by_cases he:s.1=t.1
    ·have hd:decide (s.1=t.1)=true:=by simpa using he
     rw[hd]at hex;replace he:=zH he;by_cases hc:s.2=t.2
     ·have l:=bY (Prod.ext he.out hc);have o:decide (s.2=t.2)=true:=by simpa using hc
      clear bY d hd hc;refine aC mixed (none) (0) (fK.none) [.eq (.slice (some ⟨b1,o1,none⟩) p.length cp),.eq (.int .i64 k),.eq (.pointer (some ⟨b1,o1+k*8,none⟩)),.eq (.pointer (some ⟨b1,o1+k*8,none⟩)),.eq (.agg (bC s.1).toArray),.eq (.slice (some ⟨b2,o2,none⟩) q.length x),.eq (.int .i64 k),.eq (.pointer (some ⟨b2,o2+k*8,none⟩)),.eq (.pointer (some ⟨b2,o2+k*8,none⟩)),.eq (.agg (bC t.1).toArray),.eq (.bool false),.eq (.bool false),.eq (.slice (some ⟨b1,o1,none⟩) p.length cp),.eq (.int .i64 k),.eq (.pointer (some ⟨b1,o1+k*8,none⟩)),.eq (.pointer (some ⟨b1,o1+k*8+4,none⟩)),.eq (.agg (r1).toArray),.eq (.slice (some ⟨b2,o2,none⟩) q.length x),.eq (.int .i64 k),.eq (.pointer (some ⟨b2,o2+k*8,none⟩)),.eq (.pointer (some ⟨b2,o2+k*8+4,none⟩)),.eq (.agg (r2).toArray),.ret (.bool true),.eq (.bool false),.eq (.bool false)] [17,18,19,20,21,22,23,24,25,26,27,28,29,30,31,32,33,34,35,36,37,38,39,40,41] rfl rfl rfl rfl ⟨λ_ _ a _ _ _=>xM rfl (a 0 rfl),λ_ _ a _ _ _=>xM rfl (a 5 rfl),λ_ _ _ _ _ e=>pI rfl Tryz.underlying27 b1 o1 k (m) (e.1 rfl) (e.2.1 rfl),λ_ _ _ _ _ e=>ae rfl (wV rfl (e.1 rfl)),λ_ _ _ hL _ e=>pL rfl (fI (hC1.on (b.trans (hL.below.mono b.size)))) Tryz.underlying36 (show(bC s.1).length=4 from rfl) (e.1 rfl),λ_ _ a _ _ _=>xM rfl (a 1 rfl),λ_ _ a _ _ _=>xM rfl (a 5 rfl),λ_ _ _ _ _ e=>pI rfl Tryz.underlying27 b2 o2 k (n) (e.1 rfl) (e.2.1 rfl),λ_ _ _ _ _ e=>ae rfl (wV rfl (e.1 rfl)),λ_ _ _ hL _ e=>pL rfl (fI (hC2.on (b.trans (hL.below.mono b.size)))) Tryz.underlying36 (show(bC t.1).length=4 from rfl) (e.1 rfl),λA _ _ _ _ he=>have h21:=eT 21 (he.1 rfl);have h26:=eT 26 (he.2.1 rfl);pZ rfl,λ_ _ _ _ _ e=>xM rfl (e.1 rfl),λ_ _ a _ _ e=>yM (e.1 rfl) rfl (a 0 rfl),λ_ _ a _ _ e=>yM (e.1 rfl) rfl (a 5 rfl),λ_ _ _ _ _ e=>aQ rfl rfl (e.2.2.1 rfl) (xI rfl Tryz.underlying27 b1 o1 k (m) (e.1 rfl) (e.2.1 rfl)),λ_ _ _ _ _ e=>aQ rfl rfl (e.2.1 rfl) (EU rfl (e.1 rfl)),λ_ _ _ hL _ e=>aQ rfl rfl (e.2.1 rfl) (xL rfl (gU (hC1.on (b.trans (hL.below.mono b.size)))) Tryz.underlying41 (hl1) (e.1 rfl)),λ_ _ a _ _ e=>yM (e.1 rfl) rfl (a 1 rfl),λ_ _ a _ _ e=>yM (e.1 rfl) rfl (a 5 rfl),λ_ _ _ _ _ e=>aQ rfl rfl (e.2.2.1 rfl) (xI rfl Tryz.underlying27 b2 o2 k (n) (e.1 rfl) (e.2.1 rfl)),λ_ _ _ _ _ e=>aQ rfl rfl (e.2.1 rfl) (EU rfl (e.1 rfl)),λ_ _ _ hL _ e=>aQ rfl rfl (e.2.1 rfl) (xL rfl (gU (hC2.on (b.trans (hL.below.mono b.size)))) Tryz.underlying41 (hl2) (e.1 rfl)),λA _ _ _ hS he=>have hb:=hS rfl;have h28:=eT 28 (he.2.2.1 rfl);have h33:=eT 33 (he.1 rfl);have h38:=eT 38 (he.2.1 rfl);have hf0:=eF A 23;cY (f:=23) (args:=#[.agg (r1).toArray,.agg (r2).toArray]) h28 (o▸Fa _ _ _ _ _ (hr1.on (b.trans (hb.mono b.size))).rat (hr2.on (b.trans (hb.mono b.size))).rat y z),λA _ _ _ _ he=>have h28:=eT 28 (he.2.1 rfl);have h39:=eT 39 (he.1 rfl);yZ h28 rfl,λ_ _ _ _ _ e=>pK rfl (e.1 rfl) (e.2.1 rfl),trivial⟩ ?_
      ·intro W2 hL2;simp only[aT,af.eq,af.ret,lZ];go_frame;clear hex;go_wp2;go_roundw
       case rel=>exact⟨k+1,oM,nM,l,b.trans (hL2.below.mono b.size)⟩
       case measure=>simp[intOf];omega
     ·have l:=d (λh=>hc (by rw[h]));have o:decide (s.2=t.2)=false:=by simpa using hc
      clear bY d hd hc;refine aC mixed (none) (0) (fK.none) [.eq (.slice (some ⟨b1,o1,none⟩) p.length cp),.eq (.int .i64 k),.eq (.pointer (some ⟨b1,o1+k*8,none⟩)),.eq (.pointer (some ⟨b1,o1+k*8,none⟩)),.eq (.agg (bC s.1).toArray),.eq (.slice (some ⟨b2,o2,none⟩) q.length x),.eq (.int .i64 k),.eq (.pointer (some ⟨b2,o2+k*8,none⟩)),.eq (.pointer (some ⟨b2,o2+k*8,none⟩)),.eq (.agg (bC t.1).toArray),.eq (.bool false),.eq (.bool false),.eq (.slice (some ⟨b1,o1,none⟩) p.length cp),.eq (.int .i64 k),.eq (.pointer (some ⟨b1,o1+k*8,none⟩)),.eq (.pointer (some ⟨b1,o1+k*8+4,none⟩)),.eq (.agg (r1).toArray),.eq (.slice (some ⟨b2,o2,none⟩) q.length x),.eq (.int .i64 k),.eq (.pointer (some ⟨b2,o2+k*8,none⟩)),.eq (.pointer (some ⟨b2,o2+k*8+4,none⟩)),.eq (.agg (r2).toArray),.ret (.bool false),.eq (.bool true),.eq (.bool true)] [17,18,19,20,21,22,23,24,25,26,27,28,29,30,31,32,33,34,35,36,37,38,39,40,41] rfl rfl rfl rfl ⟨λ_ _ a _ _ _=>xM rfl (a 0 rfl),λ_ _ a _ _ _=>xM rfl (a 5 rfl),λ_ _ _ _ _ e=>pI rfl Tryz.underlying27 b1 o1 k (m) (e.1 rfl) (e.2.1 rfl),λ_ _ _ _ _ e=>ae rfl (wV rfl (e.1 rfl)),λ_ _ _ hL _ e=>pL rfl (fI (hC1.on (b.trans (hL.below.mono b.size)))) Tryz.underlying36 (show(bC s.1).length=4 from rfl) (e.1 rfl),λ_ _ a _ _ _=>xM rfl (a 1 rfl),λ_ _ a _ _ _=>xM rfl (a 5 rfl),λ_ _ _ _ _ e=>pI rfl Tryz.underlying27 b2 o2 k (n) (e.1 rfl) (e.2.1 rfl),λ_ _ _ _ _ e=>ae rfl (wV rfl (e.1 rfl)),λ_ _ _ hL _ e=>pL rfl (fI (hC2.on (b.trans (hL.below.mono b.size)))) Tryz.underlying36 (show(bC t.1).length=4 from rfl) (e.1 rfl),λA _ _ _ _ he=>have h21:=eT 21 (he.1 rfl);have h26:=eT 26 (he.2.1 rfl);pZ rfl,λ_ _ _ _ _ e=>xM rfl (e.1 rfl),λ_ _ a _ _ e=>yM (e.1 rfl) rfl (a 0 rfl),λ_ _ a _ _ e=>yM (e.1 rfl) rfl (a 5 rfl),λ_ _ _ _ _ e=>aQ rfl rfl (e.2.2.1 rfl) (xI rfl Tryz.underlying27 b1 o1 k (m) (e.1 rfl) (e.2.1 rfl)),λ_ _ _ _ _ e=>aQ rfl rfl (e.2.1 rfl) (EU rfl (e.1 rfl)),λ_ _ _ hL _ e=>aQ rfl rfl (e.2.1 rfl) (xL rfl (gU (hC1.on (b.trans (hL.below.mono b.size)))) Tryz.underlying41 (hl1) (e.1 rfl)),λ_ _ a _ _ e=>yM (e.1 rfl) rfl (a 1 rfl),λ_ _ a _ _ e=>yM (e.1 rfl) rfl (a 5 rfl),λ_ _ _ _ _ e=>aQ rfl rfl (e.2.2.1 rfl) (xI rfl Tryz.underlying27 b2 o2 k (n) (e.1 rfl) (e.2.1 rfl)),λ_ _ _ _ _ e=>aQ rfl rfl (e.2.1 rfl) (EU rfl (e.1 rfl)),λ_ _ _ hL _ e=>aQ rfl rfl (e.2.1 rfl) (xL rfl (gU (hC2.on (b.trans (hL.below.mono b.size)))) Tryz.underlying41 (hl2) (e.1 rfl)),λA _ _ _ hS he=>have hb:=hS rfl;have h28:=eT 28 (he.2.2.1 rfl);have h33:=eT 33 (he.1 rfl);have h38:=eT 38 (he.2.1 rfl);have hf0:=eF A 23;cY (f:=23) (args:=#[.agg (r1).toArray,.agg (r2).toArray]) h28 (o▸Fa _ _ _ _ _ (hr1.on (b.trans (hb.mono b.size))).rat (hr2.on (b.trans (hb.mono b.size))).rat y z),λA _ _ _ _ he=>have h28:=eT 28 (he.2.1 rfl);have h39:=eT 39 (he.1 rfl);yZ h28 rfl,λ_ _ _ _ _ e=>pK rfl (e.1 rfl) (e.2.1 rfl),trivial⟩ ?_
      ·intro W2 hL2;simp only[aT,af.eq,af.ret,lZ];go_frame;clear hex;go_wp2;go_ret;exact⟨by rw[l.out]<;>rfl,b.trans (hL2.below.mono b.size)⟩
    ·have l:=d (λh=>he (by rw[h]));have hd:decide (s.1=t.1)=false:=by simpa using he
     rw[hd]at hex;clear bY d hd he;refine aC mixed (none) (0) (fK.none) [.eq (.slice (some ⟨b1,o1,none⟩) p.length cp),.eq (.int .i64 k),.eq (.pointer (some ⟨b1,o1+k*8,none⟩)),.eq (.pointer (some ⟨b1,o1+k*8,none⟩)),.eq (.agg (bC s.1).toArray),.eq (.slice (some ⟨b2,o2,none⟩) q.length x),.eq (.int .i64 k),.eq (.pointer (some ⟨b2,o2+k*8,none⟩)),.eq (.pointer (some ⟨b2,o2+k*8,none⟩)),.eq (.agg (bC t.1).toArray),.eq (.bool true),.eq (.bool true),.eq undef,.eq undef,.eq undef,.eq undef,.eq undef,.eq undef,.eq undef,.eq undef,.eq undef,.eq undef,.eq undef,.eq undef,.eq (.bool true)] [17,18,19,20,21,22,23,24,25,26,27,28,29,30,31,32,33,34,35,36,37,38,39,40,41] rfl rfl rfl rfl ⟨λ_ _ a _ _ _=>xM rfl (a 0 rfl),λ_ _ a _ _ _=>xM rfl (a 5 rfl),λ_ _ _ _ _ e=>pI rfl Tryz.underlying27 b1 o1 k (m) (e.1 rfl) (e.2.1 rfl),λ_ _ _ _ _ e=>ae rfl (wV rfl (e.1 rfl)),λ_ _ _ hL _ e=>pL rfl (fI (hC1.on (b.trans (hL.below.mono b.size)))) Tryz.underlying36 (show(bC s.1).length=4 from rfl) (e.1 rfl),λ_ _ a _ _ _=>xM rfl (a 1 rfl),λ_ _ a _ _ _=>xM rfl (a 5 rfl),λ_ _ _ _ _ e=>pI rfl Tryz.underlying27 b2 o2 k (n) (e.1 rfl) (e.2.1 rfl),λ_ _ _ _ _ e=>ae rfl (wV rfl (e.1 rfl)),λ_ _ _ hL _ e=>pL rfl (fI (hC2.on (b.trans (hL.below.mono b.size)))) Tryz.underlying36 (show(bC t.1).length=4 from rfl) (e.1 rfl),λA _ _ _ _ he=>have h21:=eT 21 (he.1 rfl);have h26:=eT 26 (he.2.1 rfl);pZ rfl,λ_ _ _ _ _ e=>xM rfl (e.1 rfl),λ_ _ _ _ _ e=>nO true (e.1 rfl),λ_ _ _ _ _ e=>nO true (e.1 rfl),λ_ _ _ _ _ e=>nO true (e.2.2.1 rfl),λ_ _ _ _ _ e=>nO true (e.2.1 rfl),λ_ _ _ _ _ e=>nO true (e.2.1 rfl),λ_ _ _ _ _ e=>nO true (e.1 rfl),λ_ _ _ _ _ e=>nO true (e.1 rfl),λ_ _ _ _ _ e=>nO true (e.2.2.1 rfl),λ_ _ _ _ _ e=>nO true (e.2.1 rfl),λ_ _ _ _ _ e=>nO true (e.2.1 rfl),λ_ _ _ _ _ e=>nO true (e.2.2.1 rfl),λ_ _ _ _ _ e=>nO true (e.2.1 rfl),λ_ _ _ _ _ e=>ae rfl (ji rfl (e.1 rfl) rfl rfl),trivial⟩ ?_
     ·intro W2 hL2;simp only[aT,af.eq,af.ret,lZ];go_frame;clear hex;go_wp2;go_ret;exact⟨by rw[l.out]<;>rfl,b.trans (hL2.below.mono b.size)⟩
   ·have l:Hid (R=true):=by
     have:=WQ u.out (λj S=>r.out j oM);exact zH (by rw[hR.out];simpa using this)
    go_wp2;go_ret;exact⟨by rw[l.out]<;>rfl,b⟩
 ·have B:((p.length:Int) != q.length)=true:=by simp;omega
  have l:Hid (R=false):=zH (by rw[hR.out,decide_eq_false_iff_not];intro h;exact u (by rw[h]));clear u
  go_enter Tryz.func45,Tryz.ntmps45
  go_wp2;go_ret;exact⟨by rw[l.out]<;>rfl,Below.refl _ _⟩
theorem OZ(b d:Value)(p q:List ai)(w:World)(hp:ak w b p)(hq:ak w d q)(j:∀t∈p,Rk t.2)(k:∀t∈q,Rk t.2)(i:p.length<=100000000) :
  Calls Tryz.prog 13 #[b,d] w (rE w (.bool (decide (p=q)))):=by
 have hc:=λW (hb:Below w.heap.size w W)=>KY b d p q W (hp.on hb) (hq.on hb) j k i;generalize decide (p=q)=R at *
 go_enter Tryz.func13,Tryz.ntmps13
 go_wp2_with (go_at_call 45;refine(hc _ (Below.refl _ _)).mono ?_;rintro e w1 ⟨rfl,hb1⟩)
 go_ret;exact⟨rfl,hb1⟩
end Go.Proofs.YtopclbeomcggiaaGreat
end
section
namespace Q
open Go Go.RowKit
theorem bU.lrB{α:Type}{e:El α}{w w':World}{v:Value}{l:List α}{g:Option Nat}{T:TypeId}(h:bU e w v l)(j:Lr g T w w')(p:e.ok T)(i:∀d n c,v=.slice (some d) n c->some d.block≠g):bU e w' v l:=by obtain⟨d,cap,q,rfl,k,m,o⟩:=h;refine⟨d,cap,q,rfl,k,λhp=>?_,o.lr p j⟩;obtain⟨b,off,e1,hc⟩:=m hp;subst e1;exact⟨b,off,rfl,hc.lr' j (i _ _ _ rfl)⟩
end Q
namespace Q
open Go Go.RowKit Go.Proofs.YtopclbeomcggiaaGreat
def af.own {T:TypeId} (B:Nat) (l:List ai):af (Lr none T):=af.of (λv w=>bV B w v l) (λ_ _ _ hb h=>h.on hb.below)
end Q
namespace Go.Proofs.YtopclbeomcggiaaGreat
open Go.RowKit Q Go.WideMaps Go.Maps
theorem CB{w:World}{r:List Value}{q:Rat}{e:Ex}(h:gM w r q):(bC e++r).toArray.all (·.oneCell')=true:=by
 rw[Array.all_eq_true_iff_forall_mem];intro v hv;rcases List.mem_append.1 (by simpa using hv)with hv|hv
 ·exact AP e v hv
 ·exact h.one v hv
def gI (m g:ai):ai:=(m.1.sub g.1,m.2/g.2)
structure Nc (b:List ai) (g m:ai) (a:List ai):Prop where
 he:InR (m.1.sub g.1)
 hm:Rk m.2
 hg:Rk g.2
 hz:g.2≠0
structure QR (b:List ai) (g m:ai) (a:List ai):Prop where
 hq:Rk (m.2/g.2)
 hb:(∀t∈b,InR t.1/\Rk t.2)/\b.length<=100000000
 hp:Tv (prods b [gI m g])
 ha:(∀t∈(m::a),Rk t.2)/\(m::a).length<=100000000/\bR (m::a)
 hc:(∀t∈aX b [gI m g],Rk t.2)/\(aX b [gI m g]).length<=100000000
inductive zh (b:List ai) (g:ai):Nat->List ai->List ai->Option (List ai)->Prop
 | done {out:List ai}:zh b g 0 [] out (some out)
 | fail {m:ai} {a out:List ai}:(m.1.sub g.1).nat=false->Nc b g m a->zh b g 0 (m::a) out none
 | step {n:Nat} {m:ai} {a out:List ai} {r:Option (List ai)}:(m.1.sub g.1).nat=true->Nc b g m a->QR b g m a->out.length<=100000000 ->
   zh b g n (gH (m::a) (aX b [gI m g])) (out++[gI m g]) r->zh b g (n+1) (m::a) out r
theorem zh.inv{b:List ai}{g m:ai}{n:Nat}{a out:List ai}{r:Option (List ai)}(h:zh b g n (m::a) out r) :
  Nc b g m a/\((m.1.sub g.1).nat=false->r=none)/\((m.1.sub g.1).nat=true->∃n',n=n'+1/\QR b g m a/\out.length<=100000000/\zh b g n' (gH (m::a) (aX b [gI m g])) (out++[gI m g]) r):=by
 cases h with
 | fail d e=>exact⟨e,λ_=>rfl,(λh=>by rw[d]at h;cases h)⟩
 | step d e i j k=>exact⟨e,(λh=>by rw[d]at h;cases h),λ_=>⟨_,rfl,i,j,k⟩⟩
theorem zh.inv0{b:List ai}{g:ai}{n:Nat}{out:List ai}{r:Option (List ai)}(h:zh b g n [] out r):r=some out:=by cases h;rfl
def AX (w:World) (r:Option (List ai)) (e:Ending) (w':World):Prop:=∃v,e=.returned (.tuple #[v,.bool r.isSome])/\ak w' v (r.getD [])/\Below w.heap.size w w'
theorem TE(b d:Value)(p:List ai)(w:World)(hp:ak w b p)(hq:ak w d []):Calls Tryz.prog 93 #[b,d] w (AX w none):=by
 obtain⟨ap,cp,rfl,i⟩:=hp.shape;obtain⟨k,l,rfl,j⟩:=hq.shape;simp only[List.length_nil]
 go_enter Tryz.func93,Tryz.ntmps93
 go_wp2;go_ret2;exact⟨_,rfl,bU.nil _ _,Below.refl _ _⟩
theorem WR(m g:Ex)(v:Nat)(h:v<4):(Ex.sub m g).get v=m.get v-g.get v:=by
 obtain rfl|rfl|rfl|rfl:v=0\/v=1\/v=2\/v=3:=oM
 all_goals rfl
def xO (m g:Ex):Nat->Ex
 | 0=>m
 | k+1=>(xO m g k).put k (m.get k-g.get k)
theorem KZ(m g:Ex):xO m g 4=m.sub g:=rfl
theorem O0(m g:Ex)(k:Nat)(h:k<4):(xO m g k).get k=m.get k:=by
 obtain rfl|rfl|rfl|rfl:k=0\/k=1\/k=2\/k=3:=oM
 all_goals rfl
theorem TF(vp vq:Value)(p b:List ai)(g:ai)(n:Nat)(r:Option (List ai))(w:World)(hp:ak w vp p)(hq:ak w vq (g::b))(hd:zh (g::b) g n p [] r) :
  Calls Tryz.prog 93 #[vp,vq] w (AX w r):=by
 obtain⟨s,oq,b2,e1,-,au,a7⟩:∃s oq cs,(∃cq,vq=.slice (some ⟨s,oq,none⟩) (b.length+1) cq)/\True/\qf w cs g/\bS aJ w s (oq+0*8) cs:=by obtain⟨aq,cq,rfl,b4⟩:=hq.shape;obtain⟨s,oq,cs,rfl,-,hE,hC⟩:=hq.get (j:=0) (t:=g) rfl;exact⟨s,oq,cs,⟨cq,rfl⟩,trivial,hE,hC⟩
 obtain⟨cq,rfl⟩:=e1;obtain⟨rg,rfl,a5⟩:=au;have ay:=a5.len;replace hd:=zH hd
 go_enter Tryz.func93,Tryz.ntmps93
 go_wp2
 go_loopg [0,6] n (λn va vo wr=>∃a out,Hid (ak wr va a)/\Hid (bV w.heap.size wr vo out)/\Hid (zh (g::b) g n a out r)/\Below w.heap.size w wr/\Hid (a≠[]->∀G n c,va=.slice (some G) n c->some G.block≠vo.ownBlock))
 case atStart=>exact⟨p,[],zH hp,zH (di.nil _ _ _),hd,Below.refl _ _,zH (λ_ G n c _ h=>by simp[Value.ownBlock]at h)⟩
 case round =>
  clear hd;obtain⟨a,out,ha,d,hd,l,F⟩:=hrel
  cases a with
  | nil =>
   have hr:r=some out:=hd.out.inv0;obtain⟨aa,ca,rfl,ax⟩:=ha.out.shape;replace hr:=zH hr;simp only[List.length_nil];go_wp2;go_ret2;exact⟨_,by rw[hr.out];rfl,by rw[hr.out];exact d.out.isSl,l⟩
  | cons m a =>
   obtain⟨B,o,bY⟩:=hd.out.inv;obtain⟨aa,ca,rfl,ax⟩:=ha.out.shape;obtain⟨Y,oa,b0,rfl,-,ar,J⟩:=ha.out.get (j:=0) (t:=m) rfl;obtain⟨ra,rfl,u⟩:=ar;change bS aJ wr Y (oa+0*8) _ at J;have ac:=u.len;have a6:(bC m.1++ra).length=8:=by rw[List.length_append,ac];rfl
   have I:=J.range;rw[Nat.zero_mul,Nat.add_zero]at I;have hne1:some Y≠u6.ownBlock:=λh=>F.out sM _ _ _ rfl h;have M:=λv hv=>Ex.get_bounds B.he (v:=v) hv;have X:=λv hv=>WR m.1 g.1 v hv;replace M:=zH M;replace X:=zH X;replace o:=zH o;replace bY:=zH bY;replace B:=zH B;simp only[List.length_cons]
   go_upto_region 6 with (first
    | (refine aj rfl _ _ 27 rfl aJ Tryz.underlying27 _ 8 96 kM _ _ _ rfl .i64 0 rfl 0 rfl oM Y oa rfl ?_;rw[Nat.zero_mul,Nat.add_zero])
    | (refine wpList_load_mid rfl 43 _ rfl _ _ rfl _ _ I Tryz.underlying43 rfl (by rw[a6];kernel_rfl) ?_)
    | (refine az rfl _ (.tmp 7) (.tmp 17) rfl _ _ _ _ rfl rfl (Blk.new wr aJ [.int .i64 0,.int .i64 0,.int .i64 0,.int .i64 0,.bool false,.slice none 0 0,.bool false,.slice none 0 0]) (by simp[bC,ac]) (by simp only[List.size_toArray,a6];exact za) (CB u) ?_;intro W3 R3 gr3))
   have D:Blk W3 wr.heap.size aJ (bC m.1++ra):=by simpa using R3
   have a9:Below wr.heap.size wr (wr.alloc (.cells #[.int .i64 0,.int .i64 0,.int .i64 0,.int .i64 0,.bool false,.slice none 0 0,.bool false,.slice none 0 0] aJ)):=(Below.refl _ _).alloc (nL _) _;have hb3:Below wr.heap.size wr W3:=a9.trans (aH gr3 sM (nL _));have hbr3:=l.trans (hb3.mono l.size);have ha3:=ha.out.on hb3;have hown3:=d.out.on hb3;have hra3:=u.on hb3;have an:w.heap.size<=wr.heap.size:=l.size;have a4:u6.ownBlock≠some wr.heap.size:=λh=>by have:=(d.out.base_le _ h).2;omega
   have a8:Y≠wr.heap.size:=λh=>by have:=J.lt;omega
   have q:∀k,u6.ownBlock=some k->w.heap.size<=k:=λk Z=>(d.out.base_le k Z).1;clear I R3 gr3 a9 hb3 J ha d u l F hd;generalize wr.heap.size=mb at *;have al:Hid (Blk W3 mb aJ (bC (xO m.1 g.1 0)++ra)):=zH D;clear D;go_wp2
   go_loopw [18] (λi wr=>∃k:Nat,k<=4/\i=.int .i64 k/\Hid (Blk wr mb aJ (bC (xO m.1 g.1 k)++ra))/\Hid (ak wr (.slice (some ⟨Y,oa,none⟩) (a.length+1) ca) (m::a))/\Hid (bV w.heap.size wr u6 out)/\Hid (gM wr ra m.2)/\Below w.heap.size w wr) (λi _=>4-(intOf i).toNat)
   case atStart=>exact⟨0,oM,rfl,al,zH ha3,zH hown3,zH hra3,hbr3⟩
   case round =>
    clear al ha3 hown3 hra3 hbr3;obtain⟨k,Z,rfl,hB,ha,d,u,l⟩:=hrel;by_cases hk4:k<4
    ·have D:=hB.out;have aE:(k:Int)<4:=oM;have a2:=qh (xO m.1 g.1 k) k hk4 ra;rw[O0 _ _ _ hk4]at a2;have ag:=uY (xO m.1 g.1 k) k hk4 (m.1.get k-g.1.get k) ra;have hw:IntKind.i64.wrap (m.1.get k-g.1.get k)=m.1.get k-g.1.get k:=mE (by rw[<-X.out k hk4];exact M.out k hk4);have ab:=qh g.1 k hk4 rg;have f1:∀W',Below wr.heap.size wr W'->W'.cell? ⟨mb,k,none⟩=some (.int .i64 (m.1.get k)):=λW' h=>(D.on h).at1 k _ a2
     have f2:∀W',Below wr.heap.size wr W'->W'.cell? ⟨s,oq+k,none⟩=some (.int .i64 (g.1.get k)):=λW' h=>by have:=(a7.on (l.trans (h.mono l.size))).cell k (by simp[bC];omega);rw[Nat.zero_mul,Nat.add_zero]at this;rw[this];exact ab
     have C:xO m.1 g.1 (k+1)=Ex.put (xO m.1 g.1 k) k (m.1.get k-g.1.get k):=rfl;generalize m.1.get k=x at *;generalize g.1.get k=y at *;replace C:=zH C
     go_upto_region 9 with (fail)
     refine aC mixed (none) (0) (fK.none) [.eq (.int .i64 k),.eq (.pointer (some ⟨mb,0,none⟩)),.eq (.pointer (some ⟨mb,k,none⟩)),.eq (.int .i64 x),.eq (.slice (some ⟨s,oq,none⟩) (b.length+1) cq),.eq (.int .i64 k),.eq (.pointer (some ⟨s,oq+0*8,none⟩)),.eq (.pointer (some ⟨s,oq+0*8,none⟩)),.eq (.pointer (some ⟨s,oq+k,none⟩)),.eq (.int .i64 y),.eq (.int .i64 (x-y)),.eq (.pointer (some ⟨mb,0,none⟩)),.eq (.pointer (some ⟨mb,k,none⟩))] [21,22,23,24,25,26,27,28,29,30,31,32,33] rfl rfl rfl rfl ⟨λ_ _ a _ _ _=>xM rfl (a 8 rfl),λ_ _ a _ _ _=>ae rfl (wV rfl (a 7 rfl)),λA _ _ _ _ he=>have h22:=eT 22 (he.1 rfl);have h21:=eT 21 (he.2.1 rfl);pZ rfl,?_,λ_ _ a _ _ _=>xM rfl (a 1 rfl),λ_ _ a _ _ _=>xM rfl (a 8 rfl),λ_ _ _ _ _ e=>pI rfl Tryz.underlying27 s oq 0 oM (e.1 rfl) rfl,λ_ _ _ _ _ e=>ae rfl (wV rfl (e.1 rfl)),λA _ _ _ _ he=>have h28:=eT 28 (he.1 rfl);have h26:=eT 26 (he.2.1 rfl);pZ rfl,?_,λA _ _ _ _ he=>have h24:=eT 24 (he.1 rfl);have h30:=eT 30 (he.2.1 rfl);pZ rfl,λ_ _ a _ _ _=>ae rfl (wV rfl (a 7 rfl)),λA _ _ _ _ he=>have h32:=eT 32 (he.1 rfl);have h21:=eT 21 (he.2.1 rfl);pZ rfl,trivial⟩ ?_
     ·intro A w1 hA hL hS he;have h23:=eT 23 (he.1 rfl);refine ae rfl ?_;have c0:=f1 w1 hL.below;exact aB rfl rfl gZ
     ·intro A w1 hA hL hS he;have h29:=eT 29 (he.1 rfl);refine ae rfl ?_;have c0:=f2 w1 hL.below;exact aB rfl rfl gZ
     ·intro W2 hL2;have hb2:=hL2.below;simp only[aT,af.eq,lZ];go_frame;have B2:=D.on hb2;have z:=B2.at1 k _ a2;have hf:=B2.frozen k;have hown2:=d.out.on hb2;have ha2:=ha.out.on hb2;have hra2:=u.out.on hb2;have hbr2:=l.trans (hb2.mono l.size);have hl3:=aY (j:=k) B2 (.int .i64 (x - y));have B3:=B2.set k (.int .i64 (x - y));rw[ag]at B3;clear f1 f2 hL2;go_wp2;go_roundw
      case rel =>
       refine⟨k+1,oM,nM,zH (by rw[C.out];exact B3),zH (ha2.lrB hl3 (aW dM) (λG n c h=>by simp only[Value.slice.injEq,sJ]at h;rw[<-h.1];simpa using a8)),zH (hown2.lr hl3 (aW dM) (.inr a4)),zH (hra2.lr hl3 dM),hbr2.trans (hl3.belowAt hbr2.size (λk Z=>by cases Z;exact an))⟩
      case measure=>simp[intOf];omega
    ·obtain rfl:k=4:=oM;rw[KZ]at hB;clear M X;obtain⟨E,hE⟩:∃E,E=m.1.sub g.1:=⟨_,rfl⟩;have N:gI m g=(E,m.2/g.2):=by rw[hE];rfl
     have a1:InR E:=by rw[hE];exact B.out.he
     rw[<-hE]at hB o bY;replace N:=zH N;replace a1:=zH a1;clear hE;have D:=hB.out
     go_upto_region 11 with (fail)
     refine aR trivial (none) (0) (fK.none) [.eq (.pointer (some ⟨mb,0,none⟩)),.eq (.agg (bC E).toArray),.ret (.bool E.nat),.eq (.bool (!E.nat))] [35,36,37,38] rfl rfl rfl rfl ⟨λ_ _ a _ _ _=>ae rfl (wV rfl (a 7 rfl)),λ_ _ _ hL _ e=>pL rfl (Cy (D.on hL.below)) Tryz.underlying36 (show(bC E).length=4 from rfl) (e.1 rfl),λA _ _ _ hS he=>have hb:=hS rfl;have h36:=eT 36 (he.1 rfl);have hf0:=eF A 114;cP (f:=114) (args:=#[.agg (bC E).toArray]) (Aa E _),λA _ _ _ _ he=>have h37:=eT 37 (he.1 rfl);pZ rfl,trivial⟩ ?_
     ·intro W2 hL2;have hb2:=hL2.below;simp only[aT,af.eq,af.ret,lZ];go_frame;have B2:=D.on hb2;have hown2:=d.out.on hb2;have ha2:=ha.out.on hb2;have hra2:=u.out.on hb2;have hbr2:=l.trans (hb2.mono l.size);clear hL2 D hB d ha u l hb2;cases hEn:E.nat
      ·have hr:=o.out hEn;replace hr:=zH hr;clear bY hEn;go_wp2;go_ret2;exact⟨_,by rw[hr.out];rfl,by rw[hr.out];exact bU.nil _ _,hbr2⟩
      ·obtain⟨n',a3,hok2,b5,L⟩:=bY.out hEn;rw[N.out]at L;replace hok2:=zH hok2;replace L:=zH L;replace a3:=zH a3;clear o bY hEn;have hdiv:=λW (hb:Below W2.heap.size W2 W)=>IE _ _ _ _ W (hra2.on hb).rat (a5.on (hbr2.trans (hb.mono hbr2.size))).rat B.out.hm B.out.hg B.out.hz;obtain⟨N1,A1,K1,C1,N2,A2,K2,C2,rfl,-,-⟩:=hra2;obtain⟨N3,A3,K3,C3,N4,A4,K4,C4,rfl,-,-⟩:=id a5;have y1:=B2.at1 4 _ rfl;have y2:=B2.at1 5 _ rfl;have y3:=B2.at1 6 _ rfl;have y4:=B2.at1 7 _ rfl;have hCg2:=a7.on hbr2;have x1:W2.cell? ⟨s,oq+4,none⟩=some (.bool N3):=by have:=hCg2.cell 4 (by simp[bC]);simpa[bC]using this
       have x2:W2.cell? ⟨s,oq+4+1,none⟩=some (.slice A3 K3 C3):=by have:=hCg2.cell 5 (by simp[bC]);simpa[bC,Nat.add_assoc]using this
       have x3:W2.cell? ⟨s,oq+4+2,none⟩=some (.bool N4):=by have:=hCg2.cell 6 (by simp[bC]);simpa[bC,Nat.add_assoc]using this
       have x4:W2.cell? ⟨s,oq+4+3,none⟩=some (.slice A4 K4 C4):=by have:=hCg2.cell 7 (by simp[bC]);simpa[bC,Nat.add_assoc]using this
       have f1:=B2.frozen 4;have f2:=B2.frozen 5;have f3:=B2.frozen 6;have f4:=B2.frozen 7;clear hCg2
       go_upto_region 13 with (fail)
       go_cut [39,40,41,42,43,44,45,46,47,48,49] (λ_ _ _ _ _ _ _ _ _ _ _ wc=>∃r':List Value,Hid (Blk wc mb aJ (bC E++r'))/\Hid (gM wc r' (m.2/g.2))/\Hid (bV w.heap.size wc u6 out)/\Hid (ak wc (.slice (some ⟨Y,oa,none⟩) (a.length+1) ca) (m::a))/\Below w.heap.size w wc)
       case first =>
        replace hown2:=zH hown2;replace ha2:=zH ha2
        go_region_with (go_at_call 46;refine(hdiv _ (oZ (Below.refl _ _) _)).mono ?_;rintro en w5 ⟨v5,rfl,hv5,hb5⟩;obtain⟨N5,A5,K5,C5,N6,A6,K6,C6,rfl⟩:=fE hv5;have B5:=(B2.on (oZ (Below.refl _ _) _)).on hb5;have z1:=B5.at1 4 _ rfl;have z2:=B5.at1 5 _ rfl;have z3:=B5.at1 6 _ rfl;have z4:=B5.at1 7 _ rfl;have g1:=B5.frozen 4;have g2:=B5.frozen 5;have g3:=B5.frozen 6;have g4:=B5.frozen 7)
        all_goals
         obtain⟨R5,gr5⟩:=dW [.bool N5,.slice A5 K5 C5,.bool N6,.slice A6 K6 C6] 4 w5 _ B5 (by simp[bC]);have hl5:Lr (some mb) aJ w5 _:=⟨gr5,λk Z=>by cases Z;exact⟨B5.noOther,R5.noOther⟩⟩;have hb25:Below W2.heap.size W2 w5:=(oZ (Below.refl _ _) 1).trans (hb5.mono (nL _));have hbw5:=hbr2.trans (hb25.mono hbr2.size);have hown5:=(hown2.out.on hb25).lr hl5 (aW dM) (.inr a4);have ha5:=(ha2.out.on hb25).lrB hl5 (aW dM) (λG n c h=>by simp only[Value.slice.injEq,sJ]at h;rw[<-h.1];simpa using a8);have hr5:=(hv5.lr hl5 dM).cellsC (cs:=[.bool N5,.slice A5 K5 C5,.bool N6,.slice A6 K6 C6]);have hbw6:=hbw5.trans (hl5.belowAt hbw5.size (λk Z=>by cases Z;exact an));clear z1 z2 z3 z4 g1 g2 g3 g4 B5 hv5 hl5 gr5;go_wp2;go_meet
         case rel=>exact⟨_,zH R5,zH hr5,zH hown5,zH ha5,hbw6⟩
       case rest =>
        clear B2 hown2 ha2 hdiv y1 y2 y3 y4 x1 x2 x3 x4 f1 f2 f3 f4 hbr2;obtain⟨r',hB,S,d,ha,l⟩:=hcut;have D:=hB.out;have ap:=S.out.len;have h8:(bC E++r').length=8:=by rw[List.length_append,ap];rfl
        have a0:some mb≠u6.ownBlock:=λh=>a4 h.symm;obtain⟨k1,k2,k3,k4,k5⟩:=hok2.out;rw[N.out]at k3 k5
        have kq:∀t∈[((E,m.2/g.2):ai)],InR t.1/\Rk t.2:=λt ht=>by rw[List.mem_singleton.1 ht];exact⟨a1.out,k1⟩
        replace k1:=zH k1;replace k2:=zH k2;replace k3:=zH k3;replace k4:=zH k4;replace k5:=zH k5;replace kq:=zH kq;replace q:=zH q;clear hB hok2 ay
        go_upto_region 14 with (fail)
        refine aR trivial (u6.ownBlock) (aJ) (d.out.okr) [.eq (u6),.eq (.agg (bC E++r').toArray),.new1 aO fw ((E,m.2/g.2)),.row aO (w.heap.size) wc.heap.size (out++[(E,m.2/g.2)])] [50,51,52,53] rfl rfl rfl rfl ⟨λ_ _ a _ _ _=>xM rfl (a 6 rfl),λ_ _ a hL _ _=>pL rfl ((D.lr hL a0).cells.range) Tryz.underlying43 (h8) (a 7 rfl),?_,?_,trivial⟩ ?_
        ·intro A w1 hA hL hS he;have h51:=eT 51 (he.1 rfl);refine ae rfl ?_;have hE:(aO:El _).E w1 _ ((E,m.2/g.2)):=⟨_,rfl,S.out.lr hL dM⟩;refine fo rfl rfl ((d.out.okr).lr hL) hE (bu rfl ?_) (λ_ _ h=>h);simp only[List.map_toArray,List.map_cons,List.map_nil,h51];exact bK _ _ ((aO).len hE)
        ·intro A w1 hA hL hS he;have hb:=hS rfl;have aw:Below w.heap.size w w1:=l.trans (hL.belowAt l.size q.out);have h50:=eT 50 (he.1 rfl);obtain⟨v52,h52,f52⟩:=fT 52 (he.2.1 rfl);exact ae rfl (dL rfl rfl rfl Tryz.underlying27 bG h50 h52 (d.out.on hb) rfl rfl (dV f52) (by simp only[List.length_cons,List.length_nil];omega) (aw.size) hL.1.size (λ_ _ h1 h2=>⟨h1,h2⟩))
        ·intro W6 hL6;simp only[aT,af.eq,af.new1,af.row,af.asPure,af.of,af.fragile,lZ];rintro v52 - v53 ⟨hown6,ad⟩;go_frame;have hbW6:=l.trans (hL6.belowAt l.size q.out);have ha6:=ha.out.lrB hL6 (aW dM) (λG n c h=>by simp only[Value.slice.injEq,sJ]at h;rw[<-h.1];exact hne1);have B6:=D.lr hL6 a0;have hr6:=S.out.lr hL6 dM;have hq6:=hq.on hbW6;have hblk6:=zH hown6.base_le;clear hL6 D ha d S l ad
         go_upto_region 15 with (fail)
         refine aR trivial (none) (0) (fK.none) [.eq (.slice (some ⟨Y,oa,none⟩) (a.length+1) ca),.eq (.slice (some ⟨s,oq,none⟩) (b.length+1) cq),.eq (.agg (bC E++r').toArray),.new1 aO (aW dM) ((E,m.2/g.2)),.poly dM dM ((aX (g::b) [(E,m.2/g.2)])),.own W6.heap.size (gH (m::a) (aX (g::b) [(E,m.2/g.2)]))] [54,55,56,57,58,59] rfl rfl rfl rfl ⟨λ_ _ a _ _ _=>xM rfl (a 0 rfl),λ_ _ a _ _ _=>xM rfl (a 1 rfl),λ_ _ a hL _ _=>pL rfl ((B6.on hL.below).cells.range) Tryz.underlying43 (h8) (a 7 rfl),?_,?_,?_,trivial⟩ ?_
         ·intro A w1 hA hL hS he;have hb:=hS rfl;have h56:=eT 56 (he.1 rfl);refine ae rfl ?_;have hE:(aO:El _).E w1 _ ((E,m.2/g.2)):=⟨_,rfl,hr6.on hb⟩;refine fo rfl rfl ((fK.none).lr hL) hE (bu rfl ?_) (λ_ _ h=>h);simp only[List.map_toArray,List.map_cons,List.map_nil,h56];exact bK _ _ ((aO).len hE)
         ·intro A w1 hA hL hS he;have hb:=hS rfl;have h55:=eT 55 (he.1 rfl);obtain⟨v57,h57,f57⟩:=fT 57 (he.2.1 rfl);have hf0:=eF A 54;exact cP (f:=54) (args:=#[.slice (some ⟨s,oq,none⟩) (b.length+1) cq,v57]) (ze _ _ _ _ _ (hq6.on hb) (dV f57) k2.out.1 kq.out k3.out k2.out.2 sM)
         ·intro A w1 hA hL hS he;have hb:=hS rfl;have h54:=eT 54 (he.1 rfl);obtain⟨v58,h58,f58⟩:=fT 58 (he.2.1 rfl);have hf0:=eF A 74;refine ae rfl ?_;refine dI (f:=74) (args:=#[.slice (some ⟨Y,oa,none⟩) (a.length+1) ca,v58]) rfl rfl ?_ ?_
          ·exact gZ
          ·refine(Nb _ _ _ _ _ (ha6.on hb) f58 k4.out.1 k5.out.1 k4.out.2.1 k5.out.2 k4.out.2.2 (bR.mul _ _)).mono ?_;rintro e w' ⟨v,rfl,hi,av⟩;exact⟨_,rfl,av,hi.base_mono hb.size⟩
         ·intro W7 hL7;have hb7:=hL7.below;simp only[aT,af.eq,af.new1,af.poly,af.own,af.of,lZ];rintro v57 - v58 - v59 hown9;go_frame;have hown7:=hown6.on hb7;have hbW7:=hbW6.trans (hb7.mono hbW6.size)
          have F:(gH (m::a) (aX (g::b) [(E,m.2/g.2)]))≠[]->∀G n c,v59=.slice (some G) n c->some G.block≠v53.ownBlock:=λ_ G n c h hc=>by
           have h1:=(hblk6.out G.block hc.symm).2;obtain⟨xs,⟨-,h2⟩,-⟩:=hown9;rcases h2 with ⟨h2,-⟩|⟨gg,cap,b3,h2,h3,-⟩
           ·rw[h]at h2;cases h2
           ·rw[h]at h2;cases h2;simp only at h1;omega
          replace F:=zH F;clear hL7 hb7 hown6 ha6 B6 hr6 hq6 hbW6;go_wp2;go_roundg n'
          case measure=>have:=a3.out;omega
          case rel=>exact⟨_,_,zH hown9.isSl,zH hown7,L,hbW7,F⟩
end Go.Proofs.YtopclbeomcggiaaGreat
end
section
namespace Go.Proofs.YtopclbeomcggiaaGreat
open Go.RowKit Q
def X7 (w:World) (t:ai) (e:Ending) (w':World):Prop:=∃cs,e=.returned (.agg cs.toArray)/\qf w' cs t/\Below w.heap.size w w'
end Go.Proofs.YtopclbeomcggiaaGreat
end
section
namespace Q
open Go Go.RowKit Go.Proofs.YtopclbeomcggiaaGreat
def af.term {g:Option Nat} {T:TypeId} (hT:uT≠T) (t:ai):af (Lr g T):=af.of (λv w=>∃cs:List Value,v=.agg cs.toArray/\qf w cs t) (λ_ _ _ hb=>λ⟨cs,e,h⟩=>⟨cs,e,aO.lr h hb hT⟩)
end Q
namespace Go.Proofs.YtopclbeomcggiaaGreat
open Go.RowKit Q
end Go.Proofs.YtopclbeomcggiaaGreat
end
section
namespace Q
theorem I8{α b:Type}{l:List α}{k:Nat}{t:α}(f:α->b)(h:l[k]?=some t):(l.take (k+1)).map f=(l.take k).map f++[f t]:=by rw[List.take_add_one,h];simp
end Q
namespace Go.Proofs.YtopclbeomcggiaaGreat
open Go.RowKit Q
theorem fB{w:World}{ap:Option Addr}{cp:Nat}{p:List ai}{i:Nat}{s:ai}(hp:ak w (.slice ap p.length cp) p)(h:p[i]?=some s) :
  ∃b o r,ap=some ⟨b,o,none⟩/\gM w r s.2/\bS aJ w b (o+i*8) (bC s.1++r):=by
 obtain⟨b,o,cs,rfl,-,e,d⟩:=hp.get h;obtain⟨r,rfl,j⟩:=e;exact⟨b,o,r,rfl,j,d⟩
end Go.Proofs.YtopclbeomcggiaaGreat
end
section
namespace Q
def O1 (l:List ai) (i:Nat):Bool:=match l[i]? with
 | none=>true
 | some t=>t.1.nat&&decide (t.2≠0)&&(match i with|0=>true|j+1=>match l[j]? with|none=>true|some s=>s.1.gt t.1)
def K7 (l:List ai):Bool:=(List.range l.length).all (O1 l)
theorem QS{l:List ai}:K7 l=true↔∀i,i<l.length->O1 l i=true:=by unfold K7;rw[List.all_eq_true];simp only[List.mem_range]
theorem CE{l:List ai}:K7 l=true↔bR l:=by
 rw[QS];constructor
 ·intro h;refine⟨List.pairwise_iff_getElem.2 λi j b p e=>?_,λt n=>?_⟩
  ·obtain⟨d,rfl⟩:∃d,j=i+1+d:=⟨j - (i+1),oM⟩;clear e
   induction d with
   | zero =>
    have:=h (i+1) oM;simp only[O1,gE (oM:i+1<l.length),gE b,Bool.and_eq_true]at this;exact this.2
   | succ d o =>
    have m:=o oM;have:=h (i+1+d+1) oM;simp only[O1,gE (oM:i+1+d+1<l.length),gE (oM:i+1+d<l.length),Bool.and_eq_true]at this;exact Ex.gt_trans m this.2
  ·obtain⟨i,b⟩:=List.mem_iff_getElem?.1 n;have k:=(gS.1 b).1;have:=h i k;simp only[O1,b,Bool.and_eq_true,decide_eq_true_eq]at this;exact⟨this.1.2,this.1.1⟩
 ·intro hv i b;have hm:=hv.2 l[i] (List.getElem_mem b);simp only[O1,gE b,Bool.and_eq_true,decide_eq_true_eq];refine⟨⟨hm.2,hm.1⟩,?_⟩
  cases i with
  | zero=>rfl
  | succ j =>
   simp only[gE (oM:j<l.length)];exact List.pairwise_iff_getElem.1 hv.1 j (j+1) oM b oM
end Q
namespace Go.Proofs.YtopclbeomcggiaaGreat
open Go.RowKit Q Go.WideMaps Go.Maps
end Go.Proofs.YtopclbeomcggiaaGreat
end
