/- R8.determinant. -/
import Derived.Test.YtopclbeomcggiaaGreatZ38
set_option linter.unusedVariables false
set_option linter.unusedSimpArgs false
set_option maxHeartbeats 16000000
set_option maxRecDepth 100000
namespace Q
open Go Go.RowKit Go.Proofs.YtopclbeomcggiaaGreat
def Qd:Sz:=⟨1,2^100,40,41⟩
theorem Fq:Qd.ok/\(Qd.mul Qd).ok/\(Qd.mul ⟨1,1,0,1⟩).ok:=dK
theorem En.pk{u B E:Nat}{p:List ai}(h:En u B E p)(hu:u<4)(b:B<=2^100)(d:E<=40):Pk Qd p:=⟨h.v,(h.mono b d).bd hu,Fq.1⟩
structure zaP (n:Nat) (M:Mx):Prop where
 o:∀k,k<=n+1->Pk Qd (wT (λk=>nW n (fe M k)) (M.getD 0 []) k)
 f:∀k,k<n+1->Pk Qd (nW n (fe M k))
 c:∀k,Pk Qd ((M.getD 0 []).getD k [])
 m:∀k,k<n+1->Pk Qd (aO ((M.getD 0 []).getD k []) (nW n (fe M k)))
 s:∀k,k<n+1->Pk Qd (dL [] (aO ((M.getD 0 []).getD k []) (nW n (fe M k))))
theorem RG{u n:Nat}{M:Mx}(hu:u<4)(h:Dt u (n+1) M)(i:n<4):zaP n M:=by
 have e:∀k,k<4->dtB k<=2^30:=dK;have hb:=e n i;have p1:∀k,k<=4->k*(15*2^30)<=2^100:=dK;have hf:∀k,k<n+1->En u (2^30) (2*n) (nW n (fe M k)):=λk b=>(Jm hu n _ (h.minor b)).mono hb (nL _);have d:∀k,En u 15 2 ((M.getD 0 []).getD k []):=λk=>h.get 0 k;have hm:∀k,k<n+1->En u (15*2^30) (2+2*n) (aO ((M.getD 0 []).getD k []) (nW n (fe M k))):=λk b=>(d k).mul (hf k b) hu;refine⟨λk b=>?_,λk b=>?_,λk=>?_,λk b=>?_,λk b=>?_⟩
 ·exact(Jl (N:=n+1) hu hf d k b).pk hu (p1 k oM) oM
 ·exact(hf k b).pk hu dK oM
 ·exact(d k).pk hu dK oM
 ·exact(hm k b).pk hu dK oM
 ·exact((En.nil u 0 0).sub (hm k b) hu).pk hu dK oM
theorem Mq{d:Option Addr}{n i j:Nat}{w:World}{M:Mx}{r:List (List ai)}(h:AP w (.slice d n i) M)(l:M[j]?=some r):∃b off v,d=some ⟨b,off,none⟩/\gB w v r/\bW sS w b (off+j*1) [v]:=by obtain⟨b,off,cs,e,-,⟨v,rfl,hv⟩,k⟩:=h.get l;exact⟨b,off,v,e,hv,k⟩
theorem Ca{P:Program}{w:World}{ops:Array Oper}{rest:List Oper}{o:Oper}{a:Act}{Q:Exit->Act->World->Prop}(hg:o.guard=none)(x lo:Operand)(t:TypeId)(m:o.op=Op.slice t x (some lo) none none){el:TypeId}(u:P.underlying t=some (.slice el)){size:Nat}(s:(P.info? el).map (·.size)=some size)
  (d:Option Addr) (n c:Nat) (y:a.eval x=.slice d n c) (k:IntKind) (i:Int) (l:a.eval lo=.int k i) (j:Nat) (e:i=(j:Int)) (q:j<=n) (r:n<=c) (h:wpList P ops Q rest (a.put o.dst (.slice (if c=j then d else d.map (·.add (j*size))) (n-j) (c-j))) w):wpList P ops Q (o::rest) a w:=by
 refine wpList_plain hg λK p=>?_;have b:=gP u s w d n c j k i e q r;unfold Oper.wp;rw[jh m (by simp only[Option.map_some,Option.map_none];rw[y,l];exact b)];exact p _ _ h
end Q
namespace Go.Proofs.YtopclbeomcggiaaGreat
open Go.RowKit Q Go.WideMaps Go.Maps
theorem Vs(w:World):Calls Tryz.prog 58 #[] w (aN w qd):=by
 have hc:=zH (λW v (hv:bX W v ((1:Int):Rat))=>D9 v ((1:Int):Rat) ⟨1,1,0,1⟩ W hv ⟨sM,λt b=>by rw[List.mem_singleton.1 b];decide,λt b=>by rw[List.mem_singleton.1 b];exact Dv.int 1 1,dK⟩ dK);rw[show cK ((1:Int):Rat)=qd from by show cK 1=qd;decide +kernel]at hc
 go_enter Tryz.func58,Tryz.ntmps58
 go_wp2_with (first
  | (go_at_call 24;refine(iW 1 _ oM oM).mono ?_;rintro e w3 ⟨v3,rfl,h3,hb3⟩)
  | (go_at_call 72;refine(hc.out _ _ h3).mono ?_;rintro e w4 ⟨v4,rfl,h4,hb4⟩))
 go_ret;exact⟨_,rfl,h4,hb3.trans (hb4.mono hb3.size)⟩
theorem Vt{u:Nat}(hu:u<4):∀(n:Nat)(vm:Value)(M:Mx)(w:World),n<=4->Dt u n M->AP w vm M->Calls Tryz.prog 77 #[vm] w (aN w (nW n M)):=by
 intro n
 induction n with
 | zero =>
  intro vm M w _ hM hm;obtain⟨am,cm,rfl,az⟩:=hm.shape;have hl:=hM.len;rw[hl]
  go_enter Tryz.func77,Tryz.ntmps77
  go_wp2_with (go_at_call 58;refine(Vs _).mono ?_;rintro e w3 ⟨v3,rfl,h3,hb3⟩)
  go_ret;exact⟨_,rfl,h3,hb3⟩
 | succ n ih =>
  intro vm M w hn hM hm;have hD:=RG hu hM oM;obtain⟨am,cm,rfl,az⟩:=hm.shape;have hl:=hM.len;have a3:∀(i:Nat)(r:List (List ai)),M[i]?=some r->r.length=n+1:=λi r h=>hM.rows r (List.mem_of_getElem? h);have Y:M[0]?=some (M.getD 0 []):=by rw[jD,gE oM];rfl
  obtain⟨X,om,v0,rfl,hv0,hC0⟩:=Mq hm Y;obtain⟨a0,c0,rfl,hc0⟩:=hv0.shape;have hl0:=a3 0 _ Y
  have hcc0:∀W,Below w.heap.size w W->W.cell? ⟨X,om,none⟩=some (.slice a0 (M.getD 0 []).length c0):=λW hb=>by have h1:=(hC0.on hb).cell 0 sM;simpa using h1
  have au:∀k,k<n+1->Dt u n (fe M k):=λk hk=>hM.minor hk;have ab:nW (n+1) M=wT (λk=>nW n (fe M k)) (M.getD 0 []) (n+1):=rfl;rw[ab];have bN:∀k,wT (λk=>nW n (fe M k)) (M.getD 0 []) (k+1)=if(M.getD 0 []).getD k []=[]then wT (λk=>nW n (fe M k)) (M.getD 0 []) k else mP (wT (λk=>nW n (fe M k)) (M.getD 0 []) k) (if k%2=1 then dL [] (aO ((M.getD 0 []).getD k []) (nW n (fe M k)))else aO ((M.getD 0 []).getD k []) (nW n (fe M k))):=λk=>by rw[wT]
  have hst0:wT (λk=>nW n (fe M k)) (M.getD 0 []) 0=[]:=rfl;have ao:=hD.o;generalize hF:wT (λk=>nW n (fe M k)) (M.getD 0 [])=F at *;replace bN:=zH bN;replace hst0:=zH hst0;replace hD:=zH hD;replace ao:=zH ao;replace hM:=zH hM;replace hm:=zH hm;replace hv0:=zH hv0;replace a3:=zH a3;replace hcc0:=zH hcc0;replace au:=zH au;replace ih:=zH ih;replace Y:=zH Y;clear hF hC0 ab;rw[hl0]at hcc0 hv0 hc0;rw[hl]at az ⊢;rw[hl]at hm
  go_enter Tryz.func77,Tryz.ntmps77
  go_wp2;have hb1:Below w.heap.size w (w.alloc (.cells #[] aR)):=(Below.refl _ _).alloc (nL _) _;have a8:aj (w.alloc (.cells #[] aR)) (.slice (some ⟨w.heap.size,0,none⟩) 0 0) []:=(gF aT w).isSl;generalize w.alloc (.cells #[] aR)=wa at *
  go_loopw [3,4] (λo i wr=>∃k:Nat,k<=n+1/\i=.int .i64 k/\Hid (aj wr o (F k))/\Below w.heap.size w wr) (λ_ i _=>n+1-(intOf i).toNat)
  case atStart=>exact⟨0,oM,nM,zH (by rw[hst0.out];exact a8),hb1⟩
  case round =>
   clear a8 hb1 hst0
   rename World=>wo
   obtain⟨k,hk,rfl,ho,d⟩:=hrel;by_cases z:k<n+1
   ·have b6:(k:Int)<((n+1:Nat):Int):=oM;have hF1:=bN.out k;have al:=hD.out.c k;have an:=hD.out.f k z;have Z:=hD.out.m k z;have ap:=hD.out.s k z;have aq:(M.getD 0 [])[k]?=some ((M.getD 0 []).getD k []):=by rw[jD (l:=M.getD 0 []),gE oM];rfl
    have ad:=hv0.out.on d;have a1:(fe M k).length=n:=by rw[fe,List.length_map,List.length_tail,hl];omega
    generalize hcd:(M.getD 0 []).getD k []=c at *;obtain⟨b0,o0,vc,rfl,N,hC⟩:=sN ad aq;obtain⟨ac,cc,rfl,b8⟩:=N.shape;have e21:wo.cell? ⟨X,om,none⟩=some (.slice (some ⟨b0,o0,none⟩) (n+1) c0):=hcc0.out wo d
    have e24:∀W,Below wo.heap.size wo W->W.cell? ⟨b0,o0+k,none⟩=some (.slice ac c.length cc):=λW hb=>by have h1:=(hC.on hb).cell 0 sM;simpa using h1
    have a4:=e24 wo (Below.refl _ _);replace e24:=zH e24;replace aq:=zH aq;replace hcd:=zH hcd;replace al:=zH al;replace an:=zH an;replace Z:=zH Z;replace ap:=zH ap;replace a1:=zH a1;replace N:=zH N;clear hC ad;by_cases J:c=[]
    ·subst J;rw[if_pos rfl]at hF1;replace hF1:=zH hF1;simp only[List.length_nil]at a4
     go_wp2_with (first
      | (refine ak rfl _ _ 84 rfl sS Tryz.underlying84 _ 1 24 kM _ _ _ rfl .i64 0 rfl 0 rfl oM X om rfl ?_;rw[Nat.zero_mul,Nat.add_zero])
      | (refine ak rfl _ _ 75 rfl polyT Tryz.underlying75 _ 1 24 kM _ _ _ rfl .i64 _ rfl k rfl z b0 o0 rfl ?_;rw[nU]))
     go_roundw
     case rel=>exact⟨k+1,oM,nM,zH (by rw[hF1.out];exact ho.out),d⟩
     case measure=>simp[intOf];omega
    ·rw[if_neg J]at hF1;replace hF1:=zH hF1;have b9:¬((c.length:Int)=0):=λh=>J (List.length_eq_zero_iff.1 oM);replace J:=zH J
     go_wp2_with (first
      | (refine ak rfl _ _ 84 rfl sS Tryz.underlying84 _ 1 24 kM _ _ _ rfl .i64 0 rfl 0 rfl oM X om rfl ?_;rw[Nat.zero_mul,Nat.add_zero])
      | (refine ak rfl _ _ 75 rfl polyT Tryz.underlying75 _ 1 24 kM _ _ _ rfl .i64 _ rfl k rfl z b0 o0 rfl ?_;rw[nU]))
     clear a4;have hb4:Below wo.heap.size wo (wo.alloc (.cells #[] 75)):=(Below.refl _ _).alloc (nL _) _;have hown0:=zH (gF zB wo);change Hid (Cw wo.heap.size (wo.alloc (.cells #[] 75)) _ ((fe M k).take 0))at hown0;generalize wo.alloc (.cells #[] 75)=wb at *
     go_loopw [5,6] (λo i wz=>∃r:Nat,1<=r/\r<=n+1/\i=.int .i64 r/\Hid (Cw wo.heap.size wz o ((fe M k).take (r-1)))/\Below wo.heap.size wo wz) (λ_ i _=>n+1-(intOf i).toNat)
     case atStart=>exact⟨1,oM,oM,nM,hown0,hb4⟩
     case round =>
      clear hown0 hb4;obtain⟨r,hr1,hr,rfl,C,b⟩:=hrel;by_cases b4:r<n+1
      ·have b7:(r:Int)<((n+1:Nat):Int):=oM;obtain⟨row,y⟩:∃x,M[r]?=some x:=⟨_,gE oM⟩;have aE:Below w.heap.size w wr:=d.trans (b.mono d.size);obtain⟨b',o',vr,e,S,ag⟩:=Mq (hm.out.on aE) y;cases e;obtain⟨ar,cr,rfl,b3⟩:=S.shape;have B:row.length=n+1:=a3.out r row y;rw[B]at S b3 ag
       have j:∀W,Below wr.heap.size wr W->W.cell? ⟨X,om+r,none⟩=some (.slice ar (n+1) cr):=λW hb=>by have h1:=(ag.on hb).cell 0 sM;simpa using h1
       have I:Below wr.heap.size wr (wr.alloc (.cells #[] 27)):=(Below.refl _ _).alloc (nL _) _;have hl7:dC qG wr.heap.size (wr.alloc (.cells #[] 27)) (.slice (some ⟨wr.heap.size,0,none⟩) 0 0) []:=gF qG wr;have e38:=j (wr.alloc (.cells #[] 27)) I;have ax:gB (wr.alloc (.cells #[] 27)) (.slice ar k cr) (row.take k):=(S.on I).take k oM;have oV:∀W,Below wr.heap.size wr W->gB W (.slice (if cr=k+1 then ar else ar.map (·.add ((k+1)*1))) (n+1-(k+1)) (cr-(k+1))) (row.drop (k+1)):=λW hb=>(S.on hb).drop (k+1);have hba0:∀x,(Value.slice (some ⟨wr.heap.size,0,none⟩) 0 0).ownBlock=some x->wr.heap.size<=x:=λx hx=>(hl7.base_le x hx).1;have hln1:([]:List (List ai)).length+(row.take k).length<=1000000000:=by simp;omega
       have hln2:(row.take k).length+(row.drop (k+1)).length<=1000000000:=by simp;omega
       have hln3:((fe M k).take (r-1)).length+[row.take k++row.drop (k+1)].length<=1000000000:=by have:=a1.out;simp;omega
       have aw:(fe M k).take (r+1-1)=(fe M k).take (r-1)++[row.take k++row.drop (k+1)]:=by
        obtain⟨q,rfl⟩:∃q,r=q+1:=⟨r - 1,oM⟩;have:(fe M k)[q]?=some (row.take k++row.drop (k+1)):=by rw[fe,List.getElem?_map,List.getElem?_tail,y];rfl
        rw[show q+1+1-1=q+1 from rfl,show q+1-1=q from rfl,List.take_add_one,this];rfl
       have b5:∀x,u5.ownBlock=some x->wo.heap.size<=x:=λx hx=>(C.out.base_le x hx).1;have hk1:(k:Int)+1=((k+1:Nat):Int):=oM;replace oV:=zH oV;replace j:=zH j;replace aw:=zH aw;replace ax:=zH ax;replace hl7:=zH hl7;replace hk1:=zH hk1;replace B:=zH B;replace y:=zH y;clear ag S aE
       go_wp2_with (first
        | (at_builtin;refine dF rfl _ _ 84 rfl Tryz.underlying84 EZ rfl rfl hown9 hnew9 hln3 hbw9.size ?_;intro v10 w10 hown10 hl10 hv10)
        | (at_builtin;refine dF rfl _ _ 75 rfl Tryz.underlying75 uW rfl rfl hown8 (oV.out _ hb8) hln2 hb8.size ?_;intro v9 w9 p hl9 hv9;have hb9:=hb8.trans (hl9.belowAt hb8.size λx hx=>(hown8.base_le x hx).1);have hpol9:=p.isSl;obtain⟨a9,c9,rfl,-⟩:=p.shape;generalize(row.take k++row.drop (k+1)).length=ln9 at *;have hba9:Below w9.heap.size w9 (w9.alloc (.cells #[.slice a9 ln9 c9] 75)):=(Below.refl _ _).alloc (nL _) _;have hnew9:AP (w9.alloc (.cells #[.slice a9 ln9 c9] 75)) (.slice (some ⟨w9.heap.size,0,none⟩) 1 1) [row.take k++row.drop (k+1)]:=jV (e:=zB) (Blk.new w9 sS [.slice a9 ln9 c9]) ⟨_,rfl,hpol9.on hba9⟩;have a6:=hb9.trans (hba9.mono hb9.size);have hown9:=C.out.on a6;have hbw9:=b.trans (a6.mono b.size);clear p hpol9 hba9 hl9 hv9)
        | (at_builtin;refine dF rfl _ _ 75 rfl Tryz.underlying75 uW rfl rfl hl7.out ax.out hln1 I.size ?_;intro v8 w8 hown8 hl8 hv8;rw[List.nil_append]at hown8;have hb8:=I.trans (hl8.belowAt I.size hba0);have e48:=j.out w8 hb8;clear hl8 hv8)
        | (refine ak rfl _ _ 84 rfl sS Tryz.underlying84 _ 1 24 kM _ _ _ rfl .i64 _ rfl r rfl b4 X om rfl ?_;rw[nU])
        | (refine oZ rfl _ _ 75 rfl Tryz.underlying75 Ip _ _ _ rfl .i64 _ rfl k rfl oM ?_)
        | (refine Ca rfl _ _ 75 rfl Tryz.underlying75 Ip _ _ _ rfl .i64 _ rfl (k+1) oM oM oM ?_))
       all_goals
        go_roundw
        case rel=>exact⟨r+1,oM,oM,nM,zH (by rw[aw.out];exact hown10),hbw9.trans (hl10.belowAt hbw9.size b5)⟩
        case measure=>simp[intOf];omega
      ·obtain rfl:r=n+1:=oM;have L:=C.out.isSl;rw[show n+1 - 1=n from rfl,<-a1.out,List.take_length]at L;have G:=d.trans (b.mono d.size);have b2:Below wo.heap.size wo wr:=b;have D:=N.out.on b;have a2:=ho.out.on b;have ay:=hcc0.out wr G;have a7:=au.out k z;replace L:=zH L;replace D:=zH D;replace a2:=zH a2;clear C N ho e21
       go_upto_region 14 with (fail)
       refine aD mixed (none) (0) (eQ.none) [.eq (.slice (some ⟨X,om,none⟩) (n+1) cm),.eq (.pointer (some ⟨X,om+0*1,none⟩)),.eq (.slice (some ⟨b0,o0,none⟩) (n+1) c0),.eq (.int .i64 k),.eq (.pointer (some ⟨b0,o0+k*1,none⟩)),.eq (.slice ac c.length cc),.eq (u5),.poly dM dM ((nW n (fe M k))),.poly dM dM ((aO c (nW n (fe M k))))] [55,56,57,58,59,60,61,62,63] rfl rfl rfl rfl ⟨λ_ _ a _ _ _=>xM rfl (a 0 rfl),λ_ _ _ _ _ e=>pI rfl Tryz.underlying84 X om 0 (Nat.succ_pos n) (e.1 rfl) rfl,?_,λ_ _ a _ _ _=>xM rfl (a 4 rfl),λ_ _ _ _ _ e=>pI rfl Tryz.underlying75 b0 o0 k (z) (e.1 rfl) (e.2.1 rfl),?_,λ_ _ a _ _ _=>xM rfl (a 5 rfl),λA _ _ _ hS he=>have hb:=hS rfl;have h61:=eT 61 (he.1 rfl);have hf0:=eF A 77;cP (f:=77) (args:=#[u5]) (ih.out _ _ _ oM a7 (L.out.on hb)),?_,trivial⟩ ?_
       ·intro A w1 hA hL hS he;have h56:=eT 56 (he.1 rfl);refine af rfl ?_;have c0:=hcc0.out w1 (G.trans (hL.below.mono G.size));exact aC rfl rfl gZ
       ·intro A w1 hA hL hS he;have h59:=eT 59 (he.1 rfl);refine af rfl ?_;have c0:=e24.out w1 (b.trans (hL.below.mono b.size));exact aC rfl rfl gZ
       ·intro A w1 hA hL hS he;have hb:=hS rfl;have h60:=eT 60 (he.1 rfl);obtain⟨v62,h62,f62⟩:=fT 62 (he.2.1 rfl);have hf0:=eF A 12;exact cP (f:=12) (args:=#[.slice ac c.length cc,v62]) (uz al.out an.out Fq.2.1 (D.out.on hb) f62)
       ·intro W5 hL5;have hb5:=hL5.below;simp only[aQ,ae.eq,ae.poly,ae.ret,ae.of,lZ];rintro v62 - v63 h63;go_frame;have ho5:=a2.out.on hb5;have hbw5:=G.trans (hb5.mono G.size);clear hL5 D a2 L e24 hcc0 b hb5 G b2 d ay a7;obtain⟨a63,c63,rfl,-⟩:=h63.shape;generalize(aO c (nW n (fe M k))).length=l63 at *;have a5:=zH (ao.out k oM);have av:=zH (Pk.nil (s:=Qd) Fq.1);replace h63:=zH h63;replace ho5:=zH ho5;by_cases aa:k%2=1
        ·have hm1:(k:Int).tmod 2=1:=by rw[Int.tmod_eq_emod_of_nonneg oM];omega
         rw[if_pos aa]at hF1
         go_wp2_with (first
          | (go_at_call 39;refine(TN a5.out ap.out (ho5.out.on hb6) h6).mono ?_;rintro e w7 ⟨v7,rfl,h7,hb7⟩)
          | (go_at_call 35;refine(TP (w:=W5) av.out Z.out Fq.2.2 (bZ.nil aT W5) h63.out).mono ?_;rintro e w6 ⟨v6,rfl,h6,hb6⟩))
         refine⟨?_,?measure⟩
         iterate 40 (apply Exists.intro)
         repeat apply Exists.intro
         refine⟨?rel,rfl⟩
         case rel=>exact⟨k+1,oM,nM,zH (by rw[hF1.out];exact h7),(hbw5.trans (hb6.mono hbw5.size)).trans (hb7.mono (hbw5.trans (hb6.mono hbw5.size)).size)⟩
         case measure=>simp[intOf];omega
        ·have hm1:(k:Int).tmod 2=0:=by rw[Int.tmod_eq_emod_of_nonneg oM];omega
         rw[if_neg aa]at hF1
         go_wp2_with (go_at_call 39;refine(TN (w:=W5) a5.out Z.out ho5.out h63.out).mono ?_;rintro e w7 ⟨v7,rfl,h7,hb7⟩)
         refine⟨?_,?measure⟩
         iterate 40 (apply Exists.intro)
         repeat apply Exists.intro
         refine⟨?rel,rfl⟩
         case rel=>exact⟨k+1,oM,nM,zH (by rw[hF1.out];exact h7),hbw5.trans (hb7.mono hbw5.size)⟩
         case measure=>simp[intOf];omega
   ·obtain rfl:k=n+1:=oM;go_wp2;go_ret;exact⟨_,rfl,ho.out,d⟩
end Go.Proofs.YtopclbeomcggiaaGreat
