/- law08.MgcdSquarefree: joined. -/
import Derived.Test.YtopclbeomcggiaaGreatY34
import Derived.Test.YtopclbeomcggiaaGreatY36
import Derived.Test.YtopclbeomcggiaaGreatYTU
set_option linter.unusedVariables false
set_option linter.unusedSimpArgs false
set_option maxHeartbeats 16000000
set_option maxRecDepth 100000
namespace Q
open MP Go.Proofs.YtopclbeomcggiaaGreat
def IV (L:List (MP × Nat)) (i j:Nat):MP:=PL (L.take i)*(L.getD i (1,0)).1^j
theorem EH(L:List (MP × Nat))(i:Nat):IV L i 0=PL (L.take i):=by unfold IV;grind
theorem Vy{L:List (MP × Nat)}{i:Nat}(h:i<L.length):IV L i L[i].2=IV L (i+1) 0:=by rw[EH,O1 h,IV,jD,gE h];rfl
theorem TU(L:List (MP × Nat))(i j:Nat):IV L i (j+1)=IV L i j*(L.getD i (1,0)).1:=by unfold IV;grind
theorem IW{L:List (MP × Nat)}{i:Nat}{f:List aj × Nat}(h:(IX L)[i]?=some f):∃b:i<L.length,f=(L[i].1.l,L[i].2):=by unfold IX at h;rw[List.getElem?_map]at h;obtain⟨t,d,rfl⟩:=Option.map_eq_some_iff.1 h;obtain⟨b,rfl⟩:=gS.1 d;exact⟨b,rfl⟩
end Q
namespace Go.Proofs.YtopclbeomcggiaaGreat
open Go.RowKit Q MP
theorem Nh{L:List wh}(w:Nat):aD (kI L) w<=2/\(2<=w->aD (kI L) w<=0):=by
 have j:∀(w:Nat)(k:Int),0<=k->(∀t∈kI L,t.1.get w<=k)->aD (kI L) w<=k:=λw k n h=>by
  rcases(gz (λt=>t.1.get w) (kI L) (-1)).2.2 with e|⟨t,b,e⟩
  ·unfold aD;rw[e];omega
  ·unfold aD;rw[<-e];exact h t b
 have l:=Qd L;refine⟨j w 2 oM λt b=>?_,λi=>j w 0 oM λt b=>?_⟩
 ·obtain⟨h0,d,i,m⟩:=l t b;rcases w with _|_|_|w
  ·exact h0.2
  ·exact d.2
  ·show t.1.2.2.1<=2;omega
  ·show t.1.2.2.2<=2;omega
 ·obtain⟨h0,d,i,m⟩:=l t b;rcases w with _|_|_|w
  ·omega
  ·omega
  ·show t.1.2.2.1<=0;omega
  ·show t.1.2.2.2<=0;omega
def lm (L:List wh):MP:=⟨kI L,fB _⟩
theorem Ao(L:List wh):uh 1 15 (lm L):=by have hb:=(Aa L).b;exact⟨hb.d,by rw[show((1:Nat):Rat)=1 from rfl,Rat.one_mul];exact hb.b⟩
theorem TV(b LB:List wh):Dg D6 (lm b*(lm LB*lm LB))/\In 12 (lm b*(lm LB*lm LB)):=by
 have hd:∀(L:List wh)(w:Nat),(lm L).deg w<=2/\(2<=w->(lm L).deg w<=0):=λL w=>Nh w;refine⟨λw l=>?_,1,3375,oM,oM,dM,(Ao b).mul ((Ao LB).mul (Ao LB))⟩;obtain⟨e0,e1,e,h⟩:=IQ
 have key:∀(w:Nat)(k:Int),0<=k->(lm b).deg w<=k->(lm LB).deg w<=k->(lm b*(lm LB*lm LB)).deg w<=k+(k+k):=λw k j i d =>
  dh w _ _ i (dh w _ _ d d oM) oM
 obtain rfl|rfl|rfl|rfl:w=0\/w=1\/w=2\/w=3:=oM
 ·rw[e0];exact key 0 2 oM (hd b 0).1 (hd LB 0).1
 ·rw[e1];exact key 1 2 oM (hd b 1).1 (hd LB 1).1
 ·rw[e];exact key 2 0 oM ((hd b 2).2 oM) ((hd LB 2).2 oM)
 ·rw[h];exact key 3 0 oM ((hd b 3).2 oM) ((hd LB 3).2 oM)
theorem ZM{b:Nat}{p:MP}(d:Dg D6 p)(i:In b p)(hb:b<=1000):Wp p.l:=kW (qL d i qP (by rw[uq];omega))
theorem Y2{k:Nat}(o:k<4){p:MP}{L:List (MP × Nat)}(r:ZK k p L)(I:∀t∈L,t.2<=8):∀i f,(IX L)[i]?=some f->Y1 k (IX L) (λi j=>(IV L i j).l) i f:=λi f hf=>by
 obtain⟨b,rfl⟩:=IW hf;have hm:L[i]∈L:=List.getElem_mem b;obtain⟨dg,B,J,hd,K,e,G,F,E⟩:=r.el _ hm;have q:=List.pairwise_iff_getElem.1 r.pw;have C:=jE dg B qP oM;have len:L[i].1.l.length<=100000000:=C.w.len;have d:e.l.length<=100000000:=by have:=E.len;rw[XI]at this;omega
 have D:=Gt o dg
 have H:L[i].1.deg k<=((6:Nat):Int):=by
  have h:=dg k o;obtain⟨e0,e1,z,M⟩:=IQ;obtain rfl|rfl|rfl|rfl:k=0\/k=1\/k=2\/k=3:=oM
  all_goals omega
 have id:In 231 (dr k L[i].1):=(In.der H (e:=3) oM B).mono oM;have wd:Wr (aS L[i].1.l k):=(jE D id qP oM).w;have n:(L.getD i (1,0)).1=L[i].1:=by rw[jD,gE b];rfl
 refine⟨⟨aD L[i].1.l k,hd,λW u hu=>gK u _ k W hu o len⟩,K,I _ hm,λg hg h0=>?_,⟨aS L[i].1.l k,e.l,aD e.l k,F,λW u hu=>um u _ k W hu o C wd,
  λW u v hu hv=>wG 6 u v _ _ _ W hu hv G,λW u hu=>gK u _ k W hu o d⟩,λj g x hg W u v hu hv=>?_,λj x W u v hu hv=>?_,?_⟩
 ·obtain⟨s,rfl⟩:=IW hg;exact(q (i - 1) i s b oM).1
 ·obtain⟨y,rfl⟩:=IW hg;have:=(q j i y b x).2;rw[<-pO]at this;exact wG 6 u v _ _ _ W hu hv this
 ·have m:=r.dv i b j x;have e1:(IV L i (j+1)).l=aZ (IV L i j).l L[i].1.l:=by rw[TU,n];rfl
  have z:IV L i j=PL (L.take i)*L[i].1^j:=by unfold IV;rw[n]
  show Calls _ _ _ _ (aP W (IV L i (j+1)).l);rw[e1];rw[<-z]at m;exact FW m.wp m.wq m.ms m.ti hu hv
 ·show(IV L i L[i].2).l=(IV L (i+1) 0).l;rw[Vy b]
theorem TW(D E N:Value)(z:Int)(m LB LC:List wh)(w:World)(R:wK w D m)(S:wK w E LB)(h0:0<=z)(d:z<256):Calls Tryz.prog 7 #[.agg #[D,E,N],.int .u8 z] w (pX w (.bool true)):=by
 obtain⟨k,X,k2⟩:∃k:Nat,z.tmod 2=k/\k<2:=⟨(z%2).toNat,by rw[Int.tmod_eq_emod_of_nonneg h0];omega,oM⟩;have r:k<4:=oM;obtain⟨da,B⟩:=TV m LB;obtain⟨p,L,J,dp,ip,K,M,l1,l2,b⟩:=XC r da B;obtain⟨a,H⟩:∃a,a=lm m*(lm LB*lm LB):=⟨_,rfl⟩;have F:aZ (kI m) (aZ (kI LB) (kI LB))=a.l:=by rw[H];rfl
 rw[<-H]at da B J K M b;have wa:=ZM da B oM;have y:=jE da B qP oM;have I:=wG 6
 have G:∀t∈L,Dg D6 t.1/\In 228 t.1:=λt q=>by
  rcases b with ⟨_,rfl⟩|⟨_,b⟩
  ·cases q
  ·obtain⟨d,o,_⟩:=b.el t q;exact⟨d,o⟩
 have Z:∀f∈IX L,(∀t∈f.1,Rk t.2)/\f.1.length<=100000000:=λf hf=>by obtain⟨t,q,rfl⟩:=List.mem_map.1 hf;obtain⟨d,o⟩:=G t q;have:=ZM d o oM;exact⟨this.rk,by have:=this.len;show t.1.l.length<=_;omega⟩
 have s:(IX L).length<=1000:=by unfold IX;rw[List.length_map];omega
 have x:(IX L).length=L.length:=List.length_map _
 refine Qw D E N z k (kI m) (kI LB) a.l p.l (nrm p).l (IX L) (λi j=>(IV L i j).l) (aD a.l k) w (Aa m) (Aa LB) F dK dK (lI oM) X s
  (zH λW hb=>EG D m W (R.on hb)) (zH λW hb=>EG E LB W (S.on hb))
  (zH λW u h=>vD (rY 6) u _ _ k W h wa r K) (zH λW u h=>Bl I u _ _ k W h r (y.deg k) y.w.len M)
  (zH λW u v h n=>KZ u v _ W h n Z s) (zH λW u h=>gK u _ k W h r y.w.len)
  (zH λW u v h n=>IU h n D7.rk dM) (zH λW=>fK 1 _ W oM oM ZL dK)
  (zH ?_) (zH ?_) (zH ?_)
 ·show(IV L 0 0).l=_;rw[EH];exact pO.symm
 ·rcases b with ⟨_,rfl⟩|⟨_,b⟩
  ·intro i f hf;cases hf
  ·exact Y2 r b l2
 ·rcases b with ⟨d,rfl⟩|⟨d,b⟩
  ·exact .inl ⟨d,rfl⟩
  ·have Y:=Zh (p:=p) (g:=nrm p);refine .inr ⟨d,λW u h=>kZ I u _ _ k W h r (y.deg k) y.w.len J,λW u h=>mW h (pQ dp ip qP oM),λW u v h n=>?_⟩;have e:IV L (IX L).length 0=nrm p:=by rw[x,EH,List.take_length,b.pl]
   have o:ai W u (nrm p).l:=by rw[<-e];exact h
   by_cases C:p=0
   ·have e0:(nrm p).l=[]:=by rw[C,jV];rfl
    rw[e0]at o n;exact IU o n (λt q=>by cases q) sM
   ·obtain⟨b1,O⟩:=Y C dp ip (eu C).1 (jY C);have:=ZM b1 O oM;exact IU o n this.rk (by have:=this.len;omega)
end Go.Proofs.YtopclbeomcggiaaGreat
