/- The integer package of the program: Cmp, Add, Of. -/
import Derived.Test.YtopclbeomcggiaaGreatW04
import Derived.Test.YtopclbeomcggiaaGreatW07
set_option linter.unusedVariables false
set_option linter.unusedSimpArgs false
set_option maxHeartbeats 16000000
set_option maxRecDepth 100000
namespace Go.Proofs.YtopclbeomcggiaaGreat
open Go.RowKit Q
theorem mh (w:World) (a b:Obj):Below w.heap.size w ((w.alloc a).alloc b):=((Below.refl _ _).alloc (Nat.le_refl _) _).alloc (by simp) _
theorem xA (w:World) (a b c:Obj):Below w.heap.size w (((w.alloc a).alloc b).alloc c):=(((Below.refl _ _).alloc (Nat.le_refl _) _).alloc (by simp) _).alloc (by simp;omega) _
theorem lK {w:World} {m:Value} {z:Int} (h:aZ w true m z):z<0:=by
 obtain⟨l,⟨ao,cap,h1,h2,h3,h4⟩,h5,h6,h7⟩:=h;have:=h5.pos h3 (h6 rfl);rw [h7];simp [fZ];exact this
theorem nD {w:World} {m:Value} {z:Int} (h:aZ w false m z):0<=z:=by
 obtain⟨l,⟨ao,cap,h1,h2,h3,h4⟩,h5,h6,h7⟩:=h;have:=bg h3;rw [h7];exact this
theorem Nh (x y:Int):dW (-x) (-y)=dW y x:=by
 rcases Int.lt_trichotomy x y with h|h|h
 ·rw [jC (by omega),jC h]
 ·rw [jD (by omega),jD h.symm]
 ·rw [jb (by omega),jb h]
theorem fU {w:World} {neg:Bool} {m:Value} {z:Int} (h:aZ w neg m z) (hz:aI z.natAbs<=iT) :
  ∃ l ao cap,m=.slice ao l.length cap/\dH w (.slice ao l.length cap) l/\l.length<=34359738368/\iU l/\z=fZ neg (ah l):=by
 obtain⟨l,ao,cap,h1,h2,h3,h4,h5,h6,_,h8⟩:=h.open hz;exact⟨l,ao,cap,h1,⟨ao,cap,rfl,h2,h4,h5⟩,h3,h6,h8⟩
theorem RX (n1 n2:Bool) (m1 m2:Value) (z1 z2:Int) (w:World) (h1:aZ w n1 m1 z1) (h2:aZ w n2 m2 z2) (c1:aI z1.natAbs<=iT) (c2:aI z2.natAbs<=iT) :
  Calls Tryz.prog 129 #[.agg #[.bool n1,m1],.agg #[.bool n2,m2]] w (rO w (.int .i64 (dW z1 z2))):=by
 obtain⟨l1,ao1,cap1,rfl,u1,b1,nn1,e1⟩:=fU h1 c1;obtain⟨l2,ao2,cap2,rfl,u2,b2,nn2,e2⟩:=fU h2 c2;cases n1
 ·cases n2
  ·have H:Hid (dW z1 z2=dW (ah l1) (ah l2)):=by rw [e1,e2];rfl
   clear e1 e2 h1 h2
   go_enter Tryz.func129,Tryz.ntmps129
   go_wp2_with (go_at_call 142;refine (jN _ _ l1 l2 _ (u1.on (mh _ _ _)) (u2.on (mh _ _ _)) (by omega) (by omega) nn1 nn2).mono ?_;rintro e w' ⟨rfl,hb⟩)
   go_ret;exact⟨by rw [H.out];rfl,(mh _ _ _).trans (hb.mono (by simp;omega))⟩
  ·have H:Hid (dW z1 z2=1):=jC (by have:=lK h2;have:=nD h1;omega);clear e1 e2 h1 h2
   go_enter Tryz.func129,Tryz.ntmps129
   go_wp2;go_ret;exact⟨by rw [H.out];rfl,mh _ _ _⟩
 ·cases n2
  ·have H:Hid (dW z1 z2=-1):=jb (by have:=lK h1;have:=nD h2;omega);clear e1 e2 h1 h2
   go_enter Tryz.func129,Tryz.ntmps129
   go_wp2;go_ret;exact⟨by rw [H.out];rfl,mh _ _ _⟩
  ·have H:Hid (dW z1 z2=dW (ah l2) (ah l1)):=by rw [e1,e2];exact Nh _ _
   clear e1 e2 h1 h2
   go_enter Tryz.func129,Tryz.ntmps129
   go_wp2_with (go_at_call 142;refine (jN _ _ l2 l1 _ (u2.on (mh _ _ _)) (u1.on (mh _ _ _)) (by omega) (by omega) nn2 nn1).mono ?_;rintro e w' ⟨rfl,hb⟩)
   go_ret;exact⟨by rw [H.out];rfl,(mh _ _ _).trans (hb.mono (by simp;omega))⟩
theorem mixed:Tryz.prog.follows .mixedOrders=true:=by kernel_rfl
theorem aR:(Tryz.prog.info? 39).map (·.size)=some 2:=by kernel_rfl
theorem O5 (n:Bool) (m1 m2:Value) (l1 l2:List Int) (w:World) (u1:dH w m1 l1) (u2:dH w m2 l2) (b1:l1.length<=34359738368) (b2:l2.length<=34359738368) :
  Calls Tryz.prog 131 #[.agg #[.bool n,m1],.agg #[.bool n,m2]] w (lI w (fZ n (ah l1+ah l2))):=by
 have hnn:(n == n)=true:=by simp
 go_enter Tryz.func131,Tryz.ntmps131
 go_wp2_with fail
 refine rY fun W hb0 B1 B2 B3 hsz=>?_;refine iw mixed [.eq (.pointer (some ⟨w.heap.size,1,none⟩)),.eq (m1),.eq (.pointer (some ⟨w.heap.size+1,1,none⟩)),.eq (m2),.u32 (fun l=>ah l=ah l1+ah l2/\l.length<=34359738369),.eq (.pointer (some ⟨w.heap.size,0,none⟩)),.eq (.bool n),.int (fZ n (ah l1+ah l2))] [11,12,13,14,15,16,17,18] rfl rfl rfl ⟨?_,?_,?_,?_,?_,?_,?_,?_,trivial⟩ ?_
 ·intro A w1 hA hb he;have h2:A.eval (.tmp 2)=.pointer (some ⟨w.heap.size,0,none⟩):=hA 2 rfl;refine aK rfl ?_;exact gZ
 ·intro A w1 hA hb he;have h11:A.eval (.tmp 11)=.pointer (some ⟨w.heap.size,1,none⟩):=he.1 rfl;have c0:=(B1.on hb).at1 1 _ rfl;refine aK rfl ?_;exact gZ
 ·intro A w1 hA hb he;have h3:A.eval (.tmp 3)=.pointer (some ⟨w.heap.size+1,0,none⟩):=hA 3 rfl;refine aK rfl ?_;exact gZ
 ·intro A w1 hA hb he;have h13:A.eval (.tmp 13)=.pointer (some ⟨w.heap.size+1,1,none⟩):=he.1 rfl;have c0:=(B2.on hb).at1 1 _ rfl;refine aK rfl ?_;exact gZ
 ·intro A w1 hA hb he;have h12:A.eval (.tmp 12)=m1:=he.1 rfl;have h14:A.eval (.tmp 14)=m2:=he.2.1 rfl;have hf0:=eF A 144;refine cO (f:=144) (args:=#[m1,m2]) ?_ ?_
  ·exact gZ
  ·refine (O4 _ _ l1 l2 _ (u1.on (hb0.trans (hb.mono (by omega)))) (u2.on (hb0.trans (hb.mono (by omega)))) (by omega) (by omega)).mono ?_;rintro e w' ⟨v,l,rfl,hu,⟨hv,hl⟩,hb⟩;exact⟨v,rfl,hb,l,hu,hv,by omega⟩
 ·intro A w1 hA hb he;have h2:A.eval (.tmp 2)=.pointer (some ⟨w.heap.size,0,none⟩):=hA 2 rfl;refine aK rfl ?_;exact gZ
 ·intro A w1 hA hb he;have h16:A.eval (.tmp 16)=.pointer (some ⟨w.heap.size,0,none⟩):=he.1 rfl;have c0:=(B1.on hb).at1 0 _ rfl;refine aK rfl ?_;exact gZ
 ·intro A w1 hA hb he;have f15:((.u32 (fun l=>ah l=ah l1+ah l2/\l.length<=34359738369):bU)).p (A.eval (.tmp 15)) w1:=he.1 rfl;obtain⟨v15,h15⟩:∃ v,A.eval (.tmp 15)=v:=⟨_,rfl⟩;rw [h15] at f15;have h17:A.eval (.tmp 17)=.bool n:=he.2.1 rfl;have hf0:=eF A 112;refine cO (f:=112) (args:=#[v15,.bool n]) ?_ ?_
  ·exact gZ
  ·obtain⟨l,hu,hl,hlen⟩:=f15;refine (kM n _ l _ hu (by omega)).mono ?_;rintro e w' ⟨neg,m,rfl,hi,hb⟩;rw [hl] at hi;exact⟨_,rfl,hb,neg,m,rfl,hi⟩
 ·intro w1 hb;simp only [ou,bU.eq,bU.u32,bU.int,bU.of,lZ];rintro _ - _ ⟨neg,m,rfl,hi⟩;go_frame;refine aA rfl _ (.tmp 4) (.tmp 18) rfl _ _ _ _ rfl rfl (B3.on hb) rfl aR hi.ones ?_;intro w2 R gr;have hb2:=aM gr (Nat.le_of_lt (B3.on hb).lt) (Nat.le_refl _);go_wp2;exact dM rfl rfl rfl R Tryz.underlying39 rfl aR ⟨neg,m,rfl,hi.stored gr (B3.on hb) (by decide),hb0.trans ((hb.mono (by omega)).trans (hb2.mono (by omega)))⟩
theorem Ux (n:Bool) (m1 m2:Value) (l1 l2:List Int) (w:World) (u1:dH w m1 l1) (u2:dH w m2 l2) (b1:l1.length<=34359738368) (b2:l2.length<=34359738368) (n1:iU l1) (n2:iU l2) (hlt:ah l1<ah l2) :
  Calls Tryz.prog 131 #[.agg #[.bool n,m1],.agg #[.bool (!n),m2]] w (lI w (fZ (!n) (ah l2-ah l1))):=by
 have hnn:(n == !n)=false:=by simp
 obtain⟨n',hn'⟩:∃ n',n'=!n:=⟨_,rfl⟩;rw [<- hn'] at hnn ⊢;clear hn';have hlen:=iD u2.limbs u1.limbs n1 (by omega);have H:=zH (jb hlt);have HL:=zH hlt;clear hlt
 go_enter Tryz.func131,Tryz.ntmps131
 go_wp2_with (go_at_call 142;refine (jN _ _ l1 l2 _ (u1.on (xA _ _ _ _)) (u2.on (xA _ _ _ _)) (by omega) (by omega) n1 n2).mono ?_;rintro e W ⟨rfl,hbW⟩;rw [H.out])
 have hb0:Below w.heap.size w W:=(xA _ _ _ _).trans (hbW.mono (by simp;omega));have B1:Blk W w.heap.size 39 [.bool n,m1]:=(((Blk.new _ _ _).alloc _).alloc _).on hbW
 have B2:Blk W (w.heap.size+1) 39 [.bool n',m2]:=by
  have:=((Blk.new (w.alloc (.cells #[.bool n,m1] 39)) 39 [.bool n',m2]).alloc (.cells #[.bool false,.slice none 0 0] 39)).on hbW;simpa using this
 have B3:Blk W (w.heap.size+1+1) 39 [.bool false,.slice none 0 0]:=by
  have:=(Blk.new ((w.alloc (.cells #[.bool n,m1] 39)).alloc (.cells #[.bool n',m2] 39)) 39 [.bool false,.slice none 0 0]).on hbW;simpa using this
 have hsz:w.heap.size+1+1+1<=W.heap.size:=by have:=B3.lt;omega
 clear hbW;refine iw mixed [.eq (.pointer (some ⟨w.heap.size+1,1,none⟩)),.eq (m2),.eq (.pointer (some ⟨w.heap.size,1,none⟩)),.eq (m1),.u32 (fun l=>ah l=ah l2-ah l1/\l.length<=34359738369),.eq (.pointer (some ⟨w.heap.size+1,0,none⟩)),.eq (.bool n'),.int (fZ n' (ah l2-ah l1))] [26,27,28,29,30,31,32,33] rfl rfl rfl ⟨?_,?_,?_,?_,?_,?_,?_,?_,trivial⟩ ?_
 ·intro A w1 hA hb he;have h3:A.eval (.tmp 3)=.pointer (some ⟨w.heap.size+1,0,none⟩):=hA 3 rfl;refine aK rfl ?_;exact gZ
 ·intro A w1 hA hb he;have h26:A.eval (.tmp 26)=.pointer (some ⟨w.heap.size+1,1,none⟩):=he.1 rfl;have c0:=(B2.on hb).at1 1 _ rfl;refine aK rfl ?_;exact gZ
 ·intro A w1 hA hb he;have h2:A.eval (.tmp 2)=.pointer (some ⟨w.heap.size,0,none⟩):=hA 2 rfl;refine aK rfl ?_;exact gZ
 ·intro A w1 hA hb he;have h28:A.eval (.tmp 28)=.pointer (some ⟨w.heap.size,1,none⟩):=he.1 rfl;have c0:=(B1.on hb).at1 1 _ rfl;refine aK rfl ?_;exact gZ
 ·intro A w1 hA hb he;have h27:A.eval (.tmp 27)=m2:=he.1 rfl;have h29:A.eval (.tmp 29)=m1:=he.2.1 rfl;have hf0:=eF A 143;refine cO (f:=143) (args:=#[m2,m1]) ?_ ?_
  ·exact gZ
  ·refine (xy _ _ l2 l1 _ (u2.on (hb0.trans (hb.mono (by omega)))) (u1.on (hb0.trans (hb.mono (by omega)))) (by omega) hlen (by have:=HL.out;omega)).mono ?_;rintro e w' ⟨v,l,rfl,hu,⟨hv,hl⟩,hb⟩;exact⟨v,rfl,hb,l,hu,hv,by omega⟩
 ·intro A w1 hA hb he;have h3:A.eval (.tmp 3)=.pointer (some ⟨w.heap.size+1,0,none⟩):=hA 3 rfl;refine aK rfl ?_;exact gZ
 ·intro A w1 hA hb he;have h31:A.eval (.tmp 31)=.pointer (some ⟨w.heap.size+1,0,none⟩):=he.1 rfl;have c0:=(B2.on hb).at1 0 _ rfl;refine aK rfl ?_;exact gZ
 ·intro A w1 hA hb he;have f30:((.u32 (fun l=>ah l=ah l2 - ah l1/\l.length<=34359738369):bU)).p (A.eval (.tmp 30)) w1:=he.1 rfl;obtain⟨v30,h30⟩:∃ v,A.eval (.tmp 30)=v:=⟨_,rfl⟩;rw [h30] at f30;have h32:A.eval (.tmp 32)=.bool n':=he.2.1 rfl;have hf0:=eF A 112;refine cO (f:=112) (args:=#[v30,.bool n']) ?_ ?_
  ·exact gZ
  ·obtain⟨l,hu,hl,hlen⟩:=f30;refine (kM n' _ l _ hu (by omega)).mono ?_;rintro e w' ⟨neg,m,rfl,hi,hb⟩;rw [hl] at hi;exact⟨_,rfl,hb,neg,m,rfl,hi⟩
 ·intro w1 hb;simp only [ou,bU.eq,bU.u32,bU.int,bU.of,lZ];rintro _ - _ ⟨neg,m,rfl,hi⟩;go_frame;refine aA rfl _ (.tmp 4) (.tmp 33) rfl _ _ _ _ rfl rfl (B3.on hb) rfl aR hi.ones ?_;intro w2 R gr;have hb2:=aM gr (Nat.le_of_lt (B3.on hb).lt) (Nat.le_refl _);go_wp2;exact dM rfl rfl rfl R Tryz.underlying39 rfl aR ⟨neg,m,rfl,hi.stored gr (B3.on hb) (by decide),hb0.trans ((hb.mono (by omega)).trans (hb2.mono (by omega)))⟩
theorem Uy (n:Bool) (m1 m2:Value) (l1 l2:List Int) (w:World) (u1:dH w m1 l1) (u2:dH w m2 l2) (b1:l1.length<=34359738368) (b2:l2.length<=34359738368) (n1:iU l1) (n2:iU l2) (hge:ah l2<=ah l1) :
  Calls Tryz.prog 131 #[.agg #[.bool n,m1],.agg #[.bool (!n),m2]] w (lI w (fZ n (ah l1-ah l2))):=by
 have hnn:(n == !n)=false:=by simp
 obtain⟨n',hn'⟩:∃ n',n'=!n:=⟨_,rfl⟩;rw [<- hn'] at hnn ⊢;clear hn';have hlen:=iD u1.limbs u2.limbs n2 hge;have hc:0<=dW (ah l1) (ah l2):=by unfold dW;rw [if_neg (by omega)];split <;> omega
 have HL:=zH hge;clear hge
 go_enter Tryz.func131,Tryz.ntmps131
 go_wp2_with (go_at_call 142;refine (jN _ _ l1 l2 _ (u1.on (xA _ _ _ _)) (u2.on (xA _ _ _ _)) (by omega) (by omega) n1 n2).mono ?_;rintro e W ⟨rfl,hbW⟩)
 have hb0:Below w.heap.size w W:=(xA _ _ _ _).trans (hbW.mono (by simp;omega));have B1:Blk W w.heap.size 39 [.bool n,m1]:=(((Blk.new _ _ _).alloc _).alloc _).on hbW
 have B2:Blk W (w.heap.size+1) 39 [.bool n',m2]:=by
  have:=((Blk.new (w.alloc (.cells #[.bool n,m1] 39)) 39 [.bool n',m2]).alloc (.cells #[.bool false,.slice none 0 0] 39)).on hbW;simpa using this
 have B3:Blk W (w.heap.size+1+1) 39 [.bool false,.slice none 0 0]:=by
  have:=(Blk.new ((w.alloc (.cells #[.bool n,m1] 39)).alloc (.cells #[.bool n',m2] 39)) 39 [.bool false,.slice none 0 0]).on hbW;simpa using this
 have hsz:w.heap.size+1+1+1<=W.heap.size:=by have:=B3.lt;omega
 clear hbW hc;refine iw mixed [.eq (.pointer (some ⟨w.heap.size,1,none⟩)),.eq (m1),.eq (.pointer (some ⟨w.heap.size+1,1,none⟩)),.eq (m2),.u32 (fun l=>ah l=ah l1-ah l2/\l.length<=34359738369),.eq (.pointer (some ⟨w.heap.size,0,none⟩)),.eq (.bool n),.int (fZ n (ah l1-ah l2))] [34,35,36,37,38,39,40,41] rfl rfl rfl ⟨?_,?_,?_,?_,?_,?_,?_,?_,trivial⟩ ?_
 ·intro A w1 hA hb he;have h2:A.eval (.tmp 2)=.pointer (some ⟨w.heap.size,0,none⟩):=hA 2 rfl;refine aK rfl ?_;exact gZ
 ·intro A w1 hA hb he;have h34:A.eval (.tmp 34)=.pointer (some ⟨w.heap.size,1,none⟩):=he.1 rfl;have c0:=(B1.on hb).at1 1 _ rfl;refine aK rfl ?_;exact gZ
 ·intro A w1 hA hb he;have h3:A.eval (.tmp 3)=.pointer (some ⟨w.heap.size+1,0,none⟩):=hA 3 rfl;refine aK rfl ?_;exact gZ
 ·intro A w1 hA hb he;have h36:A.eval (.tmp 36)=.pointer (some ⟨w.heap.size+1,1,none⟩):=he.1 rfl;have c0:=(B2.on hb).at1 1 _ rfl;refine aK rfl ?_;exact gZ
 ·intro A w1 hA hb he;have h35:A.eval (.tmp 35)=m1:=he.1 rfl;have h37:A.eval (.tmp 37)=m2:=he.2.1 rfl;have hf0:=eF A 143;refine cO (f:=143) (args:=#[m1,m2]) ?_ ?_
  ·exact gZ
  ·refine (xy _ _ l1 l2 _ (u1.on (hb0.trans (hb.mono (by omega)))) (u2.on (hb0.trans (hb.mono (by omega)))) (by omega) hlen (by have:=HL.out;omega)).mono ?_;rintro e w' ⟨v,l,rfl,hu,⟨hv,hl⟩,hb⟩;exact⟨v,rfl,hb,l,hu,hv,by omega⟩
 ·intro A w1 hA hb he;have h2:A.eval (.tmp 2)=.pointer (some ⟨w.heap.size,0,none⟩):=hA 2 rfl;refine aK rfl ?_;exact gZ
 ·intro A w1 hA hb he;have h39:A.eval (.tmp 39)=.pointer (some ⟨w.heap.size,0,none⟩):=he.1 rfl;have c0:=(B1.on hb).at1 0 _ rfl;refine aK rfl ?_;exact gZ
 ·intro A w1 hA hb he;have f38:((.u32 (fun l=>ah l=ah l1 - ah l2/\l.length<=34359738369):bU)).p (A.eval (.tmp 38)) w1:=he.1 rfl;obtain⟨v38,h38⟩:∃ v,A.eval (.tmp 38)=v:=⟨_,rfl⟩;rw [h38] at f38;have h40:A.eval (.tmp 40)=.bool n:=he.2.1 rfl;have hf0:=eF A 112;refine cO (f:=112) (args:=#[v38,.bool n]) ?_ ?_
  ·exact gZ
  ·obtain⟨l,hu,hl,hlen⟩:=f38;refine (kM n _ l _ hu (by omega)).mono ?_;rintro e w' ⟨neg,m,rfl,hi,hb⟩;rw [hl] at hi;exact⟨_,rfl,hb,neg,m,rfl,hi⟩
 ·intro w1 hb;simp only [ou,bU.eq,bU.u32,bU.int,bU.of,lZ];rintro _ - _ ⟨neg,m,rfl,hi⟩;go_frame;refine aA rfl _ (.tmp 4) (.tmp 41) rfl _ _ _ _ rfl rfl (B3.on hb) rfl aR hi.ones ?_;intro w2 R gr;have hb2:=aM gr (Nat.le_of_lt (B3.on hb).lt) (Nat.le_refl _);go_wp2;exact dM rfl rfl rfl R Tryz.underlying39 rfl aR ⟨neg,m,rfl,hi.stored gr (B3.on hb) (by decide),hb0.trans ((hb.mono (by omega)).trans (hb2.mono (by omega)))⟩
theorem K7 (n1 n2:Bool) (m1 m2:Value) (z1 z2:Int) (w:World) (h1:aZ w n1 m1 z1) (h2:aZ w n2 m2 z2) (c1:aI z1.natAbs<=iT) (c2:aI z2.natAbs<=iT) :
  Calls Tryz.prog 131 #[.agg #[.bool n1,m1],.agg #[.bool n2,m2]] w (lI w (z1+z2)):=by
 obtain⟨l1,ao1,cap1,rfl,u1,b1,nn1,e1⟩:=fU h1 c1;obtain⟨l2,ao2,cap2,rfl,u2,b2,nn2,e2⟩:=fU h2 c2;by_cases hn:n2=n1
 ·subst hn;rw [e1,e2,show fZ n2 (ah l1)+fZ n2 (ah l2)=fZ n2 (ah l1+ah l2) by cases n2 <;> simp [fZ];omega];exact O5 n2 _ _ l1 l2 w u1 u2 b1 b2
 ·obtain rfl:n2=!n1:=by cases n1 <;> cases n2 <;> simp_all
  by_cases hlt:ah l1<ah l2
  ·rw [e1,e2,show fZ n1 (ah l1)+fZ (!n1) (ah l2)=fZ (!n1) (ah l2-ah l1) by cases n1 <;> simp [fZ] <;> omega];exact Ux n1 _ _ l1 l2 w u1 u2 b1 b2 nn1 nn2 hlt
  ·rw [e1,e2,show fZ n1 (ah l1)+fZ (!n1) (ah l2)=fZ n1 (ah l1-ah l2) by cases n1 <;> simp [fZ] <;> omega];exact Uy n1 _ _ l1 l2 w u1 u2 b1 b2 nn1 nn2 (by omega)
theorem K8 (a b:Int):ah [a,b]=a+bL*b:=by simp [ah]
theorem tZ (w:World) (o:Obj) (a b:Int) (ha:0<=a/\a<bL) (hb:0<=b/\b<bL):dH ((w.alloc o).alloc (.cells #[.int .u32 a,.int .u32 b] uT)) (.slice (some ⟨w.heap.size+1,0,none⟩) 2 2) [a,b]:=by
 have h:=Blk.new (w.alloc o) uT (uc [a,b]);rw [World.size_alloc] at h;exact h.u32s ((aH.nil.cons hb).cons ha)
theorem jE {w W w1 w2:World} {neg:Bool} {m:Value} {z:Int} {R:Nat} {cs:List Value} (hb0:Below w.heap.size w W) (hb:Below W.heap.size W w1) (hR:w.heap.size<=R) (hB:Blk w1 R 39 cs) (hi:aZ w1 neg m z) (gr:w1.grownBy w2 (some R)) :
  lI w z (.returned (.agg #[.bool neg,m])) w2 :=
 ⟨neg,m,rfl,hi.stored gr hB (by decide),hb0.trans ((hb.mono hb0.size).trans ((aM gr (Nat.le_of_lt hB.lt) (Nat.le_refl R)).mono hR))⟩
theorem Ag (n:Int) (w:World) (h1:-4611686018427387904<=n) (h2:n<=4611686018427387904):Calls Tryz.prog 85 #[.int .i64 n] w (lI w n):=by
 by_cases hn:n<0
 ·have HM:Hid (IntKind.u64.wrap (-IntKind.u64.wrap n)=-n):=by show _=_;rw [IntKind.wrap_u64,IntKind.wrap_u64];omega
  go_enter Tryz.func85,Tryz.ntmps85
  go_wp2_with fail
  refine (kM true _ [_,_] _ (tZ w _ _ _ (by rw [HM.out,aT];omega) (by rw [HM.out,aT];omega)) (by simp)).mono ?_;rintro e W ⟨neg,m,rfl,hi,hb⟩;rw [HM.out,K8,aT] at hi;have B:Blk W w.heap.size 39 [.bool false,.slice none 0 0]:=((Blk.new _ _ _).alloc _).on hb
  have hi':aZ W neg m n:=by
   have:fZ true (-n % 4294967296+4294967296*(-n / 4294967296 % 4294967296))=n:=by simp only [fZ,if_true];omega
   rw [this] at hi;exact hi
  have hb0:Below w.heap.size w W:=(mh _ _ _).trans (hb.mono (by simp;omega));clear hi hb
  go_wp2_with (refine aA rfl _ (.tmp 2) (.tmp 18) rfl _ _ _ _ rfl rfl B rfl aR hi'.ones ?_;intro w2 R gr)
  exact dM rfl rfl rfl R Tryz.underlying39 rfl aR (jE hb0 (Below.refl _ _) (Nat.le_refl _) B hi' gr)
 ·go_enter Tryz.func85,Tryz.ntmps85
  go_wp2_with fail
  refine (kM false _ [_,_] _ (tZ w _ _ _ (by rw [aT];omega) (by rw [aT];omega)) (by simp)).mono ?_;rintro e W ⟨neg,m,rfl,hi,hb⟩;rw [K8,aT] at hi;have B:Blk W w.heap.size 39 [.bool false,.slice none 0 0]:=((Blk.new _ _ _).alloc _).on hb
  have hi':aZ W neg m n:=by
   have:fZ false (n % 4294967296+4294967296*(n / 4294967296))=n:=by simp only [fZ];rw [if_neg (by simp)];omega
   rw [this] at hi;exact hi
  have hb0:Below w.heap.size w W:=(mh _ _ _).trans (hb.mono (by simp;omega));clear hi hb
  go_wp2_with (refine aA rfl _ (.tmp 2) (.tmp 18) rfl _ _ _ _ rfl rfl B rfl aR hi'.ones ?_;intro w2 R gr)
  exact dM rfl rfl rfl R Tryz.underlying39 rfl aR (jE hb0 (Below.refl _ _) (Nat.le_refl _) B hi' gr)
end Go.Proofs.YtopclbeomcggiaaGreat
