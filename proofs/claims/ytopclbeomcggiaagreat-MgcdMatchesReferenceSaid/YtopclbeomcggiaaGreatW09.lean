/- The integer package of the program: Cmp, Add, Of. -/
import Derived.Test.YtopclbeomcggiaaGreatW05
import Derived.Test.YtopclbeomcggiaaGreatW08
set_option linter.unusedVariables false
set_option linter.unusedSimpArgs false
set_option maxHeartbeats 16000000
set_option maxRecDepth 100000
namespace Go.Proofs.YtopclbeomcggiaaGreat
open Go.RowKit Q
theorem mU(w:World)(a b:Obj):Below w.heap.size w ((w.alloc a).alloc b):=((Below.refl _ _).alloc (nL _) _).alloc sM _
theorem yQ(w:World)(a b c:Obj):Below w.heap.size w (((w.alloc a).alloc b).alloc c):=(((Below.refl _ _).alloc (nL _) _).alloc sM _).alloc (by simp;omega) _
theorem mD{w:World}{m:Value}{z:Int}(h:aZ w true m z):z<0:=by obtain⟨l,⟨j,cap,k,n,b,o⟩,d,e,i⟩:=h;have:=d.pos b (e rfl);rw[i];simp[fZ];exact this
theorem oG{w:World}{m:Value}{z:Int}(h:aZ w false m z):0<=z:=by obtain⟨l,⟨e,cap,i,j,b,k⟩,n,o,d⟩:=h;have:=aU b;rw[d];exact this
theorem Oz(x y:Int):eQ (-x) (-y)=eQ y x:=by
 rcases Int.lt_trichotomy x y with h|h|h
 ·rw[jP oM,jP h]
 ·rw[jQ oM,jQ h.symm]
 ·rw[jB oM,jB h]
theorem gz{w:World}{neg:Bool}{m:Value}{z:Int}(h:aZ w neg m z)(hz:aF z.natAbs<=jl) :
  ∃l b cap,m=.slice b l.length cap/\cO w (.slice b l.length cap) l/\l.length<=34359738368/\gL l/\z=fZ neg (ah l):=by
 obtain⟨l,b,cap,d,e,i,j,k,n,_,o⟩:=h.open hz;exact⟨l,b,cap,d,⟨b,cap,rfl,e,j,k⟩,i,n,o⟩
theorem SS(n1 n2:Bool)(m1 m2:Value)(z1 z2:Int)(w:World)(h1:aZ w n1 m1 z1)(h2:aZ w n2 m2 z2)(c1:aF z1.natAbs<=jl)(c2:aF z2.natAbs<=jl) :
  Calls Tryz.prog 129 #[.agg #[.bool n1,m1],.agg #[.bool n2,m2]] w (rE w (.int .i64 (eQ z1 z2))):=by
 obtain⟨l1,ao1,cap1,rfl,u1,b1,nn1,e1⟩:=gz h1 c1;obtain⟨l2,ao2,cap2,rfl,u2,b2,nn2,e2⟩:=gz h2 c2;cases n1
 ·cases n2
  ·have H:Hid (eQ z1 z2=eQ (ah l1) (ah l2)):=by rw[e1,e2];rfl
   clear e1 e2 h1 h2
   go_enter Tryz.func129,Tryz.ntmps129
   go_wp2_with (go_at_call 142;refine(jY _ _ l1 l2 _ (u1.on (mU _ _ _)) (u2.on (mU _ _ _)) oM oM nn1 nn2).mono ?_;rintro e w' ⟨rfl,hb⟩)
   go_ret;exact⟨by rw[H.out];rfl,(mU _ _ _).trans (hb.mono (by simp;omega))⟩
  ·have H:Hid (eQ z1 z2=1):=jP (by have:=mD h2;have:=oG h1;omega);clear e1 e2 h1 h2
   go_enter Tryz.func129,Tryz.ntmps129
   go_wp2;go_ret;exact⟨by rw[H.out];rfl,mU _ _ _⟩
 ·cases n2
  ·have H:Hid (eQ z1 z2=-1):=jB (by have:=mD h1;have:=oG h2;omega);clear e1 e2 h1 h2
   go_enter Tryz.func129,Tryz.ntmps129
   go_wp2;go_ret;exact⟨by rw[H.out];rfl,mU _ _ _⟩
  ·have H:Hid (eQ z1 z2=eQ (ah l2) (ah l1)):=by rw[e1,e2];exact Oz _ _
   clear e1 e2 h1 h2
   go_enter Tryz.func129,Tryz.ntmps129
   go_wp2_with (go_at_call 142;refine(jY _ _ l2 l1 _ (u2.on (mU _ _ _)) (u1.on (mU _ _ _)) oM oM nn2 nn1).mono ?_;rintro e w' ⟨rfl,hb⟩)
   go_ret;exact⟨by rw[H.out];rfl,(mU _ _ _).trans (hb.mono (by simp;omega))⟩
theorem mixed:Tryz.prog.follows .mixedOrders=true:=kM
theorem aK:(Tryz.prog.info? 39).map (·.size)=some 2:=kM
theorem Qj(n:Bool)(m1 m2:Value)(l1 l2:List Int)(w:World)(u1:cO w m1 l1)(u2:cO w m2 l2)(b1:l1.length<=34359738368)(b2:l2.length<=34359738368) :
  Calls Tryz.prog 131 #[.agg #[.bool n,m1],.agg #[.bool n,m2]] w (kY w (fZ n (ah l1+ah l2))):=by
 have k:(n==n)=true:=sM
 go_enter Tryz.func131,Tryz.ntmps131
 go_wp2_with fail
 refine rQ λW hb0 B1 B2 B3 o=>?_;refine iL mixed [.eq (.pointer (some ⟨w.heap.size,1,none⟩)),.eq (m1),.eq (.pointer (some ⟨w.heap.size+1,1,none⟩)),.eq (m2),.u32 (λl=>ah l=ah l1+ah l2/\l.length<=34359738369),.eq (.pointer (some ⟨w.heap.size,0,none⟩)),.eq (.bool n),.int (fZ n (ah l1+ah l2))] [11,12,13,14,15,16,17,18] rfl rfl rfl ⟨?_,?_,?_,?_,?_,?_,?_,?_,trivial⟩ ?_
 ·intro A w1 hA hb he;have h2:A.eval (.tmp 2)=.pointer (some ⟨w.heap.size,0,none⟩):=hA 2 rfl;refine aL rfl ?_;exact gZ
 ·intro A w1 hA hb he;have h11:A.eval (.tmp 11)=.pointer (some ⟨w.heap.size,1,none⟩):=he.1 rfl;have c0:=(B1.on hb).at1 1 _ rfl;refine aL rfl ?_;exact gZ
 ·intro A w1 hA hb he;have h3:A.eval (.tmp 3)=.pointer (some ⟨w.heap.size+1,0,none⟩):=hA 3 rfl;refine aL rfl ?_;exact gZ
 ·intro A w1 hA hb he;have h13:A.eval (.tmp 13)=.pointer (some ⟨w.heap.size+1,1,none⟩):=he.1 rfl;have c0:=(B2.on hb).at1 1 _ rfl;refine aL rfl ?_;exact gZ
 ·intro A w1 hA hb he;have h12:A.eval (.tmp 12)=m1:=he.1 rfl;have h14:A.eval (.tmp 14)=m2:=he.2.1 rfl;have hf0:=eF A 144;refine dh (f:=144) (args:=#[m1,m2]) ?_ ?_
  ·exact gZ
  ·refine(Qi _ _ l1 l2 _ (u1.on (hb0.trans (hb.mono oM))) (u2.on (hb0.trans (hb.mono oM))) oM oM).mono ?_;rintro e w' ⟨v,l,rfl,hu,⟨hv,i⟩,hb⟩;exact⟨v,rfl,hb,l,hu,hv,oM⟩
 ·intro A w1 hA hb he;have h2:A.eval (.tmp 2)=.pointer (some ⟨w.heap.size,0,none⟩):=hA 2 rfl;refine aL rfl ?_;exact gZ
 ·intro A w1 hA hb he;have h16:A.eval (.tmp 16)=.pointer (some ⟨w.heap.size,0,none⟩):=he.1 rfl;have c0:=(B1.on hb).at1 0 _ rfl;refine aL rfl ?_;exact gZ
 ·intro A w1 hA hb he;have f15:((.u32 (λl=>ah l=ah l1+ah l2/\l.length<=34359738369):bX)).p (A.eval (.tmp 15)) w1:=he.1 rfl;obtain⟨v15,h15⟩:∃v,A.eval (.tmp 15)=v:=⟨_,rfl⟩;rw[h15]at f15;have h17:A.eval (.tmp 17)=.bool n:=he.2.1 rfl;have hf0:=eF A 112;refine dh (f:=112) (args:=#[v15,.bool n]) ?_ ?_
  ·exact gZ
  ·obtain⟨l,hu,i,j⟩:=f15;refine(lI n _ l _ hu oM).mono ?_;rintro e w' ⟨neg,m,rfl,b,hb⟩;rw[i]at b;exact⟨_,rfl,hb,neg,m,rfl,b⟩
 ·intro w1 hb;simp only[pV,bX.eq,bX.u32,bX.int,bX.of,lZ];rintro _ - _ ⟨neg,m,rfl,b⟩;go_frame;refine az rfl _ (.tmp 4) (.tmp 18) rfl _ _ _ _ rfl rfl (B3.on hb) rfl aK b.ones ?_;intro w2 R d;have hb2:=aH d (Nat.le_of_lt (B3.on hb).lt) (nL _);go_wp2;exact dH rfl rfl rfl R Tryz.underlying39 rfl aK ⟨neg,m,rfl,b.stored d (B3.on hb) dM,hb0.trans ((hb.mono oM).trans (hb2.mono oM))⟩
theorem Vf(n:Bool)(m1 m2:Value)(l1 l2:List Int)(w:World)(u1:cO w m1 l1)(u2:cO w m2 l2)(b1:l1.length<=34359738368)(b2:l2.length<=34359738368)(n1:gL l1)(n2:gL l2)(i:ah l1<ah l2) :
  Calls Tryz.prog 131 #[.agg #[.bool n,m1],.agg #[.bool (!n),m2]] w (kY w (fZ (!n) (ah l2-ah l1))):=by
 have o:(n == !n)=false:=sM;obtain⟨n',k⟩:∃n',n'=!n:=⟨_,rfl⟩;rw[<-k]at o ⊢;clear k;have d:=iW u2.limbs u1.limbs n1 oM;have H:=zH (jB i);have s:=zH i;clear i
 go_enter Tryz.func131,Tryz.ntmps131
 go_wp2_with (go_at_call 142;refine(jY _ _ l1 l2 _ (u1.on (yQ _ _ _ _)) (u2.on (yQ _ _ _ _)) oM oM n1 n2).mono ?_;rintro e W ⟨rfl,b⟩;rw[H.out])
 have hb0:Below w.heap.size w W:=(yQ _ _ _ _).trans (b.mono (by simp;omega));have B1:Blk W w.heap.size 39 [.bool n,m1]:=(((Blk.new _ _ _).alloc _).alloc _).on b
 have B2:Blk W (w.heap.size+1) 39 [.bool n',m2]:=by have:=((Blk.new (w.alloc (.cells #[.bool n,m1] 39)) 39 [.bool n',m2]).alloc (.cells #[.bool false,.slice none 0 0] 39)).on b;simpa using this
 have B3:Blk W (w.heap.size+1+1) 39 [.bool false,.slice none 0 0]:=by have:=(Blk.new ((w.alloc (.cells #[.bool n,m1] 39)).alloc (.cells #[.bool n',m2] 39)) 39 [.bool false,.slice none 0 0]).on b;simpa using this
 have u:w.heap.size+1+1+1<=W.heap.size:=by have:=B3.lt;omega
 clear b;refine iL mixed [.eq (.pointer (some ⟨w.heap.size+1,1,none⟩)),.eq (m2),.eq (.pointer (some ⟨w.heap.size,1,none⟩)),.eq (m1),.u32 (λl=>ah l=ah l2-ah l1/\l.length<=34359738369),.eq (.pointer (some ⟨w.heap.size+1,0,none⟩)),.eq (.bool n'),.int (fZ n' (ah l2-ah l1))] [26,27,28,29,30,31,32,33] rfl rfl rfl ⟨?_,?_,?_,?_,?_,?_,?_,?_,trivial⟩ ?_
 ·intro A w1 hA hb he;have h3:A.eval (.tmp 3)=.pointer (some ⟨w.heap.size+1,0,none⟩):=hA 3 rfl;refine aL rfl ?_;exact gZ
 ·intro A w1 hA hb he;have h26:A.eval (.tmp 26)=.pointer (some ⟨w.heap.size+1,1,none⟩):=he.1 rfl;have c0:=(B2.on hb).at1 1 _ rfl;refine aL rfl ?_;exact gZ
 ·intro A w1 hA hb he;have h2:A.eval (.tmp 2)=.pointer (some ⟨w.heap.size,0,none⟩):=hA 2 rfl;refine aL rfl ?_;exact gZ
 ·intro A w1 hA hb he;have h28:A.eval (.tmp 28)=.pointer (some ⟨w.heap.size,1,none⟩):=he.1 rfl;have c0:=(B1.on hb).at1 1 _ rfl;refine aL rfl ?_;exact gZ
 ·intro A w1 hA hb he;have h27:A.eval (.tmp 27)=m2:=he.1 rfl;have h29:A.eval (.tmp 29)=m1:=he.2.1 rfl;have hf0:=eF A 143;refine dh (f:=143) (args:=#[m2,m1]) ?_ ?_
  ·exact gZ
  ·refine(yO _ _ l2 l1 _ (u2.on (hb0.trans (hb.mono oM))) (u1.on (hb0.trans (hb.mono oM))) oM d (by have:=s.out;omega)).mono ?_;rintro e w' ⟨v,l,rfl,hu,⟨hv,r⟩,hb⟩;exact⟨v,rfl,hb,l,hu,hv,oM⟩
 ·intro A w1 hA hb he;have h3:A.eval (.tmp 3)=.pointer (some ⟨w.heap.size+1,0,none⟩):=hA 3 rfl;refine aL rfl ?_;exact gZ
 ·intro A w1 hA hb he;have h31:A.eval (.tmp 31)=.pointer (some ⟨w.heap.size+1,0,none⟩):=he.1 rfl;have c0:=(B2.on hb).at1 0 _ rfl;refine aL rfl ?_;exact gZ
 ·intro A w1 hA hb he;have f30:((.u32 (λl=>ah l=ah l2 - ah l1/\l.length<=34359738369):bX)).p (A.eval (.tmp 30)) w1:=he.1 rfl;obtain⟨v30,h30⟩:∃v,A.eval (.tmp 30)=v:=⟨_,rfl⟩;rw[h30]at f30;have h32:A.eval (.tmp 32)=.bool n':=he.2.1 rfl;have hf0:=eF A 112;refine dh (f:=112) (args:=#[v30,.bool n']) ?_ ?_
  ·exact gZ
  ·obtain⟨l,hu,r,d⟩:=f30;refine(lI n' _ l _ hu oM).mono ?_;rintro e w' ⟨neg,m,rfl,j,hb⟩;rw[r]at j;exact⟨_,rfl,hb,neg,m,rfl,j⟩
 ·intro w1 hb;simp only[pV,bX.eq,bX.u32,bX.int,bX.of,lZ];rintro _ - _ ⟨neg,m,rfl,j⟩;go_frame;refine az rfl _ (.tmp 4) (.tmp 33) rfl _ _ _ _ rfl rfl (B3.on hb) rfl aK j.ones ?_;intro w2 R q;have hb2:=aH q (Nat.le_of_lt (B3.on hb).lt) (nL _);go_wp2;exact dH rfl rfl rfl R Tryz.underlying39 rfl aK ⟨neg,m,rfl,j.stored q (B3.on hb) dM,hb0.trans ((hb.mono oM).trans (hb2.mono oM))⟩
theorem Vg(n:Bool)(m1 m2:Value)(l1 l2:List Int)(w:World)(u1:cO w m1 l1)(u2:cO w m2 l2)(b1:l1.length<=34359738368)(b2:l2.length<=34359738368)(n1:gL l1)(n2:gL l2)(i:ah l2<=ah l1) :
  Calls Tryz.prog 131 #[.agg #[.bool n,m1],.agg #[.bool (!n),m2]] w (kY w (fZ n (ah l1-ah l2))):=by
 have o:(n == !n)=false:=sM;obtain⟨n',k⟩:∃n',n'=!n:=⟨_,rfl⟩;rw[<-k]at o ⊢;clear k;have d:=iW u1.limbs u2.limbs n2 i;have hc:0<=eQ (ah l1) (ah l2):=by unfold eQ;rw[if_neg oM];split<;>omega
 have s:=zH i;clear i
 go_enter Tryz.func131,Tryz.ntmps131
 go_wp2_with (go_at_call 142;refine(jY _ _ l1 l2 _ (u1.on (yQ _ _ _ _)) (u2.on (yQ _ _ _ _)) oM oM n1 n2).mono ?_;rintro e W ⟨rfl,b⟩)
 have hb0:Below w.heap.size w W:=(yQ _ _ _ _).trans (b.mono (by simp;omega));have B1:Blk W w.heap.size 39 [.bool n,m1]:=(((Blk.new _ _ _).alloc _).alloc _).on b
 have B2:Blk W (w.heap.size+1) 39 [.bool n',m2]:=by have:=((Blk.new (w.alloc (.cells #[.bool n,m1] 39)) 39 [.bool n',m2]).alloc (.cells #[.bool false,.slice none 0 0] 39)).on b;simpa using this
 have B3:Blk W (w.heap.size+1+1) 39 [.bool false,.slice none 0 0]:=by have:=(Blk.new ((w.alloc (.cells #[.bool n,m1] 39)).alloc (.cells #[.bool n',m2] 39)) 39 [.bool false,.slice none 0 0]).on b;simpa using this
 have u:w.heap.size+1+1+1<=W.heap.size:=by have:=B3.lt;omega
 clear b hc;refine iL mixed [.eq (.pointer (some ⟨w.heap.size,1,none⟩)),.eq (m1),.eq (.pointer (some ⟨w.heap.size+1,1,none⟩)),.eq (m2),.u32 (λl=>ah l=ah l1-ah l2/\l.length<=34359738369),.eq (.pointer (some ⟨w.heap.size,0,none⟩)),.eq (.bool n),.int (fZ n (ah l1-ah l2))] [34,35,36,37,38,39,40,41] rfl rfl rfl ⟨?_,?_,?_,?_,?_,?_,?_,?_,trivial⟩ ?_
 ·intro A w1 hA hb he;have h2:A.eval (.tmp 2)=.pointer (some ⟨w.heap.size,0,none⟩):=hA 2 rfl;refine aL rfl ?_;exact gZ
 ·intro A w1 hA hb he;have h34:A.eval (.tmp 34)=.pointer (some ⟨w.heap.size,1,none⟩):=he.1 rfl;have c0:=(B1.on hb).at1 1 _ rfl;refine aL rfl ?_;exact gZ
 ·intro A w1 hA hb he;have h3:A.eval (.tmp 3)=.pointer (some ⟨w.heap.size+1,0,none⟩):=hA 3 rfl;refine aL rfl ?_;exact gZ
 ·intro A w1 hA hb he;have h36:A.eval (.tmp 36)=.pointer (some ⟨w.heap.size+1,1,none⟩):=he.1 rfl;have c0:=(B2.on hb).at1 1 _ rfl;refine aL rfl ?_;exact gZ
 ·intro A w1 hA hb he;have h35:A.eval (.tmp 35)=m1:=he.1 rfl;have h37:A.eval (.tmp 37)=m2:=he.2.1 rfl;have hf0:=eF A 143;refine dh (f:=143) (args:=#[m1,m2]) ?_ ?_
  ·exact gZ
  ·refine(yO _ _ l1 l2 _ (u1.on (hb0.trans (hb.mono oM))) (u2.on (hb0.trans (hb.mono oM))) oM d (by have:=s.out;omega)).mono ?_;rintro e w' ⟨v,l,rfl,hu,⟨hv,r⟩,hb⟩;exact⟨v,rfl,hb,l,hu,hv,oM⟩
 ·intro A w1 hA hb he;have h2:A.eval (.tmp 2)=.pointer (some ⟨w.heap.size,0,none⟩):=hA 2 rfl;refine aL rfl ?_;exact gZ
 ·intro A w1 hA hb he;have h39:A.eval (.tmp 39)=.pointer (some ⟨w.heap.size,0,none⟩):=he.1 rfl;have c0:=(B1.on hb).at1 0 _ rfl;refine aL rfl ?_;exact gZ
 ·intro A w1 hA hb he;have f38:((.u32 (λl=>ah l=ah l1 - ah l2/\l.length<=34359738369):bX)).p (A.eval (.tmp 38)) w1:=he.1 rfl;obtain⟨v38,h38⟩:∃v,A.eval (.tmp 38)=v:=⟨_,rfl⟩;rw[h38]at f38;have h40:A.eval (.tmp 40)=.bool n:=he.2.1 rfl;have hf0:=eF A 112;refine dh (f:=112) (args:=#[v38,.bool n]) ?_ ?_
  ·exact gZ
  ·obtain⟨l,hu,r,d⟩:=f38;refine(lI n _ l _ hu oM).mono ?_;rintro e w' ⟨neg,m,rfl,j,hb⟩;rw[r]at j;exact⟨_,rfl,hb,neg,m,rfl,j⟩
 ·intro w1 hb;simp only[pV,bX.eq,bX.u32,bX.int,bX.of,lZ];rintro _ - _ ⟨neg,m,rfl,j⟩;go_frame;refine az rfl _ (.tmp 4) (.tmp 41) rfl _ _ _ _ rfl rfl (B3.on hb) rfl aK j.ones ?_;intro w2 R q;have hb2:=aH q (Nat.le_of_lt (B3.on hb).lt) (nL _);go_wp2;exact dH rfl rfl rfl R Tryz.underlying39 rfl aK ⟨neg,m,rfl,j.stored q (B3.on hb) dM,hb0.trans ((hb.mono oM).trans (hb2.mono oM))⟩
theorem MH(n1 n2:Bool)(m1 p:Value)(l m:Int)(w:World)(s:aZ w n1 m1 l)(u:aZ w n2 p m)(c1:aF l.natAbs<=jl)(c2:aF m.natAbs<=jl) :
  Calls Tryz.prog 131 #[.agg #[.bool n1,m1],.agg #[.bool n2,p]] w (kY w (l+m)):=by
 obtain⟨b,q,n,rfl,u1,b1,d,e1⟩:=gz s c1;obtain⟨l2,r,o,rfl,k,h,e,i⟩:=gz u c2;by_cases x:n2=n1
 ·subst x;rw[e1,i,show fZ n2 (ah b)+fZ n2 (ah l2)=fZ n2 (ah b+ah l2) by cases n2<;>simp[fZ];omega];exact Qj n2 _ _ b l2 w u1 k b1 h
 ·obtain rfl:n2=!n1:=by cases n1<;>cases n2<;>simp_all
  by_cases j:ah b<ah l2
  ·rw[e1,i,show fZ n1 (ah b)+fZ (!n1) (ah l2)=fZ (!n1) (ah l2-ah b) by cases n1<;>simp[fZ]<;>omega];exact Vf n1 _ _ b l2 w u1 k b1 h d e j
  ·rw[e1,i,show fZ n1 (ah b)+fZ (!n1) (ah l2)=fZ n1 (ah b-ah l2) by cases n1<;>simp[fZ]<;>omega];exact Vg n1 _ _ b l2 w u1 k b1 h d e oM
theorem MI(a b:Int):ah [a,b]=a+bv*b:=by simp[ah]
theorem uU(w:World)(o:Obj)(a b:Int)(ha:0<=a/\a<bv)(hb:0<=b/\b<bv):cO ((w.alloc o).alloc (.cells #[.int .u32 a,.int .u32 b] uT)) (.slice (some ⟨w.heap.size+1,0,none⟩) 2 2) [a,b]:=by have h:=Blk.new (w.alloc o) uT (uc [a,b]);rw[World.size_alloc]at h;exact h.u32s ((aG.nil.cons hb).cons ha)
theorem jd{w W w1 h:World}{neg:Bool}{m:Value}{z:Int}{R:Nat}{cs:List Value}(b:Below w.heap.size w W)(hb:Below W.heap.size W w1)(i:w.heap.size<=R)(e:Blk w1 R 39 cs)(j:aZ w1 neg m z)(d:w1.grownBy h (some R)) :
  kY w z (.returned (.agg #[.bool neg,m])) h :=
 ⟨neg,m,rfl,j.stored d e dM,b.trans ((hb.mono b.size).trans ((aH d (Nat.le_of_lt e.lt) (nL R)).mono i))⟩
theorem BQ(n:Int)(w:World)(h1:-4611686018427387904<=n)(h2:n<=4611686018427387904):Calls Tryz.prog 85 #[.int .i64 n] w (kY w n):=by
 by_cases k:n<0
 ·have i:Hid (IntKind.u64.wrap (-IntKind.u64.wrap n)=-n):=by show _=_;rw[IntKind.wrap_u64,IntKind.wrap_u64];omega
  go_enter Tryz.func85,Tryz.ntmps85
  go_wp2_with fail
  refine(lI true _ [_,_] _ (uU w _ _ _ (by rw[i.out,aP];omega) (by rw[i.out,aP];omega)) sM).mono ?_;rintro e W ⟨neg,m,rfl,d,hb⟩;rw[i.out,MI,aP]at d;have B:Blk W w.heap.size 39 [.bool false,.slice none 0 0]:=((Blk.new _ _ _).alloc _).on hb
  have b:aZ W neg m n:=by
   have:fZ true (-n%4294967296+4294967296*(-n/4294967296%4294967296))=n:=by simp only[fZ,if_true];omega
   rw[this]at d;exact d
  have hb0:Below w.heap.size w W:=(mU _ _ _).trans (hb.mono (by simp;omega));clear d hb
  go_wp2_with (refine az rfl _ (.tmp 2) (.tmp 18) rfl _ _ _ _ rfl rfl B rfl aK b.ones ?_;intro w2 R j)
  exact dH rfl rfl rfl R Tryz.underlying39 rfl aK (jd hb0 (Below.refl _ _) (nL _) B b j)
 ·go_enter Tryz.func85,Tryz.ntmps85
  go_wp2_with fail
  refine(lI false _ [_,_] _ (uU w _ _ _ (by rw[aP];omega) (by rw[aP];omega)) sM).mono ?_;rintro e W ⟨neg,m,rfl,d,hb⟩;rw[MI,aP]at d;have B:Blk W w.heap.size 39 [.bool false,.slice none 0 0]:=((Blk.new _ _ _).alloc _).on hb
  have b:aZ W neg m n:=by
   have:fZ false (n%4294967296+4294967296*(n/4294967296))=n:=by simp only[fZ];rw[if_neg sM];omega
   rw[this]at d;exact d
  have hb0:Below w.heap.size w W:=(mU _ _ _).trans (hb.mono (by simp;omega));clear d hb
  go_wp2_with (refine az rfl _ (.tmp 2) (.tmp 18) rfl _ _ _ _ rfl rfl B rfl aK b.ones ?_;intro w2 R j)
  exact dH rfl rfl rfl R Tryz.underlying39 rfl aK (jd hb0 (Below.refl _ _) (nL _) B b j)
end Go.Proofs.YtopclbeomcggiaaGreat
