/- The integer package of the program: Cmp, Add, Of. The integer package of the program: Of, Mul. -/
import Derived.Test.YtopclbeomcggiaaGreatE02
import Derived.Test.YtopclbeomcggiaaGreatE03
import Derived.Test.YtopclbeomcggiaaGreatE04
import Derived.Test.YtopclbeomcggiaaGreatE07
set_option linter.unusedVariables false
set_option linter.unusedSimpArgs false
set_option maxHeartbeats 16000000
set_option maxRecDepth 100000
namespace Go.Proofs.YtopclbeomcggiaaGreat
open Go.RowKit Q
theorem below2 (w:World) (a b:Obj):Below w.heap.size w ((w.alloc a).alloc b):=((Below.refl _ _).alloc (Nat.le_refl _) _).alloc (by simp) _
theorem below3 (w:World) (a b c:Obj):Below w.heap.size w (((w.alloc a).alloc b).alloc c):=(((Below.refl _ _).alloc (Nat.le_refl _) _).alloc (by simp) _).alloc (by simp;omega) _
theorem isInt_neg_lt {w:World} {m:Value} {z:Int} (h:IsInt w true m z):z<0:=by
 obtain⟨l,⟨ao,cap,h1,h2,h3,h4⟩,h5,h6,h7⟩:=h;have:=h5.pos h3 (h6 rfl);rw [h7];simp [sgn];exact this
theorem isInt_nonneg {w:World} {m:Value} {z:Int} (h:IsInt w false m z):0<=z:=by
 obtain⟨l,⟨ao,cap,h1,h2,h3,h4⟩,h5,h6,h7⟩:=h;have:=lval_nonneg h3;rw [h7];exact this
theorem cmpZ_negs (x y:Int):cmpZ (-x) (-y)=cmpZ y x:=by
 rcases Int.lt_trichotomy x y with h|h|h
 ·rw [cmpZ_gt (by omega),cmpZ_gt h]
 ·rw [cmpZ_eq (by omega),cmpZ_eq h.symm]
 ·rw [cmpZ_lt (by omega),cmpZ_lt h]
theorem isInt_parts {w:World} {neg:Bool} {m:Value} {z:Int} (h:IsInt w neg m z) (hz:nbits z.natAbs<=CAP) :
  ∃ l ao cap,m=.slice ao l.length cap/\U32s w (.slice ao l.length cap) l/\l.length<=34359738368/\Norm l/\z=sgn neg (lval l):=by
 obtain⟨l,ao,cap,h1,h2,h3,h4,h5,h6,_,h8⟩:=h.open hz;exact⟨l,ao,cap,h1,⟨ao,cap,rfl,h2,h4,h5⟩,h3,h6,h8⟩
theorem cmp_any (n1 n2:Bool) (m1 m2:Value) (z1 z2:Int) (w:World) (h1:IsInt w n1 m1 z1) (h2:IsInt w n2 m2 z2) (c1:nbits z1.natAbs<=CAP) (c2:nbits z2.natAbs<=CAP) :
  Calls Tryz.prog 129 #[.agg #[.bool n1,m1],.agg #[.bool n2,m2]] w (Ret w (.int .i64 (cmpZ z1 z2))):=by
 obtain⟨l1,ao1,cap1,rfl,u1,b1,nn1,e1⟩:=isInt_parts h1 c1;obtain⟨l2,ao2,cap2,rfl,u2,b2,nn2,e2⟩:=isInt_parts h2 c2;cases n1
 ·cases n2
  ·have H:Hid (cmpZ z1 z2=cmpZ (lval l1) (lval l2)):=by rw [e1,e2];rfl
   clear e1 e2 h1 h2
   go_enter Tryz.func129,Tryz.ntmps129
   go_wp2_with (go_at_call 142;refine (compare_any _ _ l1 l2 _ (u1.on (below2 _ _ _)) (u2.on (below2 _ _ _)) (by omega) (by omega) nn1 nn2).mono ?_;rintro e w' ⟨rfl,hb⟩)
   go_ret;exact⟨by rw [H.out];rfl,(below2 _ _ _).trans (hb.mono (by simp;omega))⟩
  ·have H:Hid (cmpZ z1 z2=1):=cmpZ_gt (by have:=isInt_neg_lt h2;have:=isInt_nonneg h1;omega);clear e1 e2 h1 h2
   go_enter Tryz.func129,Tryz.ntmps129
   go_wp2;go_ret;exact⟨by rw [H.out];rfl,below2 _ _ _⟩
 ·cases n2
  ·have H:Hid (cmpZ z1 z2=-1):=cmpZ_lt (by have:=isInt_neg_lt h1;have:=isInt_nonneg h2;omega);clear e1 e2 h1 h2
   go_enter Tryz.func129,Tryz.ntmps129
   go_wp2;go_ret;exact⟨by rw [H.out];rfl,below2 _ _ _⟩
  ·have H:Hid (cmpZ z1 z2=cmpZ (lval l2) (lval l1)):=by rw [e1,e2];exact cmpZ_negs _ _
   clear e1 e2 h1 h2
   go_enter Tryz.func129,Tryz.ntmps129
   go_wp2_with (go_at_call 142;refine (compare_any _ _ l2 l1 _ (u2.on (below2 _ _ _)) (u1.on (below2 _ _ _)) (by omega) (by omega) nn2 nn1).mono ?_;rintro e w' ⟨rfl,hb⟩)
   go_ret;exact⟨by rw [H.out];rfl,(below2 _ _ _).trans (hb.mono (by simp;omega))⟩
theorem mixed:Tryz.prog.follows .mixedOrders=true:=by kernel_rfl
theorem sizeInt:(Tryz.prog.info? 39).map (·.size)=some 2:=by kernel_rfl
theorem add_same (n:Bool) (m1 m2:Value) (l1 l2:List Int) (w:World) (u1:U32s w m1 l1) (u2:U32s w m2 l2) (b1:l1.length<=34359738368) (b2:l2.length<=34359738368) :
  Calls Tryz.prog 131 #[.agg #[.bool n,m1],.agg #[.bool n,m2]] w (RetI w (sgn n (lval l1+lval l2))):=by
 have hnn:(n == n)=true:=by simp
 go_enter Tryz.func131,Tryz.ntmps131
 go_wp2_with fail
 refine abs3 fun W hb0 B1 B2 B3 hsz=>?_;refine wp_region_F mixed [.eq (.pointer (some ⟨w.heap.size,1,none⟩)),.eq (m1),.eq (.pointer (some ⟨w.heap.size+1,1,none⟩)),.eq (m2),.u32 (fun l=>lval l=lval l1+lval l2/\l.length<=34359738369),.eq (.pointer (some ⟨w.heap.size,0,none⟩)),.eq (.bool n),.int (sgn n (lval l1+lval l2))] [11,12,13,14,15,16,17,18] rfl rfl rfl ⟨?_,?_,?_,?_,?_,?_,?_,?_,trivial⟩ ?_
 ·intro A w1 hA hb he;have h2:A.eval (.tmp 2)=.pointer (some ⟨w.heap.size,0,none⟩):=hA 2 rfl;refine step_pure rfl ?_;exact gZ
 ·intro A w1 hA hb he;have h11:A.eval (.tmp 11)=.pointer (some ⟨w.heap.size,1,none⟩):=he.1 rfl;have c0:=(B1.on hb).at1 1 _ rfl;refine step_pure rfl ?_;exact gZ
 ·intro A w1 hA hb he;have h3:A.eval (.tmp 3)=.pointer (some ⟨w.heap.size+1,0,none⟩):=hA 3 rfl;refine step_pure rfl ?_;exact gZ
 ·intro A w1 hA hb he;have h13:A.eval (.tmp 13)=.pointer (some ⟨w.heap.size+1,1,none⟩):=he.1 rfl;have c0:=(B2.on hb).at1 1 _ rfl;refine step_pure rfl ?_;exact gZ
 ·intro A w1 hA hb he;have h12:A.eval (.tmp 12)=m1:=he.1 rfl;have h14:A.eval (.tmp 14)=m2:=he.2.1 rfl;have hf0:=eF A 144;refine step_call (f:=144) (args:=#[m1,m2]) ?_ ?_
  ·exact gZ
  ·refine (plus_any _ _ l1 l2 _ (u1.on (hb0.trans (hb.mono (by omega)))) (u2.on (hb0.trans (hb.mono (by omega)))) (by omega) (by omega)).mono ?_;rintro e w' ⟨v,l,rfl,hu,⟨hv,hl⟩,hb⟩;exact⟨v,rfl,hb,l,hu,hv,by omega⟩
 ·intro A w1 hA hb he;have h2:A.eval (.tmp 2)=.pointer (some ⟨w.heap.size,0,none⟩):=hA 2 rfl;refine step_pure rfl ?_;exact gZ
 ·intro A w1 hA hb he;have h16:A.eval (.tmp 16)=.pointer (some ⟨w.heap.size,0,none⟩):=he.1 rfl;have c0:=(B1.on hb).at1 0 _ rfl;refine step_pure rfl ?_;exact gZ
 ·intro A w1 hA hb he;have f15:((.u32 (fun l=>lval l=lval l1+lval l2/\l.length<=34359738369):Fact)).p (A.eval (.tmp 15)) w1:=he.1 rfl;obtain⟨v15,h15⟩:∃ v,A.eval (.tmp 15)=v:=⟨_,rfl⟩;rw [h15] at f15;have h17:A.eval (.tmp 17)=.bool n:=he.2.1 rfl;have hf0:=eF A 112;refine step_call (f:=112) (args:=#[v15,.bool n]) ?_ ?_
  ·exact gZ
  ·obtain⟨l,hu,hl,hlen⟩:=f15;refine (norm_any n _ l _ hu (by omega)).mono ?_;rintro e w' ⟨neg,m,rfl,hi,hb⟩;rw [hl] at hi;exact⟨_,rfl,hb,neg,m,rfl,hi⟩
 ·intro w1 hb;simp only [TailF,Fact.eq,Fact.u32,Fact.int,Fact.of,lZ];rintro _ - _ ⟨neg,m,rfl,hi⟩;go_frame;refine wpList_store_blk rfl _ (.tmp 4) (.tmp 18) rfl _ _ _ _ rfl rfl (B3.on hb) rfl sizeInt hi.ones ?_;intro w2 R gr;have hb2:=grown_below gr (Nat.le_of_lt (B3.on hb).lt) (Nat.le_refl _);go_wp2;exact ret_blk rfl rfl rfl R Tryz.underlying39 rfl sizeInt ⟨neg,m,rfl,hi.stored gr (B3.on hb) (by decide),hb0.trans ((hb.mono (by omega)).trans (hb2.mono (by omega)))⟩
theorem add_lt (n:Bool) (m1 m2:Value) (l1 l2:List Int) (w:World) (u1:U32s w m1 l1) (u2:U32s w m2 l2) (b1:l1.length<=34359738368) (b2:l2.length<=34359738368) (n1:Norm l1) (n2:Norm l2) (hlt:lval l1<lval l2) :
  Calls Tryz.prog 131 #[.agg #[.bool n,m1],.agg #[.bool (!n),m2]] w (RetI w (sgn (!n) (lval l2-lval l1))):=by
 have hnn:(n == !n)=false:=by simp
 obtain⟨n',hn'⟩:∃ n',n'=!n:=⟨_,rfl⟩;rw [<- hn'] at hnn ⊢;clear hn';have hlen:=len_le_of_val u2.limbs u1.limbs n1 (by omega);have H:=zH (cmpZ_lt hlt);have HL:=zH hlt;clear hlt
 go_enter Tryz.func131,Tryz.ntmps131
 go_wp2_with (go_at_call 142;refine (compare_any _ _ l1 l2 _ (u1.on (below3 _ _ _ _)) (u2.on (below3 _ _ _ _)) (by omega) (by omega) n1 n2).mono ?_;rintro e W ⟨rfl,hbW⟩;rw [H.out])
 have hb0:Below w.heap.size w W:=(below3 _ _ _ _).trans (hbW.mono (by simp;omega));have B1:Blk W w.heap.size 39 [.bool n,m1]:=(((Blk.new _ _ _).alloc _).alloc _).on hbW
 have B2:Blk W (w.heap.size+1) 39 [.bool n',m2]:=by
  have:=((Blk.new (w.alloc (.cells #[.bool n,m1] 39)) 39 [.bool n',m2]).alloc (.cells #[.bool false,.slice none 0 0] 39)).on hbW;simpa using this
 have B3:Blk W (w.heap.size+1+1) 39 [.bool false,.slice none 0 0]:=by
  have:=(Blk.new ((w.alloc (.cells #[.bool n,m1] 39)).alloc (.cells #[.bool n',m2] 39)) 39 [.bool false,.slice none 0 0]).on hbW;simpa using this
 have hsz:w.heap.size+1+1+1<=W.heap.size:=by have:=B3.lt;omega
 clear hbW;refine wp_region_F mixed [.eq (.pointer (some ⟨w.heap.size+1,1,none⟩)),.eq (m2),.eq (.pointer (some ⟨w.heap.size,1,none⟩)),.eq (m1),.u32 (fun l=>lval l=lval l2-lval l1/\l.length<=34359738369),.eq (.pointer (some ⟨w.heap.size+1,0,none⟩)),.eq (.bool n'),.int (sgn n' (lval l2-lval l1))] [26,27,28,29,30,31,32,33] rfl rfl rfl ⟨?_,?_,?_,?_,?_,?_,?_,?_,trivial⟩ ?_
 ·intro A w1 hA hb he;have h3:A.eval (.tmp 3)=.pointer (some ⟨w.heap.size+1,0,none⟩):=hA 3 rfl;refine step_pure rfl ?_;exact gZ
 ·intro A w1 hA hb he;have h26:A.eval (.tmp 26)=.pointer (some ⟨w.heap.size+1,1,none⟩):=he.1 rfl;have c0:=(B2.on hb).at1 1 _ rfl;refine step_pure rfl ?_;exact gZ
 ·intro A w1 hA hb he;have h2:A.eval (.tmp 2)=.pointer (some ⟨w.heap.size,0,none⟩):=hA 2 rfl;refine step_pure rfl ?_;exact gZ
 ·intro A w1 hA hb he;have h28:A.eval (.tmp 28)=.pointer (some ⟨w.heap.size,1,none⟩):=he.1 rfl;have c0:=(B1.on hb).at1 1 _ rfl;refine step_pure rfl ?_;exact gZ
 ·intro A w1 hA hb he;have h27:A.eval (.tmp 27)=m2:=he.1 rfl;have h29:A.eval (.tmp 29)=m1:=he.2.1 rfl;have hf0:=eF A 143;refine step_call (f:=143) (args:=#[m2,m1]) ?_ ?_
  ·exact gZ
  ·refine (minus_any _ _ l2 l1 _ (u2.on (hb0.trans (hb.mono (by omega)))) (u1.on (hb0.trans (hb.mono (by omega)))) (by omega) hlen (by have:=HL.out;omega)).mono ?_;rintro e w' ⟨v,l,rfl,hu,⟨hv,hl⟩,hb⟩;exact⟨v,rfl,hb,l,hu,hv,by omega⟩
 ·intro A w1 hA hb he;have h3:A.eval (.tmp 3)=.pointer (some ⟨w.heap.size+1,0,none⟩):=hA 3 rfl;refine step_pure rfl ?_;exact gZ
 ·intro A w1 hA hb he;have h31:A.eval (.tmp 31)=.pointer (some ⟨w.heap.size+1,0,none⟩):=he.1 rfl;have c0:=(B2.on hb).at1 0 _ rfl;refine step_pure rfl ?_;exact gZ
 ·intro A w1 hA hb he;have f30:((.u32 (fun l=>lval l=lval l2 - lval l1/\l.length<=34359738369):Fact)).p (A.eval (.tmp 30)) w1:=he.1 rfl;obtain⟨v30,h30⟩:∃ v,A.eval (.tmp 30)=v:=⟨_,rfl⟩;rw [h30] at f30;have h32:A.eval (.tmp 32)=.bool n':=he.2.1 rfl;have hf0:=eF A 112;refine step_call (f:=112) (args:=#[v30,.bool n']) ?_ ?_
  ·exact gZ
  ·obtain⟨l,hu,hl,hlen⟩:=f30;refine (norm_any n' _ l _ hu (by omega)).mono ?_;rintro e w' ⟨neg,m,rfl,hi,hb⟩;rw [hl] at hi;exact⟨_,rfl,hb,neg,m,rfl,hi⟩
 ·intro w1 hb;simp only [TailF,Fact.eq,Fact.u32,Fact.int,Fact.of,lZ];rintro _ - _ ⟨neg,m,rfl,hi⟩;go_frame;refine wpList_store_blk rfl _ (.tmp 4) (.tmp 33) rfl _ _ _ _ rfl rfl (B3.on hb) rfl sizeInt hi.ones ?_;intro w2 R gr;have hb2:=grown_below gr (Nat.le_of_lt (B3.on hb).lt) (Nat.le_refl _);go_wp2;exact ret_blk rfl rfl rfl R Tryz.underlying39 rfl sizeInt ⟨neg,m,rfl,hi.stored gr (B3.on hb) (by decide),hb0.trans ((hb.mono (by omega)).trans (hb2.mono (by omega)))⟩
theorem add_ge (n:Bool) (m1 m2:Value) (l1 l2:List Int) (w:World) (u1:U32s w m1 l1) (u2:U32s w m2 l2) (b1:l1.length<=34359738368) (b2:l2.length<=34359738368) (n1:Norm l1) (n2:Norm l2) (hge:lval l2<=lval l1) :
  Calls Tryz.prog 131 #[.agg #[.bool n,m1],.agg #[.bool (!n),m2]] w (RetI w (sgn n (lval l1-lval l2))):=by
 have hnn:(n == !n)=false:=by simp
 obtain⟨n',hn'⟩:∃ n',n'=!n:=⟨_,rfl⟩;rw [<- hn'] at hnn ⊢;clear hn';have hlen:=len_le_of_val u1.limbs u2.limbs n2 hge;have hc:0<=cmpZ (lval l1) (lval l2):=by unfold cmpZ;rw [if_neg (by omega)];split <;> omega
 have HL:=zH hge;clear hge
 go_enter Tryz.func131,Tryz.ntmps131
 go_wp2_with (go_at_call 142;refine (compare_any _ _ l1 l2 _ (u1.on (below3 _ _ _ _)) (u2.on (below3 _ _ _ _)) (by omega) (by omega) n1 n2).mono ?_;rintro e W ⟨rfl,hbW⟩)
 have hb0:Below w.heap.size w W:=(below3 _ _ _ _).trans (hbW.mono (by simp;omega));have B1:Blk W w.heap.size 39 [.bool n,m1]:=(((Blk.new _ _ _).alloc _).alloc _).on hbW
 have B2:Blk W (w.heap.size+1) 39 [.bool n',m2]:=by
  have:=((Blk.new (w.alloc (.cells #[.bool n,m1] 39)) 39 [.bool n',m2]).alloc (.cells #[.bool false,.slice none 0 0] 39)).on hbW;simpa using this
 have B3:Blk W (w.heap.size+1+1) 39 [.bool false,.slice none 0 0]:=by
  have:=(Blk.new ((w.alloc (.cells #[.bool n,m1] 39)).alloc (.cells #[.bool n',m2] 39)) 39 [.bool false,.slice none 0 0]).on hbW;simpa using this
 have hsz:w.heap.size+1+1+1<=W.heap.size:=by have:=B3.lt;omega
 clear hbW hc;refine wp_region_F mixed [.eq (.pointer (some ⟨w.heap.size,1,none⟩)),.eq (m1),.eq (.pointer (some ⟨w.heap.size+1,1,none⟩)),.eq (m2),.u32 (fun l=>lval l=lval l1-lval l2/\l.length<=34359738369),.eq (.pointer (some ⟨w.heap.size,0,none⟩)),.eq (.bool n),.int (sgn n (lval l1-lval l2))] [34,35,36,37,38,39,40,41] rfl rfl rfl ⟨?_,?_,?_,?_,?_,?_,?_,?_,trivial⟩ ?_
 ·intro A w1 hA hb he;have h2:A.eval (.tmp 2)=.pointer (some ⟨w.heap.size,0,none⟩):=hA 2 rfl;refine step_pure rfl ?_;exact gZ
 ·intro A w1 hA hb he;have h34:A.eval (.tmp 34)=.pointer (some ⟨w.heap.size,1,none⟩):=he.1 rfl;have c0:=(B1.on hb).at1 1 _ rfl;refine step_pure rfl ?_;exact gZ
 ·intro A w1 hA hb he;have h3:A.eval (.tmp 3)=.pointer (some ⟨w.heap.size+1,0,none⟩):=hA 3 rfl;refine step_pure rfl ?_;exact gZ
 ·intro A w1 hA hb he;have h36:A.eval (.tmp 36)=.pointer (some ⟨w.heap.size+1,1,none⟩):=he.1 rfl;have c0:=(B2.on hb).at1 1 _ rfl;refine step_pure rfl ?_;exact gZ
 ·intro A w1 hA hb he;have h35:A.eval (.tmp 35)=m1:=he.1 rfl;have h37:A.eval (.tmp 37)=m2:=he.2.1 rfl;have hf0:=eF A 143;refine step_call (f:=143) (args:=#[m1,m2]) ?_ ?_
  ·exact gZ
  ·refine (minus_any _ _ l1 l2 _ (u1.on (hb0.trans (hb.mono (by omega)))) (u2.on (hb0.trans (hb.mono (by omega)))) (by omega) hlen (by have:=HL.out;omega)).mono ?_;rintro e w' ⟨v,l,rfl,hu,⟨hv,hl⟩,hb⟩;exact⟨v,rfl,hb,l,hu,hv,by omega⟩
 ·intro A w1 hA hb he;have h2:A.eval (.tmp 2)=.pointer (some ⟨w.heap.size,0,none⟩):=hA 2 rfl;refine step_pure rfl ?_;exact gZ
 ·intro A w1 hA hb he;have h39:A.eval (.tmp 39)=.pointer (some ⟨w.heap.size,0,none⟩):=he.1 rfl;have c0:=(B1.on hb).at1 0 _ rfl;refine step_pure rfl ?_;exact gZ
 ·intro A w1 hA hb he;have f38:((.u32 (fun l=>lval l=lval l1 - lval l2/\l.length<=34359738369):Fact)).p (A.eval (.tmp 38)) w1:=he.1 rfl;obtain⟨v38,h38⟩:∃ v,A.eval (.tmp 38)=v:=⟨_,rfl⟩;rw [h38] at f38;have h40:A.eval (.tmp 40)=.bool n:=he.2.1 rfl;have hf0:=eF A 112;refine step_call (f:=112) (args:=#[v38,.bool n]) ?_ ?_
  ·exact gZ
  ·obtain⟨l,hu,hl,hlen⟩:=f38;refine (norm_any n _ l _ hu (by omega)).mono ?_;rintro e w' ⟨neg,m,rfl,hi,hb⟩;rw [hl] at hi;exact⟨_,rfl,hb,neg,m,rfl,hi⟩
 ·intro w1 hb;simp only [TailF,Fact.eq,Fact.u32,Fact.int,Fact.of,lZ];rintro _ - _ ⟨neg,m,rfl,hi⟩;go_frame;refine wpList_store_blk rfl _ (.tmp 4) (.tmp 41) rfl _ _ _ _ rfl rfl (B3.on hb) rfl sizeInt hi.ones ?_;intro w2 R gr;have hb2:=grown_below gr (Nat.le_of_lt (B3.on hb).lt) (Nat.le_refl _);go_wp2;exact ret_blk rfl rfl rfl R Tryz.underlying39 rfl sizeInt ⟨neg,m,rfl,hi.stored gr (B3.on hb) (by decide),hb0.trans ((hb.mono (by omega)).trans (hb2.mono (by omega)))⟩
theorem add_any (n1 n2:Bool) (m1 m2:Value) (z1 z2:Int) (w:World) (h1:IsInt w n1 m1 z1) (h2:IsInt w n2 m2 z2) (c1:nbits z1.natAbs<=CAP) (c2:nbits z2.natAbs<=CAP) :
  Calls Tryz.prog 131 #[.agg #[.bool n1,m1],.agg #[.bool n2,m2]] w (RetI w (z1+z2)):=by
 obtain⟨l1,ao1,cap1,rfl,u1,b1,nn1,e1⟩:=isInt_parts h1 c1;obtain⟨l2,ao2,cap2,rfl,u2,b2,nn2,e2⟩:=isInt_parts h2 c2;by_cases hn:n2=n1
 ·subst hn;rw [e1,e2,show sgn n2 (lval l1)+sgn n2 (lval l2)=sgn n2 (lval l1+lval l2) by cases n2 <;> simp [sgn];omega];exact add_same n2 _ _ l1 l2 w u1 u2 b1 b2
 ·obtain rfl:n2=!n1:=by cases n1 <;> cases n2 <;> simp_all
  by_cases hlt:lval l1<lval l2
  ·rw [e1,e2,show sgn n1 (lval l1)+sgn (!n1) (lval l2)=sgn (!n1) (lval l2-lval l1) by cases n1 <;> simp [sgn] <;> omega];exact add_lt n1 _ _ l1 l2 w u1 u2 b1 b2 nn1 nn2 hlt
  ·rw [e1,e2,show sgn n1 (lval l1)+sgn (!n1) (lval l2)=sgn n1 (lval l1-lval l2) by cases n1 <;> simp [sgn] <;> omega];exact add_ge n1 _ _ l1 l2 w u1 u2 b1 b2 nn1 nn2 (by omega)
theorem lval2 (a b:Int):lval [a,b]=a+B32*b:=by simp [lval]
theorem u32s_new2 (w:World) (o:Obj) (a b:Int) (ha:0<=a/\a<B32) (hb:0<=b/\b<B32):U32s ((w.alloc o).alloc (.cells #[.int .u32 a,.int .u32 b] uT)) (.slice (some ⟨w.heap.size+1,0,none⟩) 2 2) [a,b]:=by
 have h:=Blk.new (w.alloc o) uT (uc [a,b]);rw [World.size_alloc] at h;exact h.u32s ((Limbs.nil.cons hb).cons ha)
theorem int_end {w W w1 w2:World} {neg:Bool} {m:Value} {z:Int} {R:Nat} {cs:List Value} (hb0:Below w.heap.size w W) (hb:Below W.heap.size W w1) (hR:w.heap.size<=R) (hB:Blk w1 R 39 cs) (hi:IsInt w1 neg m z) (gr:w1.grownBy w2 (some R)) :
  RetI w z (.returned (.agg #[.bool neg,m])) w2 :=
 ⟨neg,m,rfl,hi.stored gr hB (by decide),hb0.trans ((hb.mono hb0.size).trans ((grown_below gr (Nat.le_of_lt hB.lt) (Nat.le_refl R)).mono hR))⟩
theorem of_any (n:Int) (w:World) (h1:-4611686018427387904<=n) (h2:n<=4611686018427387904):Calls Tryz.prog 85 #[.int .i64 n] w (RetI w n):=by
 by_cases hn:n<0
 ·have HM:Hid (IntKind.u64.wrap (-IntKind.u64.wrap n)=-n):=by show _=_;rw [IntKind.wrap_u64,IntKind.wrap_u64];omega
  go_enter Tryz.func85,Tryz.ntmps85
  go_wp2_with fail
  refine (norm_any true _ [_,_] _ (u32s_new2 w _ _ _ (by rw [HM.out,B32_eq];omega) (by rw [HM.out,B32_eq];omega)) (by simp)).mono ?_;rintro e W ⟨neg,m,rfl,hi,hb⟩;rw [HM.out,lval2,B32_eq] at hi;have B:Blk W w.heap.size 39 [.bool false,.slice none 0 0]:=((Blk.new _ _ _).alloc _).on hb
  have hi':IsInt W neg m n:=by
   have:sgn true (-n % 4294967296+4294967296*(-n / 4294967296 % 4294967296))=n:=by simp only [sgn,if_true];omega
   rw [this] at hi;exact hi
  have hb0:Below w.heap.size w W:=(below2 _ _ _).trans (hb.mono (by simp;omega));clear hi hb
  go_wp2_with (refine wpList_store_blk rfl _ (.tmp 2) (.tmp 18) rfl _ _ _ _ rfl rfl B rfl sizeInt hi'.ones ?_;intro w2 R gr)
  exact ret_blk rfl rfl rfl R Tryz.underlying39 rfl sizeInt (int_end hb0 (Below.refl _ _) (Nat.le_refl _) B hi' gr)
 ·go_enter Tryz.func85,Tryz.ntmps85
  go_wp2_with fail
  refine (norm_any false _ [_,_] _ (u32s_new2 w _ _ _ (by rw [B32_eq];omega) (by rw [B32_eq];omega)) (by simp)).mono ?_;rintro e W ⟨neg,m,rfl,hi,hb⟩;rw [lval2,B32_eq] at hi;have B:Blk W w.heap.size 39 [.bool false,.slice none 0 0]:=((Blk.new _ _ _).alloc _).on hb
  have hi':IsInt W neg m n:=by
   have:sgn false (n % 4294967296+4294967296*(n / 4294967296))=n:=by simp only [sgn];rw [if_neg (by simp)];omega
   rw [this] at hi;exact hi
  have hb0:Below w.heap.size w W:=(below2 _ _ _).trans (hb.mono (by simp;omega));clear hi hb
  go_wp2_with (refine wpList_store_blk rfl _ (.tmp 2) (.tmp 18) rfl _ _ _ _ rfl rfl B rfl sizeInt hi'.ones ?_;intro w2 R gr)
  exact ret_blk rfl rfl rfl R Tryz.underlying39 rfl sizeInt (int_end hb0 (Below.refl _ _) (Nat.le_refl _) B hi' gr)
end Go.Proofs.YtopclbeomcggiaaGreat
