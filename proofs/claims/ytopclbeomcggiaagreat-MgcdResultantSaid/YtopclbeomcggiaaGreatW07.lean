/- The integer package of the program: comparison, signs, sums. -/
import Derived.Test.YtopclbeomcggiaaGreatW06
import Derived.Deep.RegionHeld3
set_option linter.unusedVariables false
set_option linter.unusedSimpArgs false
set_option maxHeartbeats 16000000
set_option maxRecDepth 100000
namespace Go.Proofs.YtopclbeomcggiaaGreat
open Go.RowKit Q
theorem Dx {l1 l2:List Int} (L1:aH l1) (L2:aH l2) (i:Nat) (hd:l1.drop (i+1)=l2.drop (i+1)) (hlen:l1.length=l2.length) (hi:i<l1.length) (hne:l1.getD i 0≠l2.getD i 0) :
  dW (ah l1) (ah l2)=dW (l1.getD i 0) (l2.getD i 0):=by
 have e1:ah l1=ah (l1.take i)+bL ^ i*l1.getD i 0+bL ^ (i+1)*ah (l1.drop (i+1)):=by
  conv=>lhs;rw [<- List.take_append_drop (i+1) l1,ik,aL]
  simp [Nat.min_eq_left (show i+1<=l1.length by omega)]
 have e2:ah l2=ah (l2.take i)+bL ^ i*l2.getD i 0+bL ^ (i+1)*ah (l1.drop (i+1)):=by
  conv=>lhs;rw [<- List.take_append_drop (i+1) l2,ik,aL,<- hd]
  simp [Nat.min_eq_left (show i+1<=l2.length by omega)]
 have p1:=il (L1.take i);have p2:=il (L2.take i);have q1:=bg (L1.take i);have q2:=bg (L2.take i);rw [List.length_take,Nat.min_eq_left (by omega)] at p1 p2;generalize ah (l1.take i)=A at *;generalize ah (l2.take i)=B at *;generalize bL ^ i=W at *;generalize l1.getD i 0=x at *;generalize l2.getD i 0=y at *;rcases Int.lt_or_gt_of_ne hne with h|h
 ·rw [jb h];apply jb;have:W*(x+1)<=W*y:=Int.mul_le_mul_of_nonneg_left (by omega) (by omega);rw [Int.mul_add] at this;omega
 ·rw [jC h];apply jC;have:W*(y+1)<=W*x:=Int.mul_le_mul_of_nonneg_left (by omega) (by omega);rw [Int.mul_add] at this;omega
theorem Gv {l1 l2:List Int} (L1:aH l1) (L2:aH l2) (n1:iU l1) (n2:iU l2) (hne:(l1.length:Int)≠l2.length):dW (ah l1) (ah l2)=dW l1.length l2.length:=by
 rcases Int.lt_or_gt_of_ne hne with h|h
 ·rw [jb h];apply jb;apply Classical.byContradiction;intro h';have:=iD L1 L2 n2 (by omega);omega
 ·rw [jC h];apply jC;apply Classical.byContradiction;intro h';have:=iD L2 L1 n1 (by omega);omega
theorem Dy {l1 l2:List Int} (k:Nat) (h:l1.drop (k+1)=l2.drop (k+1)) (hlen:l1.length=l2.length) (hk:k<l1.length) (he:l1.getD k 0=l2.getD k 0):l1.drop k=l2.drop k:=by
 rw [List.drop_eq_getElem_cons hk,List.drop_eq_getElem_cons (show k<l2.length by omega),h];rw [List.getD_eq_getElem?_getD,List.getElem?_eq_getElem hk,List.getD_eq_getElem?_getD,List.getElem?_eq_getElem (show k<l2.length by omega)] at he;simp only [Option.getD_some] at he;rw [he]
theorem EJ (p1 o1 p2 o2 c1 c2:Nat) (l1 l2:List Int) (w:World) (b1:l1.length<=137438953472) (hlen:l2.length=l1.length) (L1:aH l1) (L2:aH l2) (hc1:bO uT w p1 o1 (uc l1)) (hc2:bO uT w p2 o2 (uc l2)) :
  Calls Tryz.prog 142 #[.slice (some ⟨p1,o1,none⟩) l1.length c1,.slice (some ⟨p2,o2,none⟩) l2.length c2] w fun e w'=>e=.returned (.int .i64 (dW (ah l1) (ah l2)))/\Below w.heap.size w w':=by
 have HL:=zH hlen;have hz:dW l1.length l2.length=0:=jD (by omega);have HZ:=zH hz;clear hz hlen
 go_enter Tryz.func142,Tryz.ntmps142
 go_wp2_with (go_at_call 135;refine (gJ _ _ _).mono ?_;rintro e w' ⟨rfl,rfl⟩;rw [HZ.out])
 go_loopw [6] (fun i wr=>∃ k:Nat,k<=l1.length/\i=.int .i64 ((k:Int)-1)/\Hid (l1.drop k=l2.drop k)/\Below w.heap.size w wr) (fun i _=>(intOf i+1).toNat)
 case atStart=>exact⟨l1.length,Nat.le_refl _,rfl,zH (by rw [List.drop_of_length_le (Nat.le_refl _),List.drop_of_length_le (by have:=HL.out;omega)]),Below.refl _ _⟩
 case round =>
  obtain⟨k,hk,rfl,hd,hb⟩:=hrel;by_cases h0:1<=k
  ·obtain⟨i,rfl⟩:∃ i,k=i+1:=⟨k - 1,by omega⟩;have f1:=(hc1.keep hb (hc1.lt)).ucell i (by omega);have f2:=(hc2.keep hb (hc2.lt)).ucell i (by have:=HL.out;omega);have hl2:i<l2.length:=by have:=HL.out;omega
   have hl1:i<l1.length:=by omega
   have hl2':(i:Int)<l2.length:=by omega
   have hl1':(i:Int)<l1.length:=by omega
   have hi0:(0:Int)<=i:=by omega
   have hst:l1.getD i 0=l2.getD i 0->l1.drop i=l2.drop i:=Dy i hd.out HL.out.symm (by omega);have hst':l1.getD i 0≠l2.getD i 0->dW (ah l1) (ah l2)=dW (l1.getD i 0) (l2.getD i 0):=Dx L1 L2 i hd.out HL.out.symm (by omega);clear hd hc1 hc2;generalize l1.getD i 0=x at *;generalize l2.getD i 0=y at *;by_cases hx:x=y
   ·have HD:=zH (hst hx);have HZ:=zH (jD hx);clear hst hst' hx
    go_wp2_with fail
    go_quiet ((go_at_call 162;exact Calls.quiet_of_same ((Ad _ _ _).mono fun e w' h=>⟨h.1,h.2.symm⟩)))
    rw [HZ.out];go_wp2;go_roundw
    case rel=>exact⟨i,by omega,by go_num,HD,pV hb _⟩
    case measure=>simp [intOf]
   ·have HD:=zH (hst' hx)
    have hne:(dW x y == 0)=false:=by
     unfold dW;split
     ·rfl
     ·rw [if_pos (by omega)];rfl
    clear hst hst' hx
    go_wp2_with fail
    go_quiet ((go_at_call 162;exact Calls.quiet_of_same ((Ad _ _ _).mono fun e w' h=>⟨h.1,h.2.symm⟩)))
    generalize dW x y=z at *;go_wp2;go_ret;exact⟨by rw [HD.out];rfl,pV hb _⟩
  ·obtain rfl:k=0:=by omega
   have HD:Hid (dW (ah l1) (ah l2)=0):=zH (jD (by have:=hd.out;simp at this;rw [this]));go_wp2;go_ret;exact⟨by rw [HD.out];rfl,hb⟩
theorem EK (ao1 ao2:Option Addr) (c1 c2:Nat) (l1 l2:List Int) (w:World) (b1:l1.length<=137438953472) (b2:l2.length<=137438953472) (L1:aH l1) (L2:aH l2) (m1:At uT w ao1 (uc l1)) (m2:At uT w ao2 (uc l2)) (n1:iU l1) (n2:iU l2) :
  Calls Tryz.prog 142 #[.slice ao1 l1.length c1,.slice ao2 l2.length c2] w fun e w'=>e=.returned (.int .i64 (dW (ah l1) (ah l2)))/\Below w.heap.size w w':=by
 by_cases hlen:l1.length=l2.length
 ·by_cases hp:0<l1.length
  ·obtain⟨p1,o1,rfl,hc1⟩:=m1 (by rw [eQ];omega);obtain⟨p2,o2,rfl,hc2⟩:=m2 (by rw [eQ];omega);exact EJ p1 o1 p2 o2 c1 c2 l1 l2 w b1 hlen.symm L1 L2 hc1 hc2
  ·obtain rfl:l1=[]:=List.eq_nil_of_length_eq_zero (by omega);obtain rfl:l2=[]:=List.eq_nil_of_length_eq_zero (by simp at hlen;omega);have HZ:=zH (jD (rfl:(0:Int)=0));simp only [List.length_nil]
   go_enter Tryz.func142,Tryz.ntmps142
   go_wp2_with (go_at_call 135;refine (gJ _ _ _).mono ?_;rintro e w' ⟨rfl,rfl⟩;rw [HZ.out])
   refine wp_loop_rounds 1 ?_;rw [rounds_succ];go_wp2;go_ret;exact⟨rfl,Below.refl _ _⟩
 ·have H:=zH (Gv L1 L2 n1 n2 (by omega))
  have hne:(dW l1.length l2.length == 0)=false:=by
   unfold dW;split
   ·rfl
   ·rw [if_pos (by omega)];rfl
  clear hlen
  go_enter Tryz.func142,Tryz.ntmps142
  go_wp2_with (go_at_call 135;refine (gJ _ _ _).mono ?_;rintro e w' ⟨rfl,rfl⟩)
  go_ret;exact⟨by rw [H.out];rfl,Below.refl _ _⟩
theorem jN (v1 v2:Value) (l1 l2:List Int) (w:World) (h1:dH w v1 l1) (h2:dH w v2 l2) (b1:l1.length<=137438953472) (b2:l2.length<=137438953472) (n1:iU l1) (n2:iU l2) :
  Calls Tryz.prog 142 #[v1,v2] w (rO w (.int .i64 (dW (ah l1) (ah l2)))):=by
 obtain⟨ao1,c1,rfl,_,L1,m1⟩:=h1;obtain⟨ao2,c2,rfl,_,L2,m2⟩:=h2;exact EK ao1 ao2 c1 c2 l1 l2 w b1 b2 L1 L2 m1 m2 n1 n2
def iV (z:Int):Int:=if z=0 then 0 else if z<0 then -1 else 1
theorem Ae {w:World} {neg:Bool} {m:Value} {z:Int} (h:aZ w neg m z):∃ ao n cap,m=.slice ao n cap/\iV z=(if n=0 then 0 else if neg then -1 else 1):=by
 obtain⟨l,⟨ao,cap,h1,h2,h3,h4⟩,h5,h6,h7⟩:=h;refine⟨ao,l.length,cap,h1,?_⟩;rcases Nat.eq_zero_or_pos l.length with h0|hp
 ·obtain rfl:l=[]:=List.eq_nil_of_length_eq_zero h0;have:z=0:=by rw [h7];cases neg <;> rfl
  rw [this];rfl
 ·have:=h5.pos h3 hp;rw [if_neg (by omega),h7];cases neg
  ·simp only [fZ,iV,Bool.false_eq_true,if_false];rw [if_neg (by omega),if_neg (by omega)]
  ·simp only [fZ,iV,if_true];rw [if_neg (by omega),if_pos (by omega)]
theorem Af (neg:Bool) (m:Value) (z:Int) (w:World) (h:aZ w neg m z):Calls Tryz.prog 109 #[.agg #[.bool neg,m]] w (rO w (.int .i64 (iV z))):=by
 obtain⟨ao,n,cap,rfl,hs⟩:=Ae h;have HS:=zH hs;clear h hs;by_cases h:n=0
 ·subst h
  go_enter Tryz.func109,Tryz.ntmps109
  go_wp2;go_ret;exact⟨by rw [HS.out];rfl,(Below.refl _ _).alloc (Nat.le_refl _) _⟩
 ·have h':((n:Int) == 0)=false:=by simp;omega
  replace h:=zH h;cases neg
  all_goals
   go_enter Tryz.func109,Tryz.ntmps109
   go_wp2;go_ret;exact⟨by rw [HS.out,if_neg h.out];rfl,(Below.refl _ _).alloc (Nat.le_refl _) _⟩
theorem Ng {w:World} {neg:Bool} {ao:Option Addr} {n cap:Nat} {z:Int} (h:aZ w neg (.slice ao n cap) z):aZ w (!neg && decide (0<n)) (.slice ao n cap) (-z):=by
 obtain⟨l,⟨ao',cap',h1,h2,h3,h4⟩,h5,h6,h7⟩:=h;cases h1;refine⟨l,⟨_,_,rfl,h2,h3,h4⟩,h5,?_,?_⟩
 ·intro h;simp at h;exact h.2
 ·rw [h7];rcases Nat.eq_zero_or_pos l.length with h0|hp
  ·obtain rfl:l=[]:=List.eq_nil_of_length_eq_zero h0;cases neg <;> rfl
  ·have:decide (0<l.length)=true:=by simpa using hp
   rw [this];cases neg <;> simp [fZ]
theorem EL (neg:Bool) (m:Value) (z:Int) (w:World) (h:aZ w neg m z):Calls Tryz.prog 127 #[.agg #[.bool neg,m]] w (lI w (-z)):=by
 obtain⟨ao,n,cap,rfl,_,_⟩:=h.shape;have H:=zH (Ng h);clear h;cases neg
 ·by_cases h0:0<n
  ·have hd:decide (0<(n:Int))=true:=by simp;omega
   have HE:Hid (decide (0<n)=true):=zH (by simpa using h0)
   go_enter Tryz.func127,Tryz.ntmps127
   go_wp2;refine bodyPost_ret (v:=.agg #[.bool true,.slice ao n cap]) (by simp [results,Tryz.results127,go_sem]) rfl ⟨_,_,rfl,?_,((Below.refl _ _).alloc (Nat.le_refl _) _).alloc (by simp) _⟩;have:=H.out;rw [HE.out] at this;exact this.on (((Below.refl _ _).alloc (Nat.le_refl _) _).alloc (by simp) _)
  ·obtain rfl:n=0:=by omega
   go_enter Tryz.func127,Tryz.ntmps127
   go_wp2;exact bodyPost_ret (v:=.agg #[.bool false,.slice ao 0 cap]) (by simp [results,Tryz.results127,go_sem]) rfl ⟨_,_,rfl,H.out.on (((Below.refl _ _).alloc (Nat.le_refl _) _).alloc (by simp) _),((Below.refl _ _).alloc (Nat.le_refl _) _).alloc (by simp) _⟩
 ·go_enter Tryz.func127,Tryz.ntmps127
  go_wp2;exact bodyPost_ret (v:=.agg #[.bool false,.slice ao n cap]) (by simp [results,Tryz.results127,go_sem]) rfl ⟨_,_,rfl,H.out.on (((Below.refl _ _).alloc (Nat.le_refl _) _).alloc (by simp) _),((Below.refl _ _).alloc (Nat.le_refl _) _).alloc (by simp) _⟩
end Go.Proofs.YtopclbeomcggiaaGreat
