/- The integer package of the program: comparison, signs, sums. -/
import Derived.Test.YtopclbeomcggiaaGreatW07
import Derived.Deep.RegionHeld3
set_option linter.unusedVariables false
set_option linter.unusedSimpArgs false
set_option maxHeartbeats 16000000
set_option maxRecDepth 100000
namespace Go.Proofs.YtopclbeomcggiaaGreat
open Go.RowKit Q
theorem EK{b l2:List Int}(e:aG b)(j:aG l2)(i:Nat)(hd:b.drop (i+1)=l2.drop (i+1))(k:b.length=l2.length)(n:i<b.length)(d:b.getD i 0≠l2.getD i 0) :
  eQ (ah b) (ah l2)=eQ (b.getD i 0) (l2.getD i 0):=by
 have e1:ah b=ah (b.take i)+bv^i*b.getD i 0+bv^(i+1)*ah (b.drop (i+1)):=by
  conv=>lhs;rw[<-List.take_append_drop (i+1) b,gP,aI]
  simp[Nat.min_eq_left (oM:i+1<=b.length)]
 have m:ah l2=ah (l2.take i)+bv^i*l2.getD i 0+bv^(i+1)*ah (b.drop (i+1)):=by
  conv=>lhs;rw[<-List.take_append_drop (i+1) l2,gP,aI,<-hd]
  simp[Nat.min_eq_left (oM:i+1<=l2.length)]
 have p1:=gK (e.take i);have l:=gK (j.take i);have q1:=aU (e.take i);have o:=aU (j.take i);rw[List.length_take,Nat.min_eq_left oM]at p1 l;generalize ah (b.take i)=A at *;generalize ah (l2.take i)=B at *;generalize bv^i=W at *;generalize b.getD i 0=x at *;generalize l2.getD i 0=y at *;rcases Int.lt_or_gt_of_ne d with h|h
 ·rw[jB h];apply jB;have:W*(x+1)<=W*y:=mZ oM oM;rw[Int.mul_add]at this;omega
 ·rw[jP h];apply jP;have:W*(y+1)<=W*x:=mZ oM oM;rw[Int.mul_add]at this;omega
theorem Ig{b l2:List Int}(e:aG b)(i:aG l2)(n1:gL b)(n2:gL l2)(d:(b.length:Int)≠l2.length):eQ (ah b) (ah l2)=eQ b.length l2.length:=by
 rcases Int.lt_or_gt_of_ne d with h|h
 ·rw[jB h];apply jB;apply Classical.byContradiction;intro j;have:=iW e i n2 oM;omega
 ·rw[jP h];apply jP;apply Classical.byContradiction;intro j;have:=iW i e n1 oM;omega
theorem EL{b l2:List Int}(k:Nat)(h:b.drop (k+1)=l2.drop (k+1))(e:b.length=l2.length)(d:k<b.length)(he:b.getD k 0=l2.getD k 0):b.drop k=l2.drop k:=by rw[List.drop_eq_getElem_cons d,List.drop_eq_getElem_cons (oM:k<l2.length),h];rw[jD,gE d,jD,gE (oM:k<l2.length)]at he;simp only[Option.getD_some]at he;rw[he]
theorem Ga(p1 o1 p2 o2 c1 c2:Nat)(l1 l2:List Int)(w:World)(b1:l1.length<=137438953472)(b:l2.length=l1.length)(L1:aG l1)(L2:aG l2)(hc1:bS uT w p1 o1 (uc l1))(hc2:bS uT w p2 o2 (uc l2)) :
  Calls Tryz.prog 142 #[.slice (some ⟨p1,o1,none⟩) l1.length c1,.slice (some ⟨p2,o2,none⟩) l2.length c2] w λe w'=>e=.returned (.int .i64 (eQ (ah l1) (ah l2)))/\Below w.heap.size w w':=by
 have l:=zH b;have hz:eQ l1.length l2.length=0:=jQ oM;have n:=zH hz;clear hz b
 go_enter Tryz.func142,Tryz.ntmps142
 go_wp2_with (go_at_call 135;refine(gV _ _ _).mono ?_;rintro e w' ⟨rfl,rfl⟩;rw[n.out])
 go_loopw [6] (λi wr=>∃k:Nat,k<=l1.length/\i=.int .i64 ((k:Int)-1)/\Hid (l1.drop k=l2.drop k)/\Below w.heap.size w wr) (λi _=>(intOf i+1).toNat)
 case atStart=>exact⟨l1.length,nL _,rfl,zH (by rw[List.drop_of_length_le (nL _),List.drop_of_length_le (by have:=l.out;omega)]),Below.refl _ _⟩
 case round =>
  obtain⟨k,r,rfl,hd,hb⟩:=hrel;by_cases h0:1<=k
  ·obtain⟨i,rfl⟩:∃i,k=i+1:=⟨k - 1,oM⟩;have f1:=(hc1.keep hb (hc1.lt)).ucell i oM;have f2:=(hc2.keep hb (hc2.lt)).ucell i (by have:=l.out;omega);have hl2:i<l2.length:=by have:=l.out;omega
   have hl1:i<l1.length:=oM;have p:(i:Int)<l2.length:=oM;have o:(i:Int)<l1.length:=oM;have hi0:(0:Int)<=i:=oM;have d:l1.getD i 0=l2.getD i 0->l1.drop i=l2.drop i:=EL i hd.out l.out.symm oM;have hst':l1.getD i 0≠l2.getD i 0->eQ (ah l1) (ah l2)=eQ (l1.getD i 0) (l2.getD i 0):=EK L1 L2 i hd.out l.out.symm oM;clear hd hc1 hc2;generalize l1.getD i 0=x at *;generalize l2.getD i 0=y at *;by_cases m:x=y
   ·have j:=zH (d m);have n:=zH (jQ m);clear d hst' m
    go_wp2_with fail
    go_quiet ((go_at_call 162;exact Calls.quiet_of_same ((BN _ _ _).mono λe w' h=>⟨h.1,h.2.symm⟩)))
    rw[n.out];go_wp2;go_roundw
    case rel=>exact⟨i,oM,nM,j,oZ hb _⟩
    case measure=>simp[intOf]
   ·have j:=zH (hst' m)
    have q:(eQ x y==0)=false:=by
     unfold eQ;split
     ·rfl
     ·rw[if_pos oM];rfl
    clear d hst' m
    go_wp2_with fail
    go_quiet ((go_at_call 162;exact Calls.quiet_of_same ((BN _ _ _).mono λe w' h=>⟨h.1,h.2.symm⟩)))
    generalize eQ x y=z at *;go_wp2;go_ret;exact⟨by rw[j.out];rfl,oZ hb _⟩
  ·obtain rfl:k=0:=oM;have j:Hid (eQ (ah l1) (ah l2)=0):=zH (jQ (by have:=hd.out;simp at this;rw[this]));go_wp2;go_ret;exact⟨by rw[j.out];rfl,hb⟩
theorem Gb(ao1 ao2:Option Addr)(c1 c2:Nat)(l1 l2:List Int)(w:World)(b1:l1.length<=137438953472)(b2:l2.length<=137438953472)(L1:aG l1)(L2:aG l2)(m1:At uT w ao1 (uc l1))(m2:At uT w ao2 (uc l2))(n1:gL l1)(n2:gL l2) :
  Calls Tryz.prog 142 #[.slice ao1 l1.length c1,.slice ao2 l2.length c2] w λe w'=>e=.returned (.int .i64 (eQ (ah l1) (ah l2)))/\Below w.heap.size w w':=by
 by_cases b:l1.length=l2.length
 ·by_cases hp:0<l1.length
  ·obtain⟨p1,o1,rfl,hc1⟩:=m1 (by rw[dG];omega);obtain⟨p2,o2,rfl,hc2⟩:=m2 (by rw[dG];omega);exact Ga p1 o1 p2 o2 c1 c2 l1 l2 w b1 b.symm L1 L2 hc1 hc2
  ·obtain rfl:l1=[]:=List.eq_nil_of_length_eq_zero oM;obtain rfl:l2=[]:=List.eq_nil_of_length_eq_zero (by simp at b;omega);have d:=zH (jQ (rfl:(0:Int)=0));simp only[List.length_nil]
   go_enter Tryz.func142,Tryz.ntmps142
   go_wp2_with (go_at_call 135;refine(gV _ _ _).mono ?_;rintro e w' ⟨rfl,rfl⟩;rw[d.out])
   refine wp_loop_rounds 1 ?_;rw[rounds_succ];go_wp2;go_ret;exact⟨rfl,Below.refl _ _⟩
 ·have H:=zH (Ig L1 L2 n1 n2 oM)
  have i:(eQ l1.length l2.length==0)=false:=by
   unfold eQ;split
   ·rfl
   ·rw[if_pos oM];rfl
  clear b
  go_enter Tryz.func142,Tryz.ntmps142
  go_wp2_with (go_at_call 135;refine(gV _ _ _).mono ?_;rintro e w' ⟨rfl,rfl⟩)
  go_ret;exact⟨by rw[H.out];rfl,Below.refl _ _⟩
theorem jY(h i:Value)(b l2:List Int)(w:World)(m:cO w h b)(n:cO w i l2)(b1:b.length<=137438953472)(l:l2.length<=137438953472)(n1:gL b)(n2:gL l2) :
  Calls Tryz.prog 142 #[h,i] w (rE w (.int .i64 (eQ (ah b) (ah l2)))):=by
 obtain⟨d,c1,rfl,_,j,m1⟩:=m;obtain⟨e,c2,rfl,_,k,o⟩:=n;exact Gb d e c1 c2 b l2 w b1 l j k m1 o n1 n2
def jm (z:Int):Int:=if z=0 then 0 else if z<0 then -1 else 1
theorem BO{w:World}{neg:Bool}{m:Value}{z:Int}(h:aZ w neg m z):∃b n cap,m=.slice b n cap/\jm z=(if n=0 then 0 else if neg then -1 else 1):=by
 obtain⟨l,⟨b,cap,e,k,i,o⟩,j,p,d⟩:=h;refine⟨b,l.length,cap,e,?_⟩;rcases Nat.eq_zero_or_pos l.length with h0|hp
 ·obtain rfl:l=[]:=List.eq_nil_of_length_eq_zero h0;have:z=0:=by rw[d];cases neg<;>rfl
  rw[this];rfl
 ·have:=j.pos i hp;rw[if_neg oM,d];cases neg
  ·simp only[fZ,jm,Bool.false_eq_true,if_false];rw[if_neg oM,if_neg oM]
  ·simp only[fZ,jm,if_true];rw[if_neg oM,if_pos oM]
theorem BP(neg:Bool)(m:Value)(z:Int)(w:World)(h:aZ w neg m z):Calls Tryz.prog 109 #[.agg #[.bool neg,m]] w (rE w (.int .i64 (jm z))):=by
 obtain⟨i,n,cap,rfl,d⟩:=BO h;have b:=zH d;clear h d;by_cases h:n=0
 ·subst h
  go_enter Tryz.func109,Tryz.ntmps109
  go_wp2;go_ret;exact⟨by rw[b.out];rfl,(Below.refl _ _).alloc (nL _) _⟩
 ·have j:((n:Int)==0)=false:=by simp;omega
  replace h:=zH h;cases neg
  all_goals
   go_enter Tryz.func109,Tryz.ntmps109
   go_wp2;go_ret;exact⟨by rw[b.out,if_neg h.out];rfl,(Below.refl _ _).alloc (nL _) _⟩
theorem Oy{w:World}{neg:Bool}{b:Option Addr}{n cap:Nat}{z:Int}(h:aZ w neg (.slice b n cap) z):aZ w (!neg&&decide (0<n)) (.slice b n cap) (-z):=by
 obtain⟨l,⟨e,d,i,j,k,m⟩,o,q,p⟩:=h;cases i;refine⟨l,⟨_,_,rfl,j,k,m⟩,o,?_,?_⟩
 ·intro h;simp at h;exact h.2
 ·rw[p];rcases Nat.eq_zero_or_pos l.length with h0|hp
  ·obtain rfl:l=[]:=List.eq_nil_of_length_eq_zero h0;cases neg<;>rfl
  ·have:decide (0<l.length)=true:=by simpa using hp
   rw[this];cases neg<;>simp[fZ]
theorem Gc(neg:Bool)(m:Value)(z:Int)(w:World)(h:aZ w neg m z):Calls Tryz.prog 127 #[.agg #[.bool neg,m]] w (kY w (-z)):=by
 obtain⟨b,n,cap,rfl,_,_⟩:=h.shape;have H:=zH (Oy h);clear h;cases neg
 ·by_cases h0:0<n
  ·have hd:decide (0<(n:Int))=true:=by simp;omega
   have d:Hid (decide (0<n)=true):=zH (by simpa using h0)
   go_enter Tryz.func127,Tryz.ntmps127
   go_wp2;refine bodyPost_ret (v:=.agg #[.bool true,.slice b n cap]) (by simp[results,Tryz.results127,go_sem]) rfl ⟨_,_,rfl,?_,((Below.refl _ _).alloc (nL _) _).alloc sM _⟩;have:=H.out;rw[d.out]at this;exact this.on (((Below.refl _ _).alloc (nL _) _).alloc sM _)
  ·obtain rfl:n=0:=oM
   go_enter Tryz.func127,Tryz.ntmps127
   go_wp2;exact bodyPost_ret (v:=.agg #[.bool false,.slice b 0 cap]) (by simp[results,Tryz.results127,go_sem]) rfl ⟨_,_,rfl,H.out.on (((Below.refl _ _).alloc (nL _) _).alloc sM _),((Below.refl _ _).alloc (nL _) _).alloc sM _⟩
 ·go_enter Tryz.func127,Tryz.ntmps127
  go_wp2;exact bodyPost_ret (v:=.agg #[.bool false,.slice b n cap]) (by simp[results,Tryz.results127,go_sem]) rfl ⟨_,_,rfl,H.out.on (((Below.refl _ _).alloc (nL _) _).alloc sM _),((Below.refl _ _).alloc (nL _) _).alloc sM _⟩
end Go.Proofs.YtopclbeomcggiaaGreat
