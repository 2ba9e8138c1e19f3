/- The program's exponents: compare, natural. -/
import Derived.Test.YtopclbeomcggiaaGreatWK2
set_option linter.unusedVariables false
set_option linter.unusedSimpArgs false
set_option maxHeartbeats 16000000
set_option maxRecDepth 100000
namespace Go.Proofs.YtopclbeomcggiaaGreat
open Go.RowKit Q
def vY (e f:Ex):Int:=if e.2.2.2≠f.2.2.2 then eQ e.2.2.2 f.2.2.2 else if e.2.2.1≠f.2.2.1 then eQ e.2.2.1 f.2.2.1 else if e.2.1≠f.2.1 then eQ e.2.1 f.2.1 else eQ e.1 f.1
theorem Cv(e f:Ex):(e.gt f=true/\vY e f=1)\/(f.gt e=true/\vY e f=-1)\/(e=f/\vY e f=0):=by
 obtain⟨a,b,c,d⟩:=e;obtain⟨a',i,c',d'⟩:=f;simp only[Ex.gt_iff,vY];rcases Int.lt_trichotomy d d' with h|h|h
 ·exact .inr (.inl ⟨.inl h,by rw[if_pos oM,jB h]⟩)
 ·subst h;rw[if_neg sM];rcases Int.lt_trichotomy c c' with h|h|h
  ·exact .inr (.inl ⟨.inr ⟨rfl,.inl h⟩,by rw[if_pos oM,jB h]⟩)
  ·subst h;rw[if_neg sM];rcases Int.lt_trichotomy b i with h|h|h
   ·exact .inr (.inl ⟨.inr ⟨rfl,.inr ⟨rfl,.inl h⟩⟩,by rw[if_pos oM,jB h]⟩)
   ·subst h;rw[if_neg sM];rcases Int.lt_trichotomy a a' with h|h|h
    ·exact .inr (.inl ⟨.inr ⟨rfl,.inr ⟨rfl,.inr ⟨rfl,h⟩⟩⟩,by rw[jB h]⟩)
    ·subst h;exact .inr (.inr ⟨rfl,jQ rfl⟩)
    ·exact .inl ⟨.inr ⟨rfl,.inr ⟨rfl,.inr ⟨rfl,h⟩⟩⟩,by rw[jP h]⟩
   ·exact .inl ⟨.inr ⟨rfl,.inr ⟨rfl,.inl h⟩⟩,by rw[if_pos oM,jP h]⟩
  ·exact .inl ⟨.inr ⟨rfl,.inl h⟩,by rw[if_pos oM,jP h]⟩
 ·exact .inl ⟨.inl h,by rw[if_pos oM,jP h]⟩
def Gr (w w':World):Prop:=∃q os,w'=Go.Sort.grow (w.drewN q) os
theorem Gr.trans{a b c:World}(h:Gr a b)(e:Gr b c):Gr a c:=by obtain⟨q,os,rfl⟩:=h;obtain⟨i,d,rfl⟩:=e;exact⟨q+i,os++d,by simp[Go.Sort.grow,World.drewN,Array.append_assoc,Nat.add_assoc]⟩
theorem Gr.alloc(w:World)(o:Obj):Gr w (w.alloc o):=⟨0,#[o],by rw[Go.Sort.alloc_eq_grow];simp[Go.Sort.grow,World.drewN]⟩
theorem Gr.drew{a w:World}(h:Gr a w)(n:Nat):Gr a (w.drewN n):=h.trans ⟨n,#[],by rw[Go.Sort.grow_empty]⟩
theorem Gr.below{w w':World}(h:Gr w w'):Below w.heap.size w w':=by obtain⟨q,os,rfl⟩:=h;refine⟨rfl,rfl,rfl,by simp[Go.Sort.grow,World.drewN],λk b=>?_⟩;simp only[Go.Sort.grow,World.drewN];rw[Array.getElem?_append_left b]
theorem WN{P:Program}{c:Code}{Q:Exit->Act->World->Prop}{a:Act}{w:World}{b d:TypeId}{c1 c2:List Value}
  (h:∀W,Gr w W->Blk W w.heap.size b c1->Blk W (w.heap.size+1) d c2->w.heap.size+1+1<=W.heap.size->c.wp P Q a W) :
  c.wp P Q a ((w.alloc (.cells c1.toArray b)).alloc (.cells c2.toArray d)):=by
 refine h _ ((Gr.alloc _ _).trans (Gr.alloc _ _)) ((Blk.new _ _ _).alloc _) ?_ sM;have:=Blk.new (w.alloc (.cells c1.toArray b)) d c2;simpa using this
theorem Cw(e f:Ex)(w:World):Calls Tryz.prog 117 #[.agg (bC e).toArray,.agg (bC f).toArray] w (λq w'=>q=.returned (.int .i64 (vY e f))/\Gr w w'):=by
 obtain⟨e1,e2,e3,e4⟩:=e;obtain⟨f1,f2,f3,f4⟩:=f;obtain⟨R,d⟩:∃R,R=vY (e1,e2,e3,e4) (f1,f2,f3,f4):=⟨_,rfl⟩;rw[<-d];replace d:=zH d;simp only[bC]
 go_enter Tryz.func117,Tryz.ntmps117
 go_upto_region 1 with (fail)
 refine WN λW hb0 B1 B2 p=>?_;go_wp2
 go_loopw [5] (λi wr=>∃k:Nat,k<=4/\i=.int .i64 ((k:Int)-1)/\Gr w wr/\Hid (Blk wr w.heap.size 36 [.int .i64 e1,.int .i64 e2,.int .i64 e3,.int .i64 e4])/\Hid (Blk wr (w.heap.size+1) 36 [.int .i64 f1,.int .i64 f2,.int .i64 f3,.int .i64 f4])/\Hid ((k<4->e4=f4)/\(k<3->e3=f3)/\(k<2->e2=f2)/\(k<1->e1=f1))) (λi _=>(intOf i+1).toNat)
 case atStart=>exact⟨4,oM,rfl,hb0,zH B1,zH B2,zH ⟨oM,oM,oM,oM⟩⟩
 case round =>
  clear hb0 B1 B2 p;obtain⟨k,r,rfl,hb,hB1,hB2,o⟩:=hrel;have B1:=hB1.out;have B2:=hB2.out;obtain⟨q4,q3,q2,q1⟩:=o.out;have a1:=B1.at1 0 _ rfl;have a2:=B1.at1 1 _ rfl;have a3:=B1.at1 2 _ rfl;have a4:=B1.at1 3 _ rfl;have b1:=B2.at1 0 _ rfl;have b2:=B2.at1 1 _ rfl;have b3:=B2.at1 2 _ rfl;have b4:=B2.at1 3 _ rfl;clear o;obtain rfl|rfl|rfl|rfl|rfl:k=0\/k=1\/k=2\/k=3\/k=4:=oM
  ·go_wp2;go_ret;refine⟨?_,hb⟩;rw[d.out,vY,if_neg (by simp[q4 oM]),if_neg (by simp[q3 oM]),if_neg (by simp[q2 oM]),jQ (q1 oM)]
   rfl
  ·by_cases b:e1=f1
   ·have m:=zH (jQ b);have l:=zH b;clear b
    go_wp2_with fail
    go_quiet ((go_at_call 135;exact Calls.quiet_of_same ((gV _ _ _).mono λe w' h=>⟨h.1,h.2.symm⟩)))
    rw[m.out];go_wp2;go_roundw
    case rel=>exact⟨0,oM,nM,hb.drew _,zH B1,zH B2,zH ⟨λ_=>q4 oM,λ_=>q3 oM,λ_=>q2 oM,λ_=>l.out⟩⟩
    case measure=>simp[intOf]
   ·have j:Hid (R=eQ e1 f1):=zH (by rw[d.out,vY,if_neg (by simp[q4 oM]),if_neg (by simp[q3 oM]),if_neg (by simp[q2 oM])])
    have n:(eQ e1 f1==0)=false:=by rw[uW];simp[b]
    clear b
    go_wp2_with fail
    go_quiet ((go_at_call 135;exact Calls.quiet_of_same ((gV _ _ _).mono λe w' h=>⟨h.1,h.2.symm⟩)))
    generalize eQ e1 f1=z at *;go_wp2;go_ret;exact⟨by rw[j.out];rfl,hb.drew _⟩
  ·by_cases b:e2=f2
   ·have m:=zH (jQ b);have l:=zH b;clear b
    go_wp2_with fail
    go_quiet ((go_at_call 135;exact Calls.quiet_of_same ((gV _ _ _).mono λe w' h=>⟨h.1,h.2.symm⟩)))
    rw[m.out];go_wp2;go_roundw
    case rel=>exact⟨1,oM,nM,hb.drew _,zH B1,zH B2,zH ⟨λ_=>q4 oM,λ_=>q3 oM,λ_=>l.out,oM⟩⟩
    case measure=>simp[intOf]
   ·have j:Hid (R=eQ e2 f2):=zH (by rw[d.out,vY,if_neg (by simp[q4 oM]),if_neg (by simp[q3 oM]),if_pos b])
    have n:(eQ e2 f2==0)=false:=by rw[uW];simp[b]
    clear b
    go_wp2_with fail
    go_quiet ((go_at_call 135;exact Calls.quiet_of_same ((gV _ _ _).mono λe w' h=>⟨h.1,h.2.symm⟩)))
    generalize eQ e2 f2=z at *;go_wp2;go_ret;exact⟨by rw[j.out];rfl,hb.drew _⟩
  ·by_cases b:e3=f3
   ·have m:=zH (jQ b);have l:=zH b;clear b
    go_wp2_with fail
    go_quiet ((go_at_call 135;exact Calls.quiet_of_same ((gV _ _ _).mono λe w' h=>⟨h.1,h.2.symm⟩)))
    rw[m.out];go_wp2;go_roundw
    case rel=>exact⟨2,oM,nM,hb.drew _,zH B1,zH B2,zH ⟨λ_=>q4 oM,λ_=>l.out,oM,oM⟩⟩
    case measure=>simp[intOf]
   ·have j:Hid (R=eQ e3 f3):=zH (by rw[d.out,vY,if_neg (by simp[q4 oM]),if_pos b])
    have n:(eQ e3 f3==0)=false:=by rw[uW];simp[b]
    clear b
    go_wp2_with fail
    go_quiet ((go_at_call 135;exact Calls.quiet_of_same ((gV _ _ _).mono λe w' h=>⟨h.1,h.2.symm⟩)))
    generalize eQ e3 f3=z at *;go_wp2;go_ret;exact⟨by rw[j.out];rfl,hb.drew _⟩
  ·by_cases b:e4=f4
   ·have m:=zH (jQ b);have l:=zH b;clear b
    go_wp2_with fail
    go_quiet ((go_at_call 135;exact Calls.quiet_of_same ((gV _ _ _).mono λe w' h=>⟨h.1,h.2.symm⟩)))
    rw[m.out];go_wp2;go_roundw
    case rel=>exact⟨3,oM,nM,hb.drew _,zH B1,zH B2,zH ⟨λ_=>l.out,oM,oM,oM⟩⟩
    case measure=>simp[intOf]
   ·have j:Hid (R=eQ e4 f4):=zH (by rw[d.out,vY,if_pos b])
    have n:(eQ e4 f4==0)=false:=by rw[uW];simp[b]
    clear b
    go_wp2_with fail
    go_quiet ((go_at_call 135;exact Calls.quiet_of_same ((gV _ _ _).mono λe w' h=>⟨h.1,h.2.symm⟩)))
    generalize eQ e4 f4=z at *;go_wp2;go_ret;exact⟨by rw[j.out];rfl,hb.drew _⟩
theorem KP(e f:Ex)(w:World):Calls Tryz.prog 117 #[.agg (bC e).toArray,.agg (bC f).toArray] w (rE w (.int .i64 (vY e f))) :=
 (Cw e f w).mono λ_ _ ⟨b,d⟩=>⟨b,d.below⟩
def mn (m x:Int):Int:=if x<m then x else m
theorem OO{m x:Int}:0<=mn m x↔0<=m/\0<=x:=by unfold mn;split<;>omega
theorem KQ(m x:Int):min m x=mn m x:=by unfold mn;rw[Int.min_def];split<;>split<;>omega
def MX (a b c d:Int) (k:Nat):Int:=if k=1 then a else if k=2 then mn a b else if k=3 then mn (mn a b) c else mn (mn (mn a b) c) d
theorem QD(g:Nat)(a b c d:Int)(w:World)(hB:Blk w g 36 [.int .i64 a,.int .i64 b,.int .i64 c,.int .i64 d]) :
  Calls Tryz.prog 132 #[.slice (some ⟨g,0,none⟩) 4 4] w (rE w (.int .i64 (mn (mn (mn a b) c) d))):=by
 obtain⟨R,j⟩:∃R,R=mn (mn (mn a b) c) d:=⟨_,rfl⟩;rw[<-j];replace j:=zH j;have z1:=hB.at1 0 _ rfl;have z2:=hB.at1 1 _ rfl;have z3:=hB.at1 2 _ rfl;have z4:=hB.at1 3 _ rfl
 go_enter Tryz.func132,Tryz.ntmps132
 go_wp2
 go_loopw [3,4] (λm i wr=>∃k:Nat,1<=k/\k<=4/\i=.int .i64 k/\m=.int .i64 (MX a b c d k)/\wr=w) (λ_ i _=>4-(intOf i).toNat)
 case atStart=>exact⟨1,oM,oM,rfl,rfl,rfl⟩
 case round =>
  obtain⟨k,hk1,l,rfl,rfl,rfl⟩:=hrel;obtain rfl|rfl|rfl|rfl:k=1\/k=2\/k=3\/k=4:=oM
  ·go_wp2;go_roundw
   case rel=>exact⟨2,oM,oM,nM,by first|rfl|exact congrArg (Value.int .i64) ((KQ (MX a b c d 1) b).trans rfl),trivial⟩
   case measure=>simp[intOf]
  ·go_wp2;go_roundw
   case rel=>exact⟨3,oM,oM,nM,by first|rfl|exact congrArg (Value.int .i64) ((KQ (MX a b c d 2) c).trans rfl),trivial⟩
   case measure=>simp[intOf]
  ·go_wp2;go_roundw
   case rel=>exact⟨4,oM,oM,nM,by first|rfl|exact congrArg (Value.int .i64) ((KQ (MX a b c d 3) d).trans rfl),trivial⟩
   case measure=>simp[intOf]
  ·go_wp2;go_ret;exact⟨by rw[j.out];rfl,Below.refl _ _⟩
theorem Aa(e:Ex)(w:World):Calls Tryz.prog 114 #[.agg (bC e).toArray] w (rE w (.bool e.nat)):=by
 obtain⟨e1,e2,e3,e4⟩:=e;obtain⟨R,i⟩:∃R,R=Ex.nat (e1,e2,e3,e4):=⟨_,rfl⟩;rw[<-i];replace i:=zH i;simp only[bC]
 go_enter Tryz.func114,Tryz.ntmps114
 go_upto_region 1 with (fail)
 refine jb λW hb0 B1 j=>?_;obtain⟨M,d⟩:∃M,M=mn (mn (mn e1 e2) e3) e4:=⟨_,rfl⟩;have b:=QD _ _ _ _ _ _ B1;rw[<-d]at b;replace d:=zH d
 go_wp2_with (go_at_call 132;refine b.mono ?_;rintro e w1 ⟨rfl,hb1⟩)
 go_ret;refine⟨?_,hb0.trans (hb1.mono hb0.size)⟩
 have:decide (0<=M)=R:=by rw[i.out,d.out,Ex.nat];simp only[OO,and_assoc]
 rw[<-this];rfl
end Go.Proofs.YtopclbeomcggiaaGreat
