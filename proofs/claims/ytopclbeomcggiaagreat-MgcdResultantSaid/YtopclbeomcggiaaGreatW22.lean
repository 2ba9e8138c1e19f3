/- The program's exponents: compare, natural. -/
import Derived.Test.YtopclbeomcggiaaGreatWK2
set_option linter.unusedVariables false
set_option linter.unusedSimpArgs false
set_option maxHeartbeats 16000000
set_option maxRecDepth 100000
namespace Go.Proofs.YtopclbeomcggiaaGreat
open Go.RowKit Q
def uV (e f:Ex):Int:=if e.2.2.2≠f.2.2.2 then dW e.2.2.2 f.2.2.2 else if e.2.2.1≠f.2.2.1 then dW e.2.2.1 f.2.2.1 else if e.2.1≠f.2.1 then dW e.2.1 f.2.1 else dW e.1 f.1
theorem Bc (e f:Ex):(e.gt f=true/\uV e f=1)\/(f.gt e=true/\uV e f=-1)\/(e=f/\uV e f=0):=by
 obtain⟨a,b,c,d⟩:=e;obtain⟨a',b',c',d'⟩:=f;simp only [Ex.gt_iff,uV];rcases Int.lt_trichotomy d d' with h|h|h
 ·exact .inr (.inl ⟨.inl h,by rw [if_pos (by omega),jb h]⟩)
 ·subst h;rw [if_neg (by simp)];rcases Int.lt_trichotomy c c' with h|h|h
  ·exact .inr (.inl ⟨.inr ⟨rfl,.inl h⟩,by rw [if_pos (by omega),jb h]⟩)
  ·subst h;rw [if_neg (by simp)];rcases Int.lt_trichotomy b b' with h|h|h
   ·exact .inr (.inl ⟨.inr ⟨rfl,.inr ⟨rfl,.inl h⟩⟩,by rw [if_pos (by omega),jb h]⟩)
   ·subst h;rw [if_neg (by simp)];rcases Int.lt_trichotomy a a' with h|h|h
    ·exact .inr (.inl ⟨.inr ⟨rfl,.inr ⟨rfl,.inr ⟨rfl,h⟩⟩⟩,by rw [jb h]⟩)
    ·subst h;exact .inr (.inr ⟨rfl,jD rfl⟩)
    ·exact .inl ⟨.inr ⟨rfl,.inr ⟨rfl,.inr ⟨rfl,h⟩⟩⟩,by rw [jC h]⟩
   ·exact .inl ⟨.inr ⟨rfl,.inr ⟨rfl,.inl h⟩⟩,by rw [if_pos (by omega),jC h]⟩
  ·exact .inl ⟨.inr ⟨rfl,.inl h⟩,by rw [if_pos (by omega),jC h]⟩
 ·exact .inl ⟨.inl h,by rw [if_pos (by omega),jC h]⟩
def Gr (w w':World):Prop:=∃ q os,w'=Go.Sort.grow (w.drewN q) os
theorem Gr.trans {a b c:World} (h:Gr a b) (h':Gr b c):Gr a c:=by
 obtain⟨q,os,rfl⟩:=h;obtain⟨q',os',rfl⟩:=h';exact⟨q+q',os++os',by simp [Go.Sort.grow,World.drewN,Array.append_assoc,Nat.add_assoc]⟩
theorem Gr.alloc (w:World) (o:Obj):Gr w (w.alloc o):=⟨0,#[o],by rw [Go.Sort.alloc_eq_grow];simp [Go.Sort.grow,World.drewN]⟩
theorem Gr.drew {a w:World} (h:Gr a w) (n:Nat):Gr a (w.drewN n):=h.trans ⟨n,#[],by rw [Go.Sort.grow_empty]⟩
theorem Gr.below {w w':World} (h:Gr w w'):Below w.heap.size w w':=by
 obtain⟨q,os,rfl⟩:=h;refine⟨rfl,rfl,rfl,by simp [Go.Sort.grow,World.drewN],fun k hk=>?_⟩;simp only [Go.Sort.grow,World.drewN];rw [Array.getElem?_append_left hk]
theorem V8 {P:Program} {c:Code} {Q:Exit->Act->World->Prop} {a:Act} {w:World} {T1 T2:TypeId} {c1 c2:List Value}
  (h:∀ W,Gr w W->Blk W w.heap.size T1 c1->Blk W (w.heap.size+1) T2 c2->w.heap.size+1+1<=W.heap.size->c.wp P Q a W) :
  c.wp P Q a ((w.alloc (.cells c1.toArray T1)).alloc (.cells c2.toArray T2)):=by
 refine h _ ((Gr.alloc _ _).trans (Gr.alloc _ _)) ((Blk.new _ _ _).alloc _) ?_ (by simp);have:=Blk.new (w.alloc (.cells c1.toArray T1)) T2 c2;simpa using this
theorem Be (e f:Ex) (w:World):Calls Tryz.prog 117 #[.agg (bR e).toArray,.agg (bR f).toArray] w (fun en w'=>en=.returned (.int .i64 (uV e f))/\Gr w w'):=by
 obtain⟨e1,e2,e3,e4⟩:=e;obtain⟨f1,f2,f3,f4⟩:=f;obtain⟨R,HR⟩:∃ R,R=uV (e1,e2,e3,e4) (f1,f2,f3,f4):=⟨_,rfl⟩;rw [<- HR];replace HR:=zH HR;simp only [bR]
 go_enter Tryz.func117,Tryz.ntmps117
 go_upto_region 1 with (fail)
 refine V8 fun W hb0 B1 B2 hsz=>?_;go_wp2
 go_loopw [5] (fun i wr=>∃ k:Nat,k<=4/\i=.int .i64 ((k:Int)-1)/\Gr w wr/\Hid (Blk wr w.heap.size 36 [.int .i64 e1,.int .i64 e2,.int .i64 e3,.int .i64 e4])/\Hid (Blk wr (w.heap.size+1) 36 [.int .i64 f1,.int .i64 f2,.int .i64 f3,.int .i64 f4])/\Hid ((k<4->e4=f4)/\(k<3->e3=f3)/\(k<2->e2=f2)/\(k<1->e1=f1))) (fun i _=>(intOf i+1).toNat)
 case atStart=>exact⟨4,by omega,rfl,hb0,zH B1,zH B2,zH ⟨by omega,by omega,by omega,by omega⟩⟩
 case round =>
  clear hb0 B1 B2 hsz;obtain⟨k,hk,rfl,hb,hB1,hB2,heq⟩:=hrel;have B1:=hB1.out;have B2:=hB2.out;obtain⟨q4,q3,q2,q1⟩:=heq.out;have a1:=B1.at1 0 _ rfl;have a2:=B1.at1 1 _ rfl;have a3:=B1.at1 2 _ rfl;have a4:=B1.at1 3 _ rfl;have b1:=B2.at1 0 _ rfl;have b2:=B2.at1 1 _ rfl;have b3:=B2.at1 2 _ rfl;have b4:=B2.at1 3 _ rfl;clear heq;obtain rfl|rfl|rfl|rfl|rfl:k=0\/k=1\/k=2\/k=3\/k=4:=by omega
  ·go_wp2;go_ret;refine⟨?_,hb⟩;rw [HR.out,uV,if_neg (by simp [q4 (by omega)]),if_neg (by simp [q3 (by omega)]),if_neg (by simp [q2 (by omega)]),jD (q1 (by omega))]
   rfl
  ·by_cases hx:e1=f1
   ·have HZ:=zH (jD hx);have HX:=zH hx;clear hx
    go_wp2_with fail
    go_quiet ((go_at_call 135;exact Calls.quiet_of_same ((gJ _ _ _).mono fun e w' h=>⟨h.1,h.2.symm⟩)))
    rw [HZ.out];go_wp2;go_roundw
    case rel=>exact⟨0,by omega,by go_num,hb.drew _,zH B1,zH B2,zH ⟨fun _=>q4 (by omega),fun _=>q3 (by omega),fun _=>q2 (by omega),fun _=>HX.out⟩⟩
    case measure=>simp [intOf]
   ·have HD:Hid (R=dW e1 f1):=zH (by rw [HR.out,uV,if_neg (by simp [q4 (by omega)]),if_neg (by simp [q3 (by omega)]),if_neg (by simp [q2 (by omega)])])
    have hne:(dW e1 f1 == 0)=false:=by
     rw [uf];simp [hx]
    clear hx
    go_wp2_with fail
    go_quiet ((go_at_call 135;exact Calls.quiet_of_same ((gJ _ _ _).mono fun e w' h=>⟨h.1,h.2.symm⟩)))
    generalize dW e1 f1=z at *;go_wp2;go_ret;exact⟨by rw [HD.out];rfl,hb.drew _⟩
  ·by_cases hx:e2=f2
   ·have HZ:=zH (jD hx);have HX:=zH hx;clear hx
    go_wp2_with fail
    go_quiet ((go_at_call 135;exact Calls.quiet_of_same ((gJ _ _ _).mono fun e w' h=>⟨h.1,h.2.symm⟩)))
    rw [HZ.out];go_wp2;go_roundw
    case rel=>exact⟨1,by omega,by go_num,hb.drew _,zH B1,zH B2,zH ⟨fun _=>q4 (by omega),fun _=>q3 (by omega),fun _=>HX.out,by omega⟩⟩
    case measure=>simp [intOf]
   ·have HD:Hid (R=dW e2 f2):=zH (by rw [HR.out,uV,if_neg (by simp [q4 (by omega)]),if_neg (by simp [q3 (by omega)]),if_pos hx])
    have hne:(dW e2 f2 == 0)=false:=by
     rw [uf];simp [hx]
    clear hx
    go_wp2_with fail
    go_quiet ((go_at_call 135;exact Calls.quiet_of_same ((gJ _ _ _).mono fun e w' h=>⟨h.1,h.2.symm⟩)))
    generalize dW e2 f2=z at *;go_wp2;go_ret;exact⟨by rw [HD.out];rfl,hb.drew _⟩
  ·by_cases hx:e3=f3
   ·have HZ:=zH (jD hx);have HX:=zH hx;clear hx
    go_wp2_with fail
    go_quiet ((go_at_call 135;exact Calls.quiet_of_same ((gJ _ _ _).mono fun e w' h=>⟨h.1,h.2.symm⟩)))
    rw [HZ.out];go_wp2;go_roundw
    case rel=>exact⟨2,by omega,by go_num,hb.drew _,zH B1,zH B2,zH ⟨fun _=>q4 (by omega),fun _=>HX.out,by omega,by omega⟩⟩
    case measure=>simp [intOf]
   ·have HD:Hid (R=dW e3 f3):=zH (by rw [HR.out,uV,if_neg (by simp [q4 (by omega)]),if_pos hx])
    have hne:(dW e3 f3 == 0)=false:=by
     rw [uf];simp [hx]
    clear hx
    go_wp2_with fail
    go_quiet ((go_at_call 135;exact Calls.quiet_of_same ((gJ _ _ _).mono fun e w' h=>⟨h.1,h.2.symm⟩)))
    generalize dW e3 f3=z at *;go_wp2;go_ret;exact⟨by rw [HD.out];rfl,hb.drew _⟩
  ·by_cases hx:e4=f4
   ·have HZ:=zH (jD hx);have HX:=zH hx;clear hx
    go_wp2_with fail
    go_quiet ((go_at_call 135;exact Calls.quiet_of_same ((gJ _ _ _).mono fun e w' h=>⟨h.1,h.2.symm⟩)))
    rw [HZ.out];go_wp2;go_roundw
    case rel=>exact⟨3,by omega,by go_num,hb.drew _,zH B1,zH B2,zH ⟨fun _=>HX.out,by omega,by omega,by omega⟩⟩
    case measure=>simp [intOf]
   ·have HD:Hid (R=dW e4 f4):=zH (by rw [HR.out,uV,if_pos hx])
    have hne:(dW e4 f4 == 0)=false:=by
     rw [uf];simp [hx]
    clear hx
    go_wp2_with fail
    go_quiet ((go_at_call 135;exact Calls.quiet_of_same ((gJ _ _ _).mono fun e w' h=>⟨h.1,h.2.symm⟩)))
    generalize dW e4 f4=z at *;go_wp2;go_ret;exact⟨by rw [HD.out];rfl,hb.drew _⟩
theorem JI (e f:Ex) (w:World):Calls Tryz.prog 117 #[.agg (bR e).toArray,.agg (bR f).toArray] w (rO w (.int .i64 (uV e f))) :=
 (Be e f w).mono fun _ _ ⟨h1,h2⟩=>⟨h1,h2.below⟩
def mn (m x:Int):Int:=if x<m then x else m
theorem ND {m x:Int}:0<=mn m x↔0<=m/\0<=x:=by unfold mn;split <;> omega
theorem JJ (m x:Int):min m x=mn m x:=by unfold mn;rw [Int.min_def];split <;> split <;> omega
def LF (a b c d:Int) (k:Nat):Int:=if k=1 then a else if k=2 then mn a b else if k=3 then mn (mn a b) c else mn (mn (mn a b) c) d
theorem PK (g:Nat) (a b c d:Int) (w:World) (hB:Blk w g 36 [.int .i64 a,.int .i64 b,.int .i64 c,.int .i64 d]) :
  Calls Tryz.prog 132 #[.slice (some ⟨g,0,none⟩) 4 4] w (rO w (.int .i64 (mn (mn (mn a b) c) d))):=by
 obtain⟨R,HR⟩:∃ R,R=mn (mn (mn a b) c) d:=⟨_,rfl⟩;rw [<- HR];replace HR:=zH HR;have z1:=hB.at1 0 _ rfl;have z2:=hB.at1 1 _ rfl;have z3:=hB.at1 2 _ rfl;have z4:=hB.at1 3 _ rfl
 go_enter Tryz.func132,Tryz.ntmps132
 go_wp2
 go_loopw [3,4] (fun m i wr=>∃ k:Nat,1<=k/\k<=4/\i=.int .i64 k/\m=.int .i64 (LF a b c d k)/\wr=w) (fun _ i _=>4-(intOf i).toNat)
 case atStart=>exact⟨1,by omega,by omega,rfl,rfl,rfl⟩
 case round =>
  obtain⟨k,hk1,hk,rfl,rfl,rfl⟩:=hrel;obtain rfl|rfl|rfl|rfl:k=1\/k=2\/k=3\/k=4:=by omega
  ·go_wp2;go_roundw
   case rel=>exact⟨2,by omega,by omega,by go_num,by first|rfl|exact congrArg (Value.int .i64) ((JJ (LF a b c d 1) b).trans rfl),trivial⟩
   case measure=>simp [intOf]
  ·go_wp2;go_roundw
   case rel=>exact⟨3,by omega,by omega,by go_num,by first|rfl|exact congrArg (Value.int .i64) ((JJ (LF a b c d 2) c).trans rfl),trivial⟩
   case measure=>simp [intOf]
  ·go_wp2;go_roundw
   case rel=>exact⟨4,by omega,by omega,by go_num,by first|rfl|exact congrArg (Value.int .i64) ((JJ (LF a b c d 3) d).trans rfl),trivial⟩
   case measure=>simp [intOf]
  ·go_wp2;go_ret;exact⟨by rw [HR.out];rfl,Below.refl _ _⟩
theorem yR (e:Ex) (w:World):Calls Tryz.prog 114 #[.agg (bR e).toArray] w (rO w (.bool e.nat)):=by
 obtain⟨e1,e2,e3,e4⟩:=e;obtain⟨R,HR⟩:∃ R,R=Ex.nat (e1,e2,e3,e4):=⟨_,rfl⟩;rw [<- HR];replace HR:=zH HR;simp only [bR]
 go_enter Tryz.func114,Tryz.ntmps114
 go_upto_region 1 with (fail)
 refine jI fun W hb0 B1 hsz=>?_;obtain⟨M,HM⟩:∃ M,M=mn (mn (mn e1 e2) e3) e4:=⟨_,rfl⟩;have hcall:=PK _ _ _ _ _ _ B1;rw [<- HM] at hcall;replace HM:=zH HM
 go_wp2_with (go_at_call 132;refine hcall.mono ?_;rintro e w1 ⟨rfl,hb1⟩)
 go_ret;refine⟨?_,hb0.trans (hb1.mono hb0.size)⟩
 have:decide (0<=M)=R:=by
  rw [HR.out,HM.out,Ex.nat];simp only [ND,and_assoc]
 rw [<- this];rfl
end Go.Proofs.YtopclbeomcggiaaGreat
