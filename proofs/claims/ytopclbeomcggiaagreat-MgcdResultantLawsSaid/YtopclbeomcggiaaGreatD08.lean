/- The integer package of the program: Mul. -/
import Derived.Test.YtopclbeomcggiaaGreatD07
import Derived.Deep.Cut
set_option linter.unusedVariables false
set_option linter.unusedSimpArgs false
namespace Go.Proofs.YtopclbeomcggiaaGreat
open Go.RowKit Q
theorem lval_set (xs : List Int) (j : Nat) (v : Int) (h : j < xs.length) : lval (xs.set j v)=lval xs + B32 ^ j * (v - xs.getD j 0):=by
 induction xs generalizing j with
 | nil=>simp at h
 | cons x xs ih =>
  cases j with
  | zero=>simp [lval]; omega
  | succ j =>
   have:=ih j (by simpa using h)
   simp only [List.set_cons_succ,lval,this,Int.pow_succ,List.getD_cons_succ]
   grind
theorem getD_set_ne' (l : List Int) (i j : Nat) (x : Int) (h : i ≠ j) : (l.set i x).getD j 0=l.getD j 0:=by
 simp [List.getD_eq_getElem?_getD,List.getElem?_set_ne h]
def MulOut (A B : List Int) (i : Nat) (xs : List Int) : Prop :=
 xs.length=A.length + B.length ∧ Limbs xs ∧ lval xs=lval (A.take i) * lval B ∧ ∀ j,i + B.length ≤ j → xs.getD j 0=0
def MulIn (A B : List Int) (i k : Nat) (xs : List Int) (c : Int) : Prop :=
 xs.length=A.length + B.length ∧ Limbs xs ∧ 0 ≤ c ∧ c < 4294967296 ∧ lval xs + B32 ^ (i + k) * c=lval (A.take i) * lval B + B32 ^ i * (A.getD i 0 * lval (B.take k)) ∧ ∀ j,i + B.length ≤ j → xs.getD j 0=0
theorem MulOut.start (A B : List Int) : MulOut A B 0 (List.replicate (A.length + B.length) 0) :=
 ⟨by simp,Limbs_zeros _,by simp [lval,lval_zeros],fun j _=>by
  rw [List.getD_eq_getElem?_getD,List.getElem?_replicate]; split <;> rfl⟩
theorem MulOut.inner {A B : List Int} {i : Nat} {xs : List Int} (h : MulOut A B i xs) : MulIn A B i 0 xs 0 :=
 ⟨h.1,h.2.1,by omega,by omega,by rw [h.2.2.1]; simp [lval],h.2.2.2⟩
theorem MulIn.step {A B : List Int} {i k : Nat} {xs : List Int} {c : Int} (h : MulIn A B i k xs c) (LA : Limbs A) (LB : Limbs B) (hi : i < A.length) (hk : k < B.length) :
  MulIn A B i (k + 1) (xs.set (i + k) ((c + (A.getD i 0 * B.getD k 0 + xs.getD (i + k) 0)) % 4294967296)) ((c + (A.getD i 0 * B.getD k 0 + xs.getD (i + k) 0)) / 4294967296):=by
 obtain ⟨h1,h2,h3,h4,h5,h6⟩:=h
 have a1:=LA.getD i
 have a2:=LB.getD k
 have a3:=h2.getD (i + k)
 rw [B32_eq] at a1 a2 a3
 have hp:=prod_bound (A.getD i 0) (B.getD k 0) a1.1 (by omega) a2.1 (by omega)
 refine ⟨by simpa using h1,Limbs_set h2 _ (by rw [B32_eq]; omega),by omega,by omega,?_,fun j hj=>by rw [getD_set_ne' _ _ _ _ (by omega)]; exact h6 j hj⟩
 rw [lval_set _ _ _ (by omega),lval_take_succ']
 have e:=Int.mul_ediv_add_emod (c + (A.getD i 0 * B.getD k 0 + xs.getD (i + k) 0)) 4294967296
 generalize (c + (A.getD i 0 * B.getD k 0 + xs.getD (i + k) 0)) % 4294967296=r at *
 generalize (c + (A.getD i 0 * B.getD k 0 + xs.getD (i + k) 0)) / 4294967296=q at *
 rw [← B32_eq] at e
 have e2 : B32 ^ (i + (k + 1))=B32 ^ (i + k) * B32:=by rw [← Nat.add_assoc,Int.pow_succ]
 have e3 : B32 ^ (i + k)=B32 ^ i * B32 ^ k:=Int.pow_add ..
 rw [e2]
 have : B32 ^ (i + k) * (c + (A.getD i 0 * B.getD k 0 + xs.getD (i + k) 0))=B32 ^ (i + k) * (B32 * q + r):=by rw [e]
 have h5' : lval xs=lval (A.take i) * lval B + B32 ^ i * (A.getD i 0 * lval (B.take k)) - B32 ^ (i + k) * c:=by omega
 rw [h5']
 rw [e3] at *
 generalize B32 ^ i=P at *
 generalize B32 ^ k=R at *
 grind
theorem MulIn.done {A B : List Int} {i : Nat} {xs : List Int} {c : Int} (h : MulIn A B i B.length xs c) (hi : i < A.length) : MulOut A B (i + 1) (xs.set (i + B.length) c):=by
 obtain ⟨h1,h2,h3,h4,h5,h6⟩:=h
 refine ⟨by simpa using h1,Limbs_set h2 _ (by rw [B32_eq]; omega),?_,fun j hj=>by rw [getD_set_ne' _ _ _ _ (by omega)]; exact h6 j (by omega)⟩
 rw [lval_set _ _ _ (by omega),h6 _ (Nat.le_refl _),lval_take_succ']
 rw [List.take_of_length_le (Nat.le_refl _)] at h5
 grind
theorem MulOut.done {A B : List Int} {xs : List Int} (h : MulOut A B A.length xs) : lval xs=lval A * lval B:=by
 rw [h.2.2.1,List.take_of_length_le (Nat.le_refl _)]
set_option maxHeartbeats 2000000 in
set_option maxRecDepth 100000 in
theorem mul_main (n1 n2 : Bool) (ao1 ao2 : Option Addr) (cap1 cap2 : Nat) (A B : List Int) (w : World) (bA : A.length ≤ 34359738368) (bB : B.length ≤ 34359738368) (LA : Limbs A) (LB : Limbs B) (mA : At uT w ao1 (uc A)) (mB : At uT w ao2 (uc B)) :
  Calls Tryz.prog 111 #[.agg #[.bool n1,.slice ao1 A.length cap1],.agg #[.bool n2,.slice ao2 B.length cap2]] w (RetI w (sgn (n1 != n2) (lval A * lval B))):=by
 go_enter Tryz.func111,Tryz.ntmps111
 go_upto_region 1 with (fail)
 refine abs3 fun W hb0 B1 B2 B3 hsz=>?_
 have c1:=B1.at1 1 _ rfl
 have c2:=B2.at1 1 _ rfl
 go_wp2_with (at_make; refine wpList_make_blk rfl _ _ _ rfl _ (.int .u32 0) 1 4 Tryz.underlying37 infoU32 rfl rfl .i64 .i64 _ _ (A.length + B.length) rfl rfl (by omega) (by omega) (by omega) (by omega) ?_; intro w1 own1 gr1; have c3:=(B1.keep gr1 B1.lt).at1 1 _ rfl)
 rw [ucells_make] at own1
 clear c1 c2 c3
 go_loopw [22] (fun i wr=>∃ (k : Nat) (xs : List Int),k ≤ A.length ∧ i=.int .i64 k ∧ Hid (MulOut A B k xs) ∧ Hid (Blk wr W.heap.size uT (uc xs)) ∧ Below W.heap.size W wr) (fun i _=>A.length - (intOf i).toNat)
 case atStart=>exact ⟨0,_,Nat.zero_le _,rfl,Lib.hid (MulOut.start A B),Lib.hid own1,gr1⟩
 case round =>
  obtain ⟨i,xs,hi,rfl,hinv,hblk,hb⟩:=hrel
  have d2:=(B2.keep hb B2.lt).at1 1 _ rfl
  by_cases hlt : i < A.length
  ·obtain ⟨p1,o1,e1,hcA⟩:=mA (by rw [uc_len]; omega)
   have hcA':=((hcA.on hb0).keep hb (hcA.on hb0).lt).ucell i hlt
   have E1:=Lib.hid e1
   have a1:=(LA.getD i).1
   have a1' : A.getD i 0 < 4294967296:=(LA.getD i).2
   have HX : Hid (∃ x,x=A.getD i 0):=⟨_,rfl⟩
   obtain ⟨x,hx⟩:=HX.out
   rw [← hx] at hcA' a1 a1'
   replace hx:=Lib.hid hx
   clear e1 hcA HX
   go_wp2_with (refine wpList_index_at rfl (.tmp 20) (.tmp 22) _ rfl _ Tryz.underlying37 _ _ _ infoU32 _ _ _ rfl _ _ rfl i rfl hlt p1 o1 E1.out ?_; rw [Nat.mul_one])
   obtain ⟨wo,rfl⟩ : ∃ wo : World,wo=wr:=⟨_,rfl⟩
   go_loopw [8,30] (fun c q wr=>∃ (k : Nat) (xs : List Int) (cy : Int),k ≤ B.length ∧ q=.int .i64 k ∧ c=.int .u64 cy ∧ Hid (MulIn A B i k xs cy) ∧ Hid (Blk wr W.heap.size uT (uc xs)) ∧ Below W.heap.size W wr) (fun _ q _=>B.length - (intOf q).toNat)
   case atStart=>exact ⟨0,xs,0,Nat.zero_le _,rfl,rfl,Lib.hid hinv.out.inner,hblk,hb⟩
   case round =>
    clear hinv hblk d2 hcA' hb
    obtain ⟨k,ys,cy,hk,rfl,rfl,hin,hblk,hb⟩:=hrel
    have q1:=hin.out.2.2.1
    have q2:=hin.out.2.2.2.1
    have HL:=Lib.hid hin.out.1
    by_cases hkt : k < B.length
    ·obtain ⟨p2,o2,e2,hcB⟩:=mB (by rw [uc_len]; omega)
     have hcB':=((hcB.on hb0).keep hb (hcB.on hb0).lt).ucell k hkt
     have E2:=Lib.hid e2
     have hco:=hblk.out.ucell (i + k) (by have:=HL.out; omega)
     have hfo:=hblk.out.frozen (i + k)
     have a2:=(LB.getD k).1
     have a2' : B.getD k 0 < 4294967296:=(LB.getD k).2
     have a3:=(hin.out.2.1.getD (i + k)).1
     have a3' : ys.getD (i + k) 0 < 4294967296:=(hin.out.2.1.getD (i + k)).2
     have HST:=Lib.hid (hin.out.step LA LB hlt hkt)
     rw [← hx.out] at HST
     generalize B.getD k 0=y at *
     generalize ys.getD (i + k) 0=z at *
     obtain ⟨hp0,hp1⟩:=prod_bound x y a1 (by omega) a2 (by omega)
     clear e2 hcB
     go_wp2_with (refine wpList_index_at rfl (.tmp 28) (.tmp 30) _ rfl _ Tryz.underlying37 _ _ _ infoU32 _ _ _ rfl _ _ rfl k rfl hkt p2 o2 E2.out ?_; rw [Nat.mul_one])
     go_roundw
     case rel=>exact ⟨k + 1,_,_,by omega,by go_num,rfl,HST,Lib.hid (hblk.out.uset (i + k) _),hb.setCell (Nat.le_refl _) _⟩
     case measure=>simp [intOf]; omega
    ·obtain rfl : k=B.length:=by omega
     have d2:=(B2.keep hb B2.lt).at1 1 _ rfl
     have hco:=hblk.out.ucell (i + B.length) (by have:=HL.out; omega)
     have hfo:=hblk.out.frozen (i + B.length)
     have HD:=Lib.hid (hin.out.done hlt)
     generalize ys.getD (i + B.length) 0=z at *
     go_wp2
     go_roundw
     case rel=>exact ⟨i + 1,_,by omega,by go_num,HD,Lib.hid (by have:=hblk.out.uset (i + B.length) cy; exact this),hb.setCell (Nat.le_refl _) _⟩
     case measure=>simp [intOf]; omega
  ·obtain rfl : i=A.length:=by omega
   have d1:=(B1.keep hb B1.lt).at1 0 _ rfl
   have d2':=(B2.keep hb B2.lt).at1 0 _ rfl
   have hu : U32s wr (.slice (some ⟨W.heap.size,0,none⟩) (A.length + B.length) (A.length + B.length)) xs:=by
    have:=hblk.out.u32s hinv.out.2.1
    rw [hinv.out.1] at this; exact this
   have HV:=Lib.hid hinv.out.done
   have hxl : xs.length ≤ 137438953472:=by rw [hinv.out.1]; omega
   have hb0':=hb0.trans (hb.mono hb0.size)
   have B3':=B3.keep hb B3.lt
   clear hinv hblk
   go_wp2_with fail
   refine (norm_any (n1 != n2) _ xs _ hu hxl).mono ?_
   rintro e w2 ⟨neg,m,rfl,hi,hb2⟩
   rw [HV.out] at hi
   go_wp2_with (refine wpList_store_blk rfl _ (.tmp 4) (.tmp 76) rfl _ _ _ _ rfl rfl (B3'.on hb2) rfl sizeInt hi.ones ?_; intro w3 R gr)
   exact ret_blk rfl rfl rfl R Tryz.underlying39 rfl sizeInt (int_end hb0' hb2 (by omega) (B3'.on hb2) hi gr)
theorem sgn_mul (n1 n2 : Bool) (x y : Int) : sgn (n1 != n2) (x * y)=sgn n1 x * sgn n2 y:=by
 cases n1 <;> cases n2 <;> simp [sgn] <;> grind
theorem mul_any (n1 n2 : Bool) (m1 m2 : Value) (z1 z2 : Int) (w : World) (h1 : IsInt w n1 m1 z1) (h2 : IsInt w n2 m2 z2) (c1 : nbits z1.natAbs ≤ CAP) (c2 : nbits z2.natAbs ≤ CAP) :
  Calls Tryz.prog 111 #[.agg #[.bool n1,m1],.agg #[.bool n2,m2]] w (RetI w (z1 * z2)):=by
 obtain ⟨l1,ao1,cap1,rfl,⟨_,_,e,_,L1,m1⟩,b1,_,e1⟩:=isInt_parts h1 c1
 obtain ⟨l2,ao2,cap2,rfl,⟨_,_,e',_,L2,m2⟩,b2,_,e2⟩:=isInt_parts h2 c2
 cases e; cases e'
 rw [e1,e2,← sgn_mul]
 exact mul_main n1 n2 ao1 ao2 cap1 cap2 l1 l2 w b1 b2 L1 L2 m1 m2
end Go.Proofs.YtopclbeomcggiaaGreat
