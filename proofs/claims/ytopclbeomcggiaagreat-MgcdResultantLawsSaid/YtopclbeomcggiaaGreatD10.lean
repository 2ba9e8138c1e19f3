/- The integer package of the program: division of absolute values. -/
import Derived.Test.YtopclbeomcggiaaGreatD09
import Derived.Deep.LoopGhost
set_option linter.unusedVariables false
set_option linter.unusedSimpArgs false
namespace Go.Proofs.YtopclbeomcggiaaGreat
open Go.RowKit Q
def RetDiv (w : World) (n d : Int) (len : Nat) (e : Ending) (w' : World) : Prop :=
 ∃ v1 v2 q r,e=.returned (.tuple #[v1,v2]) ∧ U32s w' v1 q ∧ U32s w' v2 r ∧ q.length ≤ len ∧ r.length ≤ len ∧ n=lval q * d + lval r ∧ lval r < d ∧ Below w.heap.size w w'
def Fits (z : Int) : Prop:=z.natAbs < 4294967296
theorem Fits.le {x y : Int} (h : Fits y) (hl : x.natAbs ≤ y.natAbs) : Fits x:=Nat.lt_of_le_of_lt hl h
theorem Fits.one {l : List Int} (h : Fits (lval l)) (hl : Limbs l) (hn : Norm l) : l.length ≤ 1 :=
 hn.len_le hl (by have:=lval_nonneg hl; have : (lval l).natAbs < 4294967296:=h; rw [Int.pow_succ,Int.pow_zero,B32_eq]; omega)
set_option maxHeartbeats 1000000 in
theorem divide_any (v1 v2 : Value) (l1 l2 : List Int) (w : World) (h1 : U32s w v1 l1) (h2 : U32s w v2 l2) (b1 : l1.length ≤ 17179869184) (b2 : l2.length ≤ 17179869184) (n1 : Norm l1) (n2 : Norm l2) (hp : 1 ≤ l2.length) (hf : Fits (lval l2)) :
  Calls Tryz.prog 141 #[v1,v2] w (RetDiv w (lval l1) (lval l2) (l1.length + 1)):=by
 have hpos:=n2.pos h2.limbs (by omega)
 by_cases hlt : lval l1 < lval l2
 ·have H:=Lib.hid (cmpZ_lt hlt)
  have HL:=Lib.hid hlt
  clear hlt
  go_enter Tryz.func141,Tryz.ntmps141
  go_wp2_with (first
   | (go_at_call 142; refine (compare_any _ _ l1 l2 _ h1 h2 (by omega) (by omega) n1 n2).mono ?_; rintro e w1 ⟨rfl,hb1⟩; rw [H.out])
   | (go_at_call 159; refine (cloneU_any _ l1 _ (h1.on hb1) (by omega)).mono ?_; rintro e w2 ⟨v,l,rfl,hu,rfl,hb2⟩))
  go_ret2
  exact ⟨_,_,[],l,rfl,U32s.nil,hu,Nat.zero_le _,by omega,by simp [lval],HL.out,hb1.trans (hb2.mono hb1.size)⟩
 ·have hc : 0 ≤ cmpZ (lval l1) (lval l2):=by unfold cmpZ; rw [if_neg hlt]; split <;> omega
  have HL:=Lib.hid hlt
  clear hlt
  have h1l : l2.length=1:=by have:=hf.one h2.limbs n2; omega
  ·obtain ⟨d,rfl⟩ : ∃ d,l2=[d]:=by
    match l2,h1l with
    | [d],_=>exact ⟨d,rfl⟩
   have hd:=h2.limbs d (by simp)
   rw [B32_eq] at hd
   have hd1 : 1 ≤ d:=by
    have : lval [d]=d:=by simp [lval]
    omega
   have hd2:=hd.2
   obtain ⟨ao2,cap2,rfl,_,L2,m2⟩:=id h2
   obtain ⟨p2,o2,rfl,hc2⟩:=m2 (by simp [uc])
   simp only [List.length_cons,List.length_nil,Nat.zero_add] at *
   go_enter Tryz.func141,Tryz.ntmps141
   go_wp2_with (first
    | (go_at_call 142; refine (compare_any _ _ l1 [d] _ h1 h2 (by omega) (by simp) n1 n2).mono ?_; rintro e w1 ⟨rfl,hb1⟩; have hcell:=(hc2.on hb1).ucell 0 (by simp); simp only [List.getD_cons_zero,Nat.add_zero] at hcell)
    | (go_at_call 160; refine (short_any _ l1 d _ (h1.on hb1) (by omega) hd1 hd2).mono ?_; rintro e w2 ⟨v,l,r,rfl,hu,hl,he,hr0,hr1,hb2⟩))
   go_ret2
   have hb3 : Below w.heap.size w (w2.alloc (.cells #[.int .u32 r] uT)):=(hb1.trans (hb2.mono hb1.size)).alloc (by have:=hb1.size; have:=hb2.size; omega) _
   refine ⟨_,_,l,[r],rfl,hu.on ((Below.refl _ _).alloc (Nat.le_refl _) _),?_,by omega,by simp,?_,?_,hb3⟩
   ·exact (Blk.new w2 uT (uc [r])).u32s (Limbs.nil.cons ⟨hr0,by rw [B32_eq]; omega⟩)
   ·rw [he]; simp [lval]
   ·simpa [lval] using hr1
theorem isInt_zero_mag {w : World} {neg : Bool} {ao : Option Addr} {n cap : Nat} {z : Int} (h : IsInt w neg (.slice ao n cap) z) : n=0 ↔ z=0:=by
 obtain ⟨_,_,_,e,h,_⟩:=h.shape
 cases e; exact h
theorem gcd_step (q d r : Int) : Int.gcd (q * d + r) d=Int.gcd d r:=by
 rw [Int.gcd_comm]; simp
theorem val_lt_pow {l : List Int} (hl : Limbs l) {K : Nat} (h : nbits (lval l).natAbs ≤ 32 * K) : lval l < B32 ^ K:=by
 have h1:=nbits_lt (lval l).natAbs
 have h2 : 2 ^ nbits (lval l).natAbs ≤ 2 ^ (32 * K):=Nat.pow_le_pow_right (by decide) h
 have:=lval_nonneg hl
 rw [B32_pow]; omega
theorem isInt_pos {w : World} {neg : Bool} {m : Value} {n : Int} (h : IsInt w neg m (sgn false n)) (hn : 0 ≤ n) : ∃ l,U32s w m l ∧ Norm l ∧ lval l=n:=by
 obtain ⟨l,h1,h2,h3,h4⟩:=h
 refine ⟨l,h1,h2,?_⟩
 cases neg
 ·simp only [sgn] at h4; rw [if_neg (by simp),if_neg (by simp)] at h4; exact h4.symm
 ·have:=h2.pos h1.limbs (h3 rfl)
  simp only [sgn,if_true] at h4; rw [if_neg (by simp)] at h4; omega
def Eu (g : Nat) (K : Nat) (n : Nat) (x y : Value) (w : World) : Prop :=
 ∃ lx ly,U32s w x lx ∧ U32s w y ly ∧ Norm lx ∧ Norm ly ∧ lval lx < B32 ^ K ∧ lval ly < B32 ^ K ∧ Fits (lval ly) ∧ Int.gcd (lval lx) (lval ly)=g ∧ (lval ly).toNat ≤ n
theorem field_mag (neg : Bool) (ao : Option Addr) (n c : Nat) (w : World) : (Instr.field 39 (.agg #[.bool neg,.slice ao n c]) 1).run Tryz.prog w=.ok (.slice ao n c) w:=by kernel_rfl
set_option maxHeartbeats 1000000 in
set_option maxRecDepth 100000 in
theorem gcd_any (n1 n2 : Bool) (m1 m2 : Value) (z1 z2 : Int) (w : World) (h1 : IsInt w n1 m1 z1) (h2 : IsInt w n2 m2 z2) (c1 : nbits z1.natAbs ≤ CAP / 4) (c2 : nbits z2.natAbs ≤ CAP / 4) (hf : Fits z2) :
  Calls Tryz.prog 128 #[.agg #[.bool n1,m1],.agg #[.bool n2,m2]] w (RetI w (Int.gcd z1 z2)):=by
 go_enter Tryz.func128,Tryz.ntmps128
 go_upto_region 1 with (fail)
 refine abs3 fun W hb0 B1 B2 B3 hsz=>?_
 have e1:=B1.at1 1 _ rfl
 have e2:=B2.at1 1 _ rfl
 go_quiet (fail)
 obtain ⟨W1,hW1⟩ : ∃ W1,W1=W.drewN nq:=⟨_,rfl⟩
 rw [← hW1]
 have hb1 : Below W.heap.size W W1:=by rw [hW1]; exact bdn (Below.refl _ _) _
 clear hW1 e1 e2
 obtain ⟨l1,u1,nn1,_,v1⟩:=h1
 obtain ⟨l2,u2,nn2,_,v2⟩:=h2
 obtain ⟨K,hK,hK2⟩ : ∃ K : Nat,CAP / 4 ≤ 32 * K ∧ K ≤ 8589934592:=⟨8589934592,by decide,Nat.le_refl _⟩
 have k1 : lval l1 < B32 ^ K:=val_lt_pow u1.limbs (by rw [v1,sgn_natAbs] at c1; omega)
 have k2 : lval l2 < B32 ^ K:=val_lt_pow u2.limbs (by rw [v2,sgn_natAbs] at c2; omega)
 have hg : Int.gcd (lval l1) (lval l2)=Int.gcd z1 z2:=by
  rw [v1,v2]; cases n1 <;> cases n2 <;> simp [sgn]
 have hm1:=u1.on (hb0.trans (hb1.mono hb0.size))
 have hm2:=u2.on (hb0.trans (hb1.mono hb0.size))
 have B3':=B3.on hb1
 have hst : Eu (Int.gcd z1 z2) K (lval l2).toNat m1 m2 W1:=⟨l1,l2,hm1,hm2,nn1,nn2,k1,k2,hf.le (by rw [v2,sgn_natAbs]; exact Nat.le_refl _),hg,Nat.le_refl _⟩
 generalize (lval l2).toNat=n0 at hst
 clear u1 u2 nn1 nn2 v1 v2 k1 k2 hg hm1 hm2 c1 c2 B1 B2 B3
 replace hst:=Lib.hid hst
 go_wp2
 go_loopg [5,6] n0 (fun n x y wr=>Hid (Eu (Int.gcd z1 z2) K n x y wr) ∧ Below W.heap.size W wr ∧ Hid (Blk wr (w.heap.size + 1 + 1) 39 [.bool false,.slice none 0 0]))
 case atStart=>exact ⟨hst,hb1,B3'⟩
 case round =>
  obtain ⟨heu,hb,hB⟩:=hrel
  clear hst hb1
  obtain ⟨lx,ly,hx,hy,nx,ny,kx,ky,hfy,hg,hn⟩:=heu.out
  obtain ⟨ao,cap,rfl,hcap,Ly,my⟩:=id hy
  have lenx:=nx.len_le hx.limbs kx
  have leny:=ny.len_le Ly ky
  have HG:=Lib.hid hg
  clear heu hg
  by_cases hp : 0 < ly.length
  ·have hpos:=ny.pos Ly hp
   go_wp2_with (first
    | (go_at_call 141; refine (divide_any _ _ lx ly _ hx hy (by omega) (by omega) nx ny hp hfy).mono ?_; rintro e w2 ⟨v1,v2,q,r,rfl,hq,hr,lq,lr,he,hlt,hb2⟩; replace he:=Lib.hid he)
    | (go_at_call 112; refine (norm_any false _ r _ hr (by omega)).mono ?_; rintro e w3 ⟨neg,m,rfl,hi,hb3⟩; obtain ⟨ao3,n3,cap3,rfl,_,_⟩:=hi.shape; have hfld:=field_mag neg ao3 n3 cap3))
   obtain ⟨r',hr',nr',hv'⟩:=isInt_pos hi (lval_nonneg hr.limbs)
   have hb':=(hb2.trans (hb3.mono hb2.size))
   go_roundg ((lval r).toNat)
   case measure=>have:=lval_nonneg hr.limbs; omega
   case rel=>exact ⟨Lib.hid ⟨ly,r',hy.on hb',hr',ny,nr',ky,by rw [hv']; omega,hfy.le (by have:=lval_nonneg hr.limbs; rw [hv']; omega),by rw [hv',← HG.out,he.out,gcd_step],by rw [hv']; exact Nat.le_refl _⟩,hb.trans (hb'.mono hb.size),hB.out.on hb'⟩
  ·obtain rfl : ly=[]:=List.eq_nil_of_length_eq_zero (by omega)
   have hi : IsInt wr false _ (Int.gcd z1 z2):=⟨lx,hx,nx,(fun h=>by cases h),by
    have:=HG.out
    have hl:=lval_nonneg hx.limbs
    simp only [lval,Int.gcd_zero_right] at this
    rw [← this]; simp only [sgn]; rw [if_neg (by simp)]; omega⟩
   obtain ⟨aox,capx,rfl,_,_,_⟩:=id hx
   go_wp2_with (refine wpList_store_blk rfl _ (.tmp 4) (.tmp 27) rfl _ _ _ _ rfl rfl hB.out rfl sizeInt hi.ones ?_; intro w3 R gr)
   exact ret_blk rfl rfl rfl R Tryz.underlying39 rfl sizeInt (int_end hb0 hb (by omega) hB.out hi gr)
end Go.Proofs.YtopclbeomcggiaaGreat
