/- The resultant's run for a first polynomial of degree at most 2; its elements as numbers. No program in sight. The resultant at numbers: remainders modulo a polynomial of degree 2 or 1. No program in sight. law08.sanity: plain values. law08: num, x, y; contracts at known values; quadratureref08.Factors. quadratureref08.Made, Plane: plain; drawn terms of four bytes. Sizes for substitution and evaluation. mgcd.sylvester. -/
import Derived.Test.YtopclbeomcggiaaGreatD31
import Derived.Test.YtopclbeomcggiaaGreatD33
set_option linter.unusedVariables false
set_option linter.unusedSimpArgs false
section
namespace Q
open Go Go.Proofs.YtopclbeomcggiaaGreat
section
variable {u α γ ε m n : Nat} {a b : List (List Trm)} {am : List Trm}
theorem one_pow (p : List Trm) : oneP=powP p 0:=by show oneP=constP 1; decide +kernel
theorem run_first (h : Sy u α γ ε m n a b am) (hn : n ≤ 4) (hα : α ≤ 15) (hγ : γ ≤ 225) (hε : ε ≤ 4) : ∀ k,k ≤ n → (k < m + n ∨ k=0) →
  ∃ M,Rep (m + n) M (FF a am (sylF a b n) k) ∧ resS (m + n) (m + n) (syl a b) oneP false=resS (m + n) (m + n - k) M (powP am k) false
 | 0,_,_=>⟨syl a b,syl_rep h.la h.lb,by rw [Nat.sub_zero,← one_pow]⟩
 | k + 1,hk,hk2=>by
  obtain ⟨M,h1,h2⟩:=run_first h hn hα hγ hε k (by omega) (by omega)
  obtain ⟨f,hf⟩ : ∃ f,m + n - k=f + 1:=⟨m + n - k - 1,by omega⟩
  have hf0 : f ≠ 0:=by omega
  have hp:=ff_piv h (show k < n by omega)
  obtain ⟨M',h3,h4⟩:=resS_pivot (f:=f) (neg:=false) (last:=powP am k) (X:=FF a am (sylF a b n) (k + 1)) h1 (show k + (f + 1)=m + n by omega) (by rw [hp]; exact pow_ne h _)
   (fun i j h5 h6 h7 h8=>ff_exact h (by omega) hn hα hγ hε h5 h7)
  refine ⟨M',h3.congr fun i j h5 h6=>?_,?_⟩
  ·split
   ·rfl
   ·next hc=>rw [FF,stepF,if_neg hc]
  ·rw [h2,hf,h4,if_neg hf0,hp,show m + n - (k + 1)=f by omega]
theorem res_m0 (h : Sy u α γ ε 0 n a b am) (hn : n ≤ 4) (hα : α ≤ 15) (hγ : γ ≤ 225) (hε : ε ≤ 4) : resS (0 + n) (0 + n) (syl a b) oneP false=some (powP am n):=by
 cases n with
 | zero=>rw [one_pow am]; rfl
 | succ n =>
  obtain ⟨M,h1,h2⟩:=run_first h hn hα hγ hε n (by omega) (by omega)
  rw [h2,show 0 + (n + 1) - n=1 by omega,resS_last h1 (k:=n) (by omega),ff_piv h (by omega),if_neg (pow_ne h _)]; rfl
theorem res_m1 (h : Sy u α γ ε 1 n a b am) (hn : n ≤ 4) (hα : α ≤ 15) (hγ : γ ≤ 225) (hε : ε ≤ 4) : resS (1 + n) (1 + n) (syl a b) oneP false=some (FF a am (sylF a b n) n n n):=by
 obtain ⟨M,h1,h2⟩:=run_first h hn hα hγ hε n (by omega) (by omega)
 rw [h2,show 1 + n - n=1 by omega,resS_last h1 (k:=n) (by omega)]
 by_cases e : FF a am (sylF a b n) n n n=[]
 ·rw [if_pos e,e]
 ·rw [if_neg e]; rfl
theorem res_m2 (h : Sy u α γ ε 2 n a b am) (hn : n ≤ 4) (hα : α ≤ 15) (hγ : γ ≤ 225) (hε : ε ≤ 4) {d : List Trm} {B E : Nat} (hd : En u B E d) (hB : B ≤ 2 ^ 100) (hE : E ≤ 40)
  (hdet : ∀ x,ev x d * ev x am ^ n=ev x (FF a am (sylF a b n) n n n) * ev x (FF a am (sylF a b n) n (n + 1) (n + 1)) - ev x (FF a am (sylF a b n) n (n + 1) n) * ev x (FF a am (sylF a b n) n n (n + 1))) :
  resS (2 + n) (2 + n) (syl a b) oneP false=some d:=by
 obtain ⟨M,h1,h2⟩:=run_first h hn hα hγ hε n (by omega) (by omega)
 rw [h2,show 2 + n - n=2 by omega]
 have en:=ff_en h n
 have b2 : α ^ n ≤ 15 ^ 4:=Nat.le_trans (Nat.pow_le_pow_left hα _) (Nat.pow_le_pow_right (by omega) hn)
 have b3 : 2 ^ 100 * 15 ^ 4 ≤ 2 ^ 200:=by decide +kernel
 have b4 : 2 ^ 100 ≤ 2 ^ 200:=by decide +kernel
 have hpw:=powP_en h.em h.u4 n
 have hov : ∀ s,En u B E s → overO (mulP s (powP am n)) (powP am n)=some s:=fun s hs =>
  over_en hs hpw h.u4 (pow_ne h n) (Nat.le_trans (Nat.mul_le_mul hB b2) b3) (Nat.le_trans (show (E + 1) * (2 * n + 1) ≤ 41 * 9 from Nat.mul_le_mul (by omega) (by omega)) (by omega)) (by omega) (Nat.le_trans hB b4) (by omega)
 have hnd : En u B E (subP [] d):=((En.nil u 0 E).sub hd h.u4).mono (by omega) (by omega)
 refine resS_block h1 (k:=n) (by omega) hd.v ?_ ?_ fun p0 r0=>?_
 ·rw [show subP (mulP (FF a am (sylF a b n) n n n) (FF a am (sylF a b n) n (n + 1) (n + 1))) (mulP (FF a am (sylF a b n) n (n + 1) n) (FF a am (sylF a b n) n n (n + 1)))=mulP d (powP am n) from
   ev_inj (Vld.sub _ _) (Vld.mul _ _) fun x=>by
    rw [ev_sub x (Vld.mul _ _).nat (Vld.mul _ _),ev_mul x (en _ _).v.nat (en _ _).v.nat,ev_mul x (en _ _).v.nat (en _ _).v.nat,ev_mul x hd.v.nat (Vld.pow _ _).nat,ev_pow x h.em.v.nat,hdet x]]
  exact hov d hd
 ·rw [show subP (mulP (FF a am (sylF a b n) n (n + 1) n) (FF a am (sylF a b n) n n (n + 1))) (mulP (FF a am (sylF a b n) n n n) (FF a am (sylF a b n) n (n + 1) (n + 1)))=mulP (subP [] d) (powP am n) from
   ev_inj (Vld.sub _ _) (Vld.mul _ _) fun x=>by
    have:=hdet x
    rw [ev_sub x (Vld.mul _ _).nat (Vld.mul _ _),ev_mul x (en _ _).v.nat (en _ _).v.nat,ev_mul x (en _ _).v.nat (en _ _).v.nat,ev_mul x (Vld.sub _ _).nat (Vld.pow _ _).nat,ev_sub x Vld.nil.nat hd.v,ev_pow x h.em.v.nat,ev_nil]
    grind]
  exact hov _ hnd
 ·have hz : mulP d (powP am n)=[]:=ev_inj (Vld.mul _ _) Vld.nil fun x=>by
   have:=hdet x
   rw [p0,r0,ev_nil] at this
   rw [ev_mul x hd.v.nat (Vld.pow _ _).nat,ev_pow x h.em.v.nat,ev_nil,this]; grind
  rcases (mulP_nil_iff hd.v (Vld.pow _ _)).1 hz with h5 | h5
  ·exact h5
  ·exact absurd h5 (pow_ne h n)
def gstep (A : Nat → Nat → Rat) (am : Rat) (k : Nat) (F : Nat → Nat → Rat) (i j : Nat) : Rat:=if k < i ∧ k < j then am * F i j - F i k * A k j else F i j
def GG (A : Nat → Nat → Rat) (am : Rat) (F : Nat → Nat → Rat) : Nat → Nat → Nat → Rat
 | 0=>F
 | k + 1=>gstep A am k (GG A am F k)
theorem ff_ev (h : Sy u α γ ε m n a b am) (x : Pt) : ∀ k i j,ev x (FF a am (sylF a b n) k i j)=GG (fun k j=>ev x (rowE a k j)) (ev x am) (fun i j=>ev x (sylF a b n i j)) k i j
 | 0,_,_=>rfl
 | k + 1,i,j=>by
  have e1:=(ff_en h k i j).v
  have e2:=(ff_en h k i k).v
  rw [FF,GG,stepF,gstep]
  split
  ·rw [ev_sub x (Vld.mul _ _).nat (Vld.mul _ _),ev_mul x h.em.v.nat e1.nat,ev_mul x e2.nat (h.ea k j).v.nat,ff_ev h x k i j,ff_ev h x k i k]
  ·exact ff_ev h x k i j
end
end Q
end
section
namespace Q
open Go Go.Proofs.YtopclbeomcggiaaGreat
theorem rsum_succ (f : Nat → Rat) (n : Nat) : rsum f (n + 1)=rsum f n + f n:=rfl
theorem rsum_head (f : Nat → Rat) : ∀ n,rsum f (n + 1)=f 0 + rsum (fun i=>f (i + 1)) n
 | 0=>by simp only [rsum]; grind
 | n + 1=>by rw [rsum,rsum_head f n,rsum]; grind
theorem rsum_rev (f : Nat → Rat) : ∀ n,rsum f n=rsum (fun i=>f (n - 1 - i)) n
 | 0=>rfl
 | n + 1=>by
  rw [rsum_head (fun i=>f (n + 1 - 1 - i)) n,rsum,rsum_rev f n]
  rw [rsum_congr (n:=n) (f:=fun i=>f (n - 1 - i)) (g:=fun i=>f (n + 1 - 1 - (i + 1))) fun i hi=>by
   show f _=f _
   congr 1; omega]
  show _=f (n + 1 - 1 - 0) + _
  rw [show n + 1 - 1 - 0=n by omega]; grind
theorem rsum_zero {f : Nat → Rat} {n : Nat} (h : ∀ i,i < n → f i=0) : rsum f n=0:=by
 rw [rsum_congr h]
 induction n with
 | zero=>rfl
 | succ n ih=>rw [rsum,ih fun i hi=>h i (by omega)]; grind
theorem Lf_split (x : Pt) (v : Nat) (g : Nat → Rat) (N : Nat) : ∀ {p : List Trm},NatL p → (∀ t ∈ p,t.1.get v < N) → Lf (fun e=>mon x (e.put v 0) * g (e.get v).toNat) p=rsum (fun n=>ev x (coeffP p v n) * g n) N
 | [],_,_=>by
  rw [rsum_zero fun i _=>by show (0 : Rat) * _=0; grind]; rfl
 | t :: p,h,hN=>by
  have h1:=Ex.nat_get h.head v
  have h2:=hN t (by simp)
  rw [Lf_cons,Lf_split x v g N h.tail (fun s hs=>hN s (by simp [hs]))]
  have e : ∀ n : Nat,ev x (coeffP (t :: p) v n) * g n=(if t.1.get v=n then t.2 * mon x (t.1.put v 0) else 0) * g n + ev x (coeffP p v n) * g n:=by
   intro n
   unfold ev
   rw [Lf_coeff,Lf_coeff,Lf_cons]
   split <;> grind
  rw [rsum_congr (fun i _=>e i),rsum_add,rsum_one (f:=fun n : Nat=>(if t.1.get v=(n : Int) then t.2 * mon x (t.1.put v 0) else 0) * g n) (k:=(t.1.get v).toNat) (by omega) (fun i _ hi=>by rw [if_neg (by omega)]; grind),if_pos (by omega)]
  grind
def gq (c1 c0 : Rat) : Nat → Rat × Rat
 | 0=>(0,1)
 | n + 1=>((gq c1 c0 n).2 - (gq c1 c0 n).1 * c1,-((gq c1 c0 n).1 * c0))
theorem gq_add (c1 c0 : Rat) (i : Nat) : ∀ j,(gq c1 c0 (i + j)).1=(gq c1 c0 i).1 * (gq c1 c0 j).2 + (gq c1 c0 i).2 * (gq c1 c0 j).1 - c1 * ((gq c1 c0 i).1 * (gq c1 c0 j).1) ∧ (gq c1 c0 (i + j)).2=(gq c1 c0 i).2 * (gq c1 c0 j).2 - c0 * ((gq c1 c0 i).1 * (gq c1 c0 j).1)
 | 0=>by simp only [gq,Nat.add_zero]; grind
 | j + 1=>by
  obtain ⟨h1,h2⟩:=gq_add c1 c0 i j
  rw [← Nat.add_assoc]
  simp only [gq]
  rw [h1,h2]
  grind
def hq1 (x : Pt) (v : Nat) (c1 c0 : Rat) (p : List Trm) : Rat:=Lf (fun e=>mon x (e.put v 0) * (gq c1 c0 (e.get v).toNat).1) p
def hq2 (x : Pt) (v : Nat) (c1 c0 : Rat) (p : List Trm) : Rat:=Lf (fun e=>mon x (e.put v 0) * (gq c1 c0 (e.get v).toNat).2) p
theorem put_add (e f : Ex) (v : Nat) : (e.add f).put v 0=(e.put v 0).add (f.put v 0):=by rcases v with _ | _ | _ | v <;> rfl
theorem Lf_congr2 {f g : Ex → Rat} {l : List Trm} (hn : NatL l) (h : ∀ e,e.nat=true → f e=g e) : Lf f l=Lf g l:=Lf_congr fun t ht=>h _ (hn t ht)
theorem Lf_sub (f g : Ex → Rat) (l : List Trm) : Lf (fun e=>f e - g e) l=Lf f l - Lf g l:=by
 have : Lf (fun e=>f e - g e) l=Lf (fun e=>f e + (-1) * g e) l:=Lf_congr fun t _=>by grind
 rw [this,Lf_add,Lf_smul]; grind
theorem mon_put_add (x : Pt) {e f : Ex} (v : Nat) (he : e.nat=true) (hf : f.nat=true) : mon x ((e.add f).put v 0)=mon x (e.put v 0) * mon x (f.put v 0):=by
 rw [put_add,mon_add x (Ex.put_nat he v (Int.le_refl 0)) (Ex.put_nat hf v (Int.le_refl 0))]
theorem get_add_nat {e f : Ex} (v : Nat) (he : e.nat=true) (hf : f.nat=true) : ((e.add f).get v).toNat=(e.get v).toNat + (f.get v).toNat:=by
 rw [Ex.get_add,Int.toNat_add (Ex.nat_get he v) (Ex.nat_get hf v)]
theorem hq1_mul (x : Pt) (v : Nat) (c1 c0 : Rat) {p q : List Trm} (hp : NatL p) (hq : NatL q) : hq1 x v c1 c0 (mulP p q)=hq1 x v c1 c0 p * hq2 x v c1 c0 q + hq2 x v c1 c0 p * hq1 x v c1 c0 q - c1 * (hq1 x v c1 c0 p * hq1 x v c1 c0 q):=by
 unfold hq1 hq2
 rw [mulP,(canon_eqv (NatL.prods hp hq)) _,Lf_prods]
 have h1 : ∀ e : Ex,e.nat=true → Lf (fun e'=>mon x ((e.add e').put v 0) * (gq c1 c0 ((e.add e').get v).toNat).1) q =
   (Lf (fun e=>mon x (e.put v 0) * (gq c1 c0 (e.get v).toNat).2) q * (mon x (e.put v 0) * (gq c1 c0 (e.get v).toNat).1) + Lf (fun e=>mon x (e.put v 0) * (gq c1 c0 (e.get v).toNat).1) q * (mon x (e.put v 0) * (gq c1 c0 (e.get v).toNat).2)) - (c1 * Lf (fun e=>mon x (e.put v 0) * (gq c1 c0 (e.get v).toNat).1) q) * (mon x (e.put v 0) * (gq c1 c0 (e.get v).toNat).1):=fun (e : Ex) he=>by
  have h2 : Lf (fun e'=>mon x ((e.add e').put v 0) * (gq c1 c0 ((e.add e').get v).toNat).1) q=Lf (fun e'=>((mon x (e.put v 0) * (gq c1 c0 (e.get v).toNat).1) * (mon x (e'.put v 0) * (gq c1 c0 (e'.get v).toNat).2) + (mon x (e.put v 0) * (gq c1 c0 (e.get v).toNat).2) * (mon x (e'.put v 0) * (gq c1 c0 (e'.get v).toNat).1)) - (c1 * (mon x (e.put v 0) * (gq c1 c0 (e.get v).toNat).1)) * (mon x (e'.put v 0) * (gq c1 c0 (e'.get v).toNat).1)) q :=
   Lf_congr2 hq fun (e' : Ex) he'=>by
    rw [mon_put_add x v he he',get_add_nat v he he',(gq_add c1 c0 _ _).1]; grind
  rw [h2,Lf_sub,Lf_add,Lf_smul,Lf_smul,Lf_smul]; grind
 rw [Lf_congr2 hp h1,Lf_sub,Lf_add,Lf_smul,Lf_smul,Lf_smul]; grind
theorem hq2_mul (x : Pt) (v : Nat) (c1 c0 : Rat) {p q : List Trm} (hp : NatL p) (hq : NatL q) : hq2 x v c1 c0 (mulP p q)=hq2 x v c1 c0 p * hq2 x v c1 c0 q - c0 * (hq1 x v c1 c0 p * hq1 x v c1 c0 q):=by
 unfold hq1 hq2
 rw [mulP,(canon_eqv (NatL.prods hp hq)) _,Lf_prods]
 have h1 : ∀ e : Ex,e.nat=true → Lf (fun e'=>mon x ((e.add e').put v 0) * (gq c1 c0 ((e.add e').get v).toNat).2) q =
   Lf (fun e=>mon x (e.put v 0) * (gq c1 c0 (e.get v).toNat).2) q * (mon x (e.put v 0) * (gq c1 c0 (e.get v).toNat).2) - (c0 * Lf (fun e=>mon x (e.put v 0) * (gq c1 c0 (e.get v).toNat).1) q) * (mon x (e.put v 0) * (gq c1 c0 (e.get v).toNat).1):=fun (e : Ex) he=>by
  have h2 : Lf (fun e'=>mon x ((e.add e').put v 0) * (gq c1 c0 ((e.add e').get v).toNat).2) q=Lf (fun e'=>(mon x (e.put v 0) * (gq c1 c0 (e.get v).toNat).2) * (mon x (e'.put v 0) * (gq c1 c0 (e'.get v).toNat).2) - (c0 * (mon x (e.put v 0) * (gq c1 c0 (e.get v).toNat).1)) * (mon x (e'.put v 0) * (gq c1 c0 (e'.get v).toNat).1)) q :=
   Lf_congr2 hq fun (e' : Ex) he'=>by
    rw [mon_put_add x v he he',get_add_nat v he he',(gq_add c1 c0 _ _).2]; grind
  rw [h2,Lf_sub,Lf_smul,Lf_smul]; grind
 rw [Lf_congr2 hp h1,Lf_sub,Lf_smul,Lf_smul]; grind
def nrm (c1 c0 r s : Rat) : Rat:=s * s - c1 * (r * s) + c0 * (r * r)
theorem nrm_mul (x : Pt) (v : Nat) (c1 c0 : Rat) {p q : List Trm} (hp : NatL p) (hq : NatL q) : nrm c1 c0 (hq1 x v c1 c0 (mulP p q)) (hq2 x v c1 c0 (mulP p q))=nrm c1 c0 (hq1 x v c1 c0 p) (hq2 x v c1 c0 p) * nrm c1 c0 (hq1 x v c1 c0 q) (hq2 x v c1 c0 q):=by
 rw [hq1_mul x v c1 c0 hp hq,hq2_mul x v c1 c0 hp hq]
 unfold nrm; grind
section
variable {a0 a1 am c1 c0 : Rat} {A F : Nat → Nat → Rat} {n : Nat}
theorem gg_row2 (h0 : ∀ k,A k k=am) (h1 : ∀ k,A k (k + 1)=c1 * am) (h2 : ∀ k,A k (k + 2)=c0 * am) (h3 : ∀ k j,k + 3 ≤ j → A k j=0) (i : Nat) : ∀ k,k ≤ i →
  GG A am F k i k=am ^ k * rsum (fun j=>F i j * (gq c1 c0 (k + 1 - j)).1) (k + 2) ∧
  GG A am F k i (k + 1)=am ^ k * rsum (fun j=>F i j * (gq c1 c0 (k + 1 - j)).2) (k + 2) ∧ ∀ j,k + 2 ≤ j → GG A am F k i j=am ^ k * F i j
 | 0,_=>by
  refine ⟨?_,?_,fun j _=>?_⟩
  ·simp only [GG,rsum,gq,Rat.pow_zero,show 0 + 1 - 1=0 from rfl]; clear h0 h1 h2 h3; grind
  ·simp only [GG,rsum,gq,Rat.pow_zero,show 0 + 1 - 1=0 from rfl]; clear h0 h1 h2 h3; grind
  ·simp only [GG,Rat.pow_zero]; grind
 | k + 1,hk=>by
  obtain ⟨i1,i2,i3⟩:=gg_row2 h0 h1 h2 h3 i k (by omega)
  have e1 : rsum (fun j=>F i j * (gq c1 c0 (k + 1 + 1 - j)).1) (k + 2)=rsum (fun j=>F i j * (gq c1 c0 (k + 1 - j)).2) (k + 2) - c1 * rsum (fun j=>F i j * (gq c1 c0 (k + 1 - j)).1) (k + 2):=by
   have : ∀ m,m ≤ k + 2 → rsum (fun j=>F i j * (gq c1 c0 (k + 1 + 1 - j)).1) m=rsum (fun j=>F i j * (gq c1 c0 (k + 1 - j)).2) m - c1 * rsum (fun j=>F i j * (gq c1 c0 (k + 1 - j)).1) m:=by
    intro m hm
    induction m with
    | zero=>simp only [rsum]; grind
    | succ m ih =>
     rw [rsum,rsum,rsum,ih (by omega),show k + 1 + 1 - m=(k + 1 - m) + 1 by omega]
     simp only [gq]; grind
   exact this _ (Nat.le_refl _)
  have e2 : rsum (fun j=>F i j * (gq c1 c0 (k + 1 + 1 - j)).2) (k + 2)=- (c0 * rsum (fun j=>F i j * (gq c1 c0 (k + 1 - j)).1) (k + 2)):=by
   have : ∀ m,m ≤ k + 2 → rsum (fun j=>F i j * (gq c1 c0 (k + 1 + 1 - j)).2) m=- (c0 * rsum (fun j=>F i j * (gq c1 c0 (k + 1 - j)).1) m):=by
    intro m hm
    induction m with
    | zero=>simp only [rsum]; grind
    | succ m ih =>
     rw [rsum,rsum,ih (by omega),show k + 1 + 1 - m=(k + 1 - m) + 1 by omega]
     simp only [gq]; grind
   exact this _ (Nat.le_refl _)
  have hp : am ^ (k + 1)=am ^ k * am:=Rat.pow_succ _ _
  refine ⟨?_,?_,fun j hj=>?_⟩
  ·rw [GG,gstep,if_pos ⟨by omega,by omega⟩,i1,i2,h1,rsum_succ _ (k + 2),e1,hp,show k + 1 + 1 - (k + 2)=0 by omega]
   simp only [gq]; grind
  ·rw [GG,gstep,if_pos ⟨by omega,by omega⟩,i1,i3 (k + 1 + 1) (by omega),show A k (k + 1 + 1)=c0 * am from h2 k,rsum_succ _ (k + 2),e2,hp,show k + 1 + 1 - (k + 2)=0 by omega]
   simp only [gq]; grind
  ·rw [GG,gstep,if_pos ⟨by omega,by omega⟩,i3 j (by omega),h3 k j (by omega),hp]; grind
theorem gg_row1 (h0 : ∀ k,A k k=am) (h1 : ∀ k,A k (k + 1)=-(c0 * am)) (h3 : ∀ k j,k + 2 ≤ j → A k j=0) (i : Nat) : ∀ k,k ≤ i →
  GG A am F k i k=am ^ k * rsum (fun j=>F i j * c0 ^ (k - j)) (k + 1) ∧ ∀ j,k + 1 ≤ j → GG A am F k i j=am ^ k * F i j
 | 0,_=>by
  refine ⟨?_,fun j _=>?_⟩
  ·simp only [GG,rsum,Rat.pow_zero,Nat.sub_zero]; grind
  ·simp only [GG,Rat.pow_zero]; grind
 | k + 1,hk=>by
  obtain ⟨i1,i3⟩:=gg_row1 h0 h1 h3 i k (by omega)
  have e1 : rsum (fun j=>F i j * c0 ^ (k + 1 - j)) (k + 1)=c0 * rsum (fun j=>F i j * c0 ^ (k - j)) (k + 1):=by
   have : ∀ m,m ≤ k + 1 → rsum (fun j=>F i j * c0 ^ (k + 1 - j)) m=c0 * rsum (fun j=>F i j * c0 ^ (k - j)) m:=by
    intro m hm
    induction m with
    | zero=>simp only [rsum]; grind
    | succ m ih =>
     rw [rsum,rsum,ih (by omega),show k + 1 - m=(k - m) + 1 by omega,Rat.pow_succ]; grind
   exact this _ (Nat.le_refl _)
  have hp : am ^ (k + 1)=am ^ k * am:=Rat.pow_succ _ _
  refine ⟨?_,fun j hj=>?_⟩
  ·rw [GG,gstep,if_pos ⟨by omega,by omega⟩,i1,i3 (k + 1) (by omega),h1,rsum_succ _ (k + 1),e1,hp,show k + 1 - (k + 1)=0 by omega,Rat.pow_zero]; grind
  ·rw [GG,gstep,if_pos ⟨by omega,by omega⟩,i3 j (by omega),h3 k j (by omega),hp]; grind
end
theorem sum_row {g : Nat → Rat} (x : Pt) {b : List (List Trm)} {n : Nat} (hb : b.length=n + 1) : rsum (fun j=>ev x (rowE b 0 j) * g (n - j)) (n + 1)=rsum (fun i=>ev x (b.getD i []) * g i) (n + 1):=by
 rw [rsum_rev]
 refine rsum_congr fun i hi=>?_
 rw [rowE,if_pos ⟨by omega,by omega⟩,show 0 + b.length - 1 - (n + 1 - 1 - i)=i by omega,show n - (n + 1 - 1 - i)=i by omega]
theorem sum_row0 {g : Nat → Rat} (x : Pt) {b : List (List Trm)} {n : Nat} (hb : b.length=n + 1) : rsum (fun j=>ev x (rowE b 0 j) * g (n + 1 - j)) (n + 2)=rsum (fun i=>ev x (b.getD i []) * g (i + 1)) (n + 1):=by
 rw [rsum_succ _ (n + 1),rsum_congr (n:=n + 1) (g:=fun j=>ev x (rowE b 0 j) * (fun i=>g (i + 1)) (n - j)) fun j hj=>by
  show _ * g _=_ * g _
  rw [show n + 1 - j=n - j + 1 by omega]]
 rw [sum_row (g:=fun i=>g (i + 1)) x hb,rowE,if_neg (by omega),ev_nil]; grind
theorem sum_row1 {g : Nat → Rat} (x : Pt) {b : List (List Trm)} {n : Nat} (hb : b.length=n + 1) : rsum (fun j=>ev x (rowE b 1 j) * g (n + 1 - j)) (n + 2)=rsum (fun i=>ev x (b.getD i []) * g i) (n + 1):=by
 rw [rsum_head,rsum_congr (n:=n + 1) (g:=fun j=>ev x (rowE b 0 j) * g (n - j)) fun j hj=>by
  show ev x (rowE b 1 (j + 1)) * g (n + 1 - (j + 1))=_
  rw [show n + 1 - (j + 1)=n - j by omega,rowE,rowE]
  congr 2
  by_cases h : j < n + 1
  ·rw [if_pos ⟨by omega,by omega⟩,if_pos ⟨by omega,by omega⟩]; congr 1; omega
  ·omega]
 rw [sum_row x hb,rowE,if_neg (by omega),ev_nil]; grind
end Q
end
section
namespace Q
open Go.Proofs.YtopclbeomcggiaaGreat
instance decPair : DecidableEq (List Trm × Nat):=@instDecidableEqProd (List Trm) Nat inferInstance inferInstance
instance decPairs : DecidableEq (List (List Trm × Nat)):=inferInstance
instance decPairsO : DecidableEq (Option (List (List Trm × Nat))):=inferInstance
def G8 : List Trm → List Trm → Option (List Trm):=gcdN 6
theorem sw_sum : addP [tm 1 1 0] [tm 1 0 1]=[tm 1 0 1,tm 1 1 0]:=by decide +kernel
theorem sw_x1 : addP [tm 1 1 0] [tm 1 0 0]=[tm 1 1 0,tm 1 0 0]:=by decide +kernel
theorem sw_sq : mulP [tm 1 1 0,tm 1 0 0] [tm 1 1 0,tm 1 0 0]=[tm 1 2 0,tm 2 1 0,tm 1 0 0]:=by decide +kernel
theorem sw_xmy : subP [tm 1 1 0] [tm 1 0 1]=[tm (-1) 0 1,tm 1 1 0]:=by decide +kernel
theorem sw_a : mulP [tm 1 0 1,tm 1 1 0] [tm (-1) 0 1,tm 1 1 0]=[tm (-1) 0 2,tm 1 2 0]:=by decide +kernel
theorem sw_b : mulP [tm 1 0 1] [tm 1 0 1,tm 1 1 0]=[tm 1 0 2,tm 1 1 1]:=by decide +kernel
theorem sw_yx1 : mulP [tm 1 0 1] [tm 1 1 0,tm 1 0 0]=[tm 1 1 1,tm 1 0 1]:=by decide +kernel
theorem sw_c : scaleP [tm 1 1 1,tm 1 0 1] (((2 : Int)) : Rat)=[tm 2 1 1,tm 2 0 1]:=by decide +kernel
theorem sw_xy : mulP [tm 1 1 0] [tm 1 0 1]=[tm 1 1 1]:=by decide +kernel
theorem sw_f : mulP [tm 1 1 1] [tm 1 2 0,tm 2 1 0,tm 1 0 0]=[tm 1 3 1,tm 2 2 1,tm 1 1 1]:=by decide +kernel
theorem sw_l : sqO G8 [tm 1 3 1,tm 2 2 1,tm 1 1 1] 0=some [([tm 1 1 0],1),([tm 1 1 0,tm 1 0 0],2)]:=by decide +kernel
theorem sw_x2 : addP [tm 1 1 0] [tm 2 0 0]=[tm 1 1 0,tm 2 0 0]:=by decide +kernel
theorem sw_2x2 : scaleP [tm 1 1 0,tm 2 0 0] (((2 : Int)) : Rat)=[tm 2 1 0,tm 4 0 0]:=by decide +kernel
theorem sw_n : normO [tm 2 1 0,tm 4 0 0]=some [tm 1 1 0,tm 2 0 0]:=by decide +kernel
theorem sw_g1 : G8 [tm (-1) 0 2,tm 1 2 0] [tm 1 0 2,tm 1 1 1]=some [tm 1 0 1,tm 1 1 0]:=by decide +kernel
theorem sw_3x : scaleP [tm 1 1 0] (((3 : Int)) : Rat)=[tm 3 1 0]:=by decide +kernel
theorem sw_g2 : G8 [] [tm 3 1 0]=some [tm 1 1 0]:=by decide +kernel
theorem sw_g3 : G8 [tm 1 1 0] [tm 1 0 1]=some [tm 1 0 0]:=by decide +kernel
theorem sw_g4 : G8 [tm 4 0 0] [tm 6 0 0]=some [tm 1 0 0]:=by decide +kernel
theorem sw_g5 : G8 [] []=some []:=by decide +kernel
theorem sw_ct : contO G8 [tm 2 1 1,tm 2 0 1] 0=some [tm 1 0 1]:=by decide +kernel
theorem sw_pr : primO G8 [tm 2 1 1,tm 2 0 1] 0=some [tm 2 1 0,tm 2 0 0]:=by decide +kernel
theorem sw_2x1 : scaleP [tm 1 1 0,tm 1 0 0] (((2 : Int)) : Rat)=[tm 2 1 0,tm 2 0 0]:=by decide +kernel
theorem sw_l2 : sqO G8 [tm 1 0 1] 0=some []:=by decide +kernel
theorem sw_xx : mulP [tm 1 1 0] [tm 1 1 0]=[tm 1 2 0]:=by decide +kernel
theorem sw_xxy : subP [tm 1 2 0] [tm 1 0 1]=[tm (-1) 0 1,tm 1 2 0]:=by decide +kernel
theorem sw_xm1 : subP [tm 1 1 0] [tm 1 0 0]=[tm 1 1 0,tm (-1) 0 0]:=by decide +kernel
theorem sw_1my : subP [tm 1 0 0] [tm 1 0 1]=[tm (-1) 0 1,tm 1 0 0]:=by decide +kernel
theorem sw_r1 : resO [tm (-1) 0 1,tm 1 2 0] [tm 1 1 0,tm (-1) 0 0] 0=some [tm (-1) 0 1,tm 1 0 0]:=by decide +kernel
theorem sw_r2 : resO [tm 2 0 0] [tm 3 0 0] 0=some [tm 1 0 0]:=by decide +kernel
theorem sw_r3 : resO [tm 2 0 0] [tm 1 2 0] 0=some [tm 4 0 0]:=by decide +kernel
theorem sw_r4 : resO [] [tm 1 0 0] 0=some []:=by decide +kernel
end Q
end
section
namespace Q
open Go Go.RowKit Go.Proofs.YtopclbeomcggiaaGreat
theorem szW_neg {D : Nat} (h : 0 < D) (h' : D ≤ 200) : ((szW D).mul ⟨1,1,0,1⟩).ok:=by
 refine ⟨Nat.mul_pos h Nat.one_pos,?_,?_,by show 1000 + 0 < 1000000; omega,by show 900 * 1 < 1000000; omega⟩
 ·show D * 1 < 65536; omega
 ·show 2 ^ 200 * 1 < 2 ^ 1000; rw [Nat.mul_one]; exact p200
def ratW (c : Rat) : Bool:=decide (c.den < 65536) && decide (c.num.natAbs < 4294967296)
theorem ratW_rs {c : Rat} (h : ratW c=true) : Rs c:=by
 simp only [ratW,Bool.and_eq_true,decide_eq_true_eq] at h
 refine ⟨h.1,?_⟩
 have:=nbits_le (n:=c.num.natAbs) (k:=32) (by omega)
 omega
end Q
namespace Go.Proofs.YtopclbeomcggiaaGreat
open Go.RowKit Q
section
variable {w : World} {v u : Value} {p q r : List Trm}
theorem addW7 (e : addP p q=r) (h : wpB p=true) (h' : wpB q=true) (hp : IsPoly w v p) (hq : IsPoly w u q) : Calls Tryz.prog 39 #[v,u] w (RetPoly w r):=by
 obtain ⟨D,d1,d2,P⟩:=wpB_wp h
 obtain ⟨D',e1,e2,P'⟩:=wpB_wp h'
 exact e ▸ add7K P P' hp hq
theorem mulW7 (e : mulP p q=r) (h : wpB p=true) (h' : wpB q=true) (hp : IsPoly w v p) (hq : IsPoly w u q) : Calls Tryz.prog 12 #[v,u] w (RetPoly w r):=by
 obtain ⟨D,d1,d2,P⟩:=wpB_wp h
 obtain ⟨D',e1,e2,P'⟩:=wpB_wp h'
 exact e ▸ mul7K P P' (szW_mul d1 d2 e1 e2) hp hq
theorem subW7 (e : subP p q=r) (h : wpB p=true) (h' : wpB q=true) (hp : IsPoly w v p) (hq : IsPoly w u q) : Calls Tryz.prog 35 #[v,u] w (RetPoly w r):=by
 obtain ⟨D,d1,d2,P⟩:=wpB_wp h
 obtain ⟨D',e1,e2,P'⟩:=wpB_wp h'
 exact e ▸ sub7K P P' (szW_neg e1 e2) hp hq
theorem scaleW7 {c : Rat} (e : scaleP p c=r) (h : wpB p=true) (h' : ratW c=true) (hp : IsPoly w v p) (hc : IsRat w u c) : Calls Tryz.prog 42 #[v,u] w (RetPoly w r):=by
 obtain ⟨D,d1,d2,P⟩:=wpB_wp h
 exact e ▸ scaleK P (ratW_rs h') hp hc
theorem sameW7 (h : wpB p=true) (hp : IsPoly w v p) (hq : IsPoly w u p) : Calls Tryz.prog 13 #[v,u] w (Ret w (.bool true)):=by
 obtain ⟨D,d1,d2,P⟩:=wpB_wp h
 exact sameK P P rfl hp hq
theorem gcdW {g : List Trm} (e : G8 p q=some g) (h : wpB p=true) (h' : wpB q=true) (hp : IsPoly w v p) (hq : IsPoly w u q) : Calls Tryz.prog 16 #[v,u] w (RetPoly w g) :=
 (gcdN_any 6 p q g (wpB_wp h) (wpB_wp h') e).1 v u w hp hq
theorem normW {g : List Trm} (e : normO p=some g) (h : wpB p=true) (hp : IsPoly w v p) : Calls Tryz.prog 14 #[v] w (RetPoly w g):=normal_any v p g w hp (wpB_wp h) e
theorem contW {g : List Trm} (e : contO G8 p 0=some g) (h : wpB p=true) (hp : IsPoly w v p) : Calls Tryz.prog 18 #[v,.int .i64 0] w (RetPoly w g):=content_any (gcdN_any 6) v p g 0 w (by decide) hp (wpB_wp h) e
theorem primW {g : List Trm} (e : primO G8 p 0=some g) (h : wpB p=true) (hp : IsPoly w v p) : Calls Tryz.prog 20 #[v,.int .i64 0] w (RetPoly w g):=primitive_any (gcdN_any 6) v p g 0 w (by decide) hp (wpB_wp h) e
theorem sqfW {R : List (List Trm × Nat)} (e : sqO G8 p 0=some R) (h : wpB p=true) (hp : IsPoly w v p) : Calls Tryz.prog 29 #[v,.int .i64 0] w (RetFac w R):=squarefree_any (gcdN_any 6) v p R 0 w hp (wpB_wp h) (by decide) e
end
theorem x8_any (w : World) : Calls Tryz.prog 40 #[] w (RetPoly w [tm 1 1 0]):=by
 go_enter Tryz.func40,Tryz.ntmps40
 go_wp2_with (go_at_call 37; refine (var7_any 0 _ (by omega)).mono ?_; rintro e w3 ⟨v3,rfl,h3,hb3⟩)
 go_ret
 exact ⟨_,rfl,sv_x ▸ h3,hb3⟩
theorem y8_any (w : World) : Calls Tryz.prog 41 #[] w (RetPoly w [tm 1 0 1]):=by
 go_enter Tryz.func41,Tryz.ntmps41
 go_wp2_with (go_at_call 37; refine (var7_any 1 _ (by omega)).mono ?_; rintro e w3 ⟨v3,rfl,h3,hb3⟩)
 go_ret
 exact ⟨_,rfl,sv_y ▸ h3,hb3⟩
theorem num8_any (n : Int) (p : List Trm) (w : World) (h1 : -1000 ≤ n) (h2 : n ≤ 1000) (hp : constP (n : Rat)=p) (hb : bdB [(e0,(n : Rat))]=true) : Calls Tryz.prog 26 #[.int .i64 n] w (RetPoly w p):=by
 have hc:=Lib.hid (fun W v (hv : IsRat W v (n : Rat))=>const7_any v (n : Rat) _ W hv (bdB_bd hb).1 (szW_ok (lcmD_pos _) (bdB_bd hb).2))
 rw [hp] at hc
 go_enter Tryz.func26,Tryz.ntmps26
 go_wp2_with (first
  | (go_at_call 24; refine (whole2_any n _ (by omega) (by omega)).mono ?_; rintro e w3 ⟨v3,rfl,h3,hb3⟩)
  | (go_at_call 72; refine (hc.out _ _ h3).mono ?_; rintro e w4 ⟨v4,rfl,h4,hb4⟩))
 go_ret
 exact ⟨_,rfl,h4,hb3.trans (hb4.mono hb3.size)⟩
set_option maxHeartbeats 4000000 in
set_option maxRecDepth 100000 in
theorem factors_eq (va vb : Value) (L : List (List Trm × Nat)) (w : World) (ha : IsFac w va L) (hb : IsFac w vb L) (hw : ∀ f ∈ L,wpB f.1=true) (hn : L.length ≤ 1000) : Calls Tryz.prog 30 #[va,vb] w (Ret w (.bool true)):=by
 obtain ⟨aa,ca,rfl,-⟩:=ha.shape
 obtain ⟨ab,cb,rfl,-⟩:=hb.shape
 replace ha:=Lib.hid ha
 replace hb:=Lib.hid hb
 replace hw:=Lib.hid hw
 go_enter Tryz.func30,Tryz.ntmps30
 go_wp2
 go_loopw [5] (fun i wr=>∃ k : Nat,k ≤ L.length ∧ i=.int .i64 k ∧ Below w.heap.size w wr) (fun i _=>L.length - (intOf i).toNat)
 case atStart=>exact ⟨0,by omega,by go_num,Below.refl _ _⟩
 case round =>
  obtain ⟨k,hk,rfl,hbr⟩:=hrel
  by_cases hkl : k < L.length
  ·have hjq : L[k]?=some L[k]:=List.getElem?_eq_getElem hkl
   have hwk:=hw.out _ (List.getElem_mem hkl)
   generalize L[k]=f at *
   obtain ⟨b1,o1,cs1,rfl,-,⟨v1,rfl,p1⟩,C1⟩:=(ha.out.on hbr).get hjq
   obtain ⟨b2,o2,cs2,rfl,-,⟨v2,rfl,p2⟩,C2⟩:=(hb.out.on hbr).get hjq
   change Cells _ wr b1 (o1 + k * 2) _ at C1
   change Cells _ wr b2 (o2 + k * 2) _ at C2
   have kk : (k : Int) < (L.length : Int):=by omega
   have c10 : ∀ W,Below wr.heap.size wr W → W.cell? ⟨b1,o1 + k * 2,none⟩=some v1:=fun W hb=>(C1.on hb).cell 0 (by simp)
   have c11 : ∀ W,Below wr.heap.size wr W → W.cell? ⟨b1,o1 + k * 2 + 1,none⟩=some (.int .i64 (f.2 : Int)):=fun W hb=>(C1.on hb).cell 1 (by simp)
   have c20 : ∀ W,Below wr.heap.size wr W → W.cell? ⟨b2,o2 + k * 2,none⟩=some v2:=fun W hb=>(C2.on hb).cell 0 (by simp)
   have c21 : ∀ W,Below wr.heap.size wr W → W.cell? ⟨b2,o2 + k * 2 + 1,none⟩=some (.int .i64 (f.2 : Int)):=fun W hb=>(C2.on hb).cell 1 (by simp)
   generalize f.2=e at *
   clear C1 C2 hjq
   go_upto_region 6 with (fail)
   refine wp_region_L mixed (none) (0) (Okr.none) [.eq (.slice (some ⟨b1,o1,none⟩) L.length ca),.eq (.int .i64 k),.eq (.pointer (some ⟨b1,o1 + k * 2,none⟩)),.eq (.pointer (some ⟨b1,o1 + k * 2 + 1,none⟩)),.eq (.int .i64 e),.eq (.slice (some ⟨b2,o2,none⟩) L.length cb),.eq (.int .i64 k),.eq (.pointer (some ⟨b2,o2 + k * 2,none⟩)),.eq (.pointer (some ⟨b2,o2 + k * 2 + 1,none⟩)),.eq (.int .i64 e),.eq (.bool false),.eq (.bool false),.eq (.slice (some ⟨b1,o1,none⟩) L.length ca),.eq (.int .i64 k),.eq (.pointer (some ⟨b1,o1 + k * 2,none⟩)),.eq (.pointer (some ⟨b1,o1 + k * 2,none⟩)),.eq (v1),.eq (.slice (some ⟨b2,o2,none⟩) L.length cb),.eq (.int .i64 k),.eq (.pointer (some ⟨b2,o2 + k * 2,none⟩)),.eq (.pointer (some ⟨b2,o2 + k * 2,none⟩)),.eq (v2),.ret (.bool true),.eq (.bool false),.eq (.bool false)] [17,18,19,20,21,22,23,24,25,26,27,28,29,30,31,32,33,34,35,36,37,38,39,40,41] rfl rfl rfl rfl ⟨?_,?_,?_,?_,?_,?_,?_,?_,?_,?_,?_,?_,?_,?_,?_,?_,?_,?_,?_,?_,?_,?_,?_,?_,?_,trivial⟩ ?_
   ·exact fun A w1 hA hL hS he=>goOn_plain rfl (stepG_mv rfl rfl (hA 0 rfl))
   ·exact fun A w1 hA hL hS he=>goOn_plain rfl (stepG_mv rfl rfl (hA 5 rfl))
   ·intro A w1 hA hL hS he
    have h17 : A.eval (.tmp 17)=_:=he.1 rfl
    have h18 : A.eval (.tmp 18)=_:=he.2.1 rfl
    refine goOn_plain rfl ?_
    exact stepG_pure rfl rfl (execOp_index rfl (by rw [h17,h18]; exact run_index Tryz.underlying50 (by kernel_rfl) w1 b1 o1 _ _ k .i64 _ (by first | rfl | simp | omega) (hkl)))
   ·intro A w1 hA hL hS he
    have h19 : A.eval (.tmp 19)=_:=he.1 rfl
    refine goOn_plain rfl (stepG_pure rfl rfl ?_)
    generalize A.eval=ev at *
    go_simp
   ·intro A w1 hA hL hS he
    have h20 : A.eval (.tmp 20)=_:=he.1 rfl
    refine goOn_plain rfl ?_
    have c0:=c11 w1 hL.below
    refine stepG_pure rfl rfl ?_
    generalize A.eval=ev at *
    go_simp
   ·exact fun A w1 hA hL hS he=>goOn_plain rfl (stepG_mv rfl rfl (hA 1 rfl))
   ·exact fun A w1 hA hL hS he=>goOn_plain rfl (stepG_mv rfl rfl (hA 5 rfl))
   ·intro A w1 hA hL hS he
    have h22 : A.eval (.tmp 22)=_:=he.1 rfl
    have h23 : A.eval (.tmp 23)=_:=he.2.1 rfl
    refine goOn_plain rfl ?_
    exact stepG_pure rfl rfl (execOp_index rfl (by rw [h22,h23]; exact run_index Tryz.underlying50 (by kernel_rfl) w1 b2 o2 _ _ k .i64 _ (by first | rfl | simp | omega) (hkl)))
   ·intro A w1 hA hL hS he
    have h24 : A.eval (.tmp 24)=_:=he.1 rfl
    refine goOn_plain rfl (stepG_pure rfl rfl ?_)
    generalize A.eval=ev at *
    go_simp
   ·intro A w1 hA hL hS he
    have h25 : A.eval (.tmp 25)=_:=he.1 rfl
    refine goOn_plain rfl ?_
    have c0:=c21 w1 hL.below
    refine stepG_pure rfl rfl ?_
    generalize A.eval=ev at *
    go_simp
   ·intro A w1 hA hL hS he
    have h21 : A.eval (.tmp 21)=_:=he.1 rfl
    have h26 : A.eval (.tmp 26)=_:=he.2.1 rfl
    refine goOn_plain rfl (stepG_pure rfl rfl ?_)
    generalize A.eval=ev at *
    go_simp
   ·exact fun A w1 hA hL hS he=>goOn_plain rfl (stepG_mv rfl rfl (he.1 rfl))
   ·exact fun A w1 hA hL hS he=>goOn_yes rfl rfl (he.1 rfl) (stepG_mv rfl rfl (hA 0 rfl))
   ·exact fun A w1 hA hL hS he=>goOn_yes rfl rfl (he.1 rfl) (stepG_mv rfl rfl (hA 5 rfl))
   ·intro A w1 hA hL hS he
    have h28 : A.eval (.tmp 28)=_:=he.2.2.1 rfl
    have h29 : A.eval (.tmp 29)=_:=he.1 rfl
    have h30 : A.eval (.tmp 30)=_:=he.2.1 rfl
    refine goOn_yes rfl rfl h28 ?_
    exact stepG_pure rfl rfl (execOp_index rfl (by rw [h29,h30]; exact run_index Tryz.underlying50 (by kernel_rfl) w1 b1 o1 _ _ k .i64 _ (by first | rfl | simp | omega) (hkl)))
   ·intro A w1 hA hL hS he
    have h28 : A.eval (.tmp 28)=_:=he.2.1 rfl
    have h31 : A.eval (.tmp 31)=_:=he.1 rfl
    refine goOn_yes rfl rfl h28 ?_
    refine stepG_pure rfl rfl ?_
    generalize A.eval=ev at *
    go_simp
   ·intro A w1 hA hL hS he
    have h28 : A.eval (.tmp 28)=_:=he.2.1 rfl
    have h32 : A.eval (.tmp 32)=_:=he.1 rfl
    refine goOn_yes rfl rfl h28 ?_
    have c0:=c10 w1 hL.below
    refine stepG_pure rfl rfl ?_
    generalize A.eval=ev at *
    go_simp
   ·exact fun A w1 hA hL hS he=>goOn_yes rfl rfl (he.1 rfl) (stepG_mv rfl rfl (hA 1 rfl))
   ·exact fun A w1 hA hL hS he=>goOn_yes rfl rfl (he.1 rfl) (stepG_mv rfl rfl (hA 5 rfl))
   ·intro A w1 hA hL hS he
    have h28 : A.eval (.tmp 28)=_:=he.2.2.1 rfl
    have h34 : A.eval (.tmp 34)=_:=he.1 rfl
    have h35 : A.eval (.tmp 35)=_:=he.2.1 rfl
    refine goOn_yes rfl rfl h28 ?_
    exact stepG_pure rfl rfl (execOp_index rfl (by rw [h34,h35]; exact run_index Tryz.underlying50 (by kernel_rfl) w1 b2 o2 _ _ k .i64 _ (by first | rfl | simp | omega) (hkl)))
   ·intro A w1 hA hL hS he
    have h28 : A.eval (.tmp 28)=_:=he.2.1 rfl
    have h36 : A.eval (.tmp 36)=_:=he.1 rfl
    refine goOn_yes rfl rfl h28 ?_
    refine stepG_pure rfl rfl ?_
    generalize A.eval=ev at *
    go_simp
   ·intro A w1 hA hL hS he
    have h28 : A.eval (.tmp 28)=_:=he.2.1 rfl
    have h37 : A.eval (.tmp 37)=_:=he.1 rfl
    refine goOn_yes rfl rfl h28 ?_
    have c0:=c20 w1 hL.below
    refine stepG_pure rfl rfl ?_
    generalize A.eval=ev at *
    go_simp
   ·intro A w1 hA hL hS he
    have hb:=hS rfl
    have h28 : A.eval (.tmp 28)=_:=he.2.2.1 rfl
    have h33 : A.eval (.tmp 33)=_:=he.1 rfl
    have h38 : A.eval (.tmp 38)=_:=he.2.1 rfl
    have hf0 : A.eval (.func 13)=.func (.func 13) #[] #[]:=rfl
    refine goOn_yes rfl rfl h28 ?_
    refine stepG_call (f:=13) (args:=#[v1,v2]) rfl rfl ?_ ?_
    ·generalize A.eval=ev at *
     go_simp
    ·refine (sameW7 hwk (p1.on hb) (p2.on hb)).mono ?_
     rintro e w' ⟨rfl,hb'⟩
     exact ⟨_,rfl,hb',rfl⟩
   ·intro A w1 hA hL hS he
    have h28 : A.eval (.tmp 28)=_:=he.2.1 rfl
    have h39 : A.eval (.tmp 39)=_:=he.1 rfl
    refine goOn_yes rfl rfl h28 ?_
    refine stepG_pure rfl rfl ?_
    generalize A.eval=ev at *
    go_simp
   ·intro A w1 hA hL hS he
    have h28 : A.eval (.tmp 28)=_:=he.1 rfl
    have h40 : A.eval (.tmp 40)=_:=he.2.1 rfl
    have hc0 : A.eval (.const (.bool true))=.bool true:=rfl
    refine goOn_plain rfl (stepG_pure rfl rfl ?_)
    generalize A.eval=ev at *
    go_simp
   ·intro W5 hL5
    have hb5:=hL5.below
    simp only [TailL,FactL.eq,FactL.ret,FactL.of,List.length_cons,List.length_nil,List.drop_succ_cons,List.drop_zero]
    go_frame
    clear hL5 c10 c11 c20 c21
    go_wp2
    go_roundw
    case rel=>exact ⟨k + 1,by omega,by go_num,hbr.trans (hb5.mono hbr.size)⟩
    case measure=>simp [intOf]; omega
  ·obtain rfl : L.length=k:=by omega
   go_wp2
   go_ret
   exact ⟨rfl,hbr⟩
end Go.Proofs.YtopclbeomcggiaaGreat
end
section
namespace Q
open Go Go.Proofs.YtopclbeomcggiaaGreat
abbrev Dr4:=Int × Int × Int × Int
def Raw4 (t : Dr4) : Prop:=(-128 ≤ t.1 ∧ t.1 < 128) ∧ (-128 ≤ t.2.1 ∧ t.2.1 < 128) ∧ (-128 ≤ t.2.2.1 ∧ t.2.2.1 < 128) ∧ -128 ≤ t.2.2.2 ∧ t.2.2.2 < 128
def made8T (t : Dr4) : Trm:=((t.1 % 256 % 3,t.2.1 % 256 % 3,t.2.2.1 % 256 % 2,0),((t.2.2.2.tmod 6 : Int) : Rat))
def made8L (L : List Dr4) : List Trm:=(L.take 3).map made8T
def made8P (L : List Dr4) : List Trm:=canon (made8L L)
def planeT (t : Dr4) : Dr4:=(t.1,t.2.1,0,t.2.2.2)
def plane8P (L : List Dr4) : List Trm:=made8P ((L.take 3).map planeT)
theorem rabs_tmod6 (c : Int) : rabs ((c.tmod 6 : Int) : Rat) ≤ ((5 : Nat) : Rat):=by
 rw [rabs_int]
 have : (c.tmod 6).natAbs < 6:=by rw [Int.natAbs_tmod]; exact Nat.mod_lt _ (by decide)
 exact Rat.natCast_le_natCast.2 (by omega)
theorem asum_made8 : ∀ (L : List Dr4),asum (L.map made8T) ≤ ((5 * L.length : Nat) : Rat)
 | []=>by simp only [List.map_nil,asum,List.length_nil,Nat.mul_zero]; exact Rat.natCast_nonneg
 | t :: L=>by
  have h1:=asum_made8 L
  have h2 : rabs (made8T t).2 ≤ ((5 : Nat) : Rat):=rabs_tmod6 _
  have h3 : ((5 * (t :: L).length : Nat) : Rat)=((5 : Nat) : Rat) + ((5 * L.length : Nat) : Rat):=by
   rw [← Rat.natCast_add]; congr 1; simp only [List.length_cons]; omega
  rw [h3]
  simp only [List.map_cons,asum]; grind
def sz8 : Sz:=⟨1,15,2,3⟩
theorem made8_bd (L : List Dr4) : Bd sz8 (made8L L):=by
 have hl : (L.take 3).length ≤ 3:=by rw [List.length_take]; exact Nat.min_le_left _ _
 refine ⟨by simpa [made8L,sz8] using hl,fun t ht=>?_,fun t ht=>?_,Rat.le_trans (asum_made8 _) (Rat.natCast_le_natCast.2 (by show 5 * (L.take 3).length ≤ 15; omega))⟩
 ·obtain ⟨s,hs,rfl⟩:=List.mem_map.1 ht
  simp only [made8T,sz8]
  omega
 ·obtain ⟨s,hs,rfl⟩:=List.mem_map.1 ht
  refine ⟨s.2.2.2.tmod 6,?_⟩
  show ((s.2.2.2.tmod 6 : Int) : Rat) * ((1 : Nat) : Rat)=_
  rw [show ((1 : Nat) : Rat)=1 from rfl,Rat.mul_one]
theorem sz8_ok : sz8.ok:=by decide +kernel
theorem sz8_is : Is sz8:=⟨rfl,by decide +kernel,by decide,by decide⟩
theorem made8_pk (L : List Dr4) : Pk sz8 (made8P L):=⟨canon_val _,(made8_bd L).canon,sz8_ok⟩
theorem plane8_pk (L : List Dr4) : Pk sz8 (plane8P L):=made8_pk _
theorem plane8_ex (L : List Dr4) : ∀ t ∈ plane8P L,(0 ≤ t.1.1 ∧ t.1.1 ≤ 2) ∧ (0 ≤ t.1.2.1 ∧ t.1.2.1 ≤ 2) ∧ t.1.2.2.1=0 ∧ t.1.2.2.2=0 :=
 canon_ex (P:=fun e=>(0 ≤ e.1 ∧ e.1 ≤ 2) ∧ (0 ≤ e.2.1 ∧ e.2.1 ≤ 2) ∧ e.2.2.1=0 ∧ e.2.2.2=0) fun t ht=>by
  obtain ⟨s,hs,rfl⟩:=List.mem_map.1 ht
  obtain ⟨r,hr,rfl⟩:=List.mem_map.1 (List.mem_of_mem_take hs)
  show (0 ≤ r.1 % 256 % 3 ∧ r.1 % 256 % 3 ≤ 2) ∧ (0 ≤ r.2.1 % 256 % 3 ∧ r.2.1 % 256 % 3 ≤ 2) ∧ (0 : Int) % 256 % 2=0 ∧ (0 : Int)=0
  omega
end Q
namespace Go.Proofs.YtopclbeomcggiaaGreat
open Go.RowKit Q
def rawC (t : Dr4) : List Value:=[.int .i8 t.1,.int .i8 t.2.1,.int .i8 t.2.2.1,.int .i8 t.2.2.2]
def elR4 (T : TypeId) : El Dr4 where
 T:=T
 sz:=4
 pos:=by decide
 E _ cs t:=cs=rawC t ∧ Raw4 t
 len:=by rintro w c t ⟨rfl,h⟩; rfl
 one:=by
  rintro w c t ⟨rfl,h⟩ v hv
  simp only [rawC,List.mem_cons,List.not_mem_nil,or_false] at hv
  rcases hv with rfl | rfl | rfl | rfl <;> rfl
 on:=fun h _=>h
 ok _:=True
 lr:=fun h _ _=>h
 self:=trivial
def IsR4 (w : World) (v : Value) (l : List Dr4) : Prop:=∃ T,IsSl (elR4 T) w v l
theorem IsR4.on {w w' : World} {v : Value} {l : List Dr4} (h : IsR4 w v l) (hb : Below w.heap.size w w') : IsR4 w' v l:=let ⟨T,h⟩:=h; ⟨T,h.on hb⟩
theorem IsR4.shape {w : World} {v : Value} {l : List Dr4} (h : IsR4 w v l) : ∃ ao cap,v=.slice ao l.length cap ∧ l.length ≤ cap:=let ⟨_,h⟩:=h; h.shape
theorem IsR4.get {w : World} {ao : Option Addr} {n c j : Nat} {t : Dr4} {l : List Dr4} (h : IsR4 w (.slice ao n c) l) (hj : l[j]?=some t) : ∃ T b off,ao=some ⟨b,off,none⟩ ∧ Raw4 t ∧ Cells T w b (off + j * 4) (rawC t):=by
 obtain ⟨T,h⟩:=h
 obtain ⟨b,off,cs,e,-,⟨rfl,hok⟩,hC⟩:=h.get hj
 exact ⟨T,b,off,e,hok,hC⟩
end Go.Proofs.YtopclbeomcggiaaGreat
end
section
namespace Q
open Go Go.RowKit Go.Proofs.YtopclbeomcggiaaGreat
def szs (B E N k : Nat) : Sz:=⟨2 ^ k,B * 19 ^ k,E + k,N * 3 ^ k⟩
def szF : Sz:=⟨2,18,1,2⟩
def hornB (B E N M : Nat) : Bool:=decide ((⟨1,B,E,N⟩ : Sz).ok) && (List.range (M + 1)).all (fun k=>decide ((szs B E N k).ok)) && (List.range M).all (fun k=>decide (((szs B E N k).mul szF).ok) && decide ((((szs B E N k).mul szF).add ⟨1,B,E,N⟩).le (szs B E N (k + 1)))) && (List.range (M + 1)).all (fun k=>decide ((szs B E N k).le (szs B E N M)))
def sze (s : Sz) (d b e : Nat) : Sz:=⟨s.D * d ^ e,s.B * b ^ e,s.E,s.N⟩
theorem dv_pow {d : Nat} {c : Rat} (h : Dv d c) : ∀ n,Dv (d ^ n) (c ^ n)
 | 0=>by rw [Rat.pow_zero,Nat.pow_zero]; exact ⟨1,by decide +kernel⟩
 | n + 1=>by rw [Rat.pow_succ,Nat.pow_succ]; exact (dv_pow h n).mul h
theorem rabs_pow {b : Nat} {c : Rat} (h : rabs c ≤ (b : Rat)) : ∀ n,rabs (c ^ n) ≤ ((b ^ n : Nat) : Rat)
 | 0=>by rw [Rat.pow_zero,Nat.pow_zero]; decide +kernel
 | n + 1=>by
  rw [Rat.pow_succ,Nat.pow_succ,rabs_mul,Rat.natCast_mul]
  exact rmul_le (rabs_pow h n) h (rabs_nonneg _) Rat.natCast_nonneg
theorem term_eval {s : Sz} {d b e n : Nat} {q c : Rat} (hq : Dv s.D q) (hc : Dv d c) (hb : rabs c ≤ (b : Rat)) (h1 : 1 ≤ b) (hn : n ≤ e) : Dv (s.D * d ^ e) (q * c ^ n) ∧ rabs (q * c ^ n) ≤ rabs q * ((b ^ e : Nat) : Rat):=by
 refine ⟨hq.mul ((dv_pow hc n).dvd (Nat.pow_dvd_pow d hn)),?_⟩
 rw [rabs_mul]
 exact Rat.mul_le_mul_of_nonneg_left (Rat.le_trans (rabs_pow hb n) (Rat.natCast_le_natCast.2 (Nat.pow_le_pow_right h1 hn))) (rabs_nonneg _)
theorem eval_bd {s : Sz} {p : List Trm} {v d b e : Nat} {c : Rat} (h : Pk s p) (he : ∀ t ∈ p,t.1.get v ≤ e) (hc : Dv d c) (hb : rabs c ≤ (b : Rat)) (h1 : 1 ≤ b) : Bd (sze s d b e) (evalL p v c):=by
 have hn : ∀ t ∈ p,(t.1.get v).toNat ≤ e:=fun t ht=>by have:=he t ht; have:=Ex.nat_get (h.v.2 t ht).2 v; omega
 refine ⟨by unfold evalL; rw [List.length_map]; exact h.b.n,fun t ht=>?_,fun t ht=>?_,?_⟩
 ·obtain ⟨u,hu,rfl⟩:=List.mem_map.1 ht
  have:=h.b.e u hu
  show _ ∧ _
  simp only [sze]
  rcases v with _ | _ | _ | v <;> simp only [Ex.put] <;> omega
 ·obtain ⟨u,hu,rfl⟩:=List.mem_map.1 ht
  exact (term_eval (h.b.d u hu) hc hb h1 (hn u hu)).1
 ·have h2 : asum (evalL p v c) ≤ asum p * ((b ^ e : Nat) : Rat):=asum_map_mul fun t ht=>(term_eval (h.b.d t ht) hc hb h1 (hn t ht)).2
  refine Rat.le_trans h2 ?_
  simp only [sze]
  rw [Rat.natCast_mul]
  exact Rat.mul_le_mul_of_nonneg_right h.b.b Rat.natCast_nonneg
end Q
namespace Go.Proofs.YtopclbeomcggiaaGreat
open Go.RowKit Q
variable {w : World} {vp vq : Value} {p f : List Trm}
end Go.Proofs.YtopclbeomcggiaaGreat
end
section
namespace Q
open Go Go.RowKit Go.Proofs.YtopclbeomcggiaaGreat
theorem nodup_inj {l : List Nat} (h : l.Nodup) {i j x : Nat} (hi : l[i]?=some x) (hj : l[j]?=some x) : i=j:=by
 have hil:=(List.getElem?_eq_some_iff.1 hi)
 have hjl:=(List.getElem?_eq_some_iff.1 hj)
 obtain ⟨h1,h2⟩:=hil
 obtain ⟨h3,h4⟩:=hjl
 have hp:=List.pairwise_iff_getElem.1 h
 rcases Nat.lt_trichotomy i j with hlt | heq | hgt
 ·exact absurd (h2.trans h4.symm) (hp i j h1 h3 hlt)
 ·exact heq
 ·exact absurd (h4.trans h2.symm) (hp j i h3 h1 hgt)
theorem Mat.hd {base : Nat} {w : World} {g N : Nat} {bs : List Nat} {M : Mx} (h : Mat base w g N bs M) {i b : Nat} (hb : bs[i]?=some b) : w.cell? ⟨g,i,none⟩=some (hdr N b):=by
 have hi : i < bs.length:=(List.getElem?_eq_some_iff.1 hb).1
 refine h.ob.at1 i _ ?_
 rw [List.getElem?_append_left (by rw [List.length_map]; exact hi),List.getElem?_map,hb]; rfl
theorem Mat.lt {base : Nat} {w : World} {g N : Nat} {bs : List Nat} {M : Mx} (h : Mat base w g N bs M) : g < w.heap.size:=h.ob.lt
theorem Mat.push {base : Nat} {w : World} {g N : Nat} {bs : List Nat} {M : Mx} (h : Mat base w g N bs M) (hn : bs.length < N) {b : Nat} {r : List (List Trm)} (hr : RowAt base w N b r) (hb : b ∉ bs) :
  Mat base (w.setCell ⟨g,bs.length,none⟩ (hdr N b)) g N (bs ++ [b]) (M ++ [r]):=by
 have hl:=setCell_lr (j:=bs.length) h.ob (hdr N b)
 refine ⟨?_,h.gb,by simp [h.len],by simp; omega,fun i b' r' h1 h2=>?_,?_⟩
 ·have h3:=h.ob.set bs.length (hdr N b)
  have e : (bs.map (hdr N) ++ List.replicate (N - bs.length) (Value.slice none 0 0)).set bs.length (hdr N b)=(bs ++ [b]).map (hdr N) ++ List.replicate (N - (bs ++ [b]).length) (Value.slice none 0 0):=by
   obtain ⟨d,hd⟩ : ∃ d,N - bs.length=d + 1:=⟨N - bs.length - 1,by omega⟩
   have hd2 : N - (bs ++ [b]).length=d:=by simp; omega
   rw [hd,hd2,List.set_append_right _ _ (by simp),List.length_map,Nat.sub_self,List.replicate_succ,List.set_cons_zero,List.map_append,List.append_assoc]; rfl
  rw [e] at h3; exact h3
 ·rcases Nat.lt_or_ge i bs.length with hi | hi
  ·rw [List.getElem?_append_left hi] at h1
   rw [List.getElem?_append_left (by rw [h.len]; exact hi)] at h2
   have h4:=h.row i b' r' h1 h2
   exact h4.lr hl (by decide) (by decide) (h4.ne h.ob)
  ·rw [List.getElem?_append_right hi] at h1
   rw [List.getElem?_append_right (by rw [h.len]; exact hi),h.len] at h2
   rcases Nat.eq_zero_or_pos (i - bs.length) with h0 | h0
   ·rw [h0] at h1 h2
    simp only [List.getElem?_cons_zero,Option.some.injEq] at h1 h2
    subst h1; subst h2
    exact hr.lr hl (by decide) (by decide) (hr.ne h.ob)
   ·rw [List.getElem?_eq_none (by simp; omega)] at h1; cases h1
 ·rw [List.nodup_append]
  refine ⟨h.nd,by simp,fun x hx y hy=>?_⟩
  rw [List.mem_singleton.1 hy]; rintro rfl; exact hb hx
theorem Mat.set {base : Nat} {w : World} {g N : Nat} {bs : List Nat} {M : Mx} (h : Mat base w g N bs M) {i b j : Nat} (hb : bs[i]?=some b) (hj : j < N) {v : Value} {q : List Trm} (hq : IsPoly w v q) :
  Mat base (w.setCell ⟨b,j,none⟩ v) g N bs (mset M i j q) ∧ Lr (some b) polyT w (w.setCell ⟨b,j,none⟩ v) ∧ base ≤ b:=by
 have hi : i < bs.length:=(List.getElem?_eq_some_iff.1 hb).1
 have hM : M[i]?=some (M.getD i []):=by rw [List.getD_eq_getElem?_getD,List.getElem?_eq_getElem (by rw [h.len]; exact hi)]; rfl
 have hr:=h.row i b _ hb hM
 obtain ⟨h1,h2⟩:=hr.set hj hq
 refine ⟨⟨h.ob.lr h2 (by simpa using (hr.ne h.ob).symm),h.gb,by rw [mset,List.length_set]; exact h.len,h.le,fun i' b' r' h3 h4=>?_,h.nd⟩,h2,hr.1⟩
 by_cases hii : i=i'
 ·subst hii
  rw [hb] at h3; cases h3
  rw [mset,List.getElem?_set,if_pos rfl,if_pos (by rw [h.len]; exact hi)] at h4
  cases h4; exact h1
 ·rw [mset,List.getElem?_set,if_neg hii] at h4
  refine (h.row i' b' r' h3 h4).lr h2 (by decide) (by decide) ?_
  rintro rfl
  exact hii (nodup_inj h.nd hb h3)
theorem mset_last (M : Mx) (r : List (List Trm)) (j : Nat) (x : List Trm) : mset (M ++ [r]) M.length j x=M ++ [r.set j x]:=by
 unfold mset
 rw [List.getD_eq_getElem?_getD,List.getElem?_append_right (Nat.le_refl _),Nat.sub_self,List.set_append_right _ _ (Nat.le_refl _),Nat.sub_self]; rfl
end Q
namespace Go.Proofs.YtopclbeomcggiaaGreat
open Go.RowKit Q Go.WideMaps Go.Maps
def RetMat (w : World) (N : Nat) (M : Mx) (e : Ending) (w' : World) : Prop:=∃ g bs,e=.returned (.slice (some ⟨g,0,none⟩) N N) ∧ Mat w.heap.size w' g N bs M ∧ Below w.heap.size w w'
set_option maxHeartbeats 4000000 in
set_option maxRecDepth 100000 in
theorem sylvester_any (va vb : Value) (a b : List (List Trm)) (w : World) (ha : IsPolys w va a) (hb : IsPolys w vb b) (la : 1 ≤ a.length) (la2 : a.length ≤ 1001) (lb : 1 ≤ b.length) (lb2 : b.length ≤ 1001) :
  Calls Tryz.prog 76 #[va,vb] w (RetMat w (a.length - 1 + (b.length - 1)) (syl a b)):=by
 obtain ⟨aa,ca,rfl,hca⟩:=ha.shape
 obtain ⟨ab,cb,rfl,hcb⟩:=hb.shape
 obtain ⟨m,hm⟩ : ∃ m,a.length=m + 1:=⟨a.length - 1,by omega⟩
 obtain ⟨n,hn⟩ : ∃ n,b.length=n + 1:=⟨b.length - 1,by omega⟩
 have hrow : ∀ i,sylRow a b (m + n) i=if n ≤ i then sylTo b (i - n) (m + n) b.length else sylTo a i (m + n) a.length:=fun i=>by rw [sylRow,hn,Nat.add_sub_cancel]
 have hsyl : syl a b=(List.range (m + n)).map (sylRow a b (m + n)):=by rw [syl,hm,hn,Nat.add_sub_cancel,Nat.add_sub_cancel]
 rw [hsyl,show a.length - 1 + (b.length - 1)=m + n by omega]
 have hm2 : (a.length : Int) - 1=(m : Int):=by omega
 have hn2 : (b.length : Int) - 1=(n : Int):=by omega
 have hml : m ≤ 1000:=by omega
 have hnl : n ≤ 1000:=by omega
 replace hrow:=Lib.hid hrow
 replace ha:=Lib.hid ha
 replace hb:=Lib.hid hb
 replace hm:=Lib.hid hm
 replace hn:=Lib.hid hn
 clear hsyl
 go_enter Tryz.func76,Tryz.ntmps76
 go_wp2_with (at_make; refine wpList_make_blk rfl _ _ _ rfl rowT (.slice none 0 0) 1 24 Tryz.underlying84 (by kernel_rfl) rfl rfl .i64 .i64 _ _ (m + n) rfl rfl (by omega) (by omega) (by omega) (by omega) ?_; intro w2 own2 gr2)
 have hst : Hid (Mat w.heap.size w2 w.heap.size (m + n) [] ((List.range 0).map (sylRow a b (m + n)))):=Lib.hid ⟨by simpa using (show Blk w2 w.heap.size rowT (List.replicate (m + n) (Value.slice none 0 0)) from own2),Nat.le_refl _,rfl,by simp,fun i b r h=>by simp at h,List.nodup_nil⟩
 generalize hg : w.heap.size=g at hst ⊢
 have hgw : w.heap.size ≤ g:=by omega
 clear own2
 go_loopw [24] (fun i wr=>∃ (k : Nat) (bs : List Nat),k ≤ m + n ∧ i=.int .i64 k ∧ bs.length=k ∧ Hid (Mat w.heap.size wr g (m + n) bs ((List.range k).map (sylRow a b (m + n)))) ∧ Below w.heap.size w wr) (fun i _=>m + n - (intOf i).toNat)
 case atStart=>exact ⟨0,[],by omega,by go_num,rfl,by rw [hg]; exact hst,gr2⟩
 case round =>
  clear hst gr2
  replace hg:=Lib.hid hg
  obtain ⟨k,bs,hk,rfl,hbl,hM,hbr⟩:=hrel
  by_cases hkl : k < m + n
  ·have hkl' : (k : Int) < (m : Int) + (n : Int):=by omega
   have hM0:=hM.out
   have hgl:=hM0.lt
   have hz:=hM0.ob.at1 k (.slice none 0 0) (by rw [List.getElem?_append_right (by rw [List.length_map]; omega),List.length_map,hbl,Nat.sub_self,List.getElem?_replicate,if_pos (by omega)])
   have hf:=hM0.ob.frozen k
   go_upto_region 7 with (first
    | (at_make; refine wpList_make_blk rfl _ _ _ rfl polyT (.slice none 0 0) 1 24 Tryz.underlying75 (by kernel_rfl) rfl rfl .i64 .i64 _ _ (m + n) rfl rfl (by omega) (by omega) (by omega) (by omega) ?_; intro w3 own3 gr3; have hz3:=(hM0.on gr3).ob.at1 k (.slice none 0 0) (by rw [List.getElem?_append_right (by rw [List.length_map]; omega),List.length_map,hbl,Nat.sub_self,List.getElem?_replicate,if_pos (by omega)]); have hf3:=(hM0.on gr3).ob.frozen k)
    | (refine wpList_index_at rfl (.tmp 27) (.tmp 28) _ rfl _ Tryz.underlying84 _ 1 24 (by kernel_rfl) _ _ _ rfl _ _ rfl k rfl hkl g 0 rfl ?_; rw [Nat.mul_one,Nat.zero_add]))
   have hM3:=hM0.on gr3
   have hnin : wr.heap.size ∉ bs:=fun hin=>by
    obtain ⟨i,hi,he⟩:=List.getElem_of_mem hin
    have h1 : bs[i]?=some wr.heap.size:=by rw [List.getElem?_eq_getElem hi,he]
    have h2 : ((List.range k).map (sylRow a b (m + n)))[i]?=some (((List.range k).map (sylRow a b (m + n))).getD i []):=by
     rw [List.getD_eq_getElem?_getD,List.getElem?_eq_getElem (by simp; omega)]; rfl
    have h3:=hM0.row i _ _ h1 h2
    obtain ⟨-,-,-,-,h4⟩:=h3.get (j:=0) (by omega)
    omega
   have hrw : RowAt w.heap.size w3 (m + n) wr.heap.size (List.replicate (m + n) []):=by
    refine ⟨hbr.size,by simp,List.replicate (m + n) (.slice none 0 0),⟨own3,by simp,fun i v p h1 h2=>?_⟩,by simp⟩
    rw [rep_get h1,rep_get h2]; exact IsSl.nil _ _
   have hpush:=hM3.push (by omega) hrw hnin
   rw [hbl] at hpush
   have hb4:=(hbr.trans (gr3.mono hbr.size)).trans (setCell_below (W:=w3) (g:=g) (j:=k) hgw (hdr (m + n) wr.heap.size))
   have hst0 : Hid (Mat w.heap.size (w3.setCell ⟨g,k,none⟩ (hdr (m + n) wr.heap.size)) g (m + n) (bs ++ [wr.heap.size]) ((List.range k).map (sylRow a b (m + n)) ++ [List.replicate (m + n) []])):=Lib.hid hpush
   obtain ⟨gb,hgb⟩ : ∃ gb,gb=wr.heap.size:=⟨_,rfl⟩
   rw [← hgb] at hst0 hb4 ⊢
   obtain ⟨W4,hW4⟩ : ∃ W4,W4=w3.setCell ⟨g,k,none⟩ (hdr (m + n) gb):=⟨_,rfl⟩
   rw [← hW4] at hst0 hb4
   change Code.wp _ _ _ _ (w3.setCell ⟨g,k,none⟩ (hdr (m + n) gb))
   rw [← hW4]
   clear hM hM0 hM3 hz hf own3 gr3 hz3 hf3 hnin hrw hpush hW4 hgb hgl hbr
   go_upto_if 38 with (fail)
   go_cut [9,10,39,40,41,42] (fun vl vt _ _ _ _ wc=>∃ (l : List (List Trm)) (t : Nat),vt=.int .i64 t ∧ Hid (IsPolys w vl l) ∧ Hid (sylRow a b (m + n) k=sylTo l t (m + n) l.length) ∧ 1 ≤ l.length ∧ l.length ≤ 1001 ∧ t + l.length ≤ m + n ∧ Hid (Mat w.heap.size wc g (m + n) (bs ++ [gb]) ((List.range k).map (sylRow a b (m + n)) ++ [List.replicate (m + n) []])) ∧ Below w.heap.size w wc)
   case first =>
    by_cases hnk : n ≤ k
    ·have hnk' : (n : Int) ≤ (k : Int):=by omega
     obtain ⟨t,ht⟩ : ∃ t,t=k - n:=⟨_,rfl⟩
     have ht2 : (k : Int) - (n : Int)=(t : Int):=by omega
     have hr9:=Lib.hid (hrow.out k)
     replace ht:=Lib.hid ht
     go_wp2
     go_meet
     case rel=>exact ⟨b,t,rfl,hb,Lib.hid (by rw [hr9.out,if_pos hnk,ht.out]),lb,lb2,by have:=ht.out; have:=hn.out; omega,hst0,hb4⟩
    ·have hnk' : ¬ (n : Int) ≤ (k : Int):=by omega
     have hr9:=Lib.hid (hrow.out k)
     go_wp2
     go_meet
     case rel=>exact ⟨a,k,rfl,ha,Lib.hid (by rw [hr9.out,if_neg (by omega)]),la,la2,by have:=hm.out; omega,hst0,hb4⟩
   case rest =>
    clear hst0 hb4
    obtain ⟨l,t,rfl,hl,hsr,ll,ll2,htl,hM,hbc⟩:=hcut
    obtain ⟨al,cl,rfl,-⟩:=hl.out.shape
    go_wp2
    go_loopw [45] (fun i wz=>∃ j : Nat,j ≤ l.length ∧ i=.int .i64 j ∧ Hid (Mat w.heap.size wz g (m + n) (bs ++ [gb]) ((List.range k).map (sylRow a b (m + n)) ++ [sylTo l t (m + n) j])) ∧ Below w.heap.size w wz) (fun i _=>l.length - (intOf i).toNat)
    case atStart=>exact ⟨0,by omega,by go_num,hM,hbc⟩
    case round =>
     clear hM hbc
     obtain ⟨j,hj,rfl,hM,hbz⟩:=hrel
     by_cases hjl : j < l.length
     ·have hjq : l[j]?=some l[j]:=List.getElem?_eq_getElem hjl
      have hgd : l.getD j []=l[j]:=by rw [List.getD_eq_getElem?_getD,hjq]; rfl
      have hl0:=hl.out.on hbz
      generalize l[j]=c at *
      obtain ⟨bl,ol,vc,rfl,hvc,hC⟩:=cell_poly hl0 hjq
      have hvs:=IsSl.shape hvc
      obtain ⟨p,hp⟩ : ∃ p,p=t + l.length - 1 - j:=⟨_,rfl⟩
      have hpi : (t : Int) + (l.length : Int) - 1 - (j : Int)=(p : Int):=by omega
      have hpN : p < m + n:=by omega
      have hM0:=hM.out
      have hbk : (bs ++ [gb])[k]?=some gb:=by rw [List.getElem?_append_right (by omega),hbl,Nat.sub_self]; rfl
      have hlen9 : ((List.range k).map (sylRow a b (m + n))).length=k:=by simp
      have hsucc : Hid ((List.range k).map (sylRow a b (m + n)) ++ [sylTo l t (m + n) (j + 1)]=mset ((List.range k).map (sylRow a b (m + n)) ++ [sylTo l t (m + n) j]) k p c):=Lib.hid (by
       have h1:=mset_last ((List.range k).map (sylRow a b (m + n))) (sylTo l t (m + n) j) p c
       rw [hlen9] at h1
       rw [h1,sylTo,← hp,hgd])
      have hhd : ∀ W,Below wr.heap.size wr W → W.cell? ⟨g,k,none⟩=some (.slice (some ⟨gb,0,none⟩) (m + n) (m + n)):=fun W hb=>(hM0.on hb).hd hbk
      have hcc : ∀ W,Below wr.heap.size wr W → W.cell? ⟨bl,ol + j,none⟩=some vc:=fun W hb=>by
       have h1:=(hC.on hb).cell 0 (by simp)
       simpa using h1
      have hll : (l.length : Int) ≤ 1001:=by omega
      have htN : (t : Int) ≤ 2000:=by omega
      replace hhd:=Lib.hid hhd
      replace hcc:=Lib.hid hcc
      replace hp:=Lib.hid hp
      clear hC hjq hgd hlen9 hsr
      go_upto_region 13 with (fail)
      refine wp_region_L mixed (none) (0) (Okr.none) [.eq (.slice (some ⟨g,0,none⟩) (m + n) (m + n)),.eq (.int .i64 k),.eq (.pointer (some ⟨g,0 + k * 1,none⟩)),.eq (.slice (some ⟨gb,0,none⟩) (m + n) (m + n)),.eq (.int .i64 t),.eq (.slice (some ⟨bl,ol,none⟩) l.length cl),.eq (.int .i64 l.length),.eq (.int .i64 ((t : Int) + l.length)),.eq (.int .i64 ((t : Int) + l.length - 1)),.eq (.int .i64 j),.eq (.int .i64 p),.eq (.slice (some ⟨bl,ol,none⟩) l.length cl),.eq (.int .i64 j),.eq (.pointer (some ⟨bl,ol + j * 1,none⟩)),.eq (vc),.eq (.pointer (some ⟨gb,0 + p * 1,none⟩))] [48,49,50,51,52,53,54,55,56,57,58,59,60,61,62,63] rfl rfl rfl rfl ⟨?_,?_,?_,?_,?_,?_,?_,?_,?_,?_,?_,?_,?_,?_,?_,?_,trivial⟩ ?_
      ·exact fun A w1 hA hL hS he=>goOn_plain rfl (stepG_mv rfl rfl (hA 7 rfl))
      ·exact fun A w1 hA hL hS he=>goOn_plain rfl (stepG_mv rfl rfl (hA 8 rfl))
      ·intro A w1 hA hL hS he
       have h48 : A.eval (.tmp 48)=_:=he.1 rfl
       have h49 : A.eval (.tmp 49)=_:=he.2.1 rfl
       refine goOn_plain rfl ?_
       exact stepG_pure rfl rfl (execOp_index rfl (by rw [h48,h49]; exact run_index Tryz.underlying84 (by kernel_rfl) w1 g 0 _ _ k .i64 _ (by first | rfl | simp | omega) (hkl)))
      ·intro A w1 hA hL hS he
       have h50 : A.eval (.tmp 50)=_:=he.1 rfl
       refine goOn_plain rfl ?_
       have c0:=hhd.out w1 hL.below
       refine stepG_pure rfl rfl ?_
       generalize A.eval=ev at *
       go_simp
      ·exact fun A w1 hA hL hS he=>goOn_plain rfl (stepG_mv rfl rfl (hA 10 rfl))
      ·exact fun A w1 hA hL hS he=>goOn_plain rfl (stepG_mv rfl rfl (hA 9 rfl))
      ·intro A w1 hA hL hS he
       have h53 : A.eval (.tmp 53)=_:=he.1 rfl
       refine goOn_plain rfl (stepG_pure rfl rfl ?_)
       generalize A.eval=ev at *
       go_simp
      ·intro A w1 hA hL hS he
       have h52 : A.eval (.tmp 52)=_:=he.1 rfl
       have h54 : A.eval (.tmp 54)=_:=he.2.1 rfl
       refine goOn_plain rfl (stepG_pure rfl rfl ?_)
       generalize A.eval=ev at *
       go_simp
       exact wrap64 (by omega) (by omega)
      ·intro A w1 hA hL hS he
       have h55 : A.eval (.tmp 55)=_:=he.1 rfl
       have hc0 : A.eval (.const (.int .i64 1))=.int .i64 1:=rfl
       refine goOn_plain rfl (stepG_pure rfl rfl ?_)
       generalize A.eval=ev at *
       go_simp
       exact wrap64 (by omega) (by omega)
      ·exact fun A w1 hA hL hS he=>goOn_plain rfl (stepG_mv rfl rfl (hA 11 rfl))
      ·intro A w1 hA hL hS he
       have h56 : A.eval (.tmp 56)=_:=he.1 rfl
       have h57 : A.eval (.tmp 57)=_:=he.2.1 rfl
       refine goOn_plain rfl (stepG_pure rfl rfl ?_)
       generalize A.eval=ev at *
       go_simp
       (first | exact wrap64 (by omega) (by omega) | (rw [hpi]; exact wrap64 (by omega) (by omega)))
      ·exact fun A w1 hA hL hS he=>goOn_plain rfl (stepG_mv rfl rfl (hA 9 rfl))
      ·exact fun A w1 hA hL hS he=>goOn_plain rfl (stepG_mv rfl rfl (hA 11 rfl))
      ·intro A w1 hA hL hS he
       have h59 : A.eval (.tmp 59)=_:=he.1 rfl
       have h60 : A.eval (.tmp 60)=_:=he.2.1 rfl
       refine goOn_plain rfl ?_
       exact stepG_pure rfl rfl (execOp_index rfl (by rw [h59,h60]; exact run_index Tryz.underlying75 (by kernel_rfl) w1 bl ol _ _ j .i64 _ (by first | rfl | simp | omega) (hjl)))
      ·intro A w1 hA hL hS he
       have h61 : A.eval (.tmp 61)=_:=he.1 rfl
       refine goOn_plain rfl ?_
       have c0:=hcc.out w1 hL.below
       refine stepG_pure rfl rfl ?_
       generalize A.eval=ev at *
       go_simp
      ·intro A w1 hA hL hS he
       have h51 : A.eval (.tmp 51)=_:=he.1 rfl
       have h58 : A.eval (.tmp 58)=_:=he.2.1 rfl
       refine goOn_plain rfl ?_
       exact stepG_pure rfl rfl (execOp_index rfl (by rw [h51,h58]; exact run_index Tryz.underlying75 (by kernel_rfl) w1 gb 0 _ _ p .i64 _ (by first | rfl | simp | omega) (hpN)))
      ·intro W5 hL5
       have hb5:=hL5.below
       simp only [TailL,FactL.eq,List.length_cons,List.length_nil,List.drop_succ_cons,List.drop_zero]
       go_frame
       have hM5:=hM0.on hb5
       have hrk:=hM5.row k gb _ hbk (show ((List.range k).map (sylRow a b (m + n)) ++ [sylTo l t (m + n) j])[k]?=some (sylTo l t (m + n) j) by rw [List.getElem?_append_right (by simp),List.length_map,List.length_range,Nat.sub_self]; rfl)
       obtain ⟨vo,-,z5,f5,-⟩:=hrk.get hpN
       obtain ⟨hM6,hl6,hgb6⟩:=hM5.set hbk hpN (hvc.on hb5)
       have hMs : Hid (Mat w.heap.size (W5.setCell ⟨gb,p,none⟩ vc) g (m + n) (bs ++ [gb]) ((List.range k).map (sylRow a b (m + n)) ++ [sylTo l t (m + n) (j + 1)])):=Lib.hid (by rw [hsucc.out]; exact hM6)
       have hb6:=(hbz.trans (hb5.mono hbz.size)).trans (setCell_below (W:=W5) (g:=gb) (j:=p) hgb6 vc)
       clear hM5 hrk hM6 hl6 hM0 hM hl0 hhd hcc hL5 hsucc hvc
       obtain ⟨ac,cc,rfl,-⟩:=hvs
       go_wp2
       go_roundw
       case rel=>exact ⟨j + 1,by omega,by go_num,hMs,hb6⟩
       case measure=>simp [intOf]; omega
     ·obtain rfl : j=l.length:=by omega
      have hM2 : Hid (Mat w.heap.size wr g (m + n) (bs ++ [gb]) ((List.range (k + 1)).map (sylRow a b (m + n)))):=Lib.hid (by
       rw [List.range_succ,List.map_append,List.map_cons,List.map_nil,hsr.out]; exact hM.out)
      clear hM hl hsr
      go_wp2
      go_roundw
      case rel=>exact ⟨k + 1,bs ++ [gb],by omega,by go_num,by simp; omega,hM2,hbz⟩
      case measure=>simp [intOf]; omega
  ·obtain rfl : k=m + n:=by omega
   go_wp2
   go_ret
   exact ⟨g,bs,rfl,hM.out,hbr⟩
end Go.Proofs.YtopclbeomcggiaaGreat
end
