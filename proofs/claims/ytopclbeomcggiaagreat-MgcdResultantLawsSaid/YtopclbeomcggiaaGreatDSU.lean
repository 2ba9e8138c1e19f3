/- The resultant for a first polynomial of degree at most 2: its value at numbers. No program in sight. -/
import Derived.Test.YtopclbeomcggiaaGreatD34
set_option linter.unusedVariables false
set_option linter.unusedSimpArgs false
namespace Q
open Go Go.Proofs.YtopclbeomcggiaaGreat
def sL (x : Pt) (g : Nat → Rat) (l : List (List Trm)) : Rat:=rsum (fun i=>ev x (l.getD i []) * g i) l.length
theorem sL_cons (x : Pt) (g : Nat → Rat) (c : List Trm) (l : List (List Trm)) : sL x g (c :: l)=ev x c * g 0 + sL x (fun i=>g (i + 1)) l:=by
 unfold sL
 rw [List.length_cons,rsum_head]; rfl
theorem sL_lin (x : Pt) (g h : Nat → Rat) (c d : Rat) : ∀ l,sL x (fun i=>c * g i + d * h i) l=c * sL x g l + d * sL x h l:=by
 have : ∀ (f : Nat → Rat) n,rsum (fun i=>f i * (c * g i + d * h i)) n=c * rsum (fun i=>f i * g i) n + d * rsum (fun i=>f i * h i) n:=by
  intro f n
  induction n with
  | zero=>simp only [rsum]; grind
  | succ n ih=>rw [rsum_succ,rsum_succ,rsum_succ,ih]; grind
 exact fun l=>this _ _
theorem sL_congr (x : Pt) {g h : Nat → Rat} (e : ∀ i,g i=h i) (l : List (List Trm)) : sL x g l=sL x h l:=by rw [show g=h from funext e]
section
variable (a0 a1 a2 : List Trm)
def piP : Nat → List Trm
 | 0=>constP 2
 | 1=>subP [] a1
 | k + 2=>subP (subP [] (mulP a1 (piP (k + 1)))) (mulP (mulP a0 a2) (piP k))
def tP (n : Nat) : Nat → List (List Trm) → List Trm
 | _,[]=>[]
 | k,b :: l=>addP (mulP b (mulP (powP a2 (n - k)) (piP a0 a1 a2 k))) (tP n (k + 1) l)
def dP : List (List Trm) → List Trm
 | []=>[]
 | b :: l=>addP (addP (mulP (powP a2 l.length) (mulP b b)) (mulP b (tP a0 a1 a2 l.length 1 l))) (mulP a0 (dP l))
end
def tau (c1 c0 : Rat) (k : Nat) : Rat:=2 * (gq c1 c0 k).2 - c1 * (gq c1 c0 k).1
section
variable {u : Nat} {a0 a1 a2 : List Trm}
theorem pi_en (hu : u < 4) (h0 : En u 15 2 a0) (h1 : En u 15 2 a1) (h2 : En u 15 2 a2) : ∀ k,En u (2 * 30 ^ k) (2 * k) (piP a0 a1 a2 k)
 | 0=>by
  refine ⟨Vld.const _,fun t ht=>?_,show asum [(e0,2)] ≤ ((2 : Nat) : Rat) by decide +kernel,fun t ht=>?_,fun t ht x _ _=>?_⟩
  ·rw [show t=(e0,(2 : Rat)) from List.mem_singleton.1 (show t ∈ [(e0,(2 : Rat))] from ht)]; exact Dv.int 1 2
  ·rw [show t=(e0,(2 : Rat)) from List.mem_singleton.1 (show t ∈ [(e0,(2 : Rat))] from ht)]
   rcases u with _ | _ | _ | u <;> simp [Ex.get,e0]
  ·rw [show t=(e0,(2 : Rat)) from List.mem_singleton.1 (show t ∈ [(e0,(2 : Rat))] from ht)]
   rcases x with _ | _ | _ | x <;> rfl
 | 1=>((En.nil u 0 0).sub h1 hu).mono (by omega) (by omega)
 | k + 2=>by
  have i1:=pi_en hu h0 h1 h2 (k + 1)
  have i0:=pi_en hu h0 h1 h2 k
  have:=((En.nil u 0 0).sub (h1.mul i1 hu) hu).sub ((h0.mul h2 hu).mul i0 hu) hu
  refine this.mono ?_ (by omega)
  rw [Nat.pow_succ,Nat.pow_succ]; omega
theorem t_en (hu : u < 4) (h0 : En u 15 2 a0) (h1 : En u 15 2 a1) (h2 : En u 15 2 a2) (n : Nat) : ∀ (l : List (List Trm)) (k : Nat),(∀ b ∈ l,En u 225 4 b) → k + l.length=n + 1 → En u (l.length * (450 * 30 ^ n)) (4 + 2 * n) (tP a0 a1 a2 n k l)
 | [],_,_,_=>(En.nil u 0 0).mono (by omega) (by omega)
 | b :: l,k,hb,hk=>by
  rw [List.length_cons] at hk
  have i1:=t_en hu h0 h1 h2 n l (k + 1) (fun c hc=>hb c (by simp [hc])) (by omega)
  have i2:=(hb b (by simp)).mul ((powP_en h2 hu (n - k)).mul (pi_en hu h0 h1 h2 k) hu) hu
  have i3:=i2.add i1 hu
  rw [tP]
  refine i3.mono ?_ (by omega)
  rw [List.length_cons,Nat.add_mul,Nat.one_mul,Nat.add_comm]
  refine Nat.add_le_add_left ?_ _
  have e1 : 15 ^ (n - k) * 30 ^ k ≤ 30 ^ n:=by
   have : 30 ^ n=30 ^ (n - k) * 30 ^ k:=by rw [← Nat.pow_add]; congr 1; omega
   rw [this]
   exact Nat.mul_le_mul_right _ (Nat.pow_le_pow_left (by omega) _)
  calc 225 * (15 ^ (n - k) * (2 * 30 ^ k))=450 * (15 ^ (n - k) * 30 ^ k):=by grind
   _ ≤ 450 * 30 ^ n:=Nat.mul_le_mul_left _ e1
def dB : Nat → Nat
 | 0=>0
 | n + 1=>15 ^ n * (225 * 225) + 225 * (n * (450 * 30 ^ n)) + 15 * dB n
theorem d_en (hu : u < 4) (h0 : En u 15 2 a0) (h1 : En u 15 2 a1) (h2 : En u 15 2 a2) : ∀ (l : List (List Trm)),(∀ b ∈ l,En u 225 4 b) → En u (dB l.length) (8 + 2 * l.length) (dP a0 a1 a2 l)
 | [],_=>(En.nil u 0 0).mono (by omega) (by omega)
 | b :: l,hb=>by
  have i1:=d_en hu h0 h1 h2 l fun c hc=>hb c (by simp [hc])
  have hb1:=hb b (by simp)
  have i2:=t_en hu h0 h1 h2 l.length l 1 (fun c hc=>hb c (by simp [hc])) (by omega)
  have i3:=(((powP_en h2 hu l.length).mul (hb1.mul hb1 hu) hu).add (hb1.mul i2 hu) hu).add (h0.mul i1 hu) hu
  rw [dP,List.length_cons]
  exact i3.mono (Nat.le_refl _) (by omega)
theorem ev_two (x : Pt) : ev x (constP 2)=2:=ev_const x 2
theorem pi_ev (hu : u < 4) (h0 : En u 15 2 a0) (h1 : En u 15 2 a1) (h2 : En u 15 2 a2) (x : Pt) {c1 c0 : Rat} (e1 : ev x a1=c1 * ev x a2) (e0 : ev x a0=c0 * ev x a2) : ∀ k,ev x (piP a0 a1 a2 k)=ev x a2 ^ k * tau c1 c0 k
 | 0=>by rw [piP,ev_two,Rat.pow_zero]; simp only [tau,gq]; grind
 | 1=>by
  rw [piP,ev_sub x Vld.nil.nat h1.v,ev_nil,e1]; simp only [tau,gq]
  rw [show ev x a2 ^ 1=ev x a2 by rw [Rat.pow_succ,Rat.pow_zero]; grind]; grind
 | k + 2=>by
  have i1:=pi_ev hu h0 h1 h2 x e1 e0 (k + 1)
  have i0:=pi_ev hu h0 h1 h2 x e1 e0 k
  have v1:=(pi_en hu h0 h1 h2 (k + 1)).v
  have v0:=(pi_en hu h0 h1 h2 k).v
  rw [piP,ev_sub x (Vld.sub _ _).nat (Vld.mul _ _),ev_sub x Vld.nil.nat (Vld.mul _ _),ev_mul x h1.v.nat v1.nat,ev_mul x (Vld.mul _ _).nat v0.nat,ev_mul x h0.v.nat h2.v.nat,i1,i0,ev_nil,e1,e0]
  have p1 : ev x a2 ^ (k + 1)=ev x a2 ^ k * ev x a2:=Rat.pow_succ _ _
  have p2 : ev x a2 ^ (k + 2)=ev x a2 ^ k * ev x a2 * ev x a2:=by rw [Rat.pow_succ,Rat.pow_succ]
  rw [p1,p2]
  have t2 : tau c1 c0 (k + 2)=- (c1 * tau c1 c0 (k + 1)) - c0 * tau c1 c0 k:=by simp only [tau,gq]; grind
  rw [t2]; grind
theorem t_ev (hu : u < 4) (h0 : En u 15 2 a0) (h1 : En u 15 2 a1) (h2 : En u 15 2 a2) (x : Pt) {c1 c0 : Rat} (e1 : ev x a1=c1 * ev x a2) (e0 : ev x a0=c0 * ev x a2) (n : Nat) : ∀ (l : List (List Trm)) (k : Nat),(∀ b ∈ l,Vld b) → k + l.length=n + 1 →
  Vld (tP a0 a1 a2 n k l) ∧ ev x (tP a0 a1 a2 n k l)=ev x a2 ^ n * sL x (fun i=>tau c1 c0 (i + k)) l
 | [],_,_,_=>⟨Vld.nil,by show (0 : Rat)=_ * 0; grind⟩
 | b :: l,k,hb,hk=>by
  rw [List.length_cons] at hk
  obtain ⟨i1,i2⟩:=t_ev hu h0 h1 h2 x e1 e0 n l (k + 1) (fun c hc=>hb c (by simp [hc])) (by omega)
  have vb:=hb b (by simp)
  refine ⟨Vld.add _ _,?_⟩
  rw [tP,ev_add x (Vld.mul _ _).nat i1.nat,ev_mul x vb.nat (Vld.mul _ _).nat,ev_mul x (Vld.pow _ _).nat (pi_en hu h0 h1 h2 k).v.nat,ev_pow x h2.v.nat,pi_ev hu h0 h1 h2 x e1 e0,i2,sL_cons]
  rw [sL_congr x (g:=fun i=>tau c1 c0 (i + 1 + k)) (h:=fun i=>tau c1 c0 (i + (k + 1))) fun i=>by rw [show i + 1 + k=i + (k + 1) by omega]]
  have p : ev x a2 ^ n=ev x a2 ^ (n - k) * ev x a2 ^ k:=by rw [← rpow_add]; congr 1; omega
  rw [p,Nat.zero_add]; grind
theorem d_ev (hu : u < 4) (h0 : En u 15 2 a0) (h1 : En u 15 2 a1) (h2 : En u 15 2 a2) (x : Pt) {c1 c0 : Rat} (e1 : ev x a1=c1 * ev x a2) (e0 : ev x a0=c0 * ev x a2) : ∀ (l : List (List Trm)),(∀ b ∈ l,Vld b) →
  Vld (dP a0 a1 a2 l) ∧ ev x (dP a0 a1 a2 l) * ev x a2=ev x a2 ^ l.length * nrm c1 c0 (sL x (fun i=>(gq c1 c0 i).1) l) (sL x (fun i=>(gq c1 c0 i).2) l)
 | [],_=>⟨Vld.nil,by show (0 : Rat) * _=_ * nrm c1 c0 0 0; unfold nrm; grind⟩
 | b :: l,hb=>by
  obtain ⟨i1,i2⟩:=d_ev hu h0 h1 h2 x e1 e0 l fun c hc=>hb c (by simp [hc])
  obtain ⟨i3,i4⟩:=t_ev hu h0 h1 h2 x e1 e0 l.length l 1 (fun c hc=>hb c (by simp [hc])) (by omega)
  have vb:=hb b (by simp)
  refine ⟨Vld.add _ _,?_⟩
  rw [dP,ev_add x (Vld.add _ _).nat (Vld.mul _ _).nat,ev_add x (Vld.mul _ _).nat (Vld.mul _ _).nat,ev_mul x (Vld.pow _ _).nat (Vld.mul _ _).nat,ev_mul x vb.nat vb.nat,ev_mul x vb.nat i3.nat,ev_mul x h0.v.nat i1.nat,ev_pow x h2.v.nat,i4,e0,List.length_cons,sL_cons,sL_cons]
  rw [sL_congr x (g:=fun i=>tau c1 c0 (i + 1)) (h:=fun i=>(c1 * c1 - 2 * c0) * (gq c1 c0 i).1 + (-c1) * (gq c1 c0 i).2) fun i=>by simp only [tau,gq]; grind]
  rw [sL_congr x (g:=fun i=>(gq c1 c0 (i + 1)).1) (h:=fun i=>(-c1) * (gq c1 c0 i).1 + 1 * (gq c1 c0 i).2) fun i=>by simp only [gq]; grind]
  rw [sL_congr x (g:=fun i=>(gq c1 c0 (i + 1)).2) (h:=fun i=>(-c0) * (gq c1 c0 i).1 + 0 * (gq c1 c0 i).2) fun i=>by simp only [gq]; grind]
  rw [sL_lin,sL_lin,sL_lin,show ev x a2 ^ (l.length + 1)=ev x a2 ^ l.length * ev x a2 from Rat.pow_succ _ _]
  simp only [gq]
  generalize sL x (fun i=>(gq c1 c0 i).1) l=P at *
  generalize sL x (fun i=>(gq c1 c0 i).2) l=S at *
  generalize ev x (dP a0 a1 a2 l)=D at *
  generalize ev x a2 ^ l.length=W at *
  clear i1 i3 i4 h0 h1 h2 e1 e0 vb hb
  unfold nrm at *
  have : (W * (ev x b * ev x b) + ev x b * (W * ((c1 * c1 - 2 * c0) * P + -c1 * S)) + c0 * ev x a2 * D) * ev x a2=(W * (ev x b * ev x b) + ev x b * (W * ((c1 * c1 - 2 * c0) * P + -c1 * S))) * ev x a2 + c0 * ev x a2 * (D * ev x a2):=by grind
  rw [this,i2]; grind
end
end Q
