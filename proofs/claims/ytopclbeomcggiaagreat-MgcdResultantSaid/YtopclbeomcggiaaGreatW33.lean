/- Sylvester's matrix: its elements; the elimination by the rows of the first polynomial. No program in sight. -/
import Derived.Test.YtopclbeomcggiaaGreatW32
set_option linter.unusedVariables false
set_option linter.unusedSimpArgs false
set_option maxHeartbeats 16000000
set_option maxRecDepth 100000
section
namespace Q
open Go Go.Proofs.YtopclbeomcggiaaGreat
def iJ (l:List (List ai)) (at_ j:Nat):List ai:=if at_<=j/\j<at_+l.length then l.getD (at_+l.length-1-j) [] else []
theorem yC (l:List (List ai)) (at_ N:Nat) (h:at_+l.length<=N):∀ k j,k<=l.length->j<N->(jq l at_ N k).getD j []=if at_+l.length-k<=j/\j<at_+l.length then l.getD (at_+l.length-1-j) [] else []
 | 0,j,_,hj=>by
  rw [jq,List.getD_eq_getElem?_getD,List.getElem?_replicate,if_pos hj,if_neg (by omega)];rfl
 | k+1,j,hk,hj=>by
  rw [jq,uz _ _ _ _ _ (by rw [nY];omega),yC l at_ N h k j (by omega) hj];by_cases h1:j=at_+l.length-1-k
  ·rw [if_pos h1,if_pos ⟨by omega,by omega⟩];congr 1;omega
  ·rw [if_neg h1];by_cases h2:at_+l.length-k<=j/\j<at_+l.length
   ·rw [if_pos h2,if_pos ⟨by omega,h2.2⟩]
   ·rw [if_neg h2,if_neg (by omega)]
theorem Ev {l:List (List ai)} {at_ N j:Nat} (h:at_+l.length<=N) (hj:j<N):(jq l at_ N l.length).getD j []=iJ l at_ j:=by
 rw [yC l at_ N h _ j (Nat.le_refl _) hj,iJ,Nat.add_sub_cancel]
def gz (a b:List (List ai)) (n i j:Nat):List ai:=if n<=i then iJ b (i-n) j else iJ a i j
theorem ML {a b:List (List ai)} {m n:Nat} (ha:a.length=m+1) (hb:b.length=n+1):zP (m+n) (vJ a b) (gz a b n):=by
 have e:a.length-1+(b.length-1)=m+n:=by omega
 have hsy:vJ a b=(List.range (m+n)).map (dJ a b (m+n)):=by rw [vJ,e]
 refine⟨by rw [hsy];simp,fun r hr=>?_,fun i j hi hj=>?_⟩
 ·rw [hsy] at hr;obtain⟨i,-,rfl⟩:=List.mem_map.1 hr;unfold dJ;split <;> exact nY _ _ _ _
 ·have h1:(vJ a b).getD i []=dJ a b (m+n) i:=by
   rw [hsy,List.getD_eq_getElem?_getD,List.getElem?_map,List.getElem?_range hi];rfl
  unfold gI;rw [h1,dJ,gz,show b.length-1=n by omega];by_cases h2:n<=i
  ·rw [if_pos h2,if_pos h2];exact Ev (by omega) hj
  ·rw [if_neg h2,if_neg h2];exact Ev (by omega) hj
def Ew (a:List (List ai)) (am:List ai) (k:Nat) (F:Nat->Nat->List ai) (i j:Nat):List ai:=if k<i/\k<j then dK (aQ am (F i j)) (aQ (F i k) (iJ a k j)) else F i j
def FF (a:List (List ai)) (am:List ai) (F:Nat->Nat->List ai):Nat->Nat->Nat->List ai
 | 0=>F
 | k+1=>Ew a am k (FF a am F k)
theorem uA {u α ε:Nat} {p:List ai} (h:En u α ε p) (hu:u<4):∀ k,En u (α ^ k) (ε*k) (mf p k)
 | 0=>by
  have:=En.one u;rw [Nat.pow_zero,Nat.mul_zero];exact this
 | k+1=>by
  rw [Nat.pow_succ,Nat.mul_add,Nat.mul_one];exact (uA h hu k).mul h hu
structure Sy (u α γ ε m n:Nat) (a b:List (List ai)) (am:List ai):Prop where
 u4:u<4
 la:a.length=m+1
 lb:b.length=n+1
 ld:am=a.getD m []
 ne:am≠[]
 ea:∀ i j,En u α 2 (iJ a i j)
 eb:∀ i j,En u γ ε (iJ b i j)
 em:En u α 2 am
 ag:α<=γ
 e2:2<=ε
section
variable {u α γ ε m n:Nat} {a b:List (List ai)} {am:List ai}
theorem yD (h:Sy u α γ ε m n a b am) (k:Nat):iJ a k k=am:=by
 rw [iJ,if_pos ⟨Nat.le_refl _,by have:=h.la;omega⟩,h.ld];congr 1;have:=h.la;omega
theorem Q6 {i k:Nat} (h:k<i):iJ a i k=[]:=by rw [iJ,if_neg (by omega)]
theorem wY (h:Sy u α γ ε m n a b am):∀ k i j,En u ((2*α) ^ k*γ) (2*k+ε) (FF a am (gz a b n) k i j)
 | 0,i,j=>by
  rw [FF,Nat.pow_zero,Nat.one_mul,Nat.mul_zero,Nat.zero_add,gz];split
  ·exact h.eb _ _
  ·exact (h.ea _ _).mono h.ag h.e2
 | k+1,i,j=>by
  have ih:=wY h k;rw [FF,Ew];have e1:(2*α) ^ (k+1)*γ=α*((2*α) ^ k*γ)+(2*α) ^ k*γ*α:=by rw [Nat.pow_succ];grind
  split
  ·refine ((h.em.mul (ih i j) h.u4).sub ((ih i k).mul (h.ea k j) h.u4) h.u4).mono (by rw [e1];exact Nat.le_refl _) (by omega)
  ·refine (ih i j).mono ?_ (by omega);by_cases h0:α=0
   ·-- am would be 0
    exfalso;have h1:=h.em.b;obtain⟨t,ht⟩:=List.exists_mem_of_ne_nil _ h.ne;have h2:=sF ht;have h3:=(h.em.v.2 t ht).1;have h4:=eu t.2;rw [h0] at h1
    have h5:bH t.2=0:=by
     have:((0:Nat):Rat)=0:=rfl;grind
    unfold bH at h5;split at h5 <;> grind
   ·rw [Nat.pow_succ];have:(2*α) ^ k*1<=(2*α) ^ k*(2*α):=Nat.mul_le_mul_left _ (by omega);rw [Nat.mul_one] at this;exact Nat.mul_le_mul_right _ this
theorem zQ (h:Sy u α γ ε m n a b am):∀ k i j,k<=i->i<n->k<=j->FF a am (gz a b n) k i j=aQ (mf am k) (iJ a i j)
 | 0,i,j,_,hi,_=>by
  rw [FF,gz,if_neg (by omega)];refine kH (h.ea i j).v (aV.mul _ _) fun x=>?_;rw [ev_mul x (aV.pow _ _).nat (h.ea i j).v.nat,ev_pow x h.em.v.nat];grind
 | k+1,i,j,hk,hi,hj=>by
  have e1:=zQ h k i j (by omega) hi (by omega);have e2:=zQ h k i k (by omega) hi (Nat.le_refl _);rw [FF,Ew,if_pos ⟨by omega,by omega⟩,e1,e2,Q6 (show k<i by omega)];refine kH (aV.sub _ _) (aV.mul _ _) fun x=>?_;rw [ev_sub x (aV.mul _ _).nat (aV.mul _ _),ev_mul x h.em.v.nat (aV.mul _ _).nat,ev_mul x (aV.mul _ _).nat (h.ea k j).v.nat,ev_mul x (aV.pow _ _).nat (h.ea i j).v.nat,ev_mul x (aV.pow _ _).nat (h.ea i j).v.nat,ev_mul x (aV.pow _ _).nat aV.nil.nat,ev_pow x h.em.v.nat,ev_pow x h.em.v.nat,di];rw [show ev x am ^ (k+1)=ev x am ^ k*ev x am from Rat.pow_succ _ _];grind
theorem KN (h:Sy u α γ ε m n a b am) {k:Nat} (hk:k<n):FF a am (gz a b n) k k k=mf am (k+1):=by
 rw [zQ h k k k (Nat.le_refl _) hk (Nat.le_refl _),yD h];rfl
theorem uB (h:Sy u α γ ε m n a b am):∀ k,mf am k≠[]
 | 0=>by show bX 1≠[];decide +kernel
 | k+1=>fun he=>by
  have h1:aQ (mf am k) am=[]:=he;rcases (nH (aV.pow _ _) h.em.v).1 h1 with h2|h2
  ·exact uB h k h2
  ·exact h.ne h2
theorem Q7 (h:Sy u α γ ε m n a b am) {k i j:Nat} (hk:k<n) (hn:n<=4) (hα:α<=15) (hγ:γ<=225) (hε:ε<=4) (hi:k<i) (hj:k<j) :
  eD (dK (aQ (FF a am (gz a b n) k k k) (FF a am (gz a b n) k i j)) (aQ (FF a am (gz a b n) k i k) (FF a am (gz a b n) k k j))) (mf am k)=some (FF a am (gz a b n) (k+1) i j):=by
 have e1:FF a am (gz a b n) (k+1) i j=dK (aQ am (FF a am (gz a b n) k i j)) (aQ (FF a am (gz a b n) k i k) (iJ a k j)):=by rw [FF,Ew,if_pos ⟨hi,hj⟩]
 have v1:=(wY h k i j).v;have v2:=(wY h k i k).v;have v3:=(h.ea k j).v
 have e2:dK (aQ (FF a am (gz a b n) k k k) (FF a am (gz a b n) k i j)) (aQ (FF a am (gz a b n) k i k) (FF a am (gz a b n) k k j))=aQ (FF a am (gz a b n) (k+1) i j) (mf am k):=by
  rw [KN h hk,zQ h k k j (Nat.le_refl _) hk (by omega),e1];refine kH (aV.sub _ _) (aV.mul _ _) fun x=>?_;rw [ev_sub x (aV.mul _ _).nat (aV.mul _ _),ev_mul x (aV.pow _ _).nat v1.nat,ev_mul x v2.nat (aV.mul _ _).nat,ev_mul x (aV.pow _ _).nat v3.nat,ev_mul x (aV.sub _ _).nat (aV.pow _ _).nat,ev_sub x (aV.mul _ _).nat (aV.mul _ _),ev_mul x h.em.v.nat v1.nat,ev_mul x v2.nat v3.nat,ev_pow x h.em.v.nat,ev_pow x h.em.v.nat];rw [show ev x am ^ (k+1)=ev x am ^ k*ev x am from Rat.pow_succ _ _];grind
 rw [e2];have b1:(2*α) ^ (k+1)*γ<=30 ^ 4*225:=Nat.mul_le_mul (Nat.le_trans (Nat.pow_le_pow_left (by omega) _) (Nat.pow_le_pow_right (by omega) (by omega))) hγ;have b2:α ^ k<=15 ^ 4:=Nat.le_trans (Nat.pow_le_pow_left hα _) (Nat.pow_le_pow_right (by omega) (by omega));have b3:30 ^ 4*225*15 ^ 4<=2 ^ 200:=by decide +kernel
 refine MK (wY h (k+1) i j) (uA h.em h.u4 k) h.u4 (uB h k) (Nat.le_trans (Nat.mul_le_mul b1 b2) b3) (Nat.le_trans (show (2*(k+1)+ε+1)*(2*k+1)<=21*21 from Nat.mul_le_mul (by omega) (by omega)) (by omega)) (by omega) (Nat.le_trans b1 (by decide +kernel))
end
end Q
end
section
namespace Q
open Go Go.RowKit Go.Proofs.YtopclbeomcggiaaGreat
def wZ:El (List (List ai)) where
 T:=qL
 sz:=1
 pos:=by decide
 E w cs l:=∃ v,cs=[v]/\fG w v l
 len:=by rintro w c t ⟨v,rfl,h⟩;rfl
 one:=by
  rintro w c t ⟨v,rfl,h⟩ u hu;simp only [List.mem_cons,List.not_mem_nil,or_false] at hu;subst hu;exact h.one
 on:=by rintro w w' c t ⟨v,e,h⟩ hb;exact⟨v,e,h.on hb⟩
 ok T':=oF.ok T'/\polyT≠T'
 lr:=by rintro g T' w w' c t ⟨v,e,h⟩ hl hT;exact⟨v,e,h.lr hl hT.1 hT.2⟩
 self:=by show (uT≠qL/\aN≠qL)/\polyT≠qL;decide
abbrev yE (w:World) (v:Value) (M:Mx):Prop:=bS wZ w v M
abbrev zR (base:Nat) (w:World) (v:Value) (M:Mx):Prop:=cB wZ base w v M
def TI (w:World) (M:Mx) (e:Ending) (w':World):Prop:=∃ v,e=.returned v/\yE w' v M/\Below w.heap.size w w'
end Q
namespace Go.Proofs.YtopclbeomcggiaaGreat
open Go.RowKit Q
theorem Co:∃ z bytes,(Tryz.prog.info? wZ.T).map (fun i=>(i.zero,i.size,i.bytes))=some (some z,wZ.sz,bytes)/\z.cells.size=wZ.sz/\bytes<=100000:=⟨.slice none 0 0,24,by kernel_rfl,rfl,by decide⟩
end Go.Proofs.YtopclbeomcggiaaGreat
namespace Q
open Go Go.RowKit Go.Proofs.YtopclbeomcggiaaGreat
def oP (l:List (List ai)) (at_ N:Nat):Nat->List (List ai)
 | 0=>List.replicate N []
 | k+1=>(oP l at_ N k).set (at_+k) (l.getD (l.length-1-k) [])
theorem qP (l:List (List ai)) (at_ N:Nat):∀ k,(oP l at_ N k).length=N
 | 0=>by simp [oP]
 | k+1=>by rw [oP,List.length_set,qP l at_ N k]
theorem Ey (l:List (List ai)) (at_ N:Nat) (h:at_+l.length<=N):∀ k j,k<=l.length->j<N->(oP l at_ N k).getD j []=if at_<=j/\j<at_+k then l.getD (at_+l.length-1-j) [] else []
 | 0,j,_,hj=>by
  rw [oP,List.getD_eq_getElem?_getD,List.getElem?_replicate,if_pos hj,if_neg (by omega)];rfl
 | k+1,j,hk,hj=>by
  rw [oP,uz _ _ _ _ _ (by rw [qP];omega),Ey l at_ N h k j (by omega) hj];by_cases h1:j=at_+k
  ·rw [if_pos h1,if_pos ⟨by omega,by omega⟩];congr 1;omega
  ·rw [if_neg h1];by_cases h2:at_<=j/\j<at_+k
   ·rw [if_pos h2,if_pos ⟨h2.1,by omega⟩]
   ·rw [if_neg h2,if_neg (by omega)]
theorem I7 {l:List (List ai)} {at_ N:Nat} (h:at_+l.length<=N):oP l at_ N l.length=jq l at_ N l.length:=by
 refine List.ext_getElem (by rw [qP,nY]) fun j h1 h2=>?_;rw [qP] at h1;have e1:=Ey l at_ N h l.length j (Nat.le_refl _) h1;have e2:=yC l at_ N h l.length j (Nat.le_refl _) h1;rw [Nat.add_sub_cancel] at e2;have e:=e1.trans e2.symm;rw [List.getD_eq_getElem?_getD,List.getD_eq_getElem?_getD,List.getElem?_eq_getElem (by rw [qP];exact h1),List.getElem?_eq_getElem (by rw [nY];exact h1)] at e;exact e
end Q
namespace Go.Proofs.YtopclbeomcggiaaGreat
open Go.RowKit Q Go.WideMaps Go.Maps
theorem Cq (va vb:Value) (p q:List ai) (v:Nat) (w:World) (hp:ak w va p) (hq:ak w vb q) (hv:v<4) (vp:aV p) (vq:aV q) (np:p≠[]) (nq:q≠[]) (dp:aG p v<=1000) (dq:aG q v<=1000) (lp:p.length<=100000000) (lq:q.length<=100000000) :
  Calls Tryz.prog 78 #[va,vb,.int .i64 v] w (TI w (vJ (aB p v) (aB q v))):=by
 obtain⟨aa,ca,rfl,hca⟩:=hp.shape;obtain⟨ab,cb,rfl,hcb⟩:=hq.shape;have hA:=zH (yV _ p v w hp hv (by omega) lp);have hB:=zH (fun W (hb:Below w.heap.size w W)=>yV _ q v W (hq.on hb) hv (by omega) lq)
 have la:1<=(aB p v).length/\(aB p v).length<=1001:=by
  obtain⟨t,ht,e⟩:=kQ np vp.nat v;have:=Ex.nat_get (vp.nat t ht) v;rw [aW];omega
 have lb:1<=(aB q v).length/\(aB q v).length<=1001:=by
  obtain⟨t,ht,e⟩:=kQ nq vq.nat v;have:=Ex.nat_get (vq.nat t ht) v;rw [aW];omega
 generalize aB p v=a at *;generalize aB q v=b at *;obtain⟨la,la2⟩:=la;obtain⟨lb,lb2⟩:=lb;obtain⟨m,hm⟩:∃ m,a.length=m+1:=⟨a.length - 1,by omega⟩;obtain⟨n,hn⟩:∃ n,b.length=n+1:=⟨b.length - 1,by omega⟩;have hrow:∀ i,dJ a b (m+n) i=if n<=i then jq b (i - n) (m+n) b.length else jq a i (m+n) a.length:=fun i=>by rw [dJ,hn,Nat.add_sub_cancel]
 have hsyl:vJ a b=(List.range (m+n)).map (dJ a b (m+n)):=by rw [vJ,hm,hn,Nat.add_sub_cancel,Nat.add_sub_cancel]
 rw [hsyl];have hm2:(a.length:Int)-1=(m:Int):=by omega
 have hn2:(b.length:Int)-1=(n:Int):=by omega
 have hml:m<=1000:=by omega
 have hnl:n<=1000:=by omega
 replace hrow:=zH hrow;replace hm:=zH hm;replace hn:=zH hn;clear hsyl hp hq vp vq np nq dp dq lp lq hca hcb
 go_enter Tryz.func78,Tryz.ntmps78
 go_wp2_with (first
  | (go_at_call 63;refine (hB.out w2 hb2).mono ?_;rintro en w3 ⟨v3,rfl,hv3,hb3⟩;obtain⟨a3,c3,rfl,-⟩:=hv3.shape)
  | (go_at_call 63;refine hA.out.mono ?_;rintro en w2 ⟨v2,rfl,hv2,hb2⟩;obtain⟨a2,c2,rfl,-⟩:=hv2.shape))
 have hw3:Below w.heap.size w w3:=hb2.trans (hb3.mono hb2.size);have hb4:Below w3.heap.size w3 (w3.alloc (.cells #[] qL)):=(Below.refl _ _).alloc (Nat.le_refl _) _;have hown0:=fV wZ w3;have ha:=hv2.on hb3;have hb:=hv3;change zR w3.heap.size (w3.alloc (.cells #[] 75)) _ _ at hown0;change Below w3.heap.size w3 (w3.alloc (.cells #[] 75)) at hb4;generalize w3.alloc (.cells #[] 75)=w4 at *;clear hv2 hv3 hb2 hb3 hA hB;replace ha:=zH ha;replace hb:=zH hb
 go_loopw [9,12] (fun o i wr=>∃ k:Nat,k<=m+n/\i=.int .i64 k/\Hid (zR w3.heap.size wr o ((List.range k).map (dJ a b (m+n))))/\Below w3.heap.size w3 wr) (fun _ i _=>m+n-(intOf i).toNat)
 case atStart=>exact⟨0,by omega,by go_num,zH hown0,hb4⟩
 case round =>
  clear hown0 hb4
  rename World=>wo
  obtain⟨k,hk,rfl,hown,hbr⟩:=hrel;by_cases hkl:k<m+n
  ·have hkl':(k:Int)<(m:Int)+(n:Int):=by omega
   go_upto_if 45 with (at_make;refine bQ rfl _ _ _ rfl polyT (.slice none 0 0) 1 24 Tryz.underlying75 (by kernel_rfl) rfl rfl .i64 .i64 _ _ (m+n) rfl rfl (by omega) (by omega) (by omega) (by omega) ?_;intro w5 own5 gr5)
   have hst0:Hid (jr wo.heap.size w5 (m+n) wo.heap.size (List.replicate (m+n) [])):=zH (by
    refine⟨Nat.le_refl _,by simp,List.replicate (m+n) (.slice none 0 0),⟨own5,by simp,fun i v p h1 h2=>?_⟩,by simp⟩
    rw [rF h1,rF h2];exact bS.nil _ _)
   have hr9:=zH (hrow.out k);clear own5
   go_cut [14,15,46,47,48,49] (fun vl vt _ _ _ _ wc=>∃ (l:List (List ai)) (t:Nat),vt=.int .i64 t/\Hid (fG w3 vl l)/\Hid (dJ a b (m+n) k=oP l t (m+n) l.length)/\1<=l.length/\l.length<=1001/\t+l.length<=m+n/\Hid (jr wo.heap.size wc (m+n) wo.heap.size (List.replicate (m+n) []))/\Below wo.heap.size wo wc)
   case first =>
    by_cases hnk:n<=k
    ·have hnk':(n:Int)<=(k:Int):=by omega
     obtain⟨t,ht⟩:∃ t,t=k - n:=⟨_,rfl⟩;have ht2:(k:Int) - (n:Int)=(t:Int):=by omega
     have htl:t+b.length<=m+n:=by have:=hn.out;omega
     replace ht:=zH ht;go_wp2;go_meet
     case rel=>exact⟨b,t,rfl,hb,zH (by rw [hr9.out,if_pos hnk,I7 htl,ht.out]),lb,lb2,htl,hst0,gr5⟩
    ·have hnk':¬ (n:Int)<=(k:Int):=by omega
     have htl:k+a.length<=m+n:=by have:=hm.out;omega
     go_wp2;go_meet
     case rel=>exact⟨a,k,rfl,ha,zH (by rw [hr9.out,if_neg (by omega),I7 htl]),la,la2,htl,hst0,gr5⟩
   case rest =>
    clear hst0 gr5;obtain⟨l,t,rfl,hl,hsr,ll,ll2,htl,hM,hbc⟩:=hcut;obtain⟨al,cl,rfl,-⟩:=hl.out.shape;go_wp2
    go_loopw [16] (fun i wz=>∃ j:Nat,j<=l.length/\i=.int .i64 j/\Hid (jr wo.heap.size wz (m+n) wo.heap.size (oP l t (m+n) j))/\Below wo.heap.size wo wz) (fun i _=>l.length-(intOf i).toNat)
    case atStart=>exact⟨0,by omega,by go_num,hM,hbc⟩
    case round =>
     clear hM hbc;obtain⟨j,hj,rfl,hM,hbz⟩:=hrel;by_cases hjl:j<l.length
     ·obtain⟨x,hx⟩:∃ x,x=l.length - 1 - j:=⟨_,rfl⟩;have hxl:x<l.length:=by omega
      have hxi:(l.length:Int)-1-(j:Int)=(x:Int):=by omega
      have hxq:l[x]?=some l[x]:=List.getElem?_eq_getElem hxl;have hgd:l.getD x []=l[x]:=by rw [List.getD_eq_getElem?_getD,hxq];rfl
      have hl0:=hl.out.on (hbr.trans (hbz.mono hbr.size));generalize l[x]=c at *;obtain⟨bl,ol,vc,rfl,hvc,hC⟩:=qG hl0 hxq;have hvs:=bS.shape hvc;obtain⟨p',hp'⟩:∃ p',p'=t+j:=⟨_,rfl⟩;have hpi:(t:Int)+(j:Int)=(p':Int):=by omega
      have hpN:p' < m+n:=by omega
      have hM0:=hM.out;have hsucc:oP l t (m+n) (j+1)=(oP l t (m+n) j).set p' c:=by rw [oP,<- hx,hgd,<- hp']
      have hcc:∀ W,Below wr.heap.size wr W->W.cell? ⟨bl,ol+x,none⟩=some vc:=fun W hb=>by
       have h1:=(hC.on hb).cell 0 (by simp);simpa using h1
      have hll:(l.length:Int)<=1001:=by omega
      have htN:(t:Int)<=2000:=by omega
      replace hcc:=zH hcc;replace hp':=zH hp';replace hx:=zH hx;replace hsucc:=zH hsucc;clear hC hxq hgd hsr
      go_upto_region 12 with (fail)
      refine aP trivial (none) (0) (gp.none) [.eq (.slice (some ⟨wo.heap.size,0,none⟩) (m+n) (m+n)),.eq (.int .i64 t),.eq (.int .i64 j),.eq (.int .i64 p'),.eq (.slice (some ⟨bl,ol,none⟩) l.length cl),.eq (.slice (some ⟨bl,ol,none⟩) l.length cl),.eq (.int .i64 l.length),.eq (.int .i64 ((l.length:Int)-1)),.eq (.int .i64 j),.eq (.int .i64 x),.eq (.pointer (some ⟨bl,ol+x*1,none⟩)),.eq (vc),.eq (.pointer (some ⟨wo.heap.size,0+p'*1,none⟩))] [56,57,58,59,60,61,62,63,64,65,66,67,68] rfl rfl rfl rfl ⟨?_,?_,?_,?_,?_,?_,?_,?_,?_,?_,?_,?_,?_,trivial⟩ ?_
      ·exact fun _ _ a _ _ _=>xM rfl (a 13 rfl)
      ·exact fun _ _ a _ _ _=>xM rfl (a 15 rfl)
      ·exact fun _ _ a _ _ _=>xM rfl (a 16 rfl)
      ·intro A w1 hA hL hS he;have h57:=eT 57 (he.1 rfl);have h58:=eT 58 (he.2.1 rfl);refine ae rfl (aC rfl rfl ?_);generalize A.eval=ev at *;go_simp
       (first|exact kG (by omega) (by omega)|(rw [hpi];exact kG (by omega) (by omega)))
      ·exact fun _ _ a _ _ _=>xM rfl (a 14 rfl)
      ·exact fun _ _ a _ _ _=>xM rfl (a 14 rfl)
      ·intro A w1 hA hL hS he;have h61:=eT 61 (he.1 rfl);exact pZ rfl
      ·intro A w1 hA hL hS he;have h62:=eT 62 (he.1 rfl);have hc0:=eC A (.int .i64 1);refine ae rfl (aC rfl rfl ?_);generalize A.eval=ev at *;go_simp;exact kG (by omega) (by omega)
      ·exact fun _ _ a _ _ _=>xM rfl (a 16 rfl)
      ·intro A w1 hA hL hS he;have h63:=eT 63 (he.1 rfl);have h64:=eT 64 (he.2.1 rfl);refine ae rfl (aC rfl rfl ?_);generalize A.eval=ev at *;go_simp
       (first|exact kG (by omega) (by omega)|(rw [hxi];exact kG (by omega) (by omega)))
      ·exact fun _ _ _ _ _ e=>pI rfl Tryz.underlying75 bl ol x (hxl) (e.1 rfl) (e.2.1 rfl)
      ·intro A w1 hA hL hS he;have h66:=eT 66 (he.1 rfl);refine ae rfl ?_;have c0:=hcc.out w1 hL.below;exact aC rfl rfl gZ
      ·exact fun _ _ _ _ _ e=>pI rfl Tryz.underlying75 wo.heap.size 0 p' (hpN) (e.1 rfl) (e.2.1 rfl)
      ·intro W5 hL5;have hb5:=hL5.below;simp only [aU,af.eq,lZ];go_frame;obtain⟨h1,h2,vs,h3,h4⟩:=hM0;have hM5:jr wo.heap.size W5 (m+n) wo.heap.size (oP l t (m+n) j):=⟨h1,h2,vs,h3.on hb5,h4⟩;obtain⟨vo,-,z5,f5,-⟩:=hM5.get hpN;have hM6:=(hM5.set hpN (hvc.on hb5)).1;have hMs:Hid (jr wo.heap.size (W5.setCell ⟨wo.heap.size,p',none⟩ vc) (m+n) wo.heap.size (oP l t (m+n) (j+1))):=zH (by rw [hsucc.out];exact hM6);have hb6:=(hbz.trans (hb5.mono hbz.size)).trans (bI (W:=W5) (g:=wo.heap.size) (j:=p') (Nat.le_refl _) vc);clear hM5 hM6 hl0 hcc hL5 hsucc hvc h3 hM;obtain⟨ac,cc,rfl,-⟩:=hvs;go_wp2;go_roundw
       case rel=>exact⟨j+1,by omega,by go_num,hMs,hb6⟩
       case measure=>simp [intOf];omega
     ·obtain rfl:j=l.length:=by omega
      have hrl:=hM.out.2.1;obtain⟨h1,-,vs,h3,h4⟩:=hM.out
      have hpol:fG wr (.slice (some ⟨wo.heap.size,0,none⟩) (m+n) (m+n)) (dJ a b (m+n) k):=by
       have:=h3.polys;rw [h4,hrl,<- hsr.out] at this;exact this
      have hba:Below wr.heap.size wr (wr.alloc (.cells #[.slice (some ⟨wo.heap.size,0,none⟩) (m+n) (m+n)] 75)):=(Below.refl _ _).alloc (Nat.le_refl _) _
      have hnew:yE (wr.alloc (.cells #[.slice (some ⟨wo.heap.size,0,none⟩) (m+n) (m+n)] 75)) (.slice (some ⟨wr.heap.size,0,none⟩) 1 1) [dJ a b (m+n) k] :=
       jv (e:=wZ) (Blk.new wr qL [.slice (some ⟨wo.heap.size,0,none⟩) (m+n) (m+n)]) ⟨_,rfl,hpol.on hba⟩
      have hown2:=hown.out.on (hbz.trans (hba.mono hbz.size));have hbw:=(hbr.trans (hbz.mono hbr.size)).trans (hba.mono (hbr.trans (hbz.mono hbr.size)).size);have hbase:∀ k,u9.ownBlock=some k->w3.heap.size<=k:=fun k hk=>(hown.out.base_le k hk).1;have hsn:(List.range (k+1)).map (dJ a b (m+n))=(List.range k).map (dJ a b (m+n))++[dJ a b (m+n) k]:=by rw [List.range_succ,List.map_append];rfl
      have hlen:((List.range k).map (dJ a b (m+n))).length+[dJ a b (m+n) k].length<=1000000000:=by simp;omega
      replace hsn:=zH hsn;clear hM hl hsr h3
      go_wp2_with (at_builtin;refine cZ rfl _ _ 84 rfl Tryz.underlying84 Co rfl rfl hown2 hnew hlen hbw.size ?_;intro v8 w8 hown8 hl8 hv8)
      go_roundw
      case rel=>exact⟨k+1,by omega,by go_num,zH (by rw [hsn.out];exact hown8),hbw.trans (hl8.belowAt hbw.size hbase)⟩
      case measure=>simp [intOf];omega
  ·obtain rfl:k=m+n:=by omega
   go_wp2;go_ret;exact⟨_,rfl,hown.out.isSl,hw3.trans (hbr.mono hw3.size)⟩
end Go.Proofs.YtopclbeomcggiaaGreat
end
section
namespace Q
open Go Go.Proofs.YtopclbeomcggiaaGreat
section
variable {u α γ ε m n:Nat} {a b:List (List ai)} {am:List ai}
theorem MM (p:List ai):nP=mf p 0:=by show nP=bX 1;decide +kernel
theorem uC (h:Sy u α γ ε m n a b am) (hn:n<=4) (hα:α<=15) (hγ:γ<=225) (hε:ε<=4):∀ k,k<=n->(k<m+n\/k=0) ->
  ∃ M,zP (m+n) M (FF a am (gz a b n) k)/\resS (m+n) (m+n) (vJ a b) nP false=resS (m+n) (m+n-k) M (mf am k) false
 | 0,_,_=>⟨vJ a b,ML h.la h.lb,by rw [Nat.sub_zero,<- MM]⟩
 | k+1,hk,hk2=>by
  obtain⟨M,h1,h2⟩:=uC h hn hα hγ hε k (by omega) (by omega);obtain⟨f,hf⟩:∃ f,m+n - k=f+1:=⟨m+n - k - 1,by omega⟩;have hf0:f≠0:=by omega
  have hp:=KN h (show k<n by omega)
  obtain⟨M',h3,h4⟩:=vG (f:=f) (neg:=false) (last:=mf am k) (X:=FF a am (gz a b n) (k+1)) h1 (show k+(f+1)=m+n by omega) (by rw [hp];exact uB h _)
   (fun i j h5 h6 h7 h8=>Q7 h (by omega) hn hα hγ hε h5 h7)
  refine⟨M',h3.congr fun i j h5 h6=>?_,?_⟩
  ·split
   ·rfl
   ·next hc=>rw [FF,Ew,if_neg hc]
  ·rw [h2,hf,h4,if_neg hf0,hp,show m+n-(k+1)=f by omega]
theorem VB (h:Sy u α γ ε 0 n a b am) (hn:n<=4) (hα:α<=15) (hγ:γ<=225) (hε:ε<=4):resS (0+n) (0+n) (vJ a b) nP false=some (mf am n):=by
 cases n with
 | zero=>rw [MM am];rfl
 | succ n =>
  obtain⟨M,h1,h2⟩:=uC h hn hα hγ hε n (by omega) (by omega);rw [h2,show 0+(n+1) - n=1 by omega,yB h1 (k:=n) (by omega),KN h (by omega),if_neg (uB h _)];rfl
theorem VC (h:Sy u α γ ε 1 n a b am) (hn:n<=4) (hα:α<=15) (hγ:γ<=225) (hε:ε<=4):resS (1+n) (1+n) (vJ a b) nP false=some (FF a am (gz a b n) n n n):=by
 obtain⟨M,h1,h2⟩:=uC h hn hα hγ hε n (by omega) (by omega);rw [h2,show 1+n - n=1 by omega,yB h1 (k:=n) (by omega)];by_cases e:FF a am (gz a b n) n n n=[]
 ·rw [if_pos e,e]
 ·rw [if_neg e];rfl
theorem VD (h:Sy u α γ ε 2 n a b am) (hn:n<=4) (hα:α<=15) (hγ:γ<=225) (hε:ε<=4) {d:List ai} {B E:Nat} (hd:En u B E d) (hB:B<=2 ^ 100) (hE:E<=40)
  (hdet:∀ x,ev x d*ev x am ^ n=ev x (FF a am (gz a b n) n n n)*ev x (FF a am (gz a b n) n (n+1) (n+1))-ev x (FF a am (gz a b n) n (n+1) n)*ev x (FF a am (gz a b n) n n (n+1))) :
  resS (2+n) (2+n) (vJ a b) nP false=some d:=by
 obtain⟨M,h1,h2⟩:=uC h hn hα hγ hε n (by omega) (by omega);rw [h2,show 2+n - n=2 by omega];have en:=wY h n;have b2:α ^ n<=15 ^ 4:=Nat.le_trans (Nat.pow_le_pow_left hα _) (Nat.pow_le_pow_right (by omega) hn);have b3:2 ^ 100*15 ^ 4<=2 ^ 200:=by decide +kernel
 have b4:2 ^ 100<=2 ^ 200:=by decide +kernel
 have hpw:=uA h.em h.u4 n
 have hov:∀ s,En u B E s->eD (aQ s (mf am n)) (mf am n)=some s:=fun s hs =>
  MK hs hpw h.u4 (uB h n) (Nat.le_trans (Nat.mul_le_mul hB b2) b3) (Nat.le_trans (show (E+1)*(2*n+1)<=41*9 from Nat.mul_le_mul (by omega) (by omega)) (by omega)) (by omega) (Nat.le_trans hB b4)
 have hnd:En u B E (dK [] d):=((En.nil u 0 E).sub hd h.u4).mono (by omega) (by omega);refine KM h1 (k:=n) (by omega) hd.v ?_ ?_ fun p0 r0=>?_
 ·rw [show dK (aQ (FF a am (gz a b n) n n n) (FF a am (gz a b n) n (n+1) (n+1))) (aQ (FF a am (gz a b n) n (n+1) n) (FF a am (gz a b n) n n (n+1)))=aQ d (mf am n) from
   kH (aV.sub _ _) (aV.mul _ _) fun x=>by
    rw [ev_sub x (aV.mul _ _).nat (aV.mul _ _),ev_mul x (en _ _).v.nat (en _ _).v.nat,ev_mul x (en _ _).v.nat (en _ _).v.nat,ev_mul x hd.v.nat (aV.pow _ _).nat,ev_pow x h.em.v.nat,hdet x]]
  exact hov d hd
 ·rw [show dK (aQ (FF a am (gz a b n) n (n+1) n) (FF a am (gz a b n) n n (n+1))) (aQ (FF a am (gz a b n) n n n) (FF a am (gz a b n) n (n+1) (n+1)))=aQ (dK [] d) (mf am n) from
   kH (aV.sub _ _) (aV.mul _ _) fun x=>by
    have:=hdet x;rw [ev_sub x (aV.mul _ _).nat (aV.mul _ _),ev_mul x (en _ _).v.nat (en _ _).v.nat,ev_mul x (en _ _).v.nat (en _ _).v.nat,ev_mul x (aV.sub _ _).nat (aV.pow _ _).nat,ev_sub x aV.nil.nat hd.v,ev_pow x h.em.v.nat,di]
    grind]
  exact hov _ hnd
 ·have hz:aQ d (mf am n)=[]:=kH (aV.mul _ _) aV.nil fun x=>by
   have:=hdet x;rw [p0,r0,di] at this;rw [ev_mul x hd.v.nat (aV.pow _ _).nat,ev_pow x h.em.v.nat,di,this];grind
  rcases (nH hd.v (aV.pow _ _)).1 hz with h5|h5
  ·exact h5
  ·exact absurd h5 (uB h n)
def Cr (A:Nat->Nat->Rat) (am:Rat) (k:Nat) (F:Nat->Nat->Rat) (i j:Nat):Rat:=if k<i/\k<j then am*F i j-F i k*A k j else F i j
def GG (A:Nat->Nat->Rat) (am:Rat) (F:Nat->Nat->Rat):Nat->Nat->Nat->Rat
 | 0=>F
 | k+1=>Cr A am k (GG A am F k)
theorem zh (h:Sy u α γ ε m n a b am) (x:Pt):∀ k i j,ev x (FF a am (gz a b n) k i j)=GG (fun k j=>ev x (iJ a k j)) (ev x am) (fun i j=>ev x (gz a b n i j)) k i j
 | 0,_,_=>rfl
 | k+1,i,j=>by
  have e1:=(wY h k i j).v;have e2:=(wY h k i k).v;rw [FF,GG,Ew,Cr];split
  ·rw [ev_sub x (aV.mul _ _).nat (aV.mul _ _),ev_mul x h.em.v.nat e1.nat,ev_mul x e2.nat (h.ea k j).v.nat,zh h x k i j,zh h x k i k]
  ·exact zh h x k i j
end
end Q
end
section
namespace Q
open Go Go.Proofs.YtopclbeomcggiaaGreat
theorem mG (f:Nat->Rat) (n:Nat):bf f (n+1)=bf f n+f n:=rfl
theorem uD (f:Nat->Rat):∀ n,bf f (n+1)=f 0+bf (fun i=>f (i+1)) n
 | 0=>by simp only [bf];grind
 | n+1=>by rw [bf,uD f n,bf];grind
theorem I8 (f:Nat->Rat):∀ n,bf f n=bf (fun i=>f (n-1-i)) n
 | 0=>rfl
 | n+1=>by
  rw [uD (fun i=>f (n+1-1-i)) n,bf,I8 f n]
  rw [dC (n:=n) (f:=fun i=>f (n-1-i)) (g:=fun i=>f (n+1-1-(i+1))) fun i hi=>by
   show f _=f _
   congr 1;omega]
  show _=f (n+1-1-0)+_;rw [show n+1-1-0=n by omega];grind
theorem Ov {f:Nat->Rat} {n:Nat} (h:∀ i,i<n->f i=0):bf f n=0:=by
 rw [dC h]
 induction n with
 | zero=>rfl
 | succ n ih=>rw [bf,ih fun i hi=>h i (by omega)];grind
theorem xc (x:Pt) (v:Nat) (g:Nat->Rat) (N:Nat):∀ {p:List ai},dh p->(∀ t∈p,t.1.get v<N)->Lf (fun e=>kP x (e.put v 0)*g (e.get v).toNat) p=bf (fun n=>ev x (aD p v n)*g n) N
 | [],_,_=>by
  rw [Ov fun i _=>by show (0:Rat)*_=0;grind];rfl
 | t::p,h,hN=>by
  have h1:=Ex.nat_get h.head v;have h2:=hN t (by simp);rw [nG,xc x v g N h.tail (fun s hs=>hN s (by simp [hs]))]
  have e:∀ n:Nat,ev x (aD (t::p) v n)*g n=(if t.1.get v=n then t.2*kP x (t.1.put v 0) else 0)*g n+ev x (aD p v n)*g n:=by
   intro n;unfold ev;rw [dX,dX,nG];split <;> grind
  rw [dC (fun i _=>e i),vR,vS (f:=fun n:Nat=>(if t.1.get v=(n:Int) then t.2*kP x (t.1.put v 0) else 0)*g n) (k:=(t.1.get v).toNat) (by omega) (fun i _ hi=>by rw [if_neg (by omega)];grind),if_pos (by omega)];grind
def gq (c1 c0:Rat):Nat->Rat × Rat
 | 0=>(0,1)
 | n+1=>((gq c1 c0 n).2-(gq c1 c0 n).1*c1,-((gq c1 c0 n).1*c0))
theorem KO (c1 c0:Rat) (i:Nat):∀ j,(gq c1 c0 (i+j)).1=(gq c1 c0 i).1*(gq c1 c0 j).2+(gq c1 c0 i).2*(gq c1 c0 j).1-c1*((gq c1 c0 i).1*(gq c1 c0 j).1)/\(gq c1 c0 (i+j)).2=(gq c1 c0 i).2*(gq c1 c0 j).2-c0*((gq c1 c0 i).1*(gq c1 c0 j).1)
 | 0=>by simp only [gq,Nat.add_zero];grind
 | j+1=>by
  obtain⟨h1,h2⟩:=KO c1 c0 i j;rw [<- Nat.add_assoc];simp only [gq];rw [h1,h2];grind
def lY (x:Pt) (v:Nat) (c1 c0:Rat) (p:List ai):Rat:=Lf (fun e=>kP x (e.put v 0)*(gq c1 c0 (e.get v).toNat).1) p
def qR (x:Pt) (v:Nat) (c1 c0:Rat) (p:List ai):Rat:=Lf (fun e=>kP x (e.put v 0)*(gq c1 c0 (e.get v).toNat).2) p
theorem put_add (e f:Ex) (v:Nat):(e.add f).put v 0=(e.put v 0).add (f.put v 0):=by rcases v with _|_|_|v <;> rfl
theorem uE {f g:Ex->Rat} {l:List ai} (hn:dh l) (h:∀ e,e.nat=true->f e=g e):Lf f l=Lf g l:=gK fun t ht=>h _ (hn t ht)
theorem Gb (f g:Ex->Rat) (l:List ai):Lf (fun e=>f e-g e) l=Lf f l-Lf g l:=by
 have:Lf (fun e=>f e-g e) l=Lf (fun e=>f e+(-1)*g e) l:=gK fun t _=>by grind
 rw [this,JB,jc];grind
theorem zi (x:Pt) {e f:Ex} (v:Nat) (he:e.nat=true) (hf:f.nat=true):kP x ((e.add f).put v 0)=kP x (e.put v 0)*kP x (f.put v 0):=by
 rw [put_add,ES x (Ex.put_nat he v (Int.le_refl 0)) (Ex.put_nat hf v (Int.le_refl 0))]
theorem zk {e f:Ex} (v:Nat) (he:e.nat=true) (hf:f.nat=true):((e.add f).get v).toNat=(e.get v).toNat+(f.get v).toNat:=by
 rw [Ex.get_add,Int.toNat_add (Ex.nat_get he v) (Ex.nat_get hf v)]
theorem zS (x:Pt) (v:Nat) (c1 c0:Rat) {p q:List ai} (hp:dh p) (hq:dh q):lY x v c1 c0 (aQ p q)=lY x v c1 c0 p*qR x v c1 c0 q+qR x v c1 c0 p*lY x v c1 c0 q-c1*(lY x v c1 c0 p*lY x v c1 c0 q):=by
 unfold lY qR;rw [aQ,(iN (dh.prods hp hq)) _,ow]
 have h1:∀ e:Ex,e.nat=true->Lf (fun e'=>kP x ((e.add e').put v 0)*(gq c1 c0 ((e.add e').get v).toNat).1) q =
   (Lf (fun e=>kP x (e.put v 0)*(gq c1 c0 (e.get v).toNat).2) q*(kP x (e.put v 0)*(gq c1 c0 (e.get v).toNat).1)+Lf (fun e=>kP x (e.put v 0)*(gq c1 c0 (e.get v).toNat).1) q*(kP x (e.put v 0)*(gq c1 c0 (e.get v).toNat).2))-(c1*Lf (fun e=>kP x (e.put v 0)*(gq c1 c0 (e.get v).toNat).1) q)*(kP x (e.put v 0)*(gq c1 c0 (e.get v).toNat).1):=fun (e:Ex) he=>by
  have h2:Lf (fun e'=>kP x ((e.add e').put v 0)*(gq c1 c0 ((e.add e').get v).toNat).1) q=Lf (fun e'=>((kP x (e.put v 0)*(gq c1 c0 (e.get v).toNat).1)*(kP x (e'.put v 0)*(gq c1 c0 (e'.get v).toNat).2)+(kP x (e.put v 0)*(gq c1 c0 (e.get v).toNat).2)*(kP x (e'.put v 0)*(gq c1 c0 (e'.get v).toNat).1))-(c1*(kP x (e.put v 0)*(gq c1 c0 (e.get v).toNat).1))*(kP x (e'.put v 0)*(gq c1 c0 (e'.get v).toNat).1)) q :=
   uE hq fun (e':Ex) he'=>by
    rw [zi x v he he',zk v he he',(KO c1 c0 _ _).1];grind
  rw [h2,Gb,JB,jc,jc,jc];grind
 rw [uE hp h1,Gb,JB,jc,jc,jc];grind
theorem zT (x:Pt) (v:Nat) (c1 c0:Rat) {p q:List ai} (hp:dh p) (hq:dh q):qR x v c1 c0 (aQ p q)=qR x v c1 c0 p*qR x v c1 c0 q-c0*(lY x v c1 c0 p*lY x v c1 c0 q):=by
 unfold lY qR;rw [aQ,(iN (dh.prods hp hq)) _,ow]
 have h1:∀ e:Ex,e.nat=true->Lf (fun e'=>kP x ((e.add e').put v 0)*(gq c1 c0 ((e.add e').get v).toNat).2) q =
   Lf (fun e=>kP x (e.put v 0)*(gq c1 c0 (e.get v).toNat).2) q*(kP x (e.put v 0)*(gq c1 c0 (e.get v).toNat).2)-(c0*Lf (fun e=>kP x (e.put v 0)*(gq c1 c0 (e.get v).toNat).1) q)*(kP x (e.put v 0)*(gq c1 c0 (e.get v).toNat).1):=fun (e:Ex) he=>by
  have h2:Lf (fun e'=>kP x ((e.add e').put v 0)*(gq c1 c0 ((e.add e').get v).toNat).2) q=Lf (fun e'=>(kP x (e.put v 0)*(gq c1 c0 (e.get v).toNat).2)*(kP x (e'.put v 0)*(gq c1 c0 (e'.get v).toNat).2)-(c0*(kP x (e.put v 0)*(gq c1 c0 (e.get v).toNat).1))*(kP x (e'.put v 0)*(gq c1 c0 (e'.get v).toNat).1)) q :=
   uE hq fun (e':Ex) he'=>by
    rw [zi x v he he',zk v he he',(KO c1 c0 _ _).2];grind
  rw [h2,Gb,jc,jc];grind
 rw [uE hp h1,Gb,jc,jc];grind
def nu (c1 c0 r s:Rat):Rat:=s*s-c1*(r*s)+c0*(r*r)
theorem Q8 (x:Pt) (v:Nat) (c1 c0:Rat) {p q:List ai} (hp:dh p) (hq:dh q):nu c1 c0 (lY x v c1 c0 (aQ p q)) (qR x v c1 c0 (aQ p q))=nu c1 c0 (lY x v c1 c0 p) (qR x v c1 c0 p)*nu c1 c0 (lY x v c1 c0 q) (qR x v c1 c0 q):=by
 rw [zS x v c1 c0 hp hq,zT x v c1 c0 hp hq];unfold nu;grind
section
variable {a0 a1 am c1 c0:Rat} {A F:Nat->Nat->Rat} {n:Nat}
theorem MN (h0:∀ k,A k k=am) (h1:∀ k,A k (k+1)=c1*am) (h2:∀ k,A k (k+2)=c0*am) (h3:∀ k j,k+3<=j->A k j=0) (i:Nat):∀ k,k<=i ->
  GG A am F k i k=am ^ k*bf (fun j=>F i j*(gq c1 c0 (k+1-j)).1) (k+2) /\
  GG A am F k i (k+1)=am ^ k*bf (fun j=>F i j*(gq c1 c0 (k+1-j)).2) (k+2)/\∀ j,k+2<=j->GG A am F k i j=am ^ k*F i j
 | 0,_=>by
  refine⟨?_,?_,fun j _=>?_⟩
  ·simp only [GG,bf,gq,Rat.pow_zero,show 0+1-1=0 from rfl];clear h0 h1 h2 h3;grind
  ·simp only [GG,bf,gq,Rat.pow_zero,show 0+1-1=0 from rfl];clear h0 h1 h2 h3;grind
  ·simp only [GG,Rat.pow_zero];grind
 | k+1,hk=>by
  obtain⟨i1,i2,i3⟩:=MN h0 h1 h2 h3 i k (by omega)
  have e1:bf (fun j=>F i j*(gq c1 c0 (k+1+1-j)).1) (k+2)=bf (fun j=>F i j*(gq c1 c0 (k+1-j)).2) (k+2)-c1*bf (fun j=>F i j*(gq c1 c0 (k+1-j)).1) (k+2):=by
   have:∀ m,m<=k+2->bf (fun j=>F i j*(gq c1 c0 (k+1+1-j)).1) m=bf (fun j=>F i j*(gq c1 c0 (k+1-j)).2) m-c1*bf (fun j=>F i j*(gq c1 c0 (k+1-j)).1) m:=by
    intro m hm
    induction m with
    | zero=>simp only [bf];grind
    | succ m ih =>
     rw [bf,bf,bf,ih (by omega),show k+1+1-m=(k+1-m)+1 by omega];simp only [gq];grind
   exact this _ (Nat.le_refl _)
  have e2:bf (fun j=>F i j*(gq c1 c0 (k+1+1-j)).2) (k+2)=- (c0*bf (fun j=>F i j*(gq c1 c0 (k+1-j)).1) (k+2)):=by
   have:∀ m,m<=k+2->bf (fun j=>F i j*(gq c1 c0 (k+1+1-j)).2) m=- (c0*bf (fun j=>F i j*(gq c1 c0 (k+1-j)).1) m):=by
    intro m hm
    induction m with
    | zero=>simp only [bf];grind
    | succ m ih =>
     rw [bf,bf,ih (by omega),show k+1+1-m=(k+1-m)+1 by omega];simp only [gq];grind
   exact this _ (Nat.le_refl _)
  have hp:am ^ (k+1)=am ^ k*am:=Rat.pow_succ _ _;refine⟨?_,?_,fun j hj=>?_⟩
  ·rw [GG,Cr,if_pos ⟨by omega,by omega⟩,i1,i2,h1,mG _ (k+2),e1,hp,show k+1+1-(k+2)=0 by omega];simp only [gq];grind
  ·rw [GG,Cr,if_pos ⟨by omega,by omega⟩,i1,i3 (k+1+1) (by omega),show A k (k+1+1)=c0*am from h2 k,mG _ (k+2),e2,hp,show k+1+1-(k+2)=0 by omega];simp only [gq];grind
  ·rw [GG,Cr,if_pos ⟨by omega,by omega⟩,i3 j (by omega),h3 k j (by omega),hp];grind
theorem MO (h0:∀ k,A k k=am) (h1:∀ k,A k (k+1)=-(c0*am)) (h3:∀ k j,k+2<=j->A k j=0) (i:Nat):∀ k,k<=i ->
  GG A am F k i k=am ^ k*bf (fun j=>F i j*c0 ^ (k-j)) (k+1)/\∀ j,k+1<=j->GG A am F k i j=am ^ k*F i j
 | 0,_=>by
  refine⟨?_,fun j _=>?_⟩
  ·simp only [GG,bf,Rat.pow_zero,Nat.sub_zero];grind
  ·simp only [GG,Rat.pow_zero];grind
 | k+1,hk=>by
  obtain⟨i1,i3⟩:=MO h0 h1 h3 i k (by omega)
  have e1:bf (fun j=>F i j*c0 ^ (k+1-j)) (k+1)=c0*bf (fun j=>F i j*c0 ^ (k-j)) (k+1):=by
   have:∀ m,m<=k+1->bf (fun j=>F i j*c0 ^ (k+1-j)) m=c0*bf (fun j=>F i j*c0 ^ (k-j)) m:=by
    intro m hm
    induction m with
    | zero=>simp only [bf];grind
    | succ m ih =>
     rw [bf,bf,ih (by omega),show k+1-m=(k-m)+1 by omega,Rat.pow_succ];grind
   exact this _ (Nat.le_refl _)
  have hp:am ^ (k+1)=am ^ k*am:=Rat.pow_succ _ _;refine⟨?_,fun j hj=>?_⟩
  ·rw [GG,Cr,if_pos ⟨by omega,by omega⟩,i1,i3 (k+1) (by omega),h1,mG _ (k+1),e1,hp,show k+1-(k+1)=0 by omega,Rat.pow_zero];grind
  ·rw [GG,Cr,if_pos ⟨by omega,by omega⟩,i3 j (by omega),h3 k j (by omega),hp];grind
end
theorem Gc {g:Nat->Rat} (x:Pt) {b:List (List ai)} {n:Nat} (hb:b.length=n+1):bf (fun j=>ev x (iJ b 0 j)*g (n-j)) (n+1)=bf (fun i=>ev x (b.getD i [])*g i) (n+1):=by
 rw [I8];refine dC fun i hi=>?_;rw [iJ,if_pos ⟨by omega,by omega⟩,show 0+b.length-1-(n+1-1-i)=i by omega,show n-(n+1-1-i)=i by omega]
theorem Q9 {g:Nat->Rat} (x:Pt) {b:List (List ai)} {n:Nat} (hb:b.length=n+1):bf (fun j=>ev x (iJ b 0 j)*g (n+1-j)) (n+2)=bf (fun i=>ev x (b.getD i [])*g (i+1)) (n+1):=by
 rw [mG _ (n+1),dC (n:=n+1) (g:=fun j=>ev x (iJ b 0 j)*(fun i=>g (i+1)) (n-j)) fun j hj=>by
  show _*g _=_*g _
  rw [show n+1-j=n-j+1 by omega]]
 rw [Gc (g:=fun i=>g (i+1)) x hb,iJ,if_neg (by omega),di];grind
theorem Ra {g:Nat->Rat} (x:Pt) {b:List (List ai)} {n:Nat} (hb:b.length=n+1):bf (fun j=>ev x (iJ b 1 j)*g (n+1-j)) (n+2)=bf (fun i=>ev x (b.getD i [])*g i) (n+1):=by
 rw [uD,dC (n:=n+1) (g:=fun j=>ev x (iJ b 0 j)*g (n-j)) fun j hj=>by
  show ev x (iJ b 1 (j+1))*g (n+1-(j+1))=_;rw [show n+1-(j+1)=n-j by omega,iJ,iJ]
  congr 2
  by_cases h:j<n+1
  ·rw [if_pos ⟨by omega,by omega⟩,if_pos ⟨by omega,by omega⟩];congr 1;omega
  ·omega]
 rw [Gc x hb,iJ,if_neg (by omega),di];grind
end Q
end
section
namespace Q
open Go Go.Proofs.YtopclbeomcggiaaGreat
def sL (x:Pt) (g:Nat->Rat) (l:List (List ai)):Rat:=bf (fun i=>ev x (l.getD i [])*g i) l.length
theorem Gf (x:Pt) (g:Nat->Rat) (c:List ai) (l:List (List ai)):sL x g (c::l)=ev x c*g 0+sL x (fun i=>g (i+1)) l:=by
 unfold sL;rw [List.length_cons,uD];rfl
theorem Cs (x:Pt) (g h:Nat->Rat) (c d:Rat):∀ l,sL x (fun i=>c*g i+d*h i) l=c*sL x g l+d*sL x h l:=by
 have:∀ (f:Nat->Rat) n,bf (fun i=>f i*(c*g i+d*h i)) n=c*bf (fun i=>f i*g i) n+d*bf (fun i=>f i*h i) n:=by
  intro f n
  induction n with
  | zero=>simp only [bf];grind
  | succ n ih=>rw [mG,mG,mG,ih];grind
 exact fun l=>this _ _
theorem qQ (x:Pt) {g h:Nat->Rat} (e:∀ i,g i=h i) (l:List (List ai)):sL x g l=sL x h l:=by rw [show g=h from funext e]
section
variable (a0 a1 a2:List ai)
def Uq:Nat->List ai
 | 0=>bX 2
 | 1=>dK [] a1
 | k+2=>dK (dK [] (aQ a1 (Uq (k+1)))) (aQ (aQ a0 a2) (Uq k))
def tP (n:Nat):Nat->List (List ai)->List ai
 | _,[]=>[]
 | k,b::l=>lN (aQ b (aQ (mf a2 (n-k)) (Uq a0 a1 a2 k))) (tP n (k+1) l)
def dP:List (List ai)->List ai
 | []=>[]
 | b::l=>lN (lN (aQ (mf a2 l.length) (aQ b b)) (aQ b (tP a0 a1 a2 l.length 1 l))) (aQ a0 (dP l))
end
def OP (c1 c0:Rat) (k:Nat):Rat:=2*(gq c1 c0 k).2-c1*(gq c1 c0 k).1
section
variable {u:Nat} {a0 a1 a2:List ai}
theorem Ez (hu:u<4) (h0:En u 15 2 a0) (h1:En u 15 2 a1) (h2:En u 15 2 a2):∀ k,En u (2*30 ^ k) (2*k) (Uq a0 a1 a2 k)
 | 0=>by
  refine⟨aV.const _,fun t ht=>?_,show bD [(e0,2)]<=((2:Nat):Rat) by decide +kernel,fun t ht=>?_,fun t ht x _ _=>?_⟩
  ·rw [show t=(e0,(2:Rat)) from List.mem_singleton.1 (show t∈[(e0,(2:Rat))] from ht)];exact Dv.int 1 2
  ·rw [show t=(e0,(2:Rat)) from List.mem_singleton.1 (show t∈[(e0,(2:Rat))] from ht)];rcases u with _|_|_|u <;> simp [Ex.get,e0]
  ·rw [show t=(e0,(2:Rat)) from List.mem_singleton.1 (show t∈[(e0,(2:Rat))] from ht)];rcases x with _|_|_|x <;> rfl
 | 1=>((En.nil u 0 0).sub h1 hu).mono (by omega) (by omega)
 | k+2=>by
  have i1:=Ez hu h0 h1 h2 (k+1);have i0:=Ez hu h0 h1 h2 k;have:=((En.nil u 0 0).sub (h1.mul i1 hu) hu).sub ((h0.mul h2 hu).mul i0 hu) hu;refine this.mono ?_ (by omega);rw [Nat.pow_succ,Nat.pow_succ];omega
theorem WX (hu:u<4) (h0:En u 15 2 a0) (h1:En u 15 2 a1) (h2:En u 15 2 a2) (n:Nat):∀ (l:List (List ai)) (k:Nat),(∀ b∈l,En u 225 4 b)->k+l.length=n+1->En u (l.length*(450*30 ^ n)) (4+2*n) (tP a0 a1 a2 n k l)
 | [],_,_,_=>(En.nil u 0 0).mono (by omega) (by omega)
 | b::l,k,hb,hk=>by
  rw [List.length_cons] at hk;have i1:=WX hu h0 h1 h2 n l (k+1) (fun c hc=>hb c (by simp [hc])) (by omega);have i2:=(hb b (by simp)).mul ((uA h2 hu (n-k)).mul (Ez hu h0 h1 h2 k) hu) hu;have i3:=i2.add i1 hu;rw [tP];refine i3.mono ?_ (by omega);rw [List.length_cons,Nat.add_mul,Nat.one_mul,Nat.add_comm];refine Nat.add_le_add_left ?_ _
  have e1:15 ^ (n-k)*30 ^ k<=30 ^ n:=by
   have:30 ^ n=30 ^ (n-k)*30 ^ k:=by rw [<- Nat.pow_add];congr 1;omega
   rw [this];exact Nat.mul_le_mul_right _ (Nat.pow_le_pow_left (by omega) _)
  calc 225*(15 ^ (n-k)*(2*30 ^ k))=450*(15 ^ (n-k)*30 ^ k):=by grind
   _<=450*30 ^ n:=Nat.mul_le_mul_left _ e1
def dB:Nat->Nat
 | 0=>0
 | n+1=>15 ^ n*(225*225)+225*(n*(450*30 ^ n))+15*dB n
theorem WY (hu:u<4) (h0:En u 15 2 a0) (h1:En u 15 2 a1) (h2:En u 15 2 a2):∀ (l:List (List ai)),(∀ b∈l,En u 225 4 b)->En u (dB l.length) (8+2*l.length) (dP a0 a1 a2 l)
 | [],_=>(En.nil u 0 0).mono (by omega) (by omega)
 | b::l,hb=>by
  have i1:=WY hu h0 h1 h2 l fun c hc=>hb c (by simp [hc]);have hb1:=hb b (by simp);have i2:=WX hu h0 h1 h2 l.length l 1 (fun c hc=>hb c (by simp [hc])) (by omega);have i3:=(((uA h2 hu l.length).mul (hb1.mul hb1 hu) hu).add (hb1.mul i2 hu) hu).add (h0.mul i1 hu) hu;rw [dP,List.length_cons];exact i3.mono (Nat.le_refl _) (by omega)
theorem VE (x:Pt):ev x (bX 2)=2:=lS x 2
theorem Rb (hu:u<4) (h0:En u 15 2 a0) (h1:En u 15 2 a1) (h2:En u 15 2 a2) (x:Pt) {c1 c0:Rat} (e1:ev x a1=c1*ev x a2) (e0:ev x a0=c0*ev x a2):∀ k,ev x (Uq a0 a1 a2 k)=ev x a2 ^ k*OP c1 c0 k
 | 0=>by rw [Uq,VE,Rat.pow_zero];simp only [OP,gq];grind
 | 1=>by
  rw [Uq,ev_sub x aV.nil.nat h1.v,di,e1];simp only [OP,gq];rw [show ev x a2 ^ 1=ev x a2 by rw [Rat.pow_succ,Rat.pow_zero];grind];grind
 | k+2=>by
  have i1:=Rb hu h0 h1 h2 x e1 e0 (k+1);have i0:=Rb hu h0 h1 h2 x e1 e0 k;have v1:=(Ez hu h0 h1 h2 (k+1)).v;have v0:=(Ez hu h0 h1 h2 k).v;rw [Uq,ev_sub x (aV.sub _ _).nat (aV.mul _ _),ev_sub x aV.nil.nat (aV.mul _ _),ev_mul x h1.v.nat v1.nat,ev_mul x (aV.mul _ _).nat v0.nat,ev_mul x h0.v.nat h2.v.nat,i1,i0,di,e1,e0];have p1:ev x a2 ^ (k+1)=ev x a2 ^ k*ev x a2:=Rat.pow_succ _ _;have p2:ev x a2 ^ (k+2)=ev x a2 ^ k*ev x a2*ev x a2:=by rw [Rat.pow_succ,Rat.pow_succ]
  rw [p1,p2];have t2:OP c1 c0 (k+2)=- (c1*OP c1 c0 (k+1))-c0*OP c1 c0 k:=by simp only [OP,gq];grind
  rw [t2];grind
theorem WZ (hu:u<4) (h0:En u 15 2 a0) (h1:En u 15 2 a1) (h2:En u 15 2 a2) (x:Pt) {c1 c0:Rat} (e1:ev x a1=c1*ev x a2) (e0:ev x a0=c0*ev x a2) (n:Nat):∀ (l:List (List ai)) (k:Nat),(∀ b∈l,aV b)->k+l.length=n+1 ->
  aV (tP a0 a1 a2 n k l)/\ev x (tP a0 a1 a2 n k l)=ev x a2 ^ n*sL x (fun i=>OP c1 c0 (i+k)) l
 | [],_,_,_=>⟨aV.nil,by show (0:Rat)=_*0;grind⟩
 | b::l,k,hb,hk=>by
  rw [List.length_cons] at hk;obtain⟨i1,i2⟩:=WZ hu h0 h1 h2 x e1 e0 n l (k+1) (fun c hc=>hb c (by simp [hc])) (by omega);have vb:=hb b (by simp);refine⟨aV.add _ _,?_⟩;rw [tP,ev_add x (aV.mul _ _).nat i1.nat,ev_mul x vb.nat (aV.mul _ _).nat,ev_mul x (aV.pow _ _).nat (Ez hu h0 h1 h2 k).v.nat,ev_pow x h2.v.nat,Rb hu h0 h1 h2 x e1 e0,i2,Gf];rw [qQ x (g:=fun i=>OP c1 c0 (i+1+k)) (h:=fun i=>OP c1 c0 (i+(k+1))) fun i=>by rw [show i+1+k=i+(k+1) by omega]];have p:ev x a2 ^ n=ev x a2 ^ (n - k)*ev x a2 ^ k:=by rw [<- mP];congr 1;omega
  rw [p,Nat.zero_add];grind
theorem W9 (hu:u<4) (h0:En u 15 2 a0) (h1:En u 15 2 a1) (h2:En u 15 2 a2) (x:Pt) {c1 c0:Rat} (e1:ev x a1=c1*ev x a2) (e0:ev x a0=c0*ev x a2):∀ (l:List (List ai)),(∀ b∈l,aV b) ->
  aV (dP a0 a1 a2 l)/\ev x (dP a0 a1 a2 l)*ev x a2=ev x a2 ^ l.length*nu c1 c0 (sL x (fun i=>(gq c1 c0 i).1) l) (sL x (fun i=>(gq c1 c0 i).2) l)
 | [],_=>⟨aV.nil,by show (0:Rat)*_=_*nu c1 c0 0 0;unfold nu;grind⟩
 | b::l,hb=>by
  obtain⟨i1,i2⟩:=W9 hu h0 h1 h2 x e1 e0 l fun c hc=>hb c (by simp [hc]);obtain⟨i3,i4⟩:=WZ hu h0 h1 h2 x e1 e0 l.length l 1 (fun c hc=>hb c (by simp [hc])) (by omega);have vb:=hb b (by simp);refine⟨aV.add _ _,?_⟩;rw [dP,ev_add x (aV.add _ _).nat (aV.mul _ _).nat,ev_add x (aV.mul _ _).nat (aV.mul _ _).nat,ev_mul x (aV.pow _ _).nat (aV.mul _ _).nat,ev_mul x vb.nat vb.nat,ev_mul x vb.nat i3.nat,ev_mul x h0.v.nat i1.nat,ev_pow x h2.v.nat,i4,e0,List.length_cons,Gf,Gf];rw [qQ x (g:=fun i=>OP c1 c0 (i+1)) (h:=fun i=>(c1*c1 - 2*c0)*(gq c1 c0 i).1+(-c1)*(gq c1 c0 i).2) fun i=>by simp only [OP,gq];grind];rw [qQ x (g:=fun i=>(gq c1 c0 (i+1)).1) (h:=fun i=>(-c1)*(gq c1 c0 i).1+1*(gq c1 c0 i).2) fun i=>by simp only [gq];grind];rw [qQ x (g:=fun i=>(gq c1 c0 (i+1)).2) (h:=fun i=>(-c0)*(gq c1 c0 i).1+0*(gq c1 c0 i).2) fun i=>by simp only [gq];grind];rw [Cs,Cs,Cs,show ev x a2 ^ (l.length+1)=ev x a2 ^ l.length*ev x a2 from Rat.pow_succ _ _];simp only [gq];generalize sL x (fun i=>(gq c1 c0 i).1) l=P at *;generalize sL x (fun i=>(gq c1 c0 i).2) l=S at *;generalize ev x (dP a0 a1 a2 l)=D at *;generalize ev x a2 ^ l.length=W at *;clear i1 i3 i4 h0 h1 h2 e1 e0 vb hb;unfold nu at *;have:(W*(ev x b*ev x b)+ev x b*(W*((c1*c1 - 2*c0)*P+-c1*S))+c0*ev x a2*D)*ev x a2=(W*(ev x b*ev x b)+ev x b*(W*((c1*c1 - 2*c0)*P+-c1*S)))*ev x a2+c0*ev x a2*(D*ev x a2):=by grind
  rw [this,i2];grind
end
end Q
end
section
namespace Q
open Go Go.Proofs.YtopclbeomcggiaaGreat
theorem Rc {p q r:List ai} (hp:aV p) (hq:aV q) (hr:aV r) (hne:r≠[]) (h:∀ x,ev x r≠0->ev x p=ev x q):p=q:=by
 have h1:aQ r (dK p q)=[]:=kH (aV.mul _ _) aV.nil fun x=>by
  rw [ev_mul x hr.nat (aV.sub _ _).nat,ev_sub x hp.nat hq,di];by_cases e:ev x r=0
  ·rw [e];grind
  ·rw [h x e];grind
 rcases (nH hr (aV.sub _ _)).1 h1 with h2|h2
 ·exact absurd h2 hne
 ·refine kH hp hq fun x=>?_;have h3:=ev_sub x hp.nat hq;rw [h2,di] at h3;grind
def RV:Nat->Rat->Rat->Rat->List ai->List (List ai)->Pt->Rat
 | 0,_,_,_,_,_,_=>1
 | 1,_,c0,_,_,b,x=>sL x (fun i=>c0 ^ i) b
 | _,c1,c0,_,_,b,x=>nu c1 c0 (sL x (fun i=>(gq c1 c0 i).1) b) (sL x (fun i=>(gq c1 c0 i).2) b)
section
variable {u m n:Nat} {a b:List (List ai)} {am:List ai}
theorem Ur {l:List (List ai)} {u B E:Nat} (h:∀ j,En u B E (iJ l 0 j)):∀ c∈l,En u B E c:=fun c hc=>by
 obtain⟨i,hi,rfl⟩:=List.mem_iff_getElem.1 hc;have:=h (l.length - 1 - i);rw [iJ,if_pos ⟨by omega,by omega⟩,show 0+l.length - 1 - (l.length - 1 - i)=i by omega,List.getD_eq_getElem?_getD,List.getElem?_eq_getElem hi] at this;exact this
theorem Ct {l:List (List ai)} {k i:Nat} (h:i<l.length):iJ l k (k+(l.length-1-i))=l.getD i []:=by
 rw [iJ,if_pos ⟨by omega,by omega⟩];congr 1;omega
theorem MQ {l:List (List ai)} {k j:Nat} (h:k+l.length<=j):iJ l k j=[]:=by rw [iJ,if_neg (by omega)]
theorem Re {k n j:Nat} (h:n<=k):gz a b n k j=iJ b (k-n) j:=by rw [gz,if_pos h]
theorem Rf (h:Sy u 15 225 4 0 n a b am) (hn:n<=4):∃ d,resS (0+n) (0+n) (vJ a b) nP false=some d/\En u (2 ^ 100) 40 d/\∀ x,ev x am≠0->ev x d=ev x am ^ n:=by
 refine⟨mf am n,VB h hn (by omega) (by omega) (by omega),(uA h.em h.u4 n).mono ?_ (by omega),fun x _=>ev_pow x h.em.v.nat n⟩;exact Nat.le_trans (Nat.pow_le_pow_right (by omega) hn) (by decide +kernel)
theorem Rh (h:Sy u 15 225 4 1 n a b am) (hn:n<=4):∃ d,resS (1+n) (1+n) (vJ a b) nP false=some d/\En u (2 ^ 100) 40 d/\∀ x c,ev x am≠0->ev x (a.getD 0 [])=-(c*ev x am)->ev x d=ev x am ^ n*sL x (fun i=>c ^ i) b:=by
 refine⟨_,VC h hn (by omega) (by omega) (by omega),(wY h n n n).mono ?_ (by omega),fun x c _ hc=>?_⟩
 ·exact Nat.le_trans (Nat.mul_le_mul (Nat.pow_le_pow_right (by omega) hn) (Nat.le_refl _)) (by decide +kernel)
 ·have la:=h.la
  rw [zh h x,(MO (fun k=>by rw [yD h]) (fun k=>by
   have:=Ct (l:=a) (k:=k) (i:=0) (by omega);rw [la] at this
   rw [show k+1=k+(1+1-1-0) by omega,this,hc]) (fun k j hj=>by rw [MQ (by omega),di]) n n (Nat.le_refl _)).1]
  rw [dC (n:=n+1) (g:=fun j=>ev x (iJ b 0 j)*(fun i=>c ^ i) (n-j)) fun j _=>by
   rw [Re (Nat.le_refl n),Nat.sub_self],Gc x h.lb,sL,h.lb]
theorem Ri (h:Sy u 15 225 4 2 n a b am) (hn:n<=4):∃ d,resS (2+n) (2+n) (vJ a b) nP false=some d/\En u (2 ^ 100) 40 d/\∀ x c1 c0,ev x am≠0->ev x (a.getD 1 [])=c1*ev x am->ev x (a.getD 0 [])=c0*ev x am ->
  ev x d=ev x am ^ n*nu c1 c0 (sL x (fun i=>(gq c1 c0 i).1) b) (sL x (fun i=>(gq c1 c0 i).2) b):=by
 have la:=h.la;have ea:=Ur (fun j=>h.ea 0 j);have eb:=Ur (fun j=>h.eb 0 j);have g1:En u 15 2 (a.getD 1 []):=by have:=Ct (l:=a) (k:=0) (i:=1) (by omega);rw [<- this];exact h.ea _ _
 have g0:En u 15 2 (a.getD 0 []):=by have:=Ct (l:=a) (k:=0) (i:=0) (by omega);rw [<- this];exact h.ea _ _
 have hd:=WY h.u4 g0 g1 h.em b eb
 have hB:dB b.length<=2 ^ 100:=by
  rw [h.lb];have:∀ k,k<=4->dB (k+1)<=2 ^ 100:=by decide +kernel
  exact this n hn
 have key:∀ x c1 c0,ev x am≠0->ev x (a.getD 1 [])=c1*ev x am->ev x (a.getD 0 [])=c0*ev x am ->
   ev x (dP (a.getD 0 []) (a.getD 1 []) am b)=ev x am ^ n*nu c1 c0 (sL x (fun i=>(gq c1 c0 i).1) b) (sL x (fun i=>(gq c1 c0 i).2) b):=fun x c1 c0 hne e1 e0=>by
  have:=(W9 h.u4 g0 g1 h.em x e1 e0 b fun c hc=>(eb c hc).v).2;rw [h.lb,show ev x am ^ (n+1)=ev x am ^ n*ev x am from Rat.pow_succ _ _] at this;grind
 refine⟨dP (a.getD 0 []) (a.getD 1 []) am b,VD h hn (by omega) (by omega) (by omega) hd hB (by have:=h.lb;omega) ?_,hd.mono hB (by have:=h.lb;omega),key⟩;have en:=wY h n
 have eq:aQ (dP (a.getD 0 []) (a.getD 1 []) am b) (mf am n)=dK (aQ (FF a am (gz a b n) n n n) (FF a am (gz a b n) n (n+1) (n+1))) (aQ (FF a am (gz a b n) n (n+1) n) (FF a am (gz a b n) n n (n+1))):=by
  refine Rc (aV.mul _ _) (aV.sub _ _) h.em.v h.ne fun x hne=>?_;obtain⟨c1,e1⟩:∃ c1,ev x (a.getD 1 [])=c1*ev x am:=⟨ev x (a.getD 1 []) / ev x am,by grind⟩;obtain⟨c0,e0⟩:∃ c0,ev x (a.getD 0 [])=c0*ev x am:=⟨ev x (a.getD 0 []) / ev x am,by grind⟩;rw [ev_mul x hd.v.nat (aV.pow _ _).nat,ev_pow x h.em.v.nat,key x c1 c0 hne e1 e0,ev_sub x (aV.mul _ _).nat (aV.mul _ _),ev_mul x (en _ _).v.nat (en _ _).v.nat,ev_mul x (en _ _).v.nat (en _ _).v.nat,zh h x,zh h x,zh h x,zh h x]
  have hr:=fun i hi=>MN (A:=fun k j=>ev x (iJ a k j)) (F:=fun i j=>ev x (gz a b n i j)) (am:=ev x am) (c1:=c1) (c0:=c0) (fun k=>by rw [yD h]) (fun k=>by
   have:=Ct (l:=a) (k:=k) (i:=1) (by omega);rw [la] at this
   rw [show k+1=k+(2+1-1-1) by omega,this,e1]) (fun k=>by
   have:=Ct (l:=a) (k:=k) (i:=0) (by omega);rw [la] at this
   rw [show k+2=k+(2+1-1-0) by omega,this,e0]) (fun k j hj=>by rw [MQ (by omega),di]) i n hi
  obtain⟨r1,r2,-⟩:=hr n (Nat.le_refl _);obtain⟨r3,r4,-⟩:=hr (n+1) (by omega);rw [r1,r2,r3,r4]
  have s0:∀ g:Nat->Rat,bf (fun j=>ev x (gz a b n n j)*g (n+1-j)) (n+2)=sL x (fun i=>g (i+1)) b:=fun g=>by
   rw [dC (n:=n+2) (g:=fun j=>ev x (iJ b 0 j)*g (n+1-j)) fun j _=>by rw [Re (Nat.le_refl n),Nat.sub_self],Q9 x h.lb,sL,h.lb]
  have s1:∀ g:Nat->Rat,bf (fun j=>ev x (gz a b n (n+1) j)*g (n+1-j)) (n+2)=sL x g b:=fun g=>by
   rw [dC (n:=n+2) (g:=fun j=>ev x (iJ b 1 j)*g (n+1-j)) fun j _=>by rw [Re (by omega),show n+1-n=1 by omega],Ra x h.lb,sL,h.lb]
  rw [s0 (fun i=>(gq c1 c0 i).1),s0 (fun i=>(gq c1 c0 i).2),s1 (fun i=>(gq c1 c0 i).1),s1 (fun i=>(gq c1 c0 i).2)];rw [qQ x (g:=fun i=>(gq c1 c0 (i+1)).1) (h:=fun i=>(-c1)*(gq c1 c0 i).1+1*(gq c1 c0 i).2) fun i=>by simp only [gq];grind];rw [qQ x (g:=fun i=>(gq c1 c0 (i+1)).2) (h:=fun i=>(-c0)*(gq c1 c0 i).1+0*(gq c1 c0 i).2) fun i=>by simp only [gq];grind];rw [Cs,Cs];generalize sL x (fun i=>(gq c1 c0 i).1) b=P;generalize sL x (fun i=>(gq c1 c0 i).2) b=S;generalize ev x am ^ n=W;unfold nu;grind
 intro x;have:=congrArg (ev x) eq;rw [ev_mul x hd.v.nat (aV.pow _ _).nat,ev_pow x h.em.v.nat,ev_sub x (aV.mul _ _).nat (aV.mul _ _),ev_mul x (en _ _).v.nat (en _ _).v.nat,ev_mul x (en _ _).v.nat (en _ _).v.nat] at this;exact this
end
end Q
end
section
namespace Q
open Go Go.Proofs.YtopclbeomcggiaaGreat
structure vH (u v B E:Nat) (p:List ai):Prop where
 vl:aV p
 d:∀ t∈p,Dv 1 t.2
 b:bD p<=(B:Rat)
 e:∀ t∈p,t.1.get u<=E/\t.1.get v<=E
 o:∀ t∈p,∀ x,x<4->x≠u->x≠v->t.1.get x=0
theorem vH.mono {u v B E B' E':Nat} {p:List ai} (h:vH u v B E p) (hB:B<=B') (hE:E<=E'):vH u v B' E' p :=
 ⟨h.vl,h.d,Rat.le_trans h.b (Rat.natCast_le_natCast.2 hB),fun t ht=>by have:=h.e t ht;omega,h.o⟩
theorem vH.bd {u v B E:Nat} {p:List ai} (h:vH u v B E p):Bd ⟨1,B,E,p.length⟩ p:=by
 refine⟨Nat.le_refl _,fun t ht=>?_,h.d,h.b⟩
 have g:∀ x,x<4->0<=t.1.get x/\t.1.get x<=E:=fun x hx=>by
  refine⟨Ex.nat_get (h.vl.nat t ht) x,?_⟩;by_cases hxu:x=u
  ·subst hxu;exact (h.e t ht).1
  ·by_cases hxv:x=v
   ·subst hxv;exact (h.e t ht).2
   ·rw [h.o t ht x hx hxu hxv];omega
 have g0:=g 0 (by omega);have g1:=g 1 (by omega);have g2:=g 2 (by omega);have g3:=g 3 (by omega);simp only [Ex.get] at g0 g1 g2 g3;dsimp only;omega
theorem vH.coeff {u v B E:Nat} {p:List ai} (h:vH u v B E p) (hu:u<4) (hv:v<4) (huv:u≠v) (i:Int):En u B E (aD p v i):=by
 have hb:=IA h.bd v i;refine⟨h.vl.coeff v i,hb.d,hb.b,fun t ht=>?_,fun t ht x hx hxu=>?_⟩
 ·obtain⟨s,hs,rfl⟩:=List.mem_map.1 ht;have:=(List.mem_filter.1 hs).1;show (s.1.put v 0).get u<=_;rw [Ex.get_put_ne _ hv hu (Ne.symm huv)];exact (h.e s this).1
 ·obtain⟨s,hs,rfl⟩:=List.mem_map.1 ht;have:=(List.mem_filter.1 hs).1;show (s.1.put v 0).get x=0;by_cases hxv:x=v
  ·subst hxv;exact Ex.get_put _ _ _
  ·rw [Ex.get_put_ne _ hv hx (Ne.symm hxv)];exact h.o s this x hx hxu hxv
theorem kX {p:List ai} (h:aV p) (hne:p≠[]) (v:Nat):aG p v=((aG p v).toNat:Int):=by
 obtain⟨t,ht,e⟩:=kQ hne h.nat v;have:=Ex.nat_get (h.nat t ht) v;omega
theorem vH.deg {u v B E:Nat} {p:List ai} (h:vH u v B E p) (hne:p≠[]):(aG p v).toNat<=E:=by
 obtain⟨t,ht,e⟩:=kQ hne h.vl.nat v;have:=h.e t ht;omega
section
variable {u v:Nat} {a b c:List ai}
theorem Xa (hu:u<4) (hv:v<4) (huv:u≠v) (ha:vH u v 15 2 a) (hb:vH u v 225 4 b) (na:a≠[]) (nb:b≠[]) :
  Sy u 15 225 4 (aG a v).toNat (aG b v).toNat (aB a v) (aB b v) (aD a v (aG a v)):=by
 have da:=kX ha.vl na v;have db:=kX hb.vl nb v
 have row:∀ {p:List ai} {B E:Nat},vH u v B E p->∀ i j,En u B E (iJ (aB p v) i j):=fun {p B E} hp i j=>by
  rw [iJ];split
  ·next h =>
   rw [aW] at h;rw [aW,ja (by omega)];exact hp.coeff hu hv huv _
  ·exact En.nil _ _ _
 refine⟨hu,by rw [aW];omega,by rw [aW];omega,?_,ha.vl.coeff_ne na v,row ha,row hb,ha.coeff hu hv huv _,by omega,by omega⟩;rw [ja (by omega),<- da]
theorem TJ (va:aV a) (vb:aV b) (na:a≠[]) (nb:b≠[]):yj a b v=resS ((aG a v).toNat+(aG b v).toNat) ((aG a v).toNat+(aG b v).toNat) (vJ (aB a v) (aB b v)) nP false:=by
 have da:=kX va na v;have db:=kX vb nb v;rw [yj,if_neg (by rintro (h|h) <;> contradiction),aW,aW,show (aG a v+1).toNat - 1=(aG a v).toNat by omega,show (aG b v+1).toNat - 1=(aG b v).toNat by omega]
theorem yF (x:Pt) (g:Nat->Rat) (vb:aV b):sL x g (aB b v)=Lf (fun e=>kP x (e.put v 0)*g (e.get v).toNat) b:=by
 rw [sL,aW,xc x v g _ vb.nat EU];exact dC fun i hi=>by rw [ja hi]
theorem Cu (x:Pt) (c:Rat) (p:List ai):Lf (fun e=>kP x (e.put v 0)*c ^ (e.get v).toNat) p=ev (x.put v c) p:=gK fun t _=>(zD x t.1 v c).symm
theorem TK (hu:u<4) (hv:v<4) (huv:u≠v) (ha:vH u v 15 2 a) (hb:vH u v 225 4 b) (na:a≠[]) (nb:b≠[]) :
  ∃ d,yj a b v=some d/\En u (2 ^ 100) 40 d/\∀ x,ev x (aD a v (aG a v))≠0 ->
   (aG a v=0->ev x d=ev x (aD a v (aG a v)) ^ (aG b v).toNat) /\
   (aG a v=1->∀ c,ev x (aD a v 0)=-(c*ev x (aD a v 1))->ev x d=ev x (aD a v 1) ^ (aG b v).toNat * ev (x.put v c) b) /\
   (aG a v=2->∀ c1 c0,ev x (aD a v 1)=c1*ev x (aD a v 2)->ev x (aD a v 0)=c0*ev x (aD a v 2)->ev x d=ev x (aD a v 2) ^ (aG b v).toNat * nu c1 c0 (lY x v c1 c0 b) (qR x v c1 c0 b)):=by
 have sy:=Xa hu hv huv ha hb na nb;have hm:=ha.deg na;have hn:=hb.deg nb;have da:=kX ha.vl na v;have db:=kX hb.vl nb v;rw [TJ ha.vl hb.vl na nb];have g:∀ i:Nat,i<(aG a v+1).toNat->(aB a v).getD i []=aD a v i:=fun i hi=>ja hi;obtain h0|h0|h0:(aG a v).toNat=0\/(aG a v).toNat=1\/(aG a v).toNat=2:=by omega
 ·rw [h0] at sy ⊢;obtain⟨d,h1,h2,h3⟩:=Rf sy hn;exact⟨d,h1,h2,fun x hx=>⟨fun _=>h3 x hx,fun h=>by omega,fun h=>by omega⟩⟩
 ·rw [h0] at sy ⊢;obtain⟨d,h1,h2,h3⟩:=Rh sy hn;refine⟨d,h1,h2,fun x hx=>⟨fun h=>by omega,fun h c hc=>?_,fun h=>by omega⟩⟩;rw [g 0 (by omega)] at h3;have e1:aD a v (aG a v)=aD a v 1:=by rw [h]
  rw [e1] at h3 hx;rw [h3 x c hx hc,yF x _ hb.vl,Cu]
 ·rw [h0] at sy ⊢;obtain⟨d,h1,h2,h3⟩:=Ri sy hn;refine⟨d,h1,h2,fun x hx=>⟨fun h=>by omega,fun h=>by omega,fun h c1 c0 k1 k0=>?_⟩⟩;rw [g 0 (by omega),g 1 (by omega)] at h3;have e1:aD a v (aG a v)=aD a v 2:=by rw [h]
  rw [e1] at h3 hx;rw [h3 x c1 c0 hx k1 k0,yF x _ hb.vl,yF x _ hb.vl];rfl
end
theorem Cv (L:List uK) {u v:Nat} (h:u=0/\v=1\/u=1/\v=0):vH u v 15 2 (fC L):=by
 have hp:=uq L;have hx:=Oi L;refine⟨hp.v,hp.b.d,hp.b.b,fun t ht=>?_,fun t ht x hx4 hxu hxv=>?_⟩
 ·obtain⟨h0,h1,h2,h3⟩:=hx t ht;rcases h with ⟨rfl,rfl⟩|⟨rfl,rfl⟩ <;> simp only [Ex.get] <;> omega
 ·obtain⟨h0,h1,h2,h3⟩:=hx t ht;have:x=2\/x=3:=by omega
  rcases this with rfl|rfl <;> simp only [Ex.get] <;> omega
end Q
end
section
namespace Q
open MP Go.Proofs.YtopclbeomcggiaaGreat
def wt (B:Int) (e:Ex):Int:=e.1+B*(e.2.1+B*(e.2.2.1+B*e.2.2.2))
theorem VF (B:Int) (e f:Ex):wt B (e.add f)=wt B e+wt B f:=by simp only [wt,Ex.add];grind
theorem VG (B:Int) (e f:Ex):wt B (e.sub f)=wt B e-wt B f:=by simp only [wt,Ex.sub];grind
theorem dG {B x x' h h':Int} (hB:0<=B) (hx:x<=B-1) (hx':0<=x') (hlt:h<h'):x+B*h<x'+B*h':=by
 have:=Int.mul_le_mul_of_nonneg_left (show h+1<=h' by omega) hB;rw [Int.mul_add,Int.mul_one] at this;omega
theorem nz {B x h H:Int} (hB:0<=B) (hx:x<=B-1) (hh:h<=H-1):x+B*h<=B*H-1:=by
 have:=Int.mul_le_mul_of_nonneg_left (show h+1<=H by omega) hB;rw [Int.mul_add,Int.mul_one] at this;omega
theorem Xb {v d:Nat} {g u:Ex} (hg:g.nat=true) (hu:u.nat=true) (hd:∀ w,w<v->u.get w<=d) (hz:∀ w,v<w->w<4->u.get w=0/\g.get w=0) (h:g.gt u=true):wt ((d:Int)+1) u<wt ((d:Int)+1) g:=by
 rw [Ex.gt_iff] at h;rw [Ex.nat_iff] at hg hu;have d0:=hd 0;have d1:=hd 1;have d2:=hd 2;have z1:=hz 1;have z2:=hz 2;have z3:=hz 3;simp only [Ex.get] at d0 d1 d2 z1 z2 z3;have hB:(0:Int)<=(d:Int)+1:=by omega
 unfold wt;rcases h with h|⟨e3,h|⟨e2,h|⟨e1,h⟩⟩⟩
 ·have hv:3<=v:=by
   rcases Nat.lt_or_ge v 3 with h'|h'
   ·have:=z3 h' (by omega);omega
   ·exact h'
  exact dG hB (by have:=d0 (by omega);omega) (by omega) (dG hB (by have:=d1 (by omega);omega) (by omega) (dG hB (by have:=d2 (by omega);omega) (by omega) h))
 ·have hv:2<=v:=by
   rcases Nat.lt_or_ge v 2 with h'|h'
   ·have:=z2 h' (by omega);omega
   ·exact h'
  rw [e3];exact dG hB (by have:=d0 (by omega);omega) (by omega) (dG hB (by have:=d1 (by omega);omega) (by omega) (by omega))
 ·have hv:1<=v:=by
   rcases Nat.lt_or_ge v 1 with h'|h'
   ·have:=z1 h' (by omega);omega
   ·exact h'
  rw [e3,e2];exact dG hB (by have:=d0 (by omega);omega) (by omega) (by omega)
 ·rw [e3,e2,e1];omega
def Rj (v d M:Nat):Nat:=(M+1)*(d+1) ^ v
theorem Xc {v d M:Nat} {e:Ex} (hv:v<4) (hd:∀ w,w<v->e.get w<=d) (hm:e.get v<=M) (hz:∀ w,v<w->w<4->e.get w=0):wt ((d:Int)+1) e<=(Rj v d M:Nat):=by
 have d0:=hd 0;have d1:=hd 1;have d2:=hd 2;have z1:=hz 1;have z2:=hz 2;have z3:=hz 3;simp only [Ex.get] at d0 d1 d2 z1 z2 z3;have hB:(0:Int)<=(d:Int)+1:=by omega
 have e1:((Rj v d M:Nat):Int)=((M:Int)+1)*((d:Int)+1) ^ v:=by
  unfold Rj;rw [Int.natCast_mul,Int.natCast_pow];rfl
 rw [e1];unfold wt;obtain rfl|rfl|rfl|rfl:v=0\/v=1\/v=2\/v=3:=by omega
 ·simp only [Ex.get] at hm;rw [z1 (by omega) (by omega),z2 (by omega) (by omega),z3 (by omega) (by omega),Int.mul_zero,Int.add_zero,Int.mul_zero,Int.add_zero,Int.mul_zero,Int.add_zero,Int.pow_zero,Int.mul_one];omega
 ·simp only [Ex.get] at hm;rw [z2 (by omega) (by omega),z3 (by omega) (by omega),Int.mul_zero,Int.add_zero,Int.mul_zero,Int.add_zero];have:=nz (h:=e.2.1) (H:=(M:Int)+1) hB (show e.1<=_ by have:=d0 (by omega);omega) (by omega);have e2:((M:Int)+1)*((d:Int)+1) ^ 1=((d:Int)+1)*((M:Int)+1):=by grind
  rw [e2];omega
 ·simp only [Ex.get] at hm;rw [z3 (by omega) (by omega),Int.mul_zero,Int.add_zero];have h1:=nz (h:=e.2.2.1) (H:=(M:Int)+1) hB (show e.2.1<=_ by have:=d1 (by omega);omega) (by omega);have h2:=nz hB (show e.1<=_ by have:=d0 (by omega);omega) h1;have e2:((M:Int)+1)*((d:Int)+1) ^ 2=((d:Int)+1)*(((d:Int)+1)*((M:Int)+1)):=by grind
  rw [e2];omega
 ·simp only [Ex.get] at hm;have h1:=nz (h:=e.2.2.2) (H:=(M:Int)+1) hB (show e.2.2.1<=_ by have:=d2 (by omega);omega) (by omega);have h2:=nz hB (show e.2.1<=_ by have:=d1 (by omega);omega) h1;have h3:=nz hB (show e.1<=_ by have:=d0 (by omega);omega) h2;have e2:((M:Int)+1)*((d:Int)+1) ^ 3=((d:Int)+1)*(((d:Int)+1)*(((d:Int)+1)*((M:Int)+1))):=by grind
  rw [e2];omega
def TL (v d W:Nat) (w:Nat):Nat:=if w<=v then W / (d+1) ^ w else 0
theorem Xd {B:Int} (hB:0<=B) {e:Ex} (he:e.nat=true):e.1<=wt B e/\e.2.1*B<=wt B e/\e.2.2.1*B ^ 2<=wt B e/\e.2.2.2*B ^ 3<=wt B e:=by
 rw [Ex.nat_iff] at he;obtain⟨h0,h1,h2,h3⟩:=he;have a1:=Int.mul_nonneg hB h1;have a2:=Int.mul_nonneg hB (Int.mul_nonneg hB h2);have a3:=Int.mul_nonneg hB (Int.mul_nonneg hB (Int.mul_nonneg hB h3));have e1:wt B e=e.1+B*e.2.1+B*(B*e.2.2.1)+B*(B*(B*e.2.2.2)):=by unfold wt;grind
 have e2:e.2.1*B=B*e.2.1:=Int.mul_comm _ _;have e3:e.2.2.1*B ^ 2=B*(B*e.2.2.1):=by grind
 have e4:e.2.2.2*B ^ 3=B*(B*(B*e.2.2.2)):=by grind
 rw [e1,e2,e3,e4];omega
theorem VH {v d W:Nat} {e:Ex} (he:e.nat=true) (hw:wt ((d:Int)+1) e<=W) (hz:∀ w,v<w->w<4->e.get w=0):KH (TL v d W) e:=by
 refine⟨he,fun w h4=>?_⟩;unfold TL;split
 ·have hn:=Ex.nat_get he w;obtain⟨k,hk⟩:∃ k:Nat,e.get w=k:=⟨(e.get w).toNat,by omega⟩;rw [hk];refine Int.ofNat_le.2 ((Nat.le_div_iff_mul_le (Nat.pow_pos (by omega))).2 ?_);refine Int.ofNat_le.1 (Int.le_trans ?_ hw);obtain⟨g0,g1,g2,g3⟩:=Xd (B:=(d:Int)+1) (by omega) he;have e5:((k*(d+1) ^ w:Nat):Int)=e.get w*((d:Int)+1) ^ w:=by rw [hk,Int.natCast_mul,Int.natCast_pow];rfl
  rw [e5];obtain rfl|rfl|rfl|rfl:w=0\/w=1\/w=2\/w=3:=by omega
  ·rw [Int.pow_zero,Int.mul_one];exact g0
  ·rw [show ((d:Int)+1) ^ 1=(d:Int)+1 by grind];exact g1
  ·exact g2
  ·exact g3
 ·rw [hz w (by omega) h4];omega
theorem In.inv {b:Nat} {p:MP} (h:In b p) (h0:p≠0):In b (c (1 / Q.hd p)):=by
 obtain⟨D,H,h1,h2,h3,h4⟩:=h
 obtain⟨z,hz⟩:∃ z:Int,Q.hd p*(D:Rat)=(z:Rat):=by
  obtain⟨t,ht,e⟩:=yA h0;rw [e];exact h4.d t ht
 have hD0:(D:Rat)≠0:=jk h1;have hh:=ze h0;have hd1:=F5 h0
 have hz0:z≠0:=fun e=>by
  rw [e] at hz;exact je hh hD0 hz
 have hrz:((z.natAbs:Nat):Rat)=bH (z:Rat):=(Q.rabs_int z).symm
 have hzH:z.natAbs<=H:=by
  have e1:=Rat.mul_le_mul_of_nonneg_left (MF h0) (bW D);have e2:bH (z:Rat)=(D:Rat)*bH (Q.hd p):=by rw [<- hz,jo,bJ (bW D)];grind
  have e3:((z.natAbs:Nat):Rat)<=(H:Rat):=by rw [hrz,e2];exact Rat.le_trans e1 h4.a
  exact Rat.natCast_le_natCast.1 e3
 refine⟨z.natAbs,D,by omega,by omega,h2,NU ?_,?_⟩
 ·rcases Int.natAbs_eq z with e|e
  ·refine⟨D,?_⟩;rw [<- Rat.intCast_natCast,<- e,<- hz,Rat.intCast_natCast];grind
  ·refine⟨-D,?_⟩;rw [<- Rat.intCast_natCast,show ((z.natAbs:Nat):Int)=-z by omega,Rat.intCast_neg,Rat.intCast_neg,<- hz,Rat.intCast_natCast];grind
 ·rw [Ij,hrz,<- hz,jo,bJ (bW D)];have e5:bH (Q.hd p)*bH (1 / Q.hd p)=1:=by rw [<- jo,hd1];exact qD
  have:bH (Q.hd p)*(D:Rat)*bH (1 / Q.hd p)=(bH (Q.hd p)*bH (1 / Q.hd p))*(D:Rat):=by grind
  rw [this,e5,Rat.one_mul];exact Rat.le_refl
def MR (e:Ex) (h:e.nat=true):MP:=⟨[(e,1)],zF h (by decide)⟩
theorem EA (e:Ex) (h:e.nat=true):qw 1 1 (MR e h):=by
 refine⟨fun t ht=>by rw [List.mem_singleton.1 ht];exact Dv.int 1 1,?_⟩;show ((1:Nat):Rat)*(bH 1+0)<=((1:Nat):Rat);rw [qD,Rat.add_zero,Rat.mul_one];exact Rat.le_refl
theorem VI {e:Ex} (h:e.nat=true) {r:Rat} (hr:r≠0) (hv:aV [(e,r)]):(⟨[(e,r)],hv⟩:MP)=c r*MR e h:=by
 refine MP.eq_of ?_;rw [um];show [(e,r)]=bY [(e,1)] r;rw [bY,if_neg hr];show [(e,r)]=[(e,1*r)];rw [Rat.one_mul]
theorem MS {v d W b0 bz:Nat} {z:MP} {g:ai} {ts:List ai} (hl:z.l=g::ts) (hzd:∀ t∈z.l,(∀ w,w<v->t.1.get w<=d)/\∀ w,v<w->w<4->t.1.get w=0) (hz:In bz z) {dB:Nat->Nat} (hB:∀ e:Ex,e.nat=true->wt ((d:Int)+1) e<=W->(∀ w,v<w->w<4->e.get w=0)->KH dB e) (hbx:bx dB<=10000) (hlb:b0+bz+(bx dB+1)*(bz+1)<LB) :
  ∀ (n:Nat) (a:MP) (out:List ai) (S:List Ex),S.Nodup->(∀ e∈S,KH dB e)->(∀ e∈S,∀ t∈a.l,e.gt t.1=true)->(∀ t∈a.l,wt ((d:Int)+1) t.1<=W/\∀ w,v<w->w<4->t.1.get w=0)->In (b0+S.length*(bz+1)) a->bx dB+1<=n+S.length->∃ r,qH (g::ts) g n a.l out=some r
 | 0,a,out,S,hS,hSb,_,_,_,hn=>by have:=F7 hS hSb;omega
 | n+1,a,out,S,hS,hSb,hSg,ha,hi,hn=>by
  have z0:z≠0:=fun h=>by have:=zero_iff.1 h;rw [hl] at this;cases this
  have hz0:g.2≠0:=(z.v.2 g (by rw [hl];simp)).1;have hgz:g∈z.l:=by rw [hl];simp
  cases ea:a.l with
  | nil=>exact⟨_,by rw [qH]⟩
  | cons m a' =>
   have hma:m∈a.l:=by rw [ea];simp
   have a0:a≠0:=fun h=>by have:=zero_iff.1 h;rw [ea] at this;cases this
   have hm:=ha m hma;have hmn:=(a.v.2 m hma).2;have hmB:=hB m.1 hmn hm.1 hm.2;have hS':(m.1::S).Nodup:=List.nodup_cons.2 ⟨fun h=>(by have:=hSg _ h m hma;rw [Ex.gt_irrefl] at this;cases this),hS⟩
   have hSb':∀ e∈m.1::S,KH dB e:=fun e he=>by
    rcases List.mem_cons.1 he with rfl|he
    ·exact hmB
    ·exact hSb e he
   have hlen:=F7 hS' hSb';rw [List.length_cons] at hlen;have hmul:=Nat.mul_le_mul_right (bz+1) (show S.length+1<=bx dB+1 by omega);rw [Nat.add_mul S.length,Nat.one_mul] at hmul;have hw1:=rT (MH fun t ht=>hB t.1 (a.v.2 t ht).2 (ha t ht).1 (ha t ht).2) hi hbx (by omega);rw [ea] at hw1;rw [qH,if_pos hw1];by_cases hq:(m.1.sub g.1).nat=true
   ·rw [if_pos hq];have va:aV (m::a'):=ea ▸ a.v;have hqv:=P6 va hz0 hq;have hmz:m.2≠0:=(a.v.2 m hma).1;have hzi:hd z=g.2:=Cf hl;have hdm:hd a=m.2:=Cf ea
    have hinv:(1:Rat) / g.2≠0:=fun h=>by
     have:=F5 z0;rw [hzi,h] at this;grind
    have eqr:m.2 / g.2=m.2*(1 / g.2):=by
     have h1:=Rat.div_mul_cancel (a:=1) hz0;have h2:=Rat.div_mul_cancel (a:=m.2) hz0;have h3:(m.2 / g.2-m.2*(1 / g.2))*g.2=0:=by grind
     rcases Rat.mul_eq_zero.1 h3 with h|h
     ·grind
     ·exact absurd h hz0
    have et:(⟨[ji m g],hqv⟩:MP)=c (hd a)*(c (1 / hd z)*MR _ hq):=by
     have hvv:aV [(m.1.sub g.1,m.2*(1 / g.2))]:=by rw [<- eqr];exact hqv
     have:=VI hq (je hmz hinv) hvv;rw [hzi,hdm];have e2:c (m.2*(1 / g.2))=c m.2*c (1 / g.2):=(lv _ _).symm;rw [e2] at this;have e3:(⟨[ji m g],hqv⟩:MP)=⟨[(m.1.sub g.1,m.2*(1 / g.2))],hvv⟩:=MP.eq_of (congrArg (fun x=>[(m.1.sub g.1,x)]) eqr);rw [e3,this];grind
    have hit:In (b0+S.length*(bz+1)+(bz+0)) (⟨[ji m g],hqv⟩:MP):=by
     rw [et];exact (hi.hd a0).mul ((hz.inv z0).mul ⟨1,1,by omega,Nat.le_refl _,Nat.le_refl _,EA _ hq⟩)
    have hw2:=rT (d:=dB) (p:=(⟨[ji m g],hqv⟩:MP)) (MH fun t ht=>by
     rw [List.mem_singleton.1 ht];refine⟨hq,fun w hw=>?_⟩;have h1:=hmB.2 w hw;have h2:=Ex.nat_get (z.v.2 g hgz).2 w;show (m.1.sub g.1).get w<=_
     have h3:(m.1.sub g.1).get w=m.1.get w-g.1.get w:=by
      rcases w with _|_|_|w <;> rfl
     omega) hit hbx (by omega)
    rw [if_pos hw2];obtain⟨t,ht⟩:∃ t:MP,t=⟨[ji m g],hqv⟩:=⟨_,rfl⟩
    have e2:dK (m::a') (aQ (g::ts) [ji m g])=(a-z*t).l:=by
     rw [ht,<- ea,<- hl];rfl
    have e3:(a-z*t).l=canon (Vu a' ts (ji m g)):=by rw [<- e2];exact Vv hmn hz0
    rw [e2]
    have hP:∀ u∈(a-z*t).l,m.1.gt u.1=true/\wt ((d:Int)+1) u.1<=W/\∀ w,v<w->w<4->u.1.get w=0:=by
     rw [e3];refine gL (P:=fun e=>m.1.gt e=true/\wt ((d:Int)+1) e<=W/\∀ w,v<w->w<4->e.get w=0) fun u hu=>?_;rcases List.mem_append.1 hu with hu|hu
     ·exact⟨va.1.head u hu,ha u (by rw [ea];simp [hu])⟩
     ·obtain⟨s,hs,rfl⟩:=List.mem_map.1 hu;have hsz:s∈z.l:=by rw [hl];simp [hs]
      have hgs:g.1.gt s.1=true:=(hl ▸ z.v:aV (g::ts)).1.head s hs;have h1:=hgs
      have h2:m.1=(m.1.sub g.1).add g.1:=by
       simp only [Ex.add,Ex.sub];refine Ex.ext' ?_ ?_ ?_ ?_ <;> simp only <;> omega
      have h3:(s.1.add (m.1.sub g.1))=(m.1.sub g.1).add s.1:=Ex.add_comm _ _;refine⟨?_,?_,fun w h1 h4=>?_⟩
      ·show m.1.gt (s.1.add (m.1.sub g.1))=true;rw [h3];rw [<- Ex.gt_add (m.1.sub g.1),<- h2] at h1;exact h1
      ·show wt _ (s.1.add (m.1.sub g.1))<=_;have h5:=Xb (z.v.2 g hgz).2 (z.v.2 s hsz).2 (hzd s hsz).1 (fun w h1 h2=>⟨(hzd s hsz).2 w h1 h2,(hzd g hgz).2 w h1 h2⟩) hgs;rw [VF,VG];have:=hm.1;omega
      ·show (s.1.add (m.1.sub g.1)).get w=0;have h6:=(hzd s hsz).2 w h1 h4;have h7:=(hzd g hgz).2 w h1 h4;have h8:=hm.2 w h1 h4
       have h9:(m.1.sub g.1).get w=m.1.get w-g.1.get w:=by
        rcases w with _|_|_|w <;> rfl
       rw [Ex.get_add];omega
    have hi2:In (b0+(m.1::S).length*(bz+1)) (a-z*t):=by
     obtain⟨D,H,h1,h2,h3,h4⟩:=hi;obtain⟨L,K,k1,k2,k3,k4⟩:=hz.nrm;have e4:z*t=c (hd a)*(MR _ hq*nrm z):=by rw [ht,et,nrm];grind
     have i1:=(h4.hd a0).mul ((EA _ hq).mul k4);rw [Nat.one_mul,Nat.one_mul,<- e4] at i1;have i2:=(h4.up L).sub i1
     have hpw:2 ^ (b0+(m.1::S).length*(bz+1))=2 ^ (b0+S.length*(bz+1))*2 ^ bz*2:=by
      rw [List.length_cons,Nat.add_mul,Nat.one_mul,<- Nat.add_assoc,<- Nat.add_assoc,Nat.pow_succ,Nat.pow_add]
     have p1:=Nat.mul_le_mul h2 k2;have p2:=Nat.mul_le_mul h3 k2;have p3:=Nat.mul_le_mul h3 k3;exact⟨D*L,H*L+H*K,Nat.mul_pos h1 k1,by omega,by omega,i2⟩
    exact MS hl hzd hz hB hbx hlb n (a-z*t) (out++[ji m g]) (m.1::S) hS' hSb' (fun e he u hu=>by
     rcases List.mem_cons.1 he with rfl|he
     ·exact (hP u hu).1
     ·exact Ex.gt_trans (hSg e he m hma) (hP u hu).1) (fun u hu=>(hP u hu).2) hi2 (by rw [List.length_cons];omega)
   ·rw [if_neg hq];exact⟨_,rfl⟩
theorem TM {v d M b0 bz:Nat} {a z:MP} (hv:v<4) (z0:z≠0) (ha:∀ w,w<v->a.deg w<=d) (hav:a.deg v<=M) (hz:∀ w,w<v->z.deg w<=d) (la:a.lo (v+1)) (lz:z.lo (v+1)) (ia:In b0 a) (iz:In bz z)
  (hbx:bx (TL v d (Rj v d M))<=10000) (hlb:b0+bz+(bx (TL v d (Rj v d M))+1)*(bz+1)<LB):∃ r,wM a.l z.l=some r:=by
 obtain⟨g,ts,hl⟩:=kW z0;have hd:∀ (p:MP) (w:Nat) (k:Int),p.deg w<=k->∀ t∈p.l,t.1.get w<=k:=fun p w k h t ht=>Int.le_trans (dU ht w) h
 obtain⟨r,hr⟩:=MS (v:=v) (d:=d) (W:=Rj v d M) (b0:=b0) (dB:=TL v d (Rj v d M)) hl (fun t ht=>⟨fun w hw=>hd z w d (hz w hw) t ht,fun w h1 h2=>fr_get (lz w h1 h2) ht⟩) iz
  (fun e he hw h=>VH he hw h) hbx hlb fuel a [] [] List.nodup_nil (fun e h=>by cases h) (fun e h=>by cases h)
  (fun t ht=>by
   have hzr:∀ w,v<w->w<4->t.1.get w=0:=fun w h1 h2=>fr_get (la w h1 h2) ht
   exact⟨Xc hv (fun w hw=>hd a w d (ha w hw) t ht) (hd a v M hav t ht) hzr,hzr⟩)
  (by simpa using ia) (by unfold fuel;simp only [List.length_nil];omega)
 exact⟨r,by rw [hl];exact hr⟩
end Q
end
