/- The reference's polynomials: Make, Equal, Same. The reference's polynomials: Var, Const, Whole, Equal, Same. law07.term. Slices of terms; facts for terms. Small laws of lists and cells. The reference's polynomials: times. The reference's lists of polynomials: SameList. The reference's polynomials: Deg, Coeff, Coeffs. -/
import Derived.Test.YtopclbeomcggiaaGreatC02
import Derived.Test.YtopclbeomcggiaaGreatC20
import Derived.Test.YtopclbeomcggiaaGreatC26
import Derived.Test.YtopclbeomcggiaaGreatC27
set_option linter.unusedVariables false
set_option linter.unusedSimpArgs false
set_option maxHeartbeats 16000000
set_option maxRecDepth 100000
section
namespace Q
theorem rabs_int (k:Int):rabs (k:Rat)=(k.natAbs:Rat):=by
 unfold rabs;rcases Int.lt_or_le k 0 with h|h
 ·rw [if_pos (by rw [show (0:Rat)=((0:Int):Rat) from rfl];exact Rat.intCast_lt_intCast.2 h)];rw [<- Rat.intCast_neg,<- Rat.intCast_natCast];congr 1;omega
 ·rw [if_neg (by rw [show (0:Rat)=((0:Int):Rat) from rfl];intro h';have:=Rat.intCast_lt_intCast.1 h';omega)];rw [<- Rat.intCast_natCast];congr 1;omega
theorem canon_snoc {l:List Trm} {k:Nat} {t:Trm} (h:l[k]?=some t):canon (l.take (k+1))=ins (canon (l.take k)) t:=by
 rw [List.take_add_one,h];simp [canon]
end Q
namespace Go.Proofs.YtopclbeomcggiaaGreat
open Go.RowKit Q
theorem dv_parts {D B:Nat} {c:Rat} (hD:0<D) (h:Dv D c) (hB:rabs c<=(B:Rat)):c.den∣D/\c.num.natAbs<=B*D:=by
 obtain⟨k,hk⟩:=h
 have hD0:(D:Rat)≠0:=by
  intro h;have:D=0:=Rat.natCast_inj.1 (by rw [h];rfl);omega
 have hc:c=Rat.divInt k D:=by
  rw [Rat.divInt_eq_div,Rat.intCast_natCast,<- hk];grind
 obtain⟨e1,e2⟩:=divInt_pos k D (by omega);rw [<- hc] at e1 e2
 have hden:c.den∣D:=by
  refine Int.natCast_dvd_natCast.1 ⟨(Int.gcd k D:Int),?_⟩;rw [e2];exact (Int.ediv_mul_cancel (Int.gcd_dvd_right _ _)).symm
 refine⟨hden,?_⟩;have h1:rabs c*(D:Rat)<=(B:Rat)*(D:Rat):=Rat.mul_le_mul_of_nonneg_right hB Rat.natCast_nonneg;have h2:rabs c*(D:Rat)=rabs (k:Rat):=by rw [<- hk,rabs_mul,rabs_of_pos (c:=(D:Rat)) Rat.natCast_nonneg]
 rw [h2,rabs_int,<- Rat.natCast_mul] at h1;have h3:k.natAbs<=B*D:=Rat.natCast_le_natCast.1 h1;have h4:c.num.natAbs<=k.natAbs:=by rw [e1];exact Int.natAbs_ediv_le_natAbs _ _
 omega
theorem mul_pow_lt {B D a b:Nat} (h:B<2 ^ a) (h':D<2 ^ b):B*D<2 ^ (a+b):=by rw [Nat.pow_add];exact Nat.mul_lt_mul'' h h'
theorem rs_of_dv {s:Sz} {c:Rat} (hs:s.ok) (h:Dv s.D c) (hB:rabs c<=(s.B:Rat)):Rs c:=by
 obtain⟨h1,h2⟩:=dv_parts hs.1 h hB;have hd:=Nat.le_of_dvd hs.1 h1;obtain⟨p1,p2,p3,p4,p5⟩:=hs;refine⟨by omega,?_⟩;have:=nbits_le (Nat.lt_of_le_of_lt h2 (mul_pow_lt (a:=1000) (b:=16) p3 (show s.D<2 ^ 16 from p2)));omega
end Go.Proofs.YtopclbeomcggiaaGreat
namespace Q
open Go Go.RowKit Q Go.Proofs.YtopclbeomcggiaaGreat
def Sz.okw (s:Sz):Prop:=0<s.D/\nbits s.D<=CAP / 32/\nbits s.B<=CAP / 32/\s.E<1000000/\s.N<=100000000
theorem Sz.ok.w {s:Sz} (h:s.ok):s.okw:=by
 obtain⟨h1,h2,h3,h4,h5⟩:=h;exact⟨h1,Nat.le_trans (den_bits h2) (by unfold CAP;omega),Nat.le_trans (nbits_le h3) (by unfold CAP;omega),h4,by omega⟩
theorem rk_of_dv {s:Sz} {c:Rat} (hs:s.okw) (h:Dv s.D c) (hB:rabs c<=(s.B:Rat)):Rk c:=by
 obtain⟨h1,h2⟩:=dv_parts hs.1 h hB;have hd:=Nat.le_of_dvd hs.1 h1;obtain⟨p1,p2,p3,p4,p5⟩:=hs;refine⟨Nat.le_trans (nbits_mono hd) (Nat.le_trans p2 (by unfold CAP;omega)),?_⟩;have h3:=nbits_mono h2;have h4:=nbits_mul s.B s.D;unfold CAP at *;omega
theorem Bd.rs {s:Sz} {l:List Trm} (h:Bd s l) (hs:s.ok):∀ t∈l,Rs t.2:=fun t ht=>rs_of_dv hs (h.d t ht) (Rat.le_trans (asum_mem ht) h.b)
end Q
namespace Go.Proofs.YtopclbeomcggiaaGreat
open Go.RowKit Q
end Go.Proofs.YtopclbeomcggiaaGreat
namespace Q
open Go Go.RowKit Q Go.Proofs.YtopclbeomcggiaaGreat
theorem Bd.inRw {s:Sz} {l:List Trm} (h:Bd s l) (hs:s.okw):∀ t∈l,InR t.1:=fun t ht=>InR.of (K:=s.E) (by have:=hs.2.2.2.1;omega) (h.e t ht)
theorem Bd.inR {s:Sz} {l:List Trm} (h:Bd s l) (hs:s.ok):∀ t∈l,InR t.1:=h.inRw hs.w
end Q
namespace Go.Proofs.YtopclbeomcggiaaGreat
open Go.RowKit Q
end Go.Proofs.YtopclbeomcggiaaGreat
namespace Q
open Go Go.RowKit Q Go.Proofs.YtopclbeomcggiaaGreat
theorem Bd.len {s:Sz} {l:List Trm} (h:Bd s l) (hs:s.ok):l.length<=100000000:=by have:=h.n;have:=hs.2.2.2.2;omega
end Q
namespace Go.Proofs.YtopclbeomcggiaaGreat
open Go.RowKit Q
end Go.Proofs.YtopclbeomcggiaaGreat
namespace Q
open Go Go.RowKit Q Go.Proofs.YtopclbeomcggiaaGreat
theorem Bd.take {s:Sz} {l:List Trm} (h:Bd s l) (k:Nat):Bd s (l.take k):=h.sub (List.take_sublist _ _)
end Q
namespace Go.Proofs.YtopclbeomcggiaaGreat
open Go.RowKit Q
theorem bd_cf_dv {s:Sz}:∀ {l:List Trm},(∀ t∈l,Dv s.D t.2)->∀ e,Dv s.D (cf l e)/\rabs (cf l e)<=asum l
|[],_,e=>⟨by rw [cf_nil];exact Dv.zero _,by rw [cf_nil];simp only [asum,rabs];split <;> grind⟩
|t::l,h,e=>by
  obtain⟨h1,h2⟩:=bd_cf_dv (s:=s) (l:=l) (fun t ht=>h t (by simp [ht])) e;rw [cf_cons];have h3:=h t (by simp);have h4:=rabs_nonneg t.2;split
  ·refine⟨h3.add h1,?_⟩;have:=rabs_add t.2 (cf l e);simp only [asum];grind
  ·have e0:0+cf l e=cf l e:=by grind
   rw [e0];refine⟨h1,?_⟩;simp only [asum];grind
end Go.Proofs.YtopclbeomcggiaaGreat
namespace Q
open Go Go.RowKit Q Go.Proofs.YtopclbeomcggiaaGreat
theorem Bd.rkw {s:Sz} {l:List Trm} (h:Bd s l) (hs:s.okw):∀ t∈l,Rk t.2:=fun t ht=>rk_of_dv hs (h.d t ht) (Rat.le_trans (asum_mem ht) h.b)
theorem Bd.oklw {s:Sz} {l:List Trm} (h:Bd s l) (hs:s.okw):Okl l where
 n:=Nat.le_trans h.n hs.2.2.2.2
 r:=fun t ht=>⟨h.inRw hs t ht,h.rkw hs t ht⟩
 c:=fun k e=>by
  obtain⟨h1,h2⟩:=bd_cf_dv (s:=s) (h.take k).d e;exact rk_of_dv hs h1 (Rat.le_trans h2 (h.take k).b)
end Q
namespace Go.Proofs.YtopclbeomcggiaaGreat
open Go.RowKit Q
theorem make7_any (v:Value) (l:List Trm) (s:Sz) (w:World) (h:IsPoly w v l) (hb:Bd s l) (hs:s.ok):Calls Tryz.prog 43 #[v] w (RetPoly w (canon l)):=by
 obtain⟨ap,cp,rfl,hcp⟩:=h.shape;have hlen:=hb.len hs;have hrs:=zH (hb.rs hs);have hck:=zH (fun k=>(hb.take k).canon.rs hs);have hcl:=zH (fun k=>(hb.take k).canon.len hs);clear hb
 go_enter Tryz.func43,Tryz.ntmps43
 go_wp2;have hb0:Below w.heap.size w (w.alloc (.cells #[] monoT)):=(Below.refl _ _).alloc (Nat.le_refl _) _;have hst:IsPoly (w.alloc (.cells #[] monoT)) (.slice (some ⟨w.heap.size,0,none⟩) 0 0) []:=(own_lit0 elTerm w).isSl;change Below w.heap.size w (w.alloc (.cells #[] 43)) at hb0;change IsPoly (w.alloc (.cells #[] 43)) _ _ at hst
 go_loopw [3,4] (fun o i wr=>∃ k:Nat,k<=l.length/\i=.int .i64 k/\Hid (IsPoly wr o (canon (l.take k)))/\Below w.heap.size w wr) (fun _ i _=>l.length-(intOf i).toNat)
 case atStart=>exact⟨0,by omega,rfl,zH hst,hb0⟩
 case round =>
  clear hst hb0;obtain⟨k,hk,rfl,hP,hbr⟩:=hrel;by_cases hkl:k<l.length
  ·have hjq:l[k]?=some l[k]:=List.getElem?_eq_getElem hkl;generalize l[k]=t at hjq;obtain⟨bp,op,csp,rfl,-,hE,hC⟩:=(h.on hbr).get hjq;change Cells monoT wr bp (op+k*8) _ at hC;have hkl':(k:Int)<l.length:=by omega
   have hr:=hC.range;have h8:csp.length=8:=elTerm.len hE;have hin:=insert_any u3 (canon (l.take k)) csp t wr hP.out hE (hck.out k) (hrs.out t (List.mem_of_getElem? hjq)) (hcl.out k);rw [<- canon_snoc hjq] at hin
   go_wp2_with (first
   |(refine wpList_index_at rfl _ _ 26 rfl monoT Tryz.underlying26 _ 8 96 (by kernel_rfl) _ _ _ rfl .i64 _ rfl k rfl hkl bp op rfl ?_)
   |(refine wpList_load_mid rfl 43 _ rfl _ _ rfl _ _ hr Tryz.underlying43 rfl (by rw [h8];kernel_rfl) ?_)
   |(go_at_call 82;refine hin.mono ?_;rintro en w3 ⟨v3,rfl,hv3,hb3⟩))
   go_roundw
   case rel=>exact⟨k+1,by omega,by go_num,zH hv3,hbr.trans (hb3.mono hbr.size)⟩
   case measure=>simp [intOf];omega
  ·obtain rfl:k=l.length:=by omega
   rw [List.take_of_length_le (Nat.le_refl _)] at hP;go_wp2;go_ret;exact⟨_,rfl,hP.out,hbr⟩
end Go.Proofs.YtopclbeomcggiaaGreat
end
section
namespace Go.Proofs.YtopclbeomcggiaaGreat
open Go.RowKit Q Go.WideMaps Go.Maps
theorem var7_any (v:Nat) (w:World) (hv:v<4):Calls Tryz.prog 37 #[.int .i64 v] w (RetPoly w (varP v)):=by
 have hw:=fun W=>whole2_any 1 W (by omega) (by omega);obtain rfl|rfl|rfl|rfl:v=0\/v=1\/v=2\/v=3:=by omega
 ·go_enter Tryz.func37,Tryz.ntmps37
  go_upto_region 2 with (go_at_call 24;refine (hw _).mono ?_;rintro e w1 ⟨v1,rfl,hv1,hb1⟩;obtain⟨n,a,k,c,n',a',k',c',rfl⟩:=rat_agg hv1)
  refine abs1 fun W hb2 B hsz=>?_;have z:=B.at1 0 _ rfl;have hf:=B.frozen 0
  go_upto_region 3 with (fail)
  have B':=B.set 0 (.int .i64 1);have hb3:Below w1.heap.size W (W.setCell ⟨w1.heap.size,0,none⟩ (.int .i64 1)):=setCell_below (Nat.le_refl _) _;generalize W.setCell ⟨w1.heap.size,0,none⟩ (.int .i64 1)=W3 at *;have hv3:=(hv1.on hb2);have hb13:=hb2.trans hb3;have z1:=B'.at1 0 _ rfl;have z2:=B'.at1 1 _ rfl;have z3:=B'.at1 2 _ rfl;have z4:=B'.at1 3 _ rfl;have y1:=B'.at1 4 _ rfl;have y2:=B'.at1 5 _ rfl;have y3:=B'.at1 6 _ rfl;have y4:=B'.at1 7 _ rfl;clear z hf;go_wp2;go_ret;have hba:Below W3.heap.size W3 (W3.alloc (.cells #[.int .i64 1,.int .i64 0,.int .i64 0,.int .i64 0,.bool n,.slice a k c,.bool n',.slice a' k' c'] monoT)):=(Below.refl _ _).alloc (Nat.le_refl _) _;have hb1a:=hb13.trans (hba.mono hb13.size);exact⟨_,rfl,isSl_new1 (t:=(unitE 0,1)) (Blk.new W3 monoT [.int .i64 1,.int .i64 0,.int .i64 0,.int .i64 0,.bool n,.slice a k c,.bool n',.slice a' k' c']) ⟨[.bool n,.slice a k c,.bool n',.slice a' k' c'],rfl,(hv1.on hb1a).cellsC⟩,hb1.trans (hb1a.mono hb1.size)⟩
 ·go_enter Tryz.func37,Tryz.ntmps37
  go_upto_region 2 with (go_at_call 24;refine (hw _).mono ?_;rintro e w1 ⟨v1,rfl,hv1,hb1⟩;obtain⟨n,a,k,c,n',a',k',c',rfl⟩:=rat_agg hv1)
  refine abs1 fun W hb2 B hsz=>?_;have z:=B.at1 1 _ rfl;have hf:=B.frozen 1
  go_upto_region 3 with (fail)
  have B':=B.set 1 (.int .i64 1);have hb3:Below w1.heap.size W (W.setCell ⟨w1.heap.size,1,none⟩ (.int .i64 1)):=setCell_below (Nat.le_refl _) _;generalize W.setCell ⟨w1.heap.size,1,none⟩ (.int .i64 1)=W3 at *;have hv3:=(hv1.on hb2);have hb13:=hb2.trans hb3;have z1:=B'.at1 0 _ rfl;have z2:=B'.at1 1 _ rfl;have z3:=B'.at1 2 _ rfl;have z4:=B'.at1 3 _ rfl;have y1:=B'.at1 4 _ rfl;have y2:=B'.at1 5 _ rfl;have y3:=B'.at1 6 _ rfl;have y4:=B'.at1 7 _ rfl;clear z hf;go_wp2;go_ret;have hba:Below W3.heap.size W3 (W3.alloc (.cells #[.int .i64 0,.int .i64 1,.int .i64 0,.int .i64 0,.bool n,.slice a k c,.bool n',.slice a' k' c'] monoT)):=(Below.refl _ _).alloc (Nat.le_refl _) _;have hb1a:=hb13.trans (hba.mono hb13.size);exact⟨_,rfl,isSl_new1 (t:=(unitE 1,1)) (Blk.new W3 monoT [.int .i64 0,.int .i64 1,.int .i64 0,.int .i64 0,.bool n,.slice a k c,.bool n',.slice a' k' c']) ⟨[.bool n,.slice a k c,.bool n',.slice a' k' c'],rfl,(hv1.on hb1a).cellsC⟩,hb1.trans (hb1a.mono hb1.size)⟩
 ·go_enter Tryz.func37,Tryz.ntmps37
  go_upto_region 2 with (go_at_call 24;refine (hw _).mono ?_;rintro e w1 ⟨v1,rfl,hv1,hb1⟩;obtain⟨n,a,k,c,n',a',k',c',rfl⟩:=rat_agg hv1)
  refine abs1 fun W hb2 B hsz=>?_;have z:=B.at1 2 _ rfl;have hf:=B.frozen 2
  go_upto_region 3 with (fail)
  have B':=B.set 2 (.int .i64 1);have hb3:Below w1.heap.size W (W.setCell ⟨w1.heap.size,2,none⟩ (.int .i64 1)):=setCell_below (Nat.le_refl _) _;generalize W.setCell ⟨w1.heap.size,2,none⟩ (.int .i64 1)=W3 at *;have hv3:=(hv1.on hb2);have hb13:=hb2.trans hb3;have z1:=B'.at1 0 _ rfl;have z2:=B'.at1 1 _ rfl;have z3:=B'.at1 2 _ rfl;have z4:=B'.at1 3 _ rfl;have y1:=B'.at1 4 _ rfl;have y2:=B'.at1 5 _ rfl;have y3:=B'.at1 6 _ rfl;have y4:=B'.at1 7 _ rfl;clear z hf;go_wp2;go_ret;have hba:Below W3.heap.size W3 (W3.alloc (.cells #[.int .i64 0,.int .i64 0,.int .i64 1,.int .i64 0,.bool n,.slice a k c,.bool n',.slice a' k' c'] monoT)):=(Below.refl _ _).alloc (Nat.le_refl _) _;have hb1a:=hb13.trans (hba.mono hb13.size);exact⟨_,rfl,isSl_new1 (t:=(unitE 2,1)) (Blk.new W3 monoT [.int .i64 0,.int .i64 0,.int .i64 1,.int .i64 0,.bool n,.slice a k c,.bool n',.slice a' k' c']) ⟨[.bool n,.slice a k c,.bool n',.slice a' k' c'],rfl,(hv1.on hb1a).cellsC⟩,hb1.trans (hb1a.mono hb1.size)⟩
 ·go_enter Tryz.func37,Tryz.ntmps37
  go_upto_region 2 with (go_at_call 24;refine (hw _).mono ?_;rintro e w1 ⟨v1,rfl,hv1,hb1⟩;obtain⟨n,a,k,c,n',a',k',c',rfl⟩:=rat_agg hv1)
  refine abs1 fun W hb2 B hsz=>?_;have z:=B.at1 3 _ rfl;have hf:=B.frozen 3
  go_upto_region 3 with (fail)
  have B':=B.set 3 (.int .i64 1);have hb3:Below w1.heap.size W (W.setCell ⟨w1.heap.size,3,none⟩ (.int .i64 1)):=setCell_below (Nat.le_refl _) _;generalize W.setCell ⟨w1.heap.size,3,none⟩ (.int .i64 1)=W3 at *;have hv3:=(hv1.on hb2);have hb13:=hb2.trans hb3;have z1:=B'.at1 0 _ rfl;have z2:=B'.at1 1 _ rfl;have z3:=B'.at1 2 _ rfl;have z4:=B'.at1 3 _ rfl;have y1:=B'.at1 4 _ rfl;have y2:=B'.at1 5 _ rfl;have y3:=B'.at1 6 _ rfl;have y4:=B'.at1 7 _ rfl;clear z hf;go_wp2;go_ret;have hba:Below W3.heap.size W3 (W3.alloc (.cells #[.int .i64 0,.int .i64 0,.int .i64 0,.int .i64 1,.bool n,.slice a k c,.bool n',.slice a' k' c'] monoT)):=(Below.refl _ _).alloc (Nat.le_refl _) _;have hb1a:=hb13.trans (hba.mono hb13.size);exact⟨_,rfl,isSl_new1 (t:=(unitE 3,1)) (Blk.new W3 monoT [.int .i64 0,.int .i64 0,.int .i64 0,.int .i64 1,.bool n,.slice a k c,.bool n',.slice a' k' c']) ⟨[.bool n,.slice a k c,.bool n',.slice a' k' c'],rfl,(hv1.on hb1a).cellsC⟩,hb1.trans (hb1a.mono hb1.size)⟩
theorem canon_one (c:Rat):canon [(e0,c)]=constP c:=by
 show ins [] (e0,c)=_;unfold ins constP;by_cases h:c=0
 ·rw [if_pos h,if_neg (by simp [h])]
 ·rw [if_neg h,if_pos ⟨h,rfl⟩]
theorem const7_any (v:Value) (c:Rat) (s:Sz) (w:World) (h:IsRat w v c) (hb:Bd s [(e0,c)]) (hs:s.ok):Calls Tryz.prog 72 #[v] w (RetPoly w (constP c)):=by
 obtain⟨n,a,k,q,n',a',k',q',rfl⟩:=rat_agg h;have hmk:=fun W v hv=>make7_any v [(e0,c)] s W hv hb hs;rw [canon_one] at hmk;clear hb hs
 go_enter Tryz.func72,Tryz.ntmps72
 go_upto_region 1 with (fail)
 refine abs1 fun W hb B hsz=>?_;have y1:=B.at1 0 _ rfl;have y2:=B.at1 1 _ rfl;have y3:=B.at1 2 _ rfl;have y4:=B.at1 3 _ rfl;have hba:Below W.heap.size W (W.alloc (.cells #[.int .i64 0,.int .i64 0,.int .i64 0,.int .i64 0,.bool n,.slice a k q,.bool n',.slice a' k' q'] monoT)):=(Below.refl _ _).alloc (Nat.le_refl _) _
 have hsl:IsPoly (W.alloc (.cells #[.int .i64 0,.int .i64 0,.int .i64 0,.int .i64 0,.bool n,.slice a k q,.bool n',.slice a' k' q'] monoT)) (.slice (some ⟨W.heap.size,0,none⟩) 1 1) [(e0,c)] :=
  isSl_new1 (t:=(e0,c)) (Blk.new W monoT [.int .i64 0,.int .i64 0,.int .i64 0,.int .i64 0,.bool n,.slice a k q,.bool n',.slice a' k' q']) ⟨[.bool n,.slice a k q,.bool n',.slice a' k' q'],rfl,((h.on hb).on hba).cellsC⟩
 go_wp2_with (go_at_call 43;refine (hmk _ _ hsl).mono ?_;rintro e w4 ⟨v4,rfl,hv4,hb4⟩)
 go_ret;exact⟨_,rfl,hv4,hb.trans ((hba.trans (hb4.mono hba.size)).mono hb.size)⟩
theorem eq_at {p q:List Trm} (hl:p.length=q.length) (h:∀ j:Nat,j<p.length->p[j]?=q[j]?):p=q:=by
 apply List.ext_getElem? ;intro j;by_cases hj:j<p.length
 ·exact h j hj
 ·rw [List.getElem?_eq_none (by omega),List.getElem?_eq_none (by omega)]
theorem equal7_any (vp vq:Value) (p q:List Trm) (w:World) (hp:IsPoly w vp p) (hq:IsPoly w vq q) (rp:∀ t∈p,Rk t.2) (rq:∀ t∈q,Rk t.2) (lp:p.length<=100000000) :
  Calls Tryz.prog 45 #[vp,vq] w (Ret w (.bool (decide (p=q)))):=by
 obtain⟨ap,cp,rfl,hcp⟩:=hp.shape;obtain⟨aq,cq,rfl,hcq⟩:=hq.shape;obtain⟨R,hR⟩:∃ R,R=decide (p=q):=⟨_,rfl⟩;rw [<- hR];replace hR:=zH hR;by_cases hl:p.length=q.length
 ·have hne:((p.length:Int) != q.length)=false:=by simp [hl]
  replace rp:=zH rp;replace rq:=zH rq;replace hl:=zH hl
  go_enter Tryz.func45,Tryz.ntmps45
  go_wp2
  go_loopw [5] (fun i wr=>∃ k:Nat,k<=p.length/\i=.int .i64 k/\Hid (∀ j:Nat,j<k->p[j]?=q[j]?)/\Below w.heap.size w wr) (fun i _=>p.length-(intOf i).toNat)
  case atStart=>exact⟨0,by omega,rfl,zH (fun j h=>by omega),Below.refl _ _⟩
  case round =>
   obtain⟨k,hk,rfl,heq,hbr⟩:=hrel;by_cases hkl:k<p.length
   ·have hj1:p[k]?=some p[k]:=List.getElem?_eq_getElem hkl;have hkq:k<q.length:=by have:=hl.out;omega
    have hj2:q[k]?=some q[k]:=List.getElem?_eq_getElem hkq;generalize p[k]=s at hj1;generalize q[k]=t at hj2;obtain⟨b1,o1,cs1,rfl,-,hE1,hC1⟩:=hp.get hj1;obtain⟨b2,o2,cs2,rfl,-,hE2,hC2⟩:=hq.get hj2;obtain⟨r1,rfl,hr1⟩:=hE1;obtain⟨r2,rfl,hr2⟩:=hE2;change Cells monoT w b1 (o1+k*8) _ at hC1;change Cells monoT w b2 (o2+k*8) _ at hC2;have hks:=rp.out s (List.mem_of_getElem? hj1);have hkt:=rq.out t (List.mem_of_getElem? hj2);have hkl':(k:Int)<p.length:=by omega
    have hl1:=hr1.len;have hl2:=hr2.len;have hex:=fun W'=>eq_ex s.1 t.1 W'
    have hstep:s=t->Hid (∀ j:Nat,j<k+1->p[j]?=q[j]?):=fun h j hj=>by
     rcases Nat.lt_or_ge j k with h'|h'
     ·exact heq.out j h'
     ·obtain rfl:j=k:=by omega
      rw [hj1,hj2,h]
    have hstop:s≠t->Hid (R=false):=fun h=>by
     rw [hR.out,decide_eq_false_iff_not];intro hpq;rw [hpq,hj2] at hj1;exact h (Option.some.inj hj1.symm)
    clear hj1 hj2 heq
    go_upto_region 6 with (fail)
    by_cases he:s.1=t.1
    ·have hd:decide (s.1=t.1)=true:=by simpa using he
     rw [hd] at hex;replace he:=zH he;by_cases hc:s.2=t.2
     ·have hst:=hstep (Prod.ext he.out hc);have hdc:decide (s.2=t.2)=true:=by simpa using hc
      clear hstep hstop hd hc;refine wp_region_L mixed (none) (0) (Okr.none) [.eq (.slice (some ⟨b1,o1,none⟩) p.length cp),.eq (.int .i64 k),.eq (.pointer (some ⟨b1,o1+k*8,none⟩)),.eq (.pointer (some ⟨b1,o1+k*8,none⟩)),.eq (.agg (exC s.1).toArray),.eq (.slice (some ⟨b2,o2,none⟩) q.length cq),.eq (.int .i64 k),.eq (.pointer (some ⟨b2,o2+k*8,none⟩)),.eq (.pointer (some ⟨b2,o2+k*8,none⟩)),.eq (.agg (exC t.1).toArray),.eq (.bool false),.eq (.bool false),.eq (.slice (some ⟨b1,o1,none⟩) p.length cp),.eq (.int .i64 k),.eq (.pointer (some ⟨b1,o1+k*8,none⟩)),.eq (.pointer (some ⟨b1,o1+k*8+4,none⟩)),.eq (.agg (r1).toArray),.eq (.slice (some ⟨b2,o2,none⟩) q.length cq),.eq (.int .i64 k),.eq (.pointer (some ⟨b2,o2+k*8,none⟩)),.eq (.pointer (some ⟨b2,o2+k*8+4,none⟩)),.eq (.agg (r2).toArray),.ret (.bool true),.eq (.bool false),.eq (.bool false)] [17,18,19,20,21,22,23,24,25,26,27,28,29,30,31,32,33,34,35,36,37,38,39,40,41] rfl rfl rfl rfl ⟨?_,?_,?_,?_,?_,?_,?_,?_,?_,?_,?_,?_,?_,?_,?_,?_,?_,?_,?_,?_,?_,?_,?_,?_,?_,trivial⟩ ?_
      ·exact fun _ _ a _ _ _=>xM rfl (a 0 rfl)
      ·exact fun _ _ a _ _ _=>xM rfl (a 5 rfl)
      ·exact fun _ _ _ _ _ e=>pI rfl Tryz.underlying27 b1 o1 k (hkl) (e.1 rfl) (e.2.1 rfl)
      ·exact fun _ _ _ _ _ e=>goOn_plain rfl (xF0 rfl (e.1 rfl))
      ·exact fun _ _ _ hL _ e=>pL rfl (cells_ex (hC1.on (hbr.trans (hL.below.mono hbr.size)))) Tryz.underlying36 (show (exC s.1).length=4 from rfl) (e.1 rfl)
      ·exact fun _ _ a _ _ _=>xM rfl (a 1 rfl)
      ·exact fun _ _ a _ _ _=>xM rfl (a 5 rfl)
      ·exact fun _ _ _ _ _ e=>pI rfl Tryz.underlying27 b2 o2 k (hkq) (e.1 rfl) (e.2.1 rfl)
      ·exact fun _ _ _ _ _ e=>goOn_plain rfl (xF0 rfl (e.1 rfl))
      ·exact fun _ _ _ hL _ e=>pL rfl (cells_ex (hC2.on (hbr.trans (hL.below.mono hbr.size)))) Tryz.underlying36 (show (exC t.1).length=4 from rfl) (e.1 rfl)
      ·intro A w1 hA hL hS he;have h21:=eT 21 (he.1 rfl);have h26:=eT 26 (he.2.1 rfl);exact pZ rfl
      ·exact fun _ _ _ _ _ e=>xM rfl (e.1 rfl)
      ·exact fun _ _ a _ _ e=>yM (e.1 rfl) rfl (a 0 rfl)
      ·exact fun _ _ a _ _ e=>yM (e.1 rfl) rfl (a 5 rfl)
      ·exact fun _ _ _ _ _ e=>goOn_yes rfl rfl (e.2.2.1 rfl) (xI rfl Tryz.underlying27 b1 o1 k (hkl) (e.1 rfl) (e.2.1 rfl))
      ·exact fun _ _ _ _ _ e=>goOn_yes rfl rfl (e.2.1 rfl) (xF1 rfl (e.1 rfl))
      ·exact fun _ _ _ hL _ e=>goOn_yes rfl rfl (e.2.1 rfl) (xL rfl (cells_rat (hC1.on (hbr.trans (hL.below.mono hbr.size)))) Tryz.underlying41 (hl1) (e.1 rfl))
      ·exact fun _ _ a _ _ e=>yM (e.1 rfl) rfl (a 1 rfl)
      ·exact fun _ _ a _ _ e=>yM (e.1 rfl) rfl (a 5 rfl)
      ·exact fun _ _ _ _ _ e=>goOn_yes rfl rfl (e.2.2.1 rfl) (xI rfl Tryz.underlying27 b2 o2 k (hkq) (e.1 rfl) (e.2.1 rfl))
      ·exact fun _ _ _ _ _ e=>goOn_yes rfl rfl (e.2.1 rfl) (xF1 rfl (e.1 rfl))
      ·exact fun _ _ _ hL _ e=>goOn_yes rfl rfl (e.2.1 rfl) (xL rfl (cells_rat (hC2.on (hbr.trans (hL.below.mono hbr.size)))) Tryz.underlying41 (hl2) (e.1 rfl))
      ·intro A w1 hA hL hS he;have hb:=hS rfl;have h28:=eT 28 (he.2.2.1 rfl);have h33:=eT 33 (he.1 rfl);have h38:=eT 38 (he.2.1 rfl);have hf0:=eF A 23;refine goOn_yes rfl rfl h28 ?_;refine stepG_call (f:=23) (args:=#[.agg (r1).toArray,.agg (r2).toArray]) rfl rfl ?_ ?_
       ·exact gZ
       ·refine (hdc ▸ same2_any _ _ _ _ _ (hr1.on (hbr.trans (hb.mono hbr.size))).rat (hr2.on (hbr.trans (hb.mono hbr.size))).rat hks hkt).mono ?_;rintro e w' ⟨rfl,hb'⟩;exact⟨_,rfl,hb',rfl⟩
      ·intro A w1 hA hL hS he;have h28:=eT 28 (he.2.1 rfl);have h39:=eT 39 (he.1 rfl);exact yZ h28 rfl
      ·exact fun _ _ _ _ _ e=>goOn_plain rfl (stepG_pk rfl (e.1 rfl) rfl (e.2.1 rfl))
      ·intro W2 hL2;simp only [TailL,FactL.eq,FactL.ret,List.length_cons,List.length_nil,List.drop_succ_cons,List.drop_zero];go_frame;clear hex;go_wp2;go_roundw
       case rel=>exact⟨k+1,by omega,by go_num,hst,hbr.trans (hL2.below.mono hbr.size)⟩
       case measure=>simp [intOf];omega
     ·have hst:=hstop (fun h=>hc (by rw [h]));have hdc:decide (s.2=t.2)=false:=by simpa using hc
      clear hstep hstop hd hc;refine wp_region_L mixed (none) (0) (Okr.none) [.eq (.slice (some ⟨b1,o1,none⟩) p.length cp),.eq (.int .i64 k),.eq (.pointer (some ⟨b1,o1+k*8,none⟩)),.eq (.pointer (some ⟨b1,o1+k*8,none⟩)),.eq (.agg (exC s.1).toArray),.eq (.slice (some ⟨b2,o2,none⟩) q.length cq),.eq (.int .i64 k),.eq (.pointer (some ⟨b2,o2+k*8,none⟩)),.eq (.pointer (some ⟨b2,o2+k*8,none⟩)),.eq (.agg (exC t.1).toArray),.eq (.bool false),.eq (.bool false),.eq (.slice (some ⟨b1,o1,none⟩) p.length cp),.eq (.int .i64 k),.eq (.pointer (some ⟨b1,o1+k*8,none⟩)),.eq (.pointer (some ⟨b1,o1+k*8+4,none⟩)),.eq (.agg (r1).toArray),.eq (.slice (some ⟨b2,o2,none⟩) q.length cq),.eq (.int .i64 k),.eq (.pointer (some ⟨b2,o2+k*8,none⟩)),.eq (.pointer (some ⟨b2,o2+k*8+4,none⟩)),.eq (.agg (r2).toArray),.ret (.bool false),.eq (.bool true),.eq (.bool true)] [17,18,19,20,21,22,23,24,25,26,27,28,29,30,31,32,33,34,35,36,37,38,39,40,41] rfl rfl rfl rfl ⟨?_,?_,?_,?_,?_,?_,?_,?_,?_,?_,?_,?_,?_,?_,?_,?_,?_,?_,?_,?_,?_,?_,?_,?_,?_,trivial⟩ ?_
      ·exact fun _ _ a _ _ _=>xM rfl (a 0 rfl)
      ·exact fun _ _ a _ _ _=>xM rfl (a 5 rfl)
      ·exact fun _ _ _ _ _ e=>pI rfl Tryz.underlying27 b1 o1 k (hkl) (e.1 rfl) (e.2.1 rfl)
      ·exact fun _ _ _ _ _ e=>goOn_plain rfl (xF0 rfl (e.1 rfl))
      ·exact fun _ _ _ hL _ e=>pL rfl (cells_ex (hC1.on (hbr.trans (hL.below.mono hbr.size)))) Tryz.underlying36 (show (exC s.1).length=4 from rfl) (e.1 rfl)
      ·exact fun _ _ a _ _ _=>xM rfl (a 1 rfl)
      ·exact fun _ _ a _ _ _=>xM rfl (a 5 rfl)
      ·exact fun _ _ _ _ _ e=>pI rfl Tryz.underlying27 b2 o2 k (hkq) (e.1 rfl) (e.2.1 rfl)
      ·exact fun _ _ _ _ _ e=>goOn_plain rfl (xF0 rfl (e.1 rfl))
      ·exact fun _ _ _ hL _ e=>pL rfl (cells_ex (hC2.on (hbr.trans (hL.below.mono hbr.size)))) Tryz.underlying36 (show (exC t.1).length=4 from rfl) (e.1 rfl)
      ·intro A w1 hA hL hS he;have h21:=eT 21 (he.1 rfl);have h26:=eT 26 (he.2.1 rfl);exact pZ rfl
      ·exact fun _ _ _ _ _ e=>xM rfl (e.1 rfl)
      ·exact fun _ _ a _ _ e=>yM (e.1 rfl) rfl (a 0 rfl)
      ·exact fun _ _ a _ _ e=>yM (e.1 rfl) rfl (a 5 rfl)
      ·exact fun _ _ _ _ _ e=>goOn_yes rfl rfl (e.2.2.1 rfl) (xI rfl Tryz.underlying27 b1 o1 k (hkl) (e.1 rfl) (e.2.1 rfl))
      ·exact fun _ _ _ _ _ e=>goOn_yes rfl rfl (e.2.1 rfl) (xF1 rfl (e.1 rfl))
      ·exact fun _ _ _ hL _ e=>goOn_yes rfl rfl (e.2.1 rfl) (xL rfl (cells_rat (hC1.on (hbr.trans (hL.below.mono hbr.size)))) Tryz.underlying41 (hl1) (e.1 rfl))
      ·exact fun _ _ a _ _ e=>yM (e.1 rfl) rfl (a 1 rfl)
      ·exact fun _ _ a _ _ e=>yM (e.1 rfl) rfl (a 5 rfl)
      ·exact fun _ _ _ _ _ e=>goOn_yes rfl rfl (e.2.2.1 rfl) (xI rfl Tryz.underlying27 b2 o2 k (hkq) (e.1 rfl) (e.2.1 rfl))
      ·exact fun _ _ _ _ _ e=>goOn_yes rfl rfl (e.2.1 rfl) (xF1 rfl (e.1 rfl))
      ·exact fun _ _ _ hL _ e=>goOn_yes rfl rfl (e.2.1 rfl) (xL rfl (cells_rat (hC2.on (hbr.trans (hL.below.mono hbr.size)))) Tryz.underlying41 (hl2) (e.1 rfl))
      ·intro A w1 hA hL hS he;have hb:=hS rfl;have h28:=eT 28 (he.2.2.1 rfl);have h33:=eT 33 (he.1 rfl);have h38:=eT 38 (he.2.1 rfl);have hf0:=eF A 23;refine goOn_yes rfl rfl h28 ?_;refine stepG_call (f:=23) (args:=#[.agg (r1).toArray,.agg (r2).toArray]) rfl rfl ?_ ?_
       ·exact gZ
       ·refine (hdc ▸ same2_any _ _ _ _ _ (hr1.on (hbr.trans (hb.mono hbr.size))).rat (hr2.on (hbr.trans (hb.mono hbr.size))).rat hks hkt).mono ?_;rintro e w' ⟨rfl,hb'⟩;exact⟨_,rfl,hb',rfl⟩
      ·intro A w1 hA hL hS he;have h28:=eT 28 (he.2.1 rfl);have h39:=eT 39 (he.1 rfl);exact yZ h28 rfl
      ·exact fun _ _ _ _ _ e=>goOn_plain rfl (stepG_pk rfl (e.1 rfl) rfl (e.2.1 rfl))
      ·intro W2 hL2;simp only [TailL,FactL.eq,FactL.ret,List.length_cons,List.length_nil,List.drop_succ_cons,List.drop_zero];go_frame;clear hex;go_wp2;go_ret;exact⟨by rw [hst.out] <;> rfl,hbr.trans (hL2.below.mono hbr.size)⟩
    ·have hst:=hstop (fun h=>he (by rw [h]));have hd:decide (s.1=t.1)=false:=by simpa using he
     rw [hd] at hex;clear hstep hstop hd he;refine wp_region_L mixed (none) (0) (Okr.none) [.eq (.slice (some ⟨b1,o1,none⟩) p.length cp),.eq (.int .i64 k),.eq (.pointer (some ⟨b1,o1+k*8,none⟩)),.eq (.pointer (some ⟨b1,o1+k*8,none⟩)),.eq (.agg (exC s.1).toArray),.eq (.slice (some ⟨b2,o2,none⟩) q.length cq),.eq (.int .i64 k),.eq (.pointer (some ⟨b2,o2+k*8,none⟩)),.eq (.pointer (some ⟨b2,o2+k*8,none⟩)),.eq (.agg (exC t.1).toArray),.eq (.bool true),.eq (.bool true),.eq undef,.eq undef,.eq undef,.eq undef,.eq undef,.eq undef,.eq undef,.eq undef,.eq undef,.eq undef,.eq undef,.eq undef,.eq (.bool true)] [17,18,19,20,21,22,23,24,25,26,27,28,29,30,31,32,33,34,35,36,37,38,39,40,41] rfl rfl rfl rfl ⟨?_,?_,?_,?_,?_,?_,?_,?_,?_,?_,?_,?_,?_,?_,?_,?_,?_,?_,?_,?_,?_,?_,?_,?_,?_,trivial⟩ ?_
     ·exact fun _ _ a _ _ _=>xM rfl (a 0 rfl)
     ·exact fun _ _ a _ _ _=>xM rfl (a 5 rfl)
     ·exact fun _ _ _ _ _ e=>pI rfl Tryz.underlying27 b1 o1 k (hkl) (e.1 rfl) (e.2.1 rfl)
     ·exact fun _ _ _ _ _ e=>goOn_plain rfl (xF0 rfl (e.1 rfl))
     ·exact fun _ _ _ hL _ e=>pL rfl (cells_ex (hC1.on (hbr.trans (hL.below.mono hbr.size)))) Tryz.underlying36 (show (exC s.1).length=4 from rfl) (e.1 rfl)
     ·exact fun _ _ a _ _ _=>xM rfl (a 1 rfl)
     ·exact fun _ _ a _ _ _=>xM rfl (a 5 rfl)
     ·exact fun _ _ _ _ _ e=>pI rfl Tryz.underlying27 b2 o2 k (hkq) (e.1 rfl) (e.2.1 rfl)
     ·exact fun _ _ _ _ _ e=>goOn_plain rfl (xF0 rfl (e.1 rfl))
     ·exact fun _ _ _ hL _ e=>pL rfl (cells_ex (hC2.on (hbr.trans (hL.below.mono hbr.size)))) Tryz.underlying36 (show (exC t.1).length=4 from rfl) (e.1 rfl)
     ·intro A w1 hA hL hS he;have h21:=eT 21 (he.1 rfl);have h26:=eT 26 (he.2.1 rfl);exact pZ rfl
     ·exact fun _ _ _ _ _ e=>xM rfl (e.1 rfl)
     ·exact fun _ _ _ _ _ e=>goOn_no (x:=true) rfl rfl (e.1 rfl) rfl rfl
     ·exact fun _ _ _ _ _ e=>goOn_no (x:=true) rfl rfl (e.1 rfl) rfl rfl
     ·exact fun _ _ _ _ _ e=>goOn_no (x:=true) rfl rfl (e.2.2.1 rfl) rfl rfl
     ·exact fun _ _ _ _ _ e=>goOn_no (x:=true) rfl rfl (e.2.1 rfl) rfl rfl
     ·exact fun _ _ _ _ _ e=>goOn_no (x:=true) rfl rfl (e.2.1 rfl) rfl rfl
     ·exact fun _ _ _ _ _ e=>goOn_no (x:=true) rfl rfl (e.1 rfl) rfl rfl
     ·exact fun _ _ _ _ _ e=>goOn_no (x:=true) rfl rfl (e.1 rfl) rfl rfl
     ·exact fun _ _ _ _ _ e=>goOn_no (x:=true) rfl rfl (e.2.2.1 rfl) rfl rfl
     ·exact fun _ _ _ _ _ e=>goOn_no (x:=true) rfl rfl (e.2.1 rfl) rfl rfl
     ·exact fun _ _ _ _ _ e=>goOn_no (x:=true) rfl rfl (e.2.1 rfl) rfl rfl
     ·exact fun _ _ _ _ _ e=>goOn_no (x:=true) rfl rfl (e.2.2.1 rfl) rfl rfl
     ·exact fun _ _ _ _ _ e=>goOn_no (x:=true) rfl rfl (e.2.1 rfl) rfl rfl
     ·exact fun _ _ _ _ _ e=>goOn_plain rfl (stepG_pk rfl (e.1 rfl) rfl rfl)
     ·intro W2 hL2;simp only [TailL,FactL.eq,FactL.ret,List.length_cons,List.length_nil,List.drop_succ_cons,List.drop_zero];go_frame;clear hex;go_wp2;go_ret;exact⟨by rw [hst.out] <;> rfl,hbr.trans (hL2.below.mono hbr.size)⟩
   ·have hst:Hid (R=true):=by
     have:=eq_at hl.out (fun j hj=>heq.out j (by omega));exact zH (by rw [hR.out];simpa using this)
    go_wp2;go_ret;exact⟨by rw [hst.out] <;> rfl,hbr⟩
 ·have hne:((p.length:Int) != q.length)=true:=by simp;omega
  have hst:Hid (R=false):=zH (by rw [hR.out,decide_eq_false_iff_not];intro h;exact hl (by rw [h]));clear hl
  go_enter Tryz.func45,Tryz.ntmps45
  go_wp2;go_ret;exact⟨by rw [hst.out] <;> rfl,Below.refl _ _⟩
theorem same7_any (vp vq:Value) (p q:List Trm) (w:World) (hp:IsPoly w vp p) (hq:IsPoly w vq q) (rp:∀ t∈p,Rk t.2) (rq:∀ t∈q,Rk t.2) (lp:p.length<=100000000) :
  Calls Tryz.prog 13 #[vp,vq] w (Ret w (.bool (decide (p=q)))):=by
 have hc:=fun W (hb:Below w.heap.size w W)=>equal7_any vp vq p q W (hp.on hb) (hq.on hb) rp rq lp;generalize decide (p=q)=R at *
 go_enter Tryz.func13,Tryz.ntmps13
 go_wp2_with (go_at_call 45;refine (hc _ (Below.refl _ _)).mono ?_;rintro e w1 ⟨rfl,hb1⟩)
 go_ret;exact⟨rfl,hb1⟩
end Go.Proofs.YtopclbeomcggiaaGreat
end
section
namespace Go.Proofs.YtopclbeomcggiaaGreat
open Go.RowKit Q
def RetTerm (w:World) (t:Trm) (e:Ending) (w':World):Prop:=∃ cs,e=.returned (.agg cs.toArray)/\IsTerm w' cs t/\Below w.heap.size w w'
end Go.Proofs.YtopclbeomcggiaaGreat
end
section
namespace Q
open Go Go.RowKit Go.Proofs.YtopclbeomcggiaaGreat
def FactL.term {g:Option Nat} {T:TypeId} (hT:uT≠T) (t:Trm):FactL (Lr g T):=FactL.of (fun v w=>∃ cs:List Value,v=.agg cs.toArray/\IsTerm w cs t) (fun _ _ _ hb=>fun⟨cs,e,h⟩=>⟨cs,e,elTerm.lr h hb hT⟩)
end Q
namespace Go.Proofs.YtopclbeomcggiaaGreat
open Go.RowKit Q
end Go.Proofs.YtopclbeomcggiaaGreat
end
section
namespace Q
theorem map_snoc {α β:Type} {l:List α} {k:Nat} {t:α} (f:α->β) (h:l[k]?=some t):(l.take (k+1)).map f=(l.take k).map f++[f t]:=by
 rw [List.take_add_one,h];simp
end Q
namespace Go.Proofs.YtopclbeomcggiaaGreat
open Go.RowKit Q
theorem cell_term {w:World} {ap:Option Addr} {cp:Nat} {p:List Trm} {i:Nat} {s:Trm} (hp:IsPoly w (.slice ap p.length cp) p) (h:p[i]?=some s) :
  ∃ b o r,ap=some ⟨b,o,none⟩/\IsRatC w r s.2/\Cells monoT w b (o+i*8) (exC s.1++r):=by
 obtain⟨b,o,cs,rfl,-,hE,hC⟩:=hp.get h;obtain⟨r,rfl,hr⟩:=hE;exact⟨b,o,r,rfl,hr,hC⟩
end Go.Proofs.YtopclbeomcggiaaGreat
end
section
namespace Q
def timesP (p:List Trm) (m:Trm):List Trm:=if m.2=0 then [] else p.map fun s=>mulT s m
def addTo (e f:Ex):Nat->Ex
|0=>e
|k+1=>(addTo e f k).put k (e.get k+f.get k)
theorem addTo_full (e f:Ex):addTo e f 4=e.add f:=rfl
theorem addTo_get (e f:Ex) (k:Nat) (h:k<4):(addTo e f k).get k=e.get k:=by
 obtain rfl|rfl|rfl|rfl:k=0\/k=1\/k=2\/k=3:=by omega
 all_goals rfl
theorem addX (m g:Ex) (v:Nat) (h:v<4):(Ex.add m g).get v=m.get v+g.get v:=by
 obtain rfl|rfl|rfl|rfl:v=0\/v=1\/v=2\/v=3:=by omega
 all_goals rfl
theorem Vld.times {p:List Trm} {m:Trm} (h:Vld p) (hm:m.1.nat=true):Vld (timesP p m):=by
 unfold timesP;split
 ·exact Vld.nil
 ·rename_i hz;refine⟨h.1.map fun s _ t _ hst=>?_,fun t ht=>?_⟩
  ·show (s.1.add m.1).gt (t.1.add m.1)=true;rw [Ex.add_comm s.1,Ex.add_comm t.1,Ex.gt_add];exact hst
  ·obtain⟨s,hs,rfl⟩:=List.mem_map.1 ht;exact⟨rmul_ne (h.2 s hs).1 hz,Ex.nat_add (h.2 s hs).2 hm⟩
theorem ev_times (x:Pt) {p:List Trm} (h:NatL p) {m:Trm} (hm:m.1.nat=true):ev x (timesP p m)=ev x p*(m.2*mon x m.1):=by
 unfold timesP;split
 ·rename_i hz;rw [hz,ev_nil];grind
 ·induction p with
 |nil=>rw [List.map_nil,ev_nil];grind
 |cons s p ih =>
   rw [List.map_cons,ev_cons,ev_cons,ih h.tail];simp only [mulT];rw [mon_add x h.head hm];grind
end Q
namespace Go.Proofs.YtopclbeomcggiaaGreat
open Go.RowKit Q Go.WideMaps Go.Maps
theorem exC_ones (e:Ex):(exC e).toArray.all (·.oneCell')=true:=by
 rw [Array.all_eq_true_iff_forall_mem];intro v hv;exact exC_one e v (by simpa using hv)
theorem exC_at' (e:Ex) (v:Nat) (hv:v<4):(exC e)[v]?=some (.int .i64 (e.get v)):=by
 obtain rfl|rfl|rfl|rfl:v=0\/v=1\/v=2\/v=3:=by omega
 all_goals rfl
theorem exC_set' (e:Ex) (v:Nat) (hv:v<4) (x:Int):(exC e).set v (.int .i64 x)=exC (e.put v x):=by
 obtain rfl|rfl|rfl|rfl:v=0\/v=1\/v=2\/v=3:=by omega
 all_goals rfl
theorem times7_any (vp:Value) (p:List Trm) (cs:List Value) (m:Trm) (w:World) (hp:IsPoly w vp p) (hm:IsTerm w cs m) (rp:∀ t∈p,Rs t.2) (rm:Rs m.2) (hin:∀ t∈p,InR (t.1.add m.1)) (lp:p.length<=100000000) :
  Calls Tryz.prog 44 #[vp,.agg cs.toArray] w (RetPoly w (timesP p m)):=by
 obtain⟨ap,cp,rfl,hcp⟩:=hp.shape;obtain⟨r,rfl,hr⟩:=hm;have h4:=hr.len;replace rp:=zH rp;replace hin:=zH hin;obtain⟨R,hR⟩:∃ R,R=timesP p m:=⟨_,rfl⟩;rw [<- hR];replace hR:=zH hR
 go_enter Tryz.func44,Tryz.ntmps44
 go_upto_region 1 with (fail)
 refine abs1 fun W hb0 B hsz=>?_;go_wp2;have hba:Below W.heap.size W (W.alloc (.cells #[] monoT)):=(Below.refl _ _).alloc (Nat.le_refl _) _;have hown0:=own_lit0' elTerm (w:=W) (base:=w.heap.size+1) B.lt;have hbW:=hb0.trans (hba.mono hb0.size);have B0:=B.on hba;change OwnPoly (w.heap.size+1) (W.alloc (.cells #[] 43)) _ _ at hown0;change Below w.heap.size w (W.alloc (.cells #[] 43)) at hbW;change Blk (W.alloc (.cells #[] 43)) _ _ _ at B0;clear hba B hb0;replace hp:=zH hp
 go_loopw [5,6] (fun o vi wr=>∃ k:Nat,vi=.int .i64 k/\k<=p.length/\Hid (m.2=0->k=0)/\Hid (OwnPoly (w.heap.size+1) wr o ((p.take k).map fun s=>mulT s m))/\Hid (Blk wr w.heap.size monoT (exC m.1++r))/\Below w.heap.size w wr) (fun _ vi _=>p.length-(intOf vi).toNat)
 case atStart=>exact⟨0,rfl,by omega,zH (fun _=>rfl),zH hown0,zH B0,hbW⟩
 case round =>
  clear hown0 B0 hbW hsz;obtain⟨k,rfl,hk,hz0,hown,hB,hbr⟩:=hrel;by_cases hkl:k<p.length
  ·have hkl':(k:Int)<(p.length:Int):=by omega
   have BB:=hB.out;have hsgn:=fun W (hb:Below wr.heap.size wr W)=>sign2_any _ _ W (hr.on (hbr.trans (hb.mono hbr.size))).rat;have hjq:p[k]?=some p[k]:=List.getElem?_eq_getElem hkl;generalize p[k]=s at hjq;obtain⟨ba,oa,ra,rfl,hra,hCa⟩:=cell_term hp.out hjq;have hla:=hra.len
   go_upto_region 3 with (fail)
   by_cases hz:m.2=0
   ·have hk0:=hz0.out hz;have hs0:sgnZ m.2.num=0:=by rw [hz];rfl
    rw [hs0] at hsgn;replace hk0:=zH hk0;refine wp_region_S trivial (none) (0) (Okr.none) [.eq (.int .i64 k),.eq (.slice (some ⟨ba,oa,none⟩) p.length cp),.eq (.int .i64 p.length),.eq (.bool true),.eq (.bool true),.eq (.pointer (some ⟨w.heap.size,0+4,none⟩)),.eq (.agg (r).toArray),.ret (.int .i64 0),.eq (.bool false),.eq (.bool false)] [10,11,12,13,14,15,16,17,18,19] rfl rfl rfl rfl ⟨?_,?_,?_,?_,?_,?_,?_,?_,?_,?_,trivial⟩ ?_
    ·exact fun _ _ a _ _ _=>xM rfl (a 6 rfl)
    ·exact fun _ _ a _ _ _=>xM rfl (a 0 rfl)
    ·intro A w1 hA hL hS he;have h11:=eT 11 (he.1 rfl);exact pZ rfl
    ·intro A w1 hA hL hS he;have h10:=eT 10 (he.1 rfl);have h12:=eT 12 (he.2.1 rfl);exact pZ rfl
    ·exact fun _ _ _ _ _ e=>xM rfl (e.1 rfl)
    ·exact fun _ _ a _ _ e=>goOn_yes rfl rfl (e.1 rfl) (xF1 rfl (a 3 rfl))
    ·exact fun _ _ _ hL _ e=>goOn_yes rfl rfl (e.2.1 rfl) (xL rfl (blk_rat (BB.on hL.below)) Tryz.underlying41 (h4) (e.1 rfl))
    ·intro A w1 hA hL hS he;have hb:=hS rfl;have h14:=eT 14 (he.2.1 rfl);have h16:=eT 16 (he.1 rfl);have hf0:=eF A 67;refine goOn_yes rfl rfl h14 ?_;refine stepG_call (f:=67) (args:=#[.agg (r).toArray]) rfl rfl ?_ ?_
     ·exact gZ
     ·refine (hsgn _ hb).mono ?_;rintro e w' ⟨rfl,hb'⟩;exact⟨_,rfl,hb',rfl⟩
    ·intro A w1 hA hL hS he;have h14:=eT 14 (he.2.1 rfl);have h17:=eT 17 (he.1 rfl);have hc0:=eC A (.int .i64 0);exact yZ h14 rfl
    ·exact fun _ _ _ _ _ e=>goOn_plain rfl (stepG_pk rfl (e.1 rfl) rfl (e.2.1 rfl))
    ·intro W2 hL2;simp only [TailL,FactL.eq,FactL.ret,List.length_cons,List.length_nil,List.drop_succ_cons,List.drop_zero];go_frame;go_wp2;go_ret;refine⟨_,rfl,?_,hbr.trans (hL2.below.mono hbr.size)⟩;have:=(hown.out.on hL2.below).isSl;rw [hk0.out] at this;rw [hR.out,timesP,if_pos hz];simpa using this
   ·have hs0:=sgnZ_ne hz;generalize sgnZ m.2.num=sg at hs0 hsgn;have hs1:(sg != 0)=true:=by simpa using hs0
    refine wp_region_S trivial (none) (0) (Okr.none) [.eq (.int .i64 k),.eq (.slice (some ⟨ba,oa,none⟩) p.length cp),.eq (.int .i64 p.length),.eq (.bool true),.eq (.bool true),.eq (.pointer (some ⟨w.heap.size,0+4,none⟩)),.eq (.agg (r).toArray),.ret (.int .i64 sg),.eq (.bool true),.eq (.bool true)] [10,11,12,13,14,15,16,17,18,19] rfl rfl rfl rfl ⟨?_,?_,?_,?_,?_,?_,?_,?_,?_,?_,trivial⟩ ?_
    ·exact fun _ _ a _ _ _=>xM rfl (a 6 rfl)
    ·exact fun _ _ a _ _ _=>xM rfl (a 0 rfl)
    ·intro A w1 hA hL hS he;have h11:=eT 11 (he.1 rfl);exact pZ rfl
    ·intro A w1 hA hL hS he;have h10:=eT 10 (he.1 rfl);have h12:=eT 12 (he.2.1 rfl);exact pZ rfl
    ·exact fun _ _ _ _ _ e=>xM rfl (e.1 rfl)
    ·exact fun _ _ a _ _ e=>goOn_yes rfl rfl (e.1 rfl) (xF1 rfl (a 3 rfl))
    ·exact fun _ _ _ hL _ e=>goOn_yes rfl rfl (e.2.1 rfl) (xL rfl (blk_rat (BB.on hL.below)) Tryz.underlying41 (h4) (e.1 rfl))
    ·intro A w1 hA hL hS he;have hb:=hS rfl;have h14:=eT 14 (he.2.1 rfl);have h16:=eT 16 (he.1 rfl);have hf0:=eF A 67;refine goOn_yes rfl rfl h14 ?_;refine stepG_call (f:=67) (args:=#[.agg (r).toArray]) rfl rfl ?_ ?_
     ·exact gZ
     ·refine (hsgn _ hb).mono ?_;rintro e w' ⟨rfl,hb'⟩;exact⟨_,rfl,hb',rfl⟩
    ·intro A w1 hA hL hS he;have h14:=eT 14 (he.2.1 rfl);have h17:=eT 17 (he.1 rfl);have hc0:=eC A (.int .i64 0);exact yZ h14 rfl
    ·exact fun _ _ _ _ _ e=>goOn_plain rfl (stepG_pk rfl (e.1 rfl) rfl (e.2.1 rfl))
    ·intro W2 hL2;simp only [TailL,FactL.eq,FactL.ret,List.length_cons,List.length_nil,List.drop_succ_cons,List.drop_zero];go_frame;have hown2:=hown.out.on hL2.below;have BB2:=BB.on hL2.below;have hbr2:=hbr.trans (hL2.below.mono hbr.size);clear hsgn hL2 BB hown hB hbr hs0 hs1
     go_upto_region 5 with (fail)
     refine wp_region_S trivial (none) (0) (Okr.none) [.eq (.slice (some ⟨ba,oa,none⟩) p.length cp),.eq (.int .i64 k),.eq (.pointer (some ⟨ba,oa+k*8,none⟩)),.eq (.pointer (some ⟨ba,oa+k*8,none⟩)),.eq (.agg (exC s.1).toArray),.box 36 W2.heap.size [.int .i64 0,.int .i64 0,.int .i64 0,.int .i64 0]] [22,23,24,25,26,7] rfl rfl rfl rfl ⟨?_,?_,?_,?_,?_,?_,trivial⟩ ?_
     ·exact fun _ _ a _ _ _=>xM rfl (a 0 rfl)
     ·exact fun _ _ a _ _ _=>xM rfl (a 6 rfl)
     ·exact fun _ _ _ _ _ e=>pI rfl Tryz.underlying27 ba oa k (hkl) (e.1 rfl) (e.2.1 rfl)
     ·exact fun _ _ _ _ _ e=>goOn_plain rfl (xF0 rfl (e.1 rfl))
     ·intro A w1 hA hL hS he;have hb:=hL.below;have hbw:Below w.heap.size w w1:=hbr2.trans (hb.mono hbr2.size);exact pL rfl (cells_ex (hCa.on hbw)) Tryz.underlying36 (show (exC s.1).length=4 from rfl) (he.1 rfl)
     ·intro A w1 hA hL hS he;refine goOn_plain rfl ?_;refine stepG_box rfl rfl ((Okr.none).lr hL) hL.1.size (by generalize A.eval=ev at *;go_simp) (fun _ _ h=>h)
     ·intro W3 hL3;have hb3:=hL3.below;simp only [TailL,FactL.eq,FactL.box,FactL.of,List.length_cons,List.length_nil,List.drop_succ_cons,List.drop_zero];rintro v7 ⟨x,-,hBx,rfl,B7⟩;go_frame;have hown3:=hown2.on hb3;have BB3:=BB2.on hb3;have hbr3:=hbr2.trans (hb3.mono hbr2.size);have hxw:w.heap.size<x:=by have:=BB2.lt;omega
      clear hL3 hb3 hown2 BB2
      go_upto_region 6 with (refine wpList_store_blk rfl _ (.tmp 7) (.tmp 26) rfl _ _ _ _ rfl rfl B7 rfl (by kernel_rfl) (exC_ones _) ?_;intro W4 R4 gr4)
      have hl4:Lr (some x) 36 W3 W4:=⟨gr4,fun k hk=>by cases hk;exact⟨B7.noOther,R4.noOther⟩⟩
      have hxo:u5.ownBlock≠some x:=by
       intro h;have h1:=(hown3.okr x h).2;exact absurd (h1 _ _ _ B7) (by decide)
      have hown4:=hown3.lr hl4 (elTerm_ok (by decide)) (.inr hxo);have BB4:=BB3.lr hl4 (by simp;omega);have hbr4:=hbr3.trans (hl4.belowAt hbr3.size (fun k hk=>by cases hk;omega));have hst:Hid (Blk W4 x 36 (exC (addTo s.1 m.1 0))):=zH (by simpa [addTo] using R4);clear hl4 gr4 B7 hown3 BB3 hbr3 R4 hBx;go_wp2
      go_loopw [8] (fun i wr=>∃ j:Nat,j<=4/\i=.int .i64 j/\Hid (Blk wr x 36 (exC (addTo s.1 m.1 j)))/\Hid (Blk wr w.heap.size monoT (exC m.1++r))/\Hid (OwnPoly (w.heap.size+1) wr u5 ((p.take k).map fun s=>mulT s m))/\Below w.heap.size w wr) (fun i _=>4-(intOf i).toNat)
      case atStart=>exact⟨0,by omega,rfl,hst,zH BB4,zH hown4,hbr4⟩
      case round =>
       clear hst BB4 hown4 hbr4 hbr2;obtain⟨j,hj,rfl,hX,hB,hown,hbr⟩:=hrel;have BX:=hX.out;have BB:=hB.out;have hino:=hin.out s (List.mem_of_getElem? hjq);by_cases hj4:j<4
       ·have hj4':(j:Int)<4:=by omega
        have hat:=exC_at' (addTo s.1 m.1 j) j hj4;rw [addTo_get _ _ _ hj4] at hat;have hset:=exC_set' (addTo s.1 m.1 j) j hj4 (s.1.get j+m.1.get j);have hwr:IntKind.i64.wrap (s.1.get j+m.1.get j)=s.1.get j+m.1.get j:=wrap_id (by rw [<- addX _ _ j hj4];exact Ex.get_bounds hino hj4);have hmat:=exC_at m.1 j hj4 r;have f1:∀ W',Below wr.heap.size wr W'->W'.cell? ⟨x,j,none⟩=some (.int .i64 (s.1.get j)):=fun W' h=>(BX.on h).at1 j _ hat;have f2:∀ W',Below wr.heap.size wr W'->W'.cell? ⟨w.heap.size,j,none⟩=some (.int .i64 (m.1.get j)):=fun W' h=>(BB.on h).at1 j _ hmat;have hsucc:addTo s.1 m.1 (j+1)=Ex.put (addTo s.1 m.1 j) j (s.1.get j+m.1.get j):=rfl;generalize s.1.get j=a at *;generalize m.1.get j=b at *;replace hsucc:=zH hsucc;clear hmat hino
        go_upto_region 9 with (fail)
        refine wp_region_L mixed (none) (0) (Okr.none) [.eq (.int .i64 j),.eq (.pointer (some ⟨x,j,none⟩)),.eq (.int .i64 a),.eq (.int .i64 j),.eq (.pointer (some ⟨w.heap.size,0,none⟩)),.eq (.pointer (some ⟨w.heap.size,j,none⟩)),.eq (.int .i64 b),.eq (.int .i64 (a+b)),.eq (.pointer (some ⟨x,j,none⟩))] [31,32,33,34,35,36,37,38,39] rfl rfl rfl rfl ⟨?_,?_,?_,?_,?_,?_,?_,?_,?_,trivial⟩ ?_
        ·exact fun _ _ a _ _ _=>xM rfl (a 8 rfl)
        ·intro A w1 hA hL hS he;have h7:A.eval (.tmp 7)=.pointer (some ⟨x,0,none⟩):=hA 7 rfl;have h31:=eT 31 (he.1 rfl);exact pZ rfl
        ·intro A w1 hA hL hS he;have h32:=eT 32 (he.1 rfl);refine goOn_plain rfl ?_;have c0:=f1 w1 hL.below;exact stepG_pure rfl rfl gZ
        ·exact fun _ _ a _ _ _=>xM rfl (a 8 rfl)
        ·exact fun _ _ a _ _ _=>goOn_plain rfl (xF0 rfl (a 3 rfl))
        ·intro A w1 hA hL hS he;have h35:=eT 35 (he.1 rfl);have h34:=eT 34 (he.2.1 rfl);exact pZ rfl
        ·intro A w1 hA hL hS he;have h36:=eT 36 (he.1 rfl);refine goOn_plain rfl ?_;have c0:=f2 w1 hL.below;exact stepG_pure rfl rfl gZ
        ·intro A w1 hA hL hS he;have h33:=eT 33 (he.1 rfl);have h37:=eT 37 (he.2.1 rfl);exact pZ rfl
        ·intro A w1 hA hL hS he;have h7:A.eval (.tmp 7)=.pointer (some ⟨x,0,none⟩):=hA 7 rfl;have h31:=eT 31 (he.1 rfl);exact pZ rfl
        ·intro W2 hL2;have hb2:=hL2.below;simp only [TailL,FactL.eq,List.length_cons,List.length_nil,List.drop_succ_cons,List.drop_zero];go_frame;have B2:=BX.on hb2;have z:=B2.at1 j _ hat;have hf:=B2.frozen j;have hown2:=hown.out.on hb2;have BB2:=BB.on hb2;have hbr2:=hbr.trans (hb2.mono hbr.size);have hl3:=setCell_lr (j:=j) B2 (.int .i64 (a+b));have B3:=B2.set j (.int .i64 (a+b));rw [hset] at B3;clear f1 f2 hL2;go_wp2;go_roundw
         case rel=>exact⟨j+1,by omega,by go_num,zH (by rw [hsucc.out];exact B3),zH (BB2.lr hl3 (by simp;omega)),zH (hown2.lr hl3 (elTerm_ok (by decide)) (.inr hxo)),hbr2.trans (hl3.belowAt hbr2.size (fun k hk=>by cases hk;omega))⟩
         case measure=>simp [intOf];omega
       ·obtain rfl:j=4:=by omega
        rw [addTo_full] at BX;have hks:Rs s.2:=rp.out s (List.mem_of_getElem? hjq);have hsn:=zH (map_snoc (fun s=>mulT s m) hjq);have hlt:((p.take k).map fun s=>mulT s m).length<=100000000:=by simp;omega
        replace hown:=hown.out;have hbase:∀ k,u5.ownBlock=some k->w.heap.size<=k:=fun k hk=>by have:=(hown.base_le k hk).1;omega
        have hneb:some w.heap.size≠u5.ownBlock:=fun h=>by have:=(hown.base_le _ h.symm).1;omega
        have hnex:some x≠u5.ownBlock:=fun h=>hxo h.symm;obtain⟨E,hE⟩:∃ E,E=s.1.add m.1:=⟨_,rfl⟩;have hmt:mulT s m=(E,s.2*m.2):=by rw [hE];rfl
        rw [<- hE] at BX;replace hmt:=zH hmt;clear hE hino
        go_upto_region 10 with (fail)
        refine wp_region_L mixed (u5.ownBlock) (monoT) (hown.okr) [.eq (u5),.eq (.agg (exC E).toArray),.eq (.slice (some ⟨ba,oa,none⟩) p.length cp),.eq (.int .i64 k),.eq (.pointer (some ⟨ba,oa+k*8,none⟩)),.eq (.pointer (some ⟨ba,oa+k*8+4,none⟩)),.eq (.agg (ra).toArray),.eq (.pointer (some ⟨w.heap.size,0+4,none⟩)),.eq (.agg (r).toArray),.rat (by decide) ((s.2*m.2)),.term (by decide) ((E),(s.2*m.2)),.new1 elTerm elTerm_okT ((E,s.2*m.2)),.row elTerm (w.heap.size+1) wr.heap.size (((p.take k).map fun s=>mulT s m)++[(E,s.2*m.2)])] [40,41,42,43,44,45,46,47,48,49,50,51,52] rfl rfl rfl rfl ⟨?_,?_,?_,?_,?_,?_,?_,?_,?_,?_,?_,?_,?_,trivial⟩ ?_
        ·exact fun _ _ a _ _ _=>xM rfl (a 5 rfl)
        ·exact fun _ _ a hL _ _=>pL rfl ((BX.lr hL hnex).cells.range) Tryz.underlying36 (show (exC E).length=4 from rfl) (a 7 rfl)
        ·exact fun _ _ a _ _ _=>xM rfl (a 0 rfl)
        ·exact fun _ _ a _ _ _=>xM rfl (a 6 rfl)
        ·exact fun _ _ _ _ _ e=>pI rfl Tryz.underlying27 ba oa k (hkl) (e.1 rfl) (e.2.1 rfl)
        ·exact fun _ _ _ _ _ e=>goOn_plain rfl (xF1 rfl (e.1 rfl))
        ·intro A w1 hA hL hS he;have hbw:Below w.heap.size w w1:=hbr.trans (hL.belowAt hbr.size hbase);exact pL rfl (cells_rat (hCa.on hbw)) Tryz.underlying41 (hla) (he.1 rfl)
        ·exact fun _ _ a _ _ _=>goOn_plain rfl (xF1 rfl (a 3 rfl))
        ·exact fun _ _ _ hL _ e=>pL rfl (blk_rat (BB.lr hL hneb)) Tryz.underlying41 (h4) (e.1 rfl)
        ·intro A w1 hA hL hS he;have hb:=hS rfl;have hbw:Below w.heap.size w w1:=hbr.trans (hL.belowAt hbr.size hbase);have h46:=eT 46 (he.1 rfl);have h48:=eT 48 (he.2.1 rfl);have hf0:=eF A 75;exact cP (f:=75) (args:=#[.agg (ra).toArray,.agg (r).toArray]) (mul2_any _ _ _ _ _ (hra.on hbw).rat (hr.on hbw).rat hks rm)
        ·intro A w1 hA hL hS he;have h41:=eT 41 (he.1 rfl);obtain⟨v49,h49,f49⟩:=fT 49 (he.2.1 rfl);refine goOn_plain rfl ?_;obtain⟨n_,a_,k_,c_,n',a',k',c',rfl⟩:=rat_agg f49;exact stepG_value (c:=.agg (_++[.bool n_,.slice a_ k_ c_,.bool n',.slice a' k' c']).toArray) rfl rfl (Below.refl _ _) ⟨_,rfl,⟨_,rfl,f49.cellsC⟩⟩ (execOp_build rfl (by simp only [List.map_toArray,List.map_cons,List.map_nil,h41,h49];exact run_build37 _ _ _ rfl))
        ·intro A w1 hA hL hS he;obtain⟨v50,h50,f50⟩:=fT 50 (he.1 rfl);refine goOn_plain rfl ?_;obtain⟨c50,rfl,e50⟩:=f50;refine stepG_new1 rfl rfl ((hown.okr).lr hL) (e:=elTerm) (t:=(E,s.2*m.2)) e50 (execOp_buildSlice rfl ?_) (fun _ _ h=>h);simp only [List.map_toArray,List.map_cons,List.map_nil,h50];exact run_new1_elTermP _ _ (elTerm.len e50)
        ·intro A w1 hA hL hS he;have hb:=hS rfl;have h40:=eT 40 (he.1 rfl);obtain⟨v51,h51,f51⟩:=fT 51 (he.2.1 rfl);exact goOn_plain rfl (stepG_append rfl rfl rfl Tryz.underlying27 info_elTerm h40 h51 (hown.on hb) rfl rfl (isSl_of_new f51) (by simp only [List.length_cons,List.length_nil];omega) ((BB.lr hL hneb).lt) hL.1.size (fun _ _ h1 h2=>⟨h1,h2⟩))
        ·intro W5 hL5;simp only [TailL,FactL.eq,FactL.rat,FactL.term,FactL.new1,FactL.row,FactL.asPure,FactL.of,FactL.fragile,List.length_cons,List.length_nil,List.drop_succ_cons,List.drop_zero];rintro v49 - v50 - v51 - v52 ⟨hown5,hnew⟩;go_frame;have hbW5:=hbr.trans (hL5.belowAt hbr.size hbase);have BB5:=BB.lr hL5 hneb;go_wp2;go_roundw
         case measure=>simp [intOf];omega
         case rel=>exact⟨k+1,by go_num,by omega,zH (fun h=>absurd h hz),zH (by rw [hsn.out,hmt.out];exact hown5),zH BB5,hbW5⟩
  ·obtain rfl:k=p.length:=by omega
   rw [List.take_of_length_le (Nat.le_refl _)] at hown;go_wp2;go_ret;refine⟨_,rfl,?_,hbr⟩;rw [hR.out,timesP];split
   ·rename_i h;have h1:=hz0.out h;have h2:p=[]:=List.eq_nil_of_length_eq_zero h1;subst h2;exact hown.out.isSl
   ·exact hown.out.isSl
end Go.Proofs.YtopclbeomcggiaaGreat
end
section
namespace Go.Proofs.YtopclbeomcggiaaGreat
open Go.RowKit Q Go.WideMaps Go.Maps
end Go.Proofs.YtopclbeomcggiaaGreat
end
section
namespace Go.Proofs.YtopclbeomcggiaaGreat
open Go.RowKit Q Go.WideMaps Go.Maps
end Go.Proofs.YtopclbeomcggiaaGreat
end
