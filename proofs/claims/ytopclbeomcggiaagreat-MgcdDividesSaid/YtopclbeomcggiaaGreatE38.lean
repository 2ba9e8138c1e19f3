/- law08: num, x, y; contracts at known values; quadratureref08.Factors. quadratureref08.Made, Plane: plain; drawn terms of four bytes. mgcd.sylvester. -/
import Derived.Test.YtopclbeomcggiaaGreatE02
import Derived.Test.YtopclbeomcggiaaGreatE04
import Derived.Test.YtopclbeomcggiaaGreatE20
import Derived.Test.YtopclbeomcggiaaGreatE31
import Derived.Test.YtopclbeomcggiaaGreatE37
set_option linter.unusedVariables false
set_option linter.unusedSimpArgs false
set_option maxHeartbeats 16000000
set_option maxRecDepth 100000
section
namespace Q
open Go Go.RowKit Go.Proofs.YtopclbeomcggiaaGreat
def szR (D:Nat):Sz:=⟨D,2 ^ 200,1000,900⟩
def bdR (l:List Trm):Bool :=
 decide (l.length<=900) && l.all (fun t=>decide (-1000<=t.1.1) && decide (t.1.1<=1000) && decide (-1000<=t.1.2.1) && decide (t.1.2.1<=1000) && decide (-1000<=t.1.2.2.1) && decide (t.1.2.2.1<=1000) && decide (-1000<=t.1.2.2.2) && decide (t.1.2.2.2<=1000)) && decide (lcmD l<=200) && decide (asum l<=((2 ^ 200:Nat):Rat))
theorem bdR_bd {l:List Trm} (h:bdR l=true):Bd (szR (lcmD l)) l/\lcmD l<=200:=by
 simp only [bdR,Bool.and_eq_true,decide_eq_true_eq,List.all_eq_true] at h;obtain⟨⟨⟨h1,h2⟩,h3⟩,h4⟩:=h;refine⟨⟨h1,fun t ht=>?_,fun t ht=>?_,h4⟩,h3⟩
 ·obtain⟨⟨⟨⟨⟨⟨⟨a1,a2⟩,a3⟩,a4⟩,a5⟩,a6⟩,a7⟩,a8⟩:=h2 t ht;exact⟨a1,a2,a3,a4,a5,a6,a7,a8⟩
 ·exact (dv_den t.2).dvd (den_lcmD ht)
def rsB (l:List Trm):Bool:=vldB l && bdR l
theorem p200:2 ^ 200<2 ^ 1000:=by decide +kernel
theorem p200':2 ^ 200*2 ^ 200<2 ^ 1000:=by decide +kernel
theorem szR_ok {D:Nat} (h:0<D) (h':D<=200):(szR D).ok:=⟨h,by show D<65536;omega,p200,by show 1000<1000000;omega,by show 900<1000000;omega⟩
theorem szR_mul {D D':Nat} (h:0<D) (h':D<=200) (k:0<D') (k':D'<=200):((szR D).mul (szR D')).ok:=by
 refine⟨Nat.mul_pos h k,?_,p200',by show 1000+1000<1000000;omega,by show 900*900<1000000;omega⟩;have:=Nat.mul_le_mul h' k';show D*D' < 65536;omega
theorem rsB_pk {l:List Trm} (h:rsB l=true):∃ D,0<D/\D<=200/\Pk (szR D) l:=by
 rw [rsB,Bool.and_eq_true] at h;obtain⟨h1,h2⟩:=bdR_bd h.2;exact⟨lcmD l,lcmD_pos l,h2,vldB_vld.1 h.1,h1,szR_ok (lcmD_pos l) h2⟩
theorem szR_neg {D:Nat} (h:0<D) (h':D<=200):((szR D).mul ⟨1,1,0,1⟩).ok:=by
 refine⟨Nat.mul_pos h Nat.one_pos,?_,?_,by show 1000+0<1000000;omega,by show 900*1<1000000;omega⟩
 ·show D*1<65536;omega
 ·show 2 ^ 200*1<2 ^ 1000;rw [Nat.mul_one];exact p200
def ratW (c:Rat):Bool:=decide (c.den<65536) && decide (c.num.natAbs<4294967296)
theorem ratW_rs {c:Rat} (h:ratW c=true):Rs c:=by
 simp only [ratW,Bool.and_eq_true,decide_eq_true_eq] at h;refine⟨h.1,?_⟩;have:=nbits_le (n:=c.num.natAbs) (k:=32) (by omega);omega
end Q
namespace Go.Proofs.YtopclbeomcggiaaGreat
open Go.RowKit Q
section
variable {w:World} {v u:Value} {p q r:List Trm}
theorem addW7 (e:addP p q=r) (h:rsB p=true) (h':rsB q=true) (hp:IsPoly w v p) (hq:IsPoly w u q):Calls Tryz.prog 39 #[v,u] w (RetPoly w r):=by
 obtain⟨D,d1,d2,P⟩:=rsB_pk h;obtain⟨D',e1,e2,P'⟩:=rsB_pk h';exact e ▸ add7K P P' hp hq
theorem mulW7 (e:mulP p q=r) (h:rsB p=true) (h':rsB q=true) (hp:IsPoly w v p) (hq:IsPoly w u q):Calls Tryz.prog 12 #[v,u] w (RetPoly w r):=by
 obtain⟨D,d1,d2,P⟩:=rsB_pk h;obtain⟨D',e1,e2,P'⟩:=rsB_pk h';exact e ▸ mul7K P P' (szR_mul d1 d2 e1 e2) hp hq
theorem subW7 (e:subP p q=r) (h:rsB p=true) (h':rsB q=true) (hp:IsPoly w v p) (hq:IsPoly w u q):Calls Tryz.prog 35 #[v,u] w (RetPoly w r):=by
 obtain⟨D,d1,d2,P⟩:=rsB_pk h;obtain⟨D',e1,e2,P'⟩:=rsB_pk h';exact e ▸ sub7K P P' (szR_neg e1 e2) hp hq
theorem scaleW7 {c:Rat} (e:scaleP p c=r) (h:rsB p=true) (h':ratW c=true) (hp:IsPoly w v p) (hc:IsRat w u c):Calls Tryz.prog 42 #[v,u] w (RetPoly w r):=by
 obtain⟨D,d1,d2,P⟩:=rsB_pk h;exact e ▸ scaleK P (ratW_rs h') hp hc
theorem sameW7 (h:rsB p=true) (hp:IsPoly w v p) (hq:IsPoly w u p):Calls Tryz.prog 13 #[v,u] w (Ret w (.bool true)):=by
 obtain⟨D,d1,d2,P⟩:=rsB_pk h;exact sameK P P rfl hp hq
theorem gcdW {g:List Trm} (e:G8 p q=some g) (h:wpB p=true) (h':wpB q=true) (hp:IsPoly w v p) (hq:IsPoly w u q):Calls Tryz.prog 16 #[v,u] w (RetPoly w g) :=
 (gcdN_any 6 p q g (wpB_wp h) (wpB_wp h') e).1 v u w hp hq
theorem normW {g:List Trm} (e:normO p=some g) (h:wpB p=true) (hp:IsPoly w v p):Calls Tryz.prog 14 #[v] w (RetPoly w g):=normal_any v p g w hp (wpB_wp h) e
theorem contW {g:List Trm} (e:contO G8 p 0=some g) (h:wpB p=true) (hp:IsPoly w v p):Calls Tryz.prog 18 #[v,.int .i64 0] w (RetPoly w g):=content_any (gcdN_any 6) v p g 0 w (by decide) hp (wpB_wp h) e
theorem primW {g:List Trm} (e:primO G8 p 0=some g) (h:wpB p=true) (hp:IsPoly w v p):Calls Tryz.prog 20 #[v,.int .i64 0] w (RetPoly w g):=primitive_any (gcdN_any 6) v p g 0 w (by decide) hp (wpB_wp h) e
theorem sqfW {R:List (List Trm × Nat)} (e:sqO G8 p 0=some R) (h:wpB p=true) (hp:IsPoly w v p):Calls Tryz.prog 29 #[v,.int .i64 0] w (RetFac w R):=squarefree_any (gcdN_any 6) v p R 0 w hp (wpB_wp h) (by decide) e
end
theorem x8_any (w:World):Calls Tryz.prog 40 #[] w (RetPoly w [tm 1 1 0]):=by
 go_enter Tryz.func40,Tryz.ntmps40
 go_wp2_with (go_at_call 37;refine (var7_any 0 _ (by omega)).mono ?_;rintro e w3 ⟨v3,rfl,h3,hb3⟩)
 go_ret;exact⟨_,rfl,sv_x ▸ h3,hb3⟩
theorem y8_any (w:World):Calls Tryz.prog 41 #[] w (RetPoly w [tm 1 0 1]):=by
 go_enter Tryz.func41,Tryz.ntmps41
 go_wp2_with (go_at_call 37;refine (var7_any 1 _ (by omega)).mono ?_;rintro e w3 ⟨v3,rfl,h3,hb3⟩)
 go_ret;exact⟨_,rfl,sv_y ▸ h3,hb3⟩
theorem num8_any (n:Int) (p:List Trm) (w:World) (h1:-1000<=n) (h2:n<=1000) (hp:constP (n:Rat)=p) (hb:bdR [(e0,(n:Rat))]=true):Calls Tryz.prog 26 #[.int .i64 n] w (RetPoly w p):=by
 have hc:=zH (fun W v (hv:IsRat W v (n:Rat))=>const7_any v (n:Rat) _ W hv (bdR_bd hb).1 (szR_ok (lcmD_pos _) (bdR_bd hb).2));rw [hp] at hc
 go_enter Tryz.func26,Tryz.ntmps26
 go_wp2_with (first
 |(go_at_call 24;refine (whole2_any n _ (by omega) (by omega)).mono ?_;rintro e w3 ⟨v3,rfl,h3,hb3⟩)
 |(go_at_call 72;refine (hc.out _ _ h3).mono ?_;rintro e w4 ⟨v4,rfl,h4,hb4⟩))
 go_ret;exact⟨_,rfl,h4,hb3.trans (hb4.mono hb3.size)⟩
theorem factors_eq (va vb:Value) (L:List (List Trm × Nat)) (w:World) (ha:IsFac w va L) (hb:IsFac w vb L) (hw:∀ f∈L,rsB f.1=true) (hn:L.length<=1000):Calls Tryz.prog 30 #[va,vb] w (Ret w (.bool true)):=by
 obtain⟨aa,ca,rfl,-⟩:=ha.shape;obtain⟨ab,cb,rfl,-⟩:=hb.shape;replace ha:=zH ha;replace hb:=zH hb;replace hw:=zH hw
 go_enter Tryz.func30,Tryz.ntmps30
 go_wp2
 go_loopw [5] (fun i wr=>∃ k:Nat,k<=L.length/\i=.int .i64 k/\Below w.heap.size w wr) (fun i _=>L.length-(intOf i).toNat)
 case atStart=>exact⟨0,by omega,by go_num,Below.refl _ _⟩
 case round =>
  obtain⟨k,hk,rfl,hbr⟩:=hrel;by_cases hkl:k<L.length
  ·have hjq:L[k]?=some L[k]:=List.getElem?_eq_getElem hkl;have hwk:=hw.out _ (List.getElem_mem hkl);generalize L[k]=f at *;obtain⟨b1,o1,cs1,rfl,-,⟨v1,rfl,p1⟩,C1⟩:=(ha.out.on hbr).get hjq;obtain⟨b2,o2,cs2,rfl,-,⟨v2,rfl,p2⟩,C2⟩:=(hb.out.on hbr).get hjq;change Cells _ wr b1 (o1+k*2) _ at C1;change Cells _ wr b2 (o2+k*2) _ at C2;have kk:(k:Int)<(L.length:Int):=by omega
   have c10:∀ W,Below wr.heap.size wr W->W.cell? ⟨b1,o1+k*2,none⟩=some v1:=fun W hb=>(C1.on hb).cell 0 (by simp);have c11:∀ W,Below wr.heap.size wr W->W.cell? ⟨b1,o1+k*2+1,none⟩=some (.int .i64 (f.2:Int)):=fun W hb=>(C1.on hb).cell 1 (by simp);have c20:∀ W,Below wr.heap.size wr W->W.cell? ⟨b2,o2+k*2,none⟩=some v2:=fun W hb=>(C2.on hb).cell 0 (by simp);have c21:∀ W,Below wr.heap.size wr W->W.cell? ⟨b2,o2+k*2+1,none⟩=some (.int .i64 (f.2:Int)):=fun W hb=>(C2.on hb).cell 1 (by simp);generalize f.2=e at *;clear C1 C2 hjq
   go_upto_region 6 with (fail)
   refine wp_region_L mixed (none) (0) (Okr.none) [.eq (.slice (some ⟨b1,o1,none⟩) L.length ca),.eq (.int .i64 k),.eq (.pointer (some ⟨b1,o1+k*2,none⟩)),.eq (.pointer (some ⟨b1,o1+k*2+1,none⟩)),.eq (.int .i64 e),.eq (.slice (some ⟨b2,o2,none⟩) L.length cb),.eq (.int .i64 k),.eq (.pointer (some ⟨b2,o2+k*2,none⟩)),.eq (.pointer (some ⟨b2,o2+k*2+1,none⟩)),.eq (.int .i64 e),.eq (.bool false),.eq (.bool false),.eq (.slice (some ⟨b1,o1,none⟩) L.length ca),.eq (.int .i64 k),.eq (.pointer (some ⟨b1,o1+k*2,none⟩)),.eq (.pointer (some ⟨b1,o1+k*2,none⟩)),.eq (v1),.eq (.slice (some ⟨b2,o2,none⟩) L.length cb),.eq (.int .i64 k),.eq (.pointer (some ⟨b2,o2+k*2,none⟩)),.eq (.pointer (some ⟨b2,o2+k*2,none⟩)),.eq (v2),.ret (.bool true),.eq (.bool false),.eq (.bool false)] [17,18,19,20,21,22,23,24,25,26,27,28,29,30,31,32,33,34,35,36,37,38,39,40,41] rfl rfl rfl rfl ⟨?_,?_,?_,?_,?_,?_,?_,?_,?_,?_,?_,?_,?_,?_,?_,?_,?_,?_,?_,?_,?_,?_,?_,?_,?_,trivial⟩ ?_
   ·exact fun _ _ a _ _ _=>xM rfl (a 0 rfl)
   ·exact fun _ _ a _ _ _=>xM rfl (a 5 rfl)
   ·exact fun _ _ _ _ _ e=>pI rfl Tryz.underlying50 b1 o1 k (hkl) (e.1 rfl) (e.2.1 rfl)
   ·intro A w1 hA hL hS he;have h19:=eT 19 (he.1 rfl);exact pZ rfl
   ·intro A w1 hA hL hS he;have h20:=eT 20 (he.1 rfl);refine goOn_plain rfl ?_;have c0:=c11 w1 hL.below;exact stepG_pure rfl rfl gZ
   ·exact fun _ _ a _ _ _=>xM rfl (a 1 rfl)
   ·exact fun _ _ a _ _ _=>xM rfl (a 5 rfl)
   ·exact fun _ _ _ _ _ e=>pI rfl Tryz.underlying50 b2 o2 k (hkl) (e.1 rfl) (e.2.1 rfl)
   ·intro A w1 hA hL hS he;have h24:=eT 24 (he.1 rfl);exact pZ rfl
   ·intro A w1 hA hL hS he;have h25:=eT 25 (he.1 rfl);refine goOn_plain rfl ?_;have c0:=c21 w1 hL.below;exact stepG_pure rfl rfl gZ
   ·intro A w1 hA hL hS he;have h21:=eT 21 (he.1 rfl);have h26:=eT 26 (he.2.1 rfl);exact pZ rfl
   ·exact fun _ _ _ _ _ e=>xM rfl (e.1 rfl)
   ·exact fun _ _ a _ _ e=>yM (e.1 rfl) rfl (a 0 rfl)
   ·exact fun _ _ a _ _ e=>yM (e.1 rfl) rfl (a 5 rfl)
   ·exact fun _ _ _ _ _ e=>goOn_yes rfl rfl (e.2.2.1 rfl) (xI rfl Tryz.underlying50 b1 o1 k (hkl) (e.1 rfl) (e.2.1 rfl))
   ·intro A w1 hA hL hS he;have h28:=eT 28 (he.2.1 rfl);have h31:=eT 31 (he.1 rfl);exact yZ h28 rfl
   ·intro A w1 hA hL hS he;have h28:=eT 28 (he.2.1 rfl);have h32:=eT 32 (he.1 rfl);refine goOn_yes rfl rfl h28 ?_;have c0:=c10 w1 hL.below;exact stepG_pure rfl rfl gZ
   ·exact fun _ _ a _ _ e=>yM (e.1 rfl) rfl (a 1 rfl)
   ·exact fun _ _ a _ _ e=>yM (e.1 rfl) rfl (a 5 rfl)
   ·exact fun _ _ _ _ _ e=>goOn_yes rfl rfl (e.2.2.1 rfl) (xI rfl Tryz.underlying50 b2 o2 k (hkl) (e.1 rfl) (e.2.1 rfl))
   ·intro A w1 hA hL hS he;have h28:=eT 28 (he.2.1 rfl);have h36:=eT 36 (he.1 rfl);exact yZ h28 rfl
   ·intro A w1 hA hL hS he;have h28:=eT 28 (he.2.1 rfl);have h37:=eT 37 (he.1 rfl);refine goOn_yes rfl rfl h28 ?_;have c0:=c20 w1 hL.below;exact stepG_pure rfl rfl gZ
   ·intro A w1 hA hL hS he;have hb:=hS rfl;have h28:=eT 28 (he.2.2.1 rfl);have h33:=eT 33 (he.1 rfl);have h38:=eT 38 (he.2.1 rfl);have hf0:=eF A 13;refine goOn_yes rfl rfl h28 ?_;refine stepG_call (f:=13) (args:=#[v1,v2]) rfl rfl ?_ ?_
    ·exact gZ
    ·refine (sameW7 hwk (p1.on hb) (p2.on hb)).mono ?_;rintro e w' ⟨rfl,hb'⟩;exact⟨_,rfl,hb',rfl⟩
   ·intro A w1 hA hL hS he;have h28:=eT 28 (he.2.1 rfl);have h39:=eT 39 (he.1 rfl);exact yZ h28 rfl
   ·intro A w1 hA hL hS he;have h28:=eT 28 (he.1 rfl);have h40:=eT 40 (he.2.1 rfl);have hc0:=eC A (.bool true);exact pZ rfl
   ·intro W5 hL5;have hb5:=hL5.below;simp only [TailL,FactL.eq,FactL.ret,FactL.of,lZ];go_frame;clear hL5 c10 c11 c20 c21;go_wp2;go_roundw
    case rel=>exact⟨k+1,by omega,by go_num,hbr.trans (hb5.mono hbr.size)⟩
    case measure=>simp [intOf];omega
  ·obtain rfl:L.length=k:=by omega
   go_wp2;go_ret;exact⟨rfl,hbr⟩
end Go.Proofs.YtopclbeomcggiaaGreat
end
section
namespace Q
open Go Go.Proofs.YtopclbeomcggiaaGreat
abbrev Dr4:=Int × Int × Int × Int
def Raw4 (t:Dr4):Prop:=(-128<=t.1/\t.1<128)/\(-128<=t.2.1/\t.2.1<128)/\(-128<=t.2.2.1/\t.2.2.1<128)/\-128<=t.2.2.2/\t.2.2.2<128
def made8T (t:Dr4):Trm:=((t.1 % 256 % 3,t.2.1 % 256 % 3,t.2.2.1 % 256 % 2,0),((t.2.2.2.tmod 6:Int):Rat))
def made8L (L:List Dr4):List Trm:=(L.take 3).map made8T
def made8P (L:List Dr4):List Trm:=canon (made8L L)
def planeT (t:Dr4):Dr4:=(t.1,t.2.1,0,t.2.2.2)
def plane8P (L:List Dr4):List Trm:=made8P ((L.take 3).map planeT)
theorem rabs_tmod6 (c:Int):rabs ((c.tmod 6:Int):Rat)<=((5:Nat):Rat):=by
 rw [rabs_int];have:(c.tmod 6).natAbs<6:=by rw [Int.natAbs_tmod];exact Nat.mod_lt _ (by decide)
 exact Rat.natCast_le_natCast.2 (by omega)
theorem asum_made8:∀ (L:List Dr4),asum (L.map made8T)<=((5*L.length:Nat):Rat)
|[]=>by simp only [List.map_nil,asum,List.length_nil,Nat.mul_zero];exact Rat.natCast_nonneg
|t::L=>by
  have h1:=asum_made8 L;have h2:rabs (made8T t).2<=((5:Nat):Rat):=rabs_tmod6 _
  have h3:((5*(t::L).length:Nat):Rat)=((5:Nat):Rat)+((5*L.length:Nat):Rat):=by
   rw [<- Rat.natCast_add];congr 1;simp only [List.length_cons];omega
  rw [h3];simp only [List.map_cons,asum];grind
def sz8:Sz:=⟨1,15,2,3⟩
theorem made8_bd (L:List Dr4):Bd sz8 (made8L L):=by
 have hl:(L.take 3).length<=3:=by rw [List.length_take];exact Nat.min_le_left _ _
 refine⟨by simpa [made8L,sz8] using hl,fun t ht=>?_,fun t ht=>?_,Rat.le_trans (asum_made8 _) (Rat.natCast_le_natCast.2 (by show 5*(L.take 3).length<=15;omega))⟩
 ·obtain⟨s,hs,rfl⟩:=List.mem_map.1 ht;simp only [made8T,sz8];omega
 ·obtain⟨s,hs,rfl⟩:=List.mem_map.1 ht;refine⟨s.2.2.2.tmod 6,?_⟩;show ((s.2.2.2.tmod 6:Int):Rat)*((1:Nat):Rat)=_;rw [show ((1:Nat):Rat)=1 from rfl,Rat.mul_one]
theorem sz8_ok:sz8.ok:=by decide +kernel
theorem made8_pk (L:List Dr4):Pk sz8 (made8P L):=⟨canon_val _,(made8_bd L).canon,sz8_ok⟩
end Q
namespace Go.Proofs.YtopclbeomcggiaaGreat
open Go.RowKit Q
def rawC (t:Dr4):List Value:=[.int .i8 t.1,.int .i8 t.2.1,.int .i8 t.2.2.1,.int .i8 t.2.2.2]
def elR4 (T:TypeId):El Dr4 where
 T:=T
 sz:=4
 pos:=by decide
 E _ cs t:=cs=rawC t/\Raw4 t
 len:=by rintro w c t ⟨rfl,h⟩;rfl
 one:=by
  rintro w c t ⟨rfl,h⟩ v hv;simp only [rawC,List.mem_cons,List.not_mem_nil,or_false] at hv;rcases hv with rfl|rfl|rfl|rfl <;> rfl
 on:=fun h _=>h
 ok _:=True
 lr:=fun h _ _=>h
 self:=trivial
def IsR4 (w:World) (v:Value) (l:List Dr4):Prop:=∃ T,IsSl (elR4 T) w v l
theorem IsR4.on {w w':World} {v:Value} {l:List Dr4} (h:IsR4 w v l) (hb:Below w.heap.size w w'):IsR4 w' v l:=let ⟨T,h⟩:=h;⟨T,h.on hb⟩
theorem IsR4.shape {w:World} {v:Value} {l:List Dr4} (h:IsR4 w v l):∃ ao cap,v=.slice ao l.length cap/\l.length<=cap:=let ⟨_,h⟩:=h;h.shape
theorem IsR4.get {w:World} {ao:Option Addr} {n c j:Nat} {t:Dr4} {l:List Dr4} (h:IsR4 w (.slice ao n c) l) (hj:l[j]?=some t):∃ T b off,ao=some ⟨b,off,none⟩/\Raw4 t/\Cells T w b (off+j*4) (rawC t):=by
 obtain⟨T,h⟩:=h;obtain⟨b,off,cs,e,-,⟨rfl,hok⟩,hC⟩:=h.get hj;exact⟨T,b,off,e,hok,hC⟩
end Go.Proofs.YtopclbeomcggiaaGreat
end
section
namespace Q
open Go Go.RowKit Go.Proofs.YtopclbeomcggiaaGreat
theorem nodup_inj {l:List Nat} (h:l.Nodup) {i j x:Nat} (hi:l[i]?=some x) (hj:l[j]?=some x):i=j:=by
 have hil:=(List.getElem?_eq_some_iff.1 hi);have hjl:=(List.getElem?_eq_some_iff.1 hj);obtain⟨h1,h2⟩:=hil;obtain⟨h3,h4⟩:=hjl;have hp:=List.pairwise_iff_getElem.1 h;rcases Nat.lt_trichotomy i j with hlt|heq|hgt
 ·exact absurd (h2.trans h4.symm) (hp i j h1 h3 hlt)
 ·exact heq
 ·exact absurd (h4.trans h2.symm) (hp j i h3 h1 hgt)
theorem Mat.hd {base:Nat} {w:World} {g N:Nat} {bs:List Nat} {M:Mx} (h:Mat base w g N bs M) {i b:Nat} (hb:bs[i]?=some b):w.cell? ⟨g,i,none⟩=some (hdr N b):=by
 have hi:i<bs.length:=(List.getElem?_eq_some_iff.1 hb).1;refine h.ob.at1 i _ ?_;rw [List.getElem?_append_left (by rw [List.length_map];exact hi),List.getElem?_map,hb];rfl
theorem Mat.lt {base:Nat} {w:World} {g N:Nat} {bs:List Nat} {M:Mx} (h:Mat base w g N bs M):g<w.heap.size:=h.ob.lt
theorem Mat.push {base:Nat} {w:World} {g N:Nat} {bs:List Nat} {M:Mx} (h:Mat base w g N bs M) (hn:bs.length<N) {b:Nat} {r:List (List Trm)} (hr:RowAt base w N b r) (hb:b∉bs) :
  Mat base (w.setCell ⟨g,bs.length,none⟩ (hdr N b)) g N (bs++[b]) (M++[r]):=by
 have hl:=setCell_lr (j:=bs.length) h.ob (hdr N b);refine⟨?_,h.gb,by simp [h.len],by simp;omega,fun i b' r' h1 h2=>?_,?_⟩
 ·have h3:=h.ob.set bs.length (hdr N b)
  have e:(bs.map (hdr N)++List.replicate (N-bs.length) (Value.slice none 0 0)).set bs.length (hdr N b)=(bs++[b]).map (hdr N)++List.replicate (N-(bs++[b]).length) (Value.slice none 0 0):=by
   obtain⟨d,hd⟩:∃ d,N - bs.length=d+1:=⟨N - bs.length - 1,by omega⟩;have hd2:N - (bs++[b]).length=d:=by simp;omega
   rw [hd,hd2,List.set_append_right _ _ (by simp),List.length_map,Nat.sub_self,List.replicate_succ,List.set_cons_zero,List.map_append,List.append_assoc];rfl
  rw [e] at h3;exact h3
 ·rcases Nat.lt_or_ge i bs.length with hi|hi
  ·rw [List.getElem?_append_left hi] at h1;rw [List.getElem?_append_left (by rw [h.len];exact hi)] at h2;have h4:=h.row i b' r' h1 h2;exact h4.lr hl (by decide) (by decide) (h4.ne h.ob)
  ·rw [List.getElem?_append_right hi] at h1;rw [List.getElem?_append_right (by rw [h.len];exact hi),h.len] at h2;rcases Nat.eq_zero_or_pos (i - bs.length) with h0|h0
   ·rw [h0] at h1 h2;simp only [List.getElem?_cons_zero,Option.some.injEq] at h1 h2;subst h1;subst h2;exact hr.lr hl (by decide) (by decide) (hr.ne h.ob)
   ·rw [List.getElem?_eq_none (by simp;omega)] at h1;cases h1
 ·rw [List.nodup_append];refine⟨h.nd,by simp,fun x hx y hy=>?_⟩;rw [List.mem_singleton.1 hy];rintro rfl;exact hb hx
theorem Mat.set {base:Nat} {w:World} {g N:Nat} {bs:List Nat} {M:Mx} (h:Mat base w g N bs M) {i b j:Nat} (hb:bs[i]?=some b) (hj:j<N) {v:Value} {q:List Trm} (hq:IsPoly w v q) :
  Mat base (w.setCell ⟨b,j,none⟩ v) g N bs (mset M i j q)/\Lr (some b) polyT w (w.setCell ⟨b,j,none⟩ v)/\base<=b:=by
 have hi:i<bs.length:=(List.getElem?_eq_some_iff.1 hb).1;have hM:M[i]?=some (M.getD i []):=by rw [List.getD_eq_getElem?_getD,List.getElem?_eq_getElem (by rw [h.len];exact hi)];rfl
 have hr:=h.row i b _ hb hM;obtain⟨h1,h2⟩:=hr.set hj hq;refine⟨⟨h.ob.lr h2 (by simpa using (hr.ne h.ob).symm),h.gb,by rw [mset,List.length_set];exact h.len,h.le,fun i' b' r' h3 h4=>?_,h.nd⟩,h2,hr.1⟩;by_cases hii:i=i'
 ·subst hii;rw [hb] at h3;cases h3;rw [mset,List.getElem?_set,if_pos rfl,if_pos (by rw [h.len];exact hi)] at h4;cases h4;exact h1
 ·rw [mset,List.getElem?_set,if_neg hii] at h4;refine (h.row i' b' r' h3 h4).lr h2 (by decide) (by decide) ?_;rintro rfl;exact hii (nodup_inj h.nd hb h3)
theorem mset_last (M:Mx) (r:List (List Trm)) (j:Nat) (x:List Trm):mset (M++[r]) M.length j x=M++[r.set j x]:=by
 unfold mset;rw [List.getD_eq_getElem?_getD,List.getElem?_append_right (Nat.le_refl _),Nat.sub_self,List.set_append_right _ _ (Nat.le_refl _),Nat.sub_self];rfl
end Q
namespace Go.Proofs.YtopclbeomcggiaaGreat
open Go.RowKit Q Go.WideMaps Go.Maps
def RetMat (w:World) (N:Nat) (M:Mx) (e:Ending) (w':World):Prop:=∃ g bs,e=.returned (.slice (some ⟨g,0,none⟩) N N)/\Mat w.heap.size w' g N bs M/\Below w.heap.size w w'
theorem sylvester_any (va vb:Value) (a b:List (List Trm)) (w:World) (ha:IsPolys w va a) (hb:IsPolys w vb b) (la:1<=a.length) (la2:a.length<=100001) (lb:1<=b.length) (lb2:b.length<=100001) :
  Calls Tryz.prog 76 #[va,vb] w (RetMat w (a.length-1+(b.length-1)) (syl a b)):=by
 obtain⟨aa,ca,rfl,hca⟩:=ha.shape;obtain⟨ab,cb,rfl,hcb⟩:=hb.shape;obtain⟨m,hm⟩:∃ m,a.length=m+1:=⟨a.length - 1,by omega⟩;obtain⟨n,hn⟩:∃ n,b.length=n+1:=⟨b.length - 1,by omega⟩;have hrow:∀ i,sylRow a b (m+n) i=if n<=i then sylTo b (i - n) (m+n) b.length else sylTo a i (m+n) a.length:=fun i=>by rw [sylRow,hn,Nat.add_sub_cancel]
 have hsyl:syl a b=(List.range (m+n)).map (sylRow a b (m+n)):=by rw [syl,hm,hn,Nat.add_sub_cancel,Nat.add_sub_cancel]
 rw [hsyl,show a.length-1+(b.length-1)=m+n by omega];have hm2:(a.length:Int)-1=(m:Int):=by omega
 have hn2:(b.length:Int)-1=(n:Int):=by omega
 have hml:m<=100000:=by omega
 have hnl:n<=100000:=by omega
 replace hrow:=zH hrow;replace ha:=zH ha;replace hb:=zH hb;replace hm:=zH hm;replace hn:=zH hn;clear hsyl
 go_enter Tryz.func76,Tryz.ntmps76
 go_wp2_with (at_make;refine wpList_make_blk rfl _ _ _ rfl rowT (.slice none 0 0) 1 24 Tryz.underlying84 (by kernel_rfl) rfl rfl .i64 .i64 _ _ (m+n) rfl rfl (by omega) (by omega) (by omega) (by omega) ?_;intro w2 own2 gr2)
 have hst:Hid (Mat w.heap.size w2 w.heap.size (m+n) [] ((List.range 0).map (sylRow a b (m+n)))):=zH ⟨by simpa using (show Blk w2 w.heap.size rowT (List.replicate (m+n) (Value.slice none 0 0)) from own2),Nat.le_refl _,rfl,by simp,fun i b r h=>by simp at h,List.nodup_nil⟩;generalize hg:w.heap.size=g at hst ⊢;have hgw:w.heap.size<=g:=by omega
 clear own2
 go_loopw [24] (fun i wr=>∃ (k:Nat) (bs:List Nat),k<=m+n/\i=.int .i64 k/\bs.length=k/\Hid (Mat w.heap.size wr g (m+n) bs ((List.range k).map (sylRow a b (m+n))))/\Below w.heap.size w wr) (fun i _=>m+n-(intOf i).toNat)
 case atStart=>exact⟨0,[],by omega,by go_num,rfl,by rw [hg];exact hst,gr2⟩
 case round =>
  clear hst gr2;replace hg:=zH hg;obtain⟨k,bs,hk,rfl,hbl,hM,hbr⟩:=hrel;by_cases hkl:k<m+n
  ·have hkl':(k:Int)<(m:Int)+(n:Int):=by omega
   have hM0:=hM.out;have hgl:=hM0.lt;have hz:=hM0.ob.at1 k (.slice none 0 0) (by rw [List.getElem?_append_right (by rw [List.length_map];omega),List.length_map,hbl,Nat.sub_self,List.getElem?_replicate,if_pos (by omega)]);have hf:=hM0.ob.frozen k
   go_upto_region 7 with (first
   |(at_make;refine wpList_make_blk rfl _ _ _ rfl polyT (.slice none 0 0) 1 24 Tryz.underlying75 (by kernel_rfl) rfl rfl .i64 .i64 _ _ (m+n) rfl rfl (by omega) (by omega) (by omega) (by omega) ?_;intro w3 own3 gr3;have hz3:=(hM0.on gr3).ob.at1 k (.slice none 0 0) (by rw [List.getElem?_append_right (by rw [List.length_map];omega),List.length_map,hbl,Nat.sub_self,List.getElem?_replicate,if_pos (by omega)]);have hf3:=(hM0.on gr3).ob.frozen k)
   |(refine wpList_index_at rfl (.tmp 27) (.tmp 28) _ rfl _ Tryz.underlying84 _ 1 24 (by kernel_rfl) _ _ _ rfl _ _ rfl k rfl hkl g 0 rfl ?_;rw [Nat.mul_one,Nat.zero_add]))
   have hM3:=hM0.on gr3
   have hnin:wr.heap.size∉bs:=fun hin=>by
    obtain⟨i,hi,he⟩:=List.getElem_of_mem hin;have h1:bs[i]?=some wr.heap.size:=by rw [List.getElem?_eq_getElem hi,he]
    have h2:((List.range k).map (sylRow a b (m+n)))[i]?=some (((List.range k).map (sylRow a b (m+n))).getD i []):=by
     rw [List.getD_eq_getElem?_getD,List.getElem?_eq_getElem (by simp;omega)];rfl
    have h3:=hM0.row i _ _ h1 h2;obtain⟨-,-,-,-,h4⟩:=h3.get (j:=0) (by omega);omega
   have hrw:RowAt w.heap.size w3 (m+n) wr.heap.size (List.replicate (m+n) []):=by
    refine⟨hbr.size,by simp,List.replicate (m+n) (.slice none 0 0),⟨own3,by simp,fun i v p h1 h2=>?_⟩,by simp⟩;rw [rep_get h1,rep_get h2];exact IsSl.nil _ _
   have hpush:=hM3.push (by omega) hrw hnin;rw [hbl] at hpush;have hb4:=(hbr.trans (gr3.mono hbr.size)).trans (setCell_below (W:=w3) (g:=g) (j:=k) hgw (hdr (m+n) wr.heap.size));have hst0:Hid (Mat w.heap.size (w3.setCell ⟨g,k,none⟩ (hdr (m+n) wr.heap.size)) g (m+n) (bs++[wr.heap.size]) ((List.range k).map (sylRow a b (m+n))++[List.replicate (m+n) []])):=zH hpush;obtain⟨gb,hgb⟩:∃ gb,gb=wr.heap.size:=⟨_,rfl⟩;rw [<- hgb] at hst0 hb4 ⊢;obtain⟨W4,hW4⟩:∃ W4,W4=w3.setCell ⟨g,k,none⟩ (hdr (m+n) gb):=⟨_,rfl⟩;rw [<- hW4] at hst0 hb4;change Code.wp _ _ _ _ (w3.setCell ⟨g,k,none⟩ (hdr (m+n) gb));rw [<- hW4];clear hM hM0 hM3 hz hf own3 gr3 hz3 hf3 hnin hrw hpush hW4 hgb hgl hbr
   go_upto_if 38 with (fail)
   go_cut [9,10,39,40,41,42] (fun vl vt _ _ _ _ wc=>∃ (l:List (List Trm)) (t:Nat),vt=.int .i64 t/\Hid (IsPolys w vl l)/\Hid (sylRow a b (m+n) k=sylTo l t (m+n) l.length)/\1<=l.length/\l.length<=100001/\t+l.length<=m+n/\Hid (Mat w.heap.size wc g (m+n) (bs++[gb]) ((List.range k).map (sylRow a b (m+n))++[List.replicate (m+n) []]))/\Below w.heap.size w wc)
   case first =>
    by_cases hnk:n<=k
    ·have hnk':(n:Int)<=(k:Int):=by omega
     obtain⟨t,ht⟩:∃ t,t=k - n:=⟨_,rfl⟩;have ht2:(k:Int) - (n:Int)=(t:Int):=by omega
     have hr9:=zH (hrow.out k);replace ht:=zH ht;go_wp2;go_meet
     case rel=>exact⟨b,t,rfl,hb,zH (by rw [hr9.out,if_pos hnk,ht.out]),lb,lb2,by have:=ht.out;have:=hn.out;omega,hst0,hb4⟩
    ·have hnk':¬ (n:Int)<=(k:Int):=by omega
     have hr9:=zH (hrow.out k);go_wp2;go_meet
     case rel=>exact⟨a,k,rfl,ha,zH (by rw [hr9.out,if_neg (by omega)]),la,la2,by have:=hm.out;omega,hst0,hb4⟩
   case rest =>
    clear hst0 hb4;obtain⟨l,t,rfl,hl,hsr,ll,ll2,htl,hM,hbc⟩:=hcut;obtain⟨al,cl,rfl,-⟩:=hl.out.shape;go_wp2
    go_loopw [45] (fun i wz=>∃ j:Nat,j<=l.length/\i=.int .i64 j/\Hid (Mat w.heap.size wz g (m+n) (bs++[gb]) ((List.range k).map (sylRow a b (m+n))++[sylTo l t (m+n) j]))/\Below w.heap.size w wz) (fun i _=>l.length-(intOf i).toNat)
    case atStart=>exact⟨0,by omega,by go_num,hM,hbc⟩
    case round =>
     clear hM hbc;obtain⟨j,hj,rfl,hM,hbz⟩:=hrel;by_cases hjl:j<l.length
     ·have hjq:l[j]?=some l[j]:=List.getElem?_eq_getElem hjl;have hgd:l.getD j []=l[j]:=by rw [List.getD_eq_getElem?_getD,hjq];rfl
      have hl0:=hl.out.on hbz;generalize l[j]=c at *;obtain⟨bl,ol,vc,rfl,hvc,hC⟩:=cell_poly hl0 hjq;have hvs:=IsSl.shape hvc;obtain⟨p,hp⟩:∃ p,p=t+l.length - 1 - j:=⟨_,rfl⟩;have hpi:(t:Int)+(l.length:Int) - 1 - (j:Int)=(p:Int):=by omega
      have hpN:p<m+n:=by omega
      have hM0:=hM.out;have hbk:(bs++[gb])[k]?=some gb:=by rw [List.getElem?_append_right (by omega),hbl,Nat.sub_self];rfl
      have hlen9:((List.range k).map (sylRow a b (m+n))).length=k:=by simp
      have hsucc:Hid ((List.range k).map (sylRow a b (m+n))++[sylTo l t (m+n) (j+1)]=mset ((List.range k).map (sylRow a b (m+n))++[sylTo l t (m+n) j]) k p c):=zH (by
       have h1:=mset_last ((List.range k).map (sylRow a b (m+n))) (sylTo l t (m+n) j) p c;rw [hlen9] at h1
       rw [h1,sylTo,<- hp,hgd])
      have hhd:∀ W,Below wr.heap.size wr W->W.cell? ⟨g,k,none⟩=some (.slice (some ⟨gb,0,none⟩) (m+n) (m+n)):=fun W hb=>(hM0.on hb).hd hbk
      have hcc:∀ W,Below wr.heap.size wr W->W.cell? ⟨bl,ol+j,none⟩=some vc:=fun W hb=>by
       have h1:=(hC.on hb).cell 0 (by simp);simpa using h1
      have hll:(l.length:Int)<=100001:=by omega
      have htN:(t:Int)<=200000:=by omega
      replace hhd:=zH hhd;replace hcc:=zH hcc;replace hp:=zH hp;clear hC hjq hgd hlen9 hsr
      go_upto_region 13 with (fail)
      refine wp_region_L mixed (none) (0) (Okr.none) [.eq (.slice (some ⟨g,0,none⟩) (m+n) (m+n)),.eq (.int .i64 k),.eq (.pointer (some ⟨g,0+k*1,none⟩)),.eq (.slice (some ⟨gb,0,none⟩) (m+n) (m+n)),.eq (.int .i64 t),.eq (.slice (some ⟨bl,ol,none⟩) l.length cl),.eq (.int .i64 l.length),.eq (.int .i64 ((t:Int)+l.length)),.eq (.int .i64 ((t:Int)+l.length-1)),.eq (.int .i64 j),.eq (.int .i64 p),.eq (.slice (some ⟨bl,ol,none⟩) l.length cl),.eq (.int .i64 j),.eq (.pointer (some ⟨bl,ol+j*1,none⟩)),.eq (vc),.eq (.pointer (some ⟨gb,0+p*1,none⟩))] [48,49,50,51,52,53,54,55,56,57,58,59,60,61,62,63] rfl rfl rfl rfl ⟨?_,?_,?_,?_,?_,?_,?_,?_,?_,?_,?_,?_,?_,?_,?_,?_,trivial⟩ ?_
      ·exact fun _ _ a _ _ _=>xM rfl (a 7 rfl)
      ·exact fun _ _ a _ _ _=>xM rfl (a 8 rfl)
      ·exact fun _ _ _ _ _ e=>pI rfl Tryz.underlying84 g 0 k (hkl) (e.1 rfl) (e.2.1 rfl)
      ·intro A w1 hA hL hS he;have h50:=eT 50 (he.1 rfl);refine goOn_plain rfl ?_;have c0:=hhd.out w1 hL.below;exact stepG_pure rfl rfl gZ
      ·exact fun _ _ a _ _ _=>xM rfl (a 10 rfl)
      ·exact fun _ _ a _ _ _=>xM rfl (a 9 rfl)
      ·intro A w1 hA hL hS he;have h53:=eT 53 (he.1 rfl);exact pZ rfl
      ·intro A w1 hA hL hS he;have h52:=eT 52 (he.1 rfl);have h54:=eT 54 (he.2.1 rfl);refine goOn_plain rfl (stepG_pure rfl rfl ?_);generalize A.eval=ev at *;go_simp;exact wrap64 (by omega) (by omega)
      ·intro A w1 hA hL hS he;have h55:=eT 55 (he.1 rfl);have hc0:=eC A (.int .i64 1);refine goOn_plain rfl (stepG_pure rfl rfl ?_);generalize A.eval=ev at *;go_simp;exact wrap64 (by omega) (by omega)
      ·exact fun _ _ a _ _ _=>xM rfl (a 11 rfl)
      ·intro A w1 hA hL hS he;have h56:=eT 56 (he.1 rfl);have h57:=eT 57 (he.2.1 rfl);refine goOn_plain rfl (stepG_pure rfl rfl ?_);generalize A.eval=ev at *;go_simp
       (first|exact wrap64 (by omega) (by omega)|(rw [hpi];exact wrap64 (by omega) (by omega)))
      ·exact fun _ _ a _ _ _=>xM rfl (a 9 rfl)
      ·exact fun _ _ a _ _ _=>xM rfl (a 11 rfl)
      ·exact fun _ _ _ _ _ e=>pI rfl Tryz.underlying75 bl ol j (hjl) (e.1 rfl) (e.2.1 rfl)
      ·intro A w1 hA hL hS he;have h61:=eT 61 (he.1 rfl);refine goOn_plain rfl ?_;have c0:=hcc.out w1 hL.below;exact stepG_pure rfl rfl gZ
      ·exact fun _ _ _ _ _ e=>pI rfl Tryz.underlying75 gb 0 p (hpN) (e.1 rfl) (e.2.1 rfl)
      ·intro W5 hL5;have hb5:=hL5.below;simp only [TailL,FactL.eq,lZ];go_frame;have hM5:=hM0.on hb5;have hrk:=hM5.row k gb _ hbk (show ((List.range k).map (sylRow a b (m+n))++[sylTo l t (m+n) j])[k]?=some (sylTo l t (m+n) j) by rw [List.getElem?_append_right (by simp),List.length_map,List.length_range,Nat.sub_self];rfl);obtain⟨vo,-,z5,f5,-⟩:=hrk.get hpN;obtain⟨hM6,hl6,hgb6⟩:=hM5.set hbk hpN (hvc.on hb5);have hMs:Hid (Mat w.heap.size (W5.setCell ⟨gb,p,none⟩ vc) g (m+n) (bs++[gb]) ((List.range k).map (sylRow a b (m+n))++[sylTo l t (m+n) (j+1)])):=zH (by rw [hsucc.out];exact hM6);have hb6:=(hbz.trans (hb5.mono hbz.size)).trans (setCell_below (W:=W5) (g:=gb) (j:=p) hgb6 vc);clear hM5 hrk hM6 hl6 hM0 hM hl0 hhd hcc hL5 hsucc hvc;obtain⟨ac,cc,rfl,-⟩:=hvs;go_wp2;go_roundw
       case rel=>exact⟨j+1,by omega,by go_num,hMs,hb6⟩
       case measure=>simp [intOf];omega
     ·obtain rfl:j=l.length:=by omega
      have hM2:Hid (Mat w.heap.size wr g (m+n) (bs++[gb]) ((List.range (k+1)).map (sylRow a b (m+n)))):=zH (by
       rw [List.range_succ,List.map_append,List.map_cons,List.map_nil,hsr.out];exact hM.out)
      clear hM hl hsr;go_wp2;go_roundw
      case rel=>exact⟨k+1,bs++[gb],by omega,by go_num,by simp;omega,hM2,hbz⟩
      case measure=>simp [intOf];omega
  ·obtain rfl:k=m+n:=by omega
   go_wp2;go_ret;exact⟨g,bs,rfl,hM.out,hbr⟩
end Go.Proofs.YtopclbeomcggiaaGreat
end
