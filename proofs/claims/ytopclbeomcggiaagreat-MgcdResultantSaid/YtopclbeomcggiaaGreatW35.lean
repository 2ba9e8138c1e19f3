/- R8.determinant. -/
import Derived.Test.YtopclbeomcggiaaGreatW34
set_option linter.unusedVariables false
set_option linter.unusedSimpArgs false
set_option maxHeartbeats 16000000
set_option maxRecDepth 100000
namespace Q
open Go Go.RowKit Go.Proofs.YtopclbeomcggiaaGreat
def M7:Sz:=⟨1,2 ^ 100,40,41⟩
theorem CB:M7.ok/\(M7.mul M7).ok/\(M7.mul ⟨1,1,0,1⟩).ok:=by decide +kernel
theorem En.pk {u B E:Nat} {p:List ai} (h:En u B E p) (hu:u<4) (hB:B<=2 ^ 100) (hE:E<=40):Pk M7 p:=⟨h.v,(h.mono hB hE).bd hu,CB.1⟩
structure Ya (n:Nat) (M:Mx):Prop where
 o:∀ k,k<=n+1->Pk M7 (uG (fun k=>mH n (dR M k)) (M.getD 0 []) k)
 f:∀ k,k<n+1->Pk M7 (mH n (dR M k))
 c:∀ k,Pk M7 ((M.getD 0 []).getD k [])
 m:∀ k,k<n+1->Pk M7 (aQ ((M.getD 0 []).getD k []) (mH n (dR M k)))
 s:∀ k,k<n+1->Pk M7 (dK [] (aQ ((M.getD 0 []).getD k []) (mH n (dR M k))))
theorem OA {u n:Nat} {M:Mx} (hu:u<4) (h:Dt u (n+1) M) (hn:n<4):Ya n M:=by
 have hB:∀ k,k<4->Xj k<=2 ^ 30:=by decide +kernel
 have hb:=hB n hn;have p1:∀ k,k<=4->k*(15*2 ^ 30)<=2 ^ 100:=by decide +kernel
 have hf:∀ k,k<n+1->En u (2 ^ 30) (2*n) (mH n (dR M k)):=fun k hk=>(Gi hu n _ (h.minor hk)).mono hb (Nat.le_refl _);have hr:∀ k,En u 15 2 ((M.getD 0 []).getD k []):=fun k=>h.get 0 k;have hm:∀ k,k<n+1->En u (15*2 ^ 30) (2+2*n) (aQ ((M.getD 0 []).getD k []) (mH n (dR M k))):=fun k hk=>(hr k).mul (hf k hk) hu;refine⟨fun k hk=>?_,fun k hk=>?_,fun k=>?_,fun k hk=>?_,fun k hk=>?_⟩
 ·exact (Gh (N:=n+1) hu hf hr k hk).pk hu (p1 k (by omega)) (by omega)
 ·exact (hf k hk).pk hu (by decide +kernel) (by omega)
 ·exact (hr k).pk hu (by decide +kernel) (by omega)
 ·exact (hm k hk).pk hu (by decide +kernel) (by omega)
 ·exact ((En.nil u 0 0).sub (hm k hk) hu).pk hu (by decide +kernel) (by omega)
theorem Jg {al:Option Addr} {n cl j:Nat} {w:World} {M:Mx} {r:List (List ai)} (h:yE w (.slice al n cl) M) (hj:M[j]?=some r):∃ b off v,al=some ⟨b,off,none⟩/\fG w v r/\bO qL w b (off+j*1) [v]:=by
 obtain⟨b,off,cs,e,-,⟨v,rfl,hv⟩,hC⟩:=h.get hj;exact⟨b,off,v,e,hv,hC⟩
theorem zB {P:Program} {w:World} {ops:Array Oper} {rest:List Oper} {o:Oper} {a:Act} {Q:Exit->Act->World->Prop} (hg:o.guard=none) (x lo:Operand) (t:TypeId) (hop:o.op=Op.slice t x (some lo) none none) {el:TypeId} (ht:P.underlying t=some (.slice el)) {size:Nat} (hs:(P.info? el).map (·.size)=some size)
  (ao:Option Addr) (n c:Nat) (hx:a.eval x=.slice ao n c) (k:IntKind) (i:Int) (hix:a.eval lo=.int k i) (j:Nat) (hij:i=(j:Int)) (hj:j<=n) (hn:n<=c) (h:wpList P ops Q rest (a.put o.dst (.slice (if c=j then ao else ao.map (·.add (j*size))) (n-j) (c-j))) w):wpList P ops Q (o::rest) a w:=by
 refine wpList_plain hg fun K hK=>?_;have hrun:=fP ht hs w ao n c j k i hij hj hn;unfold Oper.wp;rw [iA hop (by simp only [Option.map_some,Option.map_none];rw [hx,hix];exact hrun)];exact hK _ _ h
end Q
namespace Go.Proofs.YtopclbeomcggiaaGreat
open Go.RowKit Q Go.WideMaps Go.Maps
theorem RB (w:World):Calls Tryz.prog 58 #[] w (aX w nP):=by
 have hc:=zH (fun W v (hv:bV W v ((1:Int):Rat))=>Bi v ((1:Int):Rat) ⟨1,1,0,1⟩ W hv ⟨by simp,fun t ht=>by rw [List.mem_singleton.1 ht];decide,fun t ht=>by rw [List.mem_singleton.1 ht];exact Dv.int 1 1,by decide +kernel⟩ (by decide +kernel));rw [show bX ((1:Int):Rat)=nP from by show bX 1=nP;decide +kernel] at hc
 go_enter Tryz.func58,Tryz.ntmps58
 go_wp2_with (first
  | (go_at_call 24;refine (jh 1 _ (by omega) (by omega)).mono ?_;rintro e w3 ⟨v3,rfl,h3,hb3⟩)
  | (go_at_call 72;refine (hc.out _ _ h3).mono ?_;rintro e w4 ⟨v4,rfl,h4,hb4⟩))
 go_ret;exact⟨_,rfl,h4,hb3.trans (hb4.mono hb3.size)⟩
theorem RD {u:Nat} (hu:u<4):∀ (n:Nat) (vm:Value) (M:Mx) (w:World),n<=4->Dt u n M->yE w vm M->Calls Tryz.prog 77 #[vm] w (aX w (mH n M)):=by
 intro n
 induction n with
 | zero =>
  intro vm M w _ hM hm;obtain⟨am,cm,rfl,hcm⟩:=hm.shape;have hl:=hM.len;rw [hl]
  go_enter Tryz.func77,Tryz.ntmps77
  go_wp2_with (go_at_call 58;refine (RB _).mono ?_;rintro e w3 ⟨v3,rfl,h3,hb3⟩)
  go_ret;exact⟨_,rfl,h3,hb3⟩
 | succ n ih =>
  intro vm M w hn hM hm;have hD:=OA hu hM (by omega);obtain⟨am,cm,rfl,hcm⟩:=hm.shape;have hl:=hM.len;have hrl:∀ (i:Nat) (r:List (List ai)),M[i]?=some r->r.length=n+1:=fun i r h=>hM.rows r (List.mem_of_getElem? h);have h0q:M[0]?=some (M.getD 0 []):=by rw [List.getD_eq_getElem?_getD,List.getElem?_eq_getElem (by omega)];rfl
  obtain⟨bm,om,v0,rfl,hv0,hC0⟩:=Jg hm h0q;obtain⟨a0,c0,rfl,hc0⟩:=hv0.shape;have hl0:=hrl 0 _ h0q
  have hcc0:∀ W,Below w.heap.size w W->W.cell? ⟨bm,om,none⟩=some (.slice a0 (M.getD 0 []).length c0):=fun W hb=>by
   have h1:=(hC0.on hb).cell 0 (by simp);simpa using h1
  have hmn:∀ k,k<n+1->Dt u n (dR M k):=fun k hk=>hM.minor hk;have hres:mH (n+1) M=uG (fun k=>mH n (dR M k)) (M.getD 0 []) (n+1):=rfl;rw [hres];have dG:∀ k,uG (fun k=>mH n (dR M k)) (M.getD 0 []) (k+1)=if (M.getD 0 []).getD k []=[] then uG (fun k=>mH n (dR M k)) (M.getD 0 []) k else lN (uG (fun k=>mH n (dR M k)) (M.getD 0 []) k) (if k % 2=1 then dK [] (aQ ((M.getD 0 []).getD k []) (mH n (dR M k))) else aQ ((M.getD 0 []).getD k []) (mH n (dR M k))):=fun k=>by rw [uG]
  have hst0:uG (fun k=>mH n (dR M k)) (M.getD 0 []) 0=[]:=rfl;have hDo:=hD.o;generalize hF:uG (fun k=>mH n (dR M k)) (M.getD 0 [])=F at *;replace dG:=zH dG;replace hst0:=zH hst0;replace hD:=zH hD;replace hDo:=zH hDo;replace hM:=zH hM;replace hm:=zH hm;replace hv0:=zH hv0;replace hrl:=zH hrl;replace hcc0:=zH hcc0;replace hmn:=zH hmn;replace ih:=zH ih;replace h0q:=zH h0q;clear hF hC0 hres;rw [hl0] at hcc0 hv0 hc0;rw [hl] at hcm ⊢;rw [hl] at hm
  go_enter Tryz.func77,Tryz.ntmps77
  go_wp2;have hb1:Below w.heap.size w (w.alloc (.cells #[] aN)):=(Below.refl _ _).alloc (Nat.le_refl _) _;have hnil:ak (w.alloc (.cells #[] aN)) (.slice (some ⟨w.heap.size,0,none⟩) 0 0) []:=(fV aO w).isSl;generalize w.alloc (.cells #[] aN)=wa at *
  go_loopw [3,4] (fun o i wr=>∃ k:Nat,k<=n+1/\i=.int .i64 k/\Hid (ak wr o (F k))/\Below w.heap.size w wr) (fun _ i _=>n+1-(intOf i).toNat)
  case atStart=>exact⟨0,by omega,by go_num,zH (by rw [hst0.out];exact hnil),hb1⟩
  case round =>
   clear hnil hb1 hst0
   rename World=>wo
   obtain⟨k,hk,rfl,ho,hbr⟩:=hrel;by_cases hkl:k<n+1
   ·have hkl':(k:Int)<((n+1:Nat):Int):=by omega
    have hF1:=dG.out k;have hDc:=hD.out.c k;have hDf:=hD.out.f k hkl;have hDm:=hD.out.m k hkl;have hDs:=hD.out.s k hkl;have hkq:(M.getD 0 [])[k]?=some ((M.getD 0 []).getD k []):=by rw [List.getD_eq_getElem?_getD (l:=M.getD 0 []),List.getElem?_eq_getElem (by omega)];rfl
    have hv0o:=hv0.out.on hbr;have hml:(dR M k).length=n:=by rw [dR,List.length_map,List.length_tail,hl];omega
    generalize hcd:(M.getD 0 []).getD k []=c at *;obtain⟨b0,o0,vc,rfl,hvc,hC⟩:=qG hv0o hkq;obtain⟨ac,cc,rfl,hcc⟩:=hvc.shape;have e21:wo.cell? ⟨bm,om,none⟩=some (.slice (some ⟨b0,o0,none⟩) (n+1) c0):=hcc0.out wo hbr
    have e24:∀ W,Below wo.heap.size wo W->W.cell? ⟨b0,o0+k,none⟩=some (.slice ac c.length cc):=fun W hb=>by
     have h1:=(hC.on hb).cell 0 (by simp);simpa using h1
    have e24o:=e24 wo (Below.refl _ _);replace e24:=zH e24;replace hkq:=zH hkq;replace hcd:=zH hcd;replace hDc:=zH hDc;replace hDf:=zH hDf;replace hDm:=zH hDm;replace hDs:=zH hDs;replace hml:=zH hml;replace hvc:=zH hvc;clear hC hv0o;by_cases hcn:c=[]
    ·subst hcn;rw [if_pos rfl] at hF1;replace hF1:=zH hF1;simp only [List.length_nil] at e24o
     go_wp2_with (first
      | (refine aj rfl _ _ 84 rfl qL Tryz.underlying84 _ 1 24 (by kernel_rfl) _ _ _ rfl .i64 0 rfl 0 rfl (by omega) bm om rfl ?_;rw [Nat.zero_mul,Nat.add_zero])
      | (refine aj rfl _ _ 75 rfl polyT Tryz.underlying75 _ 1 24 (by kernel_rfl) _ _ _ rfl .i64 _ rfl k rfl hkl b0 o0 rfl ?_;rw [Nat.mul_one]))
     go_roundw
     case rel=>exact⟨k+1,by omega,by go_num,zH (by rw [hF1.out];exact ho.out),hbr⟩
     case measure=>simp [intOf];omega
    ·rw [if_neg hcn] at hF1;replace hF1:=zH hF1;have hcl:¬ ((c.length:Int)=0):=fun h=>hcn (List.length_eq_zero_iff.1 (by omega));replace hcn:=zH hcn
     go_wp2_with (first
      | (refine aj rfl _ _ 84 rfl qL Tryz.underlying84 _ 1 24 (by kernel_rfl) _ _ _ rfl .i64 0 rfl 0 rfl (by omega) bm om rfl ?_;rw [Nat.zero_mul,Nat.add_zero])
      | (refine aj rfl _ _ 75 rfl polyT Tryz.underlying75 _ 1 24 (by kernel_rfl) _ _ _ rfl .i64 _ rfl k rfl hkl b0 o0 rfl ?_;rw [Nat.mul_one]))
     clear e24o;have hb4:Below wo.heap.size wo (wo.alloc (.cells #[] 75)):=(Below.refl _ _).alloc (Nat.le_refl _) _;have hown0:=zH (fV wZ wo);change Hid (zR wo.heap.size (wo.alloc (.cells #[] 75)) _ ((dR M k).take 0)) at hown0;generalize wo.alloc (.cells #[] 75)=wb at *
     go_loopw [5,6] (fun o i wz=>∃ r:Nat,1<=r/\r<=n+1/\i=.int .i64 r/\Hid (zR wo.heap.size wz o ((dR M k).take (r-1)))/\Below wo.heap.size wo wz) (fun _ i _=>n+1-(intOf i).toNat)
     case atStart=>exact⟨1,by omega,by omega,by go_num,hown0,hb4⟩
     case round =>
      clear hown0 hb4;obtain⟨r,hr1,hr,rfl,hown,hbz⟩:=hrel;by_cases hrn:r<n+1
      ·have hrn':(r:Int)<((n+1:Nat):Int):=by omega
       obtain⟨row,hrow⟩:∃ x,M[r]?=some x:=⟨_,List.getElem?_eq_getElem (by omega)⟩;have hwz:Below w.heap.size w wr:=hbr.trans (hbz.mono hbr.size);obtain⟨b',o',vr,e,hvr,hCr⟩:=Jg (hm.out.on hwz) hrow;cases e;obtain⟨ar,cr,rfl,hcr⟩:=hvr.shape;have hrlen:row.length=n+1:=hrl.out r row hrow;rw [hrlen] at hvr hcr hCr
       have hcell:∀ W,Below wr.heap.size wr W->W.cell? ⟨bm,om+r,none⟩=some (.slice ar (n+1) cr):=fun W hb=>by
        have h1:=(hCr.on hb).cell 0 (by simp);simpa using h1
       have hba:Below wr.heap.size wr (wr.alloc (.cells #[] 27)):=(Below.refl _ _).alloc (Nat.le_refl _) _;have hl7:cB oF wr.heap.size (wr.alloc (.cells #[] 27)) (.slice (some ⟨wr.heap.size,0,none⟩) 0 0) []:=fV oF wr;have e38:=hcell (wr.alloc (.cells #[] 27)) hba;have htk:fG (wr.alloc (.cells #[] 27)) (.slice ar k cr) (row.take k):=(hvr.on hba).take k (by omega);have mY:∀ W,Below wr.heap.size wr W->fG W (.slice (if cr=k+1 then ar else ar.map (·.add ((k+1)*1))) (n+1-(k+1)) (cr-(k+1))) (row.drop (k+1)):=fun W hb=>(hvr.on hb).drop (k+1);have hba0:∀ x,(Value.slice (some ⟨wr.heap.size,0,none⟩) 0 0).ownBlock=some x->wr.heap.size<=x:=fun x hx=>(hl7.base_le x hx).1;have hln1:([]:List (List ai)).length+(row.take k).length<=1000000000:=by simp;omega
       have hln2:(row.take k).length+(row.drop (k+1)).length<=1000000000:=by simp;omega
       have hln3:((dR M k).take (r-1)).length+[row.take k++row.drop (k+1)].length<=1000000000:=by have:=hml.out;simp;omega
       have hsn:(dR M k).take (r+1-1)=(dR M k).take (r-1)++[row.take k++row.drop (k+1)]:=by
        obtain⟨q,rfl⟩:∃ q,r=q+1:=⟨r - 1,by omega⟩;have:(dR M k)[q]?=some (row.take k++row.drop (k+1)):=by rw [dR,List.getElem?_map,List.getElem?_tail,hrow];rfl
        rw [show q+1+1-1=q+1 from rfl,show q+1-1=q from rfl,List.take_add_one,this];rfl
       have hub:∀ x,u5.ownBlock=some x->wo.heap.size<=x:=fun x hx=>(hown.out.base_le x hx).1;have hk1:(k:Int)+1=((k+1:Nat):Int):=by omega
       replace mY:=zH mY;replace hcell:=zH hcell;replace hsn:=zH hsn;replace htk:=zH htk;replace hl7:=zH hl7;replace hk1:=zH hk1;replace hrlen:=zH hrlen;replace hrow:=zH hrow;clear hCr hvr hwz
       go_wp2_with (first
        | (at_builtin;refine cZ rfl _ _ 84 rfl Tryz.underlying84 Co rfl rfl hown9 hnew9 hln3 hbw9.size ?_;intro v10 w10 hown10 hl10 hv10)
        | (at_builtin;refine cZ rfl _ _ 75 rfl Tryz.underlying75 sK rfl rfl hown8 (mY.out _ hb8) hln2 hb8.size ?_;intro v9 w9 hown9' hl9 hv9;have hb9:=hb8.trans (hl9.belowAt hb8.size fun x hx=>(hown8.base_le x hx).1);have hpol9:=hown9'.isSl;obtain⟨a9,c9,rfl,-⟩:=hown9'.shape;generalize (row.take k++row.drop (k+1)).length=ln9 at *;have hba9:Below w9.heap.size w9 (w9.alloc (.cells #[.slice a9 ln9 c9] 75)):=(Below.refl _ _).alloc (Nat.le_refl _) _;have hnew9:yE (w9.alloc (.cells #[.slice a9 ln9 c9] 75)) (.slice (some ⟨w9.heap.size,0,none⟩) 1 1) [row.take k++row.drop (k+1)]:=jv (e:=wZ) (Blk.new w9 qL [.slice a9 ln9 c9]) ⟨_,rfl,hpol9.on hba9⟩;have hb9a:=hb9.trans (hba9.mono hb9.size);have hown9:=hown.out.on hb9a;have hbw9:=hbz.trans (hb9a.mono hbz.size);clear hown9' hpol9 hba9 hl9 hv9)
        | (at_builtin;refine cZ rfl _ _ 75 rfl Tryz.underlying75 sK rfl rfl hl7.out htk.out hln1 hba.size ?_;intro v8 w8 hown8 hl8 hv8;rw [List.nil_append] at hown8;have hb8:=hba.trans (hl8.belowAt hba.size hba0);have e48:=hcell.out w8 hb8;clear hl8 hv8)
        | (refine aj rfl _ _ 84 rfl qL Tryz.underlying84 _ 1 24 (by kernel_rfl) _ _ _ rfl .i64 _ rfl r rfl hrn bm om rfl ?_;rw [Nat.mul_one])
        | (refine ni rfl _ _ 75 rfl Tryz.underlying75 Fa _ _ _ rfl .i64 _ rfl k rfl (by omega) ?_)
        | (refine zB rfl _ _ 75 rfl Tryz.underlying75 Fa _ _ _ rfl .i64 _ rfl (k+1) (by omega) (by omega) (by omega) ?_))
       all_goals
        go_roundw
        case rel=>exact⟨r+1,by omega,by omega,by go_num,zH (by rw [hsn.out];exact hown10),hbw9.trans (hl10.belowAt hbw9.size hub)⟩
        case measure=>simp [intOf];omega
      ·obtain rfl:r=n+1:=by omega
       have hmi:=hown.out.isSl;rw [show n+1-1=n from rfl,<- hml.out,List.take_length] at hmi;have hwr:=hbr.trans (hbz.mono hbr.size);have hbb:Below wo.heap.size wo wr:=hbz;have hvc':=hvc.out.on hbz;have ho':=ho.out.on hbz;have e21':=hcc0.out wr hwr;have hmnk:=hmn.out k hkl;replace hmi:=zH hmi;replace hvc':=zH hvc';replace ho':=zH ho';clear hown hvc ho e21
       go_upto_region 14 with (fail)
       refine aF mixed (none) (0) (gp.none) [.eq (.slice (some ⟨bm,om,none⟩) (n+1) cm),.eq (.pointer (some ⟨bm,om+0*1,none⟩)),.eq (.slice (some ⟨b0,o0,none⟩) (n+1) c0),.eq (.int .i64 k),.eq (.pointer (some ⟨b0,o0+k*1,none⟩)),.eq (.slice ac c.length cc),.eq (u5),.poly (by decide) (by decide) ((mH n (dR M k))),.poly (by decide) (by decide) ((aQ c (mH n (dR M k))))] [55,56,57,58,59,60,61,62,63] rfl rfl rfl rfl ⟨?_,?_,?_,?_,?_,?_,?_,?_,?_,trivial⟩ ?_
       ·exact fun _ _ a _ _ _=>xM rfl (a 0 rfl)
       ·exact fun _ _ _ _ _ e=>pI rfl Tryz.underlying84 bm om 0 (Nat.succ_pos n) (e.1 rfl) rfl
       ·intro A w1 hA hL hS he;have h56:=eT 56 (he.1 rfl);refine ae rfl ?_;have c0:=hcc0.out w1 (hwr.trans (hL.below.mono hwr.size));exact aC rfl rfl gZ
       ·exact fun _ _ a _ _ _=>xM rfl (a 4 rfl)
       ·exact fun _ _ _ _ _ e=>pI rfl Tryz.underlying75 b0 o0 k (hkl) (e.1 rfl) (e.2.1 rfl)
       ·intro A w1 hA hL hS he;have h59:=eT 59 (he.1 rfl);refine ae rfl ?_;have c0:=e24.out w1 (hbz.trans (hL.below.mono hbz.size));exact aC rfl rfl gZ
       ·exact fun _ _ a _ _ _=>xM rfl (a 5 rfl)
       ·intro A w1 hA hL hS he;have hb:=hS rfl;have h61:=eT 61 (he.1 rfl);have hf0:=eF A 77;exact cP (f:=77) (args:=#[u5]) (ih.out _ _ _ (by omega) hmnk (hmi.out.on hb))
       ·intro A w1 hA hL hS he;have hb:=hS rfl;have h60:=eT 60 (he.1 rfl);obtain⟨v62,h62,f62⟩:=fT 62 (he.2.1 rfl);have hf0:=eF A 12;exact cP (f:=12) (args:=#[.slice ac c.length cc,v62]) (Ui hDc.out hDf.out CB.2.1 (hvc'.out.on hb) f62)
       ·intro W5 hL5;have hb5:=hL5.below;simp only [aU,af.eq,af.poly,af.ret,af.of,lZ];rintro v62 - v63 h63;go_frame;have ho5:=ho'.out.on hb5;have hbw5:=hwr.trans (hb5.mono hwr.size);clear hL5 hvc' ho' hmi e24 hcc0 hbz hb5 hwr hbb hbr e21' hmnk;obtain⟨a63,c63,rfl,-⟩:=h63.shape;generalize (aQ c (mH n (dR M k))).length=l63 at *;have hDok:=zH (hDo.out k (by omega));have hnilp:=zH (Pk.nil (s:=M7) CB.1);replace h63:=zH h63;replace ho5:=zH ho5;by_cases hodd:k % 2=1
        ·have hm1:(k:Int).tmod 2=1:=by rw [Int.tmod_eq_emod_of_nonneg (by omega)];omega
         rw [if_pos hodd] at hF1
         go_wp2_with (first
          | (go_at_call 39;refine (Mg hDok.out hDs.out (ho5.out.on hb6) h6).mono ?_;rintro e w7 ⟨v7,rfl,h7,hb7⟩)
          | (go_at_call 35;refine (Qw (w:=W5) hnilp.out hDm.out CB.2.2 (bS.nil aO W5) h63.out).mono ?_;rintro e w6 ⟨v6,rfl,h6,hb6⟩))
         refine⟨?_,?measure⟩
         iterate 40 (apply Exists.intro)
         repeat apply Exists.intro
         refine⟨?rel,rfl⟩
         case rel=>exact⟨k+1,by omega,by go_num,zH (by rw [hF1.out];exact h7),(hbw5.trans (hb6.mono hbw5.size)).trans (hb7.mono (hbw5.trans (hb6.mono hbw5.size)).size)⟩
         case measure=>simp [intOf];omega
        ·have hm1:(k:Int).tmod 2=0:=by rw [Int.tmod_eq_emod_of_nonneg (by omega)];omega
         rw [if_neg hodd] at hF1
         go_wp2_with (go_at_call 39;refine (Mg (w:=W5) hDok.out hDm.out ho5.out h63.out).mono ?_;rintro e w7 ⟨v7,rfl,h7,hb7⟩)
         refine⟨?_,?measure⟩
         iterate 40 (apply Exists.intro)
         repeat apply Exists.intro
         refine⟨?rel,rfl⟩
         case rel=>exact⟨k+1,by omega,by go_num,zH (by rw [hF1.out];exact h7),hbw5.trans (hb7.mono hbw5.size)⟩
         case measure=>simp [intOf];omega
   ·obtain rfl:k=n+1:=by omega
    go_wp2;go_ret;exact⟨_,rfl,ho.out,hbr⟩
theorem CE (va vb:Value) (a b:List ai) (v:Int) (w:World) (ha:ak w va a) (hb:ak w vb b) (h:a=[]\/b=[]):Calls Tryz.prog 34 #[va,vb,.int .i64 v] w (aX w []):=by
 obtain⟨aa,ca,rfl,-⟩:=ha.shape;obtain⟨ab,cb,rfl,-⟩:=hb.shape;by_cases h0:a=[]
 ·subst h0;simp only [List.length_nil]
  go_enter Tryz.func34,Tryz.ntmps34
  go_wp2;go_ret;exact⟨_,rfl,bS.nil _ _,Below.refl _ _⟩
 ·have h1:b=[]:=h.resolve_left h0;subst h1;have hne:((a.length:Int) == 0)=false:=by have:=List.length_pos_iff.2 h0;simp;omega
  simp only [List.length_nil];generalize a.length=n at *;clear h
  go_enter Tryz.func34,Tryz.ntmps34
  go_wp2;go_ret;exact⟨_,rfl,bS.nil _ _,Below.refl _ _⟩
theorem tQ {u v:Nat} (va vb:Value) (a b:List ai) (w:World) (ha:ak w va a) (hb:ak w vb b) (hu:u<4) (hv:v<4) (huv:u≠v) (ia:vH u v 15 2 a) (ib:vH u v 15 2 b) (la:a.length<=100000000) (lb:b.length<=100000000) :
  Calls Tryz.prog 34 #[va,vb,.int .i64 v] w (aX w (oQ a b v)):=by
 by_cases hab:a=[]\/b=[]
 ·rw [oQ,if_pos hab];exact CE va vb a b v w ha hb hab
 have hna:a≠[]:=fun h=>hab (.inl h);have hnb:b≠[]:=fun h=>hab (.inr h);rw [oQ,if_neg hab];have da:=ia.deg hna;have db:=ib.deg hnb;have hsy:=zH (Cq va vb a b v w ha hb hv ia.vl ib.vl hna hnb (by omega) (by omega) la lb);have hde:=zH (fun W u (h:yE W u (vJ (aB a v) (aB b v)))=>RD hu ((aG a v).toNat+(aG b v).toNat) u _ W (by omega) (KW hu hv huv ia ib hna hnb) h);have hnea:((a.length:Int) == 0)=false:=by have:=List.length_pos_iff.2 hna;simp;omega
 have hneb:((b.length:Int) == 0)=false:=by have:=List.length_pos_iff.2 hnb;simp;omega
 obtain⟨aa,ca,rfl,-⟩:=ha.shape;obtain⟨ab,cb,rfl,-⟩:=hb.shape;generalize mH _ (vJ (aB a v) (aB b v))=R at *;generalize vJ (aB a v) (aB b v)=M at *;generalize a.length=na at *;generalize b.length=nb at *;clear ha hb ia ib hab hna hnb la lb da db
 go_enter Tryz.func34,Tryz.ntmps34
 go_wp2_with (first
  | (go_at_call 77;refine (hde.out _ _ h3).mono ?_;rintro e w4 ⟨v4,rfl,h4,hb4⟩)
  | (go_at_call 78;refine hsy.out.mono ?_;rintro e w3 ⟨v3,rfl,h3,hb3⟩))
 go_ret;exact⟨_,rfl,h4,hb3.trans (hb4.mono hb3.size)⟩
end Go.Proofs.YtopclbeomcggiaaGreat
