/- mgcd: all, Content, Primitive, highest. mgcd.sequence. mgcd.Gcd: one level. mgcd.Squarefree. Matrices of polynomials; Sylvester's matrix and its elimination, in plain words. law08.sanity: plain values. -/
import Derived.Test.YtopclbeomcggiaaGreatE02
import Derived.Test.YtopclbeomcggiaaGreatE25
import Derived.Test.YtopclbeomcggiaaGreatE31
import Derived.Test.YtopclbeomcggiaaGreatE32
import Derived.Test.YtopclbeomcggiaaGreatES2
set_option linter.unusedVariables false
set_option linter.unusedSimpArgs false
set_option maxHeartbeats 16000000
set_option maxRecDepth 100000
section
namespace Q
open Go Go.RowKit Go.Proofs.YtopclbeomcggiaaGreat
theorem bind2_some {α β:Type} {a:Option α} {f:α->Option β} {y:β} (h:bind2 a f=some y):∃ x,a=some x/\f x=some y:=by
 cases a with
|none=>cases h
|some x=>exact⟨x,rfl,h⟩
theorem allO_cons {G:List Trm->List Trm->Option (List Trm)} {acc a g:List Trm} {l:List (List Trm)} (h:allO G acc (a::l)=some g):∃ g',G acc a=some g'/\(constB g'=true->g=g')/\(constB g'=false->allO G g' l=some g):=by
 rw [allO] at h
 cases hG:G acc a with
|none=>rw [hG] at h;cases h
|some g' =>
  rw [hG] at h;refine⟨g',rfl,fun hc=>?_,fun hc=>?_⟩
  ·simp only [hc,if_true,Option.some.injEq] at h;exact h.symm
  ·simpa [hc] using h
end Q
namespace Go.Proofs.YtopclbeomcggiaaGreat
open Go.RowKit Q Go.WideMaps Go.Maps
def GcdC (a b g:List Trm):Prop:=∀ (va vb:Value) (w:World),IsPoly w va a->IsPoly w vb b->Calls Tryz.prog 16 #[va,vb] w (RetPoly w g)
def GcdG (G:List Trm->List Trm->Option (List Trm)):Prop:=∀ a b g,Wp a->Wp b->G a b=some g->GcdC a b g/\Wp g
theorem all_any {G:List Trm->List Trm->Option (List Trm)} (HG:GcdG G) (vl:Value) (l:List (List Trm)) (g:List Trm) (w:World) (hl:IsPolys w vl l) (hn:l.length<=100000000) (hw:∀ c∈l,Wp c) (h:allO G [] l=some g) :
  Calls Tryz.prog 61 #[vl] w (RetPoly w g):=by
 obtain⟨al,cl,rfl,hcl⟩:=hl.shape;replace h:=zH h;replace hw:=zH hw;replace HG:=zH HG;replace hl:=zH hl
 go_enter Tryz.func61,Tryz.ntmps61
 go_wp2
 go_loopw [3,8] (fun o i wr=>∃ (k:Nat) (acc:List Trm),k<=l.length/\i=.int .i64 k/\Hid (IsPoly wr o acc)/\Hid (Wp acc/\allO G acc (l.drop k)=some g)/\Below w.heap.size w wr) (fun _ i _=>l.length-(intOf i).toNat)
 case atStart=>exact⟨0,[],by omega,rfl,zH (IsSl.nil _ _),zH ⟨Wp.nil,h.out⟩,Below.refl _ _⟩
 case round =>
  clear h;obtain⟨k,acc,hk,rfl,hO,hA,hbr⟩:=hrel;by_cases hkl:k<l.length
  ·have hjq:l[k]?=some l[k]:=List.getElem?_eq_getElem hkl;have hA2:=hA.out;rw [List.drop_eq_getElem_cons hkl] at hA2;have hwa:=hw.out l[k] (List.getElem_mem hkl);generalize l[k]=a at *;obtain⟨b,off,va,rfl,hva,hC⟩:=cell_poly (hl.out.on hbr) hjq;obtain⟨g',hG,ht,hf⟩:=allO_cons hA2.2;obtain⟨hcall,hg'⟩:=HG.out _ _ _ hA2.1 hwa hG;have hcs:=fun v W (hv:IsPoly W v g')=>constant_any v g' W hv;have hcall2:=zH (hcall u3 va wr hO.out hva);have hkl':(k:Int)<l.length:=by omega
   have hcell:=hC.cell 0 (by simp);simp only [List.getElem?_cons_zero,Nat.add_zero,Nat.mul_one] at hcell;clear hA hA2 hC hcall hjq hG;cases hcb:constB g'
   ·have hrest:=zH (hf hcb);rw [hcb] at hcs;replace hcs:=zH hcs;replace hg':=zH hg';clear ht hf hcb
    go_wp2_with (first
    |(refine wpList_index_at rfl _ _ 75 rfl polyT Tryz.underlying75 _ 1 24 (by kernel_rfl) _ _ _ rfl .i64 _ rfl k rfl hkl b off rfl ?_;rw [Nat.mul_one])
    |(go_at_call 16;refine hcall2.out.mono ?_;rintro en w3 ⟨v3,rfl,hv3,hb3⟩)
    |(go_at_call 50;refine (hcs.out _ _ hv3).mono ?_;rintro en w4 ⟨rfl,hb4⟩))
    have hb34:=hb3.trans (hb4.mono hb3.size);go_roundw
    case rel=>exact⟨k+1,g',by omega,by go_num,zH (hv3.on hb4),zH ⟨hg'.out,hrest.out⟩,hbr.trans (hb34.mono hbr.size)⟩
    case measure=>simp [intOf];omega
   ·have hrest:=zH (ht hcb);rw [hcb] at hcs;replace hcs:=zH hcs;replace hg':=zH hg';clear ht hf hcb
    go_wp2_with (first
    |(refine wpList_index_at rfl _ _ 75 rfl polyT Tryz.underlying75 _ 1 24 (by kernel_rfl) _ _ _ rfl .i64 _ rfl k rfl hkl b off rfl ?_;rw [Nat.mul_one])
    |(go_at_call 16;refine hcall2.out.mono ?_;rintro en w3 ⟨v3,rfl,hv3,hb3⟩)
    |(go_at_call 50;refine (hcs.out _ _ hv3).mono ?_;rintro en w4 ⟨rfl,hb4⟩))
    go_ret;exact⟨_,rfl,by rw [hrest.out];exact hv3.on hb4,hbr.trans ((hb3.trans (hb4.mono hb3.size)).mono hbr.size)⟩
  ·obtain rfl:k=l.length:=by omega
   have hfin:Hid (g=acc):=by
    have:=hA.out.2;rw [List.drop_of_length_le (Nat.le_refl _),allO] at this;exact zH (Option.some.inj this).symm
   go_wp2;go_ret;exact⟨_,rfl,by rw [hfin.out];exact hO.out,hbr⟩
theorem allO_wp {G:List Trm->List Trm->Option (List Trm)} (HG:GcdG G):∀ {l:List (List Trm)} {acc g:List Trm},(∀ c∈l,Wp c)->Wp acc->allO G acc l=some g->Wp g
|[],acc,g,_,ha,h=>by rw [allO,Option.some.injEq] at h;subst h;exact ha
|a::l,acc,g,hw,ha,h=>by
  obtain⟨g',hG,ht,hf⟩:=allO_cons h;have hg':=(HG _ _ _ ha (hw a (by simp)) hG).2;cases hc:constB g'
  ·exact allO_wp HG (fun c hc=>hw c (by simp [hc])) hg' (hf hc)
  ·rw [ht hc];exact hg'
theorem cont_wp {G:List Trm->List Trm->Option (List Trm)} (HG:GcdG G) {a g:List Trm} {v:Nat} (ka:Wp a) (h:contO G a v=some g):Wp g:=allO_wp HG (fun _ hc=>ka.coeffs hc) Wp.nil h
theorem content_any {G:List Trm->List Trm->Option (List Trm)} (HG:GcdG G) (va:Value) (a g:List Trm) (v:Nat) (w:World) (hv:v<4) (ha:IsPoly w va a) (ka:Wp a) (h:contO G a v=some g) :
  Calls Tryz.prog 18 #[va,.int .i64 v] w (RetPoly w g):=by
 have h1:=coeffs_any va a v w ha hv ka.val.nat (by have:=(ka.deg v).2;omega) (by have:=ka.len;omega);have h2:=fun vl W (hl:IsPolys W vl (coeffsP a v))=>all_any HG vl (coeffsP a v) g W hl (by rw [coeffsP_length];have:=(ka.deg v).2;omega) (fun c hc=>ka.coeffs hc) h;obtain⟨aa,ca,rfl,hca⟩:=ha.shape;replace h2:=zH h2;clear h HG ka
 go_enter Tryz.func18,Tryz.ntmps18
 go_wp2_with (first
 |(go_at_call 62;refine h1.mono ?_;rintro en w3 ⟨v3,rfl,hv3,hb3⟩)
 |(go_at_call 61;refine (h2.out _ _ hv3).mono ?_;rintro en w4 ⟨v4,rfl,hv4,hb4⟩))
 go_ret;exact⟨_,rfl,hv4,hb3.trans (hb4.mono hb3.size)⟩
theorem prim_wp {G:List Trm->List Trm->Option (List Trm)} {a p:List Trm} {v:Nat} (h:primO G a v=some p):Wp p:=by
 cases a with
|nil=>simp only [primO,Option.some.injEq] at h;subst h;exact Wp.nil
|cons t r =>
  rw [primO] at h
  cases hc:contO G (t::r) v with
 |none=>rw [hc] at h;cases h
 |some c=>rw [hc] at h;exact over_wp h
theorem primitive_any {G:List Trm->List Trm->Option (List Trm)} (HG:GcdG G) (va:Value) (a p:List Trm) (v:Nat) (w:World) (hv:v<4) (ha:IsPoly w va a) (ka:Wp a) (h:primO G a v=some p) :
  Calls Tryz.prog 20 #[va,.int .i64 v] w (RetPoly w p):=by
 match a,ha,ka,h with
|[],ha,ka,h =>
  simp only [primO,Option.some.injEq] at h;subst h;obtain⟨aa,ca,rfl,hca⟩:=ha.shape;simp only [List.length_nil]
  go_enter Tryz.func20,Tryz.ntmps20
  go_wp2;go_ret;exact⟨_,rfl,IsSl.nil _ _,Below.refl _ _⟩
|t::r,ha,ka,h =>
  rw [primO] at h
  cases hc:contO G (t::r) v with
 |none=>rw [hc] at h;cases h
 |some c =>
   rw [hc] at h;have h1:=content_any HG va (t::r) c v w hv ha ka hc;have kc:=cont_wp HG ka hc;have h2:=fun vl W (hb:Below w.heap.size w W) (hl:IsPoly W vl c)=>over_any va vl (t::r) c p W (ha.on hb) hl kc h;obtain⟨aa,ca,rfl,hca⟩:=ha.shape;have hne:(((t::r).length:Int) == 0)=false:=by simp;omega
   replace h2:=zH h2;clear h hc HG ka kc ha;generalize (t::r).length=n at *
   go_enter Tryz.func20,Tryz.ntmps20
   go_wp2_with (first
   |(go_at_call 18;refine h1.mono ?_;rintro en w3 ⟨v3,rfl,hv3,hb3⟩)
   |(go_at_call 56;refine (h2.out _ _ hb3 hv3).mono ?_;rintro en w4 ⟨v4,rfl,hv4,hb4⟩))
   go_ret;exact⟨_,rfl,hv4,hb3.trans (hb4.mono hb3.size)⟩
theorem high_lt:∀ {l:List (List Trm)} {n v:Nat},highN l n=some v->v<n
|l,n+1,v,h=>by
  rw [highN] at h;split at h
  ·cases h;omega
  ·have:=high_lt h;omega
def highI (o:Option Nat):Int:=match o with
|none=>-1
|some v=>v
theorem highest_any (vl:Value) (l:List (List Trm)) (w:World) (hl:IsPolys w vl l) (hn:l.length<=100000000) (hw:∀ c∈l,Wp c):Calls Tryz.prog 52 #[vl] w (Ret w (.int .i64 (highI (high l)))):=by
 obtain⟨al,cl,rfl,hcl⟩:=hl.shape;replace hw:=zH hw;replace hl:=zH hl;obtain⟨R,hR⟩:∃ R,R=highI (high l):=⟨_,rfl⟩;rw [<- hR];replace hR:=zH hR
 go_enter Tryz.func52,Tryz.ntmps52
 go_wp2
 go_loopw [3] (fun i wr=>∃ (n:Nat),n<=4/\i=.int .i64 ((n:Int)-1)/\Hid (R=highI (highN l n))/\Below w.heap.size w wr) (fun i _=>(intOf i+1).toNat)
 case atStart=>exact⟨4,by omega,rfl,zH hR.out,Below.refl _ _⟩
 case round =>
  clear hR;obtain⟨n,hn,rfl,hR,hbr⟩:=hrel
  cases n with
 |zero =>
   have hfin:Hid (R=-1):=zH hR.out;go_wp2;go_ret;exact⟨by rw [hfin.out];rfl,hbr⟩
 |succ v =>
   have hv1:(((v+1:Nat):Int)-1)=(v:Int):=by omega
   have hv4:v<4:=by omega
   rw [hv1];go_wp2
   go_loopw [12] (fun i wr=>∃ k:Nat,k<=l.length/\i=.int .i64 k/\Hid (∀ c∈l.take k,¬ 0<degP c v)/\Below w.heap.size w wr) (fun i _=>l.length-(intOf i).toNat)
   case atStart=>exact⟨0,by omega,rfl,zH (fun c hc=>by simp at hc),hbr⟩
   case round =>
    clear hbr;obtain⟨k,hk,rfl,hA,hbr⟩:=hrel;by_cases hkl:k<l.length
    ·have hjq:l[k]?=some l[k]:=List.getElem?_eq_getElem hkl;have hwa:=hw.out l[k] (List.getElem_mem hkl);have htk:l.take (k+1)=l.take k++[l[k]]:=by rw [List.take_add_one,hjq];rfl
     have hmem:=List.getElem_mem hkl;generalize l[k]=a at *;obtain⟨b,off,va,rfl,hva,hC⟩:=cell_poly (hl.out.on hbr) hjq;have hd:=deg_any va a v wr hva hv4 (by have:=hwa.len;omega);have hkl':(k:Int)<l.length:=by omega
     have hcell:=hC.cell 0 (by simp);simp only [List.getElem?_cons_zero,Nat.add_zero,Nat.mul_one] at hcell;replace hd:=zH hd;replace hmem:=zH hmem;replace htk:=zH htk;clear hC hjq hwa;by_cases hdp:0<degP a v
     ·have hdp':=zH hdp;have hfin:Hid (R=v):=zH (by rw [hR.out,highN,if_pos (List.any_eq_true.2 ⟨a,hmem.out,by simpa using hdp⟩)];rfl);generalize degP a v=D at *
      go_wp2_with (first
      |(refine wpList_index_at rfl _ _ 75 rfl polyT Tryz.underlying75 _ 1 24 (by kernel_rfl) _ _ _ rfl .i64 _ rfl k rfl hkl b off rfl ?_;rw [Nat.mul_one])
      |(go_at_call 53;refine hd.out.mono ?_;rintro en w3 ⟨rfl,hb3⟩))
      go_ret;exact⟨by rw [hfin.out];rfl,hbr.trans (hb3.mono hbr.size)⟩
     ·have hdp':=zH hdp;generalize degP a v=D at hd hdp
      go_wp2_with (first
      |(refine wpList_index_at rfl _ _ 75 rfl polyT Tryz.underlying75 _ 1 24 (by kernel_rfl) _ _ _ rfl .i64 _ rfl k rfl hkl b off rfl ?_;rw [Nat.mul_one])
      |(go_at_call 53;refine hd.out.mono ?_;rintro en w3 ⟨rfl,hb3⟩))
      go_roundw
      case rel=>exact⟨k+1,by omega,by go_num,zH (fun c hc=>by
       rw [htk.out] at hc;rcases List.mem_append.1 hc with hc|hc
       ·exact Int.not_lt.2 (hA.out c hc)
       ·rw [List.mem_singleton.1 hc];exact Int.not_lt.2 hdp'.out),hbr.trans (hb3.mono hbr.size)⟩
      case measure=>simp [intOf];omega
    ·obtain rfl:k=l.length:=by omega
     have hnx:Hid (R=highI (highN l v)):=zH (by
      rw [hR.out,highN,if_neg];intro hany;obtain⟨c,hc,hd⟩:=List.any_eq_true.1 hany
      exact hA.out c (by rw [List.take_of_length_le (Nat.le_refl _)];exact hc) (by simpa using hd))
     go_wp2;go_roundw
     case rel=>exact⟨v,by omega,by go_num,hnx,hbr⟩
     case measure=>simp [intOf]
end Go.Proofs.YtopclbeomcggiaaGreat
end
section
namespace Q
open Go Go.RowKit Go.Proofs.YtopclbeomcggiaaGreat
theorem one_wp:Wp oneP:=wpB_wp (by decide +kernel)
theorem degP_nonneg {a:List Trm} {v:Nat} (h:a≠[]) (ka:Wp a):0<=degP a v:=by
 obtain⟨t,ht⟩:=List.exists_mem_of_ne_nil _ h;have h1:=(ka.exps ht v).1;have h2:=degP_le ht v;omega
theorem seqGo_wp {G:List Trm->List Trm->Option (List Trm)} {v:Nat}:∀ {n:Nat} {a b g:List Trm},Wp b->seqGo G v n a b=some g->Wp g
|0,a,b,g,_,h=>by simp [seqGo] at h
|n+1,a,b,g,kb,h=>by
  rw [seqGo] at h
  cases hr:psO a b v with
 |none=>rw [hr] at h;cases h
 |some r =>
   rw [hr] at h
   cases r with
  |nil=>cases h;exact kb
  |cons t r =>
    simp only at h;split at h
    ·cases h;exact one_wp
    ·cases hp:primO G (t::r) v with
    |none=>rw [hp] at h;cases h
    |some p =>
      rw [hp] at h;simp only at h
      cases hq:normO p with
     |none=>rw [hq] at h;cases h
     |some q=>rw [hq] at h;exact seqGo_wp (norm_wp hq) h
theorem seqS_wp {G:List Trm->List Trm->Option (List Trm)} {v:Nat} {a b g:List Trm} (kb:Wp b) (h:seqS G a b v=some g):Wp g:=by
 unfold seqS at h
 cases hm:boundO a b v with
|none=>rw [hm] at h;cases h
|some m =>
  rw [hm] at h;simp only at h;split at h
  ·cases h;exact one_wp
  ·cases hd:divW a b with
  |none=>rw [hd] at h;cases h
  |some r =>
    rw [hd] at h;simp only at h;split at h
    ·cases h;exact kb
    ·exact seqGo_wp kb h
theorem psO_some {a b r:List Trm} {v:Nat} (h:psO a b v=some r):b≠[]/\r=fromP (psRun (coeffsP b v) (coeffsP a v).length (coeffsP a v)) v/\Wp r/\psBW (coeffsP b v) (coeffsP a v).length (coeffsP a v)=true /\
  bdB (fromL v 0 (psRun (coeffsP b v) (coeffsP a v).length (coeffsP a v)))=true/\∀ c∈psRun (coeffsP b v) (coeffsP a v).length (coeffsP a v),wpB c=true:=by
 unfold psO at h;simp only at h;split at h
 next hc =>
  obtain⟨h1,h2,h3,h4⟩:=hc;obtain⟨rfl,hw⟩:=g1_some h;exact⟨h1,rfl,hw,h2,h3,fun c hc=>List.all_eq_true.1 h4 c hc⟩
 next=>cases h
end Q
namespace Go.Proofs.YtopclbeomcggiaaGreat
open Go.RowKit Q
theorem pseudoO_any (va vb:Value) (a b r:List Trm) (v:Nat) (w:World) (ha:IsPoly w va a) (hb:IsPoly w vb b) (ka:Wp a) (kb:Wp b) (hv:v<4) (h:psO a b v=some r):Calls Tryz.prog 94 #[va,vb,.int .i64 v] w (RetPolyE w r 0):=by
 obtain⟨h1,rfl,hw,h2,h3,h4⟩:=psO_some h;have h5:(coeffsP a v).length<=100001:=by rw [coeffsP_length];have:=(ka.deg v).2;omega
 exact pseudo_any va vb a b v w ha hb hv h1 ka.val.nat kb.val.nat (ka.deg v).2 (kb.deg v).2 (by have:=ka.len;omega) (by have:=kb.len;omega) (psBW_all (fun c hc=>kb.coeffs hc) h2) (bdB_okl h3) (fun c hc=>by have:=(wpB_wp (h4 c hc)).len;omega)
theorem sequence_any {G:List Trm->List Trm->Option (List Trm)} (HG:GcdG G) (va vb:Value) (a b g:List Trm) (v:Nat) (w:World) (ha:IsPoly w va a) (hb:IsPoly w vb b) (ka:Wp a) (kb:Wp b) (hna:a≠[]) (hnb:b≠[]) (hv:v<4) (h:seqO G a b v=some g) :
  Calls Tryz.prog 55 #[va,vb,.int .i64 v] w (RetPoly w g):=by
 have hda:=zH (fun W (hb:Below w.heap.size w W)=>deg_any va a v W (ha.on hb) hv (by have:=ka.len;omega));have hdb:=zH (fun W (hbb:Below w.heap.size w W)=>deg_any vb b v W (hb.on hbb) hv (by have:=kb.len;omega));replace ha:=zH ha;replace hb:=zH hb;unfold seqO at h
 go_enter Tryz.func55,Tryz.ntmps55
 have hBd:∀ (x y:List Trm) (h:seqS G x y v=some g),(∃ m,boundO x y v=some m):=fun x y h=>by
  unfold seqS at h
  cases hm:boundO x y v with
 |none=>rw [hm] at h;cases h
 |some m=>exact⟨m,rfl⟩
 obtain⟨da,hda2⟩:∃ da,da=degP a v:=⟨_,rfl⟩;obtain⟨db,hdb2⟩:∃ db,db=degP b v:=⟨_,rfl⟩;rw [<- hda2] at hda h;rw [<- hdb2] at hdb h
 go_upto_if 18 with (first
 |(go_at_call 53;refine (hdb.out w3 hb3).mono ?_;rintro en w4 ⟨rfl,hb4⟩)
 |(go_at_call 53;refine (hda.out _ (Below.refl _ _)).mono ?_;rintro en w3 ⟨rfl,hb3⟩))
 have hb34:=hb3.trans (hb4.mono hb3.size)
 go_cut [0,1,19,20] (fun vx vy _ _ wc=>∃ x y,Hid (IsPoly wc vx x)/\Hid (IsPoly wc vy y)/\Wp x/\Wp y/\x≠[]/\y≠[]/\Hid (seqS G x y v=some g)/\Below w.heap.size w wc)
 case first =>
  by_cases hlt:da<db
  ·rw [if_pos hlt] at h;replace h:=zH h;go_wp2;go_meet
   case rel=>exact⟨b,a,zH (hb.out.on hb34),zH (ha.out.on hb34),kb,ka,hnb,hna,h,hb34⟩
  ·rw [if_neg hlt] at h;replace h:=zH h;go_wp2;go_meet
   case rel=>exact⟨a,b,zH (ha.out.on hb34),zH (hb.out.on hb34),ka,kb,hna,hnb,h,hb34⟩
 case rest =>
  clear hda hdb ha hb ka kb hna hnb h hda2 hdb2 hb34 hb3 hb4;obtain⟨x,y,hx,hy,kx,ky,hnx,hny,hs,hbw⟩:=hcut;obtain⟨m,hm⟩:=hBd x y hs.out;have hbc:=zH (bound_any u0 u1 x y v m wc hx.out hy.out kx ky hv hnx hny hm);have hs2:=hs.out;unfold seqS at hs2;rw [hm] at hs2;simp only at hs2;clear hm hBd hs;by_cases hm0:m=0
  ·rw [if_pos hm0,Option.some.injEq] at hs2;subst hm0;have hfin:=zH hs2;clear hs2
   go_wp2_with (first
   |(go_at_call 92;refine hbc.out.mono ?_;rintro en w5 ⟨rfl,hb5⟩)
   |(go_at_call 51;refine (one_any _).mono ?_;rintro en w6 ⟨v6,rfl,h6,hb6⟩))
   go_ret;exact⟨_,rfl,by rw [<- hfin.out];exact h6,(hbw.trans (hb5.mono hbw.size)).trans (hb6.mono (hbw.trans (hb5.mono hbw.size)).size)⟩
  ·rw [if_neg hm0] at hs2;have hme:(m == 0)=false:=by simpa using hm0
   cases hd:divW x y with
  |none=>rw [hd] at hs2;cases hs2
  |some r =>
   rw [hd] at hs2;simp only at hs2;have hdc:=zH (fun W (hb:Below wc.heap.size wc W)=>divW_any u0 u1 x y r W (hx.out.on hb) (hy.out.on hb) ky hd);have hdy:=zH (fun W (hb:Below wc.heap.size wc W)=>deg_any u1 y v W (hy.out.on hb) hv (by have:=ky.len;omega));clear hd hm0
   go_upto_region 7 with (first
   |(go_at_call 92;refine hbc.out.mono ?_;rintro en w5 ⟨rfl,hb5⟩)
   |(go_at_call 93;refine (hdc.out _ hb5).mono ?_;rintro en w6 ⟨v6,rfl,h6,hb6⟩))
   have hb56:=hb5.trans (hb6.mono hb5.size);have hdy2:=zH (hdy.out w6 hb56);clear hdc hbc hdy h6 hb5 hb6;have hbw6:=hbw.trans (hb56.mono hbw.size);have hx6:=zH (hx.out.on hb56);have hy6:=zH (hy.out.on hb56);obtain⟨dy,hdy3⟩:∃ dy,dy=degP y v:=⟨_,rfl⟩;rw [<- hdy3] at hdy2 hs2;obtain⟨F,hF⟩:∃ F,F=fuel:=⟨_,rfl⟩;rw [<- hF] at hs2;clear hx hy hdy3 hF
   go_cut [34,35,36,37,38,39,40,41] (fun _ _ _ _ _ _ _ t wd=>∃ fl,t=.bool fl/\Hid (IsPoly wd u0 x)/\Hid (IsPoly wd u1 y)/\Hid ((fl=true->g=y)/\(fl=false->seqGo G v F x y=some g))/\Below w.heap.size w wd)
   case first =>
    cases r with
   |none =>
     simp only [Option.isSome_none,Bool.false_and] at hs2;rw [if_neg (by simp)] at hs2;replace hs2:=zH hs2;simp only [Option.isSome_none];clear hdy2;go_wp2;go_meet
     case rel=>exact⟨_,rfl,hx6,hy6,zH ⟨fun h=>(by cases h),fun _=>hs2.out⟩,hbw6⟩
   |some r =>
     simp only [Option.isSome_some,Bool.true_and] at hs2 ⊢;by_cases hmd:m=dy
     ·rw [if_pos (by simpa using hmd),Option.some.injEq] at hs2;subst hmd;have hfin:=zH hs2;clear hs2 hme
      go_wp2_with (go_at_call 53;refine hdy2.out.mono ?_;rintro en w7 ⟨rfl,hb7⟩)
      go_meet
      case rel=>exact⟨_,rfl,zH (hx6.out.on hb7),zH (hy6.out.on hb7),zH ⟨fun _=>hfin.out.symm,fun h=>(by cases h)⟩,hbw6.trans (hb7.mono hbw6.size)⟩
     ·rw [if_neg (by simpa using hmd)] at hs2;have hmd2:(m == dy)=false:=by simpa using hmd
      replace hs2:=zH hs2
      go_wp2_with (go_at_call 53;refine hdy2.out.mono ?_;rintro en w7 ⟨rfl,hb7⟩)
      go_meet
      case rel=>exact⟨_,rfl,zH (hx6.out.on hb7),zH (hy6.out.on hb7),zH ⟨fun h=>(by cases h),fun _=>hs2.out⟩,hbw6.trans (hb7.mono hbw6.size)⟩
   case rest =>
    clear hs2 hdy2 hx6 hy6 hbw6 hb56 hbw hme;obtain⟨fl,rfl,hx,hy,hs,hbw⟩:=hcut;cases fl
    case true =>
     have hfin:=zH (hs.out.1 rfl);clear hs;go_wp2;go_ret;exact⟨_,rfl,by rw [hfin.out];exact hy.out,hbw⟩
    case false =>
     replace hs:=zH (hs.out.2 rfl);go_wp2
     go_loopg [0,1] F (fun n va vb wr=>∃ a b,Hid (IsPoly wr va a)/\Hid (IsPoly wr vb b)/\Wp a/\Wp b/\Hid (seqGo G v n a b=some g)/\Below w.heap.size w wr)
     case atStart=>exact⟨x,y,hx,hy,kx,ky,hs,hbw⟩
     case round =>
      clear hx hy kx ky hs hbw hnx hny;obtain⟨a,b,ha,hb,ka,kb,hs,hbr⟩:=hrel
      cases gk with
     |zero=>exact absurd hs.out (by simp [seqGo])
     |succ n =>
      have hs2:=hs.out;rw [seqGo] at hs2
      cases hr:psO a b v with
     |none=>rw [hr] at hs2;cases hs2
     |some r =>
      rw [hr] at hs2;have hps:=pseudoO_any _ _ a b r v wr ha.out hb.out ka kb hv hr;have kr:=(psO_some hr).2.2.1;clear hr hs
      cases r with
     |nil =>
       simp only [Option.some.injEq] at hs2;have hfin:=zH hs2;clear hs2
       go_upto_region 10 with (go_at_call 94;refine hps.mono ?_;rintro en w7 ⟨v7,rfl,h7,hb7⟩)
       obtain⟨a7,c7,rfl,-⟩:=h7.shape;simp only [List.length_nil];go_wp2;go_ret;exact⟨_,rfl,by rw [<- hfin.out];exact hb.out.on hb7,hbr.trans (hb7.mono hbr.size)⟩
     |cons t r =>
       simp only at hs2;have hne:(((t::r).length:Int) == 0)=false:=by simp;omega
       have hlr:=kr.len
       go_upto_region 10 with (go_at_call 94;refine hps.mono ?_;rintro en w7 ⟨v7,rfl,h7,hb7⟩)
       have hdg:=zH (deg_any v7 (t::r) v w7 h7 hv (by omega));have hpr:∀ p,primO G (t::r) v=some p->∀ W,Below w7.heap.size w7 W->Calls Tryz.prog 20 #[v7,.int .i64 v] W (RetPoly W p):=fun p hp W hbW=>primitive_any HG v7 (t::r) p v W hv (h7.on hbW) kr hp;obtain⟨a7,c7,rfl,-⟩:=h7.shape;replace hpr:=zH hpr;have hbr7:=hbr.trans (hb7.mono hbr.size);have hb2:=zH (hb.out.on hb7);have hpn:∀ p,primO G (t::r) v=some p->Wp p:=fun p hp=>prim_wp hp;obtain⟨q9,hq9⟩:∃ q9,q9=t::r:=⟨_,rfl⟩;rw [<- hq9] at hs2 hne hdg hpr hpn ⊢;clear hps kr h7 hlr hq9 hb;obtain⟨dr,hdr⟩:∃ dr,dr=degP q9 v:=⟨_,rfl⟩;rw [<- hdr] at hdg hs2;by_cases hd0:dr=0
       ·rw [if_pos hd0,Option.some.injEq] at hs2;subst hd0;have hfin:=zH hs2;clear hs2 hpr hpn hdr;generalize q9.length=nq at *
        go_wp2_with (first
        |(go_at_call 53;refine hdg.out.mono ?_;rintro en w8 ⟨rfl,hb8⟩)
        |(go_at_call 51;refine (one_any _).mono ?_;rintro en w9 ⟨v9,rfl,h9,hb9⟩))
        go_ret;exact⟨_,rfl,by rw [<- hfin.out];exact h9,(hbr7.trans (hb8.mono hbr7.size)).trans (hb9.mono (hbr7.trans (hb8.mono hbr7.size)).size)⟩
       ·rw [if_neg hd0] at hs2;have hd1:(dr == 0)=false:=by simpa using hd0
        cases hp:primO G q9 v with
       |none=>rw [hp] at hs2;cases hs2
       |some p =>
        rw [hp] at hs2;simp only at hs2
        cases hq:normO p with
       |none=>rw [hq] at hs2;cases hs2
       |some q =>
        rw [hq] at hs2;simp only at hs2;have kp:=hpn p hp;have kq:=norm_wp hq;have hpc:=zH (hpr.out p hp);have hnc:=zH (fun W u (hu:IsPoly W u p)=>normal_any u p q W hu kp hq);replace hs2:=zH hs2;clear hp hq hpn hpr hdr hd0;generalize q9.length=nq at *
        go_wp2_with (first
        |(go_at_call 53;refine hdg.out.mono ?_;rintro en w8 ⟨rfl,hb8⟩)
        |(go_at_call 20;refine (hpc.out _ hb8).mono ?_;rintro en w9 ⟨v9,rfl,h9,hb9⟩)
        |(go_at_call 14;refine (hnc.out _ _ h9).mono ?_;rintro en w10 ⟨v10,rfl,h10,hb10⟩))
        have hb89:=hb8.trans (hb9.mono hb8.size);have hb810:=hb89.trans (hb10.mono hb89.size);go_roundg n
        case measure=>omega
        case rel=>exact⟨b,q,zH (hb2.out.on hb810),zH h10,kb,kq,hs2,hbr7.trans (hb810.mono hbr7.size)⟩
end Go.Proofs.YtopclbeomcggiaaGreat
end
section
namespace Q
open Go Go.RowKit Go.Proofs.YtopclbeomcggiaaGreat
def gcdT (G:List Trm->List Trm->Option (List Trm)) (a b:List Trm):Option (List Trm) :=
 if a=[] then normO b else if b=[] then normO a else if constB a=true\/constB b=true then some oneP else
 bind2 (high [a,b]) fun v =>
  if degP b v=0 then bind2 (contO G a v) fun c=>G c b
  else if degP a v=0 then bind2 (contO G b v) fun c=>G a c
  else bind2 (contO G a v) fun x=>bind2 (contO G b v) fun y=>bind2 (G x y) fun g=>bind2 (overO a x) fun p=>bind2 (overO b y) fun q =>
   if p=[]\/q=[] then none else bind2 (seqO G p q v) fun s=>bind2 (g1 (mulP g s)) normO
def gcdN:Nat->List Trm->List Trm->Option (List Trm)
|0,_,_=>none
|n+1,a,b=>gcdT (gcdN n) a b
theorem isPolys2 {w:World} {va vb:Value} {a b:List Trm} (ha:IsPoly w va a) (hb:IsPoly w vb b):IsPolys (w.alloc (.cells #[va,vb] 27)) (.slice (some ⟨w.heap.size,0,none⟩) 2 2) [a,b]:=by
 have hbe:Below w.heap.size w (w.alloc (.cells #[va,vb] 27)):=(Below.refl _ _).alloc (Nat.le_refl _) _;exact⟨_,_,[va,vb],rfl,Nat.le_refl _,(Blk.new w polyT [va,vb]).at,⟨[va],[vb],rfl,⟨va,rfl,ha.on hbe⟩,⟨[vb],[],rfl,⟨vb,rfl,hb.on hbe⟩,rfl⟩⟩⟩
end Q
namespace Go.Proofs.YtopclbeomcggiaaGreat
open Go.RowKit Q
theorem seqO_wp {G:List Trm->List Trm->Option (List Trm)} {v:Nat} {a b g:List Trm} (ka:Wp a) (kb:Wp b) (h:seqO G a b v=some g):Wp g:=by
 unfold seqO at h;split at h
 ·exact seqS_wp ka h
 ·exact seqS_wp kb h
theorem gcdT_wp {G:List Trm->List Trm->Option (List Trm)} (HG:GcdG G) {a b g:List Trm} (ka:Wp a) (kb:Wp b) (h:gcdT G a b=some g):Wp g:=by
 unfold gcdT at h;split at h
 ·exact norm_wp h
 split at h
 ·exact norm_wp h
 split at h
 ·cases h;exact one_wp
 obtain⟨v,-,h⟩:=bind2_some h;split at h
 ·obtain⟨c,hc,h⟩:=bind2_some h;exact (HG _ _ _ (cont_wp HG ka hc) kb h).2
 split at h
 ·obtain⟨c,hc,h⟩:=bind2_some h;exact (HG _ _ _ ka (cont_wp HG kb hc) h).2
 obtain⟨x,hx,h⟩:=bind2_some h;obtain⟨y,hy,h⟩:=bind2_some h;obtain⟨g',hg,h⟩:=bind2_some h;obtain⟨p,hp,h⟩:=bind2_some h;obtain⟨q,hq,h⟩:=bind2_some h;split at h
 ·cases h
 obtain⟨s,hs,h⟩:=bind2_some h;obtain⟨m,hm,h⟩:=bind2_some h;exact norm_wp h
theorem gcdT_any {G:List Trm->List Trm->Option (List Trm)} (HG:GcdG G):GcdG (gcdT G):=by
 intro a b g ka kb h;refine⟨fun va vb w hva hvb=>?_,gcdT_wp HG ka kb h⟩;unfold gcdT at h;by_cases ha0:a=[]
 ·rw [if_pos ha0] at h;subst ha0;have hc:=normal_any vb b g w hvb kb h;obtain⟨aa,ca,rfl,hca⟩:=hva.shape;simp only [List.length_nil];obtain⟨ab,cb,rfl,hcb⟩:=hvb.shape;clear h HG
  go_enter Tryz.func16,Tryz.ntmps16
  go_wp2_with (go_at_call 14;refine hc.mono ?_;rintro en w1 ⟨v1,rfl,h1,hb1⟩)
  go_ret;exact⟨_,rfl,h1,hb1⟩
 rw [if_neg ha0] at h;by_cases hb0:b=[]
 ·rw [if_pos hb0] at h;subst hb0;have hc:=normal_any va a g w hva ka h;obtain⟨aa,ca,rfl,hca⟩:=hva.shape;obtain⟨ab,cb,rfl,hcb⟩:=hvb.shape;simp only [List.length_nil];have hne:((a.length:Int) == 0)=false:=by have:=List.length_pos_iff.2 ha0;simp;omega
  generalize a.length=na at *;clear h HG ha0
  go_enter Tryz.func16,Tryz.ntmps16
  go_wp2_with (go_at_call 14;refine hc.mono ?_;rintro en w1 ⟨v1,rfl,h1,hb1⟩)
  go_ret;exact⟨_,rfl,h1,hb1⟩
 rw [if_neg hb0] at h;have hca:=fun W (hb:Below w.heap.size w W)=>constant_any va a W (hva.on hb);have hcb:=fun W (hb:Below w.heap.size w W)=>constant_any vb b W (hvb.on hb)
 have hHi:=fun W (hb:Below w.heap.size w W)=>highest_any _ [a,b] _ (isPolys2 (hva.on hb) (hvb.on hb)) (by simp) (fun c hc=>by
  rcases List.mem_cons.1 hc with rfl|hc
  ·exact ka
  ·rw [List.mem_singleton.1 hc];exact kb)
 have hA:=fun W (hb:Below w.heap.size w W)=>hva.on hb;have hB:=fun W (hb:Below w.heap.size w W)=>hvb.on hb;have kna:=ha0;have knb:=hb0;have hnea:((a.length:Int) == 0)=false:=by have:=List.length_pos_iff.2 ha0;simp;omega
 have hneb:((b.length:Int) == 0)=false:=by have:=List.length_pos_iff.2 hb0;simp;omega
 obtain⟨aa,ca,rfl,hcca⟩:=hva.shape;obtain⟨ab,cb,rfl,hccb⟩:=hvb.shape;obtain⟨na,hna⟩:∃ na,na=a.length:=⟨_,rfl⟩;obtain⟨nb,hnb⟩:∃ nb,nb=b.length:=⟨_,rfl⟩;rw [<- hna] at hnea hca hHi hA ⊢;rw [<- hnb] at hneb hcb hHi hB ⊢;replace hHi:=zH hHi;replace hA:=zH hA;replace hB:=zH hB;clear hna hnb hcca hccb hva hvb ha0 hb0;cases ha1:constB a
 case true =>
  rw [if_pos (.inl ha1)] at h;cases h;rw [ha1] at hca;clear ha1 hcb;replace hca:=zH hca
  go_enter Tryz.func16,Tryz.ntmps16
  go_wp2_with (first
  |(go_at_call 50;refine (hca.out _ (Below.refl _ _)).mono ?_;rintro en w1 ⟨rfl,hb1⟩)
  |(go_at_call 51;refine (one_any _).mono ?_;rintro en w2 ⟨v2,rfl,h2,hb2⟩))
  go_ret;exact⟨_,rfl,h2,hb1.trans (hb2.mono hb1.size)⟩
 case false =>
  rw [ha1] at hca;cases hb1:constB b
  case true =>
   rw [if_pos (.inr hb1)] at h;cases h;rw [hb1] at hcb;clear ha1 hb1;replace hca:=zH hca;replace hcb:=zH hcb
   go_enter Tryz.func16,Tryz.ntmps16
   go_wp2_with (first
   |(go_at_call 50;refine (hcb.out w1 hb1).mono ?_;rintro en w2 ⟨rfl,hb2⟩)
   |(go_at_call 50;refine (hca.out _ (Below.refl _ _)).mono ?_;rintro en w1 ⟨rfl,hb1⟩)
   |(go_at_call 51;refine (one_any _).mono ?_;rintro en w3 ⟨v3,rfl,h3,hb3⟩))
   go_ret;exact⟨_,rfl,h3,(hb1.trans (hb2.mono hb1.size)).trans (hb3.mono (hb1.trans (hb2.mono hb1.size)).size)⟩
  case false =>
   rw [if_neg (by rintro (h|h);rw [ha1] at h;cases h;rw [hb1] at h;cases h)] at h;obtain⟨v,hv,h⟩:=bind2_some h;have hv4:v<4:=high_lt hv;rw [hb1] at hcb;rw [hv] at hHi;clear ha1 hb1 hv;replace hca:=zH hca;replace hcb:=zH hcb;have hDa:=zH (fun W (hb:Below w.heap.size w W)=>deg_any _ a v W (hA.out W hb) hv4 (by have:=ka.len;omega));have hDb:=zH (fun W (hb:Below w.heap.size w W)=>deg_any _ b v W (hB.out W hb) hv4 (by have:=kb.len;omega));change Hid (∀ W,_->Calls _ _ _ _ (Ret _ (.int .i64 (v:Int)))) at hHi
   go_enter Tryz.func16,Tryz.ntmps16
   go_upto_region 8 with (first
   |(go_at_call 50;refine (hcb.out w1 hb1).mono ?_;rintro en w2 ⟨rfl,hb2⟩;have hb12:=hb1.trans (hb2.mono hb1.size))
   |(go_at_call 50;refine (hca.out _ (Below.refl _ _)).mono ?_;rintro en w1 ⟨rfl,hb1⟩)
   |(go_at_call 52;refine (hHi.out _ hb12).mono ?_;rintro en w3 ⟨rfl,hb3⟩))
   have hb0:=hb12.trans (((Below.refl _ _).alloc (Nat.le_refl _) _).trans (hb3.mono (by simp)) |>.mono hb12.size);obtain⟨da,hda2⟩:∃ da,da=degP a v:=⟨_,rfl⟩;obtain⟨db,hdb2⟩:∃ db,db=degP b v:=⟨_,rfl⟩;rw [<- hda2] at hDa h;rw [<- hdb2] at hDb h;have hD1:=zH (hDb.out w3 hb0);clear hca hcb hHi hb1 hb2 hb12 hb3 hda2 hdb2;by_cases hd1:db=0
   ·rw [if_pos hd1] at h;obtain⟨c,hc,h⟩:=bind2_some h;have hct:=zH (fun W (hb:Below w.heap.size w W)=>content_any HG _ a c v W hv4 (hA.out W hb) ka hc);have hgc:=zH (HG _ _ _ (cont_wp HG ka hc) kb h).1;subst hd1;clear h hc hDa hDb
    go_wp2_with (first
    |(go_at_call 53;refine hD1.out.mono ?_;rintro en w4 ⟨rfl,hb4⟩;have hb04:=hb0.trans (hb4.mono hb0.size))
    |(go_at_call 18;refine (hct.out _ hb04).mono ?_;rintro en w5 ⟨v5,rfl,h5,hb5⟩;have hb05:=hb04.trans (hb5.mono hb04.size);have hBb:=hB.out _ hb05)
    |(go_at_call 16;refine (hgc.out _ _ _ h5 hBb).mono ?_;rintro en w6 ⟨v6,rfl,h6,hb6⟩))
    go_ret;exact⟨_,rfl,h6,hb05.trans (hb6.mono hb05.size)⟩
   ·rw [if_neg hd1] at h;have hd1':(db == 0)=false:=by simpa using hd1
    by_cases hd2:da=0
    ·rw [if_pos hd2] at h;obtain⟨c,hc,h⟩:=bind2_some h;have hct:=zH (fun W (hb:Below w.heap.size w W)=>content_any HG _ b c v W hv4 (hB.out W hb) kb hc);have hgc:=zH (HG _ _ _ ka (cont_wp HG kb hc) h).1;subst hd2;clear h hc hd1
     go_wp2_with (first
     |(go_at_call 53;refine (hDa.out w4 hb04).mono ?_;rintro en w5 ⟨rfl,hb5⟩;have hb05:=hb04.trans (hb5.mono hb04.size))
     |(go_at_call 53;refine hD1.out.mono ?_;rintro en w4 ⟨rfl,hb4⟩;have hb04:=hb0.trans (hb4.mono hb0.size))
     |(go_at_call 18;refine (hct.out _ hb05).mono ?_;rintro en w6 ⟨v6,rfl,h6,hb6⟩;have hb06:=hb05.trans (hb6.mono hb05.size);have hAa:=hA.out _ hb06)
     |(go_at_call 16;refine (hgc.out _ _ _ hAa h6).mono ?_;rintro en w7 ⟨v7,rfl,h7,hb7⟩))
     go_ret;exact⟨_,rfl,h7,hb06.trans (hb7.mono hb06.size)⟩
    ·rw [if_neg hd2] at h;have hd2':(da == 0)=false:=by simpa using hd2
     obtain⟨x,hx,h⟩:=bind2_some h;obtain⟨y,hy,h⟩:=bind2_some h;obtain⟨g',hg,h⟩:=bind2_some h;obtain⟨p,hp,h⟩:=bind2_some h;obtain⟨q,hq,h⟩:=bind2_some h;by_cases hpq:p=[]\/q=[]
     ·rw [if_pos hpq] at h;cases h
     rw [if_neg hpq] at h;obtain⟨s,hs,h⟩:=bind2_some h;obtain⟨m,hm,h⟩:=bind2_some h;obtain⟨rfl,km⟩:=g1_some hm;have kx:=cont_wp HG ka hx;have ky:=cont_wp HG kb hy;have kg:=(HG _ _ _ kx ky hg).2;have kp:=over_wp hp;have kq:=over_wp hq;have ks:=seqO_wp kp kq hs;have kmo:=kg.mulOk ks;have hcx:=zH (fun W (hb:Below w.heap.size w W)=>content_any HG _ a x v W hv4 (hA.out W hb) ka hx);have hcy:=zH (fun W (hb:Below w.heap.size w W)=>content_any HG _ b y v W hv4 (hB.out W hb) kb hy);have hgc:=zH (HG _ _ _ kx ky hg).1;have hop:=zH (fun W u (hb:Below w.heap.size w W) (hu:IsPoly W u x)=>over_any _ u a x p W (hA.out W hb) hu kx hp);have hoq:=zH (fun W u (hb:Below w.heap.size w W) (hu:IsPoly W u y)=>over_any _ u b y q W (hB.out W hb) hu ky hq);have hsq:=zH (fun W u1 u2 (h1:IsPoly W u1 p) (h2:IsPoly W u2 q) (n1:p≠[]) (n2:q≠[])=>sequence_any HG u1 u2 p q s v W h1 h2 kp kq n1 n2 hv4 hs);have hml:=zH (fun W u1 u2 (h1:IsPoly W u1 g') (h2:IsPoly W u2 s)=>mul_pp u1 u2 g' s W h1 h2 kmo.kp kmo.kq kmo.ko kmo.kl.1 kmo.kl.2);have hno:=zH (fun W u (hu:IsPoly W u (mulP g' s))=>normal_any u _ g W hu km h);have hpn:p≠[]:=fun h=>hpq (.inl h);have hqn:q≠[]:=fun h=>hpq (.inr h);clear h hx hy hg hp hq hs hm hpq km kx ky kg kp kq ks kmo hd1 hd2;generalize mulP g' s=m at *
     go_upto_region 12 with (first
     |(go_at_call 53;refine (hDa.out w4 hb04).mono ?_;rintro en w5 ⟨rfl,hb5⟩;have hb05:=hb04.trans (hb5.mono hb04.size))
     |(go_at_call 53;refine hD1.out.mono ?_;rintro en w4 ⟨rfl,hb4⟩;have hb04:=hb0.trans (hb4.mono hb0.size)))
     clear hD1 hDa hDb
     go_upto_region 13 with (first
     |(go_at_call 18;refine (hcy.out w6 hb06).mono ?_;rintro en w7 ⟨v7,rfl,h7,hb7⟩;have hb07:=hb06.trans (hb7.mono hb06.size);have h67:=h6.on hb7)
     |(go_at_call 18;refine (hcx.out _ hb05).mono ?_;rintro en w6 ⟨v6,rfl,h6,hb6⟩;have hb06:=hb05.trans (hb6.mono hb05.size)))
     have hgc2:=zH (hgc.out _ _ _ h67 h7);clear hcx hcy hgc
     go_wp2_with (first
     |(go_at_call 56;refine (hoq.out w9 v7 hb09 h79).mono ?_;rintro en w10 ⟨v10,rfl,h10,hb10⟩;have hb010:=hb09.trans (hb10.mono hb09.size);have h910:=h9.on hb10;have h810:=(h8.on hb9).on hb10)
     |(go_at_call 56;refine (hop.out w8 v6 hb08 h68).mono ?_;rintro en w9 ⟨v9,rfl,h9,hb9⟩;have hb09:=hb08.trans (hb9.mono hb08.size);have h79:=h78.on hb9)
     |(go_at_call 16;refine hgc2.out.mono ?_;rintro en w8 ⟨v8,rfl,h8,hb8⟩;have hb08:=hb07.trans (hb8.mono hb07.size);have h68:=h67.on hb8;have h78:=h7.on hb8)
     |(go_at_call 55;refine (hsq.out _ _ _ h910 h10 hpn hqn).mono ?_;rintro en w11 ⟨v11,rfl,h11,hb11⟩;have hb011:=hb010.trans (hb11.mono hb010.size);have h811:=h810.on hb11)
     |(go_at_call 54;refine (hml.out _ _ _ h811 h11).mono ?_;rintro en w12 ⟨v12,rfl,h12,hb12⟩;have hb012:=hb011.trans (hb12.mono hb011.size))
     |(go_at_call 14;refine (hno.out _ _ h12).mono ?_;rintro en w13 ⟨v13,rfl,h13,hb13⟩))
     go_ret;exact⟨_,rfl,h13,hb012.trans (hb13.mono hb012.size)⟩
theorem gcdN_any:∀ n,GcdG (gcdN n)
|0=>fun a b g _ _ h=>by simp [gcdN] at h
|n+1=>gcdT_any (gcdN_any n)
end Go.Proofs.YtopclbeomcggiaaGreat
end
section
namespace Q
open Go Go.RowKit Go.Proofs.YtopclbeomcggiaaGreat
def elFac:El (List Trm × Nat) where
 T:=54
 sz:=2
 pos:=by decide
 E w cs f:=∃ v,cs=[v,.int .i64 (f.2:Int)]/\IsPoly w v f.1
 len:=by rintro w c t ⟨v,rfl,-⟩;rfl
 one:=by
  rintro w c t ⟨v,rfl,h⟩ u hu;simp only [List.mem_cons,List.not_mem_nil,or_false] at hu;rcases hu with rfl|rfl
  ·exact IsSl.one h
  ·rfl
 on:=by rintro w w' c t ⟨v,rfl,h⟩ hb;exact⟨v,rfl,IsSl.on h hb⟩
 ok T:=elTerm.ok T/\monoT≠T
 lr:=by rintro g T' w w' c t ⟨v,rfl,h⟩ hl hT;exact⟨v,rfl,IsSl.lr h hl hT.1 hT.2⟩
 self:=⟨elTerm_ok (by decide),by decide⟩
theorem sqO_inv {G:List Trm->List Trm->Option (List Trm)} {a p:List Trm} {v:Nat} {R:List (List Trm × Nat)} (h:(if degP p v<1 then some [] else
  bind2 (g1 (partialP p v)) fun d=>bind2 (G p d) fun g=>bind2 (overO p g) fun w=>bind2 (overO d g) fun y=>sqGo G v fuel 1 w y [])=some R) (hd:¬ degP p v<1) :
  ∃ g w0 y0,Wp (partialP p v)/\G p (partialP p v)=some g/\overO p g=some w0/\overO (partialP p v) g=some y0/\sqGo G v fuel 1 w0 y0 []=some R:=by
 rw [if_neg hd] at h;obtain⟨d,hd,h⟩:=bind2_some h;obtain⟨rfl,kd⟩:=g1_some hd;obtain⟨g,hg,h⟩:=bind2_some h;obtain⟨w0,hw,h⟩:=bind2_some h;obtain⟨y0,hy,h⟩:=bind2_some h;exact⟨g,w0,y0,kd,hg,hw,hy,h⟩
theorem sqGo_inv {G:List Trm->List Trm->Option (List Trm)} {x y:List Trm} {v f n:Nat} {out R:List (List Trm × Nat)} (h:sqGo G v (f+1) n x y out=some R) (hd:0<degP x v) :
  ∃ g x' y',Wp (partialP x v)/\Wp (subP y (partialP x v))/\G x (subP y (partialP x v))=some g/\overO x g=some x'/\overO (subP y (partialP x v)) g=some y'/\sqGo G v f (n+1) x' y' (if 0<degP g v then out++[(g,n)] else out)=some R:=by
 rw [sqGo,if_pos hd] at h;obtain⟨d,hd9,h⟩:=bind2_some h;obtain⟨rfl,kd⟩:=g1_some hd9;obtain⟨z,hz9,h⟩:=bind2_some h;obtain⟨rfl,kz⟩:=g1_some hz9;obtain⟨g,hg,h⟩:=bind2_some h;obtain⟨x',hx',h⟩:=bind2_some h;obtain⟨y',hy',h⟩:=bind2_some h;exact⟨g,x',y',kd,kz,hg,hx',hy',h⟩
abbrev OwnFac (base:Nat) (w:World) (v:Value) (l:List (List Trm × Nat)):Prop:=OwnSl elFac base w v l
abbrev IsFac (w:World) (v:Value) (l:List (List Trm × Nat)):Prop:=IsSl elFac w v l
end Q
namespace Go.Proofs.YtopclbeomcggiaaGreat
open Go.RowKit Q
theorem info_elFac:∃ z bytes,(Tryz.prog.info? elFac.T).map (fun i=>(i.zero,i.size,i.bytes))=some (some z,elFac.sz,bytes)/\z.cells.size=elFac.sz/\bytes<=100000:=⟨.agg #[.slice none 0 0,.int .i64 0],32,by kernel_rfl,rfl,by decide⟩
def RetFac (w:World) (l:List (List Trm × Nat)) (e:Ending) (w':World):Prop:=∃ v,e=.returned v/\IsFac w' v l/\Below w.heap.size w w'
theorem Wp.part {p:List Trm} (h:Wp p) (v:Nat):∀ t∈p,Rk t.2/\t.1.get v<=100000000/\Rk (t.1.get v:Rat):=fun t ht=>by
 have h1:=h.exps ht v;refine⟨h.rk t ht,by omega,?_⟩;obtain⟨m,hm⟩:∃ m:Nat,t.1.get v=m:=⟨(t.1.get v).toNat,by omega⟩;rw [hm];refine (rs_of_dv (s:=⟨1,100000,1,1⟩) (by decide +kernel) (Dv.int 1 (m:Int)) ?_).rk;rw [rabs_int];exact Rat.natCast_le_natCast.2 (by show (m:Int).natAbs<=100000;omega)
theorem partW {va:Value} {p:List Trm} {v:Nat} {w:World} (h:Wp p) (hv:v<4) (hp:IsPoly w va p):Calls Tryz.prog 73 #[va,.int .i64 v] w (RetPoly w (partialP p v)) :=
 partial_any va p v w hp hv (Wp.part h v) (by have:=h.len;omega)
theorem subW {va vb:Value} {p q:List Trm} {w:World} (h:Wp p) (h':Wp q) (hp:IsPoly w va p) (hq:IsPoly w vb q):Calls Tryz.prog 74 #[va,vb] w (RetPoly w (subP p q)) :=
 sub_any va vb p q w hp hq h.rk h'.rk (by have:=h.len;omega) (by have:=h'.len;omega) h.val h'.val
theorem squarefree_any {G:List Trm->List Trm->Option (List Trm)} (HG:GcdG G) (va:Value) (a:List Trm) (R:List (List Trm × Nat)) (v:Nat) (w:World) (ha:IsPoly w va a) (ka:Wp a) (hv:v<4) (h:sqO G a v=some R) :
  Calls Tryz.prog 29 #[va,.int .i64 v] w (RetFac w R):=by
 have hex:∃ p,primO G a v=some p/\((degP p v<1/\R=[])\/(¬ degP p v<1/\∃ g w0 y0,Wp (partialP p v)/\G p (partialP p v)=some g/\overO p g=some w0/\overO (partialP p v) g=some y0/\sqGo G v fuel 1 w0 y0 []=some R)):=by
  unfold sqO at h;obtain⟨p,hp,h⟩:=bind2_some h;refine⟨p,hp,?_⟩;by_cases hd:degP p v<1
  ·rw [if_pos hd,Option.some.injEq] at h;exact .inl ⟨hd,h.symm⟩
  ·exact .inr ⟨hd,sqO_inv (a:=a) h hd⟩
 clear h;obtain⟨p,hp,hex⟩:=hex;have kp:=prim_wp hp;have hpr:=zH (primitive_any HG va a p v w hv ha ka hp);have hdp:=zH (fun W u (hu:IsPoly W u p)=>deg_any u p v W hu hv (by have:=kp.len;omega));obtain⟨dp,hdp2⟩:∃ dp,dp=degP p v:=⟨_,rfl⟩;rw [<- hdp2] at hdp hex;clear hp hdp2;rcases hex with ⟨hd1,rfl⟩|⟨hd1,g,w0,y0,kd,hg,hw,hy,h⟩
 ·go_enter Tryz.func29,Tryz.ntmps29
  go_wp2_with (first
  |(go_at_call 20;refine hpr.out.mono ?_;rintro en w3 ⟨v3,rfl,h3,hb3⟩)
  |(go_at_call 53;refine (hdp.out _ _ h3).mono ?_;rintro en w4 ⟨rfl,hb4⟩))
  go_ret;exact⟨_,rfl,IsSl.nil _ _,hb3.trans (hb4.mono hb3.size)⟩
 ·have hpt:=zH (fun W u (hu:IsPoly W u p)=>partW (w:=W) kp hv hu);generalize partialP p v=d at *;obtain⟨hgc,kg⟩:=HG _ _ _ kp kd hg;have kw:=over_wp hw;have ky:=over_wp hy;replace hgc:=zH hgc;have how:=zH (fun W u1 u2 (h1:IsPoly W u1 p) (h2:IsPoly W u2 g)=>over_any u1 u2 p g w0 W h1 h2 kg hw);have hoy:=zH (fun W u1 u2 (h1:IsPoly W u1 d) (h2:IsPoly W u2 g)=>over_any u1 u2 d g y0 W h1 h2 kg hy);obtain⟨F,hF⟩:∃ F,F=fuel:=⟨_,rfl⟩;have hF9:1+F<=10000001:=by rw [hF];decide
  rw [<- hF] at h;replace h:=zH h;clear hF hg hw hy kp kd kg
  go_enter Tryz.func29,Tryz.ntmps29
  go_upto_region 6 with (first
  |(go_at_call 20;refine hpr.out.mono ?_;rintro en w3 ⟨v3,rfl,h3,hb3⟩)
  |(go_at_call 53;refine (hdp.out _ _ h3).mono ?_;rintro en w4 ⟨rfl,hb4⟩;have h34:=h3.on hb4)
  |(go_at_call 73;refine (hpt.out _ _ h34).mono ?_;rintro en w5 ⟨v5,rfl,h5,hb5⟩))
  have h35:=h34.on hb5;have hb05:=(hb3.trans (hb4.mono hb3.size)).trans (hb5.mono (hb3.trans (hb4.mono hb3.size)).size);have hgc2:=zH (hgc.out _ _ _ h35 h5);clear hb3 hb4 hb5 h34 h3 hpr hpt hdp hgc hd1
  go_upto_region 7 with (go_at_call 16;refine hgc2.out.mono ?_;rintro en w6 ⟨v6,rfl,h6,hb6⟩)
  have how2:=zH (how.out _ _ _ (h35.on hb6) h6);have hoy2:=zH (fun W (hb:Below w6.heap.size w6 W)=>hoy.out W _ _ ((h5.on hb6).on hb) (h6.on hb));clear how hoy h35 h5 hgc2
  go_upto_region 8 with (first
  |(go_at_call 56;refine (hoy2.out w7 hb7).mono ?_;rintro en w8 ⟨v8,rfl,h8,hb8⟩)
  |(go_at_call 56;refine how2.out.mono ?_;rintro en w7 ⟨v7,rfl,h7,hb7⟩))
  have hb68:=hb6.trans ((hb7.trans (hb8.mono hb7.size)).mono hb6.size);have hb08:=hb05.trans (hb68.mono hb05.size);have h78:=zH (h7.on hb8);replace h8:=zH h8;clear how2 hoy2 hb05 hb6 hb7 hb8 hb68 h6 h7;go_wp2
  go_loopg [6,9,10,11] F (fun f vo vw vy vn wr=>∃ (n:Nat) (x y:List Trm) (out:List (List Trm × Nat)),vn=.int .i64 n/\Hid (OwnFac w.heap.size wr vo out)/\Hid (IsPoly wr vw x)/\Hid (IsPoly wr vy y)/\Wp x/\Wp y/\Hid (sqGo G v f n x y out=some R)/\n+f<=10000001/\out.length<=n/\Below w.heap.size w wr)
  case atStart=>exact⟨1,w0,y0,[],rfl,zH (OwnSl.nil _ _ _),h78,h8,kw,ky,h,hF9,by simp,hb08⟩
  case round =>
   clear h78 h8 kw ky h hF9 hb08;obtain⟨n,x,y,out,rfl,ho,hx,hy,kx,ky,hs,hnf,hol,hbr⟩:=hrel
   cases gk with
  |zero=>exact absurd hs.out (by simp [sqGo])
  |succ f =>
   have hs2:=hs.out;have hinv:=sqGo_inv hs2;rw [sqGo] at hs2;have hdx:=zH (deg_any _ x v wr hx.out hv (by have:=kx.len;omega));obtain⟨dx,hdx2⟩:∃ dx,dx=degP x v:=⟨_,rfl⟩;rw [<- hdx2] at hdx hs2 hinv;clear hs hdx2;by_cases hd:0<dx
   ·clear hs2;obtain⟨g,x',y',kd,kz,hg,hx',hy',hs2⟩:=hinv hd;clear hinv;have hpt:=zH (fun W (h1:Below wr.heap.size wr W)=>partW (w:=W) kx hv (hx.out.on h1));have hsb:=zH (fun W u (h1:Below wr.heap.size wr W) (hu:IsPoly W u (partialP x v))=>subW (w:=W) ky kd (hy.out.on h1) hu);generalize partialP x v=d at *;generalize subP y d=z at *;obtain⟨hgc,kg⟩:=HG _ _ _ kx kz hg;replace hgc:=zH hgc;have hdg:=zH (fun W u (hu:IsPoly W u g)=>deg_any u g v W hu hv (by have:=kg.len;omega));have kx':=over_wp hx';have ky':=over_wp hy';have how:=zH (fun W u1 u2 (h1:IsPoly W u1 x) (h2:IsPoly W u2 g)=>over_any u1 u2 x g x' W h1 h2 kg hx');have hoy:=zH (fun W u1 u2 (h1:IsPoly W u1 z) (h2:IsPoly W u2 g)=>over_any u1 u2 z g y' W h1 h2 kg hy');obtain⟨dg,hdg2⟩:∃ dg,dg=degP g v:=⟨_,rfl⟩;rw [<- hdg2] at hdg hs2;clear hg hx' hy' kd kz kg hdg2
    go_upto_region 12 with (first
    |(go_at_call 53;refine hdx.out.mono ?_;rintro en w3 ⟨rfl,hb3⟩)
    |(go_at_call 73;refine (hpt.out _ hb3).mono ?_;rintro en w4 ⟨v4,rfl,h4,hb4⟩;have hb34:=hb3.trans (hb4.mono hb3.size))
    |(go_at_call 74;refine (hsb.out _ _ hb34 h4).mono ?_;rintro en w5 ⟨v5,rfl,h5,hb5⟩))
    have hb35:=hb34.trans (hb5.mono hb34.size);have hgc2:=zH (hgc.out _ _ _ (hx.out.on hb35) h5);have hx5:=hx.out.on hb35;have ho5:=ho.out.on hb35;have hbr5:=hbr.trans (hb35.mono hbr.size);clear hb3 hb4 hb5 hb34 hb35 h4 hpt hsb hdx hgc hx hy ho
    go_upto_region 13 with (go_at_call 16;refine hgc2.out.mono ?_;rintro en w6 ⟨v6,rfl,h6,hb6⟩)
    have hx6:=hx5.on hb6;have hz6:=h5.on hb6;have ho6:=ho5.on hb6;have hbr6:=hbr5.trans (hb6.mono hbr5.size);have hdg2:=zH (hdg.out _ _ h6);clear hgc2 hx5 h5 ho5 hbr5 hb6 hdg;have hn1:n<=10000000:=by omega
    go_upto_if 50 with (go_at_call 53;refine hdg2.out.mono ?_;rintro en w7 ⟨rfl,hb7⟩)
    have hx7:=hx6.on hb7;have hz7:=hz6.on hb7;have ho7:=ho6.on hb7;have hg7:=h6.on hb7;have hbr7:=hbr6.trans (hb7.mono hbr6.size);clear hx6 hz6 ho6 h6 hbr6 hb7 hdg2
    go_cut [6,51,52,53,54,55,56] (fun vo _ _ _ _ _ _ wd=>Hid (OwnFac w.heap.size wd vo (if 0<dg then out++[(g,n)] else out))/\Hid (IsPoly wd u9 x)/\Hid (IsPoly wd v5 z)/\Hid (IsPoly wd v6 g)/\Below w.heap.size w wd)
    case first =>
     by_cases hp:0<dg
     ·have hbe:Below w7.heap.size w7 (w7.alloc (.cells #[v6,.int .i64 n] 54)):=(Below.refl _ _).alloc (Nat.le_refl _) _;have hbre:=hbr7.trans (hbe.mono hbr7.size);have hown:=ho7.on hbe
      have hsl:IsFac (w7.alloc (.cells #[v6,.int .i64 n] 54)) (.slice (some ⟨w7.heap.size,0,none⟩) 1 1) [(g,n)] :=
       ⟨_,1,[v6,.int .i64 n],rfl,Nat.le_refl _,(Blk.new w7 54 [v6,.int .i64 n]).at,Elems.single ⟨v6,rfl,hg7.on hbe⟩⟩
      have hxe:=hx7.on hbe;have hze:=hz7.on hbe;have hge:=hg7.on hbe;have hbas:=ho7.base_le;obtain⟨a6,c6,rfl,-⟩:=hg7.shape;replace hbas:=zH hbas;clear hx7 hz7 hg7 ho7
      go_wp2_with (at_builtin;refine wpList_app rfl _ _ 50 rfl Tryz.underlying50 info_elFac rfl rfl hown hsl (by simp;omega) hbre.size ?_;intro v8 w8 hown8 hl8 hv8)
      have hb8:=hbre.trans (hl8.belowAt hbre.size (fun k hk=>(hbas.out k hk).1));have hx8:=hxe.lr hl8 (elTerm_ok (by decide)) (by decide);have hz8:=hze.lr hl8 (elTerm_ok (by decide)) (by decide);have hg8:=hge.lr hl8 (elTerm_ok (by decide)) (by decide);go_meet
      case rel=>exact⟨zH (by rw [if_pos hp];exact hown8),zH hx8,zH hz8,zH hg8,hb8⟩
     ·go_wp2;go_meet
      case rel=>exact⟨zH (by rw [if_neg (by omega)];exact ho7),zH hx7,zH hz7,zH hg7,hbr7⟩
    case rest =>
     clear hx7 hz7 hg7 ho7 hbr7;obtain⟨ho,hx,hz,hg,hbc⟩:=hcut;have how2:=zH (how.out _ _ _ hx.out hg.out);have hoy2:=zH (fun W (hb:Below wc.heap.size wc W)=>hoy.out W _ _ (hz.out.on hb) (hg.out.on hb))
     have hlen:(if 0<dg then out++[(g,n)] else out).length<=n+1:=by
      split
      ·simp;omega
      ·omega
     replace hs2:=zH hs2;generalize (if 0<dg then out++[(g,n)] else out)=out2 at *;clear how hoy hx hz hg
     go_wp2_with (first
     |(go_at_call 56;refine (hoy2.out w9 hb9).mono ?_;rintro en w10 ⟨v10,rfl,h10,hb10⟩)
     |(go_at_call 56;refine how2.out.mono ?_;rintro en w9 ⟨v9,rfl,h9,hb9⟩))
     have hb910:=hb9.trans (hb10.mono hb9.size);go_roundg f
     case measure=>omega
     case rel=>exact⟨n+1,x',y',out2,by go_num,zH (ho.out.on hb910),zH (h9.on hb10),zH h10,kx',ky',hs2,by omega,hlen,hbc.trans (hb910.mono hbc.size)⟩
   ·rw [if_neg hd,Option.some.injEq] at hs2;have hfin:=zH hs2;have hS:=ho.out.isSl;clear hs2 ho hx hy
    go_wp2_with (go_at_call 53;refine hdx.out.mono ?_;rintro en w3 ⟨rfl,hb3⟩)
    go_ret;exact⟨_,rfl,by rw [<- hfin.out];exact hS.on hb3,hbr.trans (hb3.mono hbr.size)⟩
end Go.Proofs.YtopclbeomcggiaaGreat
end
section
namespace Q
open Go Go.RowKit Go.Proofs.YtopclbeomcggiaaGreat
abbrev Mx:=List (List (List Trm))
def mget (M:Mx) (i j:Nat):List Trm:=(M.getD i []).getD j []
def mset (M:Mx) (i j:Nat) (x:List Trm):Mx:=M.set i ((M.getD i []).set j x)
def sylTo (l:List (List Trm)) (at_ N:Nat):Nat->List (List Trm)
|0=>List.replicate N []
|k+1=>(sylTo l at_ N k).set (at_+l.length-1-k) (l.getD k [])
def sylRow (a b:List (List Trm)) (N i:Nat):List (List Trm):=if b.length-1<=i then sylTo b (i-(b.length-1)) N b.length else sylTo a i N a.length
def syl (a b:List (List Trm)):Mx:=(List.range (a.length-1+(b.length-1))).map (sylRow a b (a.length-1+(b.length-1)))
theorem sylTo_len (l:List (List Trm)) (at_ N:Nat):∀ k,(sylTo l at_ N k).length=N
|0=>by simp [sylTo]
|k+1=>by rw [sylTo,List.length_set,sylTo_len l at_ N k]
def elJ (N k i:Nat) (last:List Trm):Nat->Mx->Option Mx
|0,M=>some M
|f+1,M=>bind2 (overO (subP (mulP (mget M k k) (mget M i (N-(f+1)))) (mulP (mget M i k) (mget M k (N-(f+1))))) last) fun x=>elJ N k i last f (mset M i (N-(f+1)) x)
def elI (N k:Nat) (last:List Trm):Nat->Mx->Option Mx
|0,M=>some M
|f+1,M=>bind2 (elJ N k (N-(f+1)) last (N-(k+1)) M) fun M'=>elI N k last f M'
def findP (N k:Nat) (M:Mx):Nat->Option Nat
|0=>none
|f+1=>if mget M (N-(f+1)) k=[] then findP N k M f else some (N-(f+1))
def swapR (M:Mx) (i j:Nat):Mx:=(M.set i (M.getD j [])).set j (M.getD i [])
def finR (last:List Trm) (neg:Bool):List Trm:=if neg then subP [] last else last
def resS (N:Nat):Nat->Mx->List Trm->Bool->Option (List Trm)
|0,_,last,neg=>some (finR last neg)
|f+1,M,last,neg=>match findP N (N-(f+1)) M (f+1) with
 |none=>some []
 |some at_ =>
   let M1:=if at_=N-(f+1) then M else swapR M (N-(f+1)) at_
   let neg1:=if at_=N-(f+1) then neg else !neg
   if f=0 then some (finR (mget M1 (N-(f+1)) (N-(f+1))) neg1)
   else bind2 (elI N (N-(f+1)) last f M1) fun M2=>resS N f M2 (mget M2 (N-(f+1)) (N-(f+1))) neg1
def resO (a b:List Trm) (v:Nat):Option (List Trm) :=
 if a=[]\/b=[] then some [] else resS ((coeffsP a v).length-1+((coeffsP b v).length-1)) ((coeffsP a v).length-1+((coeffsP b v).length-1)) (syl (coeffsP a v) (coeffsP b v)) oneP false
structure MxOk (N:Nat) (M:Mx):Prop where
 len:M.length=N
 rows:∀ r∈M,r.length=N
 el:∀ r∈M,∀ x∈r,Wp x
theorem MxOk.get {N:Nat} {M:Mx} (h:MxOk N M) (i j:Nat):Wp (mget M i j):=by
 unfold mget;rcases Nat.lt_or_ge i M.length with hi|hi
 ·rw [List.getD_eq_getElem?_getD (l:=M),List.getElem?_eq_getElem hi,Option.getD_some];rcases Nat.lt_or_ge j M[i].length with hj|hj
  ·rw [List.getD_eq_getElem?_getD,List.getElem?_eq_getElem hj];exact h.el _ (List.getElem_mem hi) _ (List.getElem_mem hj)
  ·rw [List.getD_eq_getElem?_getD,List.getElem?_eq_none hj];exact Wp.nil
 ·rw [List.getD_eq_getElem?_getD (l:=M),List.getElem?_eq_none hi];simp;exact Wp.nil
theorem MxOk.row {N:Nat} {M:Mx} (h:MxOk N M) {i:Nat} (hi:i<N):M.getD i []∈M/\(M.getD i []).length=N/\M[i]?=some (M.getD i []):=by
 have hl:i<M.length:=by rw [h.len];exact hi
 have e:M.getD i []=M[i]:=by rw [List.getD_eq_getElem?_getD,List.getElem?_eq_getElem hl];rfl
 rw [e];exact⟨List.getElem_mem hl,h.rows _ (List.getElem_mem hl),List.getElem?_eq_getElem hl⟩
theorem MxOk.set {N:Nat} {M:Mx} (h:MxOk N M) {i j:Nat} {x:List Trm} (hi:i<N) (hx:Wp x):MxOk N (mset M i j x):=by
 obtain⟨h1,h2,h3⟩:=h.row hi;refine⟨by rw [mset,List.length_set];exact h.len,fun r hr=>?_,fun r hr y hy=>?_⟩
 ·rcases List.mem_or_eq_of_mem_set hr with hr|rfl
  ·exact h.rows r hr
  ·rw [List.length_set];exact h2
 ·rcases List.mem_or_eq_of_mem_set hr with hr|rfl
  ·exact h.el r hr y hy
  ·rcases List.mem_or_eq_of_mem_set hy with hy|rfl
   ·exact h.el _ h1 y hy
   ·exact hx
theorem MxOk.swap {N:Nat} {M:Mx} (h:MxOk N M) {i j:Nat} (hi:i<N) (hj:j<N):MxOk N (swapR M i j):=by
 have hm:∀ r∈swapR M i j,r∈M:=fun r hr=>by
  rcases List.mem_or_eq_of_mem_set hr with hr|rfl
  ·rcases List.mem_or_eq_of_mem_set hr with hr|rfl
   ·exact hr
   ·exact (h.row hj).1
  ·exact (h.row hi).1
 exact⟨by rw [swapR,List.length_set,List.length_set];exact h.len,fun r hr=>h.rows r (hm r hr),fun r hr=>h.el r (hm r hr)⟩
theorem sylTo_el {l:List (List Trm)} (hl:∀ c∈l,Wp c) (at_ N:Nat):∀ k,∀ x∈sylTo l at_ N k,Wp x
|0,x,hx=>by rw [List.eq_of_mem_replicate hx];exact Wp.nil
|k+1,x,hx=>by
  rcases List.mem_or_eq_of_mem_set hx with hx|rfl
  ·exact sylTo_el hl at_ N k x hx
  ·rcases Nat.lt_or_ge k l.length with hk|hk
   ·rw [List.getD_eq_getElem?_getD,List.getElem?_eq_getElem hk];exact hl _ (List.getElem_mem hk)
   ·rw [List.getD_eq_getElem?_getD,List.getElem?_eq_none hk];exact Wp.nil
theorem syl_ok {a b:List (List Trm)} (ha:∀ c∈a,Wp c) (hb:∀ c∈b,Wp c):MxOk (a.length-1+(b.length-1)) (syl a b):=by
 refine⟨by simp [syl],fun r hr=>?_,fun r hr x hx=>?_⟩
 ·obtain⟨i,-,rfl⟩:=List.mem_map.1 hr;unfold sylRow;split <;> exact sylTo_len _ _ _ _
 ·obtain⟨i,-,rfl⟩:=List.mem_map.1 hr;unfold sylRow at hx;split at hx
  ·exact sylTo_el hb _ _ _ x hx
  ·exact sylTo_el ha _ _ _ x hx
abbrev rowT:TypeId:=75
def hdr (N:Nat) (b:Nat):Value:=.slice (some ⟨b,0,none⟩) N N
def RowAt (base:Nat) (w:World) (N b:Nat) (r:List (List Trm)):Prop:=base<=b/\r.length=N/\∃ vs,Cols w b vs r/\vs.length=N
structure Mat (base:Nat) (w:World) (g N:Nat) (bs:List Nat) (M:Mx):Prop where
 ob:Blk w g rowT (bs.map (hdr N)++List.replicate (N-bs.length) (.slice none 0 0))
 gb:base<=g
 len:M.length=bs.length
 le:bs.length<=N
 row:∀ (i b:Nat) (r:List (List Trm)),bs[i]?=some b->M[i]?=some r->RowAt base w N b r
 nd:bs.Nodup
theorem RowAt.on {base:Nat} {w w':World} {N b:Nat} {r:List (List Trm)} (h:RowAt base w N b r) (hb:Below w.heap.size w w'):RowAt base w' N b r:=by
 obtain⟨h1,h2,vs,h3,h4⟩:=h;exact⟨h1,h2,vs,h3.on hb,h4⟩
theorem Mat.on {base:Nat} {w w':World} {g N:Nat} {bs:List Nat} {M:Mx} (h:Mat base w g N bs M) (hb:Below w.heap.size w w'):Mat base w' g N bs M :=
 ⟨h.ob.on hb,h.gb,h.len,h.le,fun i b r h1 h2=>(h.row i b r h1 h2).on hb,h.nd⟩
theorem RowAt.ne {base:Nat} {w:World} {N b g:Nat} {r:List (List Trm)} {cs:List Value} (h:RowAt base w N b r) (hg:Blk w g rowT cs):b≠g:=by
 rintro rfl;obtain⟨-,-,vs,h3,-⟩:=h;have:=h3.b;unfold Blk at *;rw [this] at hg;simp only [Option.some.injEq,Obj.cells.injEq] at hg;exact absurd hg.2.1 (by decide)
theorem RowAt.lr {base:Nat} {w w':World} {N b:Nat} {r:List (List Trm)} {g:Nat} {T:TypeId} (h:RowAt base w N b r) (hl:Lr (some g) T w w') (hT:uT≠T) (hT':monoT≠T) (hne:b≠g):RowAt base w' N b r:=by
 obtain⟨h1,h2,vs,h3,h4⟩:=h;exact⟨h1,h2,vs,⟨h3.b.lr hl (by simpa using hne),h3.l,fun i v p hv hp=>(h3.p i v p hv hp).lr hl (elTerm_ok hT) hT'⟩,h4⟩
theorem RowAt.set {base:Nat} {w:World} {N b:Nat} {r:List (List Trm)} (h:RowAt base w N b r) {j:Nat} (hj:j<N) {v:Value} {q:List Trm} (hq:IsPoly w v q) :
  RowAt base (w.setCell ⟨b,j,none⟩ v) N b (r.set j q)/\Lr (some b) polyT w (w.setCell ⟨b,j,none⟩ v):=by
 obtain⟨h1,h2,vs,h3,h4⟩:=h;obtain⟨h5,h6⟩:=h3.set (i:=j) (by omega) hq;exact⟨⟨h1,by simpa using h2,_,h5,by simpa using h4⟩,h6⟩
theorem RowAt.get {base:Nat} {w:World} {N b:Nat} {r:List (List Trm)} (h:RowAt base w N b r) {j:Nat} (hj:j<N):∃ v,IsPoly w v (r.getD j [])/\w.cell? ⟨b,j,none⟩=some v/\w.frozen? ⟨b,j,none⟩=false/\b<w.heap.size:=by
 obtain⟨h1,h2,vs,h3,h4⟩:=h;obtain⟨v,hv,hp,hc⟩:=h3.get (i:=j) (by omega);exact⟨v,hp,hc,h3.b.frozen j,h3.b.lt⟩
end Q
end
section
namespace Q
open Go.Proofs.YtopclbeomcggiaaGreat
instance decPair:DecidableEq (List Trm × Nat):=@instDecidableEqProd (List Trm) Nat inferInstance inferInstance
instance decPairs:DecidableEq (List (List Trm × Nat)):=inferInstance
instance decPairsO:DecidableEq (Option (List (List Trm × Nat))):=inferInstance
def G8:List Trm->List Trm->Option (List Trm):=gcdN 6
theorem sw_sum:addP [tm 1 1 0] [tm 1 0 1]=[tm 1 0 1,tm 1 1 0]:=by decide +kernel
theorem sw_x1:addP [tm 1 1 0] [tm 1 0 0]=[tm 1 1 0,tm 1 0 0]:=by decide +kernel
theorem sw_sq:mulP [tm 1 1 0,tm 1 0 0] [tm 1 1 0,tm 1 0 0]=[tm 1 2 0,tm 2 1 0,tm 1 0 0]:=by decide +kernel
theorem sw_xmy:subP [tm 1 1 0] [tm 1 0 1]=[tm (-1) 0 1,tm 1 1 0]:=by decide +kernel
theorem sw_a:mulP [tm 1 0 1,tm 1 1 0] [tm (-1) 0 1,tm 1 1 0]=[tm (-1) 0 2,tm 1 2 0]:=by decide +kernel
theorem sw_b:mulP [tm 1 0 1] [tm 1 0 1,tm 1 1 0]=[tm 1 0 2,tm 1 1 1]:=by decide +kernel
theorem sw_yx1:mulP [tm 1 0 1] [tm 1 1 0,tm 1 0 0]=[tm 1 1 1,tm 1 0 1]:=by decide +kernel
theorem sw_c:scaleP [tm 1 1 1,tm 1 0 1] (((2:Int)):Rat)=[tm 2 1 1,tm 2 0 1]:=by decide +kernel
theorem sw_xy:mulP [tm 1 1 0] [tm 1 0 1]=[tm 1 1 1]:=by decide +kernel
theorem sw_f:mulP [tm 1 1 1] [tm 1 2 0,tm 2 1 0,tm 1 0 0]=[tm 1 3 1,tm 2 2 1,tm 1 1 1]:=by decide +kernel
theorem sw_l:sqO G8 [tm 1 3 1,tm 2 2 1,tm 1 1 1] 0=some [([tm 1 1 0],1),([tm 1 1 0,tm 1 0 0],2)]:=by decide +kernel
theorem sw_x2:addP [tm 1 1 0] [tm 2 0 0]=[tm 1 1 0,tm 2 0 0]:=by decide +kernel
theorem sw_2x2:scaleP [tm 1 1 0,tm 2 0 0] (((2:Int)):Rat)=[tm 2 1 0,tm 4 0 0]:=by decide +kernel
theorem sw_n:normO [tm 2 1 0,tm 4 0 0]=some [tm 1 1 0,tm 2 0 0]:=by decide +kernel
theorem sw_g1:G8 [tm (-1) 0 2,tm 1 2 0] [tm 1 0 2,tm 1 1 1]=some [tm 1 0 1,tm 1 1 0]:=by decide +kernel
theorem sw_3x:scaleP [tm 1 1 0] (((3:Int)):Rat)=[tm 3 1 0]:=by decide +kernel
theorem sw_g2:G8 [] [tm 3 1 0]=some [tm 1 1 0]:=by decide +kernel
theorem sw_g3:G8 [tm 1 1 0] [tm 1 0 1]=some [tm 1 0 0]:=by decide +kernel
theorem sw_g4:G8 [tm 4 0 0] [tm 6 0 0]=some [tm 1 0 0]:=by decide +kernel
theorem sw_g5:G8 [] []=some []:=by decide +kernel
theorem sw_ct:contO G8 [tm 2 1 1,tm 2 0 1] 0=some [tm 1 0 1]:=by decide +kernel
theorem sw_pr:primO G8 [tm 2 1 1,tm 2 0 1] 0=some [tm 2 1 0,tm 2 0 0]:=by decide +kernel
theorem sw_2x1:scaleP [tm 1 1 0,tm 1 0 0] (((2:Int)):Rat)=[tm 2 1 0,tm 2 0 0]:=by decide +kernel
theorem sw_l2:sqO G8 [tm 1 0 1] 0=some []:=by decide +kernel
theorem sw_xx:mulP [tm 1 1 0] [tm 1 1 0]=[tm 1 2 0]:=by decide +kernel
theorem sw_xxy:subP [tm 1 2 0] [tm 1 0 1]=[tm (-1) 0 1,tm 1 2 0]:=by decide +kernel
theorem sw_xm1:subP [tm 1 1 0] [tm 1 0 0]=[tm 1 1 0,tm (-1) 0 0]:=by decide +kernel
theorem sw_1my:subP [tm 1 0 0] [tm 1 0 1]=[tm (-1) 0 1,tm 1 0 0]:=by decide +kernel
theorem sw_r1:resO [tm (-1) 0 1,tm 1 2 0] [tm 1 1 0,tm (-1) 0 0] 0=some [tm (-1) 0 1,tm 1 0 0]:=by decide +kernel
theorem sw_r2:resO [tm 2 0 0] [tm 3 0 0] 0=some [tm 1 0 0]:=by decide +kernel
theorem sw_r3:resO [tm 2 0 0] [tm 1 2 0] 0=some [tm 4 0 0]:=by decide +kernel
theorem sw_r4:resO [] [tm 1 0 0] 0=some []:=by decide +kernel
end Q
end
