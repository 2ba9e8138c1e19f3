/- The map of the sums of coefficients: representation; mpoly.add. -/
import Derived.Test.YtopclbeomcggiaaGreatD20
import Derived.Maps.Ext
import Derived.Maps.OwnSet
import Derived.Maps.RangeWalk
import Derived.WideKeyPair
set_option linter.unusedVariables false
set_option linter.unusedSimpArgs false
namespace Go.Proofs.YtopclbeomcggiaaGreat
open Go.RowKit Q Go.WideMaps Go.Maps
abbrev exT : TypeId:=36
theorem exArr : ArrKey Tryz.prog exT 3 4:=⟨Tryz.underlying36,by kernel_rfl,by kernel_rfl,by kernel_rfl⟩
theorem exKeyed : Keyed Tryz.prog exT:=Keyed.of_law exArr.law
def InR (e : Ex) : Prop:=(Lit.int .i64 e.1).wf=true ∧ (Lit.int .i64 e.2.1).wf=true ∧ (Lit.int .i64 e.2.2.1).wf=true ∧ (Lit.int .i64 e.2.2.2).wf=true
theorem wf64 {n : Int} (h1 : -9223372036854775808 ≤ n) (h2 : n ≤ 9223372036854775807) : (Lit.int .i64 n).wf=true:=WalkArith.wf_i64 ⟨h1,h2⟩
theorem InR.of {e : Ex} {K : Nat} (hK : K ≤ 9223372036854775807) (h : -(K : Int) ≤ e.1 ∧ e.1 ≤ K ∧ -(K : Int) ≤ e.2.1 ∧ e.2.1 ≤ K ∧ -(K : Int) ≤ e.2.2.1 ∧ e.2.2.1 ≤ K ∧ -(K : Int) ≤ e.2.2.2 ∧ e.2.2.2 ≤ K) : InR e :=
 ⟨wf64 (by omega) (by omega),wf64 (by omega) (by omega),wf64 (by omega) (by omega),wf64 (by omega) (by omega)⟩
def exV (e : Ex) : Value:=.agg (exC e).toArray
def exL (e : Ex) : Lit:=.string (keyBytes [.int .i64 e.1,.int .i64 e.2.1,.int .i64 e.2.2.1,.int .i64 e.2.2.2])
theorem keyOf_ex {e : Ex} (h : InR e) : keyOf Tryz.prog exT (exV e)=some (exL e):=by
 obtain ⟨h1,h2,h3,h4⟩:=h
 have hkt : Tryz.prog.keyType exT=true:=by kernel_rfl
 obtain ⟨m,hm⟩ : ∃ m,Tryz.prog.types.size=m + 1:=⟨Tryz.prog.types.size - 1,by
  have : 0 < Tryz.prog.types.size:=of_decide_eq_true (by kernel_rfl)
  omega⟩
 unfold keyOf
 simp only [exArr.hu]
 rw [if_pos (by simp [hkt,Value.formed,exArr.hu,exArr.size,exV,exC]),hm]
 unfold Program.keyLits
 simp only [exArr.hu,Value.cells,exV,exC]
 rw [if_pos (by rw [exArr.size]; rfl),show List.range 4=[0,1,2,3] from rfl]
 simp [exArr.one,Program.keyLits,Tryz.underlying3,h1,h2,h3,h4,exL]
set_option maxRecDepth 100000 in
theorem keyOf_ex_inv {key : Value} {kl : Lit} (h : keyOf Tryz.prog exT key=some kl) : ∃ e,key=exV e ∧ InR e ∧ kl=exL e:=by
 obtain ⟨m,hm⟩ : ∃ m,Tryz.prog.types.size=m + 1:=⟨Tryz.prog.types.size - 1,by
  have : 0 < Tryz.prog.types.size:=of_decide_eq_true (by kernel_rfl)
  omega⟩
 unfold keyOf at h
 simp only [exArr.hu] at h
 split at h
 ·rename_i hf
  simp only [Bool.and_eq_true] at hf
  have hf2:=hf.2
  simp only [Value.formed,exArr.hu,exArr.size] at hf2
  cases key with
  | agg cs =>
   simp at hf2
   obtain ⟨l⟩:=cs
   match l,hf2 with
   | [a,b,c,d],_ =>
    rw [hm] at h
    unfold Program.keyLits at h
    simp only [exArr.hu,Value.cells] at h
    rw [if_pos (by rw [exArr.size]; rfl),show List.range 4=[0,1,2,3] from rfl] at h
    simp only [List.mapM_cons,List.mapM_nil,exArr.one,Option.map_eq_some_iff,bind,Option.bind_eq_some_iff,pure,Option.some.injEq] at h
    obtain ⟨ls,⟨xs,⟨y0,k0,r0,⟨y1,k1,r1,⟨y2,k2,r2,⟨y3,k3,r3,rfl,rfl⟩,rfl⟩,rfl⟩,rfl⟩,rfl⟩,rfl⟩:=h
    have one : ∀ {v : Value} {ys : List Lit},Tryz.prog.keyLits (m + 1) 3 [v]=some ys → ∃ n,v=.int .i64 n ∧ ys=[.int .i64 n] ∧ (Lit.int .i64 n).wf=true:=by
     intro v ys hv
     unfold Program.keyLits at hv
     simp only [Tryz.underlying3] at hv
     cases v <;> simp at hv
     obtain ⟨⟨rfl,hw⟩,rfl⟩:=hv
     exact ⟨_,rfl,rfl,hw⟩
    obtain ⟨n0,rfl,rfl,w0⟩:=one (v:=a) (by simpa using k0)
    obtain ⟨n1,rfl,rfl,w1⟩:=one (v:=b) (by simpa using k1)
    obtain ⟨n2,rfl,rfl,w2⟩:=one (v:=c) (by simpa using k2)
    obtain ⟨n3,rfl,rfl,w3⟩:=one (v:=d) (by simpa using k3)
    exact ⟨(n0,n1,n2,n3),rfl,⟨w0,w1,w2,w3⟩,rfl⟩
  | _=>simp at hf2
 ·cases h
theorem exV_inj {e f : Ex} (h : exV e=exV f) : e=f:=by
 have h' : exC e=exC f:=by
  simp only [exV,Value.agg.injEq] at h
  exact Array.toList_inj.2 h
 simp only [exC,List.cons.injEq,Value.int.injEq,true_and,and_true] at h'
 exact Ex.ext' h'.1 h'.2.1 h'.2.2.1 h'.2.2.2
theorem exL_inj {e f : Ex} (he : InR e) (hf : InR f) (h : exL e=exL f) : e=f :=
 exV_inj (exKeyed.inj (keyOf_ex he) (by rw [h]; exact keyOf_ex hf))
def ratShape : Value → Bool
 | .agg cs=>match cs.toList with
  | [.bool _,.slice _ _ _,.bool _,.slice _ _ _]=>true
  | _=>false
 | _=>false
def held (v : Value) : Option (DataW Value × List MemPlace):=if ratShape v=true then some (.held v,[]) else none
theorem held_mk (n n' : Bool) (a a' : Option Addr) (k c k' c' : Nat) : held (.agg #[.bool n,.slice a k c,.bool n',.slice a' k' c'])=some (.held (.agg #[.bool n,.slice a k c,.bool n',.slice a' k' c']),[]):=rfl
theorem held_inv {v : Value} {y : DataW Value × List MemPlace} (h : held v=some y) : y=(.held v,[]) ∧ ∃ n a k c n' a' k' c',v=.agg #[.bool n,.slice a k c,.bool n',.slice a' k' c']:=by
 unfold held at h
 split at h
 ·rename_i hs
  cases h
  refine ⟨rfl,?_⟩
  unfold ratShape at hs
  split at hs
  ·rename_i cs
   split at hs
   ·rename_i h2
    obtain ⟨l⟩:=cs
    simp only at h2
    subst h2
    exact ⟨_,_,_,_,_,_,_,_,rfl⟩
   ·cases hs
  ·cases hs
 ·cases h
def Sums (w : World) (b : Nat) (l : List Trm) : Prop:=∃ D,w.ownsMap Tryz.prog exT held b l.length D ∧ (∀ t ∈ l,InR t.1) ∧
 ∀ e,InR e → ((∃ t ∈ l,t.1=e) → ∃ v,(∀ z,D.atKey (exL e) z=.held v) ∧ IsRat w v (cf l e)) ∧ ((∀ t ∈ l,t.1 ≠ e) → ∀ z,D.atKey (exL e) z=z)
theorem Sums.lt {w : World} {b : Nat} {l : List Trm} (h : Sums w b l) : b < w.heap.size:=let ⟨_,h,_⟩:=h; h.lt
theorem Sums.on {w w' : World} {b : Nat} {l : List Trm} (h : Sums w b l) (hb : Below w.heap.size w w') : Sums w' b l:=by
 obtain ⟨D,h1,h2,h3⟩:=h
 refine ⟨D,h1.kept (below_grownBy hb none) (by simp),h2,fun e he=>⟨fun hx=>?_,(h3 e he).2⟩⟩
 obtain ⟨v,hv,hr⟩:=(h3 e he).1 hx
 exact ⟨v,hv,hr.on hb⟩
theorem Sums.lr {g : Option Nat} {T : TypeId} {w w' : World} {b : Nat} {l : List Trm} (h : Sums w b l) (hl : Lr g T w w') (hT : uT ≠ T) (hne : some b ≠ g) : Sums w' b l:=by
 obtain ⟨D,h1,h2,h3⟩:=h
 refine ⟨D,h1.kept hl.1 hne,h2,fun e he=>⟨fun hx=>?_,(h3 e he).2⟩⟩
 obtain ⟨v,hv,hr⟩:=(h3 e he).1 hx
 exact ⟨v,hv,hr.lr hl hT⟩
theorem Sums.made (w : World) : Sums (w.alloc (.map #[] 0)) w.heap.size [] :=
 ⟨.map [],World.ownsMap_made w _ _ _,(fun _ h=>absurd h (by simp)),fun e _=>⟨fun ⟨t,ht,_⟩=>absurd ht (by simp),fun _ z=>rfl⟩⟩
theorem cf_snoc (l : List Trm) (t : Trm) (e : Ex) : cf (l ++ [t]) e=cf l e + if t.1=e then t.2 else 0:=by
 rw [cf_append,cf_cons,cf_nil]; grind
theorem Sums.store {w w' : World} {b : Nat} {l : List Trm} {e : Ex} {q : Rat} {v : Value} {D : DataW Value} (hD : w.ownsMap Tryz.prog exT held b l.length D) (hin : ∀ t ∈ l,InR t.1) (he : InR e)
  (h3 : ∀ e,InR e → ((∃ t ∈ l,t.1=e) → ∃ v,(∀ z,D.atKey (exL e) z=.held v) ∧ IsRat w v (cf l e)) ∧ ((∀ t ∈ l,t.1 ≠ e) → ∀ z,D.atKey (exL e) z=z))
  (hown : w'.ownsMap Tryz.prog exT held b (l.length + 1) (D.put (exL e) (.held v))) (hg : w.grownBy w' (some b)) (hv : IsRat w v (cf (l ++ [(e,q)]) e)) : Sums w' b (l ++ [(e,q)]):=by
 have hno : NoOther w b 0:=by obtain ⟨es,clock,hb,_⟩:=hD; exact NoOther.map hb
 have hl : Lr (some b) 0 w w':=⟨hg,fun k hk=>by
  cases hk
  refine ⟨hno,?_⟩
  obtain ⟨es,clock,hb,_⟩:=hown; exact NoOther.map hb⟩
 have hkey : WideAt.IsKeyLit (exL e):=exKeyed.key (keyOf_ex he)
 refine ⟨D.put (exL e) (.held v),by rw [List.length_append]; exact hown,?_,fun f hf=>?_⟩
 ·intro t ht
  rcases List.mem_append.1 ht with ht | ht
  ·exact hin t ht
  ·simp at ht; subst ht; exact he
 ·by_cases hfe : f=e
  ·subst hfe
   refine ⟨fun _=>⟨v,fun z=>atKey_put_same (hD.isMap) hkey _ z,hv.lr hl (by decide)⟩,fun hn=>absurd rfl (hn (f,q) (by simp))⟩
  ·have hne : exL f ≠ exL e:=fun h=>hfe (exL_inj hf he h)
   have hcf : cf (l ++ [(e,q)]) f=cf l f:=by rw [cf_snoc,if_neg (fun h=>hfe h.symm)]; grind
   refine ⟨fun ⟨t,ht,hte⟩=>?_,fun hn z=>?_⟩
   ·rcases List.mem_append.1 ht with ht | ht
    ·obtain ⟨u,hu,hr⟩:=(h3 f hf).1 ⟨t,ht,hte⟩
     exact ⟨u,fun z=>by rw [atKey_put_other hne]; exact hu z,by rw [hcf]; exact hr.lr hl (by decide)⟩
    ·simp at ht; subst ht; exact absurd hte.symm hfe
   ·rw [atKey_put_other hne]
    exact (h3 f hf).2 (fun t ht=>hn t (by simp [ht])) z
theorem zero34 (w : World) : (zeroValue 41).run Tryz.prog w=.ok (.agg #[.bool false,.slice none 0 0,.bool false,.slice none 0 0]) w:=by kernel_rfl
theorem rat_agg {w : World} {v : Value} {q : Rat} (h : IsRat w v q) : ∃ n a k c n' a' k' c',v=.agg #[.bool n,.slice a k c,.bool n',.slice a' k' c']:=by
 obtain ⟨n,a,k,c,n',a',k',c',rfl,-⟩:=h; exact ⟨_,_,_,_,_,_,_,_,rfl⟩
set_option maxHeartbeats 2000000 in
set_option maxRecDepth 100000 in
theorem add_sums (b : Nat) (l : List Trm) (e : Ex) (q : Rat) (v : Value) (w : World) (hS : Sums w b l) (he : InR e) (hv : IsRat w v q) (hq : Rk q) (hcf : Rk (cf l e)) (hlen : l.length ≤ 1000000000) :
  Calls Tryz.prog 90 #[.map (some b),exV e,v] w (fun en w'=>en=.returned (.tuple #[]) ∧ Sums w' b (l ++ [(e,q)]) ∧ w.heap.size ≤ w'.heap.size ∧ w.grownBy w' (some b)):=by
 obtain ⟨D,hD,hin,h3⟩:=hS
 have hkey:=keyOf_ex he
 have hml : l.length < maxLen:=by unfold maxLen; omega
 have hbl:=hD.lt
 by_cases hex : ∃ t ∈ l,t.1=e
 ·obtain ⟨u,hu,hr⟩:=(h3 e he).1 hex
  obtain ⟨s1,a1,l1,c1,s2,a2,l2,c2,rfl⟩:=rat_agg hv
  obtain ⟨s3,a3,l3,c3,s4,a4,l4,c4,rfl⟩:=rat_agg hr
  have hhas:=has_true_of_atKey hu
  have key:=exV e
  simp only [exV,exC] at hkey ⊢
  obtain ⟨x1,hx1⟩ : ∃ x,x=e.1:=⟨_,rfl⟩
  go_enter Tryz.func90,Tryz.ntmps90
  go_upto_region 1 with (fail)
  refine abs2 fun W hb0 B1 B2 hsz=>?_
  have hDW:=hD.kept (below_grownBy hb0 none) (by simp)
  have z1:=B1.at1 0 _ rfl
  have z2:=B1.at1 1 _ rfl
  have z3:=B1.at1 2 _ rfl
  have z4:=B1.at1 3 _ rfl
  have y1:=B2.at1 0 _ rfl
  have y2:=B2.at1 1 _ rfl
  have y3:=B2.at1 2 _ rfl
  have y4:=B2.at1 3 _ rfl
  go_upto_if 14 with (at_lookup; refine wpList_lookup_own_ok _ rfl _ _ 91 rfl exT 41 exKeyed Tryz.underlying91 held (zero34 _) (.held _) [] (held_mk _ _ _ _ _ _ _ _) b l.length D rfl hDW _ _ rfl hkey ?_; intro v' ps hv'; have h9:=(held_inv hv').1; rw [hu] at h9; simp only [Prod.mk.injEq,DataW.held.injEq] at h9; obtain ⟨rfl,_⟩:=h9; rw [hhas])
  refine abs1 fun W2 hb2 B3 hsz2=>?_
  clear z1 z2 z3 z4 y1 y2 y3 y4
  have hbW:=hb0.trans (hb2.mono hb0.size)
  replace B1:=B1.on hb2
  replace B2:=B2.on hb2
  have hDW2:=hDW.kept (below_grownBy hb2 none) (by simp)
  replace hv:=hv.on hbW
  replace hr:=hr.on hbW
  have z1:=B1.at1 0 _ rfl
  have z2:=B1.at1 1 _ rfl
  have z3:=B1.at1 2 _ rfl
  have z4:=B1.at1 3 _ rfl
  have y1:=B2.at1 0 _ rfl
  have y2:=B2.at1 1 _ rfl
  have y3:=B2.at1 2 _ rfl
  have y4:=B2.at1 3 _ rfl
  have x1:=B3.at1 0 _ rfl
  have x2:=B3.at1 1 _ rfl
  have x3:=B3.at1 2 _ rfl
  have x4:=B3.at1 3 _ rfl
  go_upto_region 4 with (first
   | (go_at_call 113; refine (radd_any _ _ _ _ _ hr hv hcf hq).mono ?_; rintro en w3 ⟨v3,rfl,hv3,hb3⟩; obtain ⟨s5,a5,l5,c5,s6,a6,l6,c6,rfl⟩:=rat_agg hv3)
   | (refine wpList_store_blk rfl _ (.tmp 5) (.tmp 17) rfl _ _ _ _ rfl rfl (B2.on hb3) rfl sizeRat isRat_ones ?_; intro w4 R4 gr4))
  have hB2:=B2.on hb3
  have hl4 : Lr (some (w.heap.size + 1)) 41 w3 w4:=⟨gr4,fun k hk=>by cases hk; exact ⟨hB2.noOther,R4.noOther⟩⟩
  have hD4:=(hDW2.kept (below_grownBy hb3 none) (by simp)).kept gr4 (by simp; omega)
  have hv4:=hv3.lr hl4 (by decide)
  have hb4 : Below w.heap.size w w4:=(hbW.trans (hb3.mono hbW.size)).trans (grown_below gr4 (by have:=hb3.size; have:=hbW.size; omega) (by omega))
  have B1':=(B1.on hb3).grown gr4 (by omega)
  clear z1 z2 z3 z4 y1 y2 y3 y4 x1 x2 x3 x4 B2 hB2 B3
  have z1:=B1'.at1 0 _ rfl
  have z2:=B1'.at1 1 _ rfl
  have z3:=B1'.at1 2 _ rfl
  have z4:=B1'.at1 3 _ rfl
  have y1:=R4.at1 0 _ rfl
  have y2:=R4.at1 1 _ rfl
  have y3:=R4.at1 2 _ rfl
  have y4:=R4.at1 3 _ rfl
  go_wp2_with (at_mapUpdate; refine wpList_mapUpdate_own _ rfl _ _ _ 91 rfl exT 41 exKeyed Tryz.underlying91 held b l.length D rfl hD4 hml _ _ _ rfl rfl hkey (.held _) [] (held_mk _ _ _ _ _ _ _ _) ?_; intro w5 hown5 hg5)
  go_end0
  refine ⟨rfl,Sums.store hD4 hin he (fun f hf=>⟨fun hx=>?_,(h3 f hf).2⟩) hown5 hg5 ?_,Nat.le_trans hb4.size hg5.size,grownBy_trans (below_grownBy hb4 _) hg5⟩
  ·obtain ⟨v6,h6,h7⟩:=(h3 f hf).1 hx
   exact ⟨v6,h6,h7.on hb4⟩
  ·rw [cf_snoc,if_pos rfl]; exact hv4
 ·have hu:=(h3 e he).2 (fun t ht h=>hex ⟨t,ht,h⟩)
  have hz : cf l e=0:=cf_out (fun t ht h=>hex ⟨t,ht,h⟩)
  obtain ⟨s1,a1,l1,c1,s2,a2,l2,c2,rfl⟩:=rat_agg hv
  have hhas:=has_false_of_atKey hu
  simp only [exV,exC] at hkey ⊢
  go_enter Tryz.func90,Tryz.ntmps90
  go_upto_region 1 with (fail)
  refine abs2 fun W hb0 B1 B2 hsz=>?_
  have hDW:=hD.kept (below_grownBy hb0 none) (by simp)
  have z1:=B1.at1 0 _ rfl
  have z2:=B1.at1 1 _ rfl
  have z3:=B1.at1 2 _ rfl
  have z4:=B1.at1 3 _ rfl
  have y1:=B2.at1 0 _ rfl
  have y2:=B2.at1 1 _ rfl
  have y3:=B2.at1 2 _ rfl
  have y4:=B2.at1 3 _ rfl
  go_upto_if 14 with (at_lookup; refine wpList_lookup_own_ok _ rfl _ _ 91 rfl exT 41 exKeyed Tryz.underlying91 held (zero34 _) (.held _) [] (held_mk _ _ _ _ _ _ _ _) b l.length D rfl hDW _ _ rfl hkey ?_; intro v' ps hv'; have h9:=(held_inv hv').1; rw [hu] at h9; simp only [Prod.mk.injEq,DataW.held.injEq] at h9; obtain ⟨rfl,_⟩:=h9; rw [hhas])
  refine abs1 fun W2 hb2 B3 hsz2=>?_
  clear z1 z2 z3 z4 y1 y2 y3 y4
  have hbW:=hb0.trans (hb2.mono hb0.size)
  replace B1:=B1.on hb2
  replace B2:=B2.on hb2
  have hD4:=hDW.kept (below_grownBy hb2 none) (by simp)
  replace hv:=hv.on hbW
  have z1:=B1.at1 0 _ rfl
  have z2:=B1.at1 1 _ rfl
  have z3:=B1.at1 2 _ rfl
  have z4:=B1.at1 3 _ rfl
  have y1:=B2.at1 0 _ rfl
  have y2:=B2.at1 1 _ rfl
  have y3:=B2.at1 2 _ rfl
  have y4:=B2.at1 3 _ rfl
  go_wp2_with (at_mapUpdate; refine wpList_mapUpdate_own _ rfl _ _ _ 91 rfl exT 41 exKeyed Tryz.underlying91 held b l.length D rfl hD4 hml _ _ _ rfl rfl hkey (.held _) [] (held_mk _ _ _ _ _ _ _ _) ?_; intro w5 hown5 hg5)
  go_end0
  refine ⟨rfl,Sums.store hD4 hin he (fun f hf=>⟨fun hx=>?_,(h3 f hf).2⟩) hown5 hg5 ?_,Nat.le_trans hbW.size hg5.size,grownBy_trans (below_grownBy hbW _) hg5⟩
  ·obtain ⟨v6,h6,h7⟩:=(h3 f hf).1 hx
   exact ⟨v6,h6,h7.on hbW⟩
  ·rw [cf_snoc,if_pos rfl,hz,Rat.zero_add]; exact hv
end Go.Proofs.YtopclbeomcggiaaGreat
