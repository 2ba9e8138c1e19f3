/- The map of the sums of coefficients: representation; mpoly.add. -/
import Derived.Test.YtopclbeomcggiaaGreatW20
import Derived.Test.YtopclbeomcggiaaGreatW22
import Derived.Maps.Ext
set_option linter.unusedVariables false
set_option linter.unusedSimpArgs false
set_option maxHeartbeats 16000000
set_option maxRecDepth 100000
section
namespace Go.Proofs.YtopclbeomcggiaaGreat
open Go.RowKit Q Go.WideMaps Go.Maps
abbrev JK:TypeId:=36
theorem qC:ArrKey Tryz.prog JK 3 4:=⟨Tryz.underlying36,by kernel_rfl,by kernel_rfl,by kernel_rfl⟩
theorem nL:Keyed Tryz.prog JK:=Keyed.of_law qC.law
def InR (e:Ex):Prop:=(Lit.int .i64 e.1).wf=true/\(Lit.int .i64 e.2.1).wf=true/\(Lit.int .i64 e.2.2.1).wf=true/\(Lit.int .i64 e.2.2.2).wf=true
theorem SA {n:Int} (h1:-9223372036854775808<=n) (h2:n<=9223372036854775807):(Lit.int .i64 n).wf=true:=WalkArith.wf_i64 ⟨h1,h2⟩
theorem InR.of {e:Ex} {K:Nat} (hK:K<=9223372036854775807) (h:-(K:Int)<=e.1/\e.1<=K/\-(K:Int)<=e.2.1/\e.2.1<=K/\-(K:Int)<=e.2.2.1/\e.2.2.1<=K/\-(K:Int)<=e.2.2.2/\e.2.2.2<=K):InR e :=
 ⟨SA (by omega) (by omega),SA (by omega) (by omega),SA (by omega) (by omega),SA (by omega) (by omega)⟩
def NE (e:Ex):Value:=.agg (bR e).toArray
def zt (e:Ex):Lit:=.string (keyBytes [.int .i64 e.1,.int .i64 e.2.1,.int .i64 e.2.2.1,.int .i64 e.2.2.2])
theorem sO {e:Ex} (h:InR e):keyOf Tryz.prog JK (NE e)=some (zt e):=by
 obtain⟨h1,h2,h3,h4⟩:=h;have hkt:Tryz.prog.keyType JK=true:=by kernel_rfl
 obtain⟨m,hm⟩:∃ m,Tryz.prog.types.size=m+1:=⟨Tryz.prog.types.size - 1,by
  have:0<Tryz.prog.types.size:=of_decide_eq_true (by kernel_rfl)
  omega⟩
 unfold keyOf;simp only [qC.hu];rw [if_pos (by simp [hkt,Value.formed,qC.hu,qC.size,NE,bR]),hm];unfold Program.keyLits;simp only [qC.hu,Value.cells,NE,bR];rw [if_pos (by rw [qC.size];rfl),show List.range 4=[0,1,2,3] from rfl];simp [qC.one,Program.keyLits,Tryz.underlying3,h1,h2,h3,h4,zt]
theorem vZ {key:Value} {kl:Lit} (h:keyOf Tryz.prog JK key=some kl):∃ e,key=NE e/\InR e/\kl=zt e:=by
 obtain⟨m,hm⟩:∃ m,Tryz.prog.types.size=m+1:=⟨Tryz.prog.types.size - 1,by
  have:0<Tryz.prog.types.size:=of_decide_eq_true (by kernel_rfl)
  omega⟩
 unfold keyOf at h;simp only [qC.hu] at h;split at h
 ·rename_i hf;simp only [Bool.and_eq_true] at hf;have hf2:=hf.2;simp only [Value.formed,qC.hu,qC.size] at hf2
  cases key with
  | agg cs =>
   simp at hf2;obtain⟨l⟩:=cs
   match l,hf2 with
   | [a,b,c,d],_ =>
    rw [hm] at h;unfold Program.keyLits at h;simp only [qC.hu,Value.cells] at h;rw [if_pos (by rw [qC.size];rfl),show List.range 4=[0,1,2,3] from rfl] at h;simp only [List.mapM_cons,List.mapM_nil,qC.one,Option.map_eq_some_iff,bind,Option.bind_eq_some_iff,pure,Option.some.injEq] at h;obtain⟨ls,⟨xs,⟨y0,k0,r0,⟨y1,k1,r1,⟨y2,k2,r2,⟨y3,k3,r3,rfl,rfl⟩,rfl⟩,rfl⟩,rfl⟩,rfl⟩,rfl⟩:=h
    have one:∀ {v:Value} {ys:List Lit},Tryz.prog.keyLits (m+1) 3 [v]=some ys->∃ n,v=.int .i64 n/\ys=[.int .i64 n]/\(Lit.int .i64 n).wf=true:=by
     intro v ys hv;unfold Program.keyLits at hv;simp only [Tryz.underlying3] at hv;cases v <;> simp at hv;obtain⟨⟨rfl,hw⟩,rfl⟩:=hv;exact⟨_,rfl,rfl,hw⟩
    obtain⟨n0,rfl,rfl,w0⟩:=one (v:=a) (by simpa using k0);obtain⟨n1,rfl,rfl,w1⟩:=one (v:=b) (by simpa using k1);obtain⟨n2,rfl,rfl,w2⟩:=one (v:=c) (by simpa using k2);obtain⟨n3,rfl,rfl,w3⟩:=one (v:=d) (by simpa using k3);exact⟨(n0,n1,n2,n3),rfl,⟨w0,w1,w2,w3⟩,rfl⟩
  | _=>simp at hf2
 ·cases h
theorem LG {e f:Ex} (h:NE e=NE f):e=f:=by
 have h':bR e=bR f:=by
  simp only [NE,Value.agg.injEq] at h;exact Array.toList_inj.2 h
 simp only [bR,List.cons.injEq,Value.int.injEq,true_and,and_true] at h';exact Ex.ext' h'.1 h'.2.1 h'.2.2.1 h'.2.2.2
theorem LH {e f:Ex} (he:InR e) (hf:InR f) (h:zt e=zt f):e=f :=
 LG (nL.inj (sO he) (by rw [h];exact sO hf))
def Hf:Value->Bool
 | .agg cs=>match cs.toList with
  | [.bool _,.slice _ _ _,.bool _,.slice _ _ _]=>true
  | _=>false
 | _=>false
def held (v:Value):Option (DataW Value × List MemPlace):=if Hf v=true then some (.held v,[]) else none
theorem zK (n n':Bool) (a a':Option Addr) (k c k' c':Nat):held (.agg #[.bool n,.slice a k c,.bool n',.slice a' k' c'])=some (.held (.agg #[.bool n,.slice a k c,.bool n',.slice a' k' c']),[]):=rfl
theorem wh {v:Value} {y:DataW Value × List MemPlace} (h:held v=some y):y=(.held v,[])/\∃ n a k c n' a' k' c',v=.agg #[.bool n,.slice a k c,.bool n',.slice a' k' c']:=by
 unfold held at h;split at h
 ·rename_i hs;cases h;refine⟨rfl,?_⟩;unfold Hf at hs;split at hs
  ·rename_i cs;split at hs
   ·rename_i h2;obtain⟨l⟩:=cs;simp only at h2;subst h2;exact⟨_,_,_,_,_,_,_,_,rfl⟩
   ·cases hs
  ·cases hs
 ·cases h
def kJ (w:World) (b:Nat) (l:List ai):Prop:=∃ D,w.ownsMap Tryz.prog JK held b l.length D/\(∀ t∈l,InR t.1) /\
 ∀ e,InR e->((∃ t∈l,t.1=e)->∃ v,(∀ z,D.atKey (zt e) z=.held v)/\bV w v (cf l e))/\((∀ t∈l,t.1≠e)->∀ z,D.atKey (zt e) z=z)
theorem kJ.lt {w:World} {b:Nat} {l:List ai} (h:kJ w b l):b<w.heap.size:=let ⟨_,h,_⟩:=h;h.lt
theorem kJ.on {w w':World} {b:Nat} {l:List ai} (h:kJ w b l) (hb:Below w.heap.size w w'):kJ w' b l:=by
 obtain⟨D,h1,h2,h3⟩:=h;refine⟨D,h1.kept (bT hb none) (by simp),h2,fun e he=>⟨fun hx=>?_,(h3 e he).2⟩⟩;obtain⟨v,hv,hr⟩:=(h3 e he).1 hx;exact⟨v,hv,hr.on hb⟩
theorem kJ.lr {g:Option Nat} {T:TypeId} {w w':World} {b:Nat} {l:List ai} (h:kJ w b l) (hl:Lr g T w w') (hT:uT≠T) (hne:some b≠g):kJ w' b l:=by
 obtain⟨D,h1,h2,h3⟩:=h;refine⟨D,h1.kept hl.1 hne,h2,fun e he=>⟨fun hx=>?_,(h3 e he).2⟩⟩;obtain⟨v,hv,hr⟩:=(h3 e he).1 hx;exact⟨v,hv,hr.lr hl hT⟩
theorem kJ.made (w:World):kJ (w.alloc (.map #[] 0)) w.heap.size [] :=
 ⟨.map [],World.ownsMap_made w _ _ _,(fun _ h=>absurd h (by simp)),fun e _=>⟨fun⟨t,ht,_⟩=>absurd ht (by simp),fun _ z=>rfl⟩⟩
theorem Fj (l:List ai) (t:ai) (e:Ex):cf (l++[t]) e=cf l e+if t.1=e then t.2 else 0:=by
 rw [nV,bG,jd];grind
theorem kJ.store {w w':World} {b:Nat} {l:List ai} {e:Ex} {q:Rat} {v:Value} {D:DataW Value} (hD:w.ownsMap Tryz.prog JK held b l.length D) (hin:∀ t∈l,InR t.1) (he:InR e)
  (h3:∀ e,InR e->((∃ t∈l,t.1=e)->∃ v,(∀ z,D.atKey (zt e) z=.held v)/\bV w v (cf l e))/\((∀ t∈l,t.1≠e)->∀ z,D.atKey (zt e) z=z))
  (hown:w'.ownsMap Tryz.prog JK held b (l.length+1) (D.put (zt e) (.held v))) (hg:w.grownBy w' (some b)) (hv:bV w v (cf (l++[(e,q)]) e)):kJ w' b (l++[(e,q)]):=by
 have hno:jW w b 0:=by obtain⟨es,clock,hb,_⟩:=hD;exact jW.map hb
 have hl:Lr (some b) 0 w w':=⟨hg,fun k hk=>by
  cases hk;refine⟨hno,?_⟩
  obtain⟨es,clock,hb,_⟩:=hown;exact jW.map hb⟩
 have hkey:WideAt.IsKeyLit (zt e):=nL.key (sO he);refine⟨D.put (zt e) (.held v),by rw [List.length_append];exact hown,?_,fun f hf=>?_⟩
 ·intro t ht;rcases List.mem_append.1 ht with ht|ht
  ·exact hin t ht
  ·simp at ht;subst ht;exact he
 ·by_cases hfe:f=e
  ·subst hfe;refine⟨fun _=>⟨v,fun z=>atKey_put_same (hD.isMap) hkey _ z,hv.lr hl (by decide)⟩,fun hn=>absurd rfl (hn (f,q) (by simp))⟩
  ·have hne:zt f≠zt e:=fun h=>hfe (LH hf he h);have hcf:cf (l++[(e,q)]) f=cf l f:=by rw [Fj,if_neg (fun h=>hfe h.symm)];grind
   refine⟨fun⟨t,ht,hte⟩=>?_,fun hn z=>?_⟩
   ·rcases List.mem_append.1 ht with ht|ht
    ·obtain⟨u,hu,hr⟩:=(h3 f hf).1 ⟨t,ht,hte⟩;exact⟨u,fun z=>by rw [atKey_put_other hne];exact hu z,by rw [hcf];exact hr.lr hl (by decide)⟩
    ·simp at ht;subst ht;exact absurd hte.symm hfe
   ·rw [atKey_put_other hne];exact (h3 f hf).2 (fun t ht=>hn t (by simp [ht])) z
theorem PL (w:World):(zeroValue 41).run Tryz.prog w=.ok (.agg #[.bool false,.slice none 0 0,.bool false,.slice none 0 0]) w:=by kernel_rfl
theorem fQ {w:World} {v:Value} {q:Rat} (h:bV w v q):∃ n a k c n' a' k' c',v=.agg #[.bool n,.slice a k c,.bool n',.slice a' k' c']:=by
 obtain⟨n,a,k,c,n',a',k',c',rfl,-⟩:=h;exact⟨_,_,_,_,_,_,_,_,rfl⟩
theorem Hg (b:Nat) (l:List ai) (e:Ex) (q:Rat) (v:Value) (w:World) (hS:kJ w b l) (he:InR e) (hv:bV w v q) (hq:Rk q) (hcf:Rk (cf l e)) (hlen:l.length<=1000000000) :
  Calls Tryz.prog 90 #[.map (some b),NE e,v] w (fun en w'=>en=.returned (.tuple #[])/\kJ w' b (l++[(e,q)])/\w.heap.size<=w'.heap.size/\w.grownBy w' (some b)):=by
 obtain⟨D,hD,hin,h3⟩:=hS;have hkey:=sO he;have hml:l.length<maxLen:=by unfold maxLen;omega
 have hbl:=hD.lt;by_cases hex:∃ t∈l,t.1=e
 ·obtain⟨u,hu,hr⟩:=(h3 e he).1 hex;obtain⟨s1,a1,l1,c1,s2,a2,l2,c2,rfl⟩:=fQ hv;obtain⟨s3,a3,l3,c3,s4,a4,l4,c4,rfl⟩:=fQ hr;have hhas:=has_true_of_atKey hu;have key:=NE e;simp only [NE,bR] at hkey ⊢;obtain⟨x1,hx1⟩:∃ x,x=e.1:=⟨_,rfl⟩
  go_enter Tryz.func90,Tryz.ntmps90
  go_upto_region 1 with (fail)
  refine xm fun W hb0 B1 B2 hsz=>?_;have hDW:=hD.kept (bT hb0 none) (by simp);have z1:=B1.at1 0 _ rfl;have z2:=B1.at1 1 _ rfl;have z3:=B1.at1 2 _ rfl;have z4:=B1.at1 3 _ rfl;have y1:=B2.at1 0 _ rfl;have y2:=B2.at1 1 _ rfl;have y3:=B2.at1 2 _ rfl;have y4:=B2.at1 3 _ rfl
  go_upto_if 14 with (at_lookup;refine wpList_lookup_own_ok _ rfl _ _ 91 rfl JK 41 nL Tryz.underlying91 held (PL _) (.held _) [] (zK _ _ _ _ _ _ _ _) b l.length D rfl hDW _ _ rfl hkey ?_;intro v' ps hv';have h9:=(wh hv').1;rw [hu] at h9;simp only [Prod.mk.injEq,DataW.held.injEq] at h9;obtain⟨rfl,_⟩:=h9;rw [hhas])
  refine jI fun W2 hb2 B3 hsz2=>?_;clear z1 z2 z3 z4 y1 y2 y3 y4;have hbW:=hb0.trans (hb2.mono hb0.size);replace B1:=B1.on hb2;replace B2:=B2.on hb2;have hDW2:=hDW.kept (bT hb2 none) (by simp);replace hv:=hv.on hbW;replace hr:=hr.on hbW;have z1:=B1.at1 0 _ rfl;have z2:=B1.at1 1 _ rfl;have z3:=B1.at1 2 _ rfl;have z4:=B1.at1 3 _ rfl;have y1:=B2.at1 0 _ rfl;have y2:=B2.at1 1 _ rfl;have y3:=B2.at1 2 _ rfl;have y4:=B2.at1 3 _ rfl;have x1:=B3.at1 0 _ rfl;have x2:=B3.at1 1 _ rfl;have x3:=B3.at1 2 _ rfl;have x4:=B3.at1 3 _ rfl
  go_upto_region 4 with (first
   | (go_at_call 113;refine (GH _ _ _ _ _ hr hv hcf hq).mono ?_;rintro en w3 ⟨v3,rfl,hv3,hb3⟩;obtain⟨s5,a5,l5,c5,s6,a6,l6,c6,rfl⟩:=fQ hv3)
   | (refine aA rfl _ (.tmp 5) (.tmp 17) rfl _ _ _ _ rfl rfl (B2.on hb3) rfl dL dQ ?_;intro w4 R4 gr4))
  have hB2:=B2.on hb3;have hl4:Lr (some (w.heap.size+1)) 41 w3 w4:=⟨gr4,fun k hk=>by cases hk;exact⟨hB2.noOther,R4.noOther⟩⟩;have hD4:=(hDW2.kept (bT hb3 none) (by simp)).kept gr4 (by simp;omega);have hv4:=hv3.lr hl4 (by decide);have hb4:Below w.heap.size w w4:=(hbW.trans (hb3.mono hbW.size)).trans (aM gr4 (by have:=hb3.size;have:=hbW.size;omega) (by omega));have B1':=(B1.on hb3).grown gr4 (by omega);clear z1 z2 z3 z4 y1 y2 y3 y4 x1 x2 x3 x4 B2 hB2 B3;have z1:=B1'.at1 0 _ rfl;have z2:=B1'.at1 1 _ rfl;have z3:=B1'.at1 2 _ rfl;have z4:=B1'.at1 3 _ rfl;have y1:=R4.at1 0 _ rfl;have y2:=R4.at1 1 _ rfl;have y3:=R4.at1 2 _ rfl;have y4:=R4.at1 3 _ rfl
  go_wp2_with (at_mapUpdate;refine wpList_mapUpdate_own _ rfl _ _ _ 91 rfl JK 41 nL Tryz.underlying91 held b l.length D rfl hD4 hml _ _ _ rfl rfl hkey (.held _) [] (zK _ _ _ _ _ _ _ _) ?_;intro w5 hown5 hg5)
  go_end0
  refine⟨rfl,kJ.store hD4 hin he (fun f hf=>⟨fun hx=>?_,(h3 f hf).2⟩) hown5 hg5 ?_,Nat.le_trans hb4.size hg5.size,pW (bT hb4 _) hg5⟩
  ·obtain⟨v6,h6,h7⟩:=(h3 f hf).1 hx;exact⟨v6,h6,h7.on hb4⟩
  ·rw [Fj,if_pos rfl];exact hv4
 ·have hu:=(h3 e he).2 (fun t ht h=>hex ⟨t,ht,h⟩);have hz:cf l e=0:=mZ (fun t ht h=>hex ⟨t,ht,h⟩);obtain⟨s1,a1,l1,c1,s2,a2,l2,c2,rfl⟩:=fQ hv;have hhas:=has_false_of_atKey hu;simp only [NE,bR] at hkey ⊢
  go_enter Tryz.func90,Tryz.ntmps90
  go_upto_region 1 with (fail)
  refine xm fun W hb0 B1 B2 hsz=>?_;have hDW:=hD.kept (bT hb0 none) (by simp);have z1:=B1.at1 0 _ rfl;have z2:=B1.at1 1 _ rfl;have z3:=B1.at1 2 _ rfl;have z4:=B1.at1 3 _ rfl;have y1:=B2.at1 0 _ rfl;have y2:=B2.at1 1 _ rfl;have y3:=B2.at1 2 _ rfl;have y4:=B2.at1 3 _ rfl
  go_upto_if 14 with (at_lookup;refine wpList_lookup_own_ok _ rfl _ _ 91 rfl JK 41 nL Tryz.underlying91 held (PL _) (.held _) [] (zK _ _ _ _ _ _ _ _) b l.length D rfl hDW _ _ rfl hkey ?_;intro v' ps hv';have h9:=(wh hv').1;rw [hu] at h9;simp only [Prod.mk.injEq,DataW.held.injEq] at h9;obtain⟨rfl,_⟩:=h9;rw [hhas])
  refine jI fun W2 hb2 B3 hsz2=>?_;clear z1 z2 z3 z4 y1 y2 y3 y4;have hbW:=hb0.trans (hb2.mono hb0.size);replace B1:=B1.on hb2;replace B2:=B2.on hb2;have hD4:=hDW.kept (bT hb2 none) (by simp);replace hv:=hv.on hbW;have z1:=B1.at1 0 _ rfl;have z2:=B1.at1 1 _ rfl;have z3:=B1.at1 2 _ rfl;have z4:=B1.at1 3 _ rfl;have y1:=B2.at1 0 _ rfl;have y2:=B2.at1 1 _ rfl;have y3:=B2.at1 2 _ rfl;have y4:=B2.at1 3 _ rfl
  go_wp2_with (at_mapUpdate;refine wpList_mapUpdate_own _ rfl _ _ _ 91 rfl JK 41 nL Tryz.underlying91 held b l.length D rfl hD4 hml _ _ _ rfl rfl hkey (.held _) [] (zK _ _ _ _ _ _ _ _) ?_;intro w5 hown5 hg5)
  go_end0
  refine⟨rfl,kJ.store hD4 hin he (fun f hf=>⟨fun hx=>?_,(h3 f hf).2⟩) hown5 hg5 ?_,Nat.le_trans hbW.size hg5.size,pW (bT hbW _) hg5⟩
  ·obtain⟨v6,h6,h7⟩:=(h3 f hf).1 hx;exact⟨v6,h6,h7.on hbW⟩
  ·rw [Fj,if_pos rfl,hz,Rat.zero_add];exact hv
abbrev TC:=Ex × (Bool × Option Addr × Nat × Nat) × (Bool × Option Addr × Nat × Nat)
def jg (x:TC):List Value:=bR x.1++[.bool x.2.1.1,.slice x.2.1.2.1 x.2.1.2.2.1 x.2.1.2.2.2,.bool x.2.2.1,.slice x.2.2.2.1 x.2.2.2.2.1 x.2.2.2.2.2]
theorem oG (x:TC):(jg x).length=8:=rfl
theorem PM (x:TC):∀ v∈jg x,v.oneCell'=true:=by
 intro v hv;simp only [jg,bR,List.cons_append,List.nil_append,List.mem_cons,List.not_mem_nil,or_false] at hv;rcases hv with rfl|rfl|rfl|rfl|rfl|rfl|rfl|rfl <;> rfl
def V9 (w:World) (x:TC) (t:ai):Prop:=x.1=t.1/\aZ w x.2.1.1 (.slice x.2.1.2.1 x.2.1.2.2.1 x.2.1.2.2.2) t.2.num/\aZ w x.2.2.1 (.slice x.2.2.2.1 x.2.2.2.2.1 x.2.2.2.2.2) (t.2.den:Int)
theorem V9.term {w:World} {x:TC} {t:ai} (h:V9 w x t):qf w (jg x) t:=by
 obtain⟨h1,h2,h3⟩:=h;exact⟨_,by rw [jg,h1],_,_,_,_,_,_,_,_,rfl,h2,h3⟩
theorem UR {w:World} {cs:List Value} {t:ai} (h:qf w cs t):∃ x,cs=jg x/\V9 w x t:=by
 obtain⟨r,rfl,n,a,k,c,n',a',k',c',rfl,h1,h2⟩:=h;exact⟨(t.1,(n,a,k,c),(n',a',k',c')),rfl,rfl,h1,h2⟩
inductive uF (w:World):List TC->List ai->Prop
 | nil:uF w [] []
 | cons {x t d l}:V9 w x t->uF w d l->uF w (x::d) (t::l)
theorem LJ {w:World}:∀ {l:List ai} {xs:List Value},dS qf w xs l->∃ d,xs=d.flatMap jg/\uF w d l
 | [],xs,h=>⟨[],by unfold dS at h;subst h;rfl,.nil⟩
 | t::l,xs,⟨c,r,h1,hc,hr⟩=>by
  obtain⟨x,rfl,hx⟩:=UR hc;obtain⟨d,rfl,hd⟩:=LJ hr;exact⟨x::d,by rw [h1];rfl,.cons hx hd⟩
theorem uF.length {w:World} {d:List TC} {l:List ai} (h:uF w d l):d.length=l.length:=by
 induction h with
 | nil=>rfl
 | cons _ _ ih=>simp [ih]
theorem uF.elems {w:World} {d:List TC} {l:List ai} (h:uF w d l):dS qf w (d.flatMap jg) l:=by
 induction h with
 | nil=>rfl
 | cons hx _ ih=>exact⟨_,_,rfl,hx.term,ih⟩
theorem uF.perm {w:World} {d d':List TC} (hp:d.Perm d'):∀ {l:List ai},uF w d l->∃ l',l.Perm l'/\uF w d' l':=by
 induction hp with
 | nil=>intro l h;exact⟨l,.refl _,h⟩
 | cons x _ ih =>
  intro l h
  cases h with
  | cons hx h=>obtain⟨l',h1,h2⟩:=ih h;exact⟨_::l',h1.cons _,.cons hx h2⟩
 | swap x y d =>
  intro l h
  cases h with
  | cons hx h=>cases h with
   | cons hy h=>exact⟨_,.swap _ _ _,.cons hy (.cons hx h)⟩
 | trans _ _ ih1 ih2 =>
  intro l h;obtain⟨l1,h1,h2⟩:=ih1 h;obtain⟨l2,h3,h4⟩:=ih2 h2;exact⟨l2,h1.trans h3,h4⟩
theorem wm (d:List TC):(Go.Sort.flatK jg 8 d.toArray).toList=d.flatMap jg:=by
 apply List.ext_getElem?;intro j
 have hlen:∀ d:List TC,(d.flatMap jg).length=d.length*8:=by
  intro d;induction d with
  | nil=>rfl
  | cons x d ih=>rw [List.flatMap_cons,List.length_append,ih,oG,List.length_cons];omega
 have hget:∀ (d:List TC) (j:Nat),j<d.length*8->(d.flatMap jg)[j]?=some ((jg d[j / 8]!)[j % 8]!):=by
  intro d
  induction d with
  | nil=>intro j h;simp at h
  | cons x d ih =>
   intro j h;rw [List.flatMap_cons];by_cases hj:j<8
   ·rw [List.getElem?_append_left (by rw [oG];exact hj),Nat.div_eq_of_lt hj,Nat.mod_eq_of_lt hj];simp only [List.getElem!_cons_zero];rw [List.getElem?_eq_getElem (by rw [oG];exact hj),getElem!_pos (jg x) j (by rw [oG];exact hj)]
   ·rw [List.getElem?_append_right (by rw [oG];omega),oG,ih (j-8) (by simp at h;omega)];rw [show j / 8=(j-8) / 8+1 by omega,show j % 8=(j-8) % 8 by omega];simp only [List.getElem!_cons_succ]
 by_cases hj:j<d.length*8
 ·rw [hget d j hj];have hsz:j<(Go.Sort.flatK jg 8 d.toArray).size:=by simpa using hj
  rw [Array.getElem?_toList,Array.getElem?_eq_getElem hsz];have:=Go.Sort.get_flatK jg 8 d.toArray j (by simpa using hj);rw [getElem!_pos (Go.Sort.flatK jg 8 d.toArray) j hsz] at this;rw [this];simp
 ·rw [List.getElem?_eq_none (by simp;omega),List.getElem?_eq_none (by rw [hlen];omega)]
def SB (x y:TC):Int:=uV y.1 x.1
theorem Xp (x y:TC):ltOf SB x y=x.1.gt y.1:=by
 unfold ltOf SB;rcases Bc y.1 x.1 with ⟨h,h'⟩|⟨h,h'⟩|⟨h,h'⟩
 ·rw [h',Ex.gt_asymm h];rfl
 ·rw [h',h];rfl
 ·rw [h',h,Ex.gt_irrefl];rfl
theorem Wd:Go.Sort.SWO (ltOf SB) where
 irrefl x:=by rw [Xp];exact Ex.gt_irrefl _
 trans x y z h1 h2:=by rw [Xp] at *;exact Ex.gt_trans h1 h2
 ntrans x y z h1 h2:=by
  rw [Xp] at *;by_cases e1:x.1=y.1
  ·rw [e1];exact h2
  ·by_cases e2:y.1=z.1
   ·rw [<- e2];exact h1
   ·exact Ex.gt_asymm (Ex.gt_trans (Ex.gt_total h2 e2) (Ex.gt_total h1 e1))
theorem JL (x y:TC) (w:World):Calls Tryz.prog 116 #[.agg (jg x).toArray,.agg (jg y).toArray] w (fun en w'=>en=.returned (.int .i64 (SB x y))/\Gr w w'):=by
 obtain⟨⟨x1,x2,x3,x4⟩,⟨n1,a1,k1,c1⟩,n2,a2,k2,c2⟩:=x;obtain⟨⟨y1,y2,y3,y4⟩,⟨m1,b1,j1,d1⟩,m2,b2,j2,d2⟩:=y;have hc:=fun W=>Be (y1,y2,y3,y4) (x1,x2,x3,x4) W;simp only [jg,bR,List.cons_append,List.nil_append,SB] at hc ⊢;generalize uV (y1,y2,y3,y4) (x1,x2,x3,x4)=r at hc ⊢
 go_enter Tryz.func116,Tryz.ntmps116
 go_wp2_with (go_at_call 117;refine (hc _).mono ?_;rintro e w' ⟨rfl,hg⟩)
 go_ret;exact⟨rfl,((Gr.alloc _ _).trans (Gr.alloc _ _)).trans hg⟩
theorem PN (blk off size:Nat) (w:World):CmpLays Tryz.prog 116 #[] jg 8 SB blk off size w:=fun _ _ _ _ x y=>JL x y _
theorem CR {w:World} {g n:Nat} {cur:Array Value} {d':Array TC} {os:Array Obj} (hg:w.heap[g]?=some (.cells cur aN (0,0))) :
  (sortWorldK jg 8 w g 0 n d' os).heap[g]?=some (.cells (Go.Sort.putCells id 0 (Go.Sort.flatK jg 8 d') cur) aN (0,0))/\w.grownBy (sortWorldK jg 8 w g 0 n d' os) (some g):=by
 have hlt:=qU hg;refine⟨?_,rfl,rfl,rfl,by simp [sortWorldK,Go.Sort.grow,Go.Sort.putRowK,Go.Sort.putRow,Go.Sort.mapBlock,Go.Sort.ahead],fun k hk hne=>?_⟩
 ·simp only [sortWorldK,Go.Sort.grow,Go.Sort.putRowK,Go.Sort.putRow,Go.Sort.mapBlock,Go.Sort.ahead];rw [Array.getElem?_append_left (by simpa using hlt),Array.getElem?_modify,if_pos rfl,hg]
  rfl
 ·simp only [sortWorldK,Go.Sort.grow,Go.Sort.putRowK,Go.Sort.putRow,Go.Sort.mapBlock,Go.Sort.ahead];rw [Array.getElem?_append_left (by simpa using hk),Array.getElem?_modify,if_neg (fun e=>hne (by rw [e]))]
theorem CU {w:World} {D:List TC} {l:List ai} (h:uF w D l) (hp:D.Pairwise (fun x y=>y.1.gt x.1=false)):l.Pairwise (fun s t=>t.1.gt s.1=false):=by
 induction h with
 | nil=>exact .nil
 | cons hx hr ih =>
  obtain⟨h1,h2⟩:=List.pairwise_cons.1 hp;refine List.pairwise_cons.2 ⟨fun t ht=>?_,ih h2⟩
  have:∀ {D:List TC} {l:List ai},uF w D l->∀ t∈l,∃ x∈D,V9 w x t:=by
   intro D l h
   induction h with
   | nil=>simp
   | cons hx _ ih =>
    intro y hy;rcases List.mem_cons.1 hy with rfl|hy
    ·exact⟨_,by simp,hx⟩
    ·obtain⟨t,ht,h⟩:=ih y hy;exact⟨t,by simp [ht],h⟩
  obtain⟨y,hy,ho⟩:=this hr t ht;rw [<- ho.1,<- hx.1];exact h1 y hy
theorem uF.lr {g:Option Nat} {T:TypeId} {w w':World} {d:List TC} {l:List ai} (h:uF w d l) (hl:Lr g T w w') (hT:uT≠T):uF w' d l:=by
 induction h with
 | nil=>exact .nil
 | cons hx _ ih=>exact .cons ⟨hx.1,hx.2.1.lr hl hT,hx.2.2.lr hl hT⟩ ih
theorem PO (base:Nat) (v:Value) (l:List ai) (w:World) (ho:cK base w v l) (hne:v≠.slice none 0 0) (hlen:l.length<=1000000000) :
  Calls Tryz.prog 115 #[v,.func (.func 116) #[] #[]] w (fun en w'=>en=.returned (.tuple #[])/\∃ l',l.Perm l'/\l'.Pairwise (fun s t=>t.1.gt s.1=false)/\cK base w' v l'/\Lr v.ownBlock aN w w'):=by
 obtain⟨xs,⟨hxl,hrow⟩,hex⟩:=ho;rcases hrow with ⟨h0,_⟩|⟨g,cap,cur,rfl,hbg,hg,hnc,hcm,hcs,htk⟩
 ·exact absurd h0 hne
 obtain⟨d,rfl,hd⟩:=LJ hex;have hdl:=hd.length;have eg:∀ args w,(callFunc 116 args).run Tryz.prog w=.ok (.enter 116 args) w:=enters_of Tryz.func116 (by kernel_rfl) rfl
 have hH:Go.Sort.HoldsK jg 8 w g 0 d.toArray:=by
  intro j hj;rw [Go.Sort.size_flatK] at hj
  have e1:(Go.Sort.flatK jg 8 d.toArray)[j]! = (d.flatMap jg)[j]!:=by
   rw [<- wm d];have hsz:j<(Go.Sort.flatK jg 8 d.toArray).size:=by rw [Go.Sort.size_flatK];exact hj
   rw [getElem!_pos (Go.Sort.flatK jg 8 d.toArray) j hsz,getElem!_pos (Go.Sort.flatK jg 8 d.toArray).toList j (by simpa using hsz)];simp
  have hjl:j<(d.flatMap jg).length:=by rw [hxl];simpa [hdl,aO] using hj
  refine⟨?_,by rw [Nat.zero_add];exact frozen_of_row w g j cur aN hg⟩;rw [Nat.zero_add,cell_of_row w g j cur aN (0,0) hg];show _=some (Go.Sort.flatK jg 8 d.toArray)[j]!;rw [e1,getElem!_pos (d.flatMap jg) j hjl,<- List.getElem?_eq_getElem hjl,<- htk,List.getElem?_take,if_pos (by rw [hxl] at hjl;exact hjl)];simp
 have hlt:g<w.heap.size:=qU hg;have hdsz:d.toArray.size=l.length:=by simp [hdl]
 have hlim:Go.Lib.bitLen d.toArray.size<4611686018427387904:=Nat.lt_of_le_of_lt (Go.Lib.bitLen_le d.toArray.size 62 (by omega) (by omega)) (by omega);have hp:=AnyQ.pdqsortCmpFunc_all O9 8 Tryz.isAgg43 Tryz.sizeOf43 jg SB 116 #[] Wd g 0 cap d.toArray w eg (PN g 0 _ w) ⟨oG,PM,hH,hlt⟩ (d.toArray.size+1) 0 d.toArray.size (Go.Lib.bitLen d.toArray.size) d.toArray w (by omega) rfl (SWK.start hH) (Nat.zero_le _) (Nat.le_refl _) (by omega) hlim (Or.inl rfl);have hs:=Go.Sort.pdq_sorts (ltOf SB) Wd d.toArray 0 d.toArray.size (Go.Lib.bitLen d.toArray.size) true true (Nat.zero_le _) (Nat.le_refl _) (Or.inl rfl);have hb:=Any.bits_Len Gw (d.toArray.size:Int) w (by omega) (by omega);rw [Int.toNat_natCast] at hb;change Calls Tryz.prog 134 _ _ _ at hb;change Calls Tryz.prog 133 _ _ _ at hp;generalize Go.Sort.pdq (ltOf SB) d.toArray 0 d.toArray.size (Go.Lib.bitLen d.toArray.size) true true=d' at hp hs;generalize Go.Lib.bitLen d.toArray.size=bl at hp hb hlim;rw [hdsz] at hp hb;replace hs:=zH hs;replace hH:=zH hH;replace hd:=zH hd;clear eg hex htk;have wr:IntKind.u64.wrap (l.length:Int)=l.length:=by simp [IntKind.wrap,IntKind.bits,IntKind.signed];omega
 go_enter Tryz.func115,Tryz.ntmps115
 go_wp2_with (first|(go_at_call 134;refine hb.mono ?_;rintro e w' ⟨rfl,hw⟩;rw [hw];clear hw)|(go_at_call 133;refine hp.mono ?_;rintro e w' ⟨rfl,n,os,rfl⟩))
 go_end0
 obtain⟨⟨hsz,-,hperm⟩,hsort⟩:=hs.out;have hd:=hd.out;obtain⟨D,rfl⟩:∃ D:List TC,d'=D.toArray:=⟨d'.toList,by simp⟩;simp only [List.size_toArray] at hsz
 have hp':d.Perm D:=by
  have:=hperm;simp only [List.size_toArray,List.extract_toArray,List.extract_eq_take_drop,Nat.sub_zero,List.drop_zero] at this;rw [List.take_of_length_le (by omega),List.take_of_length_le (Nat.le_refl _)] at this;exact this.symm
 obtain⟨l',hl',hD⟩:=hd.perm hp'
 have hpw:D.Pairwise (fun x y=>y.1.gt x.1=false):=by
  rw [List.pairwise_iff_getElem];intro i j hi hj hij;have:=hsort i j (Nat.zero_le _) hij (by simp;omega);rw [Xp,getElem!_pos D.toArray i (by simpa using hi),getElem!_pos D.toArray j (by simpa using hj)] at this;simpa using this
 obtain⟨hg',hgr⟩:=CR (n:=n) (d':=D.toArray) (os:=os) hg
 have hlr:Lr (some g) aN w (sortWorldK jg 8 w g 0 n D.toArray os):=⟨hgr,fun k hk=>by
  cases hk
  exact⟨fun C T' fr hC=>by rw [hg] at hC;cases hC;rfl,fun C T' fr hC=>by rw [hg'] at hC;cases hC;rfl⟩⟩
 have hlen':l'.length=l.length:=hl'.length_eq.symm
 have hfl:(D.flatMap jg).length=l.length*8:=by
  have:=(hD.elems).length (e:=aO);rw [this,hlen'];rfl
 refine⟨rfl,l',hl',CU hD hpw,⟨D.flatMap jg,⟨by rw [hfl,hlen'];rfl,.inr ⟨g,cap,_,by rw [hlen'],hbg,hg',by rw [hlen'];exact hnc,hcm,by simp [Go.Sort.putCells];exact hcs,?_⟩⟩,(hD.lr hlr (by decide)).elems⟩,hlr⟩;rw [hlen',<- wm];have hF:(Go.Sort.flatK jg 8 D.toArray).size=l.length*8:=by rw [Go.Sort.size_flatK,List.size_toArray,hsz,hdl]
 apply List.ext_getElem?;intro j;rw [List.getElem?_take,show aO.sz=8 from rfl];by_cases hj:j<l.length*8
 ·have hjc:j<cur.size:=by
   rw [hcs];have:l.length*8<=cap*8:=Nat.mul_le_mul_right 8 hnc;show j<cap*8;omega
  rw [if_pos hj,Array.getElem?_toList,Array.getElem?_toList,Go.Sort.putCells,Array.getElem?_mapIdx,Array.getElem?_eq_getElem hjc,Array.getElem?_eq_getElem (by omega)];simp only [Option.map_some,Option.some.injEq];rw [if_pos (by omega),Nat.sub_zero,getElem!_pos (Go.Sort.flatK jg 8 D.toArray) j (by omega)]
  rfl
 ·rw [if_neg hj,List.getElem?_eq_none (by simp;omega)]
end Go.Proofs.YtopclbeomcggiaaGreat
end
section
namespace Q
open Go Go.RowKit
theorem fM {α:Type} {e:El α} {P:Program} {w:World} {ops:Array Oper} {rest:List Oper} {o:Oper} {a:Act} {Q:Exit->Act->World->Prop} (hgd:o.guard=none) (s x:Operand) (t:TypeId)
  (ho:o.op=.call { callee:=.builtin .append,args:=#[s,x],argTypes:=#[t,t] }) (ht:P.underlying t=some (.slice e.T)) (hi:∃ z bytes,(P.info? e.T).map (fun i=>(i.zero,i.size,i.bytes))=some (some z,e.sz,bytes)/\z.cells.size=e.sz/\bytes<=100000)
  {base:Nat} {l r:List α} {v u:Value} (hs:a.eval s=v) (hx:a.eval x=u) (hown:cB e base w v l) (hu:bS e w u r) (hlen:l.length+r.length<=1000000000) (hbase:base<=w.heap.size)
  (h:∀ v' w',cB e base w' v' (l++r)->Lr v.ownBlock e.T w w'->(v'.ownBlock=v.ownBlock\/v'.ownBlock=some w.heap.size)->wpList P ops Q rest (a.put o.dst v') w'):wpList P ops Q (o::rest) a w:=by
 refine wpList_plain hgd fun K hK=>?_;obtain⟨z,bytes,hi,hz,hby⟩:=hi;obtain⟨v',w',hrun,h2,h3,h4⟩:=pX (ty:=o.type) ht hi hz hown hu hlen hby hbase;unfold Oper.wp;rw [qg ho (by rw [hs,hx];exact hrun)];exact hK _ _ (h v' w' h2 h3 h4)
theorem jv {α:Type} {e:El α} {w:World} {b:Nat} {cs:List Value} {t:α} (hB:Blk w b e.T cs) (he:e.E w cs t):bS e w (.slice (some ⟨b,0,none⟩) 1 1) [t] :=
 ⟨_,1,cs,rfl,Nat.le_refl _,hB.at,dS.single he⟩
end Q
namespace Go.Proofs.YtopclbeomcggiaaGreat
open Go.RowKit Q Go.WideMaps Go.Maps
theorem LK:∃ i,Tryz.prog.info? 43=some i/\i.zero=some (.agg #[.int .i64 0,.int .i64 0,.int .i64 0,.int .i64 0,.bool false,.slice none 0 0,.bool false,.slice none 0 0])/\i.size=8/\i.bytes=96:=by
 obtain⟨i,h1,h2,h3,h4⟩:=info_parts (P:=Tryz.prog) (e:=43) (z:=.agg #[.int .i64 0,.int .i64 0,.int .i64 0,.int .i64 0,.bool false,.slice none 0 0,.bool false,.slice none 0 0]) (size:=8) (bytes:=96) (by kernel_rfl);exact⟨i,h1,h2,h3,h4⟩
theorem bu {T:TypeId} (h:uT≠T):aO.ok T:=h
theorem bV.cellsC {w:World} {cs:List Value} {q:Rat} (h:bV w (.agg cs.toArray) q):gM w cs q:=by
 obtain⟨n,a,k,c,n',a',k',c',e,h1,h2⟩:=h
 have:cs=[.bool n,.slice a k c,.bool n',.slice a' k' c']:=by
  simp only [Value.agg.injEq] at e;have:=congrArg Array.toList e;simpa using this
 exact⟨n,a,k,c,n',a',k',c',this,h1,h2⟩
theorem rD {q:Rat} (h:q≠0):iV q.num≠0:=by
 have:q.num≠0:=fun h'=>h (Rat.num_eq_zero.1 h');rcases uM q.num with ⟨_,h'⟩|⟨h',_⟩|⟨_,h'⟩ <;> omega
structure CV (l:List ai) (left:Lit->Bool) (L:List ai):Prop where
 apart:L.Pairwise (fun s t=>s.1≠t.1)
 ok:∀ t∈L,t.1.nat=true/\t.2=cf l t.1/\t.2≠0/\InR t.1/\left (zt t.1)=false
 all:∀ e,InR e->(∃ t∈l,t.1=e)->left (zt e)=false->e.nat=true->cf l e≠0->(e,cf l e)∈L
theorem CV.start {l:List ai} {left:Lit->Bool} (h:∀ e,InR e->(∃ t∈l,t.1=e)->left (zt e)=true):CV l left [] :=
 ⟨.nil,(fun _ h=>absurd h (by simp)),fun e he hx hl=>by rw [h e he hx] at hl;cases hl⟩
theorem uW {e f:Ex} (he:InR e) (hf:InR f):(zt e).sameKey (zt f)=decide (e=f):=by
 by_cases h:e=f
 ·subst h;rw [WideAt.sameKey_self (nL.key (sO he))];simp
 ·rw [sameKey_ne (fun h'=>h (LH he hf h'))];simp [h]
theorem CV.skip {l L:List ai} {left:Lit->Bool} {e:Ex} (h:CV l left L) (he:InR e) (hno:e.nat=false\/cf l e=0):CV l (fun z=>left z && !z.sameKey (zt e)) L :=
 ⟨h.apart,fun t ht=>by have:=h.ok t ht;exact⟨this.1,this.2.1,this.2.2.1,this.2.2.2.1,by rw [this.2.2.2.2];rfl⟩,fun f hf hx hl hn hc=>by
  rw [uW hf he] at hl;by_cases hfe:f=e
  ·subst hfe;rcases hno with h'|h'
   ·rw [h'] at hn;cases hn
   ·exact absurd h' hc
  ·exact h.all f hf hx (by simpa [hfe] using hl) hn hc⟩
theorem CV.take {l L:List ai} {left:Lit->Bool} {e:Ex} (h:CV l left L) (he:InR e) (hl:left (zt e)=true) (hn:e.nat=true) (hc:cf l e≠0):CV l (fun z=>left z && !z.sameKey (zt e)) (L++[(e,cf l e)]):=by
 have hself:(zt e).sameKey (zt e)=true:=by rw [uW he he];simp
 refine⟨?_,fun t ht=>?_,fun f hf hx hl' hn' hc'=>?_⟩
 ·rw [List.pairwise_append];refine⟨h.apart,by simp,fun t ht s hs=>?_⟩;simp at hs;subst hs;intro e';have:=(h.ok t ht).2.2.2.2;rw [e'] at this;rw [hl] at this;cases this
 ·rcases List.mem_append.1 ht with ht|ht
  ·have:=h.ok t ht;exact⟨this.1,this.2.1,this.2.2.1,this.2.2.2.1,by rw [this.2.2.2.2];rfl⟩
  ·simp at ht;subst ht;exact⟨hn,rfl,hc,he,by simp [hself]⟩
 ·rw [uW hf he] at hl';by_cases hfe:f=e
  ·subst hfe;simp
  ·exact List.mem_append.2 (.inl (h.all f hf hx (by simpa [hfe] using hl') hn' hc'))
structure RK where
 n:Bool
 a:Option Addr
 k:Nat
 c:Nat
 n':Bool
 a':Option Addr
 k':Nat
 c':Nat
structure EB where
 e:Ex
def Yb (c:RK):Value:=.agg #[.bool c.n,.slice c.a c.k c.c,.bool c.n',.slice c.a' c.k' c.c']
def Yc (e:EB):Value:=.agg #[.int .i64 e.e.1,.int .i64 e.e.2.1,.int .i64 e.e.2.2.1,.int .i64 e.e.2.2.2]
theorem yS (b:Nat) (l:List ai) (w:World) (hS:kJ w b l) (hlen:l.length<=100000000):Calls Tryz.prog 91 #[.map (some b)] w (aX w (canon l)):=by
 obtain⟨D,hD,hin,h3⟩:=hS;have hbl:=hD.lt;have hsz:=hD.size_le;obtain⟨i,hi1,hi2,hi3,hi4⟩:=LK
 go_enter Tryz.func91,Tryz.ntmps91
 have hlq:=hD.len Tryz.underlying91 3
 go_upto_region 2 with (first
  | (refine wpList_make_own _ rfl _ _ 27 rfl w.heap.size aN i _ 8 Tryz.underlying27 hi1 hi2 hi3 .i64 .i64 _ (Maps.size D) rfl rfl rfl (by rw [hi4];omega) (by unfold maxLen;omega) (Nat.le_refl _) ?_;intro W hrow hgW))
 have hown0:cK w.heap.size W (.slice (some ⟨w.heap.size,0,none⟩) 0 (Maps.size D)) []:=⟨[],hrow,rfl⟩;have hDW:=hD.kept hgW (by simp);clear hlq;have hb0:Below w.heap.size w W:=(Below.refl _ _).grown hgW (Nat.le_refl _) (fun k hk=>by cases hk);have hrlt:w.heap.size<W.heap.size:=by have:=(hown0.base_le w.heap.size rfl).2;omega
 go_wp2_with (at_range;refine wpList_range_own _ rfl _ 91 rfl JK 41 nL Tryz.underlying91 held b l.length D rfl hDW ?_;intro w0 hrg0 hg0 hs0)
 go_frame;have hb1:Below w.heap.size w w0:=hb0.trans ((Below.refl _ _).grown hg0 hb0.size (fun k hk=>by cases hk));have hown1:cK w.heap.size w0 (.slice (some ⟨w.heap.size,0,none⟩) 0 (Maps.size D)) []:=hown0.on ((Below.refl _ _).grown hg0 (Nat.le_refl _) (fun k hk=>by cases hk));generalize W.heap.size=r at *
 have hst:∀ e,InR e->(∃ t∈l,t.1=e)->has D (zt e)=true:=fun e he hx=>by
  obtain⟨v,hv,_⟩:=(h3 e he).1 hx;exact has_true_of_atKey hv
 clear hown0 hDW hb0 hrow hgW hg0 hs0 hi1 hi2 hi3 hi4;replace h3:=zH h3;replace hin:=zH hin
 go_loopw [3] (fun v wr=>∃ (left:Lit->Bool) (UT:Nat) (L:List ai),wr.ranges Tryz.prog JK held b r l.length D left UT/\Hid (cK w.heap.size wr v L)/\Hid (CV l left L)/\L.length+UT<=Maps.size D/\Hid (v≠.slice none 0 0)/\Below w.heap.size w wr/\Hid (v.ownBlock≠some r)) (fun _ wr=>wr.rangeLeft b r)
 case atStart=>exact⟨_,_,[],hrg0,zH hown1,zH (CV.start hst),by simp,zH (by simp),hb1,zH (by simp [Value.ownBlock];omega)⟩
 case round =>
  clear hrg0 hown1 hb1 hst;obtain⟨left,UT,L,hrg,hown,hcoll,nz,hne,hb,hnr⟩:=hrel
  go_wp2_with (at_next;refine wpList_next_ranges _ rfl _ rfl JK nL held Yc Yb ?_ ?_ b r l.length D left UT rfl hrg ?_ ?_)
  ·intro key kl hk;obtain⟨e,rfl,_,_⟩:=vZ hk;exact⟨⟨e⟩,rfl⟩
  ·intro v y hv;obtain⟨_,n,a,k,c,n',a',k',c',rfl⟩:=wh hv;exact⟨⟨n,a,k,c,n',a',k',c'⟩,rfl⟩
  ·intro hc0 hl0;have hcoll:=hcoll.out;have hown:=hown.out
   have hall:∀ e:Ex,e.nat=true->cf l e≠0->(e,cf l e)∈L:=fun e hn hc=>by
    obtain⟨t,ht,rfl⟩:=Pp hc;exact hcoll.all _ (hin.out t ht) ⟨t,ht,rfl⟩ (hl0 _) hn hc
   have hLl:L.length<=1000000000:=by omega
   have hend:∀ L',L.Perm L'->L'.Pairwise (fun s t=>t.1.gt s.1=false)->L'=canon l:=fun L' hp hs=>xK hcoll.apart (fun t ht=>⟨(hcoll.ok t ht).1,(hcoll.ok t ht).2.1,(hcoll.ok t ht).2.2.1⟩) hall hp hs;replace hend:=zH hend;have hbase:=zH (cB.base_le hown);have hcall:=PO w.heap.size u3 L wr hown hne.out hLl;clear hcoll hown hall hin h3 hrg
   go_wp2_with (go_at_call 115;refine hcall.mono ?_;rintro e w2 ⟨rfl,L',hp,hsort,hown2,hlr⟩)
   go_ret;have hLL:=hend.out L' hp hsort;subst hLL;exact⟨_,rfl,hown2.isSl,hb.trans (hlr.belowAt hb.size (fun k hk=>(hbase.out k hk).1))⟩
  ·intro x c kl y ps w1 cnt' hkey hlk hv hat hrg1 hlt hgr hsz1 hen;obtain⟨x⟩:=x;obtain⟨e,he1,hIn,rfl⟩:=vZ hkey;obtain rfl:x=e:=LG he1
   have hx:∃ t∈l,t.1=x:=by
    apply Classical.byContradiction;intro hno;have hz:=(h3.out x hIn).2 (fun t ht he=>hno ⟨t,ht,he⟩);have h5:=hat .nil;rw [hz] at h5;have h6:=hat (.agg []);rw [hz] at h6;rw [<- h5] at h6;cases h6
   obtain⟨u,hu,hr⟩:=(h3.out x hIn).1 hx;have hy:=(wh hv).1;simp only [Prod.mk.injEq] at hy;have h7:=hat .nil;rw [hu,hy.1] at h7;simp only [DataW.held.injEq] at h7;subst h7;obtain⟨n,a,k,cc,n',a',k',cc'⟩:=c;simp only [Yc,Yb] at hen hr ⊢
   have hiter:jW w1 r 0:=by
    obtain⟨_,_,_,_,_,_,_,_,_,h,_⟩:=hrg1;intro C T' fr hC;rw [h] at hC;cases hC
   have hlr1:Lr (some r) 0 wr w1:=⟨hgr,fun k hk=>by
    cases hk;refine⟨?_,hiter⟩;obtain⟨_,_,_,_,_,_,_,_,_,h,_⟩:=hrg
    intro C T' fr hC;rw [h] at hC;cases hC⟩
   have hown1:cK w.heap.size w1 u3 L:=hown.out.lr hlr1 (bu (by decide)) (.inr hnr.out);have hb1:Below w.heap.size w w1:=hb.trans (hlr1.belowAt hb.size (fun k hk=>by cases hk;omega));have hmeas:w1.rangeLeft b r<wr.rangeLeft b r:=by rw [hrg1.left_eq,hrg.left_eq];exact hlt
   have hlt':cnt'+1<=UT:=hlt;clear hiter hlr1 hgr hrg hu hy hat hv hkey hown;replace hlk:=zH hlk;replace hown1:=zH hown1
   go_upto_region 5 with (fail)
   refine xm fun W2 hb2 B1 B2 hsz2=>?_;have hb2':=hb1.trans (hb2.mono hb1.size);rw [hsz1] at B1 B2;have hown2:Hid (cK w.heap.size W2 u3 L):=zH (hown1.out.on hb2);have hrg2:=hrg1.kept (bT hb2 none) (by simp) (by simp);have hr2:=hr.on hb2';have hmeas2:W2.rangeLeft b r<wr.rangeLeft b r:=by rw [hrg2.left_eq,<- hrg1.left_eq];exact hmeas
   have hnat:=fun W'=>yR x W';have hsgn:=nR _ _ W2 hr2;clear hown1 hrg1 hmeas hb1 hr;have z1:=B1.at1 0 _ rfl;have z2:=B1.at1 1 _ rfl;have z3:=B1.at1 2 _ rfl;have z4:=B1.at1 3 _ rfl;have y1:=B2.at1 0 _ rfl;have y2:=B2.at1 1 _ rfl;have y3:=B2.at1 2 _ rfl;have y4:=B2.at1 3 _ rfl;by_cases hn:x.nat=true
   ·by_cases hz:cf l x=0
    ·have hs0:iV (cf l x).num=0:=by rw [hz];rfl
     rw [hn] at hnat;rw [hs0] at hsgn;have hsgn3:=fun W' hb3=>nR _ _ W' (hr2.on hb3);rw [hs0] at hsgn3
     go_wp2_with (first
      | (go_at_call 114;refine (hnat _).mono ?_;rintro e w3 ⟨rfl,hb3⟩;have y1:=(B2.on hb3).at1 0 _ rfl;have y2:=(B2.on hb3).at1 1 _ rfl;have y3:=(B2.on hb3).at1 2 _ rfl;have y4:=(B2.on hb3).at1 3 _ rfl)
      | (go_at_call 86;refine (hsgn3 _ hb3).mono ?_;rintro e w4 ⟨rfl,hb4⟩))
     have hb34:=hb3.trans (hb4.mono hb3.size);go_roundw
     case measure=>rw [(hrg2.kept (bT hb34 none) (by simp) (by simp)).left_eq,<- hrg2.left_eq];exact hmeas2
     case rel=>exact⟨_,cnt',L,hrg2.kept (bT hb34 none) (by simp) (by simp),zH (hown2.out.on hb34),zH (hcoll.out.skip hIn (.inr hz)),by omega,hne,hb2'.trans (hb34.mono hb2'.size),hnr⟩
    ·have hs0:=rD hz;rw [hn] at hnat;have hsgn3:=fun W' hb3=>nR _ _ W' (hr2.on hb3);clear hsgn;generalize iV (cf l x).num=s at hs0 hsgn3;have hs1:(s == 0)=false:=by simpa using hs0
     go_wp2_with (first
      | (go_at_call 114;refine (hnat _).mono ?_;rintro e w3 ⟨rfl,hb3⟩;have y1:=(B2.on hb3).at1 0 _ rfl;have y2:=(B2.on hb3).at1 1 _ rfl;have y3:=(B2.on hb3).at1 2 _ rfl;have y4:=(B2.on hb3).at1 3 _ rfl)
      | (go_at_call 86;refine (hsgn3 _ hb3).mono ?_;rintro e w4 ⟨rfl,hb4⟩;have hb34:=hb3.trans (hb4.mono hb3.size);have z1:=(B1.on hb34).at1 0 _ rfl;have z2:=(B1.on hb34).at1 1 _ rfl;have z3:=(B1.on hb34).at1 2 _ rfl;have z4:=(B1.on hb34).at1 3 _ rfl;have y1:=(B2.on hb34).at1 0 _ rfl;have y2:=(B2.on hb34).at1 1 _ rfl;have y3:=(B2.on hb34).at1 2 _ rfl;have y4:=(B2.on hb34).at1 3 _ rfl;have hba:=zH (hb34.trans (((Below.refl w4.heap.size w4).alloc (Nat.le_refl _) (.cells #[.int .i64 x.1,.int .i64 x.2.1,.int .i64 x.2.2.1,.int .i64 x.2.2.2,.bool n,.slice a k cc,.bool n',.slice a' k' cc'] aN)).mono hb34.size)))
      | (refine fM rfl _ _ 27 rfl Tryz.underlying27 bK rfl rfl (hown2.out.on hba.out) (jv (t:=(x,cf l x)) (Blk.new w4 aN [.int .i64 x.1,.int .i64 x.2.1,.int .i64 x.2.2.1,.int .i64 x.2.2.2,.bool n,.slice a k cc,.bool n',.slice a' k' cc']) ⟨[.bool n,.slice a k cc,.bool n',.slice a' k' cc'],rfl,(hr2.on hba.out).cellsC⟩) (by simp;omega) (Nat.le_trans hb2'.size hba.out.size) ?_;intro v5 w5 hown5 hl5 hv5))
     have hba:=hba.out;have hrg4:=hrg2.kept (bT hba none) (by simp) (by simp);have hob:=cB.base_le hown2.out;have hrg5:=hrg4.kept hl5.1 (fun h=>by have:=(hob b h.symm).1;omega) (fun h=>hnr.out h.symm);go_roundw
     case measure=>rw [hrg5.left_eq,<- hrg2.left_eq];exact hmeas2
     case rel =>
      refine⟨_,cnt',L++[(x,cf l x)],hrg5,zH hown5,zH (hcoll.out.take hIn hlk.out hn hz),by simp;omega,zH ?_,(hb2'.trans (hba.mono hb2'.size)).trans (hl5.belowAt (Nat.le_trans hb2'.size hba.size) (fun k hk=>(hob k hk).1)),zH ?_⟩
      ·obtain⟨ao,cap,hv,_⟩:=hown5.shape;rw [hv];simp
      ·rcases hv5 with hv5|hv5
       ·rw [hv5];exact hnr.out
       ·rw [hv5];intro h;have h1:r<w4.heap.size+1:=by simpa using hrg4.lt
        have h2:w4.heap.size+1=r:=by simpa using h
        omega
   ·have hn':x.nat=false:=by simpa using hn
    rw [hn'] at hnat
    go_wp2_with (go_at_call 114;refine (hnat _).mono ?_;rintro e w3 ⟨rfl,hb3⟩)
    go_roundw
    case measure=>rw [(hrg2.kept (bT hb3 none) (by simp) (by simp)).left_eq,<- hrg2.left_eq];exact hmeas2
    case rel=>exact⟨_,cnt',L,hrg2.kept (bT hb3 none) (by simp) (by simp),zH (hown2.out.on hb3),zH (hcoll.out.skip hIn (.inl hn')),by omega,hne,hb2'.trans (hb3.mono hb2'.size),hnr⟩
structure SC (l:List ai):Prop where
 n:l.length<=100000000
 r:∀ t∈l,InR t.1/\Rk t.2
 c:∀ k,∀ e,Rk (cf (l.take k) e)
theorem bI {W:World} {B g j:Nat} (h:B<=g) (v:Value):Below B W (W.setCell ⟨g,j,none⟩ v) :=
 ⟨rfl,rfl,rfl,by simp [World.setCell],fun k hk=>Below.heap_setCell _ _ _ _ (by simp only;omega)⟩
theorem NF (v:Value) (q:Rat) (w:World) (h:bV w v q):Calls Tryz.prog 89 #[v] w (aX w (bX q)):=by
 obtain⟨n,a,k,c,n',a',k',c',rfl⟩:=fQ h;have hsgn:=fun W hb=>nR _ _ W (h.on (w':=W) hb);by_cases hz:q=0
 ·have hs0:iV q.num=0:=by rw [hz];rfl
  rw [hs0] at hsgn;have hR:bX q=[]:=by rw [bX,if_pos hz]
  rw [hR]
  go_enter Tryz.func89,Tryz.ntmps89
  go_upto_region 1 with (fail)
  refine jI fun W hb B hsz=>?_;have y1:=B.at1 0 _ rfl;have y2:=B.at1 1 _ rfl;have y3:=B.at1 2 _ rfl;have y4:=B.at1 3 _ rfl
  go_wp2_with (go_at_call 86;refine (hsgn _ hb).mono ?_;rintro e w4 ⟨rfl,hb4⟩)
  go_ret;exact⟨_,rfl,bS.nil _ _,hb.trans (hb4.mono hb.size)⟩
 ·have hs0:=rD hz;have hR:bX q=[(e0,q)]:=by rw [bX,if_neg hz]
  rw [hR];generalize iV q.num=s at hs0 hsgn;have hs1:(s == 0)=false:=by simpa using hs0
  go_enter Tryz.func89,Tryz.ntmps89
  go_upto_region 1 with (fail)
  refine jI fun W hb B hsz=>?_;have y1:=B.at1 0 _ rfl;have y2:=B.at1 1 _ rfl;have y3:=B.at1 2 _ rfl;have y4:=B.at1 3 _ rfl
  go_wp2_with (go_at_call 86;refine (hsgn _ hb).mono ?_;rintro e w4 ⟨rfl,hb4⟩;have hb5:=hb.trans (hb4.mono hb.size);have y1:=(B.on hb4).at1 0 _ rfl;have y2:=(B.on hb4).at1 1 _ rfl;have y3:=(B.on hb4).at1 2 _ rfl;have y4:=(B.on hb4).at1 3 _ rfl)
  go_ret;have hba:Below w4.heap.size w4 (w4.alloc (.cells #[.int .i64 0,.int .i64 0,.int .i64 0,.int .i64 0,.bool n,.slice a k c,.bool n',.slice a' k' c'] aN)):=(Below.refl _ _).alloc (Nat.le_refl _) _;exact⟨_,rfl,jv (t:=(e0,q)) (Blk.new w4 aN [.int .i64 0,.int .i64 0,.int .i64 0,.int .i64 0,.bool n,.slice a k c,.bool n',.slice a' k' c']) ⟨[.bool n,.slice a k c,.bool n',.slice a' k' c'],rfl,((h.on hb5).on hba).cellsC⟩,hb5.trans (hba.mono hb5.size)⟩
theorem zL (e:Ex) (v:Nat) (hv:v<4):(bR e)[v]?=some (.int .i64 (e.get v)):=by
 obtain rfl|rfl|rfl|rfl:v=0\/v=1\/v=2\/v=3:=by omega
 all_goals rfl
theorem jF (vp:Value) (p:List ai) (v:Nat) (w:World) (h:ak w vp p) (hv:v<4) (hlen:p.length<=100000000):Calls Tryz.prog 53 #[vp,.int .i64 v] w (rO w (.int .i64 (aG p v))):=by
 obtain⟨ao,cap,rfl,hcap⟩:=h.shape;obtain⟨R,HR⟩:∃ R,R=aG p v:=⟨_,rfl⟩;rw [<- HR];replace HR:=zH HR;have hv4:(v:Int)<4:=by omega
 go_enter Tryz.func53,Tryz.ntmps53
 go_wp2
 go_loopw [5,10] (fun d i wr=>∃ k:Nat,k<=p.length/\i=.int .i64 k/\d=.int .i64 (aG (p.take k) v)/\Below w.heap.size w wr) (fun _ i _=>p.length-(intOf i).toNat)
 case atStart=>exact⟨0,by omega,rfl,rfl,Below.refl _ _⟩
 case round =>
  obtain⟨k,hk,rfl,rfl,hb⟩:=hrel;by_cases hkl:k<p.length
  ·have hj:p[k]?=some p[k]:=List.getElem?_eq_getElem hkl;obtain⟨b',off,cs,rfl,-,hE,hC⟩:=(h.on hb).get hj
   have dG:aG (p.take (k+1)) v=max (aG (p.take k) v) (p[k].1.get v):=by
    unfold aG;rw [List.take_succ_eq_append_getElem hkl,List.foldl_append];rfl
   generalize p[k]=t at hj hE dG;obtain⟨r,rfl,n,a,k1,c,n',a',k1',c',rfl,i1,i2⟩:=hE;have hget:=zL t.1 v hv;simp only [bR,List.cons_append,List.nil_append] at hC hget;have hr:=hC.range;have hkl':(k:Int)<p.length:=by omega
   go_upto_region 5 with (first
    | (refine aj rfl _ _ 27 rfl aN Tryz.underlying27 _ 8 96 (by kernel_rfl) _ _ _ rfl .i64 _ rfl k rfl hkl b' off rfl ?_)
    | (refine wpList_load_mid rfl 43 _ rfl _ _ rfl _ _ hr Tryz.underlying43 rfl (by kernel_rfl) ?_))
   refine jI fun W2 hb2 B1 hsz2=>?_
   have z:=B1.at1 v (.int .i64 (t.1.get v)) (by
    rw [show [Value.int .i64 t.1.1,.int .i64 t.1.2.1,.int .i64 t.1.2.2.1,.int .i64 t.1.2.2.2,.bool n,.slice a k1 c,.bool n',.slice a' k1' c']=[Value.int .i64 t.1.1,.int .i64 t.1.2.1,.int .i64 t.1.2.2.1,.int .i64 t.1.2.2.2]++[.bool n,.slice a k1 c,.bool n',.slice a' k1' c'] from rfl,List.getElem?_append_left (by simpa using hv)]
    exact hget)
   generalize t.1.get v=x at *;generalize aG (p.take k) v=d at *;replace dG:=zH dG;go_wp2;go_roundw
   case measure=>simp [intOf];omega
   case rel =>
    refine⟨k+1,by omega,by go_num,?_,hb.trans (hb2.mono hb.size)⟩;rw [dG.out]
  ·obtain rfl:k=p.length:=by omega
   rw [List.take_of_length_le (Nat.le_refl _),<- HR.out];go_wp2;go_ret;exact⟨rfl,hb⟩
end Go.Proofs.YtopclbeomcggiaaGreat
end
section
namespace Q
open Go Go.RowKit Go.Proofs.YtopclbeomcggiaaGreat
def af.sums {g:Option Nat} {T:TypeId} (b:Nat) (l:List ai):af (Lr g T):=af.fragile (fun v w=>v=.tuple #[]/\kJ w b l)
end Q
namespace Go.Proofs.YtopclbeomcggiaaGreat
open Go.RowKit Q Go.WideMaps Go.Maps
theorem mJ {n:Int} (h:-9223372036854775808<=n/\n<=9223372036854775807):IntKind.i64.wrap n=n:=by
 simp [IntKind.wrap,IntKind.bits,IntKind.signed];omega
theorem gX {n:Int} (h:(Lit.int .i64 n).wf=true):-9223372036854775808<=n/\n<=9223372036854775807:=by
 simp only [Lit.wf,Bool.and_eq_true,decide_eq_true_eq] at h;have h1:IntKind.i64.min=-9223372036854775808:=by decide
 have h2:IntKind.i64.max=9223372036854775807:=by decide
 omega
theorem kJ.noOther {w:World} {b:Nat} {l:List ai} {T:TypeId} (h:kJ w b l):jW w b T:=by
 obtain⟨D,⟨es,clock,hb,_⟩,_⟩:=h;exact jW.map hb
theorem LM {w w':World} {b:Nat} {l l':List ai} {T:TypeId} (h:kJ w b l) (h':kJ w' b l') (hg:w.grownBy w' (some b)):Lr (some b) T w w' :=
 ⟨hg,fun k hk=>by cases hk;exact⟨h.noOther,h'.noOther⟩⟩
theorem aY {w:World} {g j:Nat} {T:TypeId} {cs:List Value} (h:Blk w g T cs) (v:Value):Lr (some g) T w (w.setCell ⟨g,j,none⟩ v):=by
 have h':=h.set j v;refine⟨⟨rfl,rfl,rfl,by simp [World.setCell],fun k hk hne=>Below.heap_setCell _ _ _ _ (fun e=>hne (by rw [e]))⟩,fun k hk=>by cases hk;exact⟨h.noOther,h'.noOther⟩⟩
def kC (p q:List ai) (k j:Nat):List ai:=prods (p.take k) q++(match p[k]? with|some s=>(q.take j).map (mulT s)|none=>[])
theorem ww (l l' r:List ai):prods (l++l') r=prods l r++prods l' r:=by simp [prods]
theorem Fp (p q:List ai) (k:Nat):kC p q k 0=prods (p.take k) q:=by
 unfold kC;split <;> simp
theorem Fq {p q:List ai} {k:Nat} {s:ai} (h:p[k]?=some s):kC p q k q.length=prods (p.take (k+1)) q:=by
 unfold kC;rw [h,List.take_add_one,h,ww];simp [prods]
theorem Fs {p q:List ai} {k j:Nat} {s t:ai} (h:p[k]?=some s) (h':q[j]?=some t):kC p q k (j+1)=kC p q k j++[mulT s t]:=by
 unfold kC;rw [h,List.take_add_one,h'];simp
theorem sP {p q:List ai} {k j:Nat} (hk:k<p.length) (hj:j<=q.length):kC p q k j=(prods p q).take (k*q.length+j):=by
 have hs:p[k]?=some p[k]:=List.getElem?_eq_getElem hk;have e:p=p.take k++p[k]::p.drop (k+1):=by rw [<- List.drop_eq_getElem_cons hk,List.take_append_drop]
 have e2:prods p q=prods (p.take k) q++(q.map (mulT p[k])++prods (p.drop (k+1)) q):=by
  conv=>lhs;rw [e]
  rw [ww,jQ]
 unfold kC;rw [hs,e2];have hl:(prods (p.take k) q).length=k*q.length:=by rw [vP,List.length_take,Nat.min_eq_left (by omega)]
 show _++List.map (mulT p[k]) (q.take j)=_;rw [<- hl,List.take_length_add_append,List.take_append_of_le_length (by simp;exact hj),List.map_take]
theorem xU (vp vq:Value) (p q:List ai) (w:World) (hp:ak w vp p) (hq:ak w vq q) (rp:∀ t∈p,InR t.1/\Rk t.2) (rq:∀ t∈q,InR t.1/\Rk t.2) (hok:SC (prods p q)) (lp:p.length<=100000000) (lq:q.length<=100000000) :
  Calls Tryz.prog 54 #[vp,vq] w (aX w (aQ p q)):=by
 obtain⟨ap,cp,rfl,hcp⟩:=hp.shape;obtain⟨aq,cq,rfl,hcq⟩:=hq.shape;replace hok:=zH hok;replace rp:=zH rp;replace rq:=zH rq;have hmm:=run_makeMap (P:=Tryz.prog) 91 w
 go_enter Tryz.func54,Tryz.ntmps54
 go_upto_region 2 with (fail)
 have hS:kJ (w.alloc (.map #[] 0)) w.heap.size []:=kJ.made w;have hbw:Below w.heap.size w (w.alloc (.map #[] 0)):=(Below.refl _ _).alloc (Nat.le_refl _) _;obtain⟨W,hW⟩:∃ W,W=w.alloc (.map #[] 0):=⟨_,rfl⟩;rw [<- hW] at hS hbw ⊢;clear hW hmm;go_wp2
 go_loopw [15] (fun i wr=>∃ k:Nat,k<=p.length/\i=.int .i64 k/\Hid (kJ wr w.heap.size (prods (p.take k) q))/\Below w.heap.size w wr) (fun i _=>p.length-(intOf i).toNat)
 case atStart=>exact⟨0,by omega,rfl,zH hS,hbw⟩
 case round =>
  clear hS hbw;obtain⟨k,hk,rfl,hS,hb⟩:=hrel;by_cases hkl:k<p.length
  ·have hjp:p[k]?=some p[k]:=List.getElem?_eq_getElem hkl;obtain⟨b',off,cs,rfl,-,hE,hC⟩:=(hp.on hb).get hjp;generalize p[k]=s at hjp hE;obtain⟨⟨e1,e2,e3,e4⟩,qs⟩:=s;obtain⟨r,rfl,n1,a1,k1,c1,n2,a2,k2,c2,rfl,i1,i2⟩:=hE;simp only [bR,List.cons_append,List.nil_append] at hC;have hr:=hC.range;have hkl':(k:Int)<p.length:=by omega
   have hrat:bV wr (.agg #[.bool n1,.slice a1 k1 c1,.bool n2,.slice a2 k2 c2]) qs:=⟨n1,a1,k1,c1,n2,a2,k2,c2,rfl,i1,i2⟩;have hIs:InR (e1,e2,e3,e4)/\Rk qs:=rp.out ((e1,e2,e3,e4),qs) (List.mem_of_getElem? hjp)
   go_upto_region 5 with (first
    | (refine aj rfl _ _ 27 rfl aN Tryz.underlying27 _ 8 96 (by kernel_rfl) _ _ _ rfl .i64 _ rfl k rfl hkl b' off rfl ?_)
    | (refine wpList_load_mid rfl 43 _ rfl _ _ rfl _ _ hr Tryz.underlying43 rfl (by kernel_rfl) ?_))
   refine jI fun W1 hb1 B1 hsz1=>?_;have hS1:Hid (kJ W1 w.heap.size (kC p q k 0)):=zH (by rw [Fp];exact hS.out.on hb1);have hrat1:=hrat.on hb1;have hr1:w.heap.size<wr.heap.size:=hS.out.lt;have hbW1:=hb.trans (hb1.mono hb.size);clear hb1 hrat hS hC hr i1 i2;generalize wr.heap.size=r1 at *;go_wp2
   go_loopw [21] (fun i wr2=>∃ j:Nat,j<=q.length/\i=.int .i64 j/\Hid (kJ wr2 w.heap.size (kC p q k j))/\Below w.heap.size w wr2/\Hid (Blk wr2 r1 43 [.int .i64 e1,.int .i64 e2,.int .i64 e3,.int .i64 e4,.bool n1,.slice a1 k1 c1,.bool n2,.slice a2 k2 c2])/\Hid (bV wr2 (.agg #[.bool n1,.slice a1 k1 c1,.bool n2,.slice a2 k2 c2]) qs)/\w.heap.size<r1) (fun i _=>q.length-(intOf i).toNat)
   case atStart=>exact⟨0,by omega,rfl,hS1,hbW1,zH B1,zH hrat1,hr1⟩
   case round =>
    skip
    clear hS1 hbW1 B1 hrat1 hr1 hsz1;obtain⟨j,hj,rfl,hS,hb,hB1,hratx,hr1⟩:=hrel;by_cases hjl:j<q.length
    ·have hjq:q[j]?=some q[j]:=List.getElem?_eq_getElem hjl;obtain⟨b'',off',cs,rfl,-,hE,hC⟩:=(hq.on hb).get hjq;generalize q[j]=t at hjq hE;obtain⟨⟨f1,f2,f3,f4⟩,qt⟩:=t;obtain⟨r,rfl,m1,b1,j1,d1,m2,b2,j2,d2,rfl,i1,i2⟩:=hE;simp only [bR,List.cons_append,List.nil_append] at hC;have hr:=hC.range;have hjl':(j:Int)<q.length:=by omega
     have hrat:=zH (show bV wr (.agg #[.bool m1,.slice b1 j1 d1,.bool m2,.slice b2 j2 d2]) qt from⟨m1,b1,j1,d1,m2,b2,j2,d2,rfl,i1,i2⟩);have hIt:InR (f1,f2,f3,f4)/\Rk qt:=rq.out ((f1,f2,f3,f4),qt) (List.mem_of_getElem? hjq);have hmem:mulT ((e1,e2,e3,e4),qs) ((f1,f2,f3,f4),qt)∈prods p q:=List.mem_flatMap.2 ⟨_,List.mem_of_getElem? hjp,List.mem_map.2 ⟨_,List.mem_of_getElem? hjq,rfl⟩⟩;have hIst:InR (e1+f1,e2+f2,e3+f3,e4+f4)/\Rk (qs*qt):=hok.out.r _ hmem;obtain⟨wb1,wb2,wb3,wb4⟩:=hIst.1;replace wb1:=gX wb1;replace wb2:=gX wb2;replace wb3:=gX wb3;replace wb4:=gX wb4;have B1:=hB1.out;have zz1:=B1.at1 0 _ rfl;have zz2:=B1.at1 1 _ rfl;have zz3:=B1.at1 2 _ rfl;have zz4:=B1.at1 3 _ rfl
     go_upto_region 8 with (first
      | (refine aj rfl _ _ 27 rfl aN Tryz.underlying27 _ 8 96 (by kernel_rfl) _ _ _ rfl .i64 _ rfl j rfl hjl b'' off' rfl ?_)
      | (refine wpList_load_mid rfl 43 _ rfl _ _ rfl _ _ hr Tryz.underlying43 rfl (by kernel_rfl) ?_))
     refine jI fun W2 hb2 B2 hsz2=>?_;have hS2:=zH (hS.out.on hb2);have hbW2:=hb.trans (hb2.mono hb.size);have B1':=B1.on hb2;have hratx2:=hratx.out.on hb2;have hrat2:=hrat.out.on hb2;have hr2:r1<wr.heap.size:=B1.lt;clear zz1 zz2 zz3 zz4 hb2 hS hr hC i1 i2 hrat hratx hB1 B1;generalize wr.heap.size=r2 at *;have zz1:=B1'.at1 0 _ rfl;have zz2:=B1'.at1 1 _ rfl;have zz3:=B1'.at1 2 _ rfl;have zz4:=B1'.at1 3 _ rfl
     go_upto_region 9 with (fail)
     refine jI fun W3 hb3 B3 hsz3=>?_;have hS3:=zH (hS2.out.on hb3);have hbW3:=hbW2.trans (hb3.mono hbW2.size);have B1:=B1'.on hb3;have B2':=B2.on hb3;have hratx3:=hratx2.on hb3;have hrat3:=hrat2.on hb3;have hr3:r2<W2.heap.size:=B2.lt;have hr33:W2.heap.size<W3.heap.size:=by omega
     clear zz1 zz2 zz3 zz4 hb3 hS2 hrat2 hratx2 B1' B2;generalize W2.heap.size=r3 at *;go_wp2
     go_loopw [27] (fun i wr3=>∃ m:Nat,m<=4/\i=.int .i64 m/\Below w.heap.size w wr3/\Hid (kJ wr3 w.heap.size (kC p q k j)) /\
       Hid (Blk wr3 r1 43 [.int .i64 e1,.int .i64 e2,.int .i64 e3,.int .i64 e4,.bool n1,.slice a1 k1 c1,.bool n2,.slice a2 k2 c2]) /\
       Hid (Blk wr3 r2 43 [.int .i64 f1,.int .i64 f2,.int .i64 f3,.int .i64 f4,.bool m1,.slice b1 j1 d1,.bool m2,.slice b2 j2 d2]) /\
       Hid (Blk wr3 r3 36 [.int .i64 (if 0<m then e1+f1 else e1),.int .i64 (if 1<m then e2+f2 else e2),.int .i64 (if 2<m then e3+f3 else e3),.int .i64 (if 3<m then e4+f4 else e4)]) /\
       Hid (bV wr3 (.agg #[.bool n1,.slice a1 k1 c1,.bool n2,.slice a2 k2 c2]) qs)/\Hid (bV wr3 (.agg #[.bool m1,.slice b1 j1 d1,.bool m2,.slice b2 j2 d2]) qt)/\w.heap.size<r1/\r1<r2/\r2<r3) (fun i _=>4-(intOf i).toNat)
     case atStart=>exact⟨0,by omega,rfl,hbW3,hS3,zH B1,zH B2',zH B3,zH hratx3,zH hrat3,hr1,hr2,hr3⟩
     case round =>
      clear hbW3 hS3 B1 B2' B3 hratx3 hrat3 hr1 hr2 hr3 hbW2 hr33 hsz2 hsz3;obtain⟨m,hm,rfl,hb,hS,hB1,hB2,hB3,hratx,hrat,hr1,hr2,hr3⟩:=hrel;have B1:=hB1.out;have B2:=hB2.out;have B3:=hB3.out;clear hB1 hB2 hB3;obtain rfl|rfl|rfl|rfl|rfl:m=0\/m=1\/m=2\/m=3\/m=4:=by omega
      ·simp only [show ¬ (0:Nat)<0 from by decide,show ¬ (1:Nat)<0 from by decide,show ¬ (2:Nat)<0 from by decide,show ¬ (3:Nat)<0 from by decide,if_true,if_false] at B3
       go_upto_region 12 with (fail)
       refine aF mixed (none) (0) (gp.none) [.eq (.int .i64 0),.eq (.pointer (some ⟨r3,0,none⟩)),.eq (.int .i64 e1),.eq (.int .i64 0),.eq (.pointer (some ⟨r2,0,none⟩)),.eq (.pointer (some ⟨r2,0,none⟩)),.eq (.int .i64 f1),.eq (.int .i64 (e1+f1)),.eq (.pointer (some ⟨r3,0,none⟩))] [30,31,32,33,34,35,36,37,38] rfl rfl rfl rfl ⟨?_,?_,?_,?_,?_,?_,?_,?_,?_,trivial⟩ ?_
       ·exact fun _ _ a _ _ _=>xM rfl (a 11 rfl)
       ·intro A w1 hA hL hS he;have h10:A.eval (.tmp 10)=.pointer (some ⟨r3,0,none⟩):=hA 10 rfl;have h30:=eT 30 (he.1 rfl);exact pZ rfl
       ·intro A w1 hA hL hS he;have hb:=hL.below;have h31:=eT 31 (he.1 rfl);have c0:=((B3).on hb).at1 0 _ rfl;exact pZ rfl
       ·exact fun _ _ a _ _ _=>xM rfl (a 11 rfl)
       ·intro A w1 hA hL hS he;have h9:A.eval (.tmp 9)=.pointer (some ⟨r2,0,none⟩):=hA 9 rfl;exact pZ rfl
       ·intro A w1 hA hL hS he;have h34:=eT 34 (he.1 rfl);have h33:=eT 33 (he.2.1 rfl);exact pZ rfl
       ·intro A w1 hA hL hS he;have hb:=hL.below;have h35:=eT 35 (he.1 rfl);have c0:=((B2).on hb).at1 0 _ rfl;exact pZ rfl
       ·intro A w1 hA hL hS he;have h32:=eT 32 (he.1 rfl);have h36:=eT 36 (he.2.1 rfl);refine ae rfl (aC rfl rfl ?_);generalize A.eval=ev at *;go_simp;exact mJ wb1
       ·intro A w1 hA hL hS he;have h10:A.eval (.tmp 10)=.pointer (some ⟨r3,0,none⟩):=hA 10 rfl;have h30:=eT 30 (he.1 rfl);exact pZ rfl
       ·intro w5 hL;have hb5:=hL.below;simp only [aU,af.eq,lZ];have B3':=B3.on hb5;have z:=B3'.at1 0 _ rfl;have hf:=B3'.frozen 0;go_frame;go_wp2;have hl6:=aY (j:=0) B3' (.int .i64 (e1+f1));go_roundw
        case measure=>simp [intOf]
        case rel=>exact⟨1,by omega,by go_num,(hb.trans (hb5.mono hb.size)).trans (bI (by omega) _),zH ((hS.out.on hb5).lr hl6 (by decide) (by simp;omega)),zH ((B1.on hb5).lr hl6 (by simp;omega)),zH ((B2.on hb5).lr hl6 (by simp;omega)),zH (B3'.set 0 (.int .i64 (e1+f1))),zH ((hratx.out.on hb5).lr hl6 (by decide)),zH ((hrat.out.on hb5).lr hl6 (by decide)),hr1,hr2,hr3⟩
      ·simp only [show (0:Nat)<1 from by decide,show ¬ (1:Nat)<1 from by decide,show ¬ (2:Nat)<1 from by decide,show ¬ (3:Nat)<1 from by decide,if_true,if_false] at B3
       go_upto_region 12 with (fail)
       refine aF mixed (none) (0) (gp.none) [.eq (.int .i64 1),.eq (.pointer (some ⟨r3,1,none⟩)),.eq (.int .i64 e2),.eq (.int .i64 1),.eq (.pointer (some ⟨r2,0,none⟩)),.eq (.pointer (some ⟨r2,1,none⟩)),.eq (.int .i64 f2),.eq (.int .i64 (e2+f2)),.eq (.pointer (some ⟨r3,1,none⟩))] [30,31,32,33,34,35,36,37,38] rfl rfl rfl rfl ⟨?_,?_,?_,?_,?_,?_,?_,?_,?_,trivial⟩ ?_
       ·exact fun _ _ a _ _ _=>xM rfl (a 11 rfl)
       ·intro A w1 hA hL hS he;have h10:A.eval (.tmp 10)=.pointer (some ⟨r3,0,none⟩):=hA 10 rfl;have h30:=eT 30 (he.1 rfl);exact pZ rfl
       ·intro A w1 hA hL hS he;have hb:=hL.below;have h31:=eT 31 (he.1 rfl);have c0:=((B3).on hb).at1 1 _ rfl;exact pZ rfl
       ·exact fun _ _ a _ _ _=>xM rfl (a 11 rfl)
       ·intro A w1 hA hL hS he;have h9:A.eval (.tmp 9)=.pointer (some ⟨r2,0,none⟩):=hA 9 rfl;exact pZ rfl
       ·intro A w1 hA hL hS he;have h34:=eT 34 (he.1 rfl);have h33:=eT 33 (he.2.1 rfl);exact pZ rfl
       ·intro A w1 hA hL hS he;have hb:=hL.below;have h35:=eT 35 (he.1 rfl);have c0:=((B2).on hb).at1 1 _ rfl;exact pZ rfl
       ·intro A w1 hA hL hS he;have h32:=eT 32 (he.1 rfl);have h36:=eT 36 (he.2.1 rfl);refine ae rfl (aC rfl rfl ?_);generalize A.eval=ev at *;go_simp;exact mJ wb2
       ·intro A w1 hA hL hS he;have h10:A.eval (.tmp 10)=.pointer (some ⟨r3,0,none⟩):=hA 10 rfl;have h30:=eT 30 (he.1 rfl);exact pZ rfl
       ·intro w5 hL;have hb5:=hL.below;simp only [aU,af.eq,lZ];have B3':=B3.on hb5;have z:=B3'.at1 1 _ rfl;have hf:=B3'.frozen 1;go_frame;go_wp2;have hl6:=aY (j:=1) B3' (.int .i64 (e2+f2));go_roundw
        case measure=>simp [intOf]
        case rel=>exact⟨2,by omega,by go_num,(hb.trans (hb5.mono hb.size)).trans (bI (by omega) _),zH ((hS.out.on hb5).lr hl6 (by decide) (by simp;omega)),zH ((B1.on hb5).lr hl6 (by simp;omega)),zH ((B2.on hb5).lr hl6 (by simp;omega)),zH (B3'.set 1 (.int .i64 (e2+f2))),zH ((hratx.out.on hb5).lr hl6 (by decide)),zH ((hrat.out.on hb5).lr hl6 (by decide)),hr1,hr2,hr3⟩
      ·simp only [show (0:Nat)<2 from by decide,show (1:Nat)<2 from by decide,show ¬ (2:Nat)<2 from by decide,show ¬ (3:Nat)<2 from by decide,if_true,if_false] at B3
       go_upto_region 12 with (fail)
       refine aF mixed (none) (0) (gp.none) [.eq (.int .i64 2),.eq (.pointer (some ⟨r3,2,none⟩)),.eq (.int .i64 e3),.eq (.int .i64 2),.eq (.pointer (some ⟨r2,0,none⟩)),.eq (.pointer (some ⟨r2,2,none⟩)),.eq (.int .i64 f3),.eq (.int .i64 (e3+f3)),.eq (.pointer (some ⟨r3,2,none⟩))] [30,31,32,33,34,35,36,37,38] rfl rfl rfl rfl ⟨?_,?_,?_,?_,?_,?_,?_,?_,?_,trivial⟩ ?_
       ·exact fun _ _ a _ _ _=>xM rfl (a 11 rfl)
       ·intro A w1 hA hL hS he;have h10:A.eval (.tmp 10)=.pointer (some ⟨r3,0,none⟩):=hA 10 rfl;have h30:=eT 30 (he.1 rfl);exact pZ rfl
       ·intro A w1 hA hL hS he;have hb:=hL.below;have h31:=eT 31 (he.1 rfl);have c0:=((B3).on hb).at1 2 _ rfl;exact pZ rfl
       ·exact fun _ _ a _ _ _=>xM rfl (a 11 rfl)
       ·intro A w1 hA hL hS he;have h9:A.eval (.tmp 9)=.pointer (some ⟨r2,0,none⟩):=hA 9 rfl;exact pZ rfl
       ·intro A w1 hA hL hS he;have h34:=eT 34 (he.1 rfl);have h33:=eT 33 (he.2.1 rfl);exact pZ rfl
       ·intro A w1 hA hL hS he;have hb:=hL.below;have h35:=eT 35 (he.1 rfl);have c0:=((B2).on hb).at1 2 _ rfl;exact pZ rfl
       ·intro A w1 hA hL hS he;have h32:=eT 32 (he.1 rfl);have h36:=eT 36 (he.2.1 rfl);refine ae rfl (aC rfl rfl ?_);generalize A.eval=ev at *;go_simp;exact mJ wb3
       ·intro A w1 hA hL hS he;have h10:A.eval (.tmp 10)=.pointer (some ⟨r3,0,none⟩):=hA 10 rfl;have h30:=eT 30 (he.1 rfl);exact pZ rfl
       ·intro w5 hL;have hb5:=hL.below;simp only [aU,af.eq,lZ];have B3':=B3.on hb5;have z:=B3'.at1 2 _ rfl;have hf:=B3'.frozen 2;go_frame;go_wp2;have hl6:=aY (j:=2) B3' (.int .i64 (e3+f3));go_roundw
        case measure=>simp [intOf]
        case rel=>exact⟨3,by omega,by go_num,(hb.trans (hb5.mono hb.size)).trans (bI (by omega) _),zH ((hS.out.on hb5).lr hl6 (by decide) (by simp;omega)),zH ((B1.on hb5).lr hl6 (by simp;omega)),zH ((B2.on hb5).lr hl6 (by simp;omega)),zH (B3'.set 2 (.int .i64 (e3+f3))),zH ((hratx.out.on hb5).lr hl6 (by decide)),zH ((hrat.out.on hb5).lr hl6 (by decide)),hr1,hr2,hr3⟩
      ·simp only [show (0:Nat)<3 from by decide,show (1:Nat)<3 from by decide,show (2:Nat)<3 from by decide,show ¬ (3:Nat)<3 from by decide,if_true,if_false] at B3
       go_upto_region 12 with (fail)
       refine aF mixed (none) (0) (gp.none) [.eq (.int .i64 3),.eq (.pointer (some ⟨r3,3,none⟩)),.eq (.int .i64 e4),.eq (.int .i64 3),.eq (.pointer (some ⟨r2,0,none⟩)),.eq (.pointer (some ⟨r2,3,none⟩)),.eq (.int .i64 f4),.eq (.int .i64 (e4+f4)),.eq (.pointer (some ⟨r3,3,none⟩))] [30,31,32,33,34,35,36,37,38] rfl rfl rfl rfl ⟨?_,?_,?_,?_,?_,?_,?_,?_,?_,trivial⟩ ?_
       ·exact fun _ _ a _ _ _=>xM rfl (a 11 rfl)
       ·intro A w1 hA hL hS he;have h10:A.eval (.tmp 10)=.pointer (some ⟨r3,0,none⟩):=hA 10 rfl;have h30:=eT 30 (he.1 rfl);exact pZ rfl
       ·intro A w1 hA hL hS he;have hb:=hL.below;have h31:=eT 31 (he.1 rfl);have c0:=((B3).on hb).at1 3 _ rfl;exact pZ rfl
       ·exact fun _ _ a _ _ _=>xM rfl (a 11 rfl)
       ·intro A w1 hA hL hS he;have h9:A.eval (.tmp 9)=.pointer (some ⟨r2,0,none⟩):=hA 9 rfl;exact pZ rfl
       ·intro A w1 hA hL hS he;have h34:=eT 34 (he.1 rfl);have h33:=eT 33 (he.2.1 rfl);exact pZ rfl
       ·intro A w1 hA hL hS he;have hb:=hL.below;have h35:=eT 35 (he.1 rfl);have c0:=((B2).on hb).at1 3 _ rfl;exact pZ rfl
       ·intro A w1 hA hL hS he;have h32:=eT 32 (he.1 rfl);have h36:=eT 36 (he.2.1 rfl);refine ae rfl (aC rfl rfl ?_);generalize A.eval=ev at *;go_simp;exact mJ wb4
       ·intro A w1 hA hL hS he;have h10:A.eval (.tmp 10)=.pointer (some ⟨r3,0,none⟩):=hA 10 rfl;have h30:=eT 30 (he.1 rfl);exact pZ rfl
       ·intro w5 hL;have hb5:=hL.below;simp only [aU,af.eq,lZ];have B3':=B3.on hb5;have z:=B3'.at1 3 _ rfl;have hf:=B3'.frozen 3;go_frame;go_wp2;have hl6:=aY (j:=3) B3' (.int .i64 (e4+f4));go_roundw
        case measure=>simp [intOf]
        case rel=>exact⟨4,by omega,by go_num,(hb.trans (hb5.mono hb.size)).trans (bI (by omega) _),zH ((hS.out.on hb5).lr hl6 (by decide) (by simp;omega)),zH ((B1.on hb5).lr hl6 (by simp;omega)),zH ((B2.on hb5).lr hl6 (by simp;omega)),zH (B3'.set 3 (.int .i64 (e4+f4))),zH ((hratx.out.on hb5).lr hl6 (by decide)),zH ((hrat.out.on hb5).lr hl6 (by decide)),hr1,hr2,hr3⟩
      ·simp only [show (0:Nat)<4 from by decide,show (1:Nat)<4 from by decide,show (2:Nat)<4 from by decide,show (3:Nat)<4 from by decide,if_true] at B3
       go_upto_region 14 with (fail)
       refine aF mixed (none) (0) (gp.none) [.eq (.map (some w.heap.size)),.eq (.agg #[.int .i64 (e1+f1),.int .i64 (e2+f2),.int .i64 (e3+f3),.int .i64 (e4+f4)]),.eq (.pointer (some ⟨r1,4,none⟩)),.eq (.agg #[.bool n1,.slice a1 k1 c1,.bool n2,.slice a2 k2 c2]),.eq (.pointer (some ⟨r2,4,none⟩)),.eq (.agg #[.bool m1,.slice b1 j1 d1,.bool m2,.slice b2 j2 d2]),.rat (by decide) ((qs*qt))] [40,41,42,43,44,45,46] rfl rfl rfl rfl ⟨?_,?_,?_,?_,?_,?_,?_,trivial⟩ ?_
       ·exact fun _ _ a _ _ _=>xM rfl (a 5 rfl)
       ·intro A w1 hA hL hS he;have hb:=hL.below;have h10:A.eval (.tmp 10)=.pointer (some ⟨r3,0,none⟩):=hA 10 rfl;have c0:=((B3).on hb).at1 0 _ rfl;have c1:=((B3).on hb).at1 1 _ rfl;have c2:=((B3).on hb).at1 2 _ rfl;have c3:=((B3).on hb).at1 3 _ rfl;exact pZ rfl
       ·intro A w1 hA hL hS he;have h7:A.eval (.tmp 7)=.pointer (some ⟨r1,0,none⟩):=hA 7 rfl;exact pZ rfl
       ·intro A w1 hA hL hS he;have hb:=hL.below;have h42:=eT 42 (he.1 rfl);have c0:=((B1).on hb).at1 4 _ rfl;have c1:=((B1).on hb).at1 5 _ rfl;have c2:=((B1).on hb).at1 6 _ rfl;have c3:=((B1).on hb).at1 7 _ rfl;exact pZ rfl
       ·intro A w1 hA hL hS he;have h9:A.eval (.tmp 9)=.pointer (some ⟨r2,0,none⟩):=hA 9 rfl;exact pZ rfl
       ·intro A w1 hA hL hS he;have hb:=hL.below;have h44:=eT 44 (he.1 rfl);have c0:=((B2).on hb).at1 4 _ rfl;have c1:=((B2).on hb).at1 5 _ rfl;have c2:=((B2).on hb).at1 6 _ rfl;have c3:=((B2).on hb).at1 7 _ rfl;exact pZ rfl
       ·intro A w1 hA hL hS he;have hb:=hS rfl;have h43:=eT 43 (he.1 rfl);have h45:=eT 45 (he.2.1 rfl);have hf0:=eF A 88;exact cP (f:=88) (args:=#[.agg #[.bool n1,.slice a1 k1 c1,.bool n2,.slice a2 k2 c2],.agg #[.bool m1,.slice b1 j1 d1,.bool m2,.slice b2 j2 d2]]) (Au _ _ _ _ _ (hratx.out.on hb) (hrat.out.on hb) hIs.2 hIt.2)
       ·intro w5 hL;have hb5:=hL.below;simp only [aU,af.eq,af.rat,af.of,lZ];rintro v46 h46;go_frame;have hcall:=Hg w.heap.size (kC p q k j) (e1+f1,e2+f2,e3+f3,e4+f4) (qs*qt) _ w5 (hS.out.on hb5) hIst.1 h46 hIst.2 (by rw [sP hkl hj];exact hok.out.c _ _) (by rw [sP hkl hj,List.length_take];have:=hok.out.n;omega);rw [<- show mulT ((e1,e2,e3,e4),qs) ((f1,f2,f3,f4),qt)=((e1+f1,e2+f2,e3+f3,e4+f4),qs*qt) from rfl,<- Fs hjp hjq] at hcall;simp only [NE,bR] at hcall
        go_wp2_with (go_at_call 90;refine hcall.mono ?_;rintro e w6 ⟨rfl,hS6,hsz6,hg6⟩)
        have hl6:Lr (some w.heap.size) 0 w5 w6:=LM (hS.out.on hb5) hS6 hg6;have hbb:=hb.trans (hb5.mono hb.size);go_roundw
        case measure=>simp [intOf];omega
        case rel=>exact⟨j+1,by omega,by go_num,zH hS6,hbb.trans (hl6.belowAt hbb.size (fun k hk=>by cases hk;exact Nat.le_refl _)),zH ((B1.on hb5).lr hl6 (by simp;omega)),zH ((hratx.out.on hb5).lr hl6 (by decide)),hr1⟩
    ·obtain rfl:j=q.length:=by omega
     rw [Fq hjp] at hS;go_wp2;go_roundw
     case measure=>simp [intOf];omega
     case rel=>exact⟨k+1,by omega,by go_num,hS,hb⟩
  ·obtain rfl:k=p.length:=by omega
   rw [List.take_of_length_le (Nat.le_refl _)] at hS;have hcall:=yS _ _ wr hS.out (by have:=hok.out.n;omega)
   go_wp2_with (go_at_call 91;refine hcall.mono ?_;rintro e w2 ⟨v2,rfl,hv2,hb2⟩)
   go_ret;exact⟨_,rfl,hv2,hb.trans (hb2.mono hb.size)⟩
end Go.Proofs.YtopclbeomcggiaaGreat
end
