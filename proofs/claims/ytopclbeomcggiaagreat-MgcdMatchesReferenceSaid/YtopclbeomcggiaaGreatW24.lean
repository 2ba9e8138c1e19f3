/- The map of the sums of coefficients: representation; mpoly.add. -/
import Derived.Test.YtopclbeomcggiaaGreatW21
import Derived.Test.YtopclbeomcggiaaGreatW23
import Derived.Maps.Ext
set_option linter.unusedVariables false
set_option linter.unusedSimpArgs false
set_option maxHeartbeats 16000000
set_option maxRecDepth 100000
section
namespace Go.Proofs.YtopclbeomcggiaaGreat
open Go.RowKit Q Go.WideMaps Go.Maps
abbrev KR:TypeId:=36
theorem qY:ArrKey Tryz.prog KR 3 4:=⟨Tryz.underlying36,kM,kM,kM⟩
theorem oN:Keyed Tryz.prog KR:=Keyed.of_law qY.law
def InR (e:Ex):Prop:=(Lit.int .i64 e.1).wf=true/\(Lit.int .i64 e.2.1).wf=true/\(Lit.int .i64 e.2.2.1).wf=true/\(Lit.int .i64 e.2.2.2).wf=true
theorem Tt{n:Int}(b:-9223372036854775808<=n)(d:n<=9223372036854775807):(Lit.int .i64 n).wf=true:=WalkArith.wf_i64 ⟨b,d⟩
theorem InR.of{e:Ex}{K:Nat}(b:K<=9223372036854775807)(h:-(K:Int)<=e.1/\e.1<=K/\-(K:Int)<=e.2.1/\e.2.1<=K/\-(K:Int)<=e.2.2.1/\e.2.2.1<=K/\-(K:Int)<=e.2.2.2/\e.2.2.2<=K):InR e :=
 ⟨Tt oM oM,Tt oM oM,Tt oM oM,Tt oM oM⟩
def OP (e:Ex):Value:=.agg (bC e).toArray
def Au (e:Ex):Lit:=.string (keyBytes [.int .i64 e.1,.int .i64 e.2.1,.int .i64 e.2.2.1,.int .i64 e.2.2.2])
theorem uu{e:Ex}(h:InR e):keyOf Tryz.prog KR (OP e)=some (Au e):=by
 obtain⟨d,i,j,k⟩:=h;have b:Tryz.prog.keyType KR=true:=kM
 obtain⟨m,hm⟩:∃m,Tryz.prog.types.size=m+1:=⟨Tryz.prog.types.size - 1,by
  have:0<Tryz.prog.types.size:=of_decide_eq_true kM
  omega⟩
 unfold keyOf;simp only[qY.hu];rw[if_pos (by simp[b,Value.formed,qY.hu,qY.size,OP,bC]),hm];unfold Program.keyLits;simp only[qY.hu,Value.cells,OP,bC];rw[if_pos (by rw[qY.size];rfl),show List.range 4=[0,1,2,3]from rfl];simp[qY.one,Program.keyLits,Tryz.underlying3,d,i,j,k,Au]
theorem xD{key:Value}{kl:Lit}(h:keyOf Tryz.prog KR key=some kl):∃e,key=OP e/\InR e/\kl=Au e:=by
 obtain⟨m,hm⟩:∃m,Tryz.prog.types.size=m+1:=⟨Tryz.prog.types.size - 1,by
  have:0<Tryz.prog.types.size:=of_decide_eq_true kM
  omega⟩
 unfold keyOf at h;simp only[qY.hu]at h;split at h
 ·rename_i hf;simp only[Bool.and_eq_true]at hf;have i:=hf.2;simp only[Value.formed,qY.hu,qY.size]at i
  cases key with
  | agg cs =>
   simp at i;obtain⟨l⟩:=cs
   match l,i with
   | [a,b,c,d],_ =>
    rw[hm]at h;unfold Program.keyLits at h;simp only[qY.hu,Value.cells]at h;rw[if_pos (by rw[qY.size];rfl),show List.range 4=[0,1,2,3]from rfl]at h;simp only[List.mapM_cons,List.mapM_nil,qY.one,Option.map_eq_some_iff,bind,Option.bind_eq_some_iff,pure,sJ]at h;obtain⟨y,⟨E,⟨F,k0,z,⟨G,o,B,⟨H,p,C,⟨I,q,D,rfl,rfl⟩,rfl⟩,rfl⟩,rfl⟩,rfl⟩,rfl⟩:=h
    have one:∀{v:Value}{j:List Lit},Tryz.prog.keyLits (m+1) 3 [v]=some j->∃n,v=.int .i64 n/\j=[.int .i64 n]/\(Lit.int .i64 n).wf=true:=by intro v j hv;unfold Program.keyLits at hv;simp only[Tryz.underlying3]at hv;cases v<;>simp at hv;obtain⟨⟨rfl,k⟩,rfl⟩:=hv;exact⟨_,rfl,rfl,k⟩
    obtain⟨r,rfl,rfl,w0⟩:=one (v:=a) (by simpa using k0);obtain⟨n1,rfl,rfl,w1⟩:=one (v:=b) (by simpa using o);obtain⟨n2,rfl,rfl,u⟩:=one (v:=c) (by simpa using p);obtain⟨s,rfl,rfl,x⟩:=one (v:=d) (by simpa using q);exact⟨(r,n1,n2,s),rfl,⟨w0,w1,u,x⟩,rfl⟩
  | _=>simp at i
 ·cases h
theorem MZ{e f:Ex}(h:OP e=OP f):e=f:=by
 have b:bC e=bC f:=by simp only[OP,Value.agg.injEq]at h;exact Array.toList_inj.2 h
 simp only[bC,List.cons.injEq,Value.int.injEq,true_and,and_true]at b;exact Ex.ext' b.1 b.2.1 b.2.2.1 b.2.2.2
theorem M4{e f:Ex}(he:InR e)(hf:InR f)(h:Au e=Au f):e=f :=
 MZ (oN.inj (uu he) (by rw[h];exact uu hf))
def IP:Value->Bool
 | .agg cs=>match cs.toList with
  | [.bool _,.slice _ _ _,.bool _,.slice _ _ _]=>true
  | _=>false
 | _=>false
def held (v:Value):Option (DataW Value × List MemPlace):=if IP v=true then some (.held v,[])else none
theorem AU(n n':Bool)(a a':Option Addr)(k c k' c':Nat):held (.agg #[.bool n,.slice a k c,.bool n',.slice a' k' c'])=some (.held (.agg #[.bool n,.slice a k c,.bool n',.slice a' k' c']),[]):=rfl
theorem xE{v:Value}{y:DataW Value × List MemPlace}(h:held v=some y):y=(.held v,[])/\∃n a k c n' a' k' c',v=.agg #[.bool n,.slice a k c,.bool n',.slice a' k' c']:=by
 unfold held at h;split at h
 ·rename_i b;cases h;refine⟨rfl,?_⟩;unfold IP at b;split at b
  ·rename_i cs;split at b
   ·rename_i d;obtain⟨l⟩:=cs;simp only at d;subst d;exact⟨_,_,_,_,_,_,_,_,rfl⟩
   ·cases b
  ·cases b
 ·cases h
def lm (w:World) (b:Nat) (l:List ai):Prop:=∃D,w.ownsMap Tryz.prog KR held b l.length D/\(∀t∈l,InR t.1) /\
 ∀e,InR e->((∃t∈l,t.1=e)->∃v,(∀z,D.atKey (Au e) z=.held v)/\bM w v (cf l e))/\((∀t∈l,t.1≠e)->∀z,D.atKey (Au e) z=z)
theorem lm.lt{w:World}{b:Nat}{l:List ai}(h:lm w b l):b<w.heap.size:=let ⟨_,h,_⟩:=h;h.lt
theorem lm.on{w w':World}{b:Nat}{l:List ai}(h:lm w b l)(hb:Below w.heap.size w w'):lm w' b l:=by obtain⟨D,i,j,d⟩:=h;refine⟨D,i.kept (bW hb none) sM,j,λe he=>⟨λm=>?_,(d e he).2⟩⟩;obtain⟨v,hv,k⟩:=(d e he).1 m;exact⟨v,hv,k.on hb⟩
theorem lm.lr{g:Option Nat}{T:TypeId}{w w':World}{b:Nat}{l:List ai}(h:lm w b l)(j:Lr g T w w')(n:uT≠T)(d:some b≠g):lm w' b l:=by obtain⟨D,k,m,i⟩:=h;refine⟨D,k.kept j.1 d,m,λe he=>⟨λp=>?_,(i e he).2⟩⟩;obtain⟨v,hv,o⟩:=(i e he).1 p;exact⟨v,hv,o.lr j n⟩
theorem lm.made(w:World):lm (w.alloc (.map #[] 0)) w.heap.size [] :=
 ⟨.map [],World.ownsMap_made w _ _ _,(λ_ h=>absurd h sM),λe _=>⟨λ⟨t,b,_⟩=>absurd b sM,λ_ z=>rfl⟩⟩
theorem Gt(l:List ai)(t:ai)(e:Ex):cf (l++[t]) e=cf l e+if t.1=e then t.2 else 0:=by rw[oV,bJ,jv];grind
theorem lm.store{w w':World}{b:Nat}{l:List ai}{e:Ex}{q:Rat}{v:Value}{D:DataW Value}(B:w.ownsMap Tryz.prog KR held b l.length D)(r:∀t∈l,InR t.1)(he:InR e)
  (y:∀e,InR e->((∃t∈l,t.1=e)->∃v,(∀z,D.atKey (Au e) z=.held v)/\bM w v (cf l e))/\((∀t∈l,t.1≠e)->∀z,D.atKey (Au e) z=z))
  (j:w'.ownsMap Tryz.prog KR held b (l.length+1) (D.put (Au e) (.held v))) (hg:w.grownBy w' (some b)) (hv:bM w v (cf (l++[(e,q)]) e)):lm w' b (l++[(e,q)]):=by
 have x:kR w b 0:=by obtain⟨es,clock,hb,_⟩:=B;exact kR.map hb
 have C:Lr (some b) 0 w w':=⟨hg,λk E=>by
  cases E;refine⟨x,?_⟩
  obtain⟨es,clock,hb,_⟩:=j;exact kR.map hb⟩
 have m:WideAt.IsKeyLit (Au e):=oN.key (uu he);refine⟨D.put (Au e) (.held v),by rw[List.length_append];exact j,?_,λf hf=>?_⟩
 ·intro t d;rcases List.mem_append.1 d with d|d
  ·exact r t d
  ·simp at d;subst d;exact he
 ·by_cases i:f=e
  ·subst i;refine⟨λ_=>⟨v,λz=>atKey_put_same (B.isMap) m _ z,hv.lr C dM⟩,λs=>absurd rfl (s (f,q) sM)⟩
  ·have n:Au f≠Au e:=λh=>i (M4 hf he h);have p:cf (l++[(e,q)]) f=cf l f:=by rw[Gt,if_neg (λh=>i h.symm)];grind
   refine⟨λ⟨t,d,o⟩=>?_,λs z=>?_⟩
   ·rcases List.mem_append.1 d with d|d
    ·obtain⟨u,hu,F⟩:=(y f hf).1 ⟨t,d,o⟩;exact⟨u,λz=>by rw[atKey_put_other n];exact hu z,by rw[p];exact F.lr C dM⟩
    ·simp at d;subst d;exact absurd o.symm i
   ·rw[atKey_put_other n];exact(y f hf).2 (λt d=>s t (by simp[d])) z
theorem QE(w:World):(zeroValue 41).run Tryz.prog w=.ok (.agg #[.bool false,.slice none 0 0,.bool false,.slice none 0 0]) w:=kM
theorem fE{w:World}{v:Value}{q:Rat}(h:bM w v q):∃n a k c n' a' k' c',v=.agg #[.bool n,.slice a k c,.bool n',.slice a' k' c']:=by obtain⟨n,a,k,c,n',a',k',c',rfl,-⟩:=h;exact⟨_,_,_,_,_,_,_,_,rfl⟩
theorem IQ(b:Nat)(l:List ai)(e:Ex)(q:Rat)(v:Value)(w:World)(hS:lm w b l)(he:InR e)(hv:bM w v q)(hq:Rk q)(s:Rk (cf l e))(F:l.length<=1000000000) :
  Calls Tryz.prog 90 #[.map (some b),OP e,v] w (λC w'=>C=.returned (.tuple #[])/\lm w' b (l++[(e,q)])/\w.heap.size<=w'.heap.size/\w.grownBy w' (some b)):=by
 obtain⟨D,hD,p,h3⟩:=hS;have i:=uu he;have r:l.length<maxLen:=by unfold maxLen;omega
 have G:=hD.lt;by_cases hex:∃t∈l,t.1=e
 ·obtain⟨u,hu,hr⟩:=(h3 e he).1 hex;obtain⟨s1,a1,l1,c1,s2,a2,l2,c2,rfl⟩:=fE hv;obtain⟨s3,a3,l3,c3,s4,a4,l4,c4,rfl⟩:=fE hr;have m:=has_true_of_atKey hu;have key:=OP e;simp only[OP,bC]at i ⊢;obtain⟨x1,hx1⟩:∃x,x=e.1:=⟨_,rfl⟩
  go_enter Tryz.func90,Tryz.ntmps90
  go_upto_region 1 with (fail)
  refine xc λW hb0 B1 B2 y=>?_;have j:=hD.kept (bW hb0 none) sM;have z1:=B1.at1 0 _ rfl;have z2:=B1.at1 1 _ rfl;have z3:=B1.at1 2 _ rfl;have z4:=B1.at1 3 _ rfl;have y1:=B2.at1 0 _ rfl;have y2:=B2.at1 1 _ rfl;have y3:=B2.at1 2 _ rfl;have y4:=B2.at1 3 _ rfl
  go_upto_if 14 with (at_lookup;refine wpList_lookup_own_ok _ rfl _ _ 91 rfl KR 41 oN Tryz.underlying91 held (QE _) (.held _) [] (AU _ _ _ _ _ _ _ _) b l.length D rfl j _ _ rfl i ?_;intro L J o;have h9:=(xE o).1;rw[hu]at h9;simp only[Prod.mk.injEq,DataW.held.injEq]at h9;obtain⟨rfl,_⟩:=h9;rw[m])
  refine jb λW2 hb2 B3 hsz2=>?_;clear z1 z2 z3 z4 y1 y2 y3 y4;have d:=hb0.trans (hb2.mono hb0.size);replace B1:=B1.on hb2;replace B2:=B2.on hb2;have hDW2:=j.kept (bW hb2 none) sM;replace hv:=hv.on d;replace hr:=hr.on d;have z1:=B1.at1 0 _ rfl;have z2:=B1.at1 1 _ rfl;have z3:=B1.at1 2 _ rfl;have z4:=B1.at1 3 _ rfl;have y1:=B2.at1 0 _ rfl;have y2:=B2.at1 1 _ rfl;have y3:=B2.at1 2 _ rfl;have y4:=B2.at1 3 _ rfl;have x1:=B3.at1 0 _ rfl;have x2:=B3.at1 1 _ rfl;have x3:=B3.at1 2 _ rfl;have x4:=B3.at1 3 _ rfl
  go_upto_region 4 with (first
   | (go_at_call 113;refine(Io _ _ _ _ _ hr hv s hq).mono ?_;rintro C w3 ⟨v3,rfl,hv3,hb3⟩;obtain⟨s5,a5,l5,c5,s6,a6,l6,c6,rfl⟩:=fE hv3)
   | (refine az rfl _ (.tmp 5) (.tmp 17) rfl _ _ _ _ rfl rfl (B2.on hb3) rfl dA dJ ?_;intro w4 R4 gr4))
  have hB2:=B2.on hb3;have hl4:Lr (some (w.heap.size+1)) 41 w3 w4:=⟨gr4,λk I=>by cases I;exact⟨hB2.noOther,R4.noOther⟩⟩;have hD4:=(hDW2.kept (bW hb3 none) sM).kept gr4 (by simp;omega);have hv4:=hv3.lr hl4 dM;have hb4:Below w.heap.size w w4:=(d.trans (hb3.mono d.size)).trans (aH gr4 (by have:=hb3.size;have:=d.size;omega) oM);have n:=(B1.on hb3).grown gr4 oM;clear z1 z2 z3 z4 y1 y2 y3 y4 x1 x2 x3 x4 B2 hB2 B3;have z1:=n.at1 0 _ rfl;have z2:=n.at1 1 _ rfl;have z3:=n.at1 2 _ rfl;have z4:=n.at1 3 _ rfl;have y1:=R4.at1 0 _ rfl;have y2:=R4.at1 1 _ rfl;have y3:=R4.at1 2 _ rfl;have y4:=R4.at1 3 _ rfl
  go_wp2_with (at_mapUpdate;refine wpList_mapUpdate_own _ rfl _ _ _ 91 rfl KR 41 oN Tryz.underlying91 held b l.length D rfl hD4 r _ _ _ rfl rfl i (.held _) [] (AU _ _ _ _ _ _ _ _) ?_;intro w5 hown5 hg5)
  go_end0
  refine⟨rfl,lm.store hD4 p he (λf hf=>⟨λB=>?_,(h3 f hf).2⟩) hown5 hg5 ?_,Nat.le_trans hb4.size hg5.size,qJ (bW hb4 _) hg5⟩
  ·obtain⟨v6,h6,h7⟩:=(h3 f hf).1 B;exact⟨v6,h6,h7.on hb4⟩
  ·rw[Gt,if_pos rfl];exact hv4
 ·have hu:=(h3 e he).2 (λt z h=>hex ⟨t,z,h⟩);have hz:cf l e=0:=nZ (λt z h=>hex ⟨t,z,h⟩);obtain⟨s1,a1,l1,c1,s2,a2,l2,c2,rfl⟩:=fE hv;have m:=has_false_of_atKey hu;simp only[OP,bC]at i ⊢
  go_enter Tryz.func90,Tryz.ntmps90
  go_upto_region 1 with (fail)
  refine xc λW hb0 B1 B2 y=>?_;have j:=hD.kept (bW hb0 none) sM;have z1:=B1.at1 0 _ rfl;have z2:=B1.at1 1 _ rfl;have z3:=B1.at1 2 _ rfl;have z4:=B1.at1 3 _ rfl;have y1:=B2.at1 0 _ rfl;have y2:=B2.at1 1 _ rfl;have y3:=B2.at1 2 _ rfl;have y4:=B2.at1 3 _ rfl
  go_upto_if 14 with (at_lookup;refine wpList_lookup_own_ok _ rfl _ _ 91 rfl KR 41 oN Tryz.underlying91 held (QE _) (.held _) [] (AU _ _ _ _ _ _ _ _) b l.length D rfl j _ _ rfl i ?_;intro L J o;have h9:=(xE o).1;rw[hu]at h9;simp only[Prod.mk.injEq,DataW.held.injEq]at h9;obtain⟨rfl,_⟩:=h9;rw[m])
  refine jb λW2 hb2 B3 hsz2=>?_;clear z1 z2 z3 z4 y1 y2 y3 y4;have d:=hb0.trans (hb2.mono hb0.size);replace B1:=B1.on hb2;replace B2:=B2.on hb2;have hD4:=j.kept (bW hb2 none) sM;replace hv:=hv.on d;have z1:=B1.at1 0 _ rfl;have z2:=B1.at1 1 _ rfl;have z3:=B1.at1 2 _ rfl;have z4:=B1.at1 3 _ rfl;have y1:=B2.at1 0 _ rfl;have y2:=B2.at1 1 _ rfl;have y3:=B2.at1 2 _ rfl;have y4:=B2.at1 3 _ rfl
  go_wp2_with (at_mapUpdate;refine wpList_mapUpdate_own _ rfl _ _ _ 91 rfl KR 41 oN Tryz.underlying91 held b l.length D rfl hD4 r _ _ _ rfl rfl i (.held _) [] (AU _ _ _ _ _ _ _ _) ?_;intro w5 hown5 hg5)
  go_end0
  refine⟨rfl,lm.store hD4 p he (λf hf=>⟨λB=>?_,(h3 f hf).2⟩) hown5 hg5 ?_,Nat.le_trans d.size hg5.size,qJ (bW d _) hg5⟩
  ·obtain⟨v6,h6,h7⟩:=(h3 f hf).1 B;exact⟨v6,h6,h7.on d⟩
  ·rw[Gt,if_pos rfl,hz,Rat.zero_add];exact hv
abbrev TC:=Ex × (Bool × Option Addr × Nat × Nat) × (Bool × Option Addr × Nat × Nat)
def jF (x:TC):List Value:=bC x.1++[.bool x.2.1.1,.slice x.2.1.2.1 x.2.1.2.2.1 x.2.1.2.2.2,.bool x.2.2.1,.slice x.2.2.2.1 x.2.2.2.2.1 x.2.2.2.2.2]
theorem qg(x:TC):(jF x).length=8:=rfl
theorem QF(x:TC):∀v∈jF x,v.oneCell'=true:=by intro v hv;simp only[jF,bC,List.cons_append,List.nil_append,List.mem_cons,List.not_mem_nil,or_false]at hv;rcases hv with rfl|rfl|rfl|rfl|rfl|rfl|rfl|rfl<;>rfl
def WO (w:World) (x:TC) (t:ai):Prop:=x.1=t.1/\aZ w x.2.1.1 (.slice x.2.1.2.1 x.2.1.2.2.1 x.2.1.2.2.2) t.2.num/\aZ w x.2.2.1 (.slice x.2.2.2.1 x.2.2.2.2.1 x.2.2.2.2.2) (t.2.den:Int)
theorem WO.term{w:World}{x:TC}{t:ai}(h:WO w x t):qf w (jF x) t:=by obtain⟨b,d,e⟩:=h;exact⟨_,by rw[jF,b],_,_,_,_,_,_,_,_,rfl,d,e⟩
theorem Vv{w:World}{cs:List Value}{t:ai}(h:qf w cs t):∃x,cs=jF x/\WO w x t:=by obtain⟨r,rfl,n,a,k,c,n',a',k',c',rfl,b,d⟩:=h;exact⟨(t.1,(n,a,k,c),(n',a',k',c')),rfl,rfl,b,d⟩
inductive vH (w:World):List TC->List ai->Prop
 | nil:vH w [] []
 | cons {x t d l}:WO w x t->vH w d l->vH w (x::d) (t::l)
theorem M5{w:World}:∀{l:List ai}{b:List Value},eO qf w b l->∃d,b=d.flatMap jF/\vH w d l
 | [],b,h=>⟨[],by unfold eO at h;subst h;rfl,.nil⟩
 | t::l,b,⟨c,r,h1,hc,hr⟩=>by obtain⟨x,rfl,e⟩:=Vv hc;obtain⟨d,rfl,hd⟩:=M5 hr;exact⟨x::d,by rw[h1];rfl,.cons e hd⟩
theorem vH.length{w:World}{d:List TC}{l:List ai}(h:vH w d l):d.length=l.length:=by
 induction h with
 | nil=>rfl
 | cons _ _ b=>simp[b]
theorem vH.elems{w:World}{d:List TC}{l:List ai}(h:vH w d l):eO qf w (d.flatMap jF) l:=by
 induction h with
 | nil=>rfl
 | cons b _ e=>exact⟨_,_,rfl,b.term,e⟩
theorem vH.perm{w:World}{d d':List TC}(hp:d.Perm d'):∀{l:List ai},vH w d l->∃b,l.Perm b/\vH w d' b:=by
 induction hp with
 | nil=>intro l h;exact⟨l,.refl _,h⟩
 | cons x _ o =>
  intro l h
  cases h with
  | cons j h=>obtain⟨b,e,i⟩:=o h;exact⟨_::b,e.cons _,.cons j i⟩
 | swap x y d =>
  intro l h
  cases h with
  | cons j h=>cases h with
   | cons n h=>exact⟨_,.swap _ _ _,.cons n (.cons j h)⟩
 | trans _ _ ih1 ih2 =>
  intro l h;obtain⟨p,e,i⟩:=ih1 h;obtain⟨l2,k,m⟩:=ih2 i;exact⟨l2,e.trans k,m⟩
theorem xG(d:List TC):(Go.Sort.flatK jF 8 d.toArray).toList=d.flatMap jF:=by
 apply List.ext_getElem?;intro j
 have i:∀d:List TC,(d.flatMap jF).length=d.length*8:=by
  intro d;induction d with
  | nil=>rfl
  | cons x d l=>rw[List.flatMap_cons,List.length_append,l,qg,List.length_cons];omega
 have e:∀(d:List TC)(j:Nat),j<d.length*8->(d.flatMap jF)[j]?=some ((jF d[j/8]!)[j%8]!):=by
  intro d
  induction d with
  | nil=>intro j h;simp at h
  | cons x d l =>
   intro j h;rw[List.flatMap_cons];by_cases b:j<8
   ·rw[List.getElem?_append_left (by rw[qg];exact b),Nat.div_eq_of_lt b,Nat.mod_eq_of_lt b];simp only[List.getElem!_cons_zero];rw[gE (by rw[qg];exact b),getElem!_pos (jF x) j (by rw[qg];exact b)]
   ·rw[List.getElem?_append_right (by rw[qg];omega),qg,l (j-8) (by simp at h;omega)];rw[(oM:j/8=(j-8)/8+1),(oM:j%8=(j-8)%8)];simp only[List.getElem!_cons_succ]
 by_cases b:j<d.length*8
 ·rw[e d j b];have k:j<(Go.Sort.flatK jF 8 d.toArray).size:=by simpa using b
  rw[Array.getElem?_toList,Array.getElem?_eq_getElem k];have:=Go.Sort.get_flatK jF 8 d.toArray j (by simpa using b);rw[getElem!_pos (Go.Sort.flatK jF 8 d.toArray) j k]at this;rw[this];simp
 ·rw[gN (by simp;omega),gN (by rw[i];omega)]
def Tu (x y:TC):Int:=vY y.1 x.1
theorem X5(x y:TC):ltOf Tu x y=x.1.gt y.1:=by
 unfold ltOf Tu;rcases Cv y.1 x.1 with ⟨h,b⟩|⟨h,b⟩|⟨h,b⟩
 ·rw[b,Ex.gt_asymm h];rfl
 ·rw[b,h];rfl
 ·rw[b,h,Ex.gt_irrefl];rfl
theorem WP:Go.Sort.SWO (ltOf Tu) where
 irrefl x:=by rw[X5];exact Ex.gt_irrefl _
 trans x y z h1 h2:=by rw[X5]at *;exact Ex.gt_trans h1 h2
 ntrans x y z h1 h2:=by
  rw[X5]at *;by_cases e1:x.1=y.1
  ·rw[e1];exact h2
  ·by_cases b:y.1=z.1
   ·rw[<-b];exact h1
   ·exact Ex.gt_asymm (Ex.gt_trans (Ex.gt_total h2 b) (Ex.gt_total h1 e1))
theorem KS(x y:TC)(w:World):Calls Tryz.prog 116 #[.agg (jF x).toArray,.agg (jF y).toArray] w (λb w'=>b=.returned (.int .i64 (Tu x y))/\Gr w w'):=by
 obtain⟨⟨x1,x2,x3,x4⟩,⟨n1,a1,k1,c1⟩,n2,a2,k2,c2⟩:=x;obtain⟨⟨y1,y2,y3,y4⟩,⟨m1,b1,j1,d1⟩,m2,b2,j2,d2⟩:=y;have hc:=λW=>Cw (y1,y2,y3,y4) (x1,x2,x3,x4) W;simp only[jF,bC,List.cons_append,List.nil_append,Tu]at hc ⊢;generalize vY (y1,y2,y3,y4) (x1,x2,x3,x4)=r at hc ⊢
 go_enter Tryz.func116,Tryz.ntmps116
 go_wp2_with (go_at_call 117;refine(hc _).mono ?_;rintro e w' ⟨rfl,hg⟩)
 go_ret;exact⟨rfl,((Gr.alloc _ _).trans (Gr.alloc _ _)).trans hg⟩
theorem QG(blk off size:Nat)(w:World):CmpLays Tryz.prog 116 #[] jF 8 Tu blk off size w:=λ_ _ _ _ x y=>KS x y _
theorem Eh{w:World}{g n:Nat}{b:Array Value}{d':Array TC}{os:Array Obj}(hg:w.heap[g]?=some (.cells b aJ (0,0))) :
  (sortWorldK jF 8 w g 0 n d' os).heap[g]?=some (.cells (Go.Sort.putCells id 0 (Go.Sort.flatK jF 8 d') b) aJ (0,0))/\w.grownBy (sortWorldK jF 8 w g 0 n d' os) (some g):=by
 have d:=rJ hg;refine⟨?_,rfl,rfl,rfl,by simp[sortWorldK,Go.Sort.grow,Go.Sort.putRowK,Go.Sort.putRow,Go.Sort.mapBlock,Go.Sort.ahead],λk i h=>?_⟩
 ·simp only[sortWorldK,Go.Sort.grow,Go.Sort.putRowK,Go.Sort.putRow,Go.Sort.mapBlock,Go.Sort.ahead];rw[Array.getElem?_append_left (by simpa using d),Array.getElem?_modify,if_pos rfl,hg]
  rfl
 ·simp only[sortWorldK,Go.Sort.grow,Go.Sort.putRowK,Go.Sort.putRow,Go.Sort.mapBlock,Go.Sort.ahead];rw[Array.getElem?_append_left (by simpa using i),Array.getElem?_modify,if_neg (λe=>h (by rw[e]))]
theorem Ei{w:World}{D:List TC}{l:List ai}(h:vH w D l)(hp:D.Pairwise (λx y=>y.1.gt x.1=false)):l.Pairwise (λs t=>t.1.gt s.1=false):=by
 induction h with
 | nil=>exact .nil
 | cons e n i =>
  obtain⟨j,k⟩:=List.pairwise_cons.1 hp;refine List.pairwise_cons.2 ⟨λt d=>?_,i k⟩
  have:∀{D:List TC}{l:List ai},vH w D l->∀t∈l,∃x∈D,WO w x t:=by
   intro D l h
   induction h with
   | nil=>simp
   | cons e _ i =>
    intro y b;rcases List.mem_cons.1 b with rfl|b
    ·exact⟨_,sM,e⟩
    ·obtain⟨t,d,h⟩:=i y b;exact⟨t,by simp[d],h⟩
  obtain⟨y,b,m⟩:=this n t d;rw[<-m.1,<-e.1];exact j y b
theorem vH.lr{g:Option Nat}{T:TypeId}{w w':World}{d:List TC}{l:List ai}(h:vH w d l)(i:Lr g T w w')(e:uT≠T):vH w' d l:=by
 induction h with
 | nil=>exact .nil
 | cons b _ j=>exact .cons ⟨b.1,b.2.1.lr i e,b.2.2.lr i e⟩ j
theorem QH(base:Nat)(v:Value)(l:List ai)(w:World)(ho:bV base w v l)(a7:v≠.slice none 0 0)(aa:l.length<=1000000000) :
  Calls Tryz.prog 115 #[v,.func (.func 116) #[] #[]] w (λen w'=>en=.returned (.tuple #[])/\∃F,l.Perm F/\F.Pairwise (λs t=>t.1.gt s.1=false)/\bV base w' v F/\Lr v.ownBlock aJ w w'):=by
 obtain⟨xs,⟨Y,S⟩,hex⟩:=ho;rcases S with ⟨h0,_⟩|⟨g,cap,r,rfl,a0,hg,N,a1,G,X⟩
 ·exact absurd h0 a7
 obtain⟨d,rfl,hd⟩:=M5 hex;have u:=hd.length;have eg:∀args w,(callFunc 116 args).run Tryz.prog w=.ok (.enter 116 args) w:=enters_of Tryz.func116 kM rfl
 have hH:Go.Sort.HoldsK jF 8 w g 0 d.toArray:=by
  intro j p;rw[Go.Sort.size_flatK]at p
  have e1:(Go.Sort.flatK jF 8 d.toArray)[j]! = (d.flatMap jF)[j]!:=by
   rw[<-xG d];have m:j<(Go.Sort.flatK jF 8 d.toArray).size:=by rw[Go.Sort.size_flatK];exact p
   rw[getElem!_pos (Go.Sort.flatK jF 8 d.toArray) j m,getElem!_pos (Go.Sort.flatK jF 8 d.toArray).toList j (by simpa using m)];simp
  have o:j<(d.flatMap jF).length:=by rw[Y];simpa[u,aO]using p
  refine⟨?_,by rw[Nat.zero_add];exact frozen_of_row w g j r aJ hg⟩;rw[Nat.zero_add,cell_of_row w g j r aJ (0,0) hg];show _=some (Go.Sort.flatK jF 8 d.toArray)[j]!;rw[e1,getElem!_pos (d.flatMap jF) j o,<-gE o,<-X,List.getElem?_take,if_pos (by rw[Y]at o;exact o)];simp
 have a6:g<w.heap.size:=rJ hg;have I:d.toArray.size=l.length:=by simp[u]
 have q:Go.Lib.bitLen d.toArray.size<4611686018427387904:=Nat.lt_of_le_of_lt (Go.Lib.bitLen_le d.toArray.size 62 oM oM) oM;have hp:=AnyQ.pdqsortCmpFunc_all Qo 8 Tryz.isAgg43 Tryz.sizeOf43 jF Tu 116 #[] WP g 0 cap d.toArray w eg (QG g 0 _ w) ⟨qg,QF,hH,a6⟩ (d.toArray.size+1) 0 d.toArray.size (Go.Lib.bitLen d.toArray.size) d.toArray w oM rfl (SWK.start hH) (Nat.zero_le _) (nL _) oM q (Or.inl rfl);have Z:=Go.Sort.pdq_sorts (ltOf Tu) WP d.toArray 0 d.toArray.size (Go.Lib.bitLen d.toArray.size) true true (Nat.zero_le _) (nL _) (Or.inl rfl);have hb:=Any.bits_Len Ih (d.toArray.size:Int) w oM oM;rw[Int.toNat_natCast]at hb;change Calls Tryz.prog 134 _ _ _ at hb;change Calls Tryz.prog 133 _ _ _ at hp;generalize Go.Sort.pdq (ltOf Tu) d.toArray 0 d.toArray.size (Go.Lib.bitLen d.toArray.size) true true=d' at hp Z;generalize Go.Lib.bitLen d.toArray.size=bl at hp hb q;rw[I]at hp hb;replace Z:=zH Z;replace hH:=zH hH;replace hd:=zH hd;clear eg hex X;have wr:IntKind.u64.wrap (l.length:Int)=l.length:=by simp[IntKind.wrap,IntKind.bits,IntKind.signed];omega
 go_enter Tryz.func115,Tryz.ntmps115
 go_wp2_with (first|(go_at_call 134;refine hb.mono ?_;rintro e w' ⟨rfl,hw⟩;rw[hw];clear hw)|(go_at_call 133;refine hp.mono ?_;rintro e w' ⟨rfl,n,os,rfl⟩))
 go_end0
 obtain⟨⟨m,-,z⟩,B⟩:=Z.out;have hd:=hd.out;obtain⟨D,rfl⟩:∃D:List TC,d'=D.toArray:=⟨d'.toList,sM⟩;simp only[List.size_toArray]at m
 have a8:d.Perm D:=by have:=z;simp only[List.size_toArray,List.extract_toArray,List.extract_eq_take_drop,Nat.sub_zero,List.drop_zero]at this;rw[tL oM,tL (nL _)]at this;exact this.symm
 obtain⟨F,L,hD⟩:=hd.perm a8
 have a9:D.Pairwise (λx y=>y.1.gt x.1=false):=by rw[List.pairwise_iff_getElem];intro i j hi p a4;have:=B i j (Nat.zero_le _) a4 (by simp;omega);rw[X5,getElem!_pos D.toArray i (by simpa using hi),getElem!_pos D.toArray j (by simpa using p)]at this;simpa using this
 obtain⟨J,a3⟩:=Eh (n:=n) (d':=D.toArray) (os:=os) hg
 have M:Lr (some g) aJ w (sortWorldK jF 8 w g 0 n D.toArray os):=⟨a3,λk hk=>by
  cases hk
  exact⟨λC T' fr hC=>by rw[hg]at hC;cases hC;rfl,λC T' fr hC=>by rw[J]at hC;cases hC;rfl⟩⟩
 have b:F.length=l.length:=L.length_eq.symm
 have a2:(D.flatMap jF).length=l.length*8:=by have:=(hD.elems).length (e:=aO);rw[this,b];rfl
 refine⟨rfl,F,L,Ei hD a9,⟨D.flatMap jF,⟨by rw[a2,b];rfl,.inr ⟨g,cap,_,by rw[b],a0,J,by rw[b];exact N,a1,by simp[Go.Sort.putCells];exact G,?_⟩⟩,(hD.lr M dM).elems⟩,M⟩;rw[b,<-xG];have hF:(Go.Sort.flatK jF 8 D.toArray).size=l.length*8:=by rw[Go.Sort.size_flatK,List.size_toArray,m,u]
 apply List.ext_getElem?;intro j;rw[List.getElem?_take,show aO.sz=8 from rfl];by_cases p:j<l.length*8
 ·have a5:j<r.size:=by
   rw[G];have:l.length*8<=cap*8:=Nat.mul_le_mul_right 8 N;show j<cap*8;omega
  rw[if_pos p,Array.getElem?_toList,Array.getElem?_toList,Go.Sort.putCells,Array.getElem?_mapIdx,Array.getElem?_eq_getElem a5,Array.getElem?_eq_getElem oM];simp only[Option.map_some,sJ];rw[if_pos oM,Nat.sub_zero,getElem!_pos (Go.Sort.flatK jF 8 D.toArray) j oM]
  rfl
 ·rw[if_neg p,gN (by simp;omega)]
end Go.Proofs.YtopclbeomcggiaaGreat
end
section
namespace Q
open Go Go.RowKit
theorem fV{α:Type}{e:El α}{P:Program}{w:World}{ops:Array Oper}{rest:List Oper}{o:Oper}{a:Act}{Q:Exit->Act->World->Prop}(p:o.guard=none)(s x:Operand)(t:TypeId)
  (E:o.op=.call { callee:=.builtin .append,args:=#[s,x],argTypes:=#[t,t] }) (G:P.underlying t=some (.slice e.T)) (q:∃z bytes,(P.info? e.T).map (λi=>(i.zero,i.size,i.bytes))=some (some z,e.sz,bytes)/\z.cells.size=e.sz/\bytes<=100000)
  {base:Nat} {l r:List α} {v u:Value} (F:a.eval s=v) (H:a.eval x=u) (k:di e base w v l) (hu:bU e w u r) (j:l.length+r.length<=1000000000) (b:base<=w.heap.size)
  (h:∀d w',di e base w' d (l++r)->Lr v.ownBlock e.T w w'->(d.ownBlock=v.ownBlock\/d.ownBlock=some w.heap.size)->wpList P ops Q rest (a.put o.dst d) w'):wpList P ops Q (o::rest) a w:=by
 refine wpList_plain p λK D=>?_;obtain⟨z,bytes,q,hz,n⟩:=q;obtain⟨d,w',m,y,B,C⟩:=qK (ty:=o.type) G q hz k hu j n b;unfold Oper.wp;rw[qL E (by rw[F,H];exact m)];exact D _ _ (h d w' y B C)
theorem mh{α:Type}{e:El α}{w:World}{b:Nat}{cs:List Value}{t:α}(d:Blk w b e.T cs)(he:e.E w cs t):bU e w (.slice (some ⟨b,0,none⟩) 1 1) [t] :=
 ⟨_,1,cs,rfl,nL _,d.at,eO.single he⟩
end Q
namespace Go.Proofs.YtopclbeomcggiaaGreat
open Go.RowKit Q Go.WideMaps Go.Maps
theorem M6:∃i,Tryz.prog.info? 43=some i/\i.zero=some (.agg #[.int .i64 0,.int .i64 0,.int .i64 0,.int .i64 0,.bool false,.slice none 0 0,.bool false,.slice none 0 0])/\i.size=8/\i.bytes=96:=by obtain⟨i,b,d,h,j⟩:=info_parts (P:=Tryz.prog) (e:=43) (z:=.agg #[.int .i64 0,.int .i64 0,.int .i64 0,.int .i64 0,.bool false,.slice none 0 0,.bool false,.slice none 0 0]) (size:=8) (bytes:=96) kM;exact⟨i,b,d,h,j⟩
theorem aW{T:TypeId}(h:uT≠T):aO.ok T:=h
theorem bM.cellsC{w:World}{cs:List Value}{q:Rat}(h:bM w (.agg cs.toArray) q):gM w cs q:=by
 obtain⟨n,a,k,c,n',a',k',c',e,b,d⟩:=h
 have:cs=[.bool n,.slice a k c,.bool n',.slice a' k' c']:=by simp only[Value.agg.injEq]at e;have:=congrArg Array.toList e;simpa using this
 exact⟨n,a,k,c,n',a',k',c',this,b,d⟩
theorem sj{q:Rat}(h:q≠0):jm q.num≠0:=by have:q.num≠0:=λb=>h (Rat.num_eq_zero.1 b);rcases vQ q.num with ⟨_,b⟩|⟨b,_⟩|⟨_,b⟩<;>omega
structure Ej (l:List ai) (left:Lit->Bool) (L:List ai):Prop where
 apart:L.Pairwise (λs t=>s.1≠t.1)
 ok:∀t∈L,t.1.nat=true/\t.2=cf l t.1/\t.2≠0/\InR t.1/\left (Au t.1)=false
 all:∀e,InR e->(∃t∈l,t.1=e)->left (Au e)=false->e.nat=true->cf l e≠0->(e,cf l e)∈L
theorem Ej.start{l:List ai}{left:Lit->Bool}(h:∀e,InR e->(∃t∈l,t.1=e)->left (Au e)=true):Ej l left [] :=
 ⟨.nil,(λ_ h=>absurd h sM),λe he d b=>by rw[h e he d]at b;cases b⟩
theorem vZ{e f:Ex}(he:InR e)(hf:InR f):(Au e).sameKey (Au f)=decide (e=f):=by
 by_cases h:e=f
 ·subst h;rw[WideAt.sameKey_self (oN.key (uu he))];simp
 ·rw[sameKey_ne (λb=>h (M4 he hf b))];simp[h]
theorem Ej.skip{l L:List ai}{left:Lit->Bool}{e:Ex}(h:Ej l left L)(he:InR e)(i:e.nat=false\/cf l e=0):Ej l (λz=>left z && !z.sameKey (Au e)) L :=
 ⟨h.apart,λt k=>by have:=h.ok t k;exact⟨this.1,this.2.1,this.2.2.1,this.2.2.2.1,by rw[this.2.2.2.2];rfl⟩,λf hf m j d hc=>by
  rw[vZ hf he]at j;by_cases b:f=e
  ·subst b;rcases i with h'|h'
   ·rw[h']at d;cases d
   ·exact absurd h' hc
  ·exact h.all f hf m (by simpa[b]using j) d hc⟩
theorem Ej.take{l L:List ai}{left:Lit->Bool}{e:Ex}(h:Ej l left L)(he:InR e)(p:left (Au e)=true)(q:e.nat=true)(hc:cf l e≠0):Ej l (λz=>left z && !z.sameKey (Au e)) (L++[(e,cf l e)]):=by
 have d:(Au e).sameKey (Au e)=true:=by rw[vZ he he];simp
 refine⟨?_,λt b=>?_,λf hf r j m k=>?_⟩
 ·rw[List.pairwise_append];refine⟨h.apart,sM,λt b s n=>?_⟩;simp at n;subst n;intro o;have:=(h.ok t b).2.2.2.2;rw[o]at this;rw[p]at this;cases this
 ·rcases List.mem_append.1 b with b|b
  ·have:=h.ok t b;exact⟨this.1,this.2.1,this.2.2.1,this.2.2.2.1,by rw[this.2.2.2.2];rfl⟩
  ·simp at b;subst b;exact⟨q,rfl,hc,he,by simp[d]⟩
 ·rw[vZ hf he]at j;by_cases i:f=e
  ·subst i;simp
  ·exact List.mem_append.2 (.inl (h.all f hf r (by simpa[i]using j) m k))
structure RK where
 n:Bool
 a:Option Addr
 k:Nat
 c:Nat
 n':Bool
 a':Option Addr
 k':Nat
 c':Nat
structure EB where
 e:Ex
def YM (c:RK):Value:=.agg #[.bool c.n,.slice c.a c.k c.c,.bool c.n',.slice c.a' c.k' c.c']
def YN (e:EB):Value:=.agg #[.int .i64 e.e.1,.int .i64 e.e.2.1,.int .i64 e.e.2.2.1,.int .i64 e.e.2.2.2]
theorem Ab(b:Nat)(l:List ai)(w:World)(hS:lm w b l)(ar:l.length<=100000000):Calls Tryz.prog 91 #[.map (some b)] w (aS w (canon l)):=by
 obtain⟨D,hD,N,h3⟩:=hS;have aw:=hD.lt;have ax:=hD.size_le;obtain⟨i,hi1,hi2,hi3,hi4⟩:=M6
 go_enter Tryz.func91,Tryz.ntmps91
 have an:=hD.len Tryz.underlying91 3
 go_upto_region 2 with (first
  | (refine wpList_make_own _ rfl _ _ 27 rfl w.heap.size aJ i _ 8 Tryz.underlying27 hi1 hi2 hi3 .i64 .i64 _ (Maps.size D) rfl rfl rfl (by rw[hi4];omega) (by unfold maxLen;omega) (nL _) ?_;intro W Y a3))
 have hown0:bV w.heap.size W (.slice (some ⟨w.heap.size,0,none⟩) 0 (Maps.size D)) []:=⟨[],Y,rfl⟩;have a7:=hD.kept a3 sM;clear an;have hb0:Below w.heap.size w W:=(Below.refl _ _).grown a3 (nL _) (λk p=>by cases p);have av:w.heap.size<W.heap.size:=by have:=(hown0.base_le w.heap.size rfl).2;omega
 go_wp2_with (at_range;refine wpList_range_own _ rfl _ 91 rfl KR 41 oN Tryz.underlying91 held b l.length D rfl a7 ?_;intro w0 hrg0 hg0 hs0)
 go_frame;have hb1:Below w.heap.size w w0:=hb0.trans ((Below.refl _ _).grown hg0 hb0.size (λk p=>by cases p));have hown1:bV w.heap.size w0 (.slice (some ⟨w.heap.size,0,none⟩) 0 (Maps.size D)) []:=hown0.on ((Below.refl _ _).grown hg0 (nL _) (λk p=>by cases p));generalize W.heap.size=r at *
 have ac:∀e,InR e->(∃t∈l,t.1=e)->has D (Au e)=true:=λe he hx=>by obtain⟨v,hv,_⟩:=(h3 e he).1 hx;exact has_true_of_atKey hv
 clear hown0 a7 hb0 Y a3 hg0 hs0 hi1 hi2 hi3 hi4;replace h3:=zH h3;replace N:=zH N
 go_loopw [3] (λv wr=>∃(left:Lit->Bool)(Vw:Nat)(L:List ai),wr.ranges Tryz.prog KR held b r l.length D left Vw/\Hid (bV w.heap.size wr v L)/\Hid (Ej l left L)/\L.length+Vw<=Maps.size D/\Hid (v≠.slice none 0 0)/\Below w.heap.size w wr/\Hid (v.ownBlock≠some r)) (λ_ wr=>wr.rangeLeft b r)
 case atStart=>exact⟨_,_,[],hrg0,zH hown1,zH (Ej.start ac),sM,zH sM,hb1,zH (by simp[Value.ownBlock];omega)⟩
 case round =>
  clear hrg0 hown1 hb1 ac;obtain⟨left,Vw,L,J,m,d,kQ,a5,hb,I⟩:=hrel
  go_wp2_with (at_next;refine wpList_next_ranges _ rfl _ rfl KR oN held YN YM ?_ ?_ b r l.length D left Vw rfl J ?_ ?_)
  ·intro key kl p;obtain⟨e,rfl,_,_⟩:=xD p;exact⟨⟨e⟩,rfl⟩
  ·intro v y hv;obtain⟨_,n,a,k,c,n',a',k',c',rfl⟩:=xE hv;exact⟨⟨n,a,k,c,n',a',k',c'⟩,rfl⟩
  ·intro hc0 hl0;have d:=d.out;have m:=m.out
   have S:∀e:Ex,e.nat=true->cf l e≠0->(e,cf l e)∈L:=λe hn hc=>by obtain⟨t,ht,rfl⟩:=PZ hc;exact d.all _ (N.out t ht) ⟨t,ht,rfl⟩ (hl0 _) hn hc
   have ag:L.length<=1000000000:=oM;have B:∀L',L.Perm L'->L'.Pairwise (λs t=>t.1.gt s.1=false)->L'=canon l:=λL' hp hs=>yH d.apart (λt ht=>⟨(d.ok t ht).1,(d.ok t ht).2.1,(d.ok t ht).2.2.1⟩) S hp hs;replace B:=zH B;have a1:=zH (di.base_le m);have a2:=QH w.heap.size u3 L wr m a5.out ag;clear d m S N h3 J
   go_wp2_with (go_at_call 115;refine a2.mono ?_;rintro e w2 ⟨rfl,L',hp,a6,hown2,ap⟩)
   go_ret;have ad:=B.out L' hp a6;subst ad;exact⟨_,rfl,hown2.isSl,hb.trans (ap.belowAt hb.size (λk p=>(a1.out k p).1))⟩
  ·intro x c kl y ps w1 q X a4 hv M hrg1 a9 a8 hsz1 al;obtain⟨x⟩:=x;obtain⟨e,he1,z,rfl⟩:=xD X;obtain rfl:x=e:=MZ he1
   have hx:∃t∈l,t.1=x:=by apply Classical.byContradiction;intro aq;have hz:=(h3.out x z).2 (λt ht he=>aq ⟨t,ht,he⟩);have h5:=M .nil;rw[hz]at h5;have h6:=M (.agg []);rw[hz]at h6;rw[<-h5]at h6;cases h6
   obtain⟨u,hu,hr⟩:=(h3.out x z).1 hx;have hy:=(xE hv).1;simp only[Prod.mk.injEq]at hy;have h7:=M .nil;rw[hu,hy.1]at h7;simp only[DataW.held.injEq]at h7;subst h7;obtain⟨n,a,k,cc,n',a',k',a0⟩:=c;simp only[YN,YM]at al hr ⊢
   have F:kR w1 r 0:=by obtain⟨_,_,_,_,_,_,_,_,_,h,_⟩:=hrg1;intro C T' fr hC;rw[h]at hC;cases hC
   have hlr1:Lr (some r) 0 wr w1:=⟨a8,λk p=>by
    cases p;refine⟨?_,F⟩;obtain⟨_,_,_,_,_,_,_,_,_,h,_⟩:=J
    intro C T' fr hC;rw[h]at hC;cases hC⟩
   have hown1:bV w.heap.size w1 u3 L:=m.out.lr hlr1 (aW dM) (.inr I.out);have hb1:Below w.heap.size w w1:=hb.trans (hlr1.belowAt hb.size (λk p=>by cases p;omega));have G:w1.rangeLeft b r<wr.rangeLeft b r:=by rw[hrg1.left_eq,J.left_eq];exact a9
   have au:q+1<=Vw:=a9;clear F hlr1 a8 J hu hy M hv X m;replace a4:=zH a4;replace hown1:=zH hown1
   go_upto_region 5 with (fail)
   refine xc λW2 hb2 B1 B2 hsz2=>?_;have j:=hb1.trans (hb2.mono hb1.size);rw[hsz1]at B1 B2;have hown2:Hid (bV w.heap.size W2 u3 L):=zH (hown1.out.on hb2);have hrg2:=hrg1.kept (bW hb2 none) sM sM;have hr2:=hr.on j;have hmeas2:W2.rangeLeft b r<wr.rangeLeft b r:=by rw[hrg2.left_eq,<-hrg1.left_eq];exact G
   have hnat:=λW'=>Aa x W';have Z:=pF _ _ W2 hr2;clear hown1 hrg1 G hb1 hr;have z1:=B1.at1 0 _ rfl;have z2:=B1.at1 1 _ rfl;have z3:=B1.at1 2 _ rfl;have z4:=B1.at1 3 _ rfl;have y1:=B2.at1 0 _ rfl;have y2:=B2.at1 1 _ rfl;have y3:=B2.at1 2 _ rfl;have y4:=B2.at1 3 _ rfl;by_cases hn:x.nat=true
   ·by_cases hz:cf l x=0
    ·have hs0:jm (cf l x).num=0:=by rw[hz];rfl
     rw[hn]at hnat;rw[hs0]at Z;have hsgn3:=λW' hb3=>pF _ _ W' (hr2.on hb3);rw[hs0]at hsgn3
     go_wp2_with (first
      | (go_at_call 114;refine(hnat _).mono ?_;rintro e w3 ⟨rfl,hb3⟩;have y1:=(B2.on hb3).at1 0 _ rfl;have y2:=(B2.on hb3).at1 1 _ rfl;have y3:=(B2.on hb3).at1 2 _ rfl;have y4:=(B2.on hb3).at1 3 _ rfl)
      | (go_at_call 86;refine(hsgn3 _ hb3).mono ?_;rintro e w4 ⟨rfl,hb4⟩))
     have hb34:=hb3.trans (hb4.mono hb3.size);go_roundw
     case measure=>rw[(hrg2.kept (bW hb34 none) sM sM).left_eq,<-hrg2.left_eq];exact hmeas2
     case rel=>exact⟨_,q,L,hrg2.kept (bW hb34 none) sM sM,zH (hown2.out.on hb34),zH (d.out.skip z (.inr hz)),oM,a5,j.trans (hb34.mono j.size),I⟩
    ·have hs0:=sj hz;rw[hn]at hnat;have hsgn3:=λW' hb3=>pF _ _ W' (hr2.on hb3);clear Z;generalize jm (cf l x).num=s at hs0 hsgn3;have hs1:(s==0)=false:=by simpa using hs0
     go_wp2_with (first
      | (go_at_call 114;refine(hnat _).mono ?_;rintro e w3 ⟨rfl,hb3⟩;have y1:=(B2.on hb3).at1 0 _ rfl;have y2:=(B2.on hb3).at1 1 _ rfl;have y3:=(B2.on hb3).at1 2 _ rfl;have y4:=(B2.on hb3).at1 3 _ rfl)
      | (go_at_call 86;refine(hsgn3 _ hb3).mono ?_;rintro e w4 ⟨rfl,hb4⟩;have hb34:=hb3.trans (hb4.mono hb3.size);have z1:=(B1.on hb34).at1 0 _ rfl;have z2:=(B1.on hb34).at1 1 _ rfl;have z3:=(B1.on hb34).at1 2 _ rfl;have z4:=(B1.on hb34).at1 3 _ rfl;have y1:=(B2.on hb34).at1 0 _ rfl;have y2:=(B2.on hb34).at1 1 _ rfl;have y3:=(B2.on hb34).at1 2 _ rfl;have y4:=(B2.on hb34).at1 3 _ rfl;have o:=zH (hb34.trans (((Below.refl w4.heap.size w4).alloc (nL _) (.cells #[.int .i64 x.1,.int .i64 x.2.1,.int .i64 x.2.2.1,.int .i64 x.2.2.2,.bool n,.slice a k cc,.bool n',.slice a' k' a0] aJ)).mono hb34.size)))
      | (refine fV rfl _ _ 27 rfl Tryz.underlying27 bG rfl rfl (hown2.out.on o.out) (mh (t:=(x,cf l x)) (Blk.new w4 aJ [.int .i64 x.1,.int .i64 x.2.1,.int .i64 x.2.2.1,.int .i64 x.2.2.2,.bool n,.slice a k cc,.bool n',.slice a' k' a0]) ⟨[.bool n,.slice a k cc,.bool n',.slice a' k' a0],rfl,(hr2.on o.out).cellsC⟩) (by simp;omega) (Nat.le_trans j.size o.out.size) ?_;intro v5 w5 hown5 hl5 hv5))
     have o:=o.out;have hrg4:=hrg2.kept (bW o none) sM sM;have ab:=di.base_le hown2.out;have hrg5:=hrg4.kept hl5.1 (λh=>by have:=(ab b h.symm).1;omega) (λh=>I.out h.symm);go_roundw
     case measure=>rw[hrg5.left_eq,<-hrg2.left_eq];exact hmeas2
     case rel =>
      refine⟨_,q,L++[(x,cf l x)],hrg5,zH hown5,zH (d.out.take z a4.out hn hz),by simp;omega,zH ?_,(j.trans (o.mono j.size)).trans (hl5.belowAt (Nat.le_trans j.size o.size) (λk p=>(ab k p).1)),zH ?_⟩
      ·obtain⟨ao,cap,hv,_⟩:=hown5.shape;rw[hv];simp
      ·rcases hv5 with hv5|hv5
       ·rw[hv5];exact I.out
       ·rw[hv5];intro h;have h1:r<w4.heap.size+1:=by simpa using hrg4.lt
        have h2:w4.heap.size+1=r:=by simpa using h
        omega
   ·have aa:x.nat=false:=by simpa using hn
    rw[aa]at hnat
    go_wp2_with (go_at_call 114;refine(hnat _).mono ?_;rintro e w3 ⟨rfl,hb3⟩)
    go_roundw
    case measure=>rw[(hrg2.kept (bW hb3 none) sM sM).left_eq,<-hrg2.left_eq];exact hmeas2
    case rel=>exact⟨_,q,L,hrg2.kept (bW hb3 none) sM sM,zH (hown2.out.on hb3),zH (d.out.skip z (.inl aa)),oM,a5,j.trans (hb3.mono j.size),I⟩
structure Tv (l:List ai):Prop where
 n:l.length<=100000000
 r:∀t∈l,InR t.1/\Rk t.2
 c:∀k,∀e,Rk (cf (l.take k) e)
theorem bF{W:World}{B g j:Nat}(h:B<=g)(v:Value):Below B W (W.setCell ⟨g,j,none⟩ v) :=
 ⟨rfl,rfl,rfl,by simp[World.setCell],λk b=>Below.heap_setCell _ _ _ _ (by simp only;omega)⟩
theorem OQ(v:Value)(q:Rat)(w:World)(h:bM w v q):Calls Tryz.prog 89 #[v] w (aS w (bZ q)):=by
 obtain⟨n,a,k,c,n',a',k',c',rfl⟩:=fE h;have hsgn:=λW hb=>pF _ _ W (h.on (w':=W) hb);by_cases hz:q=0
 ·have hs0:jm q.num=0:=by rw[hz];rfl
  rw[hs0]at hsgn;have hR:bZ q=[]:=by rw[bZ,if_pos hz]
  rw[hR]
  go_enter Tryz.func89,Tryz.ntmps89
  go_upto_region 1 with (fail)
  refine jb λW hb B d=>?_;have y1:=B.at1 0 _ rfl;have y2:=B.at1 1 _ rfl;have y3:=B.at1 2 _ rfl;have y4:=B.at1 3 _ rfl
  go_wp2_with (go_at_call 86;refine(hsgn _ hb).mono ?_;rintro e w4 ⟨rfl,hb4⟩)
  go_ret;exact⟨_,rfl,bU.nil _ _,hb.trans (hb4.mono hb.size)⟩
 ·have hs0:=sj hz;have hR:bZ q=[(e0,q)]:=by rw[bZ,if_neg hz]
  rw[hR];generalize jm q.num=s at hs0 hsgn;have hs1:(s==0)=false:=by simpa using hs0
  go_enter Tryz.func89,Tryz.ntmps89
  go_upto_region 1 with (fail)
  refine jb λW hb B d=>?_;have y1:=B.at1 0 _ rfl;have y2:=B.at1 1 _ rfl;have y3:=B.at1 2 _ rfl;have y4:=B.at1 3 _ rfl
  go_wp2_with (go_at_call 86;refine(hsgn _ hb).mono ?_;rintro e w4 ⟨rfl,hb4⟩;have hb5:=hb.trans (hb4.mono hb.size);have y1:=(B.on hb4).at1 0 _ rfl;have y2:=(B.on hb4).at1 1 _ rfl;have y3:=(B.on hb4).at1 2 _ rfl;have y4:=(B.on hb4).at1 3 _ rfl)
  go_ret;have b:Below w4.heap.size w4 (w4.alloc (.cells #[.int .i64 0,.int .i64 0,.int .i64 0,.int .i64 0,.bool n,.slice a k c,.bool n',.slice a' k' c'] aJ)):=(Below.refl _ _).alloc (nL _) _;exact⟨_,rfl,mh (t:=(e0,q)) (Blk.new w4 aJ [.int .i64 0,.int .i64 0,.int .i64 0,.int .i64 0,.bool n,.slice a k c,.bool n',.slice a' k' c']) ⟨[.bool n,.slice a k c,.bool n',.slice a' k' c'],rfl,((h.on hb5).on b).cellsC⟩,hb5.trans (b.mono hb5.size)⟩
theorem AV(e:Ex)(v:Nat)(hv:v<4):(bC e)[v]?=some (.int .i64 (e.get v)):=by
 obtain rfl|rfl|rfl|rfl:v=0\/v=1\/v=2\/v=3:=oM
 all_goals rfl
theorem jR(y:Value)(p:List ai)(v:Nat)(w:World)(h:ak w y p)(hv:v<4)(u:p.length<=100000000):Calls Tryz.prog 53 #[y,.int .i64 v] w (rE w (.int .i64 (aD p v))):=by
 obtain⟨C,cap,rfl,o⟩:=h.shape;obtain⟨R,m⟩:∃R,R=aD p v:=⟨_,rfl⟩;rw[<-m];replace m:=zH m;have hv4:(v:Int)<4:=oM
 go_enter Tryz.func53,Tryz.ntmps53
 go_wp2
 go_loopw [5,10] (λd i wr=>∃k:Nat,k<=p.length/\i=.int .i64 k/\d=.int .i64 (aD (p.take k) v)/\Below w.heap.size w wr) (λ_ i _=>p.length-(intOf i).toNat)
 case atStart=>exact⟨0,oM,rfl,rfl,Below.refl _ _⟩
 case round =>
  obtain⟨k,D,rfl,rfl,hb⟩:=hrel;by_cases j:k<p.length
  ·have q:p[k]?=some p[k]:=gE j;obtain⟨B,off,cs,rfl,-,hE,hC⟩:=(h.on hb).get q
   have bY:aD (p.take (k+1)) v=max (aD (p.take k) v) (p[k].1.get v):=by unfold aD;rw[List.take_succ_eq_append_getElem j,List.foldl_append];rfl
   generalize p[k]=t at q hE bY;obtain⟨r,rfl,n,a,k1,c,n',a',l,c',rfl,i1,i2⟩:=hE;have b:=AV t.1 v hv;simp only[bC,List.cons_append,List.nil_append]at hC b;have hr:=hC.range;have s:(k:Int)<p.length:=oM
   go_upto_region 5 with (first
    | (refine aj rfl _ _ 27 rfl aJ Tryz.underlying27 _ 8 96 kM _ _ _ rfl .i64 _ rfl k rfl j B off rfl ?_)
    | (refine wpList_load_mid rfl 43 _ rfl _ _ rfl _ _ hr Tryz.underlying43 rfl kM ?_))
   refine jb λW2 hb2 B1 hsz2=>?_
   have z:=B1.at1 v (.int .i64 (t.1.get v)) (by
    rw[show [Value.int .i64 t.1.1,.int .i64 t.1.2.1,.int .i64 t.1.2.2.1,.int .i64 t.1.2.2.2,.bool n,.slice a k1 c,.bool n',.slice a' l c']=[Value.int .i64 t.1.1,.int .i64 t.1.2.1,.int .i64 t.1.2.2.1,.int .i64 t.1.2.2.2]++[.bool n,.slice a k1 c,.bool n',.slice a' l c']from rfl,List.getElem?_append_left (by simpa using hv)]
    exact b)
   generalize t.1.get v=x at *;generalize aD (p.take k) v=d at *;replace bY:=zH bY;go_wp2;go_roundw
   case measure=>simp[intOf];omega
   case rel =>
    refine⟨k+1,oM,nM,?_,hb.trans (hb2.mono hb.size)⟩;rw[bY.out]
  ·obtain rfl:k=p.length:=oM;rw[tL (nL _),<-m.out];go_wp2;go_ret;exact⟨rfl,hb⟩
end Go.Proofs.YtopclbeomcggiaaGreat
end
section
namespace Q
open Go Go.RowKit Go.Proofs.YtopclbeomcggiaaGreat
def af.sums {g:Option Nat} {T:TypeId} (b:Nat) (l:List ai):af (Lr g T):=af.fragile (λv w=>v=.tuple #[]/\lm w b l)
end Q
namespace Go.Proofs.YtopclbeomcggiaaGreat
open Go.RowKit Q Go.WideMaps Go.Maps
theorem mE{n:Int}(h:-9223372036854775808<=n/\n<=9223372036854775807):IntKind.i64.wrap n=n:=by simp[IntKind.wrap,IntKind.bits,IntKind.signed];omega
theorem iD{n:Int}(h:(Lit.int .i64 n).wf=true):-9223372036854775808<=n/\n<=9223372036854775807:=by simp only[Lit.wf,Bool.and_eq_true,decide_eq_true_eq]at h;have b:IntKind.i64.min=-9223372036854775808:=dM;have d:IntKind.i64.max=9223372036854775807:=dM;omega
theorem lm.noOther{w:World}{b:Nat}{l:List ai}{T:TypeId}(h:lm w b l):kR w b T:=by obtain⟨D,⟨es,clock,hb,_⟩,_⟩:=h;exact kR.map hb
theorem M7{w w':World}{b:Nat}{l i:List ai}{T:TypeId}(h:lm w b l)(d:lm w' b i)(hg:w.grownBy w' (some b)):Lr (some b) T w w' :=
 ⟨hg,λk e=>by cases e;exact⟨h.noOther,d.noOther⟩⟩
theorem aY{w:World}{g j:Nat}{T:TypeId}{cs:List Value}(h:Blk w g T cs)(v:Value):Lr (some g) T w (w.setCell ⟨g,j,none⟩ v):=by have i:=h.set j v;refine⟨⟨rfl,rfl,rfl,by simp[World.setCell],λk d b=>Below.heap_setCell _ _ _ _ (λe=>b (by rw[e]))⟩,λk d=>by cases d;exact⟨h.noOther,i.noOther⟩⟩
def kT (p q:List ai) (k j:Nat):List ai:=prods (p.take k) q++(match p[k]? with|some s=>(q.take j).map (mulT s)|none=>[])
theorem xH(l b r:List ai):prods (l++b) r=prods l r++prods b r:=by simp[prods]
theorem Gu(p q:List ai)(k:Nat):kT p q k 0=prods (p.take k) q:=by unfold kT;split<;>simp
theorem Gv{p q:List ai}{k:Nat}{s:ai}(h:p[k]?=some s):kT p q k q.length=prods (p.take (k+1)) q:=by unfold kT;rw[h,List.take_add_one,h,xH];simp[prods]
theorem Gw{p q:List ai}{k j:Nat}{s t:ai}(h:p[k]?=some s)(b:q[j]?=some t):kT p q k (j+1)=kT p q k j++[mulT s t]:=by unfold kT;rw[h,List.take_add_one,b];simp
theorem uw{p q:List ai}{k j:Nat}(b:k<p.length)(h:j<=q.length):kT p q k j=(prods p q).take (k*q.length+j):=by
 have l:p[k]?=some p[k]:=gE b;have e:p=p.take k++p[k]::p.drop (k+1):=by rw[<-List.drop_eq_getElem_cons b,List.take_append_drop]
 have d:prods p q=prods (p.take k) q++(q.map (mulT p[k])++prods (p.drop (k+1)) q):=by
  conv=>lhs;rw[e]
  rw[xH,jV]
 unfold kT;rw[l,d];have i:(prods (p.take k) q).length=k*q.length:=by rw[wY,List.length_take,Nat.min_eq_left oM]
 show _++List.map (mulT p[k]) (q.take j)=_;rw[<-i,List.take_length_add_append,List.take_append_of_le_length (by simp;exact h),List.map_take]
theorem ze(vp vq:Value)(p q:List ai)(w:World)(hp:ak w vp p)(hq:ak w vq q)(rp:∀t∈p,InR t.1/\Rk t.2)(rq:∀t∈q,InR t.1/\Rk t.2)(y:Tv (prods p q))(lp:p.length<=100000000)(lq:q.length<=100000000) :
  Calls Tryz.prog 54 #[vp,vq] w (aS w (aX p q)):=by
 obtain⟨ap,cp,rfl,a5⟩:=hp.shape;obtain⟨aq,cq,rfl,a6⟩:=hq.shape;replace y:=zH y;replace rp:=zH rp;replace rq:=zH rq;have a0:=run_makeMap (P:=Tryz.prog) 91 w
 go_enter Tryz.func54,Tryz.ntmps54
 go_upto_region 2 with (fail)
 have hS:lm (w.alloc (.map #[] 0)) w.heap.size []:=lm.made w;have I:Below w.heap.size w (w.alloc (.map #[] 0)):=(Below.refl _ _).alloc (nL _) _;obtain⟨W,hW⟩:∃W,W=w.alloc (.map #[] 0):=⟨_,rfl⟩;rw[<-hW]at hS I ⊢;clear hW a0;go_wp2
 go_loopw [15] (λi wr=>∃k:Nat,k<=p.length/\i=.int .i64 k/\Hid (lm wr w.heap.size (prods (p.take k) q))/\Below w.heap.size w wr) (λi _=>p.length-(intOf i).toNat)
 case atStart=>exact⟨0,oM,rfl,zH hS,I⟩
 case round =>
  clear hS I;obtain⟨k,hk,rfl,hS,hb⟩:=hrel;by_cases G:k<p.length
  ·have x:p[k]?=some p[k]:=gE G;obtain⟨b',off,cs,rfl,-,hE,hC⟩:=(hp.on hb).get x;generalize p[k]=s at x hE;obtain⟨⟨e1,e2,e3,e4⟩,D⟩:=s;obtain⟨r,rfl,n1,a1,k1,c1,n2,a2,k2,c2,rfl,i1,i2⟩:=hE;simp only[bC,List.cons_append,List.nil_append]at hC;have hr:=hC.range;have a4:(k:Int)<p.length:=oM;have l:bM wr (.agg #[.bool n1,.slice a1 k1 c1,.bool n2,.slice a2 k2 c2]) D:=⟨n1,a1,k1,c1,n2,a2,k2,c2,rfl,i1,i2⟩;have Y:InR (e1,e2,e3,e4)/\Rk D:=rp.out ((e1,e2,e3,e4),D) (List.mem_of_getElem? x)
   go_upto_region 5 with (first
    | (refine aj rfl _ _ 27 rfl aJ Tryz.underlying27 _ 8 96 kM _ _ _ rfl .i64 _ rfl k rfl G b' off rfl ?_)
    | (refine wpList_load_mid rfl 43 _ rfl _ _ rfl _ _ hr Tryz.underlying43 rfl kM ?_))
   refine jb λW1 hb1 B1 hsz1=>?_;have hS1:Hid (lm W1 w.heap.size (kT p q k 0)):=zH (by rw[Gu];exact hS.out.on hb1);have hrat1:=l.on hb1;have hr1:w.heap.size<wr.heap.size:=hS.out.lt;have hbW1:=hb.trans (hb1.mono hb.size);clear hb1 l hS hC hr i1 i2;generalize wr.heap.size=r1 at *;go_wp2
   go_loopw [21] (λi wr2=>∃j:Nat,j<=q.length/\i=.int .i64 j/\Hid (lm wr2 w.heap.size (kT p q k j))/\Below w.heap.size w wr2/\Hid (Blk wr2 r1 43 [.int .i64 e1,.int .i64 e2,.int .i64 e3,.int .i64 e4,.bool n1,.slice a1 k1 c1,.bool n2,.slice a2 k2 c2])/\Hid (bM wr2 (.agg #[.bool n1,.slice a1 k1 c1,.bool n2,.slice a2 k2 c2]) D)/\w.heap.size<r1) (λi _=>q.length-(intOf i).toNat)
   case atStart=>exact⟨0,oM,rfl,hS1,hbW1,zH B1,zH hrat1,hr1⟩
   case round =>
    skip
    clear hS1 hbW1 B1 hrat1 hr1 hsz1;obtain⟨j,hj,rfl,hS,hb,hB1,d,hr1⟩:=hrel;by_cases M:j<q.length
    ·have C:q[j]?=some q[j]:=gE M;obtain⟨X,S,cs,rfl,-,hE,hC⟩:=(hq.on hb).get C;generalize q[j]=t at C hE;obtain⟨⟨f1,f2,f3,f4⟩,F⟩:=t;obtain⟨r,rfl,m1,b1,j1,d1,m2,b2,j2,d2,rfl,i1,i2⟩:=hE;simp only[bC,List.cons_append,List.nil_append]at hC;have hr:=hC.range;have a3:(j:Int)<q.length:=oM;have l:=zH (show bM wr (.agg #[.bool m1,.slice b1 j1 d1,.bool m2,.slice b2 j2 d2]) F from⟨m1,b1,j1,d1,m2,b2,j2,d2,rfl,i1,i2⟩);have Z:InR (f1,f2,f3,f4)/\Rk F:=rq.out ((f1,f2,f3,f4),F) (List.mem_of_getElem? C);have N:mulT ((e1,e2,e3,e4),D) ((f1,f2,f3,f4),F)∈prods p q:=List.mem_flatMap.2 ⟨_,List.mem_of_getElem? x,List.mem_map.2 ⟨_,List.mem_of_getElem? C,rfl⟩⟩;have B:InR (e1+f1,e2+f2,e3+f3,e4+f4)/\Rk (D*F):=y.out.r _ N;obtain⟨wb1,wb2,wb3,wb4⟩:=B.1;replace wb1:=iD wb1;replace wb2:=iD wb2;replace wb3:=iD wb3;replace wb4:=iD wb4;have B1:=hB1.out;have zz1:=B1.at1 0 _ rfl;have zz2:=B1.at1 1 _ rfl;have zz3:=B1.at1 2 _ rfl;have zz4:=B1.at1 3 _ rfl
     go_upto_region 8 with (first
      | (refine aj rfl _ _ 27 rfl aJ Tryz.underlying27 _ 8 96 kM _ _ _ rfl .i64 _ rfl j rfl M X S rfl ?_)
      | (refine wpList_load_mid rfl 43 _ rfl _ _ rfl _ _ hr Tryz.underlying43 rfl kM ?_))
     refine jb λW2 hb2 B2 hsz2=>?_;have hS2:=zH (hS.out.on hb2);have hbW2:=hb.trans (hb2.mono hb.size);have u:=B1.on hb2;have hratx2:=d.out.on hb2;have hrat2:=l.out.on hb2;have hr2:r1<wr.heap.size:=B1.lt;clear zz1 zz2 zz3 zz4 hb2 hS hr hC i1 i2 l d hB1 B1;generalize wr.heap.size=r2 at *;have zz1:=u.at1 0 _ rfl;have zz2:=u.at1 1 _ rfl;have zz3:=u.at1 2 _ rfl;have zz4:=u.at1 3 _ rfl
     go_upto_region 9 with (fail)
     refine jb λW3 hb3 B3 hsz3=>?_;have hS3:=zH (hS2.out.on hb3);have hbW3:=hbW2.trans (hb3.mono hbW2.size);have B1:=u.on hb3;have J:=B2.on hb3;have hratx3:=hratx2.on hb3;have hrat3:=hrat2.on hb3;have hr3:r2<W2.heap.size:=B2.lt;have hr33:W2.heap.size<W3.heap.size:=oM;clear zz1 zz2 zz3 zz4 hb3 hS2 hrat2 hratx2 u B2;generalize W2.heap.size=r3 at *;go_wp2
     go_loopw [27] (λi wr3=>∃m:Nat,m<=4/\i=.int .i64 m/\Below w.heap.size w wr3/\Hid (lm wr3 w.heap.size (kT p q k j)) /\
       Hid (Blk wr3 r1 43 [.int .i64 e1,.int .i64 e2,.int .i64 e3,.int .i64 e4,.bool n1,.slice a1 k1 c1,.bool n2,.slice a2 k2 c2]) /\
       Hid (Blk wr3 r2 43 [.int .i64 f1,.int .i64 f2,.int .i64 f3,.int .i64 f4,.bool m1,.slice b1 j1 d1,.bool m2,.slice b2 j2 d2]) /\
       Hid (Blk wr3 r3 36 [.int .i64 (if 0<m then e1+f1 else e1),.int .i64 (if 1<m then e2+f2 else e2),.int .i64 (if 2<m then e3+f3 else e3),.int .i64 (if 3<m then e4+f4 else e4)]) /\
       Hid (bM wr3 (.agg #[.bool n1,.slice a1 k1 c1,.bool n2,.slice a2 k2 c2]) D)/\Hid (bM wr3 (.agg #[.bool m1,.slice b1 j1 d1,.bool m2,.slice b2 j2 d2]) F)/\w.heap.size<r1/\r1<r2/\r2<r3) (λi _=>4-(intOf i).toNat)
     case atStart=>exact⟨0,oM,rfl,hbW3,hS3,zH B1,zH J,zH B3,zH hratx3,zH hrat3,hr1,hr2,hr3⟩
     case round =>
      clear hbW3 hS3 B1 J B3 hratx3 hrat3 hr1 hr2 hr3 hbW2 hr33 hsz2 hsz3;obtain⟨m,hm,rfl,hb,hS,hB1,hB2,hB3,d,l,hr1,hr2,hr3⟩:=hrel;have B1:=hB1.out;have B2:=hB2.out;have B3:=hB3.out;clear hB1 hB2 hB3;obtain rfl|rfl|rfl|rfl|rfl:m=0\/m=1\/m=2\/m=3\/m=4:=oM
      ·simp only[show ¬(0:Nat)<0 from dM,show ¬(1:Nat)<0 from dM,show ¬(2:Nat)<0 from dM,show ¬(3:Nat)<0 from dM,if_true,if_false]at B3
       go_upto_region 12 with (fail)
       refine aC mixed (none) (0) (fK.none) [.eq (.int .i64 0),.eq (.pointer (some ⟨r3,0,none⟩)),.eq (.int .i64 e1),.eq (.int .i64 0),.eq (.pointer (some ⟨r2,0,none⟩)),.eq (.pointer (some ⟨r2,0,none⟩)),.eq (.int .i64 f1),.eq (.int .i64 (e1+f1)),.eq (.pointer (some ⟨r3,0,none⟩))] [30,31,32,33,34,35,36,37,38] rfl rfl rfl rfl ⟨λ_ _ a _ _ _=>xM rfl (a 11 rfl),λA _ hA _ _ he=>have h10:A.eval (.tmp 10)=.pointer (some ⟨r3,0,none⟩):=hA 10 rfl;have h30:=eT 30 (he.1 rfl);pZ rfl,λA _ _ hL _ he=>have hb:=hL.below;have h31:=eT 31 (he.1 rfl);have c0:=((B3).on hb).at1 0 _ rfl;pZ rfl,λ_ _ a _ _ _=>xM rfl (a 11 rfl),λA _ hA _ _ _=>have h9:A.eval (.tmp 9)=.pointer (some ⟨r2,0,none⟩):=hA 9 rfl;pZ rfl,λA _ _ _ _ he=>have h34:=eT 34 (he.1 rfl);have h33:=eT 33 (he.2.1 rfl);pZ rfl,λA _ _ hL _ he=>have hb:=hL.below;have h35:=eT 35 (he.1 rfl);have c0:=((B2).on hb).at1 0 _ rfl;pZ rfl,?_,λA _ hA _ _ he=>have h10:A.eval (.tmp 10)=.pointer (some ⟨r3,0,none⟩):=hA 10 rfl;have h30:=eT 30 (he.1 rfl);pZ rfl,trivial⟩ ?_
       ·intro A w1 hA hL hS he;have h32:=eT 32 (he.1 rfl);have h36:=eT 36 (he.2.1 rfl);refine ae rfl (aB rfl rfl ?_);generalize A.eval=ev at *;go_simp;exact mE wb1
       ·intro w5 hL;have hb5:=hL.below;simp only[aT,af.eq,lZ];have b:=B3.on hb5;have z:=b.at1 0 _ rfl;have hf:=b.frozen 0;go_frame;go_wp2;have hl6:=aY (j:=0) b (.int .i64 (e1+f1));go_roundw
        case measure=>simp[intOf]
        case rel=>exact⟨1,oM,nM,(hb.trans (hb5.mono hb.size)).trans (bF oM _),zH ((hS.out.on hb5).lr hl6 dM (by simp;omega)),zH ((B1.on hb5).lr hl6 (by simp;omega)),zH ((B2.on hb5).lr hl6 (by simp;omega)),zH (b.set 0 (.int .i64 (e1+f1))),zH ((d.out.on hb5).lr hl6 dM),zH ((l.out.on hb5).lr hl6 dM),hr1,hr2,hr3⟩
      ·simp only[show(0:Nat)<1 from dM,show ¬(1:Nat)<1 from dM,show ¬(2:Nat)<1 from dM,show ¬(3:Nat)<1 from dM,if_true,if_false]at B3
       go_upto_region 12 with (fail)
       refine aC mixed (none) (0) (fK.none) [.eq (.int .i64 1),.eq (.pointer (some ⟨r3,1,none⟩)),.eq (.int .i64 e2),.eq (.int .i64 1),.eq (.pointer (some ⟨r2,0,none⟩)),.eq (.pointer (some ⟨r2,1,none⟩)),.eq (.int .i64 f2),.eq (.int .i64 (e2+f2)),.eq (.pointer (some ⟨r3,1,none⟩))] [30,31,32,33,34,35,36,37,38] rfl rfl rfl rfl ⟨λ_ _ a _ _ _=>xM rfl (a 11 rfl),λA _ hA _ _ he=>have h10:A.eval (.tmp 10)=.pointer (some ⟨r3,0,none⟩):=hA 10 rfl;have h30:=eT 30 (he.1 rfl);pZ rfl,λA _ _ hL _ he=>have hb:=hL.below;have h31:=eT 31 (he.1 rfl);have c0:=((B3).on hb).at1 1 _ rfl;pZ rfl,λ_ _ a _ _ _=>xM rfl (a 11 rfl),λA _ hA _ _ _=>have h9:A.eval (.tmp 9)=.pointer (some ⟨r2,0,none⟩):=hA 9 rfl;pZ rfl,λA _ _ _ _ he=>have h34:=eT 34 (he.1 rfl);have h33:=eT 33 (he.2.1 rfl);pZ rfl,λA _ _ hL _ he=>have hb:=hL.below;have h35:=eT 35 (he.1 rfl);have c0:=((B2).on hb).at1 1 _ rfl;pZ rfl,?_,λA _ hA _ _ he=>have h10:A.eval (.tmp 10)=.pointer (some ⟨r3,0,none⟩):=hA 10 rfl;have h30:=eT 30 (he.1 rfl);pZ rfl,trivial⟩ ?_
       ·intro A w1 hA hL hS he;have h32:=eT 32 (he.1 rfl);have h36:=eT 36 (he.2.1 rfl);refine ae rfl (aB rfl rfl ?_);generalize A.eval=ev at *;go_simp;exact mE wb2
       ·intro w5 hL;have hb5:=hL.below;simp only[aT,af.eq,lZ];have b:=B3.on hb5;have z:=b.at1 1 _ rfl;have hf:=b.frozen 1;go_frame;go_wp2;have hl6:=aY (j:=1) b (.int .i64 (e2+f2));go_roundw
        case measure=>simp[intOf]
        case rel=>exact⟨2,oM,nM,(hb.trans (hb5.mono hb.size)).trans (bF oM _),zH ((hS.out.on hb5).lr hl6 dM (by simp;omega)),zH ((B1.on hb5).lr hl6 (by simp;omega)),zH ((B2.on hb5).lr hl6 (by simp;omega)),zH (b.set 1 (.int .i64 (e2+f2))),zH ((d.out.on hb5).lr hl6 dM),zH ((l.out.on hb5).lr hl6 dM),hr1,hr2,hr3⟩
      ·simp only[show(0:Nat)<2 from dM,show(1:Nat)<2 from dM,show ¬(2:Nat)<2 from dM,show ¬(3:Nat)<2 from dM,if_true,if_false]at B3
       go_upto_region 12 with (fail)
       refine aC mixed (none) (0) (fK.none) [.eq (.int .i64 2),.eq (.pointer (some ⟨r3,2,none⟩)),.eq (.int .i64 e3),.eq (.int .i64 2),.eq (.pointer (some ⟨r2,0,none⟩)),.eq (.pointer (some ⟨r2,2,none⟩)),.eq (.int .i64 f3),.eq (.int .i64 (e3+f3)),.eq (.pointer (some ⟨r3,2,none⟩))] [30,31,32,33,34,35,36,37,38] rfl rfl rfl rfl ⟨λ_ _ a _ _ _=>xM rfl (a 11 rfl),λA _ hA _ _ he=>have h10:A.eval (.tmp 10)=.pointer (some ⟨r3,0,none⟩):=hA 10 rfl;have h30:=eT 30 (he.1 rfl);pZ rfl,λA _ _ hL _ he=>have hb:=hL.below;have h31:=eT 31 (he.1 rfl);have c0:=((B3).on hb).at1 2 _ rfl;pZ rfl,λ_ _ a _ _ _=>xM rfl (a 11 rfl),λA _ hA _ _ _=>have h9:A.eval (.tmp 9)=.pointer (some ⟨r2,0,none⟩):=hA 9 rfl;pZ rfl,λA _ _ _ _ he=>have h34:=eT 34 (he.1 rfl);have h33:=eT 33 (he.2.1 rfl);pZ rfl,λA _ _ hL _ he=>have hb:=hL.below;have h35:=eT 35 (he.1 rfl);have c0:=((B2).on hb).at1 2 _ rfl;pZ rfl,?_,λA _ hA _ _ he=>have h10:A.eval (.tmp 10)=.pointer (some ⟨r3,0,none⟩):=hA 10 rfl;have h30:=eT 30 (he.1 rfl);pZ rfl,trivial⟩ ?_
       ·intro A w1 hA hL hS he;have h32:=eT 32 (he.1 rfl);have h36:=eT 36 (he.2.1 rfl);refine ae rfl (aB rfl rfl ?_);generalize A.eval=ev at *;go_simp;exact mE wb3
       ·intro w5 hL;have hb5:=hL.below;simp only[aT,af.eq,lZ];have b:=B3.on hb5;have z:=b.at1 2 _ rfl;have hf:=b.frozen 2;go_frame;go_wp2;have hl6:=aY (j:=2) b (.int .i64 (e3+f3));go_roundw
        case measure=>simp[intOf]
        case rel=>exact⟨3,oM,nM,(hb.trans (hb5.mono hb.size)).trans (bF oM _),zH ((hS.out.on hb5).lr hl6 dM (by simp;omega)),zH ((B1.on hb5).lr hl6 (by simp;omega)),zH ((B2.on hb5).lr hl6 (by simp;omega)),zH (b.set 2 (.int .i64 (e3+f3))),zH ((d.out.on hb5).lr hl6 dM),zH ((l.out.on hb5).lr hl6 dM),hr1,hr2,hr3⟩
      ·simp only[show(0:Nat)<3 from dM,show(1:Nat)<3 from dM,show(2:Nat)<3 from dM,show ¬(3:Nat)<3 from dM,if_true,if_false]at B3
       go_upto_region 12 with (fail)
       refine aC mixed (none) (0) (fK.none) [.eq (.int .i64 3),.eq (.pointer (some ⟨r3,3,none⟩)),.eq (.int .i64 e4),.eq (.int .i64 3),.eq (.pointer (some ⟨r2,0,none⟩)),.eq (.pointer (some ⟨r2,3,none⟩)),.eq (.int .i64 f4),.eq (.int .i64 (e4+f4)),.eq (.pointer (some ⟨r3,3,none⟩))] [30,31,32,33,34,35,36,37,38] rfl rfl rfl rfl ⟨λ_ _ a _ _ _=>xM rfl (a 11 rfl),λA _ hA _ _ he=>have h10:A.eval (.tmp 10)=.pointer (some ⟨r3,0,none⟩):=hA 10 rfl;have h30:=eT 30 (he.1 rfl);pZ rfl,λA _ _ hL _ he=>have hb:=hL.below;have h31:=eT 31 (he.1 rfl);have c0:=((B3).on hb).at1 3 _ rfl;pZ rfl,λ_ _ a _ _ _=>xM rfl (a 11 rfl),λA _ hA _ _ _=>have h9:A.eval (.tmp 9)=.pointer (some ⟨r2,0,none⟩):=hA 9 rfl;pZ rfl,λA _ _ _ _ he=>have h34:=eT 34 (he.1 rfl);have h33:=eT 33 (he.2.1 rfl);pZ rfl,λA _ _ hL _ he=>have hb:=hL.below;have h35:=eT 35 (he.1 rfl);have c0:=((B2).on hb).at1 3 _ rfl;pZ rfl,?_,λA _ hA _ _ he=>have h10:A.eval (.tmp 10)=.pointer (some ⟨r3,0,none⟩):=hA 10 rfl;have h30:=eT 30 (he.1 rfl);pZ rfl,trivial⟩ ?_
       ·intro A w1 hA hL hS he;have h32:=eT 32 (he.1 rfl);have h36:=eT 36 (he.2.1 rfl);refine ae rfl (aB rfl rfl ?_);generalize A.eval=ev at *;go_simp;exact mE wb4
       ·intro w5 hL;have hb5:=hL.below;simp only[aT,af.eq,lZ];have b:=B3.on hb5;have z:=b.at1 3 _ rfl;have hf:=b.frozen 3;go_frame;go_wp2;have hl6:=aY (j:=3) b (.int .i64 (e4+f4));go_roundw
        case measure=>simp[intOf]
        case rel=>exact⟨4,oM,nM,(hb.trans (hb5.mono hb.size)).trans (bF oM _),zH ((hS.out.on hb5).lr hl6 dM (by simp;omega)),zH ((B1.on hb5).lr hl6 (by simp;omega)),zH ((B2.on hb5).lr hl6 (by simp;omega)),zH (b.set 3 (.int .i64 (e4+f4))),zH ((d.out.on hb5).lr hl6 dM),zH ((l.out.on hb5).lr hl6 dM),hr1,hr2,hr3⟩
      ·simp only[show(0:Nat)<4 from dM,show(1:Nat)<4 from dM,show(2:Nat)<4 from dM,show(3:Nat)<4 from dM,if_true]at B3
       go_upto_region 14 with (fail)
       refine aC mixed (none) (0) (fK.none) [.eq (.map (some w.heap.size)),.eq (.agg #[.int .i64 (e1+f1),.int .i64 (e2+f2),.int .i64 (e3+f3),.int .i64 (e4+f4)]),.eq (.pointer (some ⟨r1,4,none⟩)),.eq (.agg #[.bool n1,.slice a1 k1 c1,.bool n2,.slice a2 k2 c2]),.eq (.pointer (some ⟨r2,4,none⟩)),.eq (.agg #[.bool m1,.slice b1 j1 d1,.bool m2,.slice b2 j2 d2]),.rat dM ((D*F))] [40,41,42,43,44,45,46] rfl rfl rfl rfl ⟨λ_ _ a _ _ _=>xM rfl (a 5 rfl),λA _ hA hL _ _=>have hb:=hL.below;have h10:A.eval (.tmp 10)=.pointer (some ⟨r3,0,none⟩):=hA 10 rfl;have c0:=((B3).on hb).at1 0 _ rfl;have c1:=((B3).on hb).at1 1 _ rfl;have c2:=((B3).on hb).at1 2 _ rfl;have c3:=((B3).on hb).at1 3 _ rfl;pZ rfl,λA _ hA _ _ _=>have h7:A.eval (.tmp 7)=.pointer (some ⟨r1,0,none⟩):=hA 7 rfl;pZ rfl,λA _ _ hL _ he=>have hb:=hL.below;have h42:=eT 42 (he.1 rfl);have c0:=((B1).on hb).at1 4 _ rfl;have c1:=((B1).on hb).at1 5 _ rfl;have c2:=((B1).on hb).at1 6 _ rfl;have c3:=((B1).on hb).at1 7 _ rfl;pZ rfl,λA _ hA _ _ _=>have h9:A.eval (.tmp 9)=.pointer (some ⟨r2,0,none⟩):=hA 9 rfl;pZ rfl,λA _ _ hL _ he=>have hb:=hL.below;have h44:=eT 44 (he.1 rfl);have c0:=((B2).on hb).at1 4 _ rfl;have c1:=((B2).on hb).at1 5 _ rfl;have c2:=((B2).on hb).at1 6 _ rfl;have c3:=((B2).on hb).at1 7 _ rfl;pZ rfl,λA _ _ _ hS he=>have hb:=hS rfl;have h43:=eT 43 (he.1 rfl);have h45:=eT 45 (he.2.1 rfl);have hf0:=eF A 88;cP (f:=88) (args:=#[.agg #[.bool n1,.slice a1 k1 c1,.bool n2,.slice a2 k2 c2],.agg #[.bool m1,.slice b1 j1 d1,.bool m2,.slice b2 j2 d2]]) (Cj _ _ _ _ _ (d.out.on hb) (l.out.on hb) Y.2 Z.2),trivial⟩ ?_
       ·intro w5 hL;have hb5:=hL.below;simp only[aT,af.eq,af.rat,af.of,lZ];rintro v46 h46;go_frame;have o:=IQ w.heap.size (kT p q k j) (e1+f1,e2+f2,e3+f3,e4+f4) (D*F) _ w5 (hS.out.on hb5) B.1 h46 B.2 (by rw[uw G hj];exact y.out.c _ _) (by rw[uw G hj,List.length_take];have:=y.out.n;omega);rw[<-show mulT ((e1,e2,e3,e4),D) ((f1,f2,f3,f4),F)=((e1+f1,e2+f2,e3+f3,e4+f4),D*F)from rfl,<-Gw x C]at o;simp only[OP,bC]at o
        go_wp2_with (go_at_call 90;refine o.mono ?_;rintro e w6 ⟨rfl,hS6,hsz6,hg6⟩)
        have hl6:Lr (some w.heap.size) 0 w5 w6:=M7 (hS.out.on hb5) hS6 hg6;have L:=hb.trans (hb5.mono hb.size);go_roundw
        case measure=>simp[intOf];omega
        case rel=>exact⟨j+1,oM,nM,zH hS6,L.trans (hl6.belowAt L.size (λk hk=>by cases hk;exact nL _)),zH ((B1.on hb5).lr hl6 (by simp;omega)),zH ((d.out.on hb5).lr hl6 dM),hr1⟩
    ·obtain rfl:j=q.length:=oM;rw[Gv x]at hS;go_wp2;go_roundw
     case measure=>simp[intOf];omega
     case rel=>exact⟨k+1,oM,nM,hS,hb⟩
  ·obtain rfl:k=p.length:=oM;rw[tL (nL _)]at hS;have o:=Ab _ _ wr hS.out (by have:=y.out.n;omega)
   go_wp2_with (go_at_call 91;refine o.mono ?_;rintro e w2 ⟨v2,rfl,hv2,hb2⟩)
   go_ret;exact⟨_,rfl,hv2,hb.trans (hb2.mono hb.size)⟩
theorem uY(e:Ex)(v:Nat)(hv:v<4)(x:Int)(r:List Value):(bC e++r).set v (.int .i64 x)=bC (e.put v x)++r:=by
 obtain rfl|rfl|rfl|rfl:v=0\/v=1\/v=2\/v=3:=oM
 all_goals rfl
theorem qh(e:Ex)(v:Nat)(hv:v<4)(r:List Value):(bC e++r)[v]?=some (.int .i64 (e.get v)):=by rw[List.getElem?_append_left (by simpa[bC]using hv)];exact AV e v hv
theorem Tv.pre{l a r:List ai}(h:Tv l)(e:l=a++r)(x:Ex):Rk (cf a x):=by have:=h.c a.length x;rw[e,List.take_left]at this;exact this
theorem su(v:Nat):∀(l r:List (List ai))(i:Int),fromL v i (l++r)=fromL v i l++fromL v (i+l.length) r
 | [],r,i=>by simp[fromL]
 | p::l,r,i=>by
  rw[List.cons_append,fromL,fromL,su v l r,List.append_assoc]
  congr 3
  simp only[List.length_cons];omega
theorem Cx(v:Nat){L:List (List ai)}{k:Nat}{p:List ai}(h:L[k]?=some p):fromL v 0 (L.take (k+1))=fromL v 0 (L.take k)++gJ p v k:=by have b:k<L.length:=(gS.1 h).1;rw[List.take_add_one,h,su,List.length_take,Nat.min_eq_left oM];simp[fromL]
theorem uy(v:Nat){L:List (List ai)}{k:Nat}{p:List ai}(h:L[k]?=some p)(j:Nat):∃r,fromL v 0 L=(fromL v 0 (L.take k)++(gJ p v k).take j)++r:=by
 have e:L=L.take (k+1)++L.drop (k+1):=(List.take_append_drop _ _).symm;refine⟨(gJ p v k).drop j++fromL v (0+(L.take (k+1)).length) (L.drop (k+1)),?_⟩
 conv=>lhs;rw[e]
 rw[su,Cx v h];simp only[List.append_assoc];rw[<-List.append_assoc (List.take j _),List.take_append_drop]
theorem QI(vl:Value)(L:List (List ai))(v:Nat)(w:World)(h:je w vl L)(hv:v<4)(s:Tv (fromL v 0 L))(hl:L.length<=100000000)(N:∀p∈L,p.length<=100000000):Calls Tryz.prog 120 #[vl,.int .i64 v] w (aS w (tO L v)):=by
 obtain⟨ap,cp,rfl,aa⟩:=h.shape;replace s:=zH s;replace N:=zH N;have hv4:(v:Int)<4:=oM;have a5:=run_makeMap (P:=Tryz.prog) 91 w
 go_enter Tryz.func120,Tryz.ntmps120
 go_upto_region 2 with (fail)
 have hS:lm (w.alloc (.map #[] 0)) w.heap.size []:=lm.made w;have I:Below w.heap.size w (w.alloc (.map #[] 0)):=(Below.refl _ _).alloc (nL _) _;obtain⟨W,hW⟩:∃W,W=w.alloc (.map #[] 0):=⟨_,rfl⟩;rw[<-hW]at hS I ⊢;clear hW a5;go_wp2
 go_loopw [13] (λi wr=>∃k:Nat,k<=L.length/\i=.int .i64 k/\Hid (lm wr w.heap.size (fromL v 0 (L.take k)))/\Below w.heap.size w wr) (λi _=>L.length-(intOf i).toNat)
 case atStart=>exact⟨0,oM,rfl,zH hS,I⟩
 case round =>
  clear hS I;obtain⟨k,hk,rfl,hS,hb⟩:=hrel;by_cases M:k<L.length
  ·have o:L[k]?=some L[k]:=gE M;obtain⟨b',off,cs,rfl,-,hE,hC⟩:=h.get o;have a6:L[k].length<=100000000:=N.out _ (List.getElem_mem M);generalize L[k]=p at o hE a6;obtain⟨pv,rfl,Z⟩:=hE;obtain⟨aq,cq,rfl,ab⟩:=Z.shape;have hc0:=(hC.on hb).cell 0 sM;simp only[Nat.add_zero,List.getElem?_cons_zero]at hc0;change wr.cell? ⟨b',off+k*1,none⟩=_ at hc0;rw[nU]at hc0;have a9:(k:Int)<L.length:=oM;have hS1:Hid (lm wr w.heap.size (fromL v 0 (L.take k)++(gJ p v k).take 0)):=zH (by simpa using hS.out);clear hS hC
   go_wp2_with (refine aj rfl _ _ 75 rfl polyT Tryz.underlying75 _ 1 24 kM _ _ _ rfl .i64 _ rfl k rfl M b' off rfl ?_)
   go_loopw [20] (λi wr2=>∃j:Nat,j<=p.length/\i=.int .i64 j/\Hid (lm wr2 w.heap.size (fromL v 0 (L.take k)++(gJ p v k).take j))/\Below w.heap.size w wr2/\w.heap.size<wr2.heap.size) (λi _=>p.length-(intOf i).toNat)
   case atStart=>exact⟨0,oM,rfl,hS1,hb,hS1.out.lt⟩
   case round =>
    clear hS1 hb hc0;obtain⟨j,hj,rfl,hS,hb,ac⟩:=hrel;by_cases X:j<p.length
    ·have J:p[j]?=some p[j]:=gE X;obtain⟨a4,a3,cs,rfl,-,hE,hC⟩:=(Z.on hb).get J;generalize p[j]=t at J hE;obtain⟨e,q⟩:=t;obtain⟨r,rfl,n1,a1,k1,c1,n2,a2,k2,c2,rfl,i1,i2⟩:=hE;have hr:=hC.range
     have l:(gJ p v k).take (j+1)=(gJ p v k).take j++[(e.put v (e.get v+k),q)]:=by rw[List.take_add_one,gJ,List.getElem?_map,J];rfl
     have C:InR (e.put v (e.get v+k))/\Rk q:=s.out.r (e.put v (e.get v+k),q) (by
      obtain⟨r',y⟩:=uy v o (j+1)
      rw[y,l];simp)
     have F:Rk (cf (fromL v 0 (L.take k)++(gJ p v k).take j) (e.put v (e.get v+k))):=by obtain⟨r',y⟩:=uy v o j;exact s.out.pre y _
     have Y:(fromL v 0 (L.take k)++(gJ p v k).take j).length<=1000000000:=by obtain⟨r',y⟩:=uy v o j;have:=s.out.n;rw[y,List.length_append]at this;omega
     have a0:-9223372036854775808<=e.get v+k/\e.get v+k<=9223372036854775807:=by
      have hh:=C.1;have hg:=Ex.get_put e v (e.get v+k);generalize e.put v (e.get v+k)=u at hh hg;obtain⟨h1,h2,h3,h4⟩:=hh;obtain rfl|rfl|rfl|rfl:v=0\/v=1\/v=2\/v=3:=oM
      ·have:=iD h1;rw[show u.1=u.get 0 from rfl,hg]at this;exact this
      ·have:=iD h2;rw[show u.2.1=u.get 1 from rfl,hg]at this;exact this
      ·have:=iD h3;rw[show u.2.2.1=u.get 2 from rfl,hg]at this;exact this
      ·have:=iD h4;rw[show u.2.2.2=u.get 3 from rfl,hg]at this;exact this
     have a8:(j:Int)<p.length:=oM;have G:=zH (show bM wr (.agg #[.bool n1,.slice a1 k1 c1,.bool n2,.slice a2 k2 c2]) q from⟨n1,a1,k1,c1,n2,a2,k2,c2,rfl,i1,i2⟩);have d:fromL v 0 (L.take k)++(gJ p v k).take (j+1)=(fromL v 0 (L.take k)++(gJ p v k).take j)++[(e.put v (e.get v+k),q)]:=by rw[l,List.append_assoc]
     replace d:=zH d;have m:=uY e v hv (e.get v+k) [.bool n1,.slice a1 k1 c1,.bool n2,.slice a2 k2 c2];have D:=qh e v hv [.bool n1,.slice a1 k1 c1,.bool n2,.slice a2 k2 c2];obtain⟨u,S⟩:∃u,u=e.put v (e.get v+k):=⟨_,rfl⟩;rw[<-S]at m d F C;have a7:IntKind.i64.wrap (e.get v+k)=e.get v+k:=mE a0;clear l S a0 hC i1 i2;obtain⟨e1,e2,e3,e4⟩:=e;obtain⟨g1,g2,g3,g4⟩:=u;generalize Ex.get (e1,e2,e3,e4) v=x at m D a7;simp only[bC,List.cons_append,List.nil_append]at hr m D
     go_upto_region 8 with (first
      | (refine aj rfl _ _ 27 rfl aJ Tryz.underlying27 _ 8 96 kM _ _ _ rfl .i64 _ rfl j rfl X a4 a3 rfl ?_)
      | (refine wpList_load_mid rfl 43 _ rfl _ _ rfl _ _ hr Tryz.underlying43 rfl kM ?_))
     refine jb λW2 hb2 B hsz2=>?_;have hS2:=zH (hS.out.on hb2);have hbW2:=hb.trans (hb2.mono hb.size);have hrat2:=G.out.on hb2;have z:=B.at1 v _ D;have hf:=B.frozen v;clear hb2 hS hr G hb;generalize wr.heap.size=r at *
     go_upto_region 9 with (fail)
     have hl3:=aY (j:=v) B (.int .i64 (x+k));have B3:=B.set v (.int .i64 (x+k));have hb3:Below w.heap.size W2 (W2.setCell ⟨r,v,none⟩ (.int .i64 (x+k))):=bF oM _;rw[m]at B3;generalize W2.setCell ⟨r,v,none⟩ (.int .i64 (x+k))=W3 at *;have hS3:=zH (hS2.out.lr hl3 dM (by simp;omega));have hrat3:=hrat2.lr hl3 dM;have hbW3:=hbW2.trans hb3;clear z hf m D hl3 hS2 hrat2 hbW2;have z1:=B3.at1 0 _ rfl;have z2:=B3.at1 1 _ rfl;have z3:=B3.at1 2 _ rfl;have z4:=B3.at1 3 _ rfl;have y1:=B3.at1 4 _ rfl;have y2:=B3.at1 5 _ rfl;have y3:=B3.at1 6 _ rfl;have y4:=B3.at1 7 _ rfl;have b:=IQ w.heap.size _ (g1,g2,g3,g4) q _ W3 hS3.out C.1 hrat3 C.2 F Y;rw[<-d.out]at b;simp only[OP,bC]at b
     go_wp2_with (go_at_call 90;refine b.mono ?_;rintro e w6 ⟨rfl,hS6,hsz6,hg6⟩)
     have hl6:Lr (some w.heap.size) 0 W3 w6:=M7 hS3.out hS6 hg6;go_roundw
     case measure=>simp[intOf];omega
     case rel=>exact⟨j+1,oM,nM,zH hS6,hbW3.trans (hl6.belowAt hbW3.size (λk hk=>by cases hk;exact nL _)),hS6.lt⟩
    ·obtain rfl:j=p.length:=oM;rw[show(gJ p v k).take p.length=gJ p v k from tL (by simp[gJ]),<-Cx v o]at hS;go_wp2;go_roundw
     case measure=>simp[intOf];omega
     case rel=>exact⟨k+1,oM,nM,hS,hb⟩
  ·obtain rfl:k=L.length:=oM;rw[tL (nL _)]at hS;have b:=Ab _ _ wr hS.out (by have:=s.out.n;omega)
   go_wp2_with (go_at_call 91;refine b.mono ?_;rintro e w2 ⟨v2,rfl,hv2,hb2⟩)
   go_ret;exact⟨_,rfl,hv2,hb.trans (hb2.mono hb.size)⟩
end Go.Proofs.YtopclbeomcggiaaGreat
end
section
namespace Q
open Go Go.RowKit Go.Proofs.YtopclbeomcggiaaGreat
theorem mF{P:Program}{w:World}{ops:Array Oper}{rest:List Oper}{o:Oper}{a:Act}{Q:Exit->Act->World->Prop}(hg:o.guard=none)(ty:TypeId)(x y:Operand)(e:o.op=.store ty x y)
  (g off:Nat) (T:TypeId) (cs:List Value) (vs:Array Value) (n:a.eval x=.pointer (some ⟨g,off,none⟩)) (p:a.eval y=.agg vs) (d:Blk w g T cs) (h:off+vs.size<=cs.length)
  (l:(P.info? ty).map (·.size)=some vs.size) (b:vs.all (·.oneCell')=true)
  (j:∀w',Blk w' g T (cs.take off++vs.toList++cs.drop (off+vs.size))->Lr (some g) T w w'->wpList P ops Q rest (a.put o.dst undef) w'):wpList P ops Q (o::rest) a w:=by
 refine wpList_store_mid hg ty x y e g off vs n p (d.there off _ h) l b ?_;obtain⟨b,i⟩:=dW vs.toList off w cs d (by simpa using h);refine j _ (by simpa using b) ⟨i,λk m=>by cases m;exact⟨d.noOther,b.noOther⟩⟩
def X6 (w:World) (a:Addr):Nat:=match w.cell? a with
 | some (.int _ x)=>x.toNat
 | _=>0
end Q
namespace Go.Proofs.YtopclbeomcggiaaGreat
open Go.RowKit Q Go.WideMaps Go.Maps
theorem Ex.get_bounds{e:Ex}(h:InR e){v:Nat}(hv:v<4):-9223372036854775808<=e.get v/\e.get v<=9223372036854775807:=by
 obtain⟨b,d,i,j⟩:=h;obtain rfl|rfl|rfl|rfl:v=0\/v=1\/v=2\/v=3:=oM
 ·exact iD b
 ·exact iD d
 ·exact iD i
 ·exact iD j
def YU (c:RK):List Value:=[.bool c.n,.slice c.a c.k c.c,.bool c.n',.slice c.a' c.k' c.c']
end Go.Proofs.YtopclbeomcggiaaGreat
end
