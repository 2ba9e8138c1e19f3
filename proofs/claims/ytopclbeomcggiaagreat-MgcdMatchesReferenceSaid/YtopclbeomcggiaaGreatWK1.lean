/- Terms, polynomials and lists of polynomials in memory; vJ and steps for regions. -/
import Derived.Test.YtopclbeomcggiaaGreatW16
set_option linter.unusedVariables false
set_option linter.unusedSimpArgs false
set_option maxHeartbeats 16000000
set_option maxRecDepth 100000
namespace Go.Proofs.YtopclbeomcggiaaGreat
open Go.RowKit Q
abbrev aJ:TypeId:=43
abbrev polyT:TypeId:=27
def bC (e:Ex):List Value:=[.int .i64 e.1,.int .i64 e.2.1,.int .i64 e.2.2.1,.int .i64 e.2.2.2]
def gM (w:World) (cs:List Value) (q:Rat):Prop:=∃n a k c n' a' k' c',cs=[.bool n,.slice a k c,.bool n',.slice a' k' c']/\aZ w n (.slice a k c) q.num/\aZ w n' (.slice a' k' c') (q.den:Int)
theorem gM.rat{w:World}{cs:List Value}{q:Rat}(h:gM w cs q):bM w (.agg cs.toArray) q:=by obtain⟨n,a,k,c,n',a',k',c',rfl,b,d⟩:=h;exact⟨n,a,k,c,n',a',k',c',rfl,b,d⟩
end Go.Proofs.YtopclbeomcggiaaGreat
namespace Go.Proofs.YtopclbeomcggiaaGreat
open Go Go.RowKit Q Go.Proofs.YtopclbeomcggiaaGreat
end Go.Proofs.YtopclbeomcggiaaGreat
namespace Go.Proofs.YtopclbeomcggiaaGreat
open Go.RowKit Q
theorem gM.len{w:World}{cs:List Value}{q:Rat}(h:gM w cs q):cs.length=4:=by obtain⟨n,a,k,c,n',a',k',c',rfl,-⟩:=h;rfl
theorem gM.one{w:World}{cs:List Value}{q:Rat}(h:gM w cs q):∀v∈cs,v.oneCell'=true:=by obtain⟨n,a,k,c,n',a',k',c',rfl,-⟩:=h;intro v hv;simp only[List.mem_cons,List.not_mem_nil,or_false]at hv;rcases hv with rfl|rfl|rfl|rfl<;>rfl
theorem gM.on{w w':World}{cs:List Value}{q:Rat}(h:gM w cs q)(hb:Below w.heap.size w w'):gM w' cs q:=by obtain⟨n,a,k,c,n',a',k',c',e,b,d⟩:=h;exact⟨n,a,k,c,n',a',k',c',e,b.on hb,d.on hb⟩
theorem gM.lr{g:Option Nat}{T:TypeId}{w w':World}{cs:List Value}{q:Rat}(h:gM w cs q)(d:Lr g T w w')(b:uT≠T):gM w' cs q:=by obtain⟨n,a,k,c,n',a',k',c',e,i,j⟩:=h;exact⟨n,a,k,c,n',a',k',c',e,i.lr d b,j.lr d b⟩
end Go.Proofs.YtopclbeomcggiaaGreat
namespace Go.Proofs.YtopclbeomcggiaaGreat
open Go Go.RowKit Q Go.Proofs.YtopclbeomcggiaaGreat
theorem bM.lr{g:Option Nat}{T:TypeId}{w w':World}{v:Value}{q:Rat}(h:bM w v q)(d:Lr g T w w')(b:uT≠T):bM w' v q:=by obtain⟨n,a,k,c,n',a',k',c',e,i,j⟩:=h;exact⟨n,a,k,c,n',a',k',c',e,i.lr d b,j.lr d b⟩
end Go.Proofs.YtopclbeomcggiaaGreat
namespace Go.Proofs.YtopclbeomcggiaaGreat
open Go.RowKit Q
def qf (w:World) (cs:List Value) (t:ai):Prop:=∃r,cs=bC t.1++r/\gM w r t.2
theorem AP(e:Ex):∀v∈bC e,v.oneCell'=true:=by intro v hv;simp only[bC,List.mem_cons,List.not_mem_nil,or_false]at hv;rcases hv with rfl|rfl|rfl|rfl<;>rfl
def aO:El ai where
 T:=aJ
 sz:=8
 pos:=by decide
 E:=qf
 len:=by rintro w c t ⟨r,rfl,h⟩;rw[List.length_append,h.len];rfl
 one:=by
  rintro w c t ⟨r,rfl,h⟩ v hv;rcases List.mem_append.1 hv with hv|hv
  ·exact AP _ v hv
  ·exact h.one v hv
 on:=by rintro w w' c t ⟨r,e,h⟩ hb;exact⟨r,e,h.on hb⟩
 ok T':=uT≠T'
 lr:=by rintro g T' w w' c t ⟨r,e,h⟩ hl hT;exact⟨r,e,h.lr hl hT⟩
 self:=by decide
abbrev ak (w:World) (v:Value) (l:List ai):Prop:=bU aO w v l
abbrev bV (base:Nat) (w:World) (v:Value) (l:List ai):Prop:=di aO base w v l
def uq:El (List ai) where
 T:=polyT
 sz:=1
 pos:=by decide
 E w cs l:=∃v,cs=[v]/\ak w v l
 len:=by rintro w c t ⟨v,rfl,h⟩;rfl
 one:=by rintro w c t ⟨v,rfl,h⟩ u hu;simp only[List.mem_cons,List.not_mem_nil,or_false]at hu;subst hu;exact h.one
 on:=by rintro w w' c t ⟨v,e,h⟩ hb;exact⟨v,e,h.on hb⟩
 ok T':=uT≠T'/\aJ≠T'
 lr:=by rintro g T' w w' c t ⟨v,e,h⟩ hl hT;exact⟨v,e,h.lr hl hT.1 hT.2⟩
 self:=by decide
abbrev je (w:World) (v:Value) (l:List (List ai)):Prop:=bU uq w v l
abbrev Cs (base:Nat) (w:World) (v:Value) (l:List (List ai)):Prop:=di uq base w v l
def aS (w:World) (l:List ai) (e:Ending) (w':World):Prop:=∃v,e=.returned v/\ak w' v l/\Below w.heap.size w w'
def IA (w:World) (l:List (List ai)) (e:Ending) (w':World):Prop:=∃v,e=.returned v/\je w' v l/\Below w.heap.size w w'
theorem za:(Tryz.prog.info? 43).map (·.size)=some 8:=kM
theorem Tk:∃z bytes,(Tryz.prog.info? 43).map (λi=>(i.zero,i.size,i.bytes))=some (some z,8,bytes)/\z.cells.size=8/\bytes<=100000:=⟨.agg #[.int .i64 0,.int .i64 0,.int .i64 0,.int .i64 0,.bool false,.slice none 0 0,.bool false,.slice none 0 0],96,kM,rfl,dM⟩
theorem QC:(Tryz.prog.info? 27).map (·.size)=some 1:=kM
theorem Tm:∃z bytes,(Tryz.prog.info? 27).map (λi=>(i.zero,i.size,i.bytes))=some (some z,1,bytes)/\z.cells.size=1/\bytes<=100000:=⟨.slice none 0 0,24,kM,rfl,dM⟩
end Go.Proofs.YtopclbeomcggiaaGreat
namespace Q
open Go Go.RowKit Go.Proofs.YtopclbeomcggiaaGreat
namespace af
variable {g:Option Nat} {T:TypeId}
def int (hT:uT≠T) (z:Int):af (Lr g T):=af.of (λv w=>∃neg m,v=.agg #[.bool neg,m]/\aZ w neg m z) (λ_ _ _ hb ⟨n,m,e,h⟩=>⟨n,m,e,h.lr hb hT⟩)
def rat (hT:uT≠T) (q:Rat):af (Lr g T):=af.of (λv w=>bM w v q) (λ_ _ _ hb h=>h.lr hb hT)
def poly (hT:uT≠T) (hT':aJ≠T) (l:List ai):af (Lr g T):=af.of (λv w=>ak w v l) (λ_ _ _ hb h=>h.lr hb hT hT')
def new1 {α:Type} (e:El α) (hT:e.ok T) (t:α):af (Lr g T) :=
 af.of (λv w=>∃b cs,some b≠g/\v=.slice (some ⟨b,0,none⟩) 1 1/\bS e.T w b 0 cs/\e.E w cs t) (λ_ _ _ hb ⟨b,cs,h1,h2,h3,h4⟩=>⟨b,cs,h1,h2,h3.lr' hb h1,e.lr h4 hb hT⟩)
def row {α:Type} (e:El α) (base B:Nat) (l:List α):af (Lr g T):=af.fragile (λv w=>di e base w v l/\(v.ownBlock=g\/∃k,v.ownBlock=some k/\B<=k))
end af
section
variable {P:Program} {ev:Operand->Value} {o:Oper} {w w':World} {c:Value}
theorem Gp{t:TypeId}{x d:Operand}(b:o.op=.indexAddr t x d)(h:(Instr.indexAt t (ev x) (ev d)).run P w=.ok c w'):(execOp ev o).run P w=.ok (.value c) w':=by unfold execOp;rw[b];simp[h,Result.andThen]
theorem IB{t:TypeId}{x:Operand}(b:o.op=.load t x)(h:(Instr.loadAt t (ev x)).run P w=.ok c w'):(execOp ev o).run P w=.ok (.value c) w':=by unfold execOp;rw[b];simp[h,Result.andThen]
theorem jE{t:TypeId}{x:Operand}{lo d e:Option Operand}(b:o.op=.slice t x lo d e)(h:(Instr.sliceAt t (ev x) (lo.map ev) (d.map ev) (e.map ev)).run P w=.ok c w'):(execOp ev o).run P w=.ok (.value c) w':=by unfold execOp;rw[b];simp[h,Result.andThen]
theorem qL{t:TypeId}{x y:Operand}(b:o.op=.call { callee:=.builtin .append,args:=#[x,y],argTypes:=#[t,t] })(h:(Builtin.append_ #[t,t] o.type #[ev x,ev y]).run P w=.ok c w'):(execOp ev o).run P w=.ok (.value c) w':=by unfold execOp;rw[b];simp only[resolve,invoke,builtin,Sem.run_bind,Sem.run_pure,Result.andThen_ok,List.map_toArray,List.map_cons,List.map_nil,h]
variable {g:Option Nat} {T:TypeId} {w0:World} {A:Act} {i:Nat} {pu fr:Nat->Bool} {φ:Nat->Value->World->Prop} {Q:Exit->Act->World->Prop}
theorem fo{α:Type}{e:El α}{cs:List Value}{t:α}(hp:pu i=false)(hf:fr i=false)(k:fK g T w)(he:e.E w cs t)
  (j:(execOp A.eval o).run P w=.ok (.value (.slice (some ⟨w.heap.size,0,none⟩) 1 1)) (w.alloc (.cells cs.toArray e.T)))
  (l:∀v w',(∃b cs,some b≠g/\v=.slice (some ⟨b,0,none⟩) 1 1/\bS e.T w' b 0 cs/\e.E w' cs t)->φ i v w') :
  o.wp P A w (jW (Lr g T) pu fr φ o i A w) Q:=by
 have d:Below w.heap.size w (w.alloc (.cells cs.toArray e.T)):=(Below.refl _ _).alloc (nL _) _;refine iM hp hf d (l _ _ ⟨w.heap.size,cs,λh=>?_,rfl,(Blk.new w e.T cs).cells,e.on he d⟩) j;have:=(k _ h.symm).1;omega
theorem dL{α:Type}{e:El α}{t:TypeId}{x y:Operand}{base B:Nat}{l r:List α}{v u:Value}(hp:pu i=false)(hf:fr i=true)(q:o.op=.call { callee:=.builtin .append,args:=#[x,y],argTypes:=#[t,t] })
  (H:P.underlying t=some (.slice e.T)) (p:∃z bytes,(P.info? e.T).map (λi=>(i.zero,i.size,i.bytes))=some (some z,e.sz,bytes)/\z.cells.size=e.sz/\bytes<=100000)
  (I:A.eval x=v) (J:A.eval y=u) (G:di e base w v l) (hg:v.ownBlock=g) (F:T=e.T) (hu:bU e w u r) (j:l.length+r.length<=1000000000) (b:base<=w.heap.size) (E:B<=w.heap.size)
  (s:∀d w',di e base w' d (l++r)->(d.ownBlock=g\/∃k,d.ownBlock=some k/\B<=k)->φ i d w') :
  o.wp P A w (jW (Lr g T) pu fr φ o i A w) Q:=by
 obtain⟨z,bytes,p,hz,n⟩:=p;obtain⟨d,w',m,D,C,h⟩:=qK (ty:=o.type) H p hz G hu j n b;refine Ow hp hf (by rw[hg]at C;rw[F];exact C) (s d w' D ?_) (qL q (by rw[I,J];exact m));rcases h with h|h
 ·exact .inl (by rw[h,hg])
 ·exact .inr ⟨_,h,E⟩
end
end Q
