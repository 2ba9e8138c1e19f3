/- Terms, polynomials and lists of polynomials in memory; rW and steps for regions. -/
import Derived.Test.YtopclbeomcggiaaGreatW15
import Derived.Test.YtopclbeomcggiaaGreatW16
set_option linter.unusedVariables false
set_option linter.unusedSimpArgs false
set_option maxHeartbeats 16000000
set_option maxRecDepth 100000
namespace Go.Proofs.YtopclbeomcggiaaGreat
open Go.RowKit Q
abbrev aN:TypeId:=43
abbrev polyT:TypeId:=27
def bR (e:Ex):List Value:=[.int .i64 e.1,.int .i64 e.2.1,.int .i64 e.2.2.1,.int .i64 e.2.2.2]
def gM (w:World) (cs:List Value) (q:Rat):Prop:=∃ n a k c n' a' k' c',cs=[.bool n,.slice a k c,.bool n',.slice a' k' c']/\aZ w n (.slice a k c) q.num/\aZ w n' (.slice a' k' c') (q.den:Int)
theorem gM.rat {w:World} {cs:List Value} {q:Rat} (h:gM w cs q):bV w (.agg cs.toArray) q:=by
 obtain⟨n,a,k,c,n',a',k',c',rfl,h1,h2⟩:=h;exact⟨n,a,k,c,n',a',k',c',rfl,h1,h2⟩
end Go.Proofs.YtopclbeomcggiaaGreat
namespace Go.Proofs.YtopclbeomcggiaaGreat
open Go Go.RowKit Q Go.Proofs.YtopclbeomcggiaaGreat
end Go.Proofs.YtopclbeomcggiaaGreat
namespace Go.Proofs.YtopclbeomcggiaaGreat
open Go.RowKit Q
theorem gM.len {w:World} {cs:List Value} {q:Rat} (h:gM w cs q):cs.length=4:=by obtain⟨n,a,k,c,n',a',k',c',rfl,-⟩:=h;rfl
theorem gM.one {w:World} {cs:List Value} {q:Rat} (h:gM w cs q):∀ v∈cs,v.oneCell'=true:=by
 obtain⟨n,a,k,c,n',a',k',c',rfl,-⟩:=h;intro v hv;simp only [List.mem_cons,List.not_mem_nil,or_false] at hv;rcases hv with rfl|rfl|rfl|rfl <;> rfl
theorem gM.on {w w':World} {cs:List Value} {q:Rat} (h:gM w cs q) (hb:Below w.heap.size w w'):gM w' cs q:=by
 obtain⟨n,a,k,c,n',a',k',c',e,h1,h2⟩:=h;exact⟨n,a,k,c,n',a',k',c',e,h1.on hb,h2.on hb⟩
theorem gM.lr {g:Option Nat} {T:TypeId} {w w':World} {cs:List Value} {q:Rat} (h:gM w cs q) (hl:Lr g T w w') (hT:uT≠T):gM w' cs q:=by
 obtain⟨n,a,k,c,n',a',k',c',e,h1,h2⟩:=h;exact⟨n,a,k,c,n',a',k',c',e,h1.lr hl hT,h2.lr hl hT⟩
end Go.Proofs.YtopclbeomcggiaaGreat
namespace Go.Proofs.YtopclbeomcggiaaGreat
open Go Go.RowKit Q Go.Proofs.YtopclbeomcggiaaGreat
theorem bV.lr {g:Option Nat} {T:TypeId} {w w':World} {v:Value} {q:Rat} (h:bV w v q) (hl:Lr g T w w') (hT:uT≠T):bV w' v q:=by
 obtain⟨n,a,k,c,n',a',k',c',e,h1,h2⟩:=h;exact⟨n,a,k,c,n',a',k',c',e,h1.lr hl hT,h2.lr hl hT⟩
end Go.Proofs.YtopclbeomcggiaaGreat
namespace Go.Proofs.YtopclbeomcggiaaGreat
open Go.RowKit Q
def qf (w:World) (cs:List Value) (t:ai):Prop:=∃ r,cs=bR t.1++r/\gM w r t.2
theorem zI (e:Ex):∀ v∈bR e,v.oneCell'=true:=by
 intro v hv;simp only [bR,List.mem_cons,List.not_mem_nil,or_false] at hv;rcases hv with rfl|rfl|rfl|rfl <;> rfl
def aO:El ai where
 T:=aN
 sz:=8
 pos:=by decide
 E:=qf
 len:=by rintro w c t ⟨r,rfl,h⟩;rw [List.length_append,h.len];rfl
 one:=by
  rintro w c t ⟨r,rfl,h⟩ v hv;rcases List.mem_append.1 hv with hv|hv
  ·exact zI _ v hv
  ·exact h.one v hv
 on:=by rintro w w' c t ⟨r,e,h⟩ hb;exact⟨r,e,h.on hb⟩
 ok T':=uT≠T'
 lr:=by rintro g T' w w' c t ⟨r,e,h⟩ hl hT;exact⟨r,e,h.lr hl hT⟩
 self:=by decide
abbrev ak (w:World) (v:Value) (l:List ai):Prop:=bS aO w v l
abbrev cK (base:Nat) (w:World) (v:Value) (l:List ai):Prop:=cB aO base w v l
def oF:El (List ai) where
 T:=polyT
 sz:=1
 pos:=by decide
 E w cs l:=∃ v,cs=[v]/\ak w v l
 len:=by rintro w c t ⟨v,rfl,h⟩;rfl
 one:=by
  rintro w c t ⟨v,rfl,h⟩ u hu;simp only [List.mem_cons,List.not_mem_nil,or_false] at hu;subst hu;exact h.one
 on:=by rintro w w' c t ⟨v,e,h⟩ hb;exact⟨v,e,h.on hb⟩
 ok T':=uT≠T'/\aN≠T'
 lr:=by rintro g T' w w' c t ⟨v,e,h⟩ hl hT;exact⟨v,e,h.lr hl hT.1 hT.2⟩
 self:=by decide
abbrev fG (w:World) (v:Value) (l:List (List ai)):Prop:=bS oF w v l
abbrev A7 (base:Nat) (w:World) (v:Value) (l:List (List ai)):Prop:=cB oF base w v l
def aX (w:World) (l:List ai) (e:Ending) (w':World):Prop:=∃ v,e=.returned v/\ak w' v l/\Below w.heap.size w w'
def GZ (w:World) (l:List (List ai)) (e:Ending) (w':World):Prop:=∃ v,e=.returned v/\fG w' v l/\Below w.heap.size w w'
theorem xR:(Tryz.prog.info? 43).map (·.size)=some 8:=by kernel_rfl
theorem Sn:∃ z bytes,(Tryz.prog.info? 43).map (fun i=>(i.zero,i.size,i.bytes))=some (some z,8,bytes)/\z.cells.size=8/\bytes<=100000:=⟨.agg #[.int .i64 0,.int .i64 0,.int .i64 0,.int .i64 0,.bool false,.slice none 0 0,.bool false,.slice none 0 0],96,by kernel_rfl,rfl,by decide⟩
theorem Fa:(Tryz.prog.info? 27).map (·.size)=some 1:=by kernel_rfl
theorem Sr:∃ z bytes,(Tryz.prog.info? 27).map (fun i=>(i.zero,i.size,i.bytes))=some (some z,1,bytes)/\z.cells.size=1/\bytes<=100000:=⟨.slice none 0 0,24,by kernel_rfl,rfl,by decide⟩
end Go.Proofs.YtopclbeomcggiaaGreat
namespace Q
open Go Go.RowKit Go.Proofs.YtopclbeomcggiaaGreat
namespace af
variable {g:Option Nat} {T:TypeId}
def int (hT:uT≠T) (z:Int):af (Lr g T):=af.of (fun v w=>∃ neg m,v=.agg #[.bool neg,m]/\aZ w neg m z) (fun _ _ _ hb ⟨n,m,e,h⟩=>⟨n,m,e,h.lr hb hT⟩)
def rat (hT:uT≠T) (q:Rat):af (Lr g T):=af.of (fun v w=>bV w v q) (fun _ _ _ hb h=>h.lr hb hT)
def poly (hT:uT≠T) (hT':aN≠T) (l:List ai):af (Lr g T):=af.of (fun v w=>ak w v l) (fun _ _ _ hb h=>h.lr hb hT hT')
def new1 {α:Type} (e:El α) (hT:e.ok T) (t:α):af (Lr g T) :=
 af.of (fun v w=>∃ b cs,some b≠g/\v=.slice (some ⟨b,0,none⟩) 1 1/\bO e.T w b 0 cs/\e.E w cs t) (fun _ _ _ hb ⟨b,cs,h1,h2,h3,h4⟩=>⟨b,cs,h1,h2,h3.lr' hb h1,e.lr h4 hb hT⟩)
def row {α:Type} (e:El α) (base B:Nat) (l:List α):af (Lr g T):=af.fragile (fun v w=>cB e base w v l/\(v.ownBlock=g\/∃ k,v.ownBlock=some k/\B<=k))
end af
section
variable {P:Program} {ev:Operand->Value} {o:Oper} {w w':World} {c:Value}
theorem Fb {t:TypeId} {x ix:Operand} (hop:o.op=.indexAddr t x ix) (h:(Instr.indexAt t (ev x) (ev ix)).run P w=.ok c w'):(execOp ev o).run P w=.ok (.value c) w':=by
 unfold execOp;rw [hop];simp [h,Result.andThen]
theorem G5 {t:TypeId} {x:Operand} (hop:o.op=.load t x) (h:(Instr.loadAt t (ev x)).run P w=.ok c w'):(execOp ev o).run P w=.ok (.value c) w':=by
 unfold execOp;rw [hop];simp [h,Result.andThen]
theorem iA {t:TypeId} {x:Operand} {lo hi mx:Option Operand} (hop:o.op=.slice t x lo hi mx) (h:(Instr.sliceAt t (ev x) (lo.map ev) (hi.map ev) (mx.map ev)).run P w=.ok c w'):(execOp ev o).run P w=.ok (.value c) w':=by
 unfold execOp;rw [hop];simp [h,Result.andThen]
theorem qg {t:TypeId} {x y:Operand} (hop:o.op=.call { callee:=.builtin .append,args:=#[x,y],argTypes:=#[t,t] }) (h:(Builtin.append_ #[t,t] o.type #[ev x,ev y]).run P w=.ok c w'):(execOp ev o).run P w=.ok (.value c) w':=by
 unfold execOp;rw [hop];simp only [resolve,invoke,builtin,Sem.run_bind,Sem.run_pure,Result.andThen_ok,List.map_toArray,List.map_cons,List.map_nil,h]
variable {g:Option Nat} {T:TypeId} {w0:World} {A:Act} {i:Nat} {pu fr:Nat->Bool} {φ:Nat->Value->World->Prop} {Q:Exit->Act->World->Prop}
theorem fo {α:Type} {e:El α} {cs:List Value} {t:α} (hp:pu i=false) (hf:fr i=false) (hok:gp g T w) (he:e.E w cs t)
  (hrun:(execOp A.eval o).run P w=.ok (.value (.slice (some ⟨w.heap.size,0,none⟩) 1 1)) (w.alloc (.cells cs.toArray e.T)))
  (hφ:∀ v w',(∃ b cs,some b≠g/\v=.slice (some ⟨b,0,none⟩) 1 1/\bO e.T w' b 0 cs/\e.E w' cs t)->φ i v w') :
  o.wp P A w (jK (Lr g T) pu fr φ o i A w) Q:=by
 have hbe:Below w.heap.size w (w.alloc (.cells cs.toArray e.T)):=(Below.refl _ _).alloc (Nat.le_refl _) _;refine iW hp hf hbe (hφ _ _ ⟨w.heap.size,cs,fun h=>?_,rfl,(Blk.new w e.T cs).cells,e.on he hbe⟩) hrun;have:=(hok _ h.symm).1;omega
theorem dO {α:Type} {e:El α} {t:TypeId} {x y:Operand} {base B:Nat} {l r:List α} {v u:Value} (hp:pu i=false) (hf:fr i=true) (hop:o.op=.call { callee:=.builtin .append,args:=#[x,y],argTypes:=#[t,t] })
  (ht:P.underlying t=some (.slice e.T)) (hi:∃ z bytes,(P.info? e.T).map (fun i=>(i.zero,i.size,i.bytes))=some (some z,e.sz,bytes)/\z.cells.size=e.sz/\bytes<=100000)
  (hx:A.eval x=v) (hy:A.eval y=u) (ho:cB e base w v l) (hg:v.ownBlock=g) (hT:T=e.T) (hu:bS e w u r) (hlen:l.length+r.length<=1000000000) (hbase:base<=w.heap.size) (hB:B<=w.heap.size)
  (hφ:∀ v' w',cB e base w' v' (l++r)->(v'.ownBlock=g\/∃ k,v'.ownBlock=some k/\B<=k)->φ i v' w') :
  o.wp P A w (jK (Lr g T) pu fr φ o i A w) Q:=by
 obtain⟨z,bytes,hi,hz,hby⟩:=hi;obtain⟨v',w',hrun,h2,h3,h4⟩:=pX (ty:=o.type) ht hi hz ho hu hlen hby hbase;refine Nc hp hf (by rw [hg] at h3;rw [hT];exact h3) (hφ v' w' h2 ?_) (qg hop (by rw [hx,hy];exact hrun));rcases h4 with h4|h4
 ·exact .inl (by rw [h4,hg])
 ·exact .inr ⟨_,h4,hB⟩
end
end Q
