/- The integer package of the program: normal form, comparison. -/
import Derived.Test.YtopclbeomcggiaaGreatY06
import Derived.BigQuiet
set_option linter.unusedVariables false
set_option linter.unusedSimpArgs false
set_option maxHeartbeats 16000000
set_option maxRecDepth 100000
namespace Go.Proofs.YtopclbeomcggiaaGreat
open Go.RowKit Q
def fD (x y:Int):Int:=if x<y then -1 else if y<x then 1 else 0
theorem jM{x y:Int}(h:x<y):fD x y=-1:=by simp[fD,h]
theorem ku{x y:Int}(h:y<x):fD x y=1:=by unfold fD;rw[if_neg oM,if_pos h]
theorem kC{x y:Int}(h:x=y):fD x y=0:=by unfold fD;rw[if_neg oM,if_neg oM]
theorem iI(x y:Int)(w:World):Calls Tryz.prog 135 #[.int .i64 x,.int .i64 y] w λe w'=>e=.returned (.int .i64 (fD x y))/\w=w':=by
 rcases Int.lt_trichotomy x y with h|h|h
 ·have H:=zH (jM h)
  go_enter Tryz.func135,Tryz.ntmps135
  go_wp2;go_ret;exact⟨by rw[H.out];rfl,rfl⟩
 ·have H:=zH (kC h);subst h
  go_enter Tryz.func135,Tryz.ntmps135
  go_wp2;go_ret;exact⟨by rw[H.out];rfl,rfl⟩
 ·have H:=zH (ku h);have b:¬x<y:=oM
  go_enter Tryz.func135,Tryz.ntmps135
  go_wp2;go_ret;exact⟨by rw[H.out];rfl,rfl⟩
theorem Cw(x y:Int)(w:World):Calls Tryz.prog 162 #[.int .u32 x,.int .u32 y] w λe w'=>e=.returned (.int .i64 (fD x y))/\w=w':=by
 rcases Int.lt_trichotomy x y with h|h|h
 ·have H:=zH (jM h)
  go_enter Tryz.func162,Tryz.ntmps162
  go_wp2;go_ret;exact⟨by rw[H.out];rfl,rfl⟩
 ·have H:=zH (kC h);subst h
  go_enter Tryz.func162,Tryz.ntmps162
  go_wp2;go_ret;exact⟨by rw[H.out];rfl,rfl⟩
 ·have H:=zH (ku h);have b:¬x<y:=oM
  go_enter Tryz.func162,Tryz.ntmps162
  go_wp2;go_ret;exact⟨by rw[H.out];rfl,rfl⟩
def xW (l:List Int) (k:Nat):Prop:=∀j,k<=j->j<l.length->l.getD j 0=0
theorem xW.val{l:List Int}{k:Nat}(h:xW l k):ah (l.take k)=ah l:=by
 have e:l.drop k=List.replicate (l.length-k) 0:=by
  apply List.ext_getElem
  ·simp
  ·intro i b d;simp only[List.length_drop]at b;have:=h (k+i) oM oM;rw[jD,gE oM]at this;simpa using this
 conv=>rhs;rw[<-List.take_append_drop k l,il,e,nE]
 simp
theorem vR{l:List Int}{k:Nat}(e:k<=l.length)(h:0<k->l.getD (k-1) 0≠0):gX (l.take k):=by
 intro d
 have b:0<k:=by
  rcases Nat.eq_zero_or_pos k with h0|h0
  ·subst h0;simp at d
  ·exact h0
 have:=h b;rw[List.getLast_eq_getElem];rw[jD,gE oM]at this;simp only[List.length_take,Nat.min_eq_left e,List.getElem_take];exact this
theorem wN{P:Program}{w:World}{ops:Array Oper}{rest:List Oper}{o:Oper}{a:Act}{Q:Exit->Act->World->Prop}
  (hg:o.guard=none) (x p r:Operand) (t:TypeId) (l:o.op=Op.slice t x none (some p) (some r)) (e:TypeId) (F:P.underlying t=some (.slice e)) (z:Option Value) (size bytes:Nat)
  (b:(P.info? e).map (λi=>(i.zero,i.size,i.bytes))=some (z,size,bytes)) (d:Option Addr) (len cap:Nat) (G:a.eval x=.slice d len cap) (q k2:IntKind) (i1 i2:Int) (u:a.eval p=.int q i1) (y:a.eval r=.int k2 i2)
  (n m:Nat) (e1:i1=(n:Int)) (s:i2=(m:Int)) (hm:m<=cap) (C:n<=m)
  (h:wpList P ops Q rest (a.put o.dst (.slice d n m)) w):wpList P ops Q (o::rest) a w:=by
 refine wpList_plain hg λK B=>?_;subst e1 s
 have D:∃i,P.info? e=some i/\i.size=size:=by
  cases hq:P.info? e with
  | none=>rw[hq]at b;cases b
  | some i=>rw[hq]at b;simp at b;exact⟨i,rfl,b.2.1⟩
 obtain⟨H,k,E⟩:=D
 have j:(Instr.sliceAt t (.slice d len cap) none (some (.int q n)) (some (.int k2 m))).run P w=.ok (.slice d n m) w:=by simp[Instr.sliceAt,Instr.slice,Instr.sliceBounds,Instr.sliceBound,run_underlying F,asIntOf,hm,C,Go.sizeOf,typeInfo,k];cases d<;>simp[Addr.add]
 unfold Oper.wp;simp[execOp,l,G,u,y,j,Result.andThen];exact B _ _ h
theorem Jg{l:List Int}{k cap:Nat}{e:Option Addr}{neg:Bool}{b:Bool}{w w':World}(m:Hid (gX (l.take k)))(hz:Hid (xW l k))(j:k<=l.length)(hp:b=true->0<k)(i:l.length<=cap)(L:aG l)(hm:At uT w e (uc l))
  (hb:Below w.heap.size w w') (d:gG neg (ah l)=gG b (ah l)) :
  lU w (gG neg (ah l)) (.returned (.agg #[.bool b,.slice e k k])) w':=by
 refine⟨_,_,rfl,⟨l.take k,⟨e,k,?_,?_,L.take k,?_⟩,m.out,?_,?_⟩,hb⟩
 ·rw[List.length_take,Nat.min_eq_left j]
 ·rw[List.length_take];omega
 ·rw[Ug];exact(hm.on hb).take k
 ·intro h;rw[List.length_take,Nat.min_eq_left j];exact hp h
 ·rw[hz.out.val];exact d
theorem zA{l:List Int}(hz:Hid (xW l 0))(n n':Bool):gG n (ah l)=gG n' (ah l):=by rw[<-hz.out.val,List.take_zero];cases n<;>cases n'<;>rfl
theorem Pj(neg:Bool)(o:Option Addr)(cap:Nat)(l:List Int)(w:World)(z:l.length<=137438953472)(d:l.length<=cap)(L:aG l)(hm:At uT w o (uc l)) :
  Calls Tryz.prog 112 #[.slice o l.length cap,.bool neg] w (lU w (gG neg (ah l))):=by
 go_enter Tryz.func112,Tryz.ntmps112
 go_wp2;go_step3;go_wp2;go_step3;go_wp2
 go_loop [5] (λi=>∃k:Nat,k<=l.length/\i=.int .i64 k/\Hid (xW l k)) (λi=>(intOf i).toNat)
 case atStart=>exact⟨l.length,nL _,rfl,zH (λj h1 h2=>absurd h1 oM)⟩
 case round =>
  obtain⟨k,p,rfl,hz⟩:=hrel;by_cases h0:0<k
  ·obtain⟨b,off,e1,hc⟩:=hm (by rw[dN];omega);have E1:=zH e1;clear e1;have q:b<w.heap.size:=hc.lt
   have m:(w.alloc (Obj.cells #[Value.bool false,Value.slice none 0 0] 39)).cell? ⟨b,off+(k-1),none⟩=some (.int .u32 (l.getD (k-1) 0)):=by rw[World.cell?_alloc_past _ _ _ q];exact hc.ucell _ oM
   clear hc;by_cases n:l.getD (k-1) 0=0
   ·have s:Hid (xW l (k-1)):=λj h1 h2=>by
     rcases Nat.eq_or_lt_of_le h1 with h|h
     ·rw[<-h];exact n
     ·exact hz.out j oM h2
    rw[n]at m;clear n hz
    go_wp2_with (refine ak rfl (.tmp 10) (.tmp 12) _ rfl _ Tryz.underlying37 _ _ _ bH _ _ _ rfl _ _ rfl (k-1) oM oM b off E1.out ?_;rw[nU])
    go_round
    case rel=>exact⟨k-1,oM,nM,s⟩
    case measure=>simp[intOf];omega
   ·have r:=zH (vR p (λ_=>n));generalize l.getD (k-1) 0=x at *;have y:(x==0)=false:=by simpa using n
    have u:decide (0<(k:Int))=true:=by simp;omega
    clear n;cases neg
    all_goals
     go_wp2_with (first
      | (refine ak rfl (.tmp 10) (.tmp 12) _ rfl _ Tryz.underlying37 _ _ _ bH _ _ _ rfl _ _ rfl (k-1) oM oM b off E1.out ?_;rw[nU])
      | (refine wN rfl (.tmp 23) (.tmp 24) (.tmp 25) _ rfl _ Tryz.underlying37 _ _ _ bH _ _ _ rfl _ _ _ _ rfl rfl k k rfl rfl oM (nL _) ?_))
     exact bodyPost_ret (v:=.agg #[.bool _,.slice o k k]) (by simp[results,Tryz.results112,go_sem]) rfl (Jg r hz p (λ_=>h0) d L hm ((Below.refl _ _).alloc (nL _) _) rfl)
  ·have hk0:k=0:=oM;subst hk0;cases neg
   all_goals
    go_wp2_with (first
     | (refine wN rfl (.tmp 23) (.tmp 24) (.tmp 25) _ rfl _ Tryz.underlying37 _ _ _ bH _ _ _ rfl _ _ _ _ rfl rfl 0 0 rfl rfl oM (nL _) ?_))
    exact bodyPost_ret (v:=.agg #[.bool false,.slice o 0 0]) (by simp[results,Tryz.results112,go_sem]) rfl (Jg (zH (vR p (λh=>absurd h oM))) hz p (λh=>by cases h) d L hm ((Below.refl _ _).alloc (nL _) _) (zA hz _ _))
theorem mh(neg:Bool)(v:Value)(l:List Int)(w:World)(h:cZ w v l)(d:l.length<=137438953472) :
  Calls Tryz.prog 112 #[v,.bool neg] w (lU w (gG neg (ah l))):=by
 obtain⟨b,cap,rfl,hc,L,m⟩:=h;exact Pj neg b cap l w d hc L m
end Go.Proofs.YtopclbeomcggiaaGreat
