/- The integer package of the program: normal form, comparison. -/
import Derived.Test.YtopclbeomcggiaaGreatW06
import Derived.BigQuiet
set_option linter.unusedVariables false
set_option linter.unusedSimpArgs false
set_option maxHeartbeats 16000000
set_option maxRecDepth 100000
namespace Go.Proofs.YtopclbeomcggiaaGreat
open Go.RowKit Q
def eQ (x y:Int):Int:=if x<y then -1 else if y<x then 1 else 0
theorem jB{x y:Int}(h:x<y):eQ x y=-1:=by simp[eQ,h]
theorem jP{x y:Int}(h:y<x):eQ x y=1:=by unfold eQ;rw[if_neg oM,if_pos h]
theorem jQ{x y:Int}(h:x=y):eQ x y=0:=by unfold eQ;rw[if_neg oM,if_neg oM]
theorem gV(x y:Int)(w:World):Calls Tryz.prog 135 #[.int .i64 x,.int .i64 y] w λe w'=>e=.returned (.int .i64 (eQ x y))/\w=w':=by
 rcases Int.lt_trichotomy x y with h|h|h
 ·have H:=zH (jB h)
  go_enter Tryz.func135,Tryz.ntmps135
  go_wp2;go_ret;exact⟨by rw[H.out];rfl,rfl⟩
 ·have H:=zH (jQ h);subst h
  go_enter Tryz.func135,Tryz.ntmps135
  go_wp2;go_ret;exact⟨by rw[H.out];rfl,rfl⟩
 ·have H:=zH (jP h);have b:¬x<y:=oM
  go_enter Tryz.func135,Tryz.ntmps135
  go_wp2;go_ret;exact⟨by rw[H.out];rfl,rfl⟩
theorem BN(x y:Int)(w:World):Calls Tryz.prog 162 #[.int .u32 x,.int .u32 y] w λe w'=>e=.returned (.int .i64 (eQ x y))/\w=w':=by
 rcases Int.lt_trichotomy x y with h|h|h
 ·have H:=zH (jB h)
  go_enter Tryz.func162,Tryz.ntmps162
  go_wp2;go_ret;exact⟨by rw[H.out];rfl,rfl⟩
 ·have H:=zH (jQ h);subst h
  go_enter Tryz.func162,Tryz.ntmps162
  go_wp2;go_ret;exact⟨by rw[H.out];rfl,rfl⟩
 ·have H:=zH (jP h);have b:¬x<y:=oM
  go_enter Tryz.func162,Tryz.ntmps162
  go_wp2;go_ret;exact⟨by rw[H.out];rfl,rfl⟩
def xg (l:List Int) (k:Nat):Prop:=∀j,k<=j->j<l.length->l.getD j 0=0
theorem xg.val{l:List Int}{k:Nat}(h:xg l k):ah (l.take k)=ah l:=by
 have e:l.drop k=List.replicate (l.length-k) 0:=by
  apply List.ext_getElem
  ·simp
  ·intro i b d;simp only[List.length_drop]at b;have:=h (k+i) oM oM;rw[jD,gE oM]at this;simpa using this
 conv=>rhs;rw[<-List.take_append_drop k l,gP,e,mR]
 simp
theorem uS{l:List Int}{k:Nat}(e:k<=l.length)(h:0<k->l.getD (k-1) 0≠0):gL (l.take k):=by
 intro d
 have b:0<k:=by
  rcases Nat.eq_zero_or_pos k with h0|h0
  ·subst h0;simp at d
  ·exact h0
 have:=h b;rw[List.getLast_eq_getElem];rw[jD,gE oM]at this;simp only[List.length_take,Nat.min_eq_left e,List.getElem_take];exact this
theorem vK{P:Program}{w:World}{ops:Array Oper}{rest:List Oper}{o:Oper}{a:Act}{Q:Exit->Act->World->Prop}
  (hg:o.guard=none) (x p s:Operand) (t:TypeId) (l:o.op=Op.slice t x none (some p) (some s)) (e:TypeId) (G:P.underlying t=some (.slice e)) (z:Option Value) (size bytes:Nat)
  (b:(P.info? e).map (λi=>(i.zero,i.size,i.bytes))=some (z,size,bytes)) (d:Option Addr) (len cap:Nat) (H:a.eval x=.slice d len cap) (q r:IntKind) (i1 i2:Int) (y:a.eval p=.int q i1) (B:a.eval s=.int r i2)
  (n m:Nat) (e1:i1=(n:Int)) (u:i2=(m:Int)) (hm:m<=cap) (D:n<=m)
  (h:wpList P ops Q rest (a.put o.dst (.slice d n m)) w):wpList P ops Q (o::rest) a w:=by
 refine wpList_plain hg λK C=>?_;subst e1 u
 have E:∃i,P.info? e=some i/\i.size=size:=by
  cases hq:P.info? e with
  | none=>rw[hq]at b;cases b
  | some i=>rw[hq]at b;simp at b;exact⟨i,rfl,b.2.1⟩
 obtain⟨I,k,F⟩:=E
 have j:(Instr.sliceAt t (.slice d len cap) none (some (.int q n)) (some (.int r m))).run P w=.ok (.slice d n m) w:=by simp[Instr.sliceAt,Instr.slice,Instr.sliceBounds,Instr.sliceBound,run_underlying G,asIntOf,hm,D,Go.sizeOf,typeInfo,k];cases d<;>simp[Addr.add]
 unfold Oper.wp;simp[execOp,l,H,y,B,j,Result.andThen];exact C _ _ h
theorem Ie{l:List Int}{k cap:Nat}{e:Option Addr}{neg:Bool}{b:Bool}{w w':World}(m:Hid (gL (l.take k)))(hz:Hid (xg l k))(j:k<=l.length)(hp:b=true->0<k)(i:l.length<=cap)(L:aG l)(hm:At uT w e (uc l))
  (hb:Below w.heap.size w w') (d:fZ neg (ah l)=fZ b (ah l)) :
  kY w (fZ neg (ah l)) (.returned (.agg #[.bool b,.slice e k k])) w':=by
 refine⟨_,_,rfl,⟨l.take k,⟨e,k,?_,?_,L.take k,?_⟩,m.out,?_,?_⟩,hb⟩
 ·rw[List.length_take,Nat.min_eq_left j]
 ·rw[List.length_take];omega
 ·rw[SN];exact(hm.on hb).take k
 ·intro h;rw[List.length_take,Nat.min_eq_left j];exact hp h
 ·rw[hz.out.val];exact d
theorem yP{l:List Int}(hz:Hid (xg l 0))(n n':Bool):fZ n (ah l)=fZ n' (ah l):=by rw[<-hz.out.val,List.take_zero];cases n<;>cases n'<;>rfl
theorem Ox(neg:Bool)(o:Option Addr)(cap:Nat)(l:List Int)(w:World)(z:l.length<=137438953472)(d:l.length<=cap)(L:aG l)(hm:At uT w o (uc l)) :
  Calls Tryz.prog 112 #[.slice o l.length cap,.bool neg] w (kY w (fZ neg (ah l))):=by
 go_enter Tryz.func112,Tryz.ntmps112
 go_wp2;go_step3;go_wp2;go_step3;go_wp2
 go_loop [5] (λi=>∃k:Nat,k<=l.length/\i=.int .i64 k/\Hid (xg l k)) (λi=>(intOf i).toNat)
 case atStart=>exact⟨l.length,nL _,rfl,zH (λj h1 h2=>absurd h1 oM)⟩
 case round =>
  obtain⟨k,p,rfl,hz⟩:=hrel;by_cases h0:0<k
  ·obtain⟨b,off,e1,hc⟩:=hm (by rw[dG];omega);have E1:=zH e1;clear e1;have q:b<w.heap.size:=hc.lt
   have m:(w.alloc (Obj.cells #[Value.bool false,Value.slice none 0 0] 39)).cell? ⟨b,off+(k-1),none⟩=some (.int .u32 (l.getD (k-1) 0)):=by rw[World.cell?_alloc_past _ _ _ q];exact hc.ucell _ oM
   clear hc;by_cases n:l.getD (k-1) 0=0
   ·have s:Hid (xg l (k-1)):=λj h1 h2=>by
     rcases Nat.eq_or_lt_of_le h1 with h|h
     ·rw[<-h];exact n
     ·exact hz.out j oM h2
    rw[n]at m;clear n hz
    go_wp2_with (refine aj rfl (.tmp 10) (.tmp 12) _ rfl _ Tryz.underlying37 _ _ _ bD _ _ _ rfl _ _ rfl (k-1) oM oM b off E1.out ?_;rw[nU])
    go_round
    case rel=>exact⟨k-1,oM,nM,s⟩
    case measure=>simp[intOf];omega
   ·have r:=zH (uS p (λ_=>n));generalize l.getD (k-1) 0=x at *;have y:(x==0)=false:=by simpa using n
    have u:decide (0<(k:Int))=true:=by simp;omega
    clear n;cases neg
    all_goals
     go_wp2_with (first
      | (refine aj rfl (.tmp 10) (.tmp 12) _ rfl _ Tryz.underlying37 _ _ _ bD _ _ _ rfl _ _ rfl (k-1) oM oM b off E1.out ?_;rw[nU])
      | (refine vK rfl (.tmp 23) (.tmp 24) (.tmp 25) _ rfl _ Tryz.underlying37 _ _ _ bD _ _ _ rfl _ _ _ _ rfl rfl k k rfl rfl oM (nL _) ?_))
     exact bodyPost_ret (v:=.agg #[.bool _,.slice o k k]) (by simp[results,Tryz.results112,go_sem]) rfl (Ie r hz p (λ_=>h0) d L hm ((Below.refl _ _).alloc (nL _) _) rfl)
  ·have hk0:k=0:=oM;subst hk0;cases neg
   all_goals
    go_wp2_with (first
     | (refine vK rfl (.tmp 23) (.tmp 24) (.tmp 25) _ rfl _ Tryz.underlying37 _ _ _ bD _ _ _ rfl _ _ _ _ rfl rfl 0 0 rfl rfl oM (nL _) ?_))
    exact bodyPost_ret (v:=.agg #[.bool false,.slice o 0 0]) (by simp[results,Tryz.results112,go_sem]) rfl (Ie (zH (uS p (λh=>absurd h oM))) hz p (λh=>by cases h) d L hm ((Below.refl _ _).alloc (nL _) _) (yP hz _ _))
theorem lI(neg:Bool)(v:Value)(l:List Int)(w:World)(h:cO w v l)(d:l.length<=137438953472) :
  Calls Tryz.prog 112 #[v,.bool neg] w (kY w (fZ neg (ah l))):=by
 obtain⟨b,cap,rfl,hc,L,m⟩:=h;exact Ox neg b cap l w d hc L m
end Go.Proofs.YtopclbeomcggiaaGreat
