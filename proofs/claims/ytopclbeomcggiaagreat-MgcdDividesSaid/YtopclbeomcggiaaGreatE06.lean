/- The integer package of the program: normal form, comparison. -/
import Derived.Test.YtopclbeomcggiaaGreatE02
import Derived.Test.YtopclbeomcggiaaGreatE05
import Derived.BigQuiet
import Derived.Deep.QuietTactic
set_option linter.unusedVariables false
set_option linter.unusedSimpArgs false
set_option maxHeartbeats 16000000
set_option maxRecDepth 100000
namespace Go.Proofs.YtopclbeomcggiaaGreat
open Go.RowKit Q
def cmpZ (x y:Int):Int:=if x<y then -1 else if y<x then 1 else 0
theorem cmpZ_lt {x y:Int} (h:x<y):cmpZ x y=-1:=by simp [cmpZ,h]
theorem cmpZ_gt {x y:Int} (h:y<x):cmpZ x y=1:=by unfold cmpZ;rw [if_neg (by omega),if_pos h]
theorem cmpZ_eq {x y:Int} (h:x=y):cmpZ x y=0:=by unfold cmpZ;rw [if_neg (by omega),if_neg (by omega)]
theorem cmpInt_any (x y:Int) (w:World):Calls Tryz.prog 135 #[.int .i64 x,.int .i64 y] w fun e w'=>e=.returned (.int .i64 (cmpZ x y))/\w=w':=by
 rcases Int.lt_trichotomy x y with h|h|h
 ·have H:=zH (cmpZ_lt h)
  go_enter Tryz.func135,Tryz.ntmps135
  go_wp2;go_ret;exact⟨by rw [H.out];rfl,rfl⟩
 ·have H:=zH (cmpZ_eq h);subst h
  go_enter Tryz.func135,Tryz.ntmps135
  go_wp2;go_ret;exact⟨by rw [H.out];rfl,rfl⟩
 ·have H:=zH (cmpZ_gt h);have h':¬ x<y:=by omega
  go_enter Tryz.func135,Tryz.ntmps135
  go_wp2;go_ret;exact⟨by rw [H.out];rfl,rfl⟩
theorem cmpU32_any (x y:Int) (w:World):Calls Tryz.prog 162 #[.int .u32 x,.int .u32 y] w fun e w'=>e=.returned (.int .i64 (cmpZ x y))/\w=w':=by
 rcases Int.lt_trichotomy x y with h|h|h
 ·have H:=zH (cmpZ_lt h)
  go_enter Tryz.func162,Tryz.ntmps162
  go_wp2;go_ret;exact⟨by rw [H.out];rfl,rfl⟩
 ·have H:=zH (cmpZ_eq h);subst h
  go_enter Tryz.func162,Tryz.ntmps162
  go_wp2;go_ret;exact⟨by rw [H.out];rfl,rfl⟩
 ·have H:=zH (cmpZ_gt h);have h':¬ x<y:=by omega
  go_enter Tryz.func162,Tryz.ntmps162
  go_wp2;go_ret;exact⟨by rw [H.out];rfl,rfl⟩
def Tail0 (l:List Int) (k:Nat):Prop:=∀ j,k<=j->j<l.length->l.getD j 0=0
theorem Tail0.val {l:List Int} {k:Nat} (h:Tail0 l k):lval (l.take k)=lval l:=by
 have e:l.drop k=List.replicate (l.length-k) 0:=by
  apply List.ext_getElem
  ·simp
  ·intro i h1 h2;simp only [List.length_drop] at h1;have:=h (k+i) (by omega) (by omega);rw [List.getD_eq_getElem?_getD,List.getElem?_eq_getElem (by omega)] at this;simpa using this
 conv=>rhs;rw [<- List.take_append_drop k l,lval_append,e,lval_zeros]
 simp
theorem norm_take {l:List Int} {k:Nat} (hk:k<=l.length) (h:0<k->l.getD (k-1) 0≠0):Norm (l.take k):=by
 intro hne
 have hk0:0<k:=by
  rcases Nat.eq_zero_or_pos k with h0|h0
  ·subst h0;simp at hne
  ·exact h0
 have:=h hk0;rw [List.getLast_eq_getElem];rw [List.getD_eq_getElem?_getD,List.getElem?_eq_getElem (by omega)] at this;simp only [List.length_take,Nat.min_eq_left hk,List.getElem_take];exact this
theorem wpList_slice3 {P:Program} {w:World} {ops:Array Oper} {rest:List Oper} {o:Oper} {a:Act} {Q:Exit->Act->World->Prop}
  (hg:o.guard=none) (x hi mx:Operand) (t:TypeId) (hop:o.op=Op.slice t x none (some hi) (some mx)) (e:TypeId) (ht:P.underlying t=some (.slice e)) (z:Option Value) (size bytes:Nat)
  (hinfo:(P.info? e).map (fun i=>(i.zero,i.size,i.bytes))=some (z,size,bytes)) (ao:Option Addr) (len cap:Nat) (hx:a.eval x=.slice ao len cap) (k1 k2:IntKind) (i1 i2:Int) (h1:a.eval hi=.int k1 i1) (h2:a.eval mx=.int k2 i2)
  (n m:Nat) (e1:i1=(n:Int)) (e2:i2=(m:Int)) (hm:m<=cap) (hn:n<=m)
  (h:wpList P ops Q rest (a.put o.dst (.slice ao n m)) w):wpList P ops Q (o::rest) a w:=by
 refine wpList_plain hg fun K hK=>?_;subst e1 e2
 have hs:∃ i,P.info? e=some i/\i.size=size:=by
  cases hq:P.info? e with
 |none=>rw [hq] at hinfo;cases hinfo
 |some i=>rw [hq] at hinfo;simp at hinfo;exact⟨i,rfl,hinfo.2.1⟩
 obtain⟨ii,hii,hsz⟩:=hs
 have hrun:(Instr.sliceAt t (.slice ao len cap) none (some (.int k1 n)) (some (.int k2 m))).run P w=.ok (.slice ao n m) w:=by
  simp [Instr.sliceAt,Instr.slice,Instr.sliceBounds,Instr.sliceBound,run_underlying ht,asIntOf,hm,hn,Go.sizeOf,typeInfo,hii];cases ao <;> simp [Addr.add]
 unfold Oper.wp;simp [execOp,hop,hx,h1,h2,hrun,Result.andThen];exact hK _ _ h
theorem norm_end {l:List Int} {k cap:Nat} {ao:Option Addr} {neg:Bool} {neg':Bool} {w w':World} (HN:Hid (Norm (l.take k))) (hz:Hid (Tail0 l k)) (hk:k<=l.length) (hp:neg'=true->0<k) (hcap:l.length<=cap) (L:Limbs l) (hm:At uT w ao (uc l))
  (hb:Below w.heap.size w w') (hneg:sgn neg (lval l)=sgn neg' (lval l)) :
  RetI w (sgn neg (lval l)) (.returned (.agg #[.bool neg',.slice ao k k])) w':=by
 refine⟨_,_,rfl,⟨l.take k,⟨ao,k,?_,?_,L.take k,?_⟩,HN.out,?_,?_⟩,hb⟩
 ·rw [List.length_take,Nat.min_eq_left hk]
 ·rw [List.length_take];omega
 ·rw [uc_take];exact (hm.on hb).take k
 ·intro h;rw [List.length_take,Nat.min_eq_left hk];exact hp h
 ·rw [hz.out.val];exact hneg
theorem sgn_tail0 {l:List Int} (hz:Hid (Tail0 l 0)) (n n':Bool):sgn n (lval l)=sgn n' (lval l):=by
 rw [<- hz.out.val,List.take_zero];cases n <;> cases n' <;> rfl
theorem norm_main (neg:Bool) (ao:Option Addr) (cap:Nat) (l:List Int) (w:World) (hn:l.length<=137438953472) (hcap:l.length<=cap) (L:Limbs l) (hm:At uT w ao (uc l)) :
  Calls Tryz.prog 112 #[.slice ao l.length cap,.bool neg] w (RetI w (sgn neg (lval l))):=by
 go_enter Tryz.func112,Tryz.ntmps112
 go_wp2;go_step3;go_wp2;go_step3;go_wp2
 go_loop [5] (fun i=>∃ k:Nat,k<=l.length/\i=.int .i64 k/\Hid (Tail0 l k)) (fun i=>(intOf i).toNat)
 case atStart=>exact⟨l.length,Nat.le_refl _,rfl,zH (fun j h1 h2=>absurd h1 (by omega))⟩
 case round =>
  obtain⟨k,hk,rfl,hz⟩:=hrel;by_cases h0:0<k
  ·obtain⟨b,off,e1,hc⟩:=hm (by rw [uc_len];omega);have E1:=zH e1;clear e1;have hbl:b<w.heap.size:=hc.lt
   have hcell:(w.alloc (Obj.cells #[Value.bool false,Value.slice none 0 0] 39)).cell? ⟨b,off+(k-1),none⟩=some (.int .u32 (l.getD (k-1) 0)):=by
    rw [World.cell?_alloc_past _ _ _ hbl];exact hc.ucell _ (by omega)
   clear hc;by_cases hx:l.getD (k-1) 0=0
   ·have HZ:Hid (Tail0 l (k-1)):=fun j h1 h2=>by
     rcases Nat.eq_or_lt_of_le h1 with h|h
     ·rw [<- h];exact hx
     ·exact hz.out j (by omega) h2
    rw [hx] at hcell;clear hx hz
    go_wp2_with (refine wpList_index_at rfl (.tmp 10) (.tmp 12) _ rfl _ Tryz.underlying37 _ _ _ infoU32 _ _ _ rfl _ _ rfl (k-1) (by omega) (by omega) b off E1.out ?_;rw [Nat.mul_one])
    go_round
    case rel=>exact⟨k-1,by omega,by go_num,HZ⟩
    case measure=>simp [intOf];omega
   ·have HN:=zH (norm_take hk (fun _=>hx));generalize l.getD (k-1) 0=x at *;have hxb:(x == 0)=false:=by simpa using hx
    have hdz:decide (0<(k:Int))=true:=by simp;omega
    clear hx;cases neg
    all_goals
     go_wp2_with (first
     |(refine wpList_index_at rfl (.tmp 10) (.tmp 12) _ rfl _ Tryz.underlying37 _ _ _ infoU32 _ _ _ rfl _ _ rfl (k-1) (by omega) (by omega) b off E1.out ?_;rw [Nat.mul_one])
     |(refine wpList_slice3 rfl (.tmp 23) (.tmp 24) (.tmp 25) _ rfl _ Tryz.underlying37 _ _ _ infoU32 _ _ _ rfl _ _ _ _ rfl rfl k k rfl rfl (by omega) (Nat.le_refl _) ?_))
     exact bodyPost_ret (v:=.agg #[.bool _,.slice ao k k]) (by simp [results,Tryz.results112,go_sem]) rfl (norm_end HN hz hk (fun _=>h0) hcap L hm ((Below.refl _ _).alloc (Nat.le_refl _) _) rfl)
  ·have hk0:k=0:=by omega
   subst hk0;cases neg
   all_goals
    go_wp2_with (first
    |(refine wpList_slice3 rfl (.tmp 23) (.tmp 24) (.tmp 25) _ rfl _ Tryz.underlying37 _ _ _ infoU32 _ _ _ rfl _ _ _ _ rfl rfl 0 0 rfl rfl (by omega) (Nat.le_refl _) ?_))
    exact bodyPost_ret (v:=.agg #[.bool false,.slice ao 0 0]) (by simp [results,Tryz.results112,go_sem]) rfl (norm_end (zH (norm_take hk (fun h=>absurd h (by omega)))) hz hk (fun h=>by cases h) hcap L hm ((Below.refl _ _).alloc (Nat.le_refl _) _) (sgn_tail0 hz _ _))
theorem norm_any (neg:Bool) (v:Value) (l:List Int) (w:World) (h:U32s w v l) (hn:l.length<=137438953472) :
  Calls Tryz.prog 112 #[v,.bool neg] w (RetI w (sgn neg (lval l))):=by
 obtain⟨ao,cap,rfl,hc,L,m⟩:=h;exact norm_main neg ao cap l w hn hc L m
end Go.Proofs.YtopclbeomcggiaaGreat
