/- The integer package of the program: normal form, comparison. -/
import Derived.Test.YtopclbeomcggiaaGreatW05
import Derived.BigQuiet
set_option linter.unusedVariables false
set_option linter.unusedSimpArgs false
set_option maxHeartbeats 16000000
set_option maxRecDepth 100000
namespace Go.Proofs.YtopclbeomcggiaaGreat
open Go.RowKit Q
def dW (x y:Int):Int:=if x<y then -1 else if y<x then 1 else 0
theorem jb {x y:Int} (h:x<y):dW x y=-1:=by simp [dW,h]
theorem jC {x y:Int} (h:y<x):dW x y=1:=by unfold dW;rw [if_neg (by omega),if_pos h]
theorem jD {x y:Int} (h:x=y):dW x y=0:=by unfold dW;rw [if_neg (by omega),if_neg (by omega)]
theorem gJ (x y:Int) (w:World):Calls Tryz.prog 135 #[.int .i64 x,.int .i64 y] w fun e w'=>e=.returned (.int .i64 (dW x y))/\w=w':=by
 rcases Int.lt_trichotomy x y with h|h|h
 ·have H:=zH (jb h)
  go_enter Tryz.func135,Tryz.ntmps135
  go_wp2;go_ret;exact⟨by rw [H.out];rfl,rfl⟩
 ·have H:=zH (jD h);subst h
  go_enter Tryz.func135,Tryz.ntmps135
  go_wp2;go_ret;exact⟨by rw [H.out];rfl,rfl⟩
 ·have H:=zH (jC h);have h':¬ x<y:=by omega
  go_enter Tryz.func135,Tryz.ntmps135
  go_wp2;go_ret;exact⟨by rw [H.out];rfl,rfl⟩
theorem Ad (x y:Int) (w:World):Calls Tryz.prog 162 #[.int .u32 x,.int .u32 y] w fun e w'=>e=.returned (.int .i64 (dW x y))/\w=w':=by
 rcases Int.lt_trichotomy x y with h|h|h
 ·have H:=zH (jb h)
  go_enter Tryz.func162,Tryz.ntmps162
  go_wp2;go_ret;exact⟨by rw [H.out];rfl,rfl⟩
 ·have H:=zH (jD h);subst h
  go_enter Tryz.func162,Tryz.ntmps162
  go_wp2;go_ret;exact⟨by rw [H.out];rfl,rfl⟩
 ·have H:=zH (jC h);have h':¬ x<y:=by omega
  go_enter Tryz.func162,Tryz.ntmps162
  go_wp2;go_ret;exact⟨by rw [H.out];rfl,rfl⟩
def vK (l:List Int) (k:Nat):Prop:=∀ j,k<=j->j<l.length->l.getD j 0=0
theorem vK.val {l:List Int} {k:Nat} (h:vK l k):ah (l.take k)=ah l:=by
 have e:l.drop k=List.replicate (l.length-k) 0:=by
  apply List.ext_getElem
  ·simp
  ·intro i h1 h2;simp only [List.length_drop] at h1;have:=h (k+i) (by omega) (by omega);rw [List.getD_eq_getElem?_getD,List.getElem?_eq_getElem (by omega)] at this;simpa using this
 conv=>rhs;rw [<- List.take_append_drop k l,ik,e,nZ]
 simp
theorem tY {l:List Int} {k:Nat} (hk:k<=l.length) (h:0<k->l.getD (k-1) 0≠0):iU (l.take k):=by
 intro hne
 have hk0:0<k:=by
  rcases Nat.eq_zero_or_pos k with h0|h0
  ·subst h0;simp at hne
  ·exact h0
 have:=h hk0;rw [List.getLast_eq_getElem];rw [List.getD_eq_getElem?_getD,List.getElem?_eq_getElem (by omega)] at this;simp only [List.length_take,Nat.min_eq_left hk,List.getElem_take];exact this
theorem uH {P:Program} {w:World} {ops:Array Oper} {rest:List Oper} {o:Oper} {a:Act} {Q:Exit->Act->World->Prop}
  (hg:o.guard=none) (x hi mx:Operand) (t:TypeId) (hop:o.op=Op.slice t x none (some hi) (some mx)) (e:TypeId) (ht:P.underlying t=some (.slice e)) (z:Option Value) (size bytes:Nat)
  (hinfo:(P.info? e).map (fun i=>(i.zero,i.size,i.bytes))=some (z,size,bytes)) (ao:Option Addr) (len cap:Nat) (hx:a.eval x=.slice ao len cap) (k1 k2:IntKind) (i1 i2:Int) (h1:a.eval hi=.int k1 i1) (h2:a.eval mx=.int k2 i2)
  (n m:Nat) (e1:i1=(n:Int)) (e2:i2=(m:Int)) (hm:m<=cap) (hn:n<=m)
  (h:wpList P ops Q rest (a.put o.dst (.slice ao n m)) w):wpList P ops Q (o::rest) a w:=by
 refine wpList_plain hg fun K hK=>?_;subst e1 e2
 have hs:∃ i,P.info? e=some i/\i.size=size:=by
  cases hq:P.info? e with
  | none=>rw [hq] at hinfo;cases hinfo
  | some i=>rw [hq] at hinfo;simp at hinfo;exact⟨i,rfl,hinfo.2.1⟩
 obtain⟨ii,hii,hsz⟩:=hs
 have hrun:(Instr.sliceAt t (.slice ao len cap) none (some (.int k1 n)) (some (.int k2 m))).run P w=.ok (.slice ao n m) w:=by
  simp [Instr.sliceAt,Instr.slice,Instr.sliceBounds,Instr.sliceBound,run_underlying ht,asIntOf,hm,hn,Go.sizeOf,typeInfo,hii];cases ao <;> simp [Addr.add]
 unfold Oper.wp;simp [execOp,hop,hx,h1,h2,hrun,Result.andThen];exact hK _ _ h
theorem Gu {l:List Int} {k cap:Nat} {ao:Option Addr} {neg:Bool} {neg':Bool} {w w':World} (HN:Hid (iU (l.take k))) (hz:Hid (vK l k)) (hk:k<=l.length) (hp:neg'=true->0<k) (hcap:l.length<=cap) (L:aH l) (hm:At uT w ao (uc l))
  (hb:Below w.heap.size w w') (hneg:fZ neg (ah l)=fZ neg' (ah l)) :
  lI w (fZ neg (ah l)) (.returned (.agg #[.bool neg',.slice ao k k])) w':=by
 refine⟨_,_,rfl,⟨l.take k,⟨ao,k,?_,?_,L.take k,?_⟩,HN.out,?_,?_⟩,hb⟩
 ·rw [List.length_take,Nat.min_eq_left hk]
 ·rw [List.length_take];omega
 ·rw [RS];exact (hm.on hb).take k
 ·intro h;rw [List.length_take,Nat.min_eq_left hk];exact hp h
 ·rw [hz.out.val];exact hneg
theorem xz {l:List Int} (hz:Hid (vK l 0)) (n n':Bool):fZ n (ah l)=fZ n' (ah l):=by
 rw [<- hz.out.val,List.take_zero];cases n <;> cases n' <;> rfl
theorem Nf (neg:Bool) (ao:Option Addr) (cap:Nat) (l:List Int) (w:World) (hn:l.length<=137438953472) (hcap:l.length<=cap) (L:aH l) (hm:At uT w ao (uc l)) :
  Calls Tryz.prog 112 #[.slice ao l.length cap,.bool neg] w (lI w (fZ neg (ah l))):=by
 go_enter Tryz.func112,Tryz.ntmps112
 go_wp2;go_step3;go_wp2;go_step3;go_wp2
 go_loop [5] (fun i=>∃ k:Nat,k<=l.length/\i=.int .i64 k/\Hid (vK l k)) (fun i=>(intOf i).toNat)
 case atStart=>exact⟨l.length,Nat.le_refl _,rfl,zH (fun j h1 h2=>absurd h1 (by omega))⟩
 case round =>
  obtain⟨k,hk,rfl,hz⟩:=hrel;by_cases h0:0<k
  ·obtain⟨b,off,e1,hc⟩:=hm (by rw [eQ];omega);have E1:=zH e1;clear e1;have hbl:b<w.heap.size:=hc.lt
   have hcell:(w.alloc (Obj.cells #[Value.bool false,Value.slice none 0 0] 39)).cell? ⟨b,off+(k-1),none⟩=some (.int .u32 (l.getD (k-1) 0)):=by
    rw [World.cell?_alloc_past _ _ _ hbl];exact hc.ucell _ (by omega)
   clear hc;by_cases hx:l.getD (k-1) 0=0
   ·have HZ:Hid (vK l (k-1)):=fun j h1 h2=>by
     rcases Nat.eq_or_lt_of_le h1 with h|h
     ·rw [<- h];exact hx
     ·exact hz.out j (by omega) h2
    rw [hx] at hcell;clear hx hz
    go_wp2_with (refine aj rfl (.tmp 10) (.tmp 12) _ rfl _ Tryz.underlying37 _ _ _ bM _ _ _ rfl _ _ rfl (k-1) (by omega) (by omega) b off E1.out ?_;rw [Nat.mul_one])
    go_round
    case rel=>exact⟨k-1,by omega,by go_num,HZ⟩
    case measure=>simp [intOf];omega
   ·have HN:=zH (tY hk (fun _=>hx));generalize l.getD (k-1) 0=x at *;have hxb:(x == 0)=false:=by simpa using hx
    have hdz:decide (0<(k:Int))=true:=by simp;omega
    clear hx;cases neg
    all_goals
     go_wp2_with (first
      | (refine aj rfl (.tmp 10) (.tmp 12) _ rfl _ Tryz.underlying37 _ _ _ bM _ _ _ rfl _ _ rfl (k-1) (by omega) (by omega) b off E1.out ?_;rw [Nat.mul_one])
      | (refine uH rfl (.tmp 23) (.tmp 24) (.tmp 25) _ rfl _ Tryz.underlying37 _ _ _ bM _ _ _ rfl _ _ _ _ rfl rfl k k rfl rfl (by omega) (Nat.le_refl _) ?_))
     exact bodyPost_ret (v:=.agg #[.bool _,.slice ao k k]) (by simp [results,Tryz.results112,go_sem]) rfl (Gu HN hz hk (fun _=>h0) hcap L hm ((Below.refl _ _).alloc (Nat.le_refl _) _) rfl)
  ·have hk0:k=0:=by omega
   subst hk0;cases neg
   all_goals
    go_wp2_with (first
     | (refine uH rfl (.tmp 23) (.tmp 24) (.tmp 25) _ rfl _ Tryz.underlying37 _ _ _ bM _ _ _ rfl _ _ _ _ rfl rfl 0 0 rfl rfl (by omega) (Nat.le_refl _) ?_))
    exact bodyPost_ret (v:=.agg #[.bool false,.slice ao 0 0]) (by simp [results,Tryz.results112,go_sem]) rfl (Gu (zH (tY hk (fun h=>absurd h (by omega)))) hz hk (fun h=>by cases h) hcap L hm ((Below.refl _ _).alloc (Nat.le_refl _) _) (xz hz _ _))
theorem kM (neg:Bool) (v:Value) (l:List Int) (w:World) (h:dH w v l) (hn:l.length<=137438953472) :
  Calls Tryz.prog 112 #[v,.bool neg] w (lI w (fZ neg (ah l))):=by
 obtain⟨ao,cap,rfl,hc,L,m⟩:=h;exact Nf neg ao cap l w hn hc L m
end Go.Proofs.YtopclbeomcggiaaGreat
