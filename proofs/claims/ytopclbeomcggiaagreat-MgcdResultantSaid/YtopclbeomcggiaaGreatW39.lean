/- quadratureref08.Plane. -/
import Derived.Test.YtopclbeomcggiaaGreatWSM
set_option linter.unusedVariables false
set_option linter.unusedSimpArgs false
set_option maxHeartbeats 16000000
set_option maxRecDepth 100000
namespace Go.Proofs.YtopclbeomcggiaaGreat
open Go.RowKit Q Go.WideMaps Go.Maps
abbrev T4:TypeId:=62
theorem OD:∃ z bytes,(Tryz.prog.info? (Df T4).T).map (fun i=>(i.zero,i.size,i.bytes))=some (some z,(Df T4).sz,bytes)/\z.cells.size=(Df T4).sz/\bytes<=100000:=⟨.agg #[.int .i8 0,.int .i8 0,.int .i8 0,.int .i8 0],4,by kernel_rfl,rfl,by decide⟩
theorem RH (t:uK):(oN t).toArray.all (·.oneCell')=true:=by
 rw [Array.all_eq_true_iff_forall_mem];intro v hv;simp only [oN,List.mem_toArray,List.mem_cons,List.not_mem_nil,or_false] at hv;rcases hv with rfl|rfl|rfl|rfl <;> rfl
theorem VO:(Tryz.prog.info? 62).map (·.size)=some 4:=by kernel_rfl
theorem KX {t:uK} (h:Ky t):Ky (qo t):=⟨h.1,h.2.1,by simp only [qo];omega,h.2.2.2⟩
theorem CF (vl:Value) (L:List uK) (w:World) (hL:tH w vl L):Calls Tryz.prog 28 #[vl] w (aX w (fC L)):=by
 obtain⟨al,cl,rfl,hcl⟩:=hL.shape;have hfin:=zH (fun (u:Value) (W:World) (h:tH W u ((L.take 3).map qo))=>OC u _ W h)
 go_enter Tryz.func28,Tryz.ntmps28
 go_wp2;have hown0:=fV (Df T4) w;have hb0:Below w.heap.size w (w.alloc (.cells #[] T4)):=(Below.refl _ _).alloc (Nat.le_refl _) _;change cB (Df T4) w.heap.size (w.alloc (.cells #[] 62)) _ _ at hown0;change Below w.heap.size w (w.alloc (.cells #[] 62)) at hb0;replace hL:=zH hL
 go_loopw [3,4] (fun o i wr=>∃ k:Nat,k<=L.length/\k<=3/\i=.int .i64 k/\Hid (cB (Df T4) w.heap.size wr o ((L.take k).map qo))/\Below w.heap.size w wr) (fun _ i _=>3-(intOf i).toNat)
 case atStart=>exact⟨0,by omega,by omega,rfl,zH hown0,hb0⟩
 case round =>
  clear hown0 hb0;obtain⟨k,hk,hkn,rfl,hown,hbr⟩:=hrel;by_cases h1:k<L.length
  ·have g1:(k:Int)<(L.length:Int):=by omega
   by_cases h2:k<3
   ·have g2:(k:Int)<3:=by omega
    have hjq:L[k]?=some L[k]:=List.getElem?_eq_getElem h1;generalize L[k]=t at hjq;obtain⟨T9,b,off,rfl,hok,hC⟩:=hL.out.get hjq;have hr:=(hC.on hbr).range;have hsn:=zH (Bl qo hjq);have hrp:=KX hok;clear hC hjq hok
    go_upto_region 6 with (first
     | (refine aj rfl _ _ 22 rfl 62 Tryz.underlying22 _ 4 4 (by kernel_rfl) _ _ _ rfl .i64 _ rfl k rfl h1 b off rfl ?_)
     | (refine wpList_load_mid rfl 62 _ rfl _ _ rfl _ _ hr Tryz.underlying62 rfl (by kernel_rfl) ?_)
     | (refine aA rfl _ (.tmp 5) (.tmp 20) rfl _ _ _ _ rfl rfl (Blk.new wr 62 [.int .i8 0,.int .i8 0,.int .i8 0,.int .i8 0]) rfl VO (RH t) ?_;intro W3 R3 gr3))
    have BB:Blk W3 wr.heap.size T4 (oN t):=by simpa using R3
    have hba:Below wr.heap.size wr (wr.alloc (.cells #[.int .i8 0,.int .i8 0,.int .i8 0,.int .i8 0] T4)):=(Below.refl _ _).alloc (Nat.le_refl _) _;have hb3:Below wr.heap.size wr W3:=hba.trans (aM gr3 (by simp) (Nat.le_refl _));have hown3:=hown.out.on hb3;have hbr3:=hbr.trans (hb3.mono hbr.size);have hxo:u3.ownBlock≠some wr.heap.size:=fun h=>by have:=(hown.out.base_le _ h).2;omega
    have hwm:w.heap.size<=wr.heap.size:=hbr.size;clear hr R3 gr3 hba hb3 hown hbr;generalize wr.heap.size=mb at *;have y2:=BB.at1 2 (.int .i8 t.2.2.1) rfl;have f2:=BB.frozen 2;have B4:=BB.set 2 (.int .i8 0);have hl4:=aY (j:=2) BB (.int .i8 0);have hown4:=hown3.lr hl4 trivial (.inr hxo);have hbr4:=hbr3.trans (hl4.belowAt hbr3.size (fun k hk=>by cases hk;exact hwm));have B4':Blk (W3.setCell ⟨mb,2,none⟩ (.int .i8 0)) mb T4 (oN (qo t)):=B4
    go_upto_region 7 with (fail)
    generalize W3.setCell ⟨mb,2,none⟩ (.int .i8 0)=W4 at *;have z0:=B4'.at1 0 (.int .i8 t.1) rfl;have z1:=B4'.at1 1 (.int .i8 t.2.1) rfl;have z2:=B4'.at1 2 (.int .i8 0) rfl;have z3:=B4'.at1 3 (.int .i8 t.2.2.2) rfl;clear B4 hl4 hown3 hbr3 BB y2 f2;have hbe:Below W4.heap.size W4 (W4.alloc (.cells #[.int .i8 t.1,.int .i8 t.2.1,.int .i8 0,.int .i8 t.2.2.2] 62)):=(Below.refl _ _).alloc (Nat.le_refl _) _;have hbre:=hbr4.trans (hbe.mono hbr4.size);have hown5:=hown4.on hbe
    have hsl:bS (Df T4) (W4.alloc (.cells #[.int .i8 t.1,.int .i8 t.2.1,.int .i8 0,.int .i8 t.2.2.2] 62)) (.slice (some ⟨W4.heap.size,0,none⟩) 1 1) [qo t] :=
     ⟨_,1,oN (qo t),rfl,Nat.le_refl _,(Blk.new W4 62 [.int .i8 t.1,.int .i8 t.2.1,.int .i8 0,.int .i8 t.2.2.2]).at,dS.single ⟨rfl,hrp⟩⟩
    have hbas:=zH hown4.base_le;have hlt:((L.take k).map qo).length<=3:=by simp;omega
    clear hown4
    go_wp2_with (at_builtin;refine cZ rfl _ _ 22 rfl Tryz.underlying22 OD rfl rfl hown5 hsl (by simp only [List.length_cons,List.length_nil];omega) hbre.size ?_;intro v8 w8 hown8 hl8 hv8)
    have hb8:=hbre.trans (hl8.belowAt hbre.size (fun k hk=>(hbas.out k hk).1));go_roundw
    case measure=>simp [intOf];omega
    case rel=>exact⟨k+1,by omega,by omega,by go_num,zH (by rw [hsn.out];exact hown8),hb8⟩
   ·have g2:¬ (k:Int)<3:=by omega
    obtain rfl:k=3:=by omega
    have hf:=zH (hfin.out u3 wr ⟨T4,hown.out.isSl⟩);clear hown
    go_wp2_with (go_at_call 11;refine hf.out.mono ?_;rintro e w9 ⟨v9,rfl,hv9,hb9⟩)
    go_ret;exact⟨_,rfl,hv9,hbr.trans (hb9.mono hbr.size)⟩
  ·have g1:¬ (k:Int)<(L.length:Int):=by omega
   have hf:=zH (hfin.out u3 wr ⟨T4,by
    have:=hown.out.isSl
    rwa [show L.take k=L.take 3 by rw [List.take_of_length_le (by omega),List.take_of_length_le (by omega)]] at this⟩)
   clear hown
   go_wp2_with (go_at_call 11;refine hf.out.mono ?_;rintro e w9 ⟨v9,rfl,hv9,hb9⟩)
   go_ret;exact⟨_,rfl,hv9,hbr.trans (hb9.mono hbr.size)⟩
end Go.Proofs.YtopclbeomcggiaaGreat
