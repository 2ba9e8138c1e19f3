/- quadratureref08.Plane. -/
import Derived.Test.YtopclbeomcggiaaGreatYSM
set_option linter.unusedVariables false
set_option linter.unusedSimpArgs false
set_option maxHeartbeats 16000000
set_option maxRecDepth 100000
namespace Go.Proofs.YtopclbeomcggiaaGreat
open Go.RowKit Q Go.WideMaps Go.Maps
abbrev T4:TypeId:=62
theorem Qu:∃z bytes,(Tryz.prog.info? (E8 T4).T).map (λi=>(i.zero,i.size,i.bytes))=some (some z,(E8 T4).sz,bytes)/\z.cells.size=(E8 T4).sz/\bytes<=100000:=⟨.agg #[.int .i8 0,.int .i8 0,.int .i8 0,.int .i8 0],4,kM,rfl,dM⟩
theorem TS(t:wh):(qH t).toArray.all (·.oneCell')=true:=by rw[Array.all_eq_true_iff_forall_mem];intro v hv;simp only[qH,List.mem_toArray,List.mem_cons,List.not_mem_nil,or_false]at hv;rcases hv with rfl|rfl|rfl|rfl<;>rfl
theorem XD:(Tryz.prog.info? 62).map (·.size)=some 4:=kM
theorem Ng{t:wh}(h:MR t):MR (rE t):=⟨h.1,h.2.1,by simp only[rE];omega,h.2.2.2⟩
theorem EG(J:Value)(L:List wh)(w:World)(hL:wK w J L):Calls Tryz.prog 28 #[J] w (aP w (kI L)):=by
 obtain⟨X,Y,rfl,M⟩:=hL.shape;have q:=zH (λ(u:Value)(W:World)(h:wK W u ((L.take 3).map rE))=>Qt u _ W h)
 go_enter Tryz.func28,Tryz.ntmps28
 go_wp2;have hown0:=fQ (E8 T4) w;have hb0:Below w.heap.size w (w.alloc (.cells #[] T4)):=(Below.refl _ _).alloc (nL _) _;change di (E8 T4) w.heap.size (w.alloc (.cells #[] 62)) _ _ at hown0;change Below w.heap.size w (w.alloc (.cells #[] 62))at hb0;replace hL:=zH hL
 go_loopw [3,4] (λo i wr=>∃k:Nat,k<=L.length/\k<=3/\i=.int .i64 k/\Hid (di (E8 T4) w.heap.size wr o ((L.take k).map rE))/\Below w.heap.size w wr) (λ_ i _=>3-(intOf i).toNat)
 case atStart=>exact⟨0,oM,oM,rfl,zH hown0,hb0⟩
 case round =>
  clear hown0 hb0;obtain⟨k,B,N,rfl,d,l⟩:=hrel;by_cases h1:k<L.length
  ·have g1:(k:Int)<(L.length:Int):=oM;by_cases h2:k<3
   ·have g2:(k:Int)<3:=oM;have p:L[k]?=some L[k]:=gE h1;generalize L[k]=t at p;obtain⟨T9,b,off,rfl,z,hC⟩:=hL.out.get p;have hr:=(hC.on l).range;have F:=zH (yC rE p);have C:=Ng z;clear hC p z
    go_upto_region 6 with (first
     | (refine ak rfl _ _ 22 rfl 62 Tryz.underlying22 _ 4 4 kM _ _ _ rfl .i64 _ rfl k rfl h1 b off rfl ?_)
     | (refine wpList_load_mid rfl 62 _ rfl _ _ rfl _ _ hr Tryz.underlying62 rfl kM ?_)
     | (refine az rfl _ (.tmp 5) (.tmp 20) rfl _ _ _ _ rfl rfl (Blk.new wr 62 [.int .i8 0,.int .i8 0,.int .i8 0,.int .i8 0]) rfl XD (TS t) ?_;intro W3 R3 gr3))
    have r:Blk W3 wr.heap.size T4 (qH t):=by simpa using R3
    have s:Below wr.heap.size wr (wr.alloc (.cells #[.int .i8 0,.int .i8 0,.int .i8 0,.int .i8 0] T4)):=(Below.refl _ _).alloc (nL _) _;have hb3:Below wr.heap.size wr W3:=s.trans (aH gr3 sM (nL _));have hown3:=d.out.on hb3;have hbr3:=l.trans (hb3.mono l.size);have I:u3.ownBlock≠some wr.heap.size:=λh=>by have:=(d.out.base_le _ h).2;omega
    have G:w.heap.size<=wr.heap.size:=l.size;clear hr R3 gr3 s hb3 d l;generalize wr.heap.size=mb at *;have y2:=r.at1 2 (.int .i8 t.2.2.1) rfl;have f2:=r.frozen 2;have B4:=r.set 2 (.int .i8 0);have hl4:=aY (j:=2) r (.int .i8 0);have hown4:=hown3.lr hl4 trivial (.inr I);have hbr4:=hbr3.trans (hl4.belowAt hbr3.size (λk B=>by cases B;exact G));have n:Blk (W3.setCell ⟨mb,2,none⟩ (.int .i8 0)) mb T4 (qH (rE t)):=B4
    go_upto_region 7 with (fail)
    generalize W3.setCell ⟨mb,2,none⟩ (.int .i8 0)=W4 at *;have z0:=n.at1 0 (.int .i8 t.1) rfl;have z1:=n.at1 1 (.int .i8 t.2.1) rfl;have z2:=n.at1 2 (.int .i8 0) rfl;have z3:=n.at1 3 (.int .i8 t.2.2.2) rfl;clear B4 hl4 hown3 hbr3 r y2 f2;have y:Below W4.heap.size W4 (W4.alloc (.cells #[.int .i8 t.1,.int .i8 t.2.1,.int .i8 0,.int .i8 t.2.2.2] 62)):=(Below.refl _ _).alloc (nL _) _;have m:=hbr4.trans (y.mono hbr4.size);have hown5:=hown4.on y
    have D:bV (E8 T4) (W4.alloc (.cells #[.int .i8 t.1,.int .i8 t.2.1,.int .i8 0,.int .i8 t.2.2.2] 62)) (.slice (some ⟨W4.heap.size,0,none⟩) 1 1) [rE t] :=
     ⟨_,1,qH (rE t),rfl,nL _,(Blk.new W4 62 [.int .i8 t.1,.int .i8 t.2.1,.int .i8 0,.int .i8 t.2.2.2]).at,eU.single ⟨rfl,C⟩⟩
    have x:=zH hown4.base_le;have S:((L.take k).map rE).length<=3:=by simp;omega
    clear hown4
    go_wp2_with (at_builtin;refine dL rfl _ _ 22 rfl Tryz.underlying22 Qu rfl rfl hown5 D (by simp only[List.length_cons,List.length_nil];omega) m.size ?_;intro v8 w8 hown8 hl8 hv8)
    have hb8:=m.trans (hl8.belowAt m.size (λk B=>(x.out k B).1));go_roundw
    case measure=>simp[intOf];omega
    case rel=>exact⟨k+1,oM,oM,nM,zH (by rw[F.out];exact hown8),hb8⟩
   ·have g2:¬(k:Int)<3:=oM;obtain rfl:k=3:=oM;have hf:=zH (q.out u3 wr ⟨T4,d.out.isSl⟩);clear d
    go_wp2_with (go_at_call 11;refine hf.out.mono ?_;rintro e w9 ⟨v9,rfl,hv9,hb9⟩)
    go_ret;exact⟨_,rfl,hv9,l.trans (hb9.mono l.size)⟩
  ·have g1:¬(k:Int)<(L.length:Int):=oM
   have hf:=zH (q.out u3 wr ⟨T4,by
    have:=d.out.isSl
    rwa[show L.take k=L.take 3 by rw[tL oM,tL oM]]at this⟩)
   clear d
   go_wp2_with (go_at_call 11;refine hf.out.mono ?_;rintro e w9 ⟨v9,rfl,hv9,hb9⟩)
   go_ret;exact⟨_,rfl,hv9,l.trans (hb9.mono l.size)⟩
end Go.Proofs.YtopclbeomcggiaaGreat
