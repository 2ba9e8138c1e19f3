/- The reference's Deg, by sizes. -/
import Derived.Test.YtopclbeomcggiaaGreatC02
import Derived.Test.YtopclbeomcggiaaGreatC38
set_option maxHeartbeats 16000000
set_option maxRecDepth 100000
namespace Go.Proofs.YtopclbeomcggiaaGreat
open Go.RowKit Q
variable {w:World} {p:List Trm}
theorem deg7c_any (vp:Value) (p:List Trm) (v:Nat) (w:World) (h:IsPoly w vp p) (hv:v<4) (hlen:p.length<=100000000):Calls Tryz.prog 27 #[vp,.int .i64 v] w (Ret w (.int .i64 (degP p v))):=by
 obtain⟨ao,cap,rfl,hcap⟩:=h.shape;obtain⟨R,HR⟩:∃ R,R=degP p v:=⟨_,rfl⟩;rw [<- HR];replace HR:=zH HR;replace h:=zH h;have hv4:(v:Int)<4:=by omega
 go_enter Tryz.func27,Tryz.ntmps27
 go_wp2
 go_loopw [5,6] (fun d i wr=>∃ k:Nat,k<=p.length/\i=.int .i64 k/\d=.int .i64 (degP (p.take k) v)/\Below w.heap.size w wr) (fun _ i _=>p.length-(intOf i).toNat)
 case atStart=>exact⟨0,by omega,rfl,rfl,Below.refl _ _⟩
 case round =>
  obtain⟨k,hk,rfl,rfl,hb⟩:=hrel;by_cases hkl:k<p.length
  ·have hj:p[k]?=some p[k]:=List.getElem?_eq_getElem hkl
   have hstep:degP (p.take (k+1)) v=max (degP (p.take k) v) (p[k].1.get v):=by
    unfold degP;rw [List.take_succ_eq_append_getElem hkl,List.foldl_append];rfl
   generalize p[k]=t at hj hstep;obtain⟨b',off,r,rfl,-,hC⟩:=cell_term (h.out.on hb) hj;have hkl':(k:Int)<p.length:=by omega
   have z:wr.cell? ⟨b',off+k*8+v,none⟩=some (.int .i64 (t.1.get v)):=by
    rw [hC.cell v (by simp [exC];omega)];exact exC_at t.1 v hv r
   generalize t.1.get v=x at *;generalize degP (p.take k) v=d at *;replace hstep:=zH hstep;clear hC
   go_wp2_with (refine wpList_index_at rfl _ _ 27 rfl monoT Tryz.underlying27 _ 8 96 (by kernel_rfl) _ _ _ rfl .i64 _ rfl k rfl hkl b' off rfl ?_)
   go_roundw
   case measure=>simp [intOf];omega
   case rel=>exact⟨k+1,by omega,by go_num,by rw [hstep.out],hb⟩
  ·obtain rfl:k=p.length:=by omega
   rw [List.take_of_length_le (Nat.le_refl _),<- HR.out];go_wp2;go_ret;exact⟨rfl,hb⟩
theorem deg7cK {s:Sz} {vp:Value} {v:Nat} (hP:Pk s p) (hv:v<4) (hp:IsPoly w vp p):Calls Tryz.prog 27 #[vp,.int .i64 v] w (Ret w (.int .i64 (degP p v))):=deg7c_any vp p v w hp hv hP.len
end Go.Proofs.YtopclbeomcggiaaGreat
