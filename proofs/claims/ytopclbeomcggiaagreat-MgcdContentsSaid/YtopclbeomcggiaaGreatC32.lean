/- mgcd.image. mgcd.shared: the walk. mgcd.bound. mgcd: one, over, constant, Normal. Pseudo-division, plain: what is left is a multiple. -/
import Derived.Test.YtopclbeomcggiaaGreatC02
import Derived.Test.YtopclbeomcggiaaGreatC20
import Derived.Test.YtopclbeomcggiaaGreatC26
import Derived.Test.YtopclbeomcggiaaGreatC30
import Derived.Test.YtopclbeomcggiaaGreatC31
set_option linter.unusedVariables false
set_option linter.unusedSimpArgs false
set_option maxHeartbeats 16000000
set_option maxRecDepth 100000
section
namespace Q
open Go Go.RowKit Go.Proofs.YtopclbeomcggiaaGreat
theorem imgGo_len {v at_:Nat}:∀ {a:List Trm} {out o:List Nat},imgGo v at_ a out=some o->o.length=out.length/\(Lim out->Lim o)
|[],out,o,h=>by rw [imgGo,Option.some.injEq] at h;subst h;exact⟨rfl,fun h=>h⟩
|m::a,out,o,h=>by
  rw [imgGo] at h;split at h
  ·cases h
  ·obtain⟨h1,h2⟩:=imgGo_len h;exact⟨by rw [h1,List.length_set],fun hl=>h2 (hl.set _ (mod_pr _))⟩
theorem wpList_idx {P:Program} {w:World} {ops:Array Oper} {rest:List Oper} {o:Oper} {a:Act} {R:Exit->Act->World->Prop} (hgd:o.guard=none) {t:TypeId} {x i:Operand} (ho:o.op=.index t x i) {v u r:Value} (hx:a.eval x=v) (hi:a.eval i=u)
  (hrun:(Instr.index t v u).run P w=.ok r w) (h:wpList P ops R rest (a.put o.dst r) w):wpList P ops R (o::rest) a w:=by
 refine wpList_plain hgd fun K hK=>?_;unfold Oper.wp
 have:(execOp a.eval o).run P w=.ok (.value r) w:=by
  unfold execOp;rw [ho];simp [hx,hi,hrun,Result.andThen]
 rw [this];exact hK _ _ h
end Q
namespace Go.Proofs.YtopclbeomcggiaaGreat
open Go.RowKit Q Go.WideMaps Go.Maps
theorem idx0 (a b c d:Int) (w:World):(Instr.index 36 (.agg #[.int .i64 a,.int .i64 b,.int .i64 c,.int .i64 d]) (.int .i64 0)).run Tryz.prog w=.ok (.int .i64 a) w:=by kernel_rfl
theorem idx1 (a b c d:Int) (w:World):(Instr.index 36 (.agg #[.int .i64 a,.int .i64 b,.int .i64 c,.int .i64 d]) (.int .i64 1)).run Tryz.prog w=.ok (.int .i64 b) w:=by kernel_rfl
theorem idx2 (a b c d:Int) (w:World):(Instr.index 36 (.agg #[.int .i64 a,.int .i64 b,.int .i64 c,.int .i64 d]) (.int .i64 2)).run Tryz.prog w=.ok (.int .i64 c) w:=by kernel_rfl
theorem idx3 (a b c d:Int) (w:World):(Instr.index 36 (.agg #[.int .i64 a,.int .i64 b,.int .i64 c,.int .i64 d]) (.int .i64 3)).run Tryz.prog w=.ok (.int .i64 d) w:=by kernel_rfl
def RetImg (w:World) (o:Option (List Nat)) (e:Ending) (w':World):Prop:=∃ v,e=.returned (.tuple #[v,.bool (fineB o)])/\(∀ l,o=some l->IsSl elN w' v l)/\Below w.heap.size w w'
theorem image_any (va:Value) (a:List Trm) (v at_:Nat) (w:World) (ha:IsPoly w va a) (ka:Wp a) (hv:v<4) (hne:a≠[]) (hat:at_<=1000) :
  Calls Tryz.prog 118 #[va,.int .i64 v,.int .u64 at_] w (RetImg w (imgO a v at_)):=by
 have hdeg:=deg_any va a v w ha hv (by have:=ka.len;omega);have hd2:=(ka.deg v).2
 have hdl:∀ t∈a,0<=t.1.get v/\(t.1.get v).toNat<(degP a v+1).toNat:=fun t ht=>by
  have h1:=(ka.exps ht v).1;have h2:=degP_le ht v;omega
 have hd0:0<=degP a v:=by
  obtain⟨t,ht⟩:=List.exists_mem_of_ne_nil _ hne;have:=hdl t ht;omega
 obtain⟨D,hD⟩:∃ D:Nat,degP a v=D:=⟨(degP a v).toNat,by omega⟩;have hRES:imgO a v at_=imgGo v at_ a (List.replicate (D+1) 0):=by rw [imgO,hD];congr 1
 rw [hRES];clear hRES;obtain⟨RES,hR⟩:∃ RES,RES=imgGo v at_ a (List.replicate (D+1) 0):=⟨_,rfl⟩;rw [<- hR];rw [hD] at hdeg hdl hd2;have hdl':∀ t∈a,0<=t.1.get v/\(t.1.get v).toNat<D+1:=fun t ht=>by have:=hdl t ht;omega
 have hD2:D<=100000:=by omega
 have hexp:=fun t (ht:t∈a) u=>ka.exps ht u;have hrk:=ka.rk;have hal:a.length<=10000:=ka.len;obtain⟨aa,ca,rfl,hca⟩:=ha.shape;replace hR:=zH hR;replace hdl:=zH hdl';replace hexp:=zH hexp;replace hrk:=zH hrk;replace ha:=zH ha;have hv4:(v:Int)<4:=by omega
 clear hdl' hne ka hd0 hD
 go_enter Tryz.func118,Tryz.ntmps118
 go_wp2_with (first
 |(go_at_call 53;refine hdeg.mono ?_;rintro en w1 ⟨rfl,hb1⟩)
 |(at_make;refine wpList_make_blk rfl _ _ _ rfl _ (.int .u64 0) 1 8 Tryz.underlying94 infoU64 rfl rfl .i64 .i64 _ _ (D+1) rfl rfl (by omega) (by omega) (by omega) (by omega) ?_;intro w2 own2 gr2))
 rw [ncells_make] at own2;have hsz:=hb1.size;have hgw:w.heap.size<=w1.heap.size:=hsz;generalize hg:w1.heap.size=g at *;have hb12:=hb1.trans (gr2.mono hsz);have hstO:Hid (Blk w2 g u64T (nc (List.replicate (D+1) 0))):=zH own2;clear own2 gr2 hb1 hg
 go_loopw [22] (fun i wr=>∃ (k:Nat) (out:List Nat),k<=a.length/\i=.int .i64 k/\Hid (Blk wr g u64T (nc out))/\out.length=D+1/\Hid (Lim out)/\Hid (RES=imgGo v at_ (a.drop k) out)/\Below w.heap.size w wr) (fun i _=>a.length-(intOf i).toNat)
 case atStart=>exact⟨0,_,by omega,rfl,hstO,by simp,zH (lim_zero _),zH hR.out,hb12⟩
 case round =>
  clear hstO hb12 hR;obtain⟨k,out,hk,rfl,hO,hol,hLo,hR,hbr⟩:=hrel;by_cases hkl:k<a.length
  ·have hjq:a[k]?=some a[k]:=List.getElem?_eq_getElem hkl;have hR2:=hR.out;rw [List.drop_eq_getElem_cons hkl] at hR2;have hmem:=List.getElem_mem hkl;generalize a[k]=t at *;obtain⟨bq,oq,rt,e1,hrt,hC⟩:=cell_term (ha.out.on hbr) hjq;have hx0:=hexp.out t hmem 0;have hx1:=hexp.out t hmem 1;have hx2:=hexp.out t hmem 2;have hx3:=hexp.out t hmem 3;have hnv:=hdl.out t hmem;have hrkt:=hrk.out t hmem;obtain⟨⟨z0,z1,z2,z3⟩,q⟩:=t;simp only [Ex.get] at hx0 hx1 hx2 hx3;obtain⟨n0,rfl⟩:=Int.eq_ofNat_of_zero_le hx0.1;obtain⟨n1,rfl⟩:=Int.eq_ofNat_of_zero_le hx1.1;obtain⟨n2,rfl⟩:=Int.eq_ofNat_of_zero_le hx2.1;obtain⟨n3,rfl⟩:=Int.eq_ofNat_of_zero_le hx3.1;obtain⟨nv,hnve⟩:∃ nv:Nat,Ex.get ((n0:Int),(n1:Int),(n2:Int),(n3:Int)) v=(nv:Int):=⟨_,(Int.toNat_of_nonneg hnv.1).symm⟩;rw [hnve] at hnv;have hnvl:nv<D+1:=by simpa using hnv.2
   have hkl':(k:Int)<(a.length:Int):=by omega
   have hr:=hC.range;have h8:(exC ((n0:Int),(n1:Int),(n2:Int),(n3:Int))++rt).length=8:=by rw [List.length_append,hrt.len];rfl
   have hlr:=hrt.len;subst e1;replace hR2:=zH hR2;clear hR hjq hmem hnv hdeg
   go_upto_region 5 with (first
   |(refine wpList_index_at rfl _ _ 27 rfl monoT Tryz.underlying27 _ 8 96 (by kernel_rfl) _ _ _ rfl .i64 _ rfl k rfl hkl bq oq rfl ?_)
   |(refine wpList_load_mid rfl 43 _ rfl _ _ rfl _ _ hr Tryz.underlying43 rfl (by rw [h8];kernel_rfl) ?_)
   |(refine wpList_store_blk rfl _ (.tmp 10) (.tmp 25) rfl _ _ _ _ rfl rfl (Blk.new wr monoT [.int .i64 0,.int .i64 0,.int .i64 0,.int .i64 0,.bool false,.slice none 0 0,.bool false,.slice none 0 0]) (by simp [exC,hlr]) (by simp only [List.size_toArray,h8];exact info37) (term_ones' hrt) ?_;intro W3 R3 gr3))
   have hE:exC ((n0:Int),(n1:Int),(n2:Int),(n3:Int))=[.int .i64 n0,.int .i64 n1,.int .i64 n2,.int .i64 n3]:=rfl;have BB:Blk W3 wr.heap.size monoT (exC ((n0:Int),(n1:Int),(n2:Int),(n3:Int))++rt):=by simpa using R3
   have hba:Below wr.heap.size wr (wr.alloc (.cells #[.int .i64 0,.int .i64 0,.int .i64 0,.int .i64 0,.bool false,.slice none 0 0,.bool false,.slice none 0 0] monoT)):=(Below.refl _ _).alloc (Nat.le_refl _) _;have hb3:Below wr.heap.size wr W3:=hba.trans (grown_below gr3 (by simp) (Nat.le_refl _));have hbr3:=hbr.trans (hb3.mono hbr.size);have hO3:=hO.out.on hb3;have hrt3:=hrt.on hb3;have hgm:g<wr.heap.size:=hO.out.lt;have hwm:w.heap.size<=wr.heap.size:=hbr.size;clear hr R3 gr3 hba hb3 hC hrt hbr hO h8;generalize wr.heap.size=mb at *;obtain⟨N1,A1,K1,C1,N2,A2,K2,C2,rfl,i1,i2⟩:=hrt3;simp only at i1 i2 hrkt;rw [hE] at BB;have y0:=BB.at1 0 _ rfl;have y1:=BB.at1 1 _ rfl;have y2:=BB.at1 2 _ rfl;have y3:=BB.at1 3 _ rfl;have y4:=BB.at1 4 _ rfl;have y5:=BB.at1 5 _ rfl;have y6:=BB.at1 6 _ rfl;have y7:=BB.at1 7 _ rfl;have hden:=residue_any _ _ _ W3 i2 hrkt.den';have hR3:=hR2.out;rw [imgGo] at hR3;clear hR2;have hdl9:=resid_lt (q.den:Int);by_cases hz:resid (q.den:Int)=0
   ·rw [if_pos hz] at hR3;rw [hz] at hden;replace hR3:=zH hR3;clear hz hdl9
    go_wp2_with (go_at_call 136;refine hden.mono ?_;rintro en w4 ⟨rfl,hb4⟩)
    go_ret2;exact⟨_,by rw [hR3.out];rfl,(fun l hl=>by rw [hR3.out] at hl;cases hl),hbr3.trans (hb4.mono hbr3.size)⟩
   ·rw [if_neg hz] at hR3;have hnum:=fun W (hb:Below W3.heap.size W3 W)=>residue_any _ _ _ W (i1.on hb) hrkt.num';have hpw:=fun W=>power_any (resid (q.den:Int)) 2147483645 W (by omega) (by omega);have hnl:=resid_lt q.num;have hX0:imgX (((n0:Int),(n1:Int),(n2:Int),(n3:Int)),q) v at_ 0=resid q.num*powm (resid (q.den:Int)) 2147483645 % pr:=rfl;have hpl:=powm_lt (resid (q.den:Int)) 2147483645;rw [pr_eq] at hpl;generalize hdd:resid (q.den:Int)=d at *;generalize resid q.num=nn at *;generalize powm d 2147483645=pp at *;have hdne:((d:Int) == 0)=false:=by simp;omega
    have hnp:nn*pp<=2147483647*2147483647:=Nat.mul_le_mul (by omega) (by omega);obtain⟨X0,hX⟩:∃ X0,X0=nn*pp % 2147483647:=⟨_,rfl⟩;have hXi:((nn:Int)*(pp:Int)) % 2147483647=(X0:Int):=by rw [hX];simp
    rw [pr_eq,<- hX] at hX0;have hXl:X0<2147483647:=by rw [hX];exact Nat.mod_lt _ (by decide)
    replace hX0:=zH hX0;replace hR3:=zH hR3;replace hnum:=zH hnum;replace hpw:=zH hpw;clear hX hdd hz hnl hpl hdl9
    go_upto_region 8 with (go_at_call 136;refine hden.mono ?_;rintro en w4 ⟨rfl,hb4⟩)
    have BB4:=BB.on hb4;replace y4:=BB4.at1 4 _ rfl;replace y5:=BB4.at1 5 _ rfl
    go_upto_region 9 with (first
    |(go_at_call 136;refine (hnum.out _ hb4).mono ?_;rintro en w5 ⟨rfl,hb5⟩)
    |(go_at_call 137;refine (hpw.out _).mono ?_;rintro en w6 ⟨rfl,hb6⟩))
    have hb46:=hb4.trans ((hb5.trans (hb6.mono hb5.size)).mono hb4.size);have BB6:=BB.on hb46;have hO6:=zH (hO3.on hb46);have hbr6:=hbr3.trans (hb46.mono hbr3.size);replace y0:=BB6.at1 0 _ rfl;replace y1:=BB6.at1 1 _ rfl;replace y2:=BB6.at1 2 _ rfl;replace y3:=BB6.at1 3 _ rfl;have hstB:=zH BB6;clear BB BB4 BB6 hb4 hb5 hb6 hb46 y4 y5 y6 y7 hO3 hbr3 i1 i2 hden hnum hpw;go_wp2
    go_loopw [12,42] (fun x i wz=>∃ u X:Nat,u<=4/\x=.int .u64 X/\i=.int .i64 u/\X<2147483647/\Hid (imgX (((n0:Int),(n1:Int),(n2:Int),(n3:Int)),q) v at_ u=X)/\Hid (Blk wz mb monoT ([.int .i64 n0,.int .i64 n1,.int .i64 n2,.int .i64 n3]++[.bool N1,.slice A1 K1 C1,.bool N2,.slice A2 K2 C2]))/\Hid (Blk wz g u64T (nc out))/\Below w.heap.size w wz) (fun _ i _=>4-(intOf i).toNat)
    case atStart=>exact⟨0,X0,by omega,by rw [hXi],by go_num,hXl,hX0,hstB,hO6,hbr6⟩
    case round =>
     clear hstB hO6 hbr6 hX0 hXl hnp hXi;obtain⟨u,X,hu,rfl,rfl,hXl,hX,hB,hO,hbz⟩:=hrel;by_cases hu4:u<4
     ·have hpu:∀ W,Calls Tryz.prog 137 #[.int .u64 ((at_:Int)+(u:Int)),.int .i64 (Ex.get ((n0:Int),(n1:Int),(n2:Int),(n3:Int)) u)] W (Ret W (.int .u64 (powm (at_+u) (Ex.get ((n0:Int),(n1:Int),(n2:Int),(n3:Int)) u).toNat))):=fun W=>by
       have h1:0<=Ex.get ((n0:Int),(n1:Int),(n2:Int),(n3:Int)) u/\Ex.get ((n0:Int),(n1:Int),(n2:Int),(n3:Int)) u<=100000:=by
        obtain rfl|rfl|rfl|rfl:u=0\/u=1\/u=2\/u=3:=by omega
        all_goals (simp only [Ex.get];omega)
       have h2:=power_any (at_+u) (Ex.get ((n0:Int),(n1:Int),(n2:Int),(n3:Int)) u).toNat W (by omega) (by omega);rw [Int.toNat_of_nonneg h1.1,Int.natCast_add] at h2;exact h2
      have hpl:=powm_lt (at_+u) (Ex.get ((n0:Int),(n1:Int),(n2:Int),(n3:Int)) u).toNat;rw [pr_eq] at hpl;by_cases huv:u=v
      ·have hsx:Hid (imgX (((n0:Int),(n1:Int),(n2:Int),(n3:Int)),q) v at_ (u+1)=X):=zH (by rw [imgX,if_pos huv];exact hX.out);clear hpu hpl hX;obtain rfl|rfl|rfl|rfl:u=0\/u=1\/u=2\/u=3:=by omega
       ·have k1:((0:Int)=(v:Int))=True:=eq_true (by omega);have k2:((v:Int)=(0:Int))=True:=eq_true (by omega);have k3:(v=0)=True:=eq_true (by omega);have k4:((0:Nat)=v)=True:=eq_true (by omega);have k5:((0:Int) == (v:Int))=true:=by simp only [beq_iff_eq];omega
        clear huv
        go_wp2_with (refine wpList_idx rfl rfl rfl rfl (idx0 _ _ _ _ _) ?_)
        go_roundw
        case rel=>exact⟨1,X,by omega,rfl,by go_num,hXl,hsx,hB,hO,hbz⟩
        case measure=>simp [intOf]
       ·have k1:((1:Int)=(v:Int))=True:=eq_true (by omega);have k2:((v:Int)=(1:Int))=True:=eq_true (by omega);have k3:(v=1)=True:=eq_true (by omega);have k4:((1:Nat)=v)=True:=eq_true (by omega);have k5:((1:Int) == (v:Int))=true:=by simp only [beq_iff_eq];omega
        clear huv
        go_wp2_with (refine wpList_idx rfl rfl rfl rfl (idx1 _ _ _ _ _) ?_)
        go_roundw
        case rel=>exact⟨2,X,by omega,rfl,by go_num,hXl,hsx,hB,hO,hbz⟩
        case measure=>simp [intOf]
       ·have k1:((2:Int)=(v:Int))=True:=eq_true (by omega);have k2:((v:Int)=(2:Int))=True:=eq_true (by omega);have k3:(v=2)=True:=eq_true (by omega);have k4:((2:Nat)=v)=True:=eq_true (by omega);have k5:((2:Int) == (v:Int))=true:=by simp only [beq_iff_eq];omega
        clear huv
        go_wp2_with (refine wpList_idx rfl rfl rfl rfl (idx2 _ _ _ _ _) ?_)
        go_roundw
        case rel=>exact⟨3,X,by omega,rfl,by go_num,hXl,hsx,hB,hO,hbz⟩
        case measure=>simp [intOf]
       ·have k1:((3:Int)=(v:Int))=True:=eq_true (by omega);have k2:((v:Int)=(3:Int))=True:=eq_true (by omega);have k3:(v=3)=True:=eq_true (by omega);have k4:((3:Nat)=v)=True:=eq_true (by omega);have k5:((3:Int) == (v:Int))=true:=by simp only [beq_iff_eq];omega
        clear huv
        go_wp2_with (refine wpList_idx rfl rfl rfl rfl (idx3 _ _ _ _ _) ?_)
        go_roundw
        case rel=>exact⟨4,X,by omega,rfl,by go_num,hXl,hsx,hB,hO,hbz⟩
        case measure=>simp [intOf]
      ·obtain⟨Y,hY⟩:∃ Y,Y=X*powm (at_+u) (Ex.get ((n0:Int),(n1:Int),(n2:Int),(n3:Int)) u).toNat % 2147483647:=⟨_,rfl⟩;have hsx:Hid (imgX (((n0:Int),(n1:Int),(n2:Int),(n3:Int)),q) v at_ (u+1)=Y):=zH (by rw [imgX,if_neg huv,hX.out,hY];rfl);generalize powm (at_+u) (Ex.get ((n0:Int),(n1:Int),(n2:Int),(n3:Int)) u).toNat=pw at *;have hYl:Y<2147483647:=by rw [hY];exact Nat.mod_lt _ (by decide)
       have hYi:Hid (((X:Int)*(pw:Int)) % 2147483647=(Y:Int)):=zH (by rw [hY];simp);have hXp:X*pw<=2147483647*2147483647:=Nat.mul_le_mul (by omega) (by omega);clear hX hY;obtain rfl|rfl|rfl|rfl:u=0\/u=1\/u=2\/u=3:=by omega
       ·simp only [Ex.get] at hpu;have hne:¬ v=0:=fun h=>huv h.symm;have hne2:¬ (0:Int)=(v:Int):=by omega
        have hne3:¬ (0:Nat)=v:=huv
        go_wp2_with (first
        |(refine wpList_idx rfl rfl rfl rfl (idx0 _ _ _ _ _) ?_)
        |(go_at_call 137;refine (hpu _).mono ?_;rintro en w7 ⟨rfl,hb7⟩))
        go_roundw
        case rel=>exact⟨1,Y,by omega,by rw [<- hYi.out],by go_num,hYl,hsx,zH (hB.out.on hb7),zH (hO.out.on hb7),hbz.trans (hb7.mono hbz.size)⟩
        case measure=>simp [intOf]
       ·simp only [Ex.get] at hpu;have hne:¬ v=1:=fun h=>huv h.symm;have hne2:¬ (1:Int)=(v:Int):=by omega
        have hne3:¬ (1:Nat)=v:=huv
        go_wp2_with (first
        |(refine wpList_idx rfl rfl rfl rfl (idx1 _ _ _ _ _) ?_)
        |(go_at_call 137;refine (hpu _).mono ?_;rintro en w7 ⟨rfl,hb7⟩))
        go_roundw
        case rel=>exact⟨2,Y,by omega,by rw [<- hYi.out],by go_num,hYl,hsx,zH (hB.out.on hb7),zH (hO.out.on hb7),hbz.trans (hb7.mono hbz.size)⟩
        case measure=>simp [intOf]
       ·simp only [Ex.get] at hpu;have hne:¬ v=2:=fun h=>huv h.symm;have hne2:¬ (2:Int)=(v:Int):=by omega
        have hne3:¬ (2:Nat)=v:=huv
        go_wp2_with (first
        |(refine wpList_idx rfl rfl rfl rfl (idx2 _ _ _ _ _) ?_)
        |(go_at_call 137;refine (hpu _).mono ?_;rintro en w7 ⟨rfl,hb7⟩))
        go_roundw
        case rel=>exact⟨3,Y,by omega,by rw [<- hYi.out],by go_num,hYl,hsx,zH (hB.out.on hb7),zH (hO.out.on hb7),hbz.trans (hb7.mono hbz.size)⟩
        case measure=>simp [intOf]
       ·simp only [Ex.get] at hpu;have hne:¬ v=3:=fun h=>huv h.symm;have hne2:¬ (3:Int)=(v:Int):=by omega
        have hne3:¬ (3:Nat)=v:=huv
        go_wp2_with (first
        |(refine wpList_idx rfl rfl rfl rfl (idx3 _ _ _ _ _) ?_)
        |(go_at_call 137;refine (hpu _).mono ?_;rintro en w7 ⟨rfl,hb7⟩))
        go_roundw
        case rel=>exact⟨4,Y,by omega,by rw [<- hYi.out],by go_num,hYl,hsx,zH (hB.out.on hb7),zH (hO.out.on hb7),hbz.trans (hb7.mono hbz.size)⟩
        case measure=>simp [intOf]
     ·obtain rfl:u=4:=by omega
      have hB4:=hB.out;have hO4:=hO.out;have hg4:g<wr.heap.size:=hO4.lt;have hmb4:mb<wr.heap.size:=hB4.lt
      have hee:∀ W,Below wr.heap.size wr W->W.cell? ⟨mb,v,none⟩=some (.int .i64 nv):=fun W hb=>by
       have h1:=exC_at' ((n0:Int),(n1:Int),(n2:Int),(n3:Int)) v hv;rw [hnve] at h1;refine (hB4.on hb).at1 v _ ?_;rw [List.getElem?_append_left (by show v<4;exact hv)];exact h1
      have hoc:∀ W,Below wr.heap.size wr W->W.cell? ⟨g,nv,none⟩=some (.int .u64 ((out.getD nv 0:Nat):Int)):=fun W hb=>(hO4.on hb).ncell nv (by omega);have hol2:=hLo.out.getD nv;have hnvn:(Ex.get ((n0:Int),(n1:Int),(n2:Int),(n3:Int)) v).toNat=nv:=by rw [hnve];rfl
      obtain⟨Y,hY⟩:∃ Y,Y=(out.getD nv 0+X) % 2147483647:=⟨_,rfl⟩
      have hR4:Hid (RES=imgGo v at_ (a.drop (k+1)) (out.set nv Y)):=zH (by
       rw [hR3.out,hY];simp only [hnvn]
       rw [imgT,hX.out];rfl)
      generalize out.getD nv 0=y at *;have hYl:Y<2147483647:=by rw [hY];exact Nat.mod_lt _ (by decide)
      have hYi:Hid (((y:Int)+(X:Int)) % 2147483647=(Y:Int)):=zH (by rw [hY];simp);replace hee:=zH hee;replace hoc:=zH hoc;have hol3:(out.set nv Y).length=D+1:=by rw [List.length_set];exact hol
      have hLo2:=zH (hLo.out.set nv hYl);clear hX hY hnvn hR3 hnve
      go_upto_region 15 with (fail)
      refine wp_region_L mixed (none) (0) (Okr.none) [.eq (.slice (some ⟨g,0,none⟩) (D+1) (D+1)),.eq (.int .i64 v),.eq (.pointer (some ⟨mb,0,none⟩)),.eq (.pointer (some ⟨mb,v,none⟩)),.eq (.int .i64 nv),.eq (.slice (some ⟨g,0,none⟩) (D+1) (D+1)),.eq (.int .i64 v),.eq (.pointer (some ⟨mb,0,none⟩)),.eq (.pointer (some ⟨mb,v,none⟩)),.eq (.int .i64 nv),.eq (.pointer (some ⟨g,0+nv*1,none⟩)),.eq (.int .u64 y),.eq (.int .u64 X),.eq (.int .u64 ((y:Int)+(X:Int))),.eq (.int .u64 (((y:Int)+(X:Int)) % 2147483647)),.eq (.pointer (some ⟨g,0+nv*1,none⟩))] [59,60,61,62,63,64,65,66,67,68,69,70,71,72,73,74] rfl rfl rfl rfl ⟨?_,?_,?_,?_,?_,?_,?_,?_,?_,?_,?_,?_,?_,?_,?_,?_,trivial⟩ ?_
      ·exact fun _ _ a _ _ _=>xM rfl (a 8 rfl)
      ·exact fun _ _ a _ _ _=>xM rfl (a 1 rfl)
      ·intro A w1 hA hL hS he;have h10:A.eval (.tmp 10)=.pointer (some ⟨mb,0,none⟩):=hA 10 rfl;exact pZ rfl
      ·intro A w1 hA hL hS he;have h61:=eT 61 (he.1 rfl);have h60:=eT 60 (he.2.1 rfl);exact pZ rfl
      ·intro A w1 hA hL hS he;have h62:=eT 62 (he.1 rfl);refine goOn_plain rfl ?_;have c0:=hee.out w1 hL.below;exact stepG_pure rfl rfl gZ
      ·exact fun _ _ a _ _ _=>xM rfl (a 8 rfl)
      ·exact fun _ _ a _ _ _=>xM rfl (a 1 rfl)
      ·intro A w1 hA hL hS he;have h10:A.eval (.tmp 10)=.pointer (some ⟨mb,0,none⟩):=hA 10 rfl;exact pZ rfl
      ·intro A w1 hA hL hS he;have h66:=eT 66 (he.1 rfl);have h65:=eT 65 (he.2.1 rfl);exact pZ rfl
      ·intro A w1 hA hL hS he;have h67:=eT 67 (he.1 rfl);refine goOn_plain rfl ?_;have c0:=hee.out w1 hL.below;exact stepG_pure rfl rfl gZ
      ·exact fun _ _ _ _ _ e=>pI rfl Tryz.underlying94 g 0 nv (hnvl) (e.1 rfl) (e.2.1 rfl)
      ·intro A w1 hA hL hS he;have h69:=eT 69 (he.1 rfl);refine goOn_plain rfl ?_;have c0:=hoc.out w1 hL.below;exact stepG_pure rfl rfl gZ
      ·exact fun _ _ a _ _ _=>xM rfl (a 12 rfl)
      ·intro A w1 hA hL hS he;have h70:=eT 70 (he.1 rfl);have h71:=eT 71 (he.2.1 rfl);refine goOn_plain rfl (stepG_pure rfl rfl ?_);generalize A.eval=ev at *;go_simp
       (have hw:=IntKind.wrap_u64 ((y:Int)+(X:Int));omega)
      ·intro A w1 hA hL hS he;have h72:=eT 72 (he.1 rfl);have hc0:=eC A (.int .u64 2147483647);refine goOn_plain rfl (stepG_pure rfl rfl ?_);generalize A.eval=ev at *;go_simp;exact Int.tmod_eq_emod_of_nonneg (by omega)
      ·exact fun _ _ _ _ _ e=>pI rfl Tryz.underlying94 g 0 nv (hnvl) (e.1 rfl) (e.2.1 rfl)
      ·intro W5 hL5;have hb5:=hL5.below;simp only [TailL,FactL.eq,List.length_cons,List.length_nil,List.drop_succ_cons,List.drop_zero];go_frame;have hO5:=hO4.on hb5;have z5:=hO5.ncell nv (by omega);have f5:=hO5.frozen nv;have hO6:=zH (hO5.nset nv Y);have hb6:=hbz.trans ((hb5.mono hbz.size).trans (setCell_below (W:=W5) (g:=g) (j:=nv) hgw (.int .u64 (Y:Int))));clear hee hoc hL5 hB4 hO4 hB hO hO5 hb5;go_wp2;go_roundw
       case rel=>exact⟨k+1,out.set nv Y,by omega,by go_num,by rw [hYi.out];exact hO6,hol3,hLo2,hR4,by rw [hYi.out];exact hb6⟩
       case measure=>simp [intOf];omega
  ·obtain rfl:k=a.length:=by omega
   have hfin:Hid (RES=some out):=zH (by rw [hR.out,List.drop_of_length_le (Nat.le_refl _)];rfl);have hO4:=hO.out;have hg4:g<wr.heap.size:=hO4.lt;have hoc:∀ W,Below wr.heap.size wr W->W.cell? ⟨g,D,none⟩=some (.int .u64 ((out.getD D 0:Nat):Int)):=fun W hb=>(hO4.on hb).ncell D (by omega)
   have hfine:Hid (fineB RES=decide (¬ ((out.getD D 0:Nat):Int)=0)):=zH (by
    rw [hfin.out];show decide (out.getD (out.length-1) 0≠0)=_;rw [hol,Nat.add_sub_cancel];refine decide_eq_decide.2 ?_;constructor
    ·intro h h';exact h (by omega)
    ·intro h h';exact h (by omega))
   have hDD:((D:Int)+1-1)=D:=by omega
   have hw1:=wrap64 (x:=(D:Int)+1) (by omega) (by omega);have hw2:=wrap64 (x:=(D:Int)) (by omega) (by omega);replace hoc:=zH hoc;generalize out.getD D 0=y at *
   go_upto_region 17 with (fail)
   refine wp_region_L mixed (none) (0) (Okr.none) [.eq (.slice (some ⟨g,0,none⟩) (D+1) (D+1)),.eq (.slice (some ⟨g,0,none⟩) (D+1) (D+1)),.eq (.slice (some ⟨g,0,none⟩) (D+1) (D+1)),.eq (.int .i64 (D+1)),.eq (.int .i64 D),.eq (.pointer (some ⟨g,0+D*1,none⟩)),.eq (.int .u64 y),.eq (.bool (decide (¬ (y:Int)=0))),.eq (.slice (some ⟨g,0,none⟩) (D+1) (D+1))] [76,77,78,79,80,81,82,83,6] rfl rfl rfl rfl ⟨?_,?_,?_,?_,?_,?_,?_,?_,?_,trivial⟩ ?_
   ·exact fun _ _ a _ _ _=>xM rfl (a 8 rfl)
   ·exact fun _ _ a _ _ _=>xM rfl (a 8 rfl)
   ·exact fun _ _ a _ _ _=>xM rfl (a 8 rfl)
   ·intro A w1 hA hL hS he;have h78:=eT 78 (he.1 rfl);exact pZ rfl
   ·intro A w1 hA hL hS he;have h79:=eT 79 (he.1 rfl);have hc0:=eC A (.int .i64 1);exact pZ rfl
   ·exact fun _ _ _ _ _ e=>pI rfl Tryz.underlying94 g 0 D (by omega) (e.1 rfl) (e.2.1 rfl)
   ·intro A w1 hA hL hS he;have h81:=eT 81 (he.1 rfl);refine goOn_plain rfl ?_;have c0:=hoc.out w1 hL.below;exact stepG_pure rfl rfl gZ
   ·intro A w1 hA hL hS he;have h82:=eT 82 (he.1 rfl);have hc0:=eC A (.int .u64 0);refine goOn_plain rfl (stepG_pure rfl rfl ?_);generalize A.eval=ev at *;go_simp
    (by_cases h9:y=0 <;> simp [h9])
   ·intro A w1 hA hL hS he;have h76:=eT 76 (he.1 rfl);exact pZ rfl
   ·intro W5 hL5;have hb5:=hL5.below;simp only [TailL,FactL.eq,List.length_cons,List.length_nil,List.drop_succ_cons,List.drop_zero];go_frame;have hO5:=hO4.on hb5;have hS:=Go.RowKit.Blk.nsl hO5 hLo.out;rw [hol] at hS;clear hoc hL5 hO4;go_wp2;go_ret2;exact⟨_,by rw [hfine.out];rfl,fun l hl=>by rw [hfin.out] at hl;cases hl;exact hS,hbr.trans (hb5.mono hbr.size)⟩
end Go.Proofs.YtopclbeomcggiaaGreat
end
section
namespace Q
open Go Go.RowKit Go.Proofs.YtopclbeomcggiaaGreat
theorem Rst.mono {b b':Nat} {w:World} {v:Value} {l:List Nat} (h:Rst b w v l) (hb:b'<=b):Rst b' w v l:=by
 obtain⟨ao,cap,h1,h2,h3,h4⟩:=h;refine⟨ao,cap,h1,h2,h3,fun hp=>?_⟩;obtain⟨g,cs,e,hg,hB⟩:=h4 hp;exact⟨g,cs,e,by omega,hB⟩
def FactL.rst {T:TypeId} (B:Nat) (l:List Nat):FactL (Lr none T):=FactL.of (fun v w=>Rst B w v l) (fun _ _ _ hb h=>h.on hb.below)
theorem nsl_cells {w:World} {v:Value} {l:List Nat} (h:IsSl elN w v l) (hp:0<l.length):∃ b off cap,v=.slice (some ⟨b,off,none⟩) l.length cap/\Cells u64T w b off (nc l)/\Lim l:=by
 obtain⟨ao,cap,rfl,h1,h2,h3⟩:=isSl_n.1 h;obtain⟨b,off,rfl,hc⟩:=h2 (by rw [nc_len];exact hp);exact⟨b,off,cap,rfl,hc,h3⟩
theorem pr2:pr-2=2147483645:=rfl
end Q
namespace Go.Proofs.YtopclbeomcggiaaGreat
open Go.RowKit Q
theorem shared_any (vx vy:Value) (x y:List Nat) (R:Nat) (w:World) (hx:IsSl elN w vx x) (hy:IsSl elN w vy y) (lx:x.length<=1000000) (ly:y.length<=1000000) (h:shareO x y=some R) :
  Calls Tryz.prog 119 #[vx,vy] w (Ret w (.int .i64 ((R:Int)-1))):=by
 obtain⟨F,hF⟩:∃ F,F=fuel:=⟨_,rfl⟩;unfold shareO at h;rw [<- hF] at h;obtain⟨ax,cx,rfl,hcx⟩:=hx.shape;obtain⟨ay,cy,rfl,hcy⟩:=hy.shape;replace hx:=zH hx;replace hy:=zH hy;replace hF:=zH hF
 go_enter Tryz.func119,Tryz.ntmps119
 go_upto_if 15 with (fail)
 go_cut [0,1,16,17] (fun va vb _ _ wc=>∃ a b,Hid (IsSl elN wc va a)/\Hid (IsSl elN wc vb b)/\Hid (shareGo F a b=some R)/\a.length<=1000000/\b.length<=1000000/\Below w.heap.size w wc)
 case first =>
  by_cases hlt:x.length<y.length
  ·rw [if_pos hlt] at h;replace h:=zH h;have hlt':(x.length:Int)<y.length:=by omega
   go_wp2;go_meet
   case rel=>exact⟨y,x,hy,hx,h,ly,lx,Below.refl _ _⟩
  ·rw [if_neg hlt] at h;replace h:=zH h;have hlt':¬ (x.length:Int)<y.length:=by omega
   go_wp2;go_meet
   case rel=>exact⟨x,y,hx,hy,h,lx,ly,Below.refl _ _⟩
 case rest =>
  clear hx hy h lx ly hcx hcy;obtain⟨a,b,ha,hb,hs,la,lb,hbw⟩:=hcut;go_wp2
  go_loopg [0,1] F (fun n va vb wr=>∃ a b,Hid (IsSl elN wr va a)/\Hid (IsSl elN wr vb b)/\Hid (shareGo n a b=some R)/\a.length<=1000000/\b.length<=1000000/\Below w.heap.size w wr)
  case atStart=>exact⟨a,b,ha,hb,hs,la,lb,hbw⟩
  case round =>
   clear ha hb hs la lb hbw a b;obtain⟨a,b,ha,hb,hs,la,lb,hbr⟩:=hrel
   cases gk with
  |zero=>exact absurd hs.out (by simp [shareGo])
  |succ n =>
   have hs2:=hs.out;rw [shareGo] at hs2;clear hs;by_cases hb0:b=[]
   ·rw [if_pos hb0,Option.some.injEq] at hs2;subst hb0;obtain⟨aa,ca,rfl,hca⟩:=ha.out.shape;obtain⟨ab,cb,rfl,hcb⟩:=hb.out.shape;simp only [List.length_nil];have hfin:=zH hs2;clear hs2;go_wp2;go_ret;exact⟨by rw [<- hfin.out];rfl,hbr⟩
   ·rw [if_neg hb0] at hs2;have hpb:0<b.length:=List.length_pos_iff.2 hb0;obtain⟨bb,ob,cb,rfl,hCb,hLb⟩:=nsl_cells hb.out hpb;rw [<- hF.out] at hs2;obtain⟨inv,hinv⟩:∃ inv,inv=powm (b.getD (b.length - 1) 0) 2147483645:=⟨_,rfl⟩;rw [pr2,<- hinv] at hs2
    cases hr:restO b inv F a with
   |none=>rw [hr] at hs2;cases hs2
   |some r1 =>
    rw [hr] at hs2;have hinvl:inv<2147483647:=by rw [hinv];exact powm_lt _ _
    have hcl:=zH (fun W (hb:Below wr.heap.size wr W)=>cloneN_any _ a W (ha.out.on hb) (by omega));have hlast:=hLb.getD (b.length-1);have hpw:=zH (fun W=>power_any (b.getD (b.length-1) 0) 2147483645 W (by omega) (by omega));rw [<- hinv] at hpw;have hcell:∀ W,Below wr.heap.size wr W->W.cell? ⟨bb,ob+(b.length-1),none⟩=some (.int .u64 ((b.getD (b.length-1) 0:Nat):Int)):=fun W hb=>(hCb.on hb).ncell _ (by omega);generalize b.getD (b.length-1) 0=xl at hpw hcell;replace hinv:=zH hinv;replace hs2:=zH hs2;replace hr:=zH hr;replace hcell:=zH hcell;have hpos:(0:Int)<(b.length:Int):=by omega
    clear hlast hb0
    go_upto_region 4 with (fail)
    refine wp_region_L mixed (none) (0) (Okr.none) [.eq (u0),.rst wr.heap.size a,.eq (.slice (some ⟨bb,ob,none⟩) b.length cb),.eq (.slice (some ⟨bb,ob,none⟩) b.length cb),.eq (.int .i64 b.length),.eq (.int .i64 ((b.length:Int)-1)),.eq (.pointer (some ⟨bb,ob+(b.length-1)*1,none⟩)),.eq (.int .u64 xl),.ret (.int .u64 inv)] [21,22,23,24,25,26,27,28,29] rfl rfl rfl rfl ⟨?_,?_,?_,?_,?_,?_,?_,?_,?_,trivial⟩ ?_
    ·exact fun _ _ a _ _ _=>xM rfl (a 0 rfl)
    ·intro A w1 hA hL hS he;have hb:=hS rfl;have h21:=eT 21 (he.1 rfl);have hf0:=eF A 138;refine goOn_plain rfl ?_;refine stepG_call (f:=138) (args:=#[u0]) rfl rfl ?_ ?_
     ·exact gZ
     ·refine (hcl.out _ hb).mono ?_;rintro e w' ⟨v,rfl,hi,hb'⟩;exact⟨_,rfl,hb',hi.mono hb.size⟩
    ·exact fun _ _ a _ _ _=>xM rfl (a 1 rfl)
    ·exact fun _ _ a _ _ _=>xM rfl (a 1 rfl)
    ·intro A w1 hA hL hS he;have h24:=eT 24 (he.1 rfl);exact pZ rfl
    ·intro A w1 hA hL hS he;have h25:=eT 25 (he.1 rfl);have hc0:=eC A (.int .i64 1);refine goOn_plain rfl (stepG_pure rfl rfl ?_);generalize A.eval=ev at *;go_simp;exact wrap64 (by omega) (by omega)
    ·exact fun _ _ _ _ _ e=>pI rfl Tryz.underlying94 bb ob (b.length-1) (by omega) (e.1 rfl) (e.2.1 rfl)
    ·intro A w1 hA hL hS he;have hb:=hL.below;have h27:=eT 27 (he.1 rfl);refine goOn_plain rfl ?_;have c0:=hcell.out w1 hb;exact stepG_pure rfl rfl gZ
    ·intro A w1 hA hL hS he;have hb:=hS rfl;have h28:=eT 28 (he.1 rfl);have hf0:=eF A 137;have hc0:=eC A (.int .i64 2147483645);refine goOn_plain rfl ?_;refine stepG_call (f:=137) (args:=#[.int .u64 xl,(.int .i64 2147483645)]) rfl rfl ?_ ?_
     ·exact gZ
     ·refine (hpw.out _).mono ?_;rintro e w' ⟨rfl,hb'⟩;exact⟨_,rfl,hb',rfl⟩
    ·intro W1 hL1;have hb1:=hL1.below;simp only [TailL,FactL.eq,FactL.rst,FactL.ret,FactL.of,List.length_cons,List.length_nil,List.drop_succ_cons,List.drop_zero];rintro v22 h22;go_frame;have hbr1:=hbr.trans (hb1.mono hbr.size);have hbc:∀ W,Below wr.heap.size wr W->∀ k,k<b.length->W.cell? ⟨bb,ob+k,none⟩=some (.int .u64 ((b.getD k 0:Nat):Int)):=fun W hb k hk=>(hCb.on hb).ncell _ hk;replace hbc:=zH hbc;replace h22:=zH h22;clear hL1 hcl hpw hcell hCb;generalize wr=Wb at *;go_wp2
     go_loopg [5] F (fun m v5 wz=>∃ r,Hid (Rst Wb.heap.size wz v5 r)/\Hid (restO b inv m r=some r1)/\r.length<=1000000/\Below Wb.heap.size Wb wz)
     case atStart=>exact⟨a,h22,hr,la,hb1⟩
     case round =>
      clear h22 hr hb1 hbr1;obtain⟨r,hR,hrun,lr,hbz⟩:=hrel;obtain⟨gk',hgk⟩:∃ gk',gk'=gk:=⟨_,rfl⟩
      cases gk with
     |zero=>exact absurd hrun.out (by simp [restO])
     |succ m =>
      clear hgk;have hrun2:=hrun.out;rw [restO] at hrun2;clear hrun;by_cases hle:b.length<=r.length
      ·rw [if_pos hle] at hrun2;obtain⟨g,cap,rfl,hcap,hgb,hgl,hcr,-,-,-⟩:=hR.out.open (by omega);obtain⟨A,hA⟩:∃ A,A=r.length - b.length:=⟨_,rfl⟩;have hA2:(r.length:Int) - (b.length:Int)=(A:Int):=by omega
       have hAb:A+b.length=r.length:=by omega
       rw [<- hA] at hrun2;have htop:=hR.out.isSl;obtain⟨-,-,-,-,-,hLr⟩:=isSl_n.1 htop;have hct:=hcr (r.length - 1) (by omega);have hxl:=hLr.getD (r.length - 1);generalize r.getD (r.length - 1) 0=xt at *;obtain⟨f,hf⟩:∃ f,f=xt*inv % pr:=⟨_,rfl⟩;rw [<- hf] at hrun2;have hfl:f<2147483647:=by rw [hf];exact mod_pr _
       have hxi:xt*inv<=2147483647*2147483647:=Nat.mul_le_mul (by omega) (by omega);have hfi:((xt:Int)*(inv:Int)) % 2147483647=(f:Int):=by rw [hf,pr_eq];simp
       have hle':¬ (r.length:Int)<(b.length:Int):=by omega
       replace hrun2:=zH hrun2;have hst:Hid (Rst Wb.heap.size wr (.slice (some ⟨g,0,none⟩) r.length cap) (redTo b r f A 0)):=hR;clear hf hA hcr htop hR
       go_wp2_with (refine wpList_index_at rfl (.tmp 35) (.tmp 38) _ rfl _ Tryz.underlying94 _ _ _ infoU64 _ _ _ rfl _ _ rfl (r.length-1) (by omega) (by omega) g 0 rfl ?_;rw [Nat.mul_one,Nat.zero_add])
       go_loopw [51] (fun i wy=>∃ k:Nat,k<=b.length/\i=.int .i64 k/\Hid (Rst Wb.heap.size wy (.slice (some ⟨g,0,none⟩) r.length cap) (redTo b r f A k))/\Below Wb.heap.size Wb wy) (fun i _=>b.length-(intOf i).toNat)
       case atStart=>exact⟨0,by omega,rfl,hst,hbz⟩
       case round =>
        clear hst hbz;obtain⟨k,hk,rfl,hR,hbz⟩:=hrel;by_cases hkl:k<b.length
        ·have hkl':(k:Int)<(b.length:Int):=by omega
         have hlen:=redTo_len b r f A k;obtain⟨g',cap',hvv,-,-,-,hcr,hfr,-,hset⟩:=hR.out.open (by omega);simp only [Value.slice.injEq,Option.some.injEq,Addr.mk.injEq,and_true] at hvv;obtain⟨rfl,-,rfl⟩:=hvv;have hsucc:redTo b r f A (k+1)=(redTo b r f A k).set (A+k) (((redTo b r f A k).getD (A+k) 0+(pr - b.getD k 0)*f) % pr):=rfl;have hLr:=hR.out.isSl;obtain⟨-,-,-,-,-,hLr⟩:=isSl_n.1 hLr;have h1:=hcr (A+k) (by omega);have h2:=hbc.out wr hbz k hkl;have h3:=hfr (A+k);have hx1:=hLr.getD (A+k);have hc1:=hLb.getD k;have hs9:=hset (A+k) (((redTo b r f A k).getD (A+k) 0+(pr - b.getD k 0)*f) % pr) (by omega) (mod_pr _);rw [<- hsucc] at hs9;obtain⟨nx,hnx⟩:∃ nx,nx=redTo b r f A (k+1):=⟨_,rfl⟩;rw [<- hnx] at hs9;replace hnx:=zH hnx;clear hsucc;generalize (redTo b r f A k).getD (A+k) 0=x at *;generalize b.getD k 0=c at *;obtain⟨d,hd⟩:∃ d,d=pr - c:=⟨_,rfl⟩;rw [<- hd] at hs9;rw [pr_eq] at hd hs9;have hd2:(2147483647:Int) - (c:Int)=(d:Int):=by omega
         have hdf:d*f<=2147483647*2147483647:=Nat.mul_le_mul (by omega) (by omega);have hv9:(((x+d*f) % 2147483647:Nat):Int)=((x:Int)+(d:Int)*(f:Int)) % 2147483647:=by simp
         rw [hv9] at hs9;have hAk2:A+k<r.length:=by omega
         have hbz9:=hbz.trans (setCell_below (W:=wr) (g:=g) (j:=A+k) hgb (.int .u64 (((x:Int)+(d:Int)*(f:Int)) % 2147483647)));replace hs9:=zH hs9;clear hcr hfr hset hv9 hd hR hLr hlen;replace hAb:=zH hAb
         go_wp2_with (first
         |(refine wpList_index_at rfl (.tmp 49) (.tmp 51) _ rfl _ Tryz.underlying94 _ _ _ infoU64 _ _ _ rfl _ _ rfl k rfl hkl bb ob rfl ?_;rw [Nat.mul_one])
         |(refine wpList_index_at rfl (.tmp 60) (.tmp 63) _ rfl _ Tryz.underlying94 _ _ _ infoU64 _ _ _ rfl _ _ rfl (A+k) (by omega) hAk2 g 0 rfl ?_;rw [Nat.mul_one,Nat.zero_add])
         |(refine wpList_index_at rfl (.tmp 56) (.tmp 59) _ rfl _ Tryz.underlying94 _ _ _ infoU64 _ _ _ rfl _ _ rfl (A+k) (by omega) hAk2 g 0 rfl ?_;rw [Nat.mul_one,Nat.zero_add]))
         go_roundw
         case rel=>exact⟨k+1,by omega,by go_num,by rw [<- hnx.out];exact hs9,hbz9⟩
         case measure=>simp [intOf];omega
        ·obtain rfl:k=b.length:=by omega
         have hlen:=redTo_len b r f A b.length;generalize redTo b r f A b.length=r2 at *;obtain⟨S,hS⟩:∃ S,S=strip r2:=⟨_,rfl⟩;have hst:Hid (strip r2=S):=zH hS.symm;have hrun3:Hid (restO b inv m S=some r1):=zH (by rw [hS];exact hrun2.out);clear hrun2 hS;go_wp2
         go_loopg [5] r.length (fun q v5 wy=>∃ r3,Hid (Rst Wb.heap.size wy v5 r3)/\Hid (strip r3=S)/\r3.length<=q/\q<=1000000/\Below Wb.heap.size Wb wy)
         case atStart=>exact⟨r2,hR,hst,by omega,by omega,hbz⟩
         case round =>
          clear hR hst hbz hlen r2;obtain⟨r3,hR,hst,lr3,hq,hbz⟩:=hrel;by_cases hp3:0<r3.length
          ·obtain⟨g3,cap3,rfl,hcap3,hgb3,hgl3,hcr3,-,htk3,-⟩:=hR.out.open hp3;have hct3:=hcr3 (r3.length - 1) (by omega);have hxl3:=(isSl_n.1 hR.out.isSl);obtain⟨-,-,-,-,-,hLr3⟩:=hxl3;have hx3:=hLr3.getD (r3.length - 1);have hz:=fun h=>strip_zero (r:=r3) hp3 h;have hnz:=fun h=>strip_last (r:=r3) hp3 h;have htk:=htk3 (r3.length - 1) (by omega);have hp3':(0:Int)<(r3.length:Int):=by omega
           generalize r3.getD (r3.length-1) 0=x3 at *;clear hcr3 htk3 hLr3;by_cases hx0:x3=0
           ·subst hx0;have hstz:Hid (strip (r3.take (r3.length-1))=S):=zH (by rw [hz rfl];exact hst.out);have hlz:(r3.take (r3.length-1)).length=r3.length-1:=by rw [List.length_take];omega
            replace htk:=zH htk;clear hz hnz hst hR;obtain⟨q',hq'⟩:∃ q',gk=q'+1:=⟨gk - 1,by omega⟩;replace hq':=zH hq';generalize r3.take (r3.length - 1)=r4 at *;replace hlz:=zH hlz
            go_wp2_with (first
            |(refine wpList_index_at rfl (.tmp 78) (.tmp 81) _ rfl _ Tryz.underlying94 _ _ _ infoU64 _ _ _ rfl _ _ rfl (r3.length-1) (by omega) (by omega) g3 0 rfl ?_;rw [Nat.mul_one,Nat.zero_add])
            |(refine wpList_slice_hi rfl _ _ 94 rfl Tryz.underlying94 (by kernel_rfl) _ _ _ rfl .i64 _ rfl (r3.length-1) (by omega) (by omega) ?_))
            go_roundg q'
            case measure=>have:=hq'.out;omega
            case rel=>exact⟨r4,by have h1:=htk.out;have h2:=hlz.out;rw [<- h2] at h1;rw [<- h2];exact zH h1,hstz,by have:=hq'.out;have:=hlz.out;omega,by have:=hq'.out;omega,hbz⟩
           ·have hfin:Hid (S=r3):=zH (by rw [<- hst.out];exact hnz hx0);have hne:((x3:Int) == 0)=false:=by simp;omega
            clear hz hnz hst htk hx0
            go_wp2_with (refine wpList_index_at rfl (.tmp 78) (.tmp 81) _ rfl _ Tryz.underlying94 _ _ _ infoU64 _ _ _ rfl _ _ rfl (r3.length-1) (by omega) (by omega) g3 0 rfl ?_;rw [Nat.mul_one,Nat.zero_add])
            go_roundg m
            case measure=>omega
            case rel=>exact⟨r3,hR,by rw [<- hfin.out];exact hrun3,by omega,hbz⟩
          ·obtain rfl:r3=[]:=List.eq_nil_of_length_eq_zero (by omega);have hfin:Hid (S=[]):=zH (by rw [<- hst.out];rfl);obtain⟨a3,c3,rfl,-⟩:=hR.out.isSl.shape;simp only [List.length_nil];clear hst;go_wp2;go_roundg m
           case measure=>omega
           case rel=>exact⟨[],hR,by rw [<- hfin.out];exact hrun3,by simp,hbz⟩
      ·rw [if_neg hle,Option.some.injEq] at hrun2;subst hrun2;obtain⟨ar,cr,rfl,-⟩:=hR.out.isSl.shape;have hle':(r.length:Int)<(b.length:Int):=by omega
       have hbW:=zH (hb.out.on hbz);have hbrz:=hbr.trans (hbz.mono hbr.size);have hRs:=zH hR.out.isSl;clear hR hb ha hbc;go_wp2;go_roundg n
       case measure=>omega
       case rel=>exact⟨b,r,hbW,hRs,hs2,lb,lr,hbrz⟩
end Go.Proofs.YtopclbeomcggiaaGreat
end
section
namespace Q
theorem imgO_len {a:List Trm} {v at_:Nat} {l:List Nat} (ka:Wp a) (h:imgO a v at_=some l):l.length<=1000000:=by
 rw [(imgGo_len h).1,List.length_replicate];have:=(ka.deg v).2;omega
theorem boundGo_cons {a b:List Trm} {v k:Nat} {l:List Nat} {m:Int} (h:boundGo a b v (k::l)=some m) :
  (fineB (imgO a v (17+100*k))=true/\fineB (imgO b v (17+100*k))=true/\∃ x y n,imgO a v (17+100*k)=some x/\imgO b v (17+100*k)=some y/\shareO x y=some n/\m=(n:Int)-1) \/
  ((fineB (imgO a v (17+100*k))=false\/fineB (imgO b v (17+100*k))=false)/\boundGo a b v l=some m):=by
 rw [boundGo] at h
 cases hx:imgO a v (17+100*k) with
|none=>rw [hx] at h;exact .inr ⟨.inl rfl,h⟩
|some x =>
  cases hy:imgO b v (17+100*k) with
 |none=>rw [hx,hy] at h;exact .inr ⟨.inr rfl,h⟩
 |some y =>
   rw [hx,hy] at h;change (if (fineB (some x) && fineB (some y))=true then _ else _)=_ at h;cases h1:fineB (some x)
   ·rw [h1] at h;exact .inr ⟨.inl rfl,by simpa using h⟩
   ·cases h2:fineB (some y)
    ·rw [h1,h2] at h;exact .inr ⟨.inr rfl,by simpa using h⟩
    ·rw [h1,h2] at h;rw [if_pos (show (true && true)=true from rfl)] at h
     cases hs:shareO x y with
    |none=>rw [hs] at h;cases h
    |some n =>
      rw [hs] at h;have h9:some ((n:Int)-1)=some m:=h;exact .inl ⟨rfl,rfl,x,y,n,rfl,rfl,hs,(Option.some.inj h9).symm⟩
end Q
namespace Go.Proofs.YtopclbeomcggiaaGreat
open Go.RowKit Q
theorem bound_any (va vb:Value) (a b:List Trm) (v:Nat) (m:Int) (w:World) (ha:IsPoly w va a) (hb:IsPoly w vb b) (ka:Wp a) (kb:Wp b) (hv:v<4) (hna:a≠[]) (hnb:b≠[]) (h:boundO a b v=some m) :
  Calls Tryz.prog 92 #[va,vb,.int .i64 v] w (Ret w (.int .i64 m)):=by
 have hia:=zH (fun k W (hk:k<3) (hb:Below w.heap.size w W)=>image_any va a v (17+100*k) W (ha.on hb) ka hv hna (by omega));have hib:=zH (fun k W (hk:k<3) (hbb:Below w.heap.size w W)=>image_any vb b v (17+100*k) W (hb.on hbb) kb hv hnb (by omega));have hda:=zH (fun W (hb:Below w.heap.size w W)=>deg_any va a v W (ha.on hb) hv (by have:=ka.len;omega));have hdb:=zH (fun W (hbb:Below w.heap.size w W)=>deg_any vb b v W (hb.on hbb) hv (by have:=kb.len;omega));have hla:=zH (fun k l (h:imgO a v (17+100*k)=some l)=>imgO_len ka h);have hlb:=zH (fun k l (h:imgO b v (17+100*k)=some l)=>imgO_len kb h);have hst:Hid (boundGo a b v ([0,1,2].drop 0)=some m):=zH h;obtain⟨aa,ca,rfl,-⟩:=ha.shape;obtain⟨ab,cb,rfl,-⟩:=hb.shape;have hka:=(ka.deg v);have hkb:=(kb.deg v);clear ha hb ka kb hna hnb h
 go_enter Tryz.func92,Tryz.ntmps92
 go_wp2
 go_loopw [12] (fun i wr=>∃ k:Nat,k<=3/\i=.int .u64 k/\Hid (boundGo a b v ([0,1,2].drop k)=some m)/\Below w.heap.size w wr) (fun i _=>match i with|.int _ x=>3-x.toNat|_=>0)
 case atStart=>exact⟨0,by omega,by go_num,hst,Below.refl _ _⟩
 case round =>
  clear hst;obtain⟨k,hk,rfl,hB,hbr⟩:=hrel;by_cases hk3:k<3
  ·have hk3':(k:Int)<3:=by omega
   have hdr:([0,1,2]:List Nat).drop k=k::([0,1,2]:List Nat).drop (k+1):=by
    obtain rfl|rfl|rfl:k=0\/k=1\/k=2:=by omega
    all_goals rfl
   have hB2:=hB.out;rw [hdr] at hB2;have h1:=hia.out k wr hk3 hbr;have h2:=hib.out k;have hke:((17+100*k:Nat):Int)=17+100*(k:Int):=by omega
   rw [hke] at h1 h2;clear hke;have hc:=boundGo_cons hB2;have hla1:=hla.out k;have hlb1:=hlb.out k;clear hdr hB hB2;generalize imgO a v (17+100*k)=oa at *;generalize imgO b v (17+100*k)=ob at *;replace hc:=zH hc;replace h2:=zH h2;replace hla1:=zH hla1;replace hlb1:=zH hlb1
   go_upto_region 6 with (first
   |(go_at_call 118;refine (h2.out w3 hk3 (hbr.trans (hb3.mono hbr.size))).mono ?_;rintro en w4 ⟨v4,rfl,hv4,hb4⟩)
   |(go_at_call 118;refine h1.mono ?_;rintro en w3 ⟨v3,rfl,hv3,hb3⟩))
   have hb34:=hb3.trans (hb4.mono hb3.size);have hbr4:=hbr.trans (hb34.mono hbr.size);rcases hc.out with ⟨f1,f2,x,y,n,rfl,rfl,hs,rfl⟩|⟨hf,hrest⟩
   ·rw [f1,f2];have hx:=(hv3 x rfl).on hb4;have hy:=hv4 y rfl;have hsh:=shared_any v3 v4 x y n w4 hx hy (hla1.out x rfl) (hlb1.out y rfl) hs;replace hsh:=zH hsh;clear hv3 hv4 h1 h2 f1 f2 hx hy hs hc
    go_wp2_with (go_at_call 119;refine hsh.out.mono ?_;rintro en w5 ⟨rfl,hb5⟩)
    go_ret;exact⟨rfl,hbr4.trans (hb5.mono hbr4.size)⟩
   ·have hrest:=zH hrest;clear hv3 hv4 h1 h2 hc;cases f1:fineB oa
    ·clear hf f1;go_wp2;go_roundw
     case rel=>exact⟨k+1,by omega,by go_num,hrest,hbr4⟩
     case measure=>simp;omega
    ·cases f2:fineB ob
     ·clear hf f1 f2;go_wp2;go_roundw
      case rel=>exact⟨k+1,by omega,by go_num,hrest,hbr4⟩
      case measure=>simp;omega
     ·rw [f1,f2] at hf;rcases hf with hf|hf <;> cases hf
  ·obtain rfl:k=3:=by omega
   have hfin:Hid (m=min (degP a v) (degP b v)):=zH (Option.some.inj hB.out).symm;have h1:=hda.out wr hbr;have h2:=hdb.out;clear hda hdb hB;generalize degP a v=da at *;generalize degP b v=db at *
   go_wp2_with (first
   |(go_at_call 53;refine (h2 w3 (hbr.trans (hb3.mono hbr.size))).mono ?_;rintro en w4 ⟨rfl,hb4⟩)
   |(go_at_call 53;refine h1.mono ?_;rintro en w3 ⟨rfl,hb3⟩))
   go_ret;exact⟨by rw [hfin.out];rfl,(hbr.trans (hb3.mono hbr.size)).trans (hb4.mono (hbr.trans (hb3.mono hbr.size)).size)⟩
end Go.Proofs.YtopclbeomcggiaaGreat
end
section
namespace Q
open Go Go.RowKit Go.Proofs.YtopclbeomcggiaaGreat
theorem divW_fuel {b ts:List Trm} {g:Trm} (hb:Wp b) (hg:b=g::ts) {a:List Trm} {r:Option (List Trm)} (h:divW a b=some r):∃ k,DivR b g k a [] r:=by
 subst hg;exact divO_run hb rfl h (by simp [fuel])
theorem rat1 {c:Rat} (hc:c≠0) (h:Rk c):Rk (1 / c):=by
 have e:1 / c=c⁻¹:=by rw [Rat.div_def,Rat.one_mul]
 rw [e];refine⟨?_,?_⟩
 ·rw [Rat.den_inv,if_neg fun h=>hc (Rat.num_eq_zero.1 h)];exact h.2
 ·rw [Rat.num_inv,Int.natAbs_mul,Int.natAbs_natCast];refine Nat.le_trans (nbits_mono (n:=c.den) ?_) h.1;have:c.num.sign.natAbs<=1:=by rw [Int.natAbs_sign];split <;> omega
  exact Nat.le_trans (Nat.mul_le_mul_right _ this) (by omega)
theorem rk1:Rk (((1:Int)):Rat):=by
 refine⟨by decide +kernel,?_⟩;have:=nbits_le (n:=(((1:Int)):Rat).num.natAbs) (k:=1) (by decide +kernel);unfold CAP;omega
end Q
namespace Go.Proofs.YtopclbeomcggiaaGreat
open Go.RowKit Q Go.WideMaps Go.Maps
theorem one_any (w:World):Calls Tryz.prog 51 #[] w (RetPoly w oneP):=by
 go_enter Tryz.func51,Tryz.ntmps51
 go_wp2_with (first
 |(go_at_call 47;refine (rwhole_any 1 _ (by omega) (by omega)).mono ?_;rintro e w1 ⟨v1,rfl,h1,hb1⟩)
 |(go_at_call 89;refine (const_any _ _ _ h1).mono ?_;rintro e w2 ⟨v2,rfl,h2,hb2⟩))
 go_ret;exact⟨_,rfl,h2,hb1.trans (hb2.mono hb1.size)⟩
theorem divW_any (va vb:Value) (a b:List Trm) (r:Option (List Trm)) (w:World) (ha:IsPoly w va a) (hb:IsPoly w vb b) (kb:Wp b) (h:divW a b=some r):Calls Tryz.prog 93 #[va,vb] w (RetDivP w r):=by
 cases b with
|nil=>simp only [divW,Option.some.injEq] at h;subst h;exact div_nil va vb a w ha hb
|cons g b =>
  obtain⟨k,hk⟩:=divW_fuel kb rfl h;exact div_any va vb a b g k r w ha hb hk
theorem over_wp {a b q:List Trm} (h:overO a b=some q):Wp q:=by
 unfold overO at h
 cases hd:divW a b with
|none=>rw [hd] at h;cases h
|some r =>
  rw [hd] at h;obtain⟨rfl,hq⟩:=g1_some h;exact hq
theorem over_any (va vb:Value) (a b q:List Trm) (w:World) (ha:IsPoly w va a) (hb:IsPoly w vb b) (kb:Wp b) (h:overO a b=some q):Calls Tryz.prog 56 #[va,vb] w (RetPoly w q):=by
 unfold overO at h
 cases hd:divW a b with
|none=>rw [hd] at h;cases h
|some r =>
  rw [hd] at h;obtain⟨rfl,hq⟩:=g1_some h;have hc:=divW_any va vb a b r w ha hb kb hd;clear hq hd h;obtain⟨aa,ca,rfl,hca⟩:=ha.shape;obtain⟨ab,cb,rfl,hcb⟩:=hb.shape
  go_enter Tryz.func56,Tryz.ntmps56
  go_wp2_with (go_at_call 93;refine hc.mono ?_;rintro e w1 ⟨v1,rfl,h1,hb1⟩)
  go_ret;exact⟨_,rfl,h1,hb1⟩
theorem constant_any (va:Value) (a:List Trm) (w:World) (ha:IsPoly w va a):Calls Tryz.prog 50 #[va] w (Ret w (.bool (constB a))):=by
 match a,ha with
|[],ha =>
  obtain⟨aa,ca,rfl,hca⟩:=ha.shape
  go_enter Tryz.func50,Tryz.ntmps50
  go_wp2;go_ret;exact⟨rfl,Below.refl _ _⟩
|t::u::r,ha =>
  obtain⟨aa,ca,rfl,hca⟩:=ha.shape;have hne:(((t::u::r).length:Int) == 1)=false:=by simp;omega
  generalize (t::u::r).length=n at *;have hcs:constB (t::u::r)=false:=rfl;rw [hcs]
  go_enter Tryz.func50,Tryz.ntmps50
  go_wp2;go_ret;exact⟨rfl,Below.refl _ _⟩
|[t],ha =>
  obtain⟨aa,ca,rfl,hca⟩:=ha.shape;obtain⟨ba,oa,csa,rfl,-,hEa,hCa⟩:=ha.get (j:=0) (t:=t) rfl;obtain⟨ra,rfl,hra⟩:=hEa;change Cells monoT w ba (oa+0*8) _ at hCa;have hcs:constB [t]=decide (t.1=e0):=rfl;rw [hcs];obtain⟨e,c⟩:=t;simp only at *;have heq:=eq_ex e e0
  go_enter Tryz.func50,Tryz.ntmps50
  go_upto_region 1 with (fail)
  refine wp_region_S trivial (none) (0) (Okr.none) [.eq (.slice (some ⟨ba,oa,none⟩) 1 ca),.eq (.int .i64 1),.eq (.bool true),.eq (.bool true),.eq (.slice (some ⟨ba,oa,none⟩) 1 ca),.eq (.pointer (some ⟨ba,oa+0*8,none⟩)),.eq (.pointer (some ⟨ba,oa+0*8,none⟩)),.eq (.agg (exC e).toArray),.eq (.agg (exC e0).toArray),.eq (.bool (decide (e=e0))),.eq (.bool (decide (e=e0)))] [3,4,5,6,7,8,9,10,11,12,13] rfl rfl rfl rfl ⟨?_,?_,?_,?_,?_,?_,?_,?_,?_,?_,?_,trivial⟩ ?_
  ·exact fun _ _ a _ _ _=>xM rfl (a 0 rfl)
  ·intro A w1 hA hL hS he;have h3:=eT 3 (he.1 rfl);exact pZ rfl
  ·intro A w1 hA hL hS he;have h4:=eT 4 (he.1 rfl);have hc0:=eC A (.int .i64 1);exact pZ rfl
  ·exact fun _ _ _ _ _ e=>xM rfl (e.1 rfl)
  ·exact fun _ _ a _ _ e=>yM (e.1 rfl) rfl (a 0 rfl)
  ·exact fun _ _ _ _ _ e=>goOn_yes rfl rfl (e.2.1 rfl) (xI rfl Tryz.underlying27 ba oa 0 (by omega) (e.1 rfl) rfl)
  ·exact fun _ _ _ _ _ e=>goOn_yes rfl rfl (e.2.1 rfl) (xF0 rfl (e.1 rfl))
  ·exact fun A w1 hA hL hS he=>goOn_yes rfl rfl (he.2.1 rfl) (xL rfl (cells_ex (hCa.on hL.below)) Tryz.underlying36 (show (exC e).length=4 from rfl) (he.1 rfl))
  ·intro A w1 hA hL hS he;have h6:=eT 6 (he.1 rfl);refine goOn_yes rfl rfl h6 ?_;refine stepG_pure rfl rfl ?_;generalize A.eval=ev at *;go_simp
   rfl
  ·intro A w1 hA hL hS he;have h6:=eT 6 (he.2.2.1 rfl);have h10:=eT 10 (he.1 rfl);have h11:=eT 11 (he.2.1 rfl);refine goOn_yes rfl rfl h6 ?_;have hq:=heq w1;exact stepG_pure rfl rfl gZ
  ·intro A w1 hA hL hS he;have h6:=eT 6 (he.1 rfl);have h12:=eT 12 (he.2.1 rfl);have hc0:=eC A (.bool false);exact pZ rfl
  ·intro w2 hL2;simp only [TailL,FactL.eq,List.length_cons,List.length_nil,List.drop_succ_cons,List.drop_zero];go_frame;go_wp2;go_ret;exact⟨rfl,hL2.below⟩
theorem normal_nil (va:Value) (w:World) (ha:IsPoly w va []):Calls Tryz.prog 14 #[va] w (RetPoly w []):=by
 obtain⟨aa,ca,rfl,hca⟩:=ha.shape;simp only [List.length_nil]
 go_enter Tryz.func14,Tryz.ntmps14
 go_wp2;go_ret;exact⟨_,rfl,IsSl.nil _ _,Below.refl _ _⟩
theorem norm_wp {a g:List Trm} (h:normO a=some g):Wp g:=by
 cases a with
|nil=>simp only [normO,Option.some.injEq] at h;subst h;exact Wp.nil
|cons t r =>
  simp only [normO] at h;obtain⟨h1,h2⟩:=g1_some h;rw [h1];exact h2
theorem normal_any (va:Value) (a g:List Trm) (w:World) (ha:IsPoly w va a) (ka:Wp a) (h:normO a=some g):Calls Tryz.prog 14 #[va] w (RetPoly w g):=by
 match a,ha,ka,h with
|[],ha,ka,h =>
  simp only [normO,Option.some.injEq] at h;subst h;exact normal_nil va w ha
|t::r,ha,ka,h =>
  simp only [normO] at h;have hg:=g1_some h;obtain⟨rfl,hgw⟩:=hg;clear h hgw;have hz:=(ka.val.2 t (by simp)).1;have hkt:=ka.rk t (by simp);have hrk:=rat1 hz hkt;have hsc:=fun W v (hb:Below w.heap.size w W) (hv:IsRat W v (((1:Int):Rat) / t.2))=>scale_any va v (t::r) (((1:Int):Rat) / t.2) W (ha.on hb) hv hrk ka.rk (by have:=ka.len;omega);have h1c:(1:Rat)=(((1:Int)):Rat):=rfl;rw [h1c];obtain⟨aa,ca,rfl,hca⟩:=ha.shape;obtain⟨ba,oa,csa,rfl,-,hEa,hCa⟩:=ha.get (j:=0) (t:=t) rfl;obtain⟨ra,rfl,hra⟩:=hEa;change Cells monoT w ba (oa+0*8) _ at hCa;have hla:=hra.len;simp only [List.length_cons] at hsc ⊢;replace hsc:=zH hsc;clear ha ka hca h1c;have hne:(((r.length+1:Nat):Int) == 0)=false:=by simp;omega
  have hp0:0<r.length+1:=by omega
  generalize r.length+1=N at *
  go_enter Tryz.func14,Tryz.ntmps14
  go_upto_region 3 with (fail)
  obtain⟨N3,A3,K3,C3,N4,A4,K4,C4,rfl,-,-⟩:=id hra
  have hx:∀ W,Below w.heap.size w W->W.cell? ⟨ba,oa+4,none⟩=some (.bool N3)/\W.cell? ⟨ba,oa+4+1,none⟩=some (.slice A3 K3 C3)/\W.cell? ⟨ba,oa+4+2,none⟩=some (.bool N4)/\W.cell? ⟨ba,oa+4+3,none⟩=some (.slice A4 K4 C4):=fun W hb=>by
   have hC:=hCa.on hb;refine⟨?_,?_,?_,?_⟩
   ·have:=hC.cell 4 (by simp [exC]);simpa [exC] using this
   ·have:=hC.cell 5 (by simp [exC]);simpa [exC,Nat.add_assoc] using this
   ·have:=hC.cell 6 (by simp [exC]);simpa [exC,Nat.add_assoc] using this
   ·have:=hC.cell 7 (by simp [exC]);simpa [exC,Nat.add_assoc] using this
  obtain⟨x1,x2,x3,x4⟩:=hx w (Below.refl _ _);have hlt:=hCa.lt;have hdiv:=zH (fun W v (hb:Below w.heap.size w W) (hv:IsRat W v (((1:Int)):Rat))=>rdiv_any _ _ _ _ W hv (hra.on hb).rat rk1 hkt hz);obtain⟨x5,x6,x7,x8⟩:=hx (w.drew.alloc (.cells #[.bool false,.slice none 0 0,.bool false,.slice none 0 0] 41)) ((bdn (Below.refl w.heap.size w) 1).alloc (Nat.le_refl _) _);replace hx:=zH hx;clear hCa
  go_cut [9,10,11,12,13,14,8,15,16,3,4] (fun _ _ _ _ _ _ _ _ _ v3 _ wc=>∃ bx n5 a5 k5 c5 n6 a6 k6 c6,v3=.pointer (some ⟨bx,0,none⟩)/\Hid (Blk wc bx 41 [.bool n5,.slice a5 k5 c5,.bool n6,.slice a6 k6 c6])/\Hid (IsRat wc (.agg #[.bool n5,.slice a5 k5 c5,.bool n6,.slice a6 k6 c6]) (((1:Int):Rat) / t.2))/\Below w.heap.size w wc)
  case first =>
   go_region_with (first
   |(go_at_call 47;refine (rwhole_any 1 _ (by omega) (by omega)).mono ?_;rintro en w1 ⟨v1,rfl,h1,hb1⟩;have hbw1:Below w.heap.size w w1:=Below.trans (by first|exact bdn (Below.refl _ _) _|exact (bdn (Below.refl _ _) _).alloc (Nat.le_refl _) _) (hb1.mono (by first|exact Nat.le_refl _|(simp;done)|(simp;omega)));obtain⟨y1,y2,y3,y4⟩:=hx.out w1 hbw1;obtain⟨y5,y6,y7,y8⟩:=hx.out (w1.alloc (.cells #[.bool false,.slice none 0 0,.bool false,.slice none 0 0] 41)) (hbw1.alloc hbw1.size _);try (have B1:Blk w1 w.heap.size 41 [.bool false,.slice none 0 0,.bool false,.slice none 0 0]:=(Blk.new w.drew 41 [.bool false,.slice none 0 0,.bool false,.slice none 0 0]).on hb1))
   |(go_at_call 46;(first|refine (hdiv.out _ _ hbw1 h1).mono ?_|refine (hdiv.out _ _ (hbw1.alloc hbw1.size _) (h1.on ((Below.refl _ _).alloc (Nat.le_refl _) _))).mono ?_);rintro en w5 ⟨v5,rfl,hv5,hb5⟩;obtain⟨N5,A5,K5,C5,N6,A6,K6,C6,rfl⟩:=rat_agg hv5;have hbw5:Below w.heap.size w w5:=Below.trans (by first|exact hbw1|exact hbw1.alloc hbw1.size _) (hb5.mono (by first|exact hbw1.size|(have:=hbw1.size;simp;omega)));(first|(have B5:=B1.on hb5;have z1:=B5.at1 0 _ rfl;have z2:=B5.at1 1 _ rfl;have z3:=B5.at1 2 _ rfl;have z4:=B5.at1 3 _ rfl;have g1:=B5.frozen 0;have g2:=B5.frozen 1;have g3:=B5.frozen 2;have g4:=B5.frozen 3)|(have B5:Blk w5 w1.heap.size 41 [.bool false,.slice none 0 0,.bool false,.slice none 0 0]:=(Blk.new w1 41 [.bool false,.slice none 0 0,.bool false,.slice none 0 0]).on hb5;have z1:=B5.at1 0 _ rfl;have z2:=B5.at1 1 _ rfl;have z3:=B5.at1 2 _ rfl;have z4:=B5.at1 3 _ rfl;have g1:=B5.frozen 0;have g2:=B5.frozen 1;have g3:=B5.frozen 2;have g4:=B5.frozen 3)|skip);have B6:=Blk.new w5 41 [.bool false,.slice none 0 0,.bool false,.slice none 0 0];have p1:=B6.at1 0 _ rfl;have p2:=B6.at1 1 _ rfl;have p3:=B6.at1 2 _ rfl;have p4:=B6.at1 3 _ rfl;have q1:=B6.frozen 0;have q2:=B6.frozen 1;have q3:=B6.frozen 2;have q4:=B6.frozen 3))
   all_goals first
   |(obtain⟨R5,gr5⟩:=setCells_blk [.bool N5,.slice A5 K5 C5,.bool N6,.slice A6 K6 C6] 0 w5 _ B5 (by simp);have hl5:Lr (some _) 41 w5 _:=⟨gr5,fun k hk=>by cases hk;exact⟨B5.noOther,R5.noOther⟩⟩;have hr5:=hv5.lr hl5 (by decide);have hbw6:=hbw5.trans (hl5.belowAt hbw5.size (fun k hk=>by cases hk;first|exact Nat.le_refl _|exact hbw1.size));clear hb5 hb1;go_wp2;go_meet;case rel=>exact⟨_,_,_,_,_,_,_,_,_,rfl,zH R5,zH hr5,hbw6⟩)
   |(have R5:=Blk.new w5 41 [.bool N5,.slice A5 K5 C5,.bool N6,.slice A6 K6 C6];have hr5:=hv5.on ((Below.refl _ _).alloc (Nat.le_refl _) (.cells #[.bool N5,.slice A5 K5 C5,.bool N6,.slice A6 K6 C6] 41));have hbw6:=hbw5.alloc hbw5.size (.cells #[.bool N5,.slice A5 K5 C5,.bool N6,.slice A6 K6 C6] 41);clear hb5 hb1;go_wp2;go_meet;case rel=>exact⟨_,_,_,_,_,_,_,_,_,rfl,zH R5,zH hr5,hbw6⟩)
  case rest =>
   obtain⟨bx,n5,a5,k5,c5,n6,a6,k6,c6,rfl,hB,hr,hbw⟩:=hcut;have y1:=hB.out.at1 0 _ rfl;have y2:=hB.out.at1 1 _ rfl;have y3:=hB.out.at1 2 _ rfl;have y4:=hB.out.at1 3 _ rfl;have hcl:=hsc.out _ _ hbw hr.out;clear x1 x2 x3 x4 x5 x6 x7 x8
   go_wp2_with (go_at_call 48;refine hcl.mono ?_;rintro e w4 ⟨v4,rfl,h4,hb4⟩)
   go_ret;exact⟨_,rfl,h4,hbw.trans (hb4.mono hbw.size)⟩
end Go.Proofs.YtopclbeomcggiaaGreat
end
section
namespace Q
open Go Go.Proofs.YtopclbeomcggiaaGreat
def evl (x:Pt) (v:Nat) (L:List (List Trm)):Rat:=rsum (fun i=>ev x (L.getD i [])*x.get v ^ i) L.length
theorem rsum_mul (c:Rat) (f:Nat->Rat):∀ n,rsum (fun i=>c*f i) n=c*rsum f n
|0=>by simp [rsum]
|n+1=>by simp only [rsum,rsum_mul c f n];grind
theorem rsum_shift (a:Nat) (g:Nat->Rat):∀ n,rsum (fun i=>if a<=i then g (i-a) else 0) (a+n)=rsum g n
|0=>by
  have:∀ k,k<=a->rsum (fun i=>if a<=i then g (i-a) else 0) k=0:=by
   intro k
   induction k with
  |zero=>intro _;rfl
  |succ k ih=>intro h;simp only [rsum];rw [ih (by omega),if_neg (by omega)];grind
  rw [Nat.add_zero,this a (Nat.le_refl _)];rfl
|n+1=>by
  rw [<- Nat.add_assoc];simp only [rsum];rw [rsum_shift a g n,if_pos (by omega),Nat.add_sub_cancel_left]
def VldA (L:List (List Trm)):Prop:=∀ c∈L,Vld c
theorem VldA.get {L:List (List Trm)} (h:VldA L) (i:Nat):Vld (L.getD i []):=by
 rw [List.getD_eq_getElem?_getD]
 cases hi:L[i]? with
|none=>exact Vld.nil
|some c=>exact h c (List.mem_of_getElem? hi)
theorem psStep_get {D R:List (List Trm)} {i:Nat} (h:i<R.length-1):(psStep D R).getD i []=if R.length-1-(D.length-1)<=i then subP (mulP (R.getD i []) (D.getD (D.length-1) [])) (mulP (R.getD (R.length-1) []) (D.getD (i-(R.length-1-(D.length-1))) [])) else mulP (R.getD i []) (D.getD (D.length-1) []):=by
 rw [List.getD_eq_getElem?_getD];simp [psStep,h]
theorem psStep_vld (D R:List (List Trm)):VldA (psStep D R):=fun c hc=>by
 simp only [psStep,List.mem_map] at hc;obtain⟨i,-,rfl⟩:=hc;split
 ·exact Vld.sub _ _
 ·exact Vld.mul _ _
theorem evl_step (x:Pt) (v:Nat) {D R:List (List Trm)} (hD:VldA D) (hR:VldA R) (h1:1<=D.length) (h2:D.length-1<R.length) :
  evl x v (psStep D R)=ev x (D.getD (D.length-1) [])*evl x v R-ev x (R.getD (R.length-1) [])*x.get v ^ (R.length-1-(D.length-1))*evl x v D:=by
 obtain⟨n,hn⟩:∃ n,D.length=n+1:=⟨D.length - 1,by omega⟩;obtain⟨a,ha⟩:∃ a,R.length=a+n+1:=⟨R.length - 1 - n,by omega⟩;have e1:R.length - 1=a+n:=by omega
 have e2:D.length-1=n:=by omega
 have e3:a+n-n=a:=by omega
 unfold evl;rw [psStep_len,e1,e2,e3]
 have hs:rsum (fun i=>ev x ((psStep D R).getD i [])*x.get v ^ i) (a+n)=rsum (fun i=>ev x (D.getD n [])*(ev x (R.getD i [])*x.get v ^ i)+(if a<=i then (fun j=>(-(ev x (R.getD (a+n) [])*x.get v ^ a))*(ev x (D.getD j [])*x.get v ^ j)) (i-a) else 0)) (a+n):=by
  refine rsum_congr fun i hi=>?_;rw [psStep_get (by omega),e1,e2,e3];by_cases hia:a<=i
  ·rw [if_pos hia,if_pos hia,ev_sub x (Vld.mul _ _).nat (Vld.mul _ _),ev_mul x (hR.get _).nat (hD.get _).nat,ev_mul x (hR.get _).nat (hD.get _).nat];have:x.get v ^ i=x.get v ^ a*x.get v ^ (i-a):=by rw [<- rpow_add];congr 1;omega
   simp only;rw [this];grind
  ·rw [if_neg hia,if_neg hia,ev_mul x (hR.get _).nat (hD.get _).nat];grind
 have hsh:=rsum_shift a (fun j=>(-(ev x (R.getD (a+n) [])*x.get v ^ a))*(ev x (D.getD j [])*x.get v ^ j)) n;rw [hs,rsum_add,hsh,rsum_mul,rsum_mul,ha,hn];simp only [rsum];rw [rpow_add];grind
def psQuo (v:Nat) (D:List (List Trm)):Nat->List (List Trm)->List Trm
|0,_=>[]
|f+1,R=>if D.length-1<R.length then addP (mulP (mulP (R.getD (R.length-1) []) (powP (varP v) (R.length-1-(D.length-1)))) (powP (D.getD (D.length-1) []) (R.length-1-(D.length-1)))) (psQuo v D f (psStep D R)) else []
theorem psQuo_vld (v:Nat) (D:List (List Trm)):∀ f R,Vld (psQuo v D f R)
|0,_=>Vld.nil
|f+1,R=>by unfold psQuo;split;exact Vld.add _ _;exact Vld.nil
theorem psRun_vld (D:List (List Trm)):∀ f R,VldA R->VldA (psRun D f R)
|0,_,h=>h
|f+1,R,h=>by unfold psRun;split;exact psRun_vld D f _ (psStep_vld D R);exact h
theorem evl_run (x:Pt) (v:Nat) {D:List (List Trm)} (hD:VldA D) (h1:1<=D.length):∀ f R,VldA R->R.length<=D.length-1+f ->
  ev x (D.getD (D.length-1) []) ^ (R.length-(D.length-1))*evl x v R-evl x v (psRun D f R)=ev x (psQuo v D f R)*evl x v D
|0,R,_,h=>by
  have:R.length-(D.length-1)=0:=by omega
  simp only [psRun,psQuo];rw [this,Rat.pow_zero,ev_nil];grind
|f+1,R,hR,h=>by
  unfold psRun psQuo;by_cases hlt:D.length-1<R.length
  ·rw [if_pos hlt,if_pos hlt];have ih:=evl_run x v hD h1 f (psStep D R) (psStep_vld D R) (by rw [psStep_len];omega);have hs:=evl_step x v hD hR h1 hlt;rw [psStep_len] at ih;have e1:R.length-(D.length-1)=(R.length-1-(D.length-1))+1:=by omega
   rw [ev_add x (Vld.mul _ _).nat (psQuo_vld v D f _).nat,ev_mul x (Vld.mul _ _).nat (Vld.pow _ _).nat,ev_mul x (hR.get _).nat (Vld.pow _ _).nat,ev_pow x (hD.get _).nat,ev_pow x (Vld.var v).nat,ev_var,e1,Rat.pow_succ];grind
  ·rw [if_neg hlt,if_neg hlt];have:R.length-(D.length-1)=0:=by omega
   rw [this,Rat.pow_zero,ev_nil];grind
end Q
end
