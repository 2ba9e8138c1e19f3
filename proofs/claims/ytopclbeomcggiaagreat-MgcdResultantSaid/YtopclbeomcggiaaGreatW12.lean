/- The integer package of the program: leading zeros, shifts. -/
import Derived.Test.YtopclbeomcggiaaGreatW10
import Derived.Test.YtopclbeomcggiaaGreatW11
set_option linter.unusedVariables false
set_option linter.unusedSimpArgs false
set_option maxHeartbeats 16000000
set_option maxRecDepth 100000
namespace Q
theorem Aj {x:Nat} (h0:0<x) (h:x<4294967296):1<=Go.Lib.bitLen x/\Go.Lib.bitLen x<=32/\x<2 ^ Go.Lib.bitLen x:=by
 have key:∀ f x:Nat,x<2 ^ f->Go.Lib.bitLenAux f x<=f/\x<2 ^ Go.Lib.bitLenAux f x/\(0<x->1<=Go.Lib.bitLenAux f x):=by
  intro f
  induction f with
  | zero=>intro x h;simp only [Go.Lib.bitLenAux];exact⟨Nat.le_refl _,by simpa using h,fun h'=>by simp at h;omega⟩
  | succ f ih =>
   intro x h;rw [Go.Lib.bitLenAux];split
   ·rename_i hz;exact⟨by omega,by rw [hz];decide,fun h'=>by omega⟩
   ·obtain⟨h1,h2,_⟩:=ih (x / 2) (by rw [Nat.pow_succ] at h;omega);refine⟨by omega,?_,fun _=>by omega⟩;rw [Nat.pow_add];omega
 have e:Go.Lib.bitLen x=Go.Lib.bitLenAux 32 x:=Go.Lib.bitLenAux_fuel 32 x h 64 (by omega);obtain⟨h1,h2,h3⟩:=key 32 x h;rw [e];exact⟨h3 h0,h1,h2⟩
end Q
namespace Go.Proofs.YtopclbeomcggiaaGreat
open Go.RowKit Q
theorem Pb (x:Int) (w:World) (h1:1<=x) (h2:x<4294967296) :
  Calls Tryz.prog 171 #[.int .u32 x] w fun e w'=>e=.returned (.int .i64 (32-(Go.Lib.bitLen x.toNat:Nat)))/\w'=w:=by
 have hb:=Any.bits_Len32 { Gw with } x w (by omega) (by omega);change Calls Tryz.prog 153 _ _ _ at hb;have hl:=Aj (x:=x.toNat) (by omega) (by omega);obtain⟨b,hb2⟩:∃ b,b=Go.Lib.bitLen x.toNat:=⟨_,rfl⟩;rw [<- hb2] at hl hb ⊢;replace hb2:=zH hb2
 go_enter Tryz.func171,Tryz.ntmps171
 go_wp2_with (go_at_call 153;refine hb.mono ?_;rintro e w' ⟨rfl,rfl⟩)
 go_ret;exact⟨rfl,rfl⟩
theorem Pd {P x y:Int} {k:Nat} (hP:P=((2 ^ k:Nat):Int)) (hy0:0<=y) (hy:y<P) (hx0:0<=x) (hx:x<4294967296) (hs:y+x<4294967296) (hd:P∣x):bits .or .u32 y x=y+x:=by
 have e:bits .or .u32 y x=IntKind.u32.wrap (((BitVec.ofInt 32 y) ||| (BitVec.ofInt 32 x)).toNat:Int):=rfl;obtain⟨r,rfl⟩:=Int.eq_ofNat_of_zero_le hy0;obtain⟨z,rfl⟩:=Int.eq_ofNat_of_zero_le hx0;subst hP;obtain⟨c,rfl⟩:=Int.ofNat_dvd.1 hd;rw [e,BitVec.ofInt_natCast,BitVec.ofInt_natCast,BitVec.toNat_or,BitVec.toNat_ofNat,BitVec.toNat_ofNat,Nat.mod_eq_of_lt (by omega),Nat.mod_eq_of_lt (by omega)]
 have:r ||| 2 ^ k*c=r+2 ^ k*c:=by
  have:=Nat.two_pow_add_eq_or_of_lt (i:=k) (b:=r) (by omega) c;rw [Nat.or_comm,<- this,Nat.add_comm]
 rw [this,IntKind.wrap_u32];omega
def V3 (w:World) (p:List Int->Prop) (e:Ending) (w':World):Prop:=∃ g l,e=.returned (.slice (some ⟨g,0,none⟩) l.length l.length)/\w.heap.size<=g/\Blk w' g uT (uc l)/\aH l/\p l/\Below w.heap.size w w'
theorem Jv (ao:Option Addr) (cap:Nat) (A:List Int) (k:Nat) (w:World) (bA:A.length<=17179869184) (LA:aH A) (mA:At uT w ao (uc A)) (hk:k<32) :
  Calls Tryz.prog 172 #[.slice ao A.length cap,.int .i64 k] w (V3 w fun l=>l.length=A.length+1/\ah l=ah A*((2 ^ k:Nat):Int)):=by
 obtain⟨P,hP⟩:∃ P:Int,P=((2 ^ k:Nat):Int):=⟨_,rfl⟩;obtain⟨R,hR⟩:∃ R:Int,R=((2 ^ (32 - k):Nat):Int):=⟨_,rfl⟩;have hP0:0<P:=by rw [hP];exact Int.ofNat_lt.2 (Nat.pow_pos (by decide))
 have hR0:0<R:=by rw [hR];exact Int.ofNat_lt.2 (Nat.pow_pos (by decide))
 have hPR:P*R=4294967296:=by
  rw [hP,hR,<- Int.natCast_mul,<- Nat.pow_add,show k+(32-k)=32 by omega];rfl
 rw [<- hP];replace hP:=zH hP;replace hR:=zH hR
 go_enter Tryz.func172,Tryz.ntmps172
 go_wp2_with (at_make;refine bQ rfl _ _ _ rfl _ (.int .u32 0) 1 4 Tryz.underlying37 bM rfl rfl .i64 .i64 _ _ (A.length+1) rfl rfl (by omega) (by omega) (by omega) (by omega) ?_;intro w1 own1 gr1)
 rw [iZ] at own1
 go_loopw [15] (fun i wr=>∃ (j:Nat) (xs:List Int),j<=A.length/\i=.int .i64 j/\Hid (vL A P j xs)/\Hid (Blk wr w.heap.size uT (uc xs))/\Below w.heap.size w wr) (fun i _=>A.length-(intOf i).toNat)
 case atStart=>exact⟨0,_,Nat.zero_le _,rfl,zH (vL.start A hP0),zH own1,gr1⟩
 case round =>
  obtain⟨i,xs,hi,rfl,hinv,hblk,hb⟩:=hrel;by_cases hlt:i<A.length
  ·obtain⟨p1,o1,e1,hcA⟩:=mA (by rw [eQ];omega);have hc:=(hcA.keep hb hcA.lt).ucell i hlt;have E1:=zH e1;have a1:=(LA.getD i).1;have a1':A.getD i 0<4294967296:=(LA.getD i).2;have hst:=hinv.out.step LA hlt hP0 hR0 hPR;have hyP:=hinv.out.2.2.2.2;have hcoz:=hblk.out.ucell i (by have:=hinv.out.1;omega);generalize A.getD i 0=x at *;generalize xs.getD i 0=z at *;obtain⟨s1,s2,s3,s4,s5,s6,s7,s8,s9⟩:=hst;have hco2:=hblk.out.ucell (i+1) (by have:=hinv.out.1;omega)
   have hw:IntKind.u64.wrap (x*2 ^ k)=x*P:=by
    have e:(2:Int) ^ k=P:=by rw [hP.out];simp
    rw [e,IntKind.wrap_u64];exact Int.emod_eq_of_lt s1 s2
   have hor:=Pd hP.out s4 hyP (Int.emod_nonneg _ (by omega)) (Int.emod_lt_of_pos _ (by omega)) s3 s5
   have hhi:x*P / 4294967296 % 4294967296=x*P / 4294967296:=Int.emod_eq_of_lt s8 (by
    apply Int.ediv_lt_of_lt_mul (by omega);omega)
   have hfo:=hblk.out.frozen i;have hfo2:=hblk.out.frozen (i+1);have HN:=zH s9;have HD:=zH s5;have H6:=zH s6;have HB:=zH hblk;clear s9 s5 s6 e1 hcA;replace hw:=zH hw;replace hor:=zH hor;replace hhi:=zH hhi
   go_wp2_with (refine aj rfl (.tmp 13) (.tmp 15) _ rfl _ Tryz.underlying37 _ _ _ bM _ _ _ rfl _ _ rfl i (by omega) hlt p1 o1 E1.out ?_;rw [Nat.mul_one])
   rw [hw.out,hor.out,hhi.out];go_roundw
   case rel=>exact⟨i+1,_,by omega,by go_num,HN,zH ((hblk.out.uset i _).uset (i+1) _),(hb.setCell (Nat.le_refl _) _).setCell (Nat.le_refl _) _⟩
   case measure=>simp [intOf];omega
  ·obtain rfl:i=A.length:=by omega
   go_wp2;go_ret;exact⟨w.heap.size,xs,by rw [hinv.out.1];rfl,Nat.le_refl _,hblk.out,hinv.out.2.1,⟨hinv.out.1,hinv.out.done⟩,hb⟩
theorem Dz (v:Value) (l:List Int) (k:Nat) (w:World) (h:dH w v l) (b:l.length<=17179869184) (hk:k<32) :
  Calls Tryz.prog 172 #[v,.int .i64 k] w (V3 w fun r=>r.length=l.length+1/\ah r=ah l*((2 ^ k:Nat):Int)):=by
 obtain⟨ao,cap,rfl,_,L,m⟩:=h;exact Jv ao cap l k w b L m hk
end Go.Proofs.YtopclbeomcggiaaGreat
