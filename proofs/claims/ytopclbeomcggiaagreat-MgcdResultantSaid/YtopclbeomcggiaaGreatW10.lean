/- The integer package of the program: division by one limb, copies. -/
import Derived.Test.YtopclbeomcggiaaGreatW09
set_option linter.unusedVariables false
set_option linter.unusedSimpArgs false
set_option maxHeartbeats 16000000
set_option maxRecDepth 100000
section
namespace Go.Proofs.YtopclbeomcggiaaGreat
open Go.RowKit Q
theorem zC (R x:Int) (h0:0<=R) (h1:R<4294967296) (hx0:0<=x) (hx1:x<4294967296):bits .or .u64 (R*4294967296) x=R*4294967296+x:=by
 have e:bits .or .u64 (R*4294967296) x=IntKind.u64.wrap (((BitVec.ofInt 64 (R*4294967296)) ||| (BitVec.ofInt 64 x)).toNat:Int):=rfl;obtain⟨r,rfl⟩:=Int.eq_ofNat_of_zero_le h0;obtain⟨y,rfl⟩:=Int.eq_ofNat_of_zero_le hx0;rw [e,IntKind.wrap_u64,show ((r:Int)*4294967296)=((r*4294967296:Nat):Int) by simp,BitVec.ofInt_natCast,BitVec.ofInt_natCast];rw [BitVec.toNat_or,BitVec.toNat_ofNat,BitVec.toNat_ofNat,Nat.mod_eq_of_lt (by omega),Nat.mod_eq_of_lt (by omega)]
 have:r*4294967296 ||| y=r*4294967296+y:=by
  have:=Nat.two_pow_add_eq_or_of_lt (i:=32) (b:=y) (by omega) r;rw [show 2 ^ 32*r=r*4294967296 by omega] at this;exact this.symm
 rw [this];omega
def jO (A:List Int) (d:Int) (k:Nat) (xs:List Int) (r:Int):Prop :=
 xs.length=A.length/\aH xs/\0<=r/\r<d/\ah (A.drop k)=ah (xs.drop k)*d+r
theorem xB (l:List Int) (k:Nat) (h:k<l.length):ah (l.drop k)=l.getD k 0+bL*ah (l.drop (k+1)):=by
 rw [List.drop_eq_getElem_cons h,List.getD_eq_getElem?_getD,List.getElem?_eq_getElem h];rfl
theorem jO.start (A:List Int) (d:Int) (hd:0<d):jO A d A.length (List.replicate A.length 0) 0 :=
 ⟨by simp,jM _,by omega,hd,by simp [ah]⟩
theorem jO.step {A:List Int} {d:Int} {k:Nat} {xs:List Int} {r:Int} (h:jO A d (k+1) xs r) (LA:aH A) (hd:d<4294967296) (hk:k<A.length) :
  jO A d k (xs.set k ((r*4294967296+A.getD k 0) / d)) ((r*4294967296+A.getD k 0) % d)/\(r*4294967296+A.getD k 0) / d<4294967296/\0<=(r*4294967296+A.getD k 0) / d:=by
 obtain⟨h1,h2,h3,h4,h5⟩:=h;have a1:=LA.getD k;rw [aT] at a1;have hq0:0<=(r*4294967296+A.getD k 0) / d:=Int.ediv_nonneg (by omega) (by omega)
 have lY:(r*4294967296+A.getD k 0) / d<4294967296:=by
  apply Int.ediv_lt_of_lt_mul (by omega);have:(r+1)*4294967296<=d*4294967296:=Int.mul_le_mul_of_nonneg_right (by omega) (by omega);omega
 refine⟨⟨by simpa using h1,fJ h2 _ (by rw [aT];exact⟨hq0,lY⟩),Int.emod_nonneg _ (by omega),Int.emod_lt_of_pos _ (by omega),?_⟩,lY,hq0⟩;rw [xB A k hk,xB _ k (by simp;omega),oW _ _ _ (by omega),List.drop_set_of_lt (by omega),h5];have e:=Int.mul_ediv_add_emod (r*4294967296+A.getD k 0) d;generalize (r*4294967296+A.getD k 0) / d=q at *;generalize (r*4294967296+A.getD k 0) % d=s at *;rw [aT];grind
theorem jO.done {A:List Int} {d:Int} {xs:List Int} {r:Int} (h:jO A d 0 xs r):ah A=ah xs*d+r:=by
 have:=h.2.2.2.2;simpa using this
def vM (w:World) (n d:Int) (len:Nat) (e:Ending) (w':World):Prop:=∃ v l r,e=.returned (.tuple #[v,.int .u32 r])/\dH w' v l/\l.length=len/\n=ah l*d+r/\0<=r/\r<d/\Below w.heap.size w w'
theorem Jt (ao:Option Addr) (cap:Nat) (A:List Int) (d:Int) (w:World) (bA:A.length<=68719476736) (LA:aH A) (mA:At uT w ao (uc A)) (d0:1<=d) (d1:d<4294967296) :
  Calls Tryz.prog 160 #[.slice ao A.length cap,.int .u32 d] w (vM w (ah A) d A.length):=by
 go_enter Tryz.func160,Tryz.ntmps160
 go_wp2_with (at_make;refine bQ rfl _ _ _ rfl _ (.int .u32 0) 1 4 Tryz.underlying37 bM rfl rfl .i64 .i64 _ _ A.length rfl rfl (by omega) (by omega) (by omega) (by omega) ?_;intro w1 own1 gr1)
 rw [iZ] at own1
 go_loopw [7,8] (fun r i wr=>∃ (k:Nat) (xs:List Int) (q:Int),k<=A.length/\i=.int .i64 ((k:Int)-1)/\r=.int .u64 q/\Hid (jO A d k xs q)/\Hid (Blk wr w.heap.size uT (uc xs))/\Below w.heap.size w wr) (fun _ i _=>(intOf i+1).toNat)
 case atStart=>exact⟨A.length,_,0,Nat.le_refl _,rfl,rfl,zH (jO.start A d (by omega)),zH own1,gr1⟩
 case round =>
  obtain⟨k,xs,q,hk,rfl,rfl,hinv,hblk,hb⟩:=hrel;by_cases h0:1<=k
  ·obtain⟨i,rfl⟩:∃ i,k=i+1:=⟨k - 1,by omega⟩;obtain⟨p1,o1,e1,hcA⟩:=mA (by rw [eQ];omega);have hc:=(hcA.keep hb hcA.lt).ucell i (by omega);have E1:=zH e1;have q0:=hinv.out.2.2.1;have q1:q<4294967296:=by have:=hinv.out.2.2.2.1;omega
   have hxi:i<xs.length:=by have:=hinv.out.1;omega
   have hco:=hblk.out.ucell i hxi;have hfo:=hblk.out.frozen i;have a1:=(LA.getD i).1;have a1':A.getD i 0<4294967296:=(LA.getD i).2;obtain⟨hst,s1,s0⟩:=hinv.out.step LA d1 (by omega);have hor:=zC q (A.getD i 0) q0 q1 a1 a1';have HX:=zH hxi;clear e1 hcA hxi;generalize A.getD i 0=x at *;generalize xs.getD i 0=z at *;have HST:=zH hst;clear hst;have hlt:i<A.length:=by omega
   have hwf:0<=q*4294967296+x:=by omega
   go_wp2_with (refine aj rfl (.tmp 21) (.tmp 22) _ rfl _ Tryz.underlying37 _ _ _ bM _ _ _ rfl _ _ rfl i (by omega) hlt p1 o1 E1.out ?_;rw [Nat.mul_one])
   go_roundw
   case rel=>exact⟨i,_,_,by omega,by go_num,rfl,HST,zH (hblk.out.uset i _),hb.setCell (Nat.le_refl _) _⟩
   case measure=>simp [intOf]
  ·obtain rfl:k=0:=by omega
   have q0:=hinv.out.2.2.1;have q1:q<4294967296:=by have:=hinv.out.2.2.2.1;omega
   go_wp2;go_ret2;have hu:=hblk.out.u32s hinv.out.2.1;rw [hinv.out.1] at hu;exact⟨_,xs,q,rfl,hu,hinv.out.1,hinv.out.done,q0,hinv.out.2.2.2.1,hb⟩
theorem Nj (v:Value) (l:List Int) (d:Int) (w:World) (h:dH w v l) (b:l.length<=68719476736) (d0:1<=d) (d1:d<4294967296) :
  Calls Tryz.prog 160 #[v,.int .u32 d] w (vM w (ah l) d l.length):=by
 obtain⟨ao,cap,rfl,_,L,m⟩:=h;exact Jt ao cap l d w b L m d0 d1
theorem O8 {w:World} {base:Nat} {v:Value} {l:List Int} (h:w.ownsRow base uT 1 v l.length (uc l)) (hl:aH l):dH w v l:=by
 rcases h.2 with ⟨rfl,h0⟩|⟨g,cap,cur,rfl,hb,hg,hnc,hcm,hcs,htake⟩
 ·obtain rfl:l=[]:=List.eq_nil_of_length_eq_zero h0;exact dH.nil
 ·refine⟨_,cap,rfl,hnc,hl,fun _=>⟨g,0,rfl,cur,(0,0),hg,fun j hj=>?_⟩⟩;rw [<- htake,List.getElem?_take,if_pos (by rw [eQ] at hj;omega)];simp
theorem Ju (v:Value) (l:List Int) (w:World) (h:dH w v l) (b:l.length<=17179869184) :
  Calls Tryz.prog 159 #[v] w (Jp w fun l'=>l'=l):=by
 obtain⟨ao,cap,rfl,_,L,m⟩:=h;have hn:=fun (w:World) (n c:Nat)=>Lib.run_eql_slice_nil (P:=Tryz.prog) w 37 104 ao n c 0 0 Tryz.underlying37;obtain⟨i0,hi,hz0,hz1,hz2⟩:=info_parts bM
 cases ao with
 | none =>
  have hl:l=[]:=by
   cases l with
   | nil=>rfl
   | cons x l=>obtain⟨_,_,h,_⟩:=m (by simp [uc]);cases h
  subst hl
  go_enter Tryz.func159,Tryz.ntmps159
  go_wp2;go_ret;exact⟨_,[],rfl,dH.nil,rfl,Below.refl _ _⟩
 | some ad =>
  have hc:∀ (w':World),Below w.heap.size w w'->∀ j u,(uc l)[j]?=some u->w'.cell? (ad.add j)=some u:=by
   intro w' hb j u hj;have hjl:j<(uc l).length:=(List.getElem?_eq_some_iff.1 hj).1;obtain⟨b,off,e,hc⟩:=m (by omega);cases e;have:=(hc.on hb).cell j hjl;rw [hj] at this;rw [Addr.add_mid];exact this
  go_enter Tryz.func159,Tryz.ntmps159
  go_wp2_with (at_builtin;refine wpList_append_own _ rfl _ _ 37 rfl w.heap.size 104 i0 (.int .u32 0) 1 4 Tryz.underlying37 hi hz0 hz1 hz2 rfl (by decide) _ 0 [] rfl ?c0 ad l.length cap (uc l) rfl (by simp [eQ]) (hc _ ?c1) (OU _) (by unfold maxLen;omega) (by omega) ?c2 ?_)
  case c0=>exact World.ownsRow_lit (size:=1) w #[] 0 (Nat.le_refl _) (Nat.zero_le _) rfl
  case c1=>exact (Below.refl _ _).alloc (Nat.le_refl _) _
  case c2=>simp
  ·intro v' w1 own gr _;have hb:Below w.heap.size w w1:=((Below.refl _ _).alloc (Nat.le_refl _) _).grown gr (by simp) (fun k hk=>by cases hk;exact Nat.le_refl _);go_wp2;go_ret;exact⟨_,l,rfl,O8 own L,rfl,hb⟩
end Go.Proofs.YtopclbeomcggiaaGreat
end
section
namespace Q
def pr:Nat:=2147483647
theorem lL:pr=2147483647:=rfl
def Ai:Nat->Nat->Nat->Nat->Nat
 | 0,out,_,_=>out
 | f+1,out,a,n=>if n=0 then out else Ai f (if n % 2=1 then out*a % pr else out) (a*a % pr) (n / 2)
def lC (a n:Nat):Nat:=Ai 64 1 a n
theorem Nk:∀ (f out a:Nat),Ai f out a 0=out
 | 0,_,_=>rfl
 | f+1,out,a=>by rw [Ai,if_pos rfl]
theorem Lb:∀ (f:Nat) {out:Nat} (a n:Nat),out<pr->Ai f out a n<pr
 | 0,_,_,_,h=>h
 | f+1,out,a,n,h=>by
  rw [Ai];split
  ·exact h
  ·refine Lb f _ _ ?_;split
   ·exact Nat.mod_lt _ (by decide)
   ·exact h
theorem EM (a n:Nat):lC a n<pr:=Lb 64 a n (by decide)
end Q
namespace Go.Proofs.YtopclbeomcggiaaGreat
open Go.RowKit Q
theorem kG {x:Int} (h1:-9223372036854775808<=x) (h2:x<=9223372036854775807):IntKind.i64.wrap x=x:=by
 have:=IntKind.wrap_i64 x;omega
theorem Sd (n:Nat) (h:n<9223372036854775808):bits .and .i64 (n:Int) 1=((n % 2:Nat):Int):=by
 have e:bits .and .i64 (n:Int) 1=IntKind.i64.wrap (((BitVec.ofInt 64 (n:Int)) &&& (BitVec.ofInt 64 1)).toNat:Int):=rfl;rw [e,BitVec.ofInt_natCast,show BitVec.ofInt 64 1=BitVec.ofNat 64 1 from rfl,BitVec.toNat_and,BitVec.toNat_ofNat,BitVec.toNat_ofNat,Nat.mod_eq_of_lt (by omega),Nat.mod_eq_of_lt (by omega),Nat.and_one_is_mod];exact kG (by omega) (by omega)
theorem xC (a n:Nat) (w:World) (ha:a<4294967296) (hn:n<4611686018427387904):Calls Tryz.prog 137 #[.int .u64 a,.int .i64 n] w (rO w (.int .u64 (lC a n))):=by
 obtain⟨R,hR⟩:∃ R,R=lC a n:=⟨_,rfl⟩;rw [<- hR];replace hR:=zH hR
 go_enter Tryz.func137,Tryz.ntmps137
 go_wp2
 go_loopw [0,1,5] (fun x y o wr=>∃ (a n out f:Nat),x=.int .u64 a/\y=.int .i64 n/\o=.int .u64 out/\a<4294967296/\n<4611686018427387904/\out<2147483647/\n<2 ^ f/\Hid (R=Ai f out a n)/\Below w.heap.size w wr) (fun _ y _ _=>(intOf y).toNat)
 case atStart=>exact⟨a,n,1,64,rfl,rfl,rfl,ha,hn,by omega,by omega,zH hR.out,Below.refl _ _⟩
 case round =>
  clear hR ha hn;obtain⟨a,n,out,f,rfl,rfl,rfl,ha,hn,ho,hf,hR,hbr⟩:=hrel;by_cases h0:n=0
  ·have hfin:Hid (R=out):=zH (by rw [hR.out,h0,Nk]);have hneg:¬ (0:Int)<(n:Int):=by omega
   clear h0;clear hR hf;go_wp2;go_ret;exact⟨by rw [hfin.out];rfl,hbr⟩
  ·obtain⟨f,rfl⟩:∃ f',f=f'+1:=⟨f - 1,by cases f with|zero=>omega|succ f=>omega⟩;have hpos:(0:Int)<(n:Int):=by omega
   have hand:=Sd n (by omega);have hR2:=hR.out;rw [Ai,if_neg h0] at hR2;have hnf:n / 2<2 ^ f:=by rw [Nat.pow_succ] at hf;omega
   replace hnf:=zH hnf;have haa:a*a<=4294967295*4294967295:=Nat.mul_le_mul (by omega) (by omega);have hoa:out*a<=2147483646*4294967295:=Nat.mul_le_mul (by omega) (by omega);clear hR hf;rcases Nat.mod_two_eq_zero_or_one n with h2|h2
   ·rw [if_neg (by omega)] at hR2;rw [h2] at hand;replace hR2:=zH hR2;go_wp2;go_roundw
    case rel=>exact⟨a*a % 2147483647,n / 2,out,f,by simp,by simp,by simp,by omega,by omega,by omega,hnf.out,hR2,hbr⟩
    case measure=>simp [intOf];omega
   ·rw [if_pos h2] at hR2;rw [h2] at hand;replace hR2:=zH hR2;go_wp2;go_roundw
    case rel=>exact⟨a*a % 2147483647,n / 2,out*a % 2147483647,f,by simp,by simp,by simp,by omega,by omega,by omega,hnf.out,hR2,hbr⟩
    case measure=>simp [intOf];omega
end Go.Proofs.YtopclbeomcggiaaGreat
end
