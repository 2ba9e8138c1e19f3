/- The integer package of the program: division by one limb, copies. -/
import Derived.Test.YtopclbeomcggiaaGreatW10
set_option linter.unusedVariables false
set_option linter.unusedSimpArgs false
set_option maxHeartbeats 16000000
set_option maxRecDepth 100000
section
namespace Go.Proofs.YtopclbeomcggiaaGreat
open Go.RowKit Q
theorem AL(R x:Int)(h:0<=R)(k:R<4294967296)(d:0<=x)(j:x<4294967296):bits .or .u64 (R*4294967296) x=R*4294967296+x:=by
 have e:bits .or .u64 (R*4294967296) x=IntKind.u64.wrap (((BitVec.ofInt 64 (R*4294967296))|||(BitVec.ofInt 64 x)).toNat:Int):=rfl;obtain⟨r,rfl⟩:=Int.eq_ofNat_of_zero_le h;obtain⟨y,rfl⟩:=Int.eq_ofNat_of_zero_le d;rw[e,IntKind.wrap_u64,(sM:((r:Int)*4294967296)=((r*4294967296:Nat):Int)),BitVec.ofInt_natCast,BitVec.ofInt_natCast];rw[BitVec.toNat_or,BitVec.toNat_ofNat,BitVec.toNat_ofNat,Nat.mod_eq_of_lt oM,Nat.mod_eq_of_lt oM]
 have:r*4294967296|||y=r*4294967296+y:=by have:=Nat.two_pow_add_eq_or_of_lt (i:=32) (b:=y) oM r;rw[(oM:2^32*r=r*4294967296)]at this;exact this.symm
 rw[this];omega
def jZ (A:List Int) (d:Int) (k:Nat) (xs:List Int) (r:Int):Prop :=
 xs.length=A.length/\aG xs/\0<=r/\r<d/\ah (A.drop k)=ah (xs.drop k)*d+r
theorem yR(l:List Int)(k:Nat)(h:k<l.length):ah (l.drop k)=l.getD k 0+bv*ah (l.drop (k+1)):=by rw[List.drop_eq_getElem_cons h,jD,gE h];rfl
theorem jZ.start(A:List Int)(d:Int)(hd:0<d):jZ A d A.length (List.replicate A.length 0) 0 :=
 ⟨sM,jo _,oM,hd,by simp[ah]⟩
theorem jZ.step{A:List Int}{d:Int}{k:Nat}{j:List Int}{r:Int}(h:jZ A d (k+1) j r)(l:aG A)(hd:d<4294967296)(u:k<A.length) :
  jZ A d k (j.set k ((r*4294967296+A.getD k 0)/d)) ((r*4294967296+A.getD k 0)%d)/\(r*4294967296+A.getD k 0)/d<4294967296/\0<=(r*4294967296+A.getD k 0)/d:=by
 obtain⟨n,o,x,y,p⟩:=h;have m:=l.getD k;rw[aP]at m;have b:0<=(r*4294967296+A.getD k 0)/d:=Int.ediv_nonneg oM oM
 have i:(r*4294967296+A.getD k 0)/d<4294967296:=by apply Int.ediv_lt_of_lt_mul oM;have:(r+1)*4294967296<=d*4294967296:=Int.mul_le_mul_of_nonneg_right oM oM;omega
 refine⟨⟨by simpa using n,fU o _ (by rw[aP];exact⟨b,i⟩),Int.emod_nonneg _ oM,Int.emod_lt_of_pos _ oM,?_⟩,i,b⟩;rw[yR A k u,yR _ k (by simp;omega),qE _ _ _ oM,List.drop_set_of_lt oM,p];have e:=Int.mul_ediv_add_emod (r*4294967296+A.getD k 0) d;generalize(r*4294967296+A.getD k 0)/d=q at *;generalize(r*4294967296+A.getD k 0)%d=s at *;rw[aP];grind
theorem jZ.done{A:List Int}{d:Int}{b:List Int}{r:Int}(h:jZ A d 0 b r):ah A=ah b*d+r:=by have:=h.2.2.2.2;simpa using this
def xn (w:World) (n d:Int) (len:Nat) (e:Ending) (w':World):Prop:=∃v l r,e=.returned (.tuple #[v,.int .u32 r])/\cO w' v l/\l.length=len/\n=ah l*d+r/\0<=r/\r<d/\Below w.heap.size w w'
theorem KF(y:Option Addr)(cap:Nat)(A:List Int)(d:Int)(w:World)(J:A.length<=68719476736)(p:aG A)(G:At uT w y (uc A))(d0:1<=d)(d1:d<4294967296) :
  Calls Tryz.prog 160 #[.slice y A.length cap,.int .u32 d] w (xn w (ah A) d A.length):=by
 go_enter Tryz.func160,Tryz.ntmps160
 go_wp2_with (at_make;refine bL rfl _ _ _ rfl _ (.int .u32 0) 1 4 Tryz.underlying37 bD rfl rfl .i64 .i64 _ _ A.length rfl rfl oM oM oM oM ?_;intro w1 own1 gr1)
 rw[iO]at own1
 go_loopw [7,8] (λr i wr=>∃(k:Nat)(m:List Int)(q:Int),k<=A.length/\i=.int .i64 ((k:Int)-1)/\r=.int .u64 q/\Hid (jZ A d k m q)/\Hid (Blk wr w.heap.size uT (uc m))/\Below w.heap.size w wr) (λ_ i _=>(intOf i+1).toNat)
 case atStart=>exact⟨A.length,_,0,nL _,rfl,rfl,zH (jZ.start A d oM),zH own1,gr1⟩
 case round =>
  obtain⟨k,m,q,L,rfl,rfl,hinv,b,hb⟩:=hrel;by_cases h0:1<=k
  ·obtain⟨i,rfl⟩:∃i,k=i+1:=⟨k - 1,oM⟩;obtain⟨p1,o1,e1,j⟩:=G (by rw[dG];omega);have hc:=(j.keep hb j.lt).ucell i oM;have E1:=zH e1;have q0:=hinv.out.2.2.1;have q1:q<4294967296:=by have:=hinv.out.2.2.2.1;omega
   have l:i<m.length:=by have:=hinv.out.1;omega
   have B:=b.out.ucell i l;have C:=b.out.frozen i;have a1:=(p.getD i).1;have s:A.getD i 0<4294967296:=(p.getD i).2;obtain⟨n,s1,s0⟩:=hinv.out.step p d1 oM;have D:=AL q (A.getD i 0) q0 q1 a1 s;have I:=zH l;clear e1 j l;generalize A.getD i 0=x at *;generalize m.getD i 0=z at *;have o:=zH n;clear n;have u:i<A.length:=oM;have F:0<=q*4294967296+x:=oM
   go_wp2_with (refine aj rfl (.tmp 21) (.tmp 22) _ rfl _ Tryz.underlying37 _ _ _ bD _ _ _ rfl _ _ rfl i oM u p1 o1 E1.out ?_;rw[nU])
   go_roundw
   case rel=>exact⟨i,_,_,oM,nM,rfl,o,zH (b.out.uset i _),hb.setCell (nL _) _⟩
   case measure=>simp[intOf]
  ·obtain rfl:k=0:=oM;have q0:=hinv.out.2.2.1;have q1:q<4294967296:=by have:=hinv.out.2.2.2.1;omega
   go_wp2;go_ret2;have hu:=b.out.u32s hinv.out.2.1;rw[hinv.out.1]at hu;exact⟨_,m,q,rfl,hu,hinv.out.1,hinv.out.done,q0,hinv.out.2.2.2.1,hb⟩
theorem OC(v:Value)(l:List Int)(d:Int)(w:World)(h:cO w v l)(b:l.length<=68719476736)(d0:1<=d)(d1:d<4294967296) :
  Calls Tryz.prog 160 #[v,.int .u32 d] w (xn w (ah l) d l.length):=by
 obtain⟨e,cap,rfl,_,L,m⟩:=h;exact KF e cap l d w b L m d0 d1
theorem Qn{w:World}{base:Nat}{v:Value}{l:List Int}(h:w.ownsRow base uT 1 v l.length (uc l))(o:aG l):cO w v l:=by
 rcases h.2 with ⟨rfl,i⟩|⟨g,cap,d,rfl,hb,hg,e,k,m,b⟩
 ·obtain rfl:l=[]:=List.eq_nil_of_length_eq_zero i;exact cO.nil
 ·refine⟨_,cap,rfl,e,o,λ_=>⟨g,0,rfl,d,(0,0),hg,λj n=>?_⟩⟩;rw[<-b,List.getElem?_take,if_pos (by rw[dG]at n;omega)];simp
theorem KG(v:Value)(l:List Int)(w:World)(h:cO w v l)(b:l.length<=17179869184) :
  Calls Tryz.prog 159 #[v] w (Kz w λz=>z=l):=by
 obtain⟨o,cap,rfl,_,L,m⟩:=h;have B:=λ(w:World)(n c:Nat)=>Lib.run_eql_slice_nil (P:=Tryz.prog) w 37 104 o n c 0 0 Tryz.underlying37;obtain⟨i0,r,hz0,hz1,hz2⟩:=info_parts bD
 cases o with
 | none =>
  have y:l=[]:=by
   cases l with
   | nil=>rfl
   | cons x l=>obtain⟨_,_,h,_⟩:=m (by simp[uc]);cases h
  subst y
  go_enter Tryz.func159,Tryz.ntmps159
  go_wp2;go_ret;exact⟨_,[],rfl,cO.nil,rfl,Below.refl _ _⟩
 | some i =>
  have hc:∀(w':World),Below w.heap.size w w'->∀j u,(uc l)[j]?=some u->w'.cell? (i.add j)=some u:=by intro w' hb j u p;have d:j<(uc l).length:=(gS.1 p).1;obtain⟨b,off,e,hc⟩:=m oM;cases e;have:=(hc.on hb).cell j d;rw[p]at this;rw[Addr.add_mid];exact this
  go_enter Tryz.func159,Tryz.ntmps159
  go_wp2_with (at_builtin;refine wpList_append_own _ rfl _ _ 37 rfl w.heap.size 104 i0 (.int .u32 0) 1 4 Tryz.underlying37 r hz0 hz1 hz2 rfl dM _ 0 [] rfl ?c0 i l.length cap (uc l) rfl (by simp[dG]) (hc _ ?c1) (P7 _) (by unfold maxLen;omega) oM ?c2 ?_)
  case c0=>exact World.ownsRow_lit (size:=1) w #[] 0 (nL _) (Nat.zero_le _) rfl
  case c1=>exact(Below.refl _ _).alloc (nL _) _
  case c2=>simp
  ·intro C w1 own q _;have hb:Below w.heap.size w w1:=((Below.refl _ _).alloc (nL _) _).grown q sM (λk s=>by cases s;exact nL _);go_wp2;go_ret;exact⟨_,l,rfl,Qn own L,rfl,hb⟩
end Go.Proofs.YtopclbeomcggiaaGreat
end
section
namespace Q
def pr:Nat:=2147483647
theorem jq:pr=2147483647:=rfl
def yS:Nat->Nat->Nat->Nat->Nat
 | 0,out,_,_=>out
 | f+1,out,a,n=>if n=0 then out else yS f (if n%2=1 then out*a%pr else out) (a*a%pr) (n/2)
def jC (a n:Nat):Nat:=yS 64 1 a n
theorem EN:∀(f out a:Nat),yS f out a 0=out
 | 0,_,_=>rfl
 | f+1,out,a=>by rw[yS,if_pos rfl]
theorem ML:∀(f:Nat){out:Nat}(a n:Nat),out<pr->yS f out a n<pr
 | 0,_,_,_,h=>h
 | f+1,out,a,n,h=>by
  rw[yS];split
  ·exact h
  ·refine ML f _ _ ?_;split
   ·exact Nat.mod_lt _ (by decide)
   ·exact h
theorem uV(a n:Nat):jC a n<pr:=ML 64 a n dM
end Q
namespace Go.Proofs.YtopclbeomcggiaaGreat
open Go.RowKit Q
theorem lW{x:Int}(b:-9223372036854775808<=x)(d:x<=9223372036854775807):IntKind.i64.wrap x=x:=by have:=IntKind.wrap_i64 x;omega
theorem Te(n:Nat)(h:n<9223372036854775808):bits .and .i64 (n:Int) 1=((n%2:Nat):Int):=by have e:bits .and .i64 (n:Int) 1=IntKind.i64.wrap (((BitVec.ofInt 64 (n:Int))&&&(BitVec.ofInt 64 1)).toNat:Int):=rfl;rw[e,BitVec.ofInt_natCast,show BitVec.ofInt 64 1=BitVec.ofNat 64 1 from rfl,BitVec.toNat_and,BitVec.toNat_ofNat,BitVec.toNat_ofNat,Nat.mod_eq_of_lt oM,Nat.mod_eq_of_lt oM,Nat.and_one_is_mod];exact lW oM oM
theorem yT(a n:Nat)(w:World)(ha:a<4294967296)(j:n<4611686018427387904):Calls Tryz.prog 137 #[.int .u64 a,.int .i64 n] w (rE w (.int .u64 (jC a n))):=by
 obtain⟨R,hR⟩:∃R,R=jC a n:=⟨_,rfl⟩;rw[<-hR];replace hR:=zH hR
 go_enter Tryz.func137,Tryz.ntmps137
 go_wp2
 go_loopw [0,1,5] (λx y o wr=>∃(a n out f:Nat),x=.int .u64 a/\y=.int .i64 n/\o=.int .u64 out/\a<4294967296/\n<4611686018427387904/\out<2147483647/\n<2^f/\Hid (R=yS f out a n)/\Below w.heap.size w wr) (λ_ y _ _=>(intOf y).toNat)
 case atStart=>exact⟨a,n,1,64,rfl,rfl,rfl,ha,j,oM,oM,zH hR.out,Below.refl _ _⟩
 case round =>
  clear hR ha j;obtain⟨a,n,out,f,rfl,rfl,rfl,ha,j,r,hf,hR,d⟩:=hrel;by_cases h0:n=0
  ·have i:Hid (R=out):=zH (by rw[hR.out,h0,EN]);have k:¬(0:Int)<(n:Int):=oM;clear h0;clear hR hf;go_wp2;go_ret;exact⟨by rw[i.out];rfl,d⟩
  ·obtain⟨f,rfl⟩:∃m,f=m+1:=⟨f - 1,by cases f with|zero=>omega|succ f=>omega⟩;have l:(0:Int)<(n:Int):=oM;have hand:=Te n oM;have hR2:=hR.out;rw[yS,if_neg h0]at hR2;have b:n/2<2^f:=by rw[Nat.pow_succ]at hf;omega
   replace b:=zH b;have p:a*a<=4294967295*4294967295:=Nat.mul_le_mul oM oM;have q:out*a<=2147483646*4294967295:=Nat.mul_le_mul oM oM;clear hR hf;rcases Nat.mod_two_eq_zero_or_one n with h2|h2
   ·rw[if_neg oM]at hR2;rw[h2]at hand;replace hR2:=zH hR2;go_wp2;go_roundw
    case rel=>exact⟨a*a%2147483647,n/2,out,f,sM,sM,sM,oM,oM,oM,b.out,hR2,d⟩
    case measure=>simp[intOf];omega
   ·rw[if_pos h2]at hR2;rw[h2]at hand;replace hR2:=zH hR2;go_wp2;go_roundw
    case rel=>exact⟨a*a%2147483647,n/2,out*a%2147483647,f,sM,sM,sM,oM,oM,oM,b.out,hR2,d⟩
    case measure=>simp[intOf];omega
end Go.Proofs.YtopclbeomcggiaaGreat
end
