/- The integer package of the program: leading zeros, shifts. -/
import Derived.Test.YtopclbeomcggiaaGreatW11
import Derived.Test.YtopclbeomcggiaaGreatW12
set_option linter.unusedVariables false
set_option linter.unusedSimpArgs false
set_option maxHeartbeats 16000000
set_option maxRecDepth 100000
namespace Q
theorem BS{x:Nat}(j:0<x)(h:x<4294967296):1<=Go.Lib.bitLen x/\Go.Lib.bitLen x<=32/\x<2^Go.Lib.bitLen x:=by
 have key:∀f x:Nat,x<2^f->Go.Lib.bitLenAux f x<=f/\x<2^Go.Lib.bitLenAux f x/\(0<x->1<=Go.Lib.bitLenAux f x):=by
  intro f
  induction f with
  | zero=>intro x h;simp only[Go.Lib.bitLenAux];exact⟨nL _,by simpa using h,λi=>by simp at h;omega⟩
  | succ f l =>
   intro x h;rw[Go.Lib.bitLenAux];split
   ·rename_i hz;exact⟨oM,by rw[hz];decide,λi=>oM⟩
   ·obtain⟨b,d,_⟩:=l (x/2) (by rw[Nat.pow_succ]at h;omega);refine⟨oM,?_,λ_=>oM⟩;rw[Nat.pow_add];omega
 have e:Go.Lib.bitLen x=Go.Lib.bitLenAux 32 x:=Go.Lib.bitLenAux_fuel 32 x h 64 oM;obtain⟨b,d,k⟩:=key 32 x h;rw[e];exact⟨k j,b,d⟩
end Q
namespace Go.Proofs.YtopclbeomcggiaaGreat
open Go.RowKit Q
theorem Qp(x:Int)(w:World)(h1:1<=x)(h2:x<4294967296) :
  Calls Tryz.prog 171 #[.int .u32 x] w λe w'=>e=.returned (.int .i64 (32-(Go.Lib.bitLen x.toNat:Nat)))/\w'=w:=by
 have hb:=Any.bits_Len32 { Ih with } x w oM oM;change Calls Tryz.prog 153 _ _ _ at hb;have d:=BS (x:=x.toNat) oM oM;obtain⟨b,hb2⟩:∃b,b=Go.Lib.bitLen x.toNat:=⟨_,rfl⟩;rw[<-hb2]at d hb ⊢;replace hb2:=zH hb2
 go_enter Tryz.func171,Tryz.ntmps171
 go_wp2_with (go_at_call 153;refine hb.mono ?_;rintro e w' ⟨rfl,rfl⟩)
 go_ret;exact⟨rfl,rfl⟩
theorem Qq{P x y:Int}{k:Nat}(j:P=((2^k:Nat):Int))(h:0<=y)(n:y<P)(d:0<=x)(m:x<4294967296)(l:y+x<4294967296)(hd:P∣x):bits .or .u32 y x=y+x:=by
 have e:bits .or .u32 y x=IntKind.u32.wrap (((BitVec.ofInt 32 y)|||(BitVec.ofInt 32 x)).toNat:Int):=rfl;obtain⟨r,rfl⟩:=Int.eq_ofNat_of_zero_le h;obtain⟨z,rfl⟩:=Int.eq_ofNat_of_zero_le d;subst j;obtain⟨c,rfl⟩:=Int.ofNat_dvd.1 hd;rw[e,BitVec.ofInt_natCast,BitVec.ofInt_natCast,BitVec.toNat_or,BitVec.toNat_ofNat,BitVec.toNat_ofNat,Nat.mod_eq_of_lt oM,Nat.mod_eq_of_lt oM]
 have:r|||2^k*c=r+2^k*c:=by have:=Nat.two_pow_add_eq_or_of_lt (i:=k) (b:=r) oM c;rw[Nat.or_comm,<-this,Nat.add_comm]
 rw[this,IntKind.wrap_u32];omega
def WK (w:World) (p:List Int->Prop) (e:Ending) (w':World):Prop:=∃g l,e=.returned (.slice (some ⟨g,0,none⟩) l.length l.length)/\w.heap.size<=g/\Blk w' g uT (uc l)/\aG l/\p l/\Below w.heap.size w w'
theorem KH(B:Option Addr)(cap:Nat)(A:List Int)(k:Nat)(w:World)(M:A.length<=17179869184)(q:aG A)(I:At uT w B (uc A))(S:k<32) :
  Calls Tryz.prog 172 #[.slice B A.length cap,.int .i64 k] w (WK w λl=>l.length=A.length+1/\ah l=ah A*((2^k:Nat):Int)):=by
 obtain⟨P,hP⟩:∃P:Int,P=((2^k:Nat):Int):=⟨_,rfl⟩;obtain⟨R,hR⟩:∃R:Int,R=((2^(32 - k):Nat):Int):=⟨_,rfl⟩;have hP0:0<P:=by rw[hP];exact Int.ofNat_lt.2 (Nat.pow_pos dM)
 have hR0:0<R:=by rw[hR];exact Int.ofNat_lt.2 (Nat.pow_pos dM)
 have r:P*R=4294967296:=by rw[hP,hR,<-Int.natCast_mul,<-Nat.pow_add,(oM:k+(32-k)=32)];rfl
 rw[<-hP];replace hP:=zH hP;replace hR:=zH hR
 go_enter Tryz.func172,Tryz.ntmps172
 go_wp2_with (at_make;refine bL rfl _ _ _ rfl _ (.int .u32 0) 1 4 Tryz.underlying37 bD rfl rfl .i64 .i64 _ _ (A.length+1) rfl rfl oM oM oM oM ?_;intro w1 own1 gr1)
 rw[iO]at own1
 go_loopw [15] (λi wr=>∃(j:Nat)(p:List Int),j<=A.length/\i=.int .i64 j/\Hid (xh A P j p)/\Hid (Blk wr w.heap.size uT (uc p))/\Below w.heap.size w wr) (λi _=>A.length-(intOf i).toNat)
 case atStart=>exact⟨0,_,Nat.zero_le _,rfl,zH (xh.start A hP0),zH own1,gr1⟩
 case round =>
  obtain⟨i,p,N,rfl,hinv,b,hb⟩:=hrel;by_cases n:i<A.length
  ·obtain⟨p1,o1,e1,d⟩:=I (by rw[dG];omega);have hc:=(d.keep hb d.lt).ucell i n;have E1:=zH e1;have a1:=(q.getD i).1;have F:A.getD i 0<4294967296:=(q.getD i).2;have s:=hinv.out.step q n hP0 hR0 r;have y:=hinv.out.2.2.2.2;have C:=b.out.ucell i (by have:=hinv.out.1;omega);generalize A.getD i 0=x at *;generalize p.getD i 0=z at *;obtain⟨s1,s2,s3,s4,s5,s6,s7,s8,s9⟩:=s;have hco2:=b.out.ucell (i+1) (by have:=hinv.out.1;omega)
   have u:IntKind.u64.wrap (x*2^k)=x*P:=by
    have e:(2:Int)^k=P:=by rw[hP.out];simp
    rw[e,IntKind.wrap_u64];exact Int.emod_eq_of_lt s1 s2
   have o:=Qq hP.out s4 y (Int.emod_nonneg _ oM) (Int.emod_lt_of_pos _ oM) s3 s5
   have m:x*P/4294967296%4294967296=x*P/4294967296:=Int.emod_eq_of_lt s8 (by
    apply Int.ediv_lt_of_lt_mul oM;omega)
   have G:=b.out.frozen i;have hfo2:=b.out.frozen (i+1);have D:=zH s9;have L:=zH s5;have H6:=zH s6;have J:=zH b;clear s9 s5 s6 e1 d;replace u:=zH u;replace o:=zH o;replace m:=zH m
   go_wp2_with (refine aj rfl (.tmp 13) (.tmp 15) _ rfl _ Tryz.underlying37 _ _ _ bD _ _ _ rfl _ _ rfl i oM n p1 o1 E1.out ?_;rw[nU])
   rw[u.out,o.out,m.out];go_roundw
   case rel=>exact⟨i+1,_,oM,nM,D,zH ((b.out.uset i _).uset (i+1) _),(hb.setCell (nL _) _).setCell (nL _) _⟩
   case measure=>simp[intOf];omega
  ·obtain rfl:i=A.length:=oM;go_wp2;go_ret;exact⟨w.heap.size,p,by rw[hinv.out.1];rfl,nL _,b.out,hinv.out.2.1,⟨hinv.out.1,hinv.out.done⟩,hb⟩
theorem EO(v:Value)(l:List Int)(k:Nat)(w:World)(h:cO w v l)(b:l.length<=17179869184)(e:k<32) :
  Calls Tryz.prog 172 #[v,.int .i64 k] w (WK w λr=>r.length=l.length+1/\ah r=ah l*((2^k:Nat):Int)):=by
 obtain⟨d,cap,rfl,_,L,m⟩:=h;exact KH d cap l k w b L m e
end Go.Proofs.YtopclbeomcggiaaGreat
