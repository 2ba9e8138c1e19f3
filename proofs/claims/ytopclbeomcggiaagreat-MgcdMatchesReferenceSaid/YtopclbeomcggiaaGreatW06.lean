/- The integer package of the program: sums, differences, comparisons. -/
import Derived.Test.YtopclbeomcggiaaGreatW03
import Derived.Test.YtopclbeomcggiaaGreatRows
set_option linter.unusedVariables false
set_option linter.unusedSimpArgs false
set_option maxHeartbeats 16000000
set_option maxRecDepth 100000
namespace Go.Proofs.YtopclbeomcggiaaGreat
open Go.RowKit Q
theorem bD:(Tryz.prog.info? 104).map (λi=>(i.zero,i.size,i.bytes))=some (some (.int .u32 0),1,4):=kM
def rE (w:World) (v:Value) (e:Ending) (w':World):Prop:=e=.returned v/\Below w.heap.size w w'
def Kz (w:World) (p:List Int->Prop) (e:Ending) (w':World):Prop:=∃v l,e=.returned v/\cO w' v l/\p l/\Below w.heap.size w w'
def kY (w:World) (z:Int) (e:Ending) (w':World):Prop:=∃neg m,e=.returned (.agg #[.bool neg,m])/\aZ w' neg m z/\Below w.heap.size w w'
theorem yN(x y c:Int)(w:World)(hx0:0<=x)(hx1:x<4294967296)(hy0:0<=y)(hy1:y<4294967296)(hc0:0<=c)(hc1:c<=1) :
  Calls Tryz.prog 164 #[.int .u32 x,.int .u32 y,.int .u32 c] w λe w'=>e=.returned (.tuple #[.int .u32 ((x+y+c)%4294967296),.int .u32 ((x+y+c)/4294967296)])/\w=w':=by
 go_enter Tryz.func164,Tryz.ntmps164
 go_wp2;go_ret2;exact⟨rfl,rfl⟩
theorem WI(x y:BitVec 32):bits .or .u32 (x.toNat:Int) (y.toNat:Int)=((x|||y).toNat:Int):=by have e:bits .or .u32 (x.toNat:Int) (y.toNat:Int)=IntKind.u32.wrap (((BitVec.ofInt 32 (x.toNat:Int))|||(BitVec.ofInt 32 (y.toNat:Int))).toNat:Int):=rfl;rw[e,IntKind.wrap_u32,BitVec.ofInt_natCast,BitVec.ofInt_natCast,BitVec.ofNat_toNat,BitVec.ofNat_toNat,BitVec.setWidth_eq,BitVec.setWidth_eq];have:=(x|||y).isLt;omega
theorem Qg(x y:BitVec 32):bits .and .u32 (x.toNat:Int) (y.toNat:Int)=((x&&&y).toNat:Int):=by have e:bits .and .u32 (x.toNat:Int) (y.toNat:Int)=IntKind.u32.wrap (((BitVec.ofInt 32 (x.toNat:Int))&&&(BitVec.ofInt 32 (y.toNat:Int))).toNat:Int):=rfl;rw[e,IntKind.wrap_u32,BitVec.ofInt_natCast,BitVec.ofInt_natCast,BitVec.ofNat_toNat,BitVec.ofNat_toNat,BitVec.setWidth_eq,BitVec.setWidth_eq];have:=(x&&&y).isLt;omega
theorem KA(x y:BitVec 32):bits .xor .u32 (x.toNat:Int) (y.toNat:Int)=((x^^^y).toNat:Int):=by have e:bits .xor .u32 (x.toNat:Int) (y.toNat:Int)=IntKind.u32.wrap (((BitVec.ofInt 32 (x.toNat:Int))^^^(BitVec.ofInt 32 (y.toNat:Int))).toNat:Int):=rfl;rw[e,IntKind.wrap_u32,BitVec.ofInt_natCast,BitVec.ofInt_natCast,BitVec.ofNat_toNat,BitVec.ofNat_toNat,BitVec.setWidth_eq,BitVec.setWidth_eq];have:=(x^^^y).isLt;omega
theorem Qh(x:Int)(d:0<=x)(e:x<4294967296):∃b:BitVec 32,x=(b.toNat:Int) :=
 ⟨BitVec.ofNat 32 x.toNat,by rw[BitVec.toNat_ofNat];omega⟩
theorem Ve(b:BitVec 32):((b.toNat:Int)/2147483648)=if b.msb then 1 else 0:=by have:=b.isLt;rw[BitVec.msb_eq_decide];split<;>rename_i h<;>simp at h<;>omega
theorem Ic(x y c:Int)(e:0<=x)(h:x<4294967296)(i:0<=y)(j:y<4294967296)(r:0<=c)(s:c<=1) :
  bits BinOp.or IntKind.u32 (bits BinOp.and IntKind.u32 (bits BinOp.xor IntKind.u32 IntKind.u32.max x) y)
   (bits BinOp.and IntKind.u32 (bits BinOp.xor IntKind.u32 IntKind.u32.max (bits BinOp.xor IntKind.u32 x y)) ((x-y-c)%4294967296))/2147483648=if x<y+c then 1 else 0:=by
 obtain⟨a,rfl⟩:=Qh x e h;obtain⟨b,rfl⟩:=Qh y i j;obtain⟨d,hd⟩:=Qh (((a.toNat:Int) - b.toNat - c)%4294967296) oM oM;have hm:(IntKind.u32.max:Int)=((BitVec.allOnes 32).toNat:Int):=dM;rw[hd,hm,KA,KA,KA,Qg,Qg,WI,Ve];have ha:=a.isLt;have hb:=b.isLt;have u:=d.isLt;have n:a.msb=decide (2147483648<=a.toNat):=by rw[BitVec.msb_eq_decide]
 have o:b.msb=decide (2147483648<=b.toNat):=by rw[BitVec.msb_eq_decide]
 have p:d.msb=decide (2147483648<=d.toNat):=by rw[BitVec.msb_eq_decide]
 have q:(BitVec.allOnes 32).msb=true:=dM;simp only[BitVec.msb_or,BitVec.msb_and,BitVec.msb_xor,q,n,o,p];by_cases k:2147483648<=a.toNat<;>by_cases l:2147483648<=b.toNat<;>by_cases m:2147483648<=d.toNat<;>simp only[k,l,m,decide_true,decide_false]<;>simp<;>omega
theorem EI(x y c:Int)(w:World)(hx0:0<=x)(hx1:x<4294967296)(hy0:0<=y)(hy1:y<4294967296)(hc0:0<=c)(hc1:c<=1)(q:Int)(hq:q=if x<y+c then 1 else 0) :
  Calls Tryz.prog 163 #[.int .u32 x,.int .u32 y,.int .u32 c] w λe w'=>e=.returned (.tuple #[.int .u32 ((x-y-c)%4294967296),.int .u32 q])/\w=w':=by
 have b:=Ic x y c hx0 hx1 hy0 hy1 hc0 hc1;rw[<-hq]at b;have H:=zH b;clear b hq
 go_enter Tryz.func163,Tryz.ntmps163
 go_wp2;go_ret2;exact⟨by rw[<-H.out];rfl,rfl⟩
def oF (l1 l2:List Int) (i:Nat) (xs:List Int) (c:Int):Prop :=
 xs.length=l1.length+1/\aG xs/\0<=c/\c<=1/\ah (xs.take i)+bv^i*c=ah (l1.take i)+ah (l2.take i)
theorem oF.start{d l2:List Int}{b:List Int}(h:b.length=d.length+1)(e:aG b):oF d l2 0 b 0:=⟨h,e,oM,oM,by simp[ah]⟩
theorem fU{l:List Int}(h:aG l)(i:Nat){x:Int}(d:0<=x/\x<bv):aG (l.set i x):=λy b=>by
 rcases List.mem_or_eq_of_mem_set b with b|rfl
 ·exact h y b
 ·exact d
theorem qE(l:List Int)(i:Nat)(x:Int)(h:i<l.length):(l.set i x).getD i 0=x:=by simp[h]
theorem nE(b:List Int)(i:Nat)(x:Int)(h:i<b.length):ah ((b.set i x).take (i+1))=ah (b.take i)+bv^i*x:=by rw[aI,List.take_set_of_le (nL _),qE _ _ _ h]
theorem oF.step{b l2:List Int}{i:Nat}{d:List Int}{c:Int}(h:oF b l2 i d c)(j:aG b)(k:aG l2)(x:i<b.length) :
  oF b l2 (i+1) (d.set i ((b.getD i 0+l2.getD i 0+c)%4294967296)) ((b.getD i 0+l2.getD i 0+c)/4294967296):=by
 obtain⟨n,o,p,s,u⟩:=h;have l:=j.getD i;have m:=k.getD i;rw[aP]at l m;refine⟨by simpa using n,fU o i (by rw[aP];omega),oM,oM,?_⟩;rw[nE _ _ _ oM,aI,aI,Int.pow_succ];have e:=Int.mul_ediv_add_emod (b.getD i 0+l2.getD i 0+c) 4294967296;generalize(b.getD i 0+l2.getD i 0+c)%4294967296=r at *;generalize(b.getD i 0+l2.getD i 0+c)/4294967296=q at *;rw[<-aP]at e;generalize ah (List.take i d)=X at *;have:bv^i*(b.getD i 0+l2.getD i 0+c)=bv^i*(bv*q+r):=by rw[e]
 grind
theorem oF.done{b l2:List Int}{d:List Int}{c:Int}(h:oF b l2 b.length d c)(j:l2.length<=b.length) :
  ah (d.set b.length c)=ah b+ah l2/\(d.set b.length c).length=b.length+1/\aG (d.set b.length c):=by
 obtain⟨e1,e,k,l,i⟩:=h;refine⟨?_,by simpa using e1,fU e _ (by rw[aP];omega)⟩;have:ah ((d.set b.length c).take (b.length+1))=ah (d.set b.length c):=by rw[tL (by simp;omega)]
 rw[<-this,nE _ _ _ oM,i,tL (nL _),tL j]
theorem kS(l:List Int)(k:Nat)(h:¬k<l.length):l.getD k 0=0:=by rw[jD,gN oM];rfl
theorem iO(n:Nat):(List.replicate n (Value.int IntKind.u32 0).cells[0]!)=uc (List.replicate n 0):=by simp[uc,Value.cells]
theorem jo(n:Nat):aG (List.replicate n 0):=λx b=>by rw[List.eq_of_mem_replicate b];exact⟨Int.le_refl _,dR⟩
theorem EJ(sw:Bool)(p j:Option Addr)(capA o:Nat)(A B:List Int)(w:World)(G:B.length<=A.length)(n:sw=true->B.length<A.length)(hA:A.length<=68719476736)
  (D:aG A) (LB:aG B) (M:At uT w p (uc A)) (Z:At uT w j (uc B)) :
  Calls Tryz.prog 144 (cond sw #[.slice j B.length o,.slice p A.length capA] #[.slice p A.length capA,.slice j B.length o]) w
   (Kz w λl=>ah l=ah A+ah B/\l.length=A.length+1):=by
 have hd:¬A.length<B.length:=oM;cases sw
 all_goals
  simp only[cond];replace n:=zH n
  try replace n:=n.out rfl
  go_enter Tryz.func144,Tryz.ntmps144
  go_wp2_with (first
   | (at_make;refine bL rfl _ _ _ rfl _ (.int .u32 0) 1 4 Tryz.underlying37 bD rfl rfl .i64 .i64 _ _ (A.length+1) rfl rfl oM oM oM oM ?_;intro w1 own1 gr1)
   | (refine Ao rfl (.tmp 20) (.tmp 21) _ _ rfl _ Tryz.underlying37 bD _ _ _ _ _ _ rfl rfl _ _ own1 (uc A) (by simp[dG]) oM sM (λhp=>let ⟨b,off,e,hc⟩:=M (by rw[dG];exact hp);⟨b,off,e,hc.on gr1⟩) (P7 _) w.heap.size (nL _) ?_;intro w2 own2 gr2;have hb2:=gr1.trans gr2;clear own1 gr1 gr2))
  have own3:Blk w2 w.heap.size 104 (uc (A++[0])):=by
   have:(uc A++List.drop (uc A).length (List.replicate (A.length+1) (Value.int IntKind.u32 0).cells[0]!))=uc (A++[0]):=by rw[dG,List.drop_replicate,(oM:A.length+1-A.length=1)];simp[uc,Value.cells]
   rw[<-this];exact own2
  clear own2
  go_loopw [6,25] (λc i wr=>∃(k:Nat)(u:List Int)(q:Int),k<=A.length/\i=.int .i64 k/\c=.int .u32 q/\Hid (oF A B k u q)/\Hid (Blk wr w.heap.size 104 (uc u))/\Below w.heap.size w wr) (λ_ i _=>A.length-(intOf i).toNat)
  case atStart=>exact⟨0,A++[0],0,Nat.zero_le _,rfl,rfl,zH (oF.start sM (D.append (aG.nil.cons ⟨Int.le_refl _,dR⟩))),zH own3,hb2⟩
  case round =>
   obtain⟨k,u,q,hk,rfl,rfl,hinv,d,hb⟩:=hrel;have hq:=hinv.out.2.2.1;have Y:=hinv.out.2.2.2.1;have C:=zH hinv.out.1;by_cases m:k<A.length
   ·obtain⟨b1,o1,e1,hc⟩:=M (by rw[dG];omega);have X:wr.cell? ⟨b1,o1+k,none⟩=some (.int .u32 (A.getD k 0)):=(hc.keep hb (hc.lt)).ucell k m;have E1:=zH e1;clear e1 hc;have I:wr.cell? ⟨w.heap.size,k,none⟩=some (.int .u32 (u.getD k 0)):=d.out.ucell k (by have:=C.out;omega);have J:wr.frozen? ⟨w.heap.size,k,none⟩=false:=d.out.frozen k;have a1:=(D.getD k).1;have N:A.getD k 0<4294967296:=(D.getD k).2;have a2:=(LB.getD k).1;have S:B.getD k 0<4294967296:=(LB.getD k).2;have z:=zH (hinv.out.step D LB m)
    have r:k<B.length->∃b2 o2,Hid (j=some ⟨b2,o2,none⟩)/\wr.cell? ⟨b2,o2+k,none⟩=some (.int .u32 (B.getD k 0)):=λh=>by obtain⟨b2,o2,e2,hc⟩:=Z (by rw[dG];omega);exact⟨b2,o2,zH e2,(hc.keep hb (hc.lt)).ucell k h⟩
    have hz2:=kS B k;generalize A.getD k 0=x at *;generalize B.getD k 0=y at *;by_cases hl2:k<B.length
    ·obtain⟨b2,o2,E2,r⟩:=r hl2;clear hz2
     go_wp2_with (first
      | (refine aj rfl (.tmp 32) (.tmp 33) _ rfl _ Tryz.underlying37 _ _ _ bD _ _ _ rfl _ _ rfl k rfl hl2 b2 o2 E2.out ?_;rw[nU])
      | (refine aj rfl (.tmp 39) (.tmp 40) _ rfl _ Tryz.underlying37 _ _ _ bD _ _ _ rfl _ _ rfl k rfl m b1 o1 E1.out ?_;rw[nU])
      | (go_at_call 164;refine(yN _ _ _ _ aM aM aM aM aM aM).mono ?_;rintro e w' ⟨rfl,rfl⟩))
     go_roundw
     case rel=>exact⟨k+1,_,_,oM,nM,rfl,z,zH (d.out.uset k _),hb.setCell (nL _) _⟩
     case measure=>simp[intOf];omega
    ·obtain rfl:=hz2 hl2;clear r
     go_wp2_with (first
      | (refine aj rfl (.tmp 39) (.tmp 40) _ rfl _ Tryz.underlying37 _ _ _ bD _ _ _ rfl _ _ rfl k rfl m b1 o1 E1.out ?_;rw[nU])
      | (go_at_call 164;refine(yN _ _ _ _ aM aM aM aM aM aM).mono ?_;rintro e w' ⟨rfl,rfl⟩))
     go_roundw
     case rel=>exact⟨k+1,_,_,oM,nM,rfl,(by simpa only[Int.add_zero]using z),zH (d.out.uset k _),hb.setCell (nL _) _⟩
     case measure=>simp[intOf];omega
   ·have L:k=A.length:=oM;subst L;have I:wr.cell? ⟨w.heap.size,A.length,none⟩=some (.int .u32 (u.getD A.length 0)):=d.out.ucell _ (by have:=C.out;omega);have J:wr.frozen? ⟨w.heap.size,A.length,none⟩=false:=d.out.frozen _;have s:=hinv.out.done G;have F:=d.out.uset A.length q;generalize u.getD A.length 0=x at *;replace s:=zH s;replace F:=zH F;go_wp2;go_ret;refine⟨_,_,rfl,?_,⟨s.out.1,s.out.2.1⟩,hb.setCell (nL _) _⟩;have:=F.out.u32s s.out.2.2;rw[s.out.2.1]at this;exact this
theorem Qi(n o:Value)(b l2:List Int)(w:World)(q:cO w n b)(r:cO w o l2)(b1:b.length<=68719476736)(p:l2.length<=68719476736) :
  Calls Tryz.prog 144 #[n,o] w (Kz w λl=>ah l=ah b+ah l2/\l.length=max b.length l2.length+1):=by
 obtain⟨d,c1,rfl,_,j,m1⟩:=q;obtain⟨i,c2,rfl,_,k,m⟩:=r;by_cases h:b.length<l2.length
 ·refine(EJ true i d c2 c1 l2 b w oM (λ_=>h) p k j m m1).mono ?_;rintro e w' ⟨v,l,rfl,hu,⟨he,s⟩,hb⟩;exact⟨v,l,rfl,hu,⟨oM,oM⟩,hb⟩
 ·refine(EJ false d i c1 c2 b l2 w oM (λh=>by cases h) b1 j k m1 m).mono ?_;rintro e w' ⟨v,l,rfl,hu,⟨he,s⟩,hb⟩;exact⟨v,l,rfl,hu,⟨oM,oM⟩,hb⟩
def mr (l1 l2:List Int) (i:Nat) (xs:List Int) (c:Int):Prop :=
 xs.length=l1.length/\aG xs/\0<=c/\c<=1/\ah (xs.take i)-bv^i*c=ah (l1.take i)-ah (l2.take i)
theorem mr.start{d l2:List Int}{b:List Int}(h:b.length=d.length)(e:aG b):mr d l2 0 b 0:=⟨h,e,oM,oM,by simp[ah]⟩
theorem mr.step{b l2:List Int}{i:Nat}{d:List Int}{c:Int}(h:mr b l2 i d c)(j:aG b)(k:aG l2)(x:i<b.length) :
  mr b l2 (i+1) (d.set i ((b.getD i 0-l2.getD i 0-c)%4294967296)) (if b.getD i 0<l2.getD i 0+c then 1 else 0):=by
 obtain⟨n,o,p,s,u⟩:=h;have l:=j.getD i;have m:=k.getD i;rw[aP]at l m;refine⟨by simpa using n,fU o i (by rw[aP];omega),by split<;>omega,by split<;>omega,?_⟩;rw[nE _ _ _ oM,aI,aI,Int.pow_succ];have e:(b.getD i 0 - l2.getD i 0 - c)%4294967296=b.getD i 0 - l2.getD i 0 - c+4294967296*(if b.getD i 0<l2.getD i 0+c then 1 else 0):=by split<;>omega
 generalize(b.getD i 0-l2.getD i 0-c)%4294967296=r at *;generalize(if b.getD i 0<l2.getD i 0+c then(1:Int)else 0)=q at *;rw[<-aP]at e;generalize ah (List.take i d)=X at *;subst e;grind
theorem mr.done{b l2:List Int}{d:List Int}{c:Int}(h:mr b l2 b.length d c)(j:l2.length<=b.length)(kQ:ah l2<=ah b) :
  ah d=ah b-ah l2:=by
 obtain⟨e1,e,l,m,i⟩:=h;rw[tL oM,tL (nL _),tL j]at i;have k:=gK e;rw[e1]at k
 have:c=0:=by
  rcases(oM:c=0\/c=1)with h|h
  ·exact h
  ·subst h;omega
 subst this;omega
theorem iW{b l2:List Int}(d:aG b)(e:aG l2)(n2:gL l2)(h:ah l2<=ah b):l2.length<=b.length :=
 n2.len_le e (by have:=gK d;omega)
theorem KC(r n:Option Addr)(capA s:Nat)(A B:List Int)(w:World)(C:B.length<=A.length)(kQ:ah B<=ah A)(hA:A.length<=68719476736)
  (z:aG A) (LB:aG B) (Y:At uT w r (uc A)) (Z:At uT w n (uc B)) :
  Calls Tryz.prog 143 #[.slice r A.length capA,.slice n B.length s] w
   (Kz w λl=>ah l=ah A-ah B/\l.length=A.length):=by
 go_enter Tryz.func143,Tryz.ntmps143
 go_wp2_with (first
  | (at_make;refine bL rfl _ _ _ rfl _ (.int .u32 0) 1 4 Tryz.underlying37 bD rfl rfl .i64 .i64 _ _ A.length rfl rfl oM oM oM oM ?_;intro w1 own1 gr1))
 rw[iO]at own1
 go_loopw [6,14] (λc i wr=>∃(k:Nat)(u:List Int)(q:Int),k<=A.length/\i=.int .i64 k/\c=.int .u32 q/\Hid (mr A B k u q)/\Hid (Blk wr w.heap.size 104 (uc u))/\Below w.heap.size w wr) (λ_ i _=>A.length-(intOf i).toNat)
 case atStart=>exact⟨0,List.replicate A.length 0,0,Nat.zero_le _,rfl,rfl,zH (mr.start sM (jo _)),zH own1,gr1⟩
 case round =>
  obtain⟨k,u,q,hk,rfl,rfl,hinv,b,hb⟩:=hrel;have hq:=hinv.out.2.2.1;have X:=hinv.out.2.2.2.1;have m:=zH hinv.out.1;by_cases d:k<A.length
  ·obtain⟨b1,o1,e1,hc⟩:=Y (by rw[dG];omega);have M:wr.cell? ⟨b1,o1+k,none⟩=some (.int .u32 (A.getD k 0)):=(hc.keep hb (hc.lt)).ucell k d;have E1:=zH e1;clear e1 hc;have N:wr.cell? ⟨w.heap.size,k,none⟩=some (.int .u32 (u.getD k 0)):=b.out.ucell k (by have:=m.out;omega);have S:wr.frozen? ⟨w.heap.size,k,none⟩=false:=b.out.frozen k;have a1:=(z.getD k).1;have J:A.getD k 0<4294967296:=(z.getD k).2;have a2:=(LB.getD k).1;have L:B.getD k 0<4294967296:=(LB.getD k).2;have j:=zH (hinv.out.step z LB d)
   have p:k<B.length->∃b2 o2,Hid (n=some ⟨b2,o2,none⟩)/\wr.cell? ⟨b2,o2+k,none⟩=some (.int .u32 (B.getD k 0)):=λh=>by obtain⟨b2,o2,e2,hc⟩:=Z (by rw[dG];omega);exact⟨b2,o2,zH e2,(hc.keep hb (hc.lt)).ucell k h⟩
   have hz2:=kS B k;generalize A.getD k 0=x at *;generalize B.getD k 0=y at *;obtain⟨c',o⟩:∃c',c'=(if x<y+q then(1:Int)else 0):=⟨_,rfl⟩;rw[<-o]at j;have F:=zH o;clear o;by_cases hl2:k<B.length
   ·obtain⟨b2,o2,E2,p⟩:=p hl2;clear hz2
    go_wp2_with (first
     | (refine aj rfl (.tmp 21) (.tmp 22) _ rfl _ Tryz.underlying37 _ _ _ bD _ _ _ rfl _ _ rfl k rfl hl2 b2 o2 E2.out ?_;rw[nU])
     | (refine aj rfl (.tmp 28) (.tmp 29) _ rfl _ Tryz.underlying37 _ _ _ bD _ _ _ rfl _ _ rfl k rfl d b1 o1 E1.out ?_;rw[nU])
     | (go_at_call 163;refine(EI _ _ _ _ aM aM aM aM aM aM _ F.out).mono ?_;rintro e w' ⟨rfl,rfl⟩))
    go_roundw
    case rel=>exact⟨k+1,_,_,oM,nM,rfl,j,zH (b.out.uset k _),hb.setCell (nL _) _⟩
    case measure=>simp[intOf];omega
   ·obtain rfl:=hz2 hl2;clear p
    go_wp2_with (first
     | (refine aj rfl (.tmp 28) (.tmp 29) _ rfl _ Tryz.underlying37 _ _ _ bD _ _ _ rfl _ _ rfl k rfl d b1 o1 E1.out ?_;rw[nU])
     | (go_at_call 163;refine(EI _ _ _ _ aM aM aM aM aM aM _ F.out).mono ?_;rintro e w' ⟨rfl,rfl⟩))
    go_roundw
    case rel=>exact⟨k+1,_,_,oM,nM,rfl,(by simpa only[Int.sub_zero]using j),zH (by simpa only[Int.sub_zero]using b.out.uset k _),hb.setCell (nL _) _⟩
    case measure=>simp[intOf];omega
  ·have D:k=A.length:=oM;subst D;have G:=zH (hinv.out.done C kQ);have I:=zH hinv.out.2.1;clear hinv kQ;go_wp2;go_ret;refine⟨_,_,rfl,?_,⟨G.out,m.out⟩,hb⟩;have:=b.out.u32s I.out;rw[m.out]at this;exact this
theorem yO(i j:Value)(b l2:List Int)(w:World)(n:cO w i b)(o:cO w j l2)(b1:b.length<=68719476736)(d:l2.length<=b.length)(kQ:ah l2<=ah b) :
  Calls Tryz.prog 143 #[i,j] w (Kz w λl=>ah l=ah b-ah l2/\l.length=b.length):=by
 obtain⟨e,c1,rfl,_,k,m1⟩:=n;obtain⟨h,c2,rfl,_,m,p⟩:=o;exact KC e h c1 c2 b l2 w d kQ b1 k m m1 p
end Go.Proofs.YtopclbeomcggiaaGreat
