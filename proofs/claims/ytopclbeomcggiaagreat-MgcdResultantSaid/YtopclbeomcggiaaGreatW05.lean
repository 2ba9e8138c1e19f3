/- The integer package of the program: sums, differences, comparisons. -/
import Derived.Test.YtopclbeomcggiaaGreatW02
import Derived.Test.YtopclbeomcggiaaGreatRows
set_option linter.unusedVariables false
set_option linter.unusedSimpArgs false
set_option maxHeartbeats 16000000
set_option maxRecDepth 100000
namespace Go.Proofs.YtopclbeomcggiaaGreat
open Go.RowKit Q
theorem bM:(Tryz.prog.info? 104).map (fun i=>(i.zero,i.size,i.bytes))=some (some (.int .u32 0),1,4):=by kernel_rfl
def rO (w:World) (v:Value) (e:Ending) (w':World):Prop:=e=.returned v/\Below w.heap.size w w'
def Jp (w:World) (p:List Int->Prop) (e:Ending) (w':World):Prop:=∃ v l,e=.returned v/\dH w' v l/\p l/\Below w.heap.size w w'
def lI (w:World) (z:Int) (e:Ending) (w':World):Prop:=∃ neg m,e=.returned (.agg #[.bool neg,m])/\aZ w' neg m z/\Below w.heap.size w w'
theorem xx (x y c:Int) (w:World) (hx0:0<=x) (hx1:x<4294967296) (hy0:0<=y) (hy1:y<4294967296) (hc0:0<=c) (hc1:c<=1) :
  Calls Tryz.prog 164 #[.int .u32 x,.int .u32 y,.int .u32 c] w fun e w'=>e=.returned (.tuple #[.int .u32 ((x+y+c) % 4294967296),.int .u32 ((x+y+c) / 4294967296)])/\w=w':=by
 go_enter Tryz.func164,Tryz.ntmps164
 go_wp2;go_ret2;exact⟨rfl,rfl⟩
theorem VY (x y:BitVec 32):bits .or .u32 (x.toNat:Int) (y.toNat:Int)=((x ||| y).toNat:Int):=by
 have e:bits .or .u32 (x.toNat:Int) (y.toNat:Int)=IntKind.u32.wrap (((BitVec.ofInt 32 (x.toNat:Int)) ||| (BitVec.ofInt 32 (y.toNat:Int))).toNat:Int):=rfl;rw [e,IntKind.wrap_u32,BitVec.ofInt_natCast,BitVec.ofInt_natCast,BitVec.ofNat_toNat,BitVec.ofNat_toNat,BitVec.setWidth_eq,BitVec.setWidth_eq];have:=(x ||| y).isLt;omega
theorem O1 (x y:BitVec 32):bits .and .u32 (x.toNat:Int) (y.toNat:Int)=((x &&& y).toNat:Int):=by
 have e:bits .and .u32 (x.toNat:Int) (y.toNat:Int)=IntKind.u32.wrap (((BitVec.ofInt 32 (x.toNat:Int)) &&& (BitVec.ofInt 32 (y.toNat:Int))).toNat:Int):=rfl;rw [e,IntKind.wrap_u32,BitVec.ofInt_natCast,BitVec.ofInt_natCast,BitVec.ofNat_toNat,BitVec.ofNat_toNat,BitVec.setWidth_eq,BitVec.setWidth_eq];have:=(x &&& y).isLt;omega
theorem Jq (x y:BitVec 32):bits .xor .u32 (x.toNat:Int) (y.toNat:Int)=((x ^^^ y).toNat:Int):=by
 have e:bits .xor .u32 (x.toNat:Int) (y.toNat:Int)=IntKind.u32.wrap (((BitVec.ofInt 32 (x.toNat:Int)) ^^^ (BitVec.ofInt 32 (y.toNat:Int))).toNat:Int):=rfl;rw [e,IntKind.wrap_u32,BitVec.ofInt_natCast,BitVec.ofInt_natCast,BitVec.ofNat_toNat,BitVec.ofNat_toNat,BitVec.setWidth_eq,BitVec.setWidth_eq];have:=(x ^^^ y).isLt;omega
theorem O3 (x:Int) (h0:0<=x) (h1:x<4294967296):∃ b:BitVec 32,x=(b.toNat:Int) :=
 ⟨BitVec.ofNat 32 x.toNat,by rw [BitVec.toNat_ofNat];omega⟩
theorem Uw (b:BitVec 32):((b.toNat:Int) / 2147483648)=if b.msb then 1 else 0:=by
 have:=b.isLt;rw [BitVec.msb_eq_decide];split <;> rename_i h <;> simp at h <;> omega
theorem Gt (x y c:Int) (hx0:0<=x) (hx1:x<4294967296) (hy0:0<=y) (hy1:y<4294967296) (hc0:0<=c) (hc1:c<=1) :
  bits BinOp.or IntKind.u32 (bits BinOp.and IntKind.u32 (bits BinOp.xor IntKind.u32 IntKind.u32.max x) y)
   (bits BinOp.and IntKind.u32 (bits BinOp.xor IntKind.u32 IntKind.u32.max (bits BinOp.xor IntKind.u32 x y)) ((x-y-c) % 4294967296)) / 2147483648=if x<y+c then 1 else 0:=by
 obtain⟨a,rfl⟩:=O3 x hx0 hx1;obtain⟨b,rfl⟩:=O3 y hy0 hy1;obtain⟨d,hd⟩:=O3 (((a.toNat:Int) - b.toNat - c) % 4294967296) (by omega) (by omega);have hm:(IntKind.u32.max:Int)=((BitVec.allOnes 32).toNat:Int):=by decide
 rw [hd,hm,Jq,Jq,Jq,O1,O1,VY,Uw];have ha:=a.isLt;have hb:=b.isLt;have hdl:=d.isLt;have hA:a.msb=decide (2147483648<=a.toNat):=by rw [BitVec.msb_eq_decide]
 have hB:b.msb=decide (2147483648<=b.toNat):=by rw [BitVec.msb_eq_decide]
 have hD:d.msb=decide (2147483648<=d.toNat):=by rw [BitVec.msb_eq_decide]
 have hO:(BitVec.allOnes 32).msb=true:=by decide
 simp only [BitVec.msb_or,BitVec.msb_and,BitVec.msb_xor,hO,hA,hB,hD];by_cases h1:2147483648<=a.toNat <;> by_cases h2:2147483648<=b.toNat <;> by_cases h3:2147483648<=d.toNat <;> simp only [h1,h2,h3,decide_true,decide_false] <;> simp <;> omega
theorem Du (x y c:Int) (w:World) (hx0:0<=x) (hx1:x<4294967296) (hy0:0<=y) (hy1:y<4294967296) (hc0:0<=c) (hc1:c<=1) (q:Int) (hq:q=if x<y+c then 1 else 0) :
  Calls Tryz.prog 163 #[.int .u32 x,.int .u32 y,.int .u32 c] w fun e w'=>e=.returned (.tuple #[.int .u32 ((x-y-c) % 4294967296),.int .u32 q])/\w=w':=by
 have hbb:=Gt x y c hx0 hx1 hy0 hy1 hc0 hc1;rw [<- hq] at hbb;have H:=zH hbb;clear hbb hq
 go_enter Tryz.func163,Tryz.ntmps163
 go_wp2;go_ret2;exact⟨by rw [<- H.out];rfl,rfl⟩
def nC (l1 l2:List Int) (i:Nat) (xs:List Int) (c:Int):Prop :=
 xs.length=l1.length+1/\aH xs/\0<=c/\c<=1/\ah (xs.take i)+bL ^ i*c=ah (l1.take i)+ah (l2.take i)
theorem nC.start {l1 l2:List Int} {xs:List Int} (h:xs.length=l1.length+1) (hx:aH xs):nC l1 l2 0 xs 0:=⟨h,hx,by omega,by omega,by simp [ah]⟩
theorem fJ {l:List Int} (h:aH l) (i:Nat) {x:Int} (hx:0<=x/\x<bL):aH (l.set i x):=fun y hy=>by
 rcases List.mem_or_eq_of_mem_set hy with hy|rfl
 ·exact h y hy
 ·exact hx
theorem oW (l:List Int) (i:Nat) (x:Int) (h:i<l.length):(l.set i x).getD i 0=x:=by simp [h]
theorem mI (xs:List Int) (i:Nat) (x:Int) (h:i<xs.length):ah ((xs.set i x).take (i+1))=ah (xs.take i)+bL ^ i*x:=by
 rw [aL,List.take_set_of_le (Nat.le_refl _),oW _ _ _ h]
theorem nC.step {l1 l2:List Int} {i:Nat} {xs:List Int} {c:Int} (h:nC l1 l2 i xs c) (L1:aH l1) (L2:aH l2) (hi:i<l1.length) :
  nC l1 l2 (i+1) (xs.set i ((l1.getD i 0+l2.getD i 0+c) % 4294967296)) ((l1.getD i 0+l2.getD i 0+c) / 4294967296):=by
 obtain⟨h1,h2,h3,h4,h5⟩:=h;have a1:=L1.getD i;have a2:=L2.getD i;rw [aT] at a1 a2;refine⟨by simpa using h1,fJ h2 i (by rw [aT];omega),by omega,by omega,?_⟩;rw [mI _ _ _ (by omega),aL,aL,Int.pow_succ];have e:=Int.mul_ediv_add_emod (l1.getD i 0+l2.getD i 0+c) 4294967296;generalize (l1.getD i 0+l2.getD i 0+c) % 4294967296=r at *;generalize (l1.getD i 0+l2.getD i 0+c) / 4294967296=q at *;rw [<- aT] at e;generalize ah (List.take i xs)=X at *;have:bL ^ i*(l1.getD i 0+l2.getD i 0+c)=bL ^ i*(bL*q+r):=by rw [e]
 grind
theorem nC.done {l1 l2:List Int} {xs:List Int} {c:Int} (h:nC l1 l2 l1.length xs c) (h2:l2.length<=l1.length) :
  ah (xs.set l1.length c)=ah l1+ah l2/\(xs.set l1.length c).length=l1.length+1/\aH (xs.set l1.length c):=by
 obtain⟨e1,e2,e3,e4,e5⟩:=h;refine⟨?_,by simpa using e1,fJ e2 _ (by rw [aT];omega)⟩;have:ah ((xs.set l1.length c).take (l1.length+1))=ah (xs.set l1.length c):=by rw [List.take_of_length_le (by simp;omega)]
 rw [<- this,mI _ _ _ (by omega),e5,List.take_of_length_le (Nat.le_refl _),List.take_of_length_le h2]
theorem jX (l:List Int) (k:Nat) (h:¬ k<l.length):l.getD k 0=0:=by rw [List.getD_eq_getElem?_getD,List.getElem?_eq_none (by omega)];rfl
theorem iZ (n:Nat):(List.replicate n (Value.int IntKind.u32 0).cells[0]!)=uc (List.replicate n 0):=by simp [uc,Value.cells]
theorem jM (n:Nat):aH (List.replicate n 0):=fun x hx=>by rw [List.eq_of_mem_replicate hx];exact⟨Int.le_refl _,eO⟩
theorem Dw (sw:Bool) (aoA aoB:Option Addr) (capA capB:Nat) (A B:List Int) (w:World) (hAB:B.length<=A.length) (hsw:sw=true->B.length<A.length) (hA:A.length<=68719476736)
  (LA:aH A) (LB:aH B) (mA:At uT w aoA (uc A)) (mB:At uT w aoB (uc B)) :
  Calls Tryz.prog 144 (cond sw #[.slice aoB B.length capB,.slice aoA A.length capA] #[.slice aoA A.length capA,.slice aoB B.length capB]) w
   (Jp w fun l=>ah l=ah A+ah B/\l.length=A.length+1):=by
 have hd:¬ A.length<B.length:=by omega
 cases sw
 all_goals
  simp only [cond];replace hsw:=zH hsw
  try replace hsw:=hsw.out rfl
  go_enter Tryz.func144,Tryz.ntmps144
  go_wp2_with (first
   | (at_make;refine bQ rfl _ _ _ rfl _ (.int .u32 0) 1 4 Tryz.underlying37 bM rfl rfl .i64 .i64 _ _ (A.length+1) rfl rfl (by omega) (by omega) (by omega) (by omega) ?_;intro w1 own1 gr1)
   | (refine zm rfl (.tmp 20) (.tmp 21) _ _ rfl _ Tryz.underlying37 bM _ _ _ _ _ _ rfl rfl _ _ own1 (uc A) (by simp [eQ]) (by omega) (by simp) (fun hp=>let ⟨b,off,e,hc⟩:=mA (by rw [eQ];exact hp);⟨b,off,e,hc.on gr1⟩) (OU _) w.heap.size (Nat.le_refl _) ?_;intro w2 own2 gr2;have hb2:=gr1.trans gr2;clear own1 gr1 gr2))
  have own3:Blk w2 w.heap.size 104 (uc (A++[0])):=by
   have:(uc A++List.drop (uc A).length (List.replicate (A.length+1) (Value.int IntKind.u32 0).cells[0]!))=uc (A++[0]):=by
    rw [eQ,List.drop_replicate,show A.length+1-A.length=1 by omega];simp [uc,Value.cells]
   rw [<- this];exact own2
  clear own2
  go_loopw [6,25] (fun c i wr=>∃ (k:Nat) (xs:List Int) (q:Int),k<=A.length/\i=.int .i64 k/\c=.int .u32 q/\Hid (nC A B k xs q)/\Hid (Blk wr w.heap.size 104 (uc xs))/\Below w.heap.size w wr) (fun _ i _=>A.length-(intOf i).toNat)
  case atStart=>exact⟨0,A++[0],0,Nat.zero_le _,rfl,rfl,zH (nC.start (by simp) (LA.append (aH.nil.cons ⟨Int.le_refl _,eO⟩))),zH own3,hb2⟩
  case round =>
   obtain⟨k,xs,q,hk,rfl,rfl,hinv,hblk,hb⟩:=hrel;have hq:=hinv.out.2.2.1;have hq':=hinv.out.2.2.2.1;have HXL:=zH hinv.out.1;by_cases hlt:k<A.length
   ·obtain⟨b1,o1,e1,hc⟩:=mA (by rw [eQ];omega);have hcA:wr.cell? ⟨b1,o1+k,none⟩=some (.int .u32 (A.getD k 0)):=(hc.keep hb (hc.lt)).ucell k hlt;have E1:=zH e1;clear e1 hc;have hcx:wr.cell? ⟨w.heap.size,k,none⟩=some (.int .u32 (xs.getD k 0)):=hblk.out.ucell k (by have:=HXL.out;omega);have hfx:wr.frozen? ⟨w.heap.size,k,none⟩=false:=hblk.out.frozen k;have a1:=(LA.getD k).1;have a1':A.getD k 0<4294967296:=(LA.getD k).2;have a2:=(LB.getD k).1;have a2':B.getD k 0<4294967296:=(LB.getD k).2;have HST:=zH (hinv.out.step LA LB hlt)
    have hcB:k<B.length->∃ b2 o2,Hid (aoB=some ⟨b2,o2,none⟩)/\wr.cell? ⟨b2,o2+k,none⟩=some (.int .u32 (B.getD k 0)):=fun h=>by
     obtain⟨b2,o2,e2,hc⟩:=mB (by rw [eQ];omega);exact⟨b2,o2,zH e2,(hc.keep hb (hc.lt)).ucell k h⟩
    have hz2:=jX B k;generalize A.getD k 0=x at *;generalize B.getD k 0=y at *;by_cases hl2:k<B.length
    ·obtain⟨b2,o2,E2,hcB⟩:=hcB hl2;clear hz2
     go_wp2_with (first
      | (refine aj rfl (.tmp 32) (.tmp 33) _ rfl _ Tryz.underlying37 _ _ _ bM _ _ _ rfl _ _ rfl k rfl hl2 b2 o2 E2.out ?_;rw [Nat.mul_one])
      | (refine aj rfl (.tmp 39) (.tmp 40) _ rfl _ Tryz.underlying37 _ _ _ bM _ _ _ rfl _ _ rfl k rfl hlt b1 o1 E1.out ?_;rw [Nat.mul_one])
      | (go_at_call 164;refine (xx _ _ _ _ (by assumption) (by assumption) (by assumption) (by assumption) (by assumption) (by assumption)).mono ?_;rintro e w' ⟨rfl,rfl⟩))
     go_roundw
     case rel=>exact⟨k+1,_,_,by omega,by go_num,rfl,HST,zH (hblk.out.uset k _),hb.setCell (Nat.le_refl _) _⟩
     case measure=>simp [intOf];omega
    ·obtain rfl:=hz2 hl2;clear hcB
     go_wp2_with (first
      | (refine aj rfl (.tmp 39) (.tmp 40) _ rfl _ Tryz.underlying37 _ _ _ bM _ _ _ rfl _ _ rfl k rfl hlt b1 o1 E1.out ?_;rw [Nat.mul_one])
      | (go_at_call 164;refine (xx _ _ _ _ (by assumption) (by assumption) (by assumption) (by assumption) (by assumption) (by assumption)).mono ?_;rintro e w' ⟨rfl,rfl⟩))
     go_roundw
     case rel=>exact⟨k+1,_,_,by omega,by go_num,rfl,(by simpa only [Int.add_zero] using HST),zH (hblk.out.uset k _),hb.setCell (Nat.le_refl _) _⟩
     case measure=>simp [intOf];omega
   ·have hkl:k=A.length:=by omega
    subst hkl;have hcx:wr.cell? ⟨w.heap.size,A.length,none⟩=some (.int .u32 (xs.getD A.length 0)):=hblk.out.ucell _ (by have:=HXL.out;omega);have hfx:wr.frozen? ⟨w.heap.size,A.length,none⟩=false:=hblk.out.frozen _;have HD:=hinv.out.done hAB;have HB:=hblk.out.uset A.length q;generalize xs.getD A.length 0=x at *;replace HD:=zH HD;replace HB:=zH HB;go_wp2;go_ret;refine⟨_,_,rfl,?_,⟨HD.out.1,HD.out.2.1⟩,hb.setCell (Nat.le_refl _) _⟩;have:=HB.out.u32s HD.out.2.2;rw [HD.out.2.1] at this;exact this
theorem O4 (v1 v2:Value) (l1 l2:List Int) (w:World) (h1:dH w v1 l1) (h2:dH w v2 l2) (b1:l1.length<=68719476736) (b2:l2.length<=68719476736) :
  Calls Tryz.prog 144 #[v1,v2] w (Jp w fun l=>ah l=ah l1+ah l2/\l.length=max l1.length l2.length+1):=by
 obtain⟨ao1,c1,rfl,_,L1,m1⟩:=h1;obtain⟨ao2,c2,rfl,_,L2,m2⟩:=h2;by_cases h:l1.length<l2.length
 ·refine (Dw true ao2 ao1 c2 c1 l2 l1 w (by omega) (fun _=>h) b2 L2 L1 m2 m1).mono ?_;rintro e w' ⟨v,l,rfl,hu,⟨he,hl⟩,hb⟩;exact⟨v,l,rfl,hu,⟨by omega,by omega⟩,hb⟩
 ·refine (Dw false ao1 ao2 c1 c2 l1 l2 w (by omega) (fun h=>by cases h) b1 L1 L2 m1 m2).mono ?_;rintro e w' ⟨v,l,rfl,hu,⟨he,hl⟩,hb⟩;exact⟨v,l,rfl,hu,⟨by omega,by omega⟩,hb⟩
def lJ (l1 l2:List Int) (i:Nat) (xs:List Int) (c:Int):Prop :=
 xs.length=l1.length/\aH xs/\0<=c/\c<=1/\ah (xs.take i)-bL ^ i*c=ah (l1.take i)-ah (l2.take i)
theorem lJ.start {l1 l2:List Int} {xs:List Int} (h:xs.length=l1.length) (hx:aH xs):lJ l1 l2 0 xs 0:=⟨h,hx,by omega,by omega,by simp [ah]⟩
theorem lJ.step {l1 l2:List Int} {i:Nat} {xs:List Int} {c:Int} (h:lJ l1 l2 i xs c) (L1:aH l1) (L2:aH l2) (hi:i<l1.length) :
  lJ l1 l2 (i+1) (xs.set i ((l1.getD i 0-l2.getD i 0-c) % 4294967296)) (if l1.getD i 0<l2.getD i 0+c then 1 else 0):=by
 obtain⟨h1,h2,h3,h4,h5⟩:=h;have a1:=L1.getD i;have a2:=L2.getD i;rw [aT] at a1 a2;refine⟨by simpa using h1,fJ h2 i (by rw [aT];omega),by split <;> omega,by split <;> omega,?_⟩;rw [mI _ _ _ (by omega),aL,aL,Int.pow_succ];have e:(l1.getD i 0 - l2.getD i 0 - c) % 4294967296=l1.getD i 0 - l2.getD i 0 - c+4294967296*(if l1.getD i 0<l2.getD i 0+c then 1 else 0):=by split <;> omega
 generalize (l1.getD i 0-l2.getD i 0-c) % 4294967296=r at *;generalize (if l1.getD i 0<l2.getD i 0+c then (1:Int) else 0)=q at *;rw [<- aT] at e;generalize ah (List.take i xs)=X at *;subst e;grind
theorem lJ.done {l1 l2:List Int} {xs:List Int} {c:Int} (h:lJ l1 l2 l1.length xs c) (h2:l2.length<=l1.length) (nz:ah l2<=ah l1) :
  ah xs=ah l1-ah l2:=by
 obtain⟨e1,e2,e3,e4,e5⟩:=h;rw [List.take_of_length_le (by omega),List.take_of_length_le (Nat.le_refl _),List.take_of_length_le h2] at e5;have h3:=il e2;rw [e1] at h3
 have:c=0:=by
  rcases (show c=0\/c=1 by omega) with h|h
  ·exact h
  ·subst h;omega
 subst this;omega
theorem iD {l1 l2:List Int} (L1:aH l1) (L2:aH l2) (n2:iU l2) (h:ah l2<=ah l1):l2.length<=l1.length :=
 n2.len_le L2 (by have:=il L1;omega)
theorem Jr (aoA aoB:Option Addr) (capA capB:Nat) (A B:List Int) (w:World) (hAB:B.length<=A.length) (nz:ah B<=ah A) (hA:A.length<=68719476736)
  (LA:aH A) (LB:aH B) (mA:At uT w aoA (uc A)) (mB:At uT w aoB (uc B)) :
  Calls Tryz.prog 143 #[.slice aoA A.length capA,.slice aoB B.length capB] w
   (Jp w fun l=>ah l=ah A-ah B/\l.length=A.length):=by
 go_enter Tryz.func143,Tryz.ntmps143
 go_wp2_with (first
  | (at_make;refine bQ rfl _ _ _ rfl _ (.int .u32 0) 1 4 Tryz.underlying37 bM rfl rfl .i64 .i64 _ _ A.length rfl rfl (by omega) (by omega) (by omega) (by omega) ?_;intro w1 own1 gr1))
 rw [iZ] at own1
 go_loopw [6,14] (fun c i wr=>∃ (k:Nat) (xs:List Int) (q:Int),k<=A.length/\i=.int .i64 k/\c=.int .u32 q/\Hid (lJ A B k xs q)/\Hid (Blk wr w.heap.size 104 (uc xs))/\Below w.heap.size w wr) (fun _ i _=>A.length-(intOf i).toNat)
 case atStart=>exact⟨0,List.replicate A.length 0,0,Nat.zero_le _,rfl,rfl,zH (lJ.start (by simp) (jM _)),zH own1,gr1⟩
 case round =>
  obtain⟨k,xs,q,hk,rfl,rfl,hinv,hblk,hb⟩:=hrel;have hq:=hinv.out.2.2.1;have hq':=hinv.out.2.2.2.1;have HXL:=zH hinv.out.1;by_cases hlt:k<A.length
  ·obtain⟨b1,o1,e1,hc⟩:=mA (by rw [eQ];omega);have hcA:wr.cell? ⟨b1,o1+k,none⟩=some (.int .u32 (A.getD k 0)):=(hc.keep hb (hc.lt)).ucell k hlt;have E1:=zH e1;clear e1 hc;have hcx:wr.cell? ⟨w.heap.size,k,none⟩=some (.int .u32 (xs.getD k 0)):=hblk.out.ucell k (by have:=HXL.out;omega);have hfx:wr.frozen? ⟨w.heap.size,k,none⟩=false:=hblk.out.frozen k;have a1:=(LA.getD k).1;have a1':A.getD k 0<4294967296:=(LA.getD k).2;have a2:=(LB.getD k).1;have a2':B.getD k 0<4294967296:=(LB.getD k).2;have HST:=zH (hinv.out.step LA LB hlt)
   have hcB:k<B.length->∃ b2 o2,Hid (aoB=some ⟨b2,o2,none⟩)/\wr.cell? ⟨b2,o2+k,none⟩=some (.int .u32 (B.getD k 0)):=fun h=>by
    obtain⟨b2,o2,e2,hc⟩:=mB (by rw [eQ];omega);exact⟨b2,o2,zH e2,(hc.keep hb (hc.lt)).ucell k h⟩
   have hz2:=jX B k;generalize A.getD k 0=x at *;generalize B.getD k 0=y at *;obtain⟨c',hc'⟩:∃ c',c'=(if x<y+q then (1:Int) else 0):=⟨_,rfl⟩;rw [<- hc'] at HST;have HC:=zH hc';clear hc';by_cases hl2:k<B.length
   ·obtain⟨b2,o2,E2,hcB⟩:=hcB hl2;clear hz2
    go_wp2_with (first
     | (refine aj rfl (.tmp 21) (.tmp 22) _ rfl _ Tryz.underlying37 _ _ _ bM _ _ _ rfl _ _ rfl k rfl hl2 b2 o2 E2.out ?_;rw [Nat.mul_one])
     | (refine aj rfl (.tmp 28) (.tmp 29) _ rfl _ Tryz.underlying37 _ _ _ bM _ _ _ rfl _ _ rfl k rfl hlt b1 o1 E1.out ?_;rw [Nat.mul_one])
     | (go_at_call 163;refine (Du _ _ _ _ (by assumption) (by assumption) (by assumption) (by assumption) (by assumption) (by assumption) _ HC.out).mono ?_;rintro e w' ⟨rfl,rfl⟩))
    go_roundw
    case rel=>exact⟨k+1,_,_,by omega,by go_num,rfl,HST,zH (hblk.out.uset k _),hb.setCell (Nat.le_refl _) _⟩
    case measure=>simp [intOf];omega
   ·obtain rfl:=hz2 hl2;clear hcB
    go_wp2_with (first
     | (refine aj rfl (.tmp 28) (.tmp 29) _ rfl _ Tryz.underlying37 _ _ _ bM _ _ _ rfl _ _ rfl k rfl hlt b1 o1 E1.out ?_;rw [Nat.mul_one])
     | (go_at_call 163;refine (Du _ _ _ _ (by assumption) (by assumption) (by assumption) (by assumption) (by assumption) (by assumption) _ HC.out).mono ?_;rintro e w' ⟨rfl,rfl⟩))
    go_roundw
    case rel=>exact⟨k+1,_,_,by omega,by go_num,rfl,(by simpa only [Int.sub_zero] using HST),zH (by simpa only [Int.sub_zero] using hblk.out.uset k _),hb.setCell (Nat.le_refl _) _⟩
    case measure=>simp [intOf];omega
  ·have hkl:k=A.length:=by omega
   subst hkl;have HD:=zH (hinv.out.done hAB nz);have HL:=zH hinv.out.2.1;clear hinv nz;go_wp2;go_ret;refine⟨_,_,rfl,?_,⟨HD.out,HXL.out⟩,hb⟩;have:=hblk.out.u32s HL.out;rw [HXL.out] at this;exact this
theorem xy (v1 v2:Value) (l1 l2:List Int) (w:World) (h1:dH w v1 l1) (h2:dH w v2 l2) (b1:l1.length<=68719476736) (hlen:l2.length<=l1.length) (nz:ah l2<=ah l1) :
  Calls Tryz.prog 143 #[v1,v2] w (Jp w fun l=>ah l=ah l1-ah l2/\l.length=l1.length):=by
 obtain⟨ao1,c1,rfl,_,L1,m1⟩:=h1;obtain⟨ao2,c2,rfl,_,L2,m2⟩:=h2;exact Jr ao1 ao2 c1 c2 l1 l2 w hlen nz b1 L1 L2 m1 m2
end Go.Proofs.YtopclbeomcggiaaGreat
