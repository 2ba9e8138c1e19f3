/- The fixed examples: plain values. -/
import Derived.Test.YtopclbeomcggiaaGreatZ29
import Derived.Test.YtopclbeomcggiaaGreatZ30
set_option linter.unusedVariables false
set_option linter.unusedSimpArgs false
set_option maxHeartbeats 16000000
set_option maxRecDepth 100000
section
namespace Q
open Go.Proofs.YtopclbeomcggiaaGreat
def tm (c i k:Int):ai:=((i,k,0,0),(c:Rat))
theorem zau:Jz 0=[tm 1 1 0]:=dK
theorem zav:Jz 1=[tm 1 0 1]:=dK
end Q
end
section
namespace Q
open Go Go.Proofs.YtopclbeomcggiaaGreat
def smB (B E N:Nat) (l:List ai):Bool :=
 decide (l.length<=N)&&l.all (λt=>decide (-(E:Int)<=t.1.1)&&decide (t.1.1<=E)&&decide (-(E:Int)<=t.1.2.1)&&decide (t.1.2.1<=E)&&decide (-(E:Int)<=t.1.2.2.1)&&decide (t.1.2.2.1<=E)&&decide (-(E:Int)<=t.1.2.2.2)&&decide (t.1.2.2.2<=E)&&decide (t.2.den=1))&&decide (bL l<=(B:Rat))
theorem TJ{B E N:Nat}{l:List ai}(h:smB B E N l=true):Bd ⟨1,B,E,N⟩ l:=by
 simp only[smB,Bool.and_eq_true,decide_eq_true_eq,List.all_eq_true]at h;obtain⟨⟨o,d⟩,p⟩:=h;refine⟨o,λt b=>?_,λt b=>?_,p⟩
 ·obtain⟨⟨⟨⟨⟨⟨⟨⟨a1,a2⟩,e⟩,i⟩,j⟩,k⟩,m⟩,n⟩,-⟩:=d t b;exact⟨a1,a2,e,i,j,k,m,n⟩
 ·obtain⟨-,hd⟩:=d t b;refine⟨t.2.num,?_⟩
  have:(t.2.num:Rat)=t.2:=by refine Rat.ext rfl ?_;rw[hd];rfl
  rw[this];show t.2*((1:Nat):Rat)=t.2;rw[show((1:Nat):Rat)=1 from rfl,Rat.mul_one]
def S1:Sz:=⟨1,100,10,10⟩
def sm (l:List ai):Bool:=smB 100 10 10 l
def psB (D R:List (List ai)):Bool:=(List.range (R.length-1)).all λi =>
 (sm (R.getD i [])&&sm (D.getD (D.length-1) [])) &&
 (!decide (R.length-1-(D.length-1)<=i) ||
  ((sm (R.getD (R.length-1) [])&&sm (D.getD (i-(R.length-1-(D.length-1))) [])) &&
  (sm (aO (R.getD i []) (D.getD (D.length-1) []))&&sm (aO (R.getD (R.length-1) []) (D.getD (i-(R.length-1-(D.length-1))) []))&&IC (aO (R.getD i []) (D.getD (D.length-1) []))&&IC (aO (R.getD (R.length-1) []) (D.getD (i-(R.length-1-(D.length-1))) [])))))
def zaw (D:List (List ai)):Nat->List (List ai)->Bool
 | 0,_=>true
 | f+1,R=>!decide (D.length-1<R.length) || (psB D R&&zaw D f (gm D R))
def szH (k:Nat):Sz:=⟨1,2^(k+1)-1,k+1,2^(k+1)-1⟩
end Q
end
section
namespace Q
open Go Go.RowKit Go.Proofs.YtopclbeomcggiaaGreat
def ae.polyT {g:Option Nat} {T:TypeId} (hT:uT≠T) (hT':aR≠T) (l:List ai) (x:Value):ae (Lr g T):=ae.of (λv w=>∃u,v=.tuple #[u,x]/\aj w u l) (λ_ _ _ hb=>λ⟨u,e,h⟩=>⟨u,e,h.lr hb hT hT'⟩)
def ae.polys {g:Option Nat} {T:TypeId} (hT:uT≠T) (hT':aR≠T) (h3:Go.Proofs.YtopclbeomcggiaaGreat.polyT≠T) (L:List (List ai)):ae (Lr g T):=ae.of (λv w=>gB w v L) (λ_ _ _ hb h=>bZ.lr h hb ⟨hT,hT'⟩ h3)
end Q
namespace Go.Proofs.YtopclbeomcggiaaGreat
open Go.RowKit Q
variable {w:World} {v u:Value} {l p q r:List ai}
end Go.Proofs.YtopclbeomcggiaaGreat
end
section
namespace Q
open Go Go.Proofs.YtopclbeomcggiaaGreat
def zaV (t:Int × Int × Int × Int × Int):ai:=((t.1%3,t.2.1%4-1,t.2.2.1%2,t.2.2.2.1%2),((t.2.2.2.2.tmod 4:Int):Rat))
abbrev Wj:=Int × Int × Int × Int × Int
def Zt (t:Wj):Prop:=(0<=t.1/\t.1<256)/\(0<=t.2.1/\t.2.1<256)/\(0<=t.2.2.1/\t.2.2.1<256)/\(0<=t.2.2.2.1/\t.2.2.2.1<256)/\-128<=t.2.2.2.2/\t.2.2.2.2<128
end Q
namespace Go.Proofs.YtopclbeomcggiaaGreat
open Go.RowKit Q
def Xq (t:Int × Int × Int × Int × Int):List Value:=[.int .u8 t.1,.int .u8 t.2.1,.int .u8 t.2.2.1,.int .u8 t.2.2.2.1,.int .i8 t.2.2.2.2]
def Yf (T:TypeId):El Wj where
 T:=T
 sz:=5
 pos:=by decide
 E _ cs t:=cs=Xq t/\Zt t
 len:=by rintro w c t ⟨rfl,h⟩;rfl
 one:=by rintro w c t ⟨rfl,h⟩ v hv;simp only[Xq,List.mem_cons,List.not_mem_nil,or_false]at hv;rcases hv with rfl|rfl|rfl|rfl|rfl<;>rfl
 on:=λh _=>h
 ok _:=True
 lr:=λh _ _=>h
 self:=trivial
def zax (w:World) (v:Value) (l:List Wj):Prop:=∃T,bZ (Yf T) w v l
end Go.Proofs.YtopclbeomcggiaaGreat
end
section
namespace Q
open Go Go.Proofs.YtopclbeomcggiaaGreat
def Wj.get (t:Wj) (v:Nat):Int:=match v with|0=>t.1|1=>t.2.1|2=>t.2.2.1|_=>t.2.2.2.1
def Yg (t:Wj) (k:Nat):Ex:=(if 0<k then t.1%3 else 0,if 1<k then t.2.1%3 else 0,if 2<k then t.2.2.1%3 else 0,if 3<k then t.2.2.2.1%3 else 0)
def Zu (vs:Nat) (t:Wj):ai:=(Yg t vs,((t.2.2.2.2.tmod 10:Int):Rat))
def Zv (L:List Wj) (n vs:Nat):List ai:=(L.take n).map (Zu vs)
def zaR (L:List Wj) (n vs:Nat):List ai:=canon (Zv L n vs)
end Q
namespace Go.Proofs.YtopclbeomcggiaaGreat
open Go.RowKit Q
end Go.Proofs.YtopclbeomcggiaaGreat
namespace Q
open Go Go.RowKit Q Go.Proofs.YtopclbeomcggiaaGreat
end Q
namespace Go.Proofs.YtopclbeomcggiaaGreat
open Go.RowKit Q
end Go.Proofs.YtopclbeomcggiaaGreat
end
section
namespace Go.Proofs.YtopclbeomcggiaaGreat
open Go.RowKit Q Go.WideMaps Go.Maps
end Go.Proofs.YtopclbeomcggiaaGreat
end
section
namespace Q
open Go Go.Proofs.YtopclbeomcggiaaGreat
structure Pk (s:Sz) (p:List ai):Prop where
 v:aY p
 b:Bd s p
 k:s.ok
namespace Pk
variable {s t:Sz} {p q:List ai}
theorem mul(h:Pk s p)(d:Pk t q)(k:(s.mul t).ok):Pk (s.mul t) (aO p q):=⟨aY.mul _ _,(h.b.prods d.b).canon,k⟩
theorem rs(h:Pk s p):∀t∈p,Rs t.2:=h.b.rs h.k
theorem rk(h:Pk s p):∀t∈p,Rk t.2:=λt b=>(h.rs t b).rk
theorem ir(h:Pk s p):∀t∈p,InR t.1/\Rk t.2:=λt d=>⟨h.b.inR h.k t d,h.rk t d⟩
theorem len(h:Pk s p):p.length<=100000000:=h.b.len h.k
theorem nil(k:s.ok):Pk s []:=⟨aY.nil,Bd.nil _,k⟩
end Pk
structure Wr (p:List ai):Prop where
 v:aY p
 rs:∀t∈p,Rs t.2
 ir:∀t∈p,Go.Proofs.YtopclbeomcggiaaGreat.InR t.1
 len:p.length<=100000000
theorem Pk.wr{s:Sz}{p:List ai}(h:Pk s p):Wr p:=⟨h.v,h.rs,λt b=>(h.ir t b).1,h.len⟩
theorem Yh{c:Rat}(h:Rs c):Rs (c*(-1)):=by rw[(gR:c*(-1)=-c)];exact⟨by rw[Rat.neg_den];exact h.1,by rw[Rat.neg_num,Int.natAbs_neg];exact h.2⟩
theorem Wr.neg{p:List ai}(h:Wr p):Wr (bY p (-1)):=by
 refine⟨h.v.scale _,λt b=>?_,λt b=>?_,?_⟩
 ·rw[bY,if_neg dK]at b;obtain⟨s,d,rfl⟩:=List.mem_map.1 b;exact Yh (h.rs s d)
 ·rw[bY,if_neg dK]at b;obtain⟨s,d,rfl⟩:=List.mem_map.1 b;exact h.ir s d
 ·rw[bY,if_neg dK,List.length_map];exact h.len
end Q
namespace Go.Proofs.YtopclbeomcggiaaGreat
open Go.RowKit Q
variable {w:World} {v u:Value} {s t:Sz} {p q:List ai}
theorem sK(b:Pk s p)(d:Pk t q)(e:p=q)(hp:aj w v p)(hq:aj w u q):Calls Tryz.prog 13 #[v,u] w (oP w (.bool true)) :=
 (decide_eq_true e)▸QO v u p q w hp hq b.rk d.rk b.len
theorem um(b:Pk s p)(hp:aj w v p):Calls Tryz.prog 22 #[v] w (oP w (.bool true)) :=
 (sI.2 b.v)▸Nk v p w hp b.rs b.len
end Go.Proofs.YtopclbeomcggiaaGreat
end
section
namespace Q
theorem uo{p:List ai}{m:ai}(h:m.2≠0):kR p m=prods p [m]:=by
 rw[kR,if_neg h]
 induction p with
 | nil=>rfl
 | cons s p b=>rw[List.map_cons,b];rfl
theorem QY(x:Pt)(t:ai):ev x [t]=t.2*lw x t.1:=by rw[kU,dJ];grind
theorem TK{p q:List ai}{k:Nat}{t:ai}(hp:aY p)(hq:aY q)(h:q[k]?=some t):dQ (aO p (q.take k)) (kR p t)=aO p (q.take (k+1)):=by have b:t.1.nat=true:=(hq.2 t (List.mem_of_getElem? h)).2;have d:=(hq.sublist (List.take_sublist k q)).nat;have e:=(hq.sublist (List.take_sublist (k+1) q)).nat;rw[si (aY.mul _ _) (hp.times b)];refine lK (aY.add _ _) (aY.mul _ _) λx=>?_;rw[ev_add x (aY.mul _ _).nat (hp.times b).nat,ev_mul x hp.nat d,TE x hp.nat b,ev_mul x hp.nat e,List.take_add_one,h];simp only[Option.toList_some];rw[qj,QY,Rat.mul_add]
theorem TL(e:Ex):e.add e0=e:=by simp[Ex.add,e0]
theorem IE(p:List ai)(c:Rat):kR p (e0,c)=bY p c:=by
 unfold kR bY;split
 ·rfl
 ·refine List.map_congr_left λt _=>?_;simp only[mulT,TL]
namespace Pk
variable {s t:Sz} {p q:List ai}
theorem times(h:Pk s p)(d:Pk t q)(k:(s.mul t).ok){u:ai}(hu:u∈q):Bd (s.mul t) (kR p u)/\∀a∈p,Go.Proofs.YtopclbeomcggiaaGreat.InR (a.1.add u.1):=by have hz:u.2≠0:=(d.v.2 u hu).1;have hb:Bd t [u]:=d.b.sub (List.singleton_sublist.2 hu);have hp:=h.b.prods hb;refine⟨by rw[uo hz];exact hp,λa ha=>?_⟩;exact hp.inR k (mulT a u) (List.mem_flatMap.2 ⟨a,ha,sM⟩)
theorem take(h:Pk s p)(k:Nat):Pk s (p.take k):=⟨h.v.sublist (List.take_sublist _ _),h.b.take k,h.k⟩
end Pk
end Q
namespace Go.Proofs.YtopclbeomcggiaaGreat
open Go.RowKit Q Go.WideMaps Go.Maps
theorem Zw{vp vq:Value}{p q:List ai}{w:World}(hP:Wr p)(hQ:Wr q)(n:∀k,Wr (aO p (q.take k)))(j:∀u∈q,Wr (kR p u)/\∀t∈p,InR (t.1.add u.1))(hp:aj w vp p)(hq:aj w vq q):Calls Tryz.prog 12 #[vp,vq] w (aN w (aO p q)):=by
 obtain⟨ap,cp,rfl,F⟩:=hp.shape;obtain⟨I,J,rfl,G⟩:=hq.shape;have C:=hQ.len;replace n:=zH n;replace j:=zH j;have z:=zH (λk t (h:q[k]?=some t)=>TK hP.v hQ.v h)
 go_enter Tryz.func12,Tryz.ntmps12
 go_wp2;have hb0:Below w.heap.size w (w.alloc (.cells #[] aR)):=(Below.refl _ _).alloc (nL _) _;have s:aj (w.alloc (.cells #[] aR)) (.slice (some ⟨w.heap.size,0,none⟩) 0 0) []:=(gF aT w).isSl;change Below w.heap.size w (w.alloc (.cells #[] 43))at hb0;change aj (w.alloc (.cells #[] 43)) _ _ at s;replace hp:=zH hp;replace hq:=zH hq
 go_loopw [5,6] (λo i wr=>∃k:Nat,k<=q.length/\i=.int .i64 k/\Hid (aj wr o (aO p (q.take k)))/\Below w.heap.size w wr) (λ_ i _=>q.length-(intOf i).toNat)
 case atStart=>exact⟨0,oM,rfl,zH (by rw[List.take_zero,uK];exact s),hb0⟩
 case round =>
  clear s hb0;obtain⟨k,L,rfl,hO,d⟩:=hrel;by_cases y:k<q.length
  ·have m:q[k]?=some q[k]:=gE y;generalize q[k]=t at m;obtain⟨D,oq,rt,rfl,r,hC⟩:=fO (hq.out.on d) m;have B:(k:Int)<q.length:=oM;have hr:=hC.range;have h8:(bI t.1++rt).length=8:=by rw[List.length_append,r.len];rfl
   have b:=List.mem_of_getElem? m;have x:=xC _ p _ t wr (hp.out.on d) ⟨rt,rfl,r⟩ hP.rs (hQ.rs t b) (j.out t b).2 hP.len;have l:=λW u (hb:Below wr.heap.size wr W) (hu:aj W u (kR p t))=>Ec u5 u _ _ W (hO.out.on hb) hu (n.out k).rs (j.out t b).1.rs (n.out k).len (j.out t b).1.len;rw[z.out k t m]at l;clear hC b r;replace x:=zH x;replace l:=zH l
   go_wp2_with (first
    | (refine ak rfl _ _ 27 rfl aR Tryz.underlying27 _ 8 96 kM _ _ _ rfl .i64 _ rfl k rfl y D oq rfl ?_)
    | (refine wpList_load_mid rfl 43 _ rfl _ _ rfl _ _ hr Tryz.underlying43 rfl (by rw[h8];kernel_rfl) ?_)
    | (go_at_call 44;refine x.out.mono ?_;rintro en w3 ⟨v3,rfl,hv3,hb3⟩)
    | (go_at_call 39;refine(l.out _ _ hb3 hv3).mono ?_;rintro en w4 ⟨v4,rfl,hv4,hb4⟩))
   have hb34:=hb3.trans (hb4.mono hb3.size);go_roundw
   case rel=>exact⟨k+1,oM,nM,zH hv4,d.trans (hb34.mono d.size)⟩
   case measure=>simp[intOf];omega
  ·obtain rfl:k=q.length:=oM;rw[tL (nL _)]at hO;go_wp2;go_ret;exact⟨_,rfl,hO.out,d⟩
theorem uz{s t:Sz}{vp vq:Value}{p q:List ai}{w:World}(b:Pk s p)(d:Pk t q)(e:(s.mul t).ok)(hp:aj w vp p)(hq:aj w vq q):Calls Tryz.prog 12 #[vp,vq] w (aN w (aO p q)) :=
 Zw b.wr d.wr (λk=>(b.mul (d.take k) e).wr) (λu hu=>⟨(Pk.wr (s:=s.mul t) ⟨b.v.times (d.v.2 u hu).2,(b.times d e hu).1,e⟩),(b.times d e hu).2⟩) hp hq
theorem xE(vp k:Value)(p:List ai)(c:Rat)(w:World)(hp:aj w vp p)(hc:bX w k c)(j:∀t∈p,Rs t.2)(i:Rs c)(b:∀t∈p,InR t.1)(n:p.length<=100000000) :
  Calls Tryz.prog 42 #[vp,k] w (aN w (bY p c)):=by
 obtain⟨n5,a5,k5,c5,n6,a6,k6,c6,rfl⟩:=gD hc;have d:=zH (λW (hb:Below w.heap.size w W)=>xC vp p (bI e0++[.bool n5,.slice a5 k5 c5,.bool n6,.slice a6 k6 c6]) (e0,c) W (hp.on hb) ⟨_,rfl,(hc.on hb).cellsC⟩ j i (λt m=>by rw[TL];exact b t m) n);rw[IE]at d;replace hp:=zH hp;replace hc:=zH hc;clear j i b
 go_enter Tryz.func42,Tryz.ntmps42
 go_upto_region 1 with (fail)
 refine jC λW hb0 B l=>?_;have y1:=B.at1 0 _ rfl;have y2:=B.at1 1 _ rfl;have y3:=B.at1 2 _ rfl;have y4:=B.at1 3 _ rfl
 go_wp2_with (go_at_call 44;refine(d.out _ hb0).mono ?_;rintro en w3 ⟨v3,rfl,hv3,hb3⟩)
 go_ret;exact⟨_,rfl,hv3,hb0.trans (hb3.mono hb0.size)⟩
theorem TM:Rs (-1:Rat):=D7 (s:=⟨1,1,0,1⟩) dK (Dv.int 1 (-1)) (show bO (((-1:Int)):Rat)<=((1:Nat):Rat) by rw[rabs_int];exact Rat.natCast_le_natCast.2 dM)
theorem Yi{s:Sz}{vp d:Value}{p:List ai}{c:Rat}{w:World}(b:Pk s p)(h:Rs c)(hp:aj w vp p)(hc:bX w d c):Calls Tryz.prog 42 #[vp,d] w (aN w (bY p c)) :=
 xE vp d p c w hp hc b.rs h (λt e=>(b.ir t e).1) b.len
theorem TN{s t:Sz}{v u:Value}{p q:List ai}{w:World}(b:Pk s p)(d:Pk t q)(hp:aj w v p)(hq:aj w u q):Calls Tryz.prog 39 #[v,u] w (aN w (mP p q)) :=
 si b.v d.v▸Ec v u p q w hp hq b.rs d.rs b.len d.len
theorem Zx{vp vq:Value}{p q:List ai}{w:World}(hP:Wr p)(hQ:Wr q)(hp:aj w vp p)(hq:aj w vq q):Calls Tryz.prog 35 #[vp,vq] w (aN w (dL p q)):=by
 have b:=zH (λW u (hb:Below w.heap.size w W) (hu:bX W u (((-1:Int)):Rat))=>xE vq u q (-1) W (hq.on hb) hu hQ.rs TM hQ.ir hQ.len);have ha:=zH (λW u (hb:Below w.heap.size w W) (hu:aj W u (bY q (-1)))=>si hP.v (hQ.v.scale (-1))▸Ec vp u p _ W (hp.on hb) hu hP.rs hQ.neg.rs hP.len hQ.neg.len);replace hp:=zH hp;replace hq:=zH hq
 go_enter Tryz.func35,Tryz.ntmps35
 go_wp2_with (first
  | (go_at_call 24;refine(iW (-1) _ oM oM).mono ?_;rintro en w3 ⟨v3,rfl,hv3,hb3⟩)
  | (go_at_call 42;refine(b.out _ _ hb3 hv3).mono ?_;rintro en w4 ⟨v4,rfl,hv4,hb4⟩)
  | (go_at_call 39;refine(ha.out _ _ (hb3.trans (hb4.mono hb3.size)) hv4).mono ?_;rintro en w5 ⟨v5,rfl,hv5,hb5⟩))
 have hb34:=hb3.trans (hb4.mono hb3.size);go_ret;exact⟨_,rfl,hv5,hb34.trans (hb5.mono hb34.size)⟩
theorem TP{s t:Sz}{vp vq:Value}{p q:List ai}{w:World}(b:Pk s p)(d:Pk t q)(e:(t.mul ⟨1,1,0,1⟩).ok)(hp:aj w vp p)(hq:aj w vq q):Calls Tryz.prog 35 #[vp,vq] w (aN w (dL p q)):=Zx b.wr d.wr hp hq
end Go.Proofs.YtopclbeomcggiaaGreat
end
section
namespace Q
open Go Go.Proofs.YtopclbeomcggiaaGreat
def szp (s:Sz) (n:Nat):Sz:=⟨s.D^n,s.B^n,s.E*n,s.N^n⟩
theorem Yj:Bd ⟨1,1,0,1⟩ (cK 1):=TJ dK
theorem Yk:Pk ⟨1,1,0,1⟩ (cK 1):=⟨aY.const 1,Yj,dK⟩
namespace Pk
variable {s t:Sz} {p q:List ai}
end Pk
end Q
namespace Go.Proofs.YtopclbeomcggiaaGreat
open Go.RowKit Q
end Go.Proofs.YtopclbeomcggiaaGreat
end
section
namespace Q
open Go Go.RowKit Go.Proofs.YtopclbeomcggiaaGreat
theorem KR{s:Sz}{p:List ai}(h:Bd s p)(v:Nat)(n:Int):Bd s (aG p v n):=by
 have i:Bd s (p.filter λt=>t.1.get v=n):=h.sub List.filter_sublist;refine⟨by unfold aG;rw[List.length_map];exact i.n,λt j=>?_,λt j=>?_,?_⟩
 ·obtain⟨u,hu,rfl⟩:=List.mem_map.1 j;have:=i.e u hu;rcases v with _|_|_|v<;>simp only[Ex.put]<;>omega
 ·obtain⟨u,hu,rfl⟩:=List.mem_map.1 j;exact i.d u hu
 ·have:bL (aG p v n)=bL (p.filter λt=>t.1.get v=n):=by
   unfold aG;generalize p.filter _=l
   induction l with
   | nil=>rfl
   | cons u l k=>simp only[List.map_cons,bL,k]
  rw[this];exact i.b
end Q
namespace Go.Proofs.YtopclbeomcggiaaGreat
open Go.RowKit Q
variable {w:World} {v u x:Value} {p q r:List ai}
theorem sN{d:Option Addr}{n i j:Nat}{L:List (List ai)}{c:List ai}(h:gB w (.slice d n i) L)(l:L[j]?=some c):∃b off v,d=some ⟨b,off,none⟩/\aj w v c/\bW polyT w b (off+j*1) [v]:=by obtain⟨b,off,cs,e,-,⟨v,rfl,hv⟩,k⟩:=h.get l;exact⟨b,off,v,e,hv,k⟩
theorem TQ{s:Sz}{vp:Value}{v:Nat}(b:Pk s p)(hv:v<4)(hp:aj w vp p):Calls Tryz.prog 27 #[vp,.int .i64 v] w (oP w (.int .i64 (aH p v))):=KQ vp p v w hp hv b.len
end Go.Proofs.YtopclbeomcggiaaGreat
end
section
namespace Q
open Go Go.Proofs.YtopclbeomcggiaaGreat
def xG:List ai->Nat
 | []=>1
 | t::l=>Nat.lcm t.2.den (xG l)
theorem qK:∀l,0<xG l
 | []=>Nat.one_pos
 | t::l=>Nat.lcm_pos t.2.den_pos (qK l)
theorem KS{l:List ai}{t:ai}(h:t∈l):t.2.den∣xG l:=by
 induction l with
 | nil=>cases h
 | cons s l b =>
  rcases List.mem_cons.1 h with rfl|h
  ·exact Nat.dvd_lcm_left _ _
  ·exact Nat.dvd_trans (b h) (Nat.dvd_lcm_right _ _)
theorem IG(c:Rat):Dv c.den c:=by refine⟨c.num,?_⟩;have d:(c.den:Rat)≠0:=λh=>c.den_nz (by rw[<-iN]at h;have:=Rat.intCast_inj.1 (h.trans Rat.intCast_zero.symm);omega);have b:=Rat.num_divInt_den c;rw[Rat.divInt_eq_div,iN]at b;have e:(c.num:Rat)/(c.den:Rat)*(c.den:Rat)=c.num:=Rat.div_mul_cancel d;rwa[b]at e
def LB:Nat:=17179869184
theorem Bi:LB=17179869184:=rfl
def Y8 (D B:Nat):Sz:=⟨D,B,100000,10000⟩
def QZ (l:List ai):Nat:=(bL l).num.natAbs
def Vw (l:List ai):Bool :=
 decide (l.length<=10000)&&l.all (λt=>decide (-100000<=t.1.1)&&decide (t.1.1<=100000)&&decide (-100000<=t.1.2.1)&&decide (t.1.2.1<=100000)&&decide (-100000<=t.1.2.2.1)&&decide (t.1.2.2.1<=100000)&&decide (-100000<=t.1.2.2.2)&&decide (t.1.2.2.2<=100000))&&decide (aJ (xG l)<=LB)&&decide (aJ (QZ l)<=LB)
theorem Yl{c:Rat}(h:0<=c):c<=(c.num.natAbs:Rat):=by
 obtain⟨k,m⟩:=IG c
 have d:c*(c.den:Rat)=((c.num:Int):Rat):=by have d:(c.den:Rat)≠0:=λh=>c.den_nz (by rw[<-iN]at h;have:=Rat.intCast_inj.1 (h.trans Rat.intCast_zero.symm);omega);have b:=Rat.num_divInt_den c;rw[Rat.divInt_eq_div,iN]at b;have i:(c.num:Rat)/(c.den:Rat)*(c.den:Rat)=c.num:=Rat.div_mul_cancel d;rwa[b]at i
 have b:((c.num.natAbs:Nat):Rat)=((c.num:Int):Rat):=by have l:=Rat.num_nonneg.2 h;rw[<-iN];congr 1;omega
 rw[b,<-d]
 have i:(1:Rat)<=(c.den:Rat):=by have e:(1:Rat)=((1:Nat):Rat):=rfl;rw[e];exact Rat.natCast_le_natCast.2 c.den_pos
 have j:=Rat.mul_le_mul_of_nonneg_left i h;rwa[Rat.mul_one]at j
theorem TR{l:List ai}(h:Vw l=true):Bd (Y8 (xG l) (QZ l)) l/\aJ (xG l)<=LB/\aJ (QZ l)<=LB:=by
 simp only[Vw,Bool.and_eq_true,decide_eq_true_eq,List.all_eq_true]at h;obtain⟨⟨⟨n,o⟩,p⟩,q⟩:=h;refine⟨⟨n,λt b=>?_,λt b=>?_,Yl (kH l)⟩,p,q⟩
 ·obtain⟨⟨⟨⟨⟨⟨⟨a1,a2⟩,d⟩,e⟩,i⟩,j⟩,k⟩,m⟩:=o t b;exact⟨a1,a2,d,e,i,j,k,m⟩
 ·exact(IG t.2).dvd (KS b)
def BP (l:List ai):Bool:=IC l&&Vw l
structure Wk (s:Sz) (p:List ai):Prop where
 v:aY p
 b:Bd s p
 k:s.okw
def Wp (p:List ai):Prop:=∃D B,0<D/\aJ D<=LB/\aJ B<=LB/\Wk (Y8 D B) p
theorem Np{D B:Nat}(h:0<D)(b:aJ D<=LB)(d:aJ B<=LB):(Y8 D B).okw :=
 ⟨h,by show aJ D<=_;rw[Bi]at b;unfold jH;omega,by show aJ B<=_;rw[Bi]at d;unfold jH;omega,by show 100000<1000000;omega,by show 10000<=100000000;omega⟩
theorem O7{D b B B':Nat}(h:0<D)(d:aJ D<=LB)(k:0<b)(k':aJ b<=LB)(hb:aJ B<=LB)(kb:aJ B'<=LB):((Y8 D B).mul (Y8 b B')).okw:=by
 have e1:=gU D b;have e2:=gU B B';rw[Bi]at *;refine⟨Nat.mul_pos h k,?_,?_,by show 100000+100000<1000000;omega,by show 10000*10000<=100000000;omega⟩
 ·show aJ (D*b)<=_;unfold jH;omega
 ·show aJ (B*B')<=_;unfold jH;omega
theorem kS{l:List ai}(h:BP l=true):Wp l:=by rw[BP,Bool.and_eq_true]at h;obtain⟨e,b,d⟩:=TR h.2;exact⟨xG l,QZ l,qK l,b,d,sI.1 h.1,e,Np (qK l) b d⟩
theorem Wm{l:List ai}(h:Vw l=true):VZ l:=by obtain⟨b,d,e⟩:=TR h;exact b.oklw (Np (qK l) d e)
theorem II:aJ 1<=LB:=by rw[Bi];decide
theorem Wp.nil:Wp []:=⟨1,1,oM,II,II,aY.nil,Bd.nil _,Np oM II II⟩
theorem Wp.val{p:List ai}(h:Wp p):aY p:=by obtain⟨_,_,_,_,_,h⟩:=h;exact h.v
theorem Wp.rk{p:List ai}(h:Wp p):∀t∈p,Rk t.2:=by obtain⟨_,_,_,_,_,h⟩:=h;exact h.b.rkw h.k
theorem Wp.ir{p:List ai}(h:Wp p):∀t∈p,InR t.1/\Rk t.2:=by obtain⟨_,_,_,_,_,h⟩:=h;exact λt d=>⟨h.b.inRw h.k t d,h.b.rkw h.k t d⟩
theorem Wp.len{p:List ai}(h:Wp p):p.length<=10000:=by obtain⟨_,_,_,_,_,h⟩:=h;exact h.b.n
theorem Wp.deg{p:List ai}(h:Wp p)(v:Nat):-1<=aH p v/\aH p v<=100000:=by
 obtain⟨_,_,_,_,_,h⟩:=h;refine⟨vR p v,?_⟩;rcases(iO (λt=>t.1.get v) p (-1)).2.2 with d|⟨t,i,d⟩
 ·show p.foldl _ _<=_;rw[d];omega
 ·show p.foldl _ _<=_;rw[<-d];have:=h.b.e t i;simp only[Y8]at this;rcases v with _|_|_|v<;>simp only[Ex.get]<;>omega
theorem Wp.exps{p:List ai}(h:Wp p){t:ai}(b:t∈p)(v:Nat):0<=t.1.get v/\t.1.get v<=100000 :=
 ⟨Ex.nat_get (h.val.nat t b) v,Int.le_trans (fw b v) (h.deg v).2⟩
theorem Wp.mulOk{p q:List ai}(h:Wp p)(d:Wp q):TD p q:=by have i1:=h.ir;have i2:=d.ir;have j:=h.len;have l2:=d.len;obtain⟨D,B,d1,d2,d3,h⟩:=h;obtain⟨i,B',e1,e2,e,d⟩:=d;exact⟨i1,i2,(h.b.prods d.b).oklw (O7 d1 d2 e1 e2 d3 e),oM,oM⟩
theorem Wp.prod{p q:List ai}(h:Wp p)(d:Wp q):(∀t∈aO p q,Rk t.2)/\(aO p q).length<=100000000:=by obtain⟨D,B,d1,d2,d3,h⟩:=h;obtain⟨j,B',e1,e2,i,d⟩:=d;have hb:=(h.b.prods d.b).canon;have e:=O7 d1 d2 e1 e2 d3 i;exact⟨hb.rkw e,Nat.le_trans hb.n e.2.2.2.2⟩
theorem Wp.coeff{p:List ai}(h:Wp p)(v:Nat)(n:Int):Wp (aG p v n):=by obtain⟨D,B,d1,d2,d3,h⟩:=h;exact⟨D,B,d1,d2,d3,h.v.coeff v n,KR h.b v n,h.k⟩
theorem Wp.coeffs{p c:List ai}(h:Wp p){v:Nat}(hc:c∈aB p v):Wp c:=by obtain⟨n,rfl⟩:=gQ hc;exact h.coeff v n
def g1 (p:List ai):Option (List ai):=if BP p then some p else none
theorem kF{p q:List ai}(h:g1 p=some q):q=p/\Wp p:=by
 unfold g1 at h;split at h
 ·cases h;exact⟨rfl,kS aM⟩
 ·cases h
def sO (b:List ai) (g:ai):Nat->List ai->List ai->Option (Option (List ai))
 | 0,_,_=>none
 | _+1,[],out=>some (some out)
 | n+1,m::a,out =>
  if BP (m::a)then
   if(m.1.sub g.1).nat then
    if BP [ik m g]then sO b g n (dL (m::a) (aO b [ik m g])) (out++[ik m g])else none
   else some none
  else none
theorem Wn{m g:ai}(hm:∀v,0<=m.1.get v/\m.1.get v<=100000)(hg:∀v,0<=g.1.get v/\g.1.get v<=100000):InR (m.1.sub g.1):=by have a0:=hm 0;have a1:=hm 1;have a2:=hm 2;have b:=hm 3;have b0:=hg 0;have b1:=hg 1;have d:=hg 2;have e:=hg 3;simp only[Ex.get]at *;exact InR.of (K:=100000) oM (by simp only[Ex.sub];omega)
theorem TS{b ts:List ai}{g:ai}(hb:Wp b)(hg:b=g::ts):∀{n:Nat}{a out:List ai}{r:Option (List ai)},sO b g n a out=some r->out.length+n<=100000000->∃k,Ae b g k a out r:=by
 have d:g∈b:=by rw[hg];simp
 intro n
 induction n with
 | zero=>intro a out r h;simp[sO]at h
 | succ n l =>
  intro a out r h o
  cases a with
  | nil=>simp only[sO,sJ]at h;subst h;exact⟨0,.done⟩
  | cons m a =>
   rw[sO]at h;split at h
   next h1 =>
    have e:=kS h1;have i:O5 b g m a:=⟨Wn (λv=>e.exps sM v) (λv=>hb.exps d v),e.rk m sM,hb.rk g d,(hb.val.2 g d).1⟩;split at h
    next h2 =>
     split at h
     next h3 =>
      have hq:=kS h3;obtain⟨k,j⟩:=l h (by simp;omega);exact⟨k+1,.step h2 i ⟨hq.rk (ik m g) sM,⟨hb.ir,by have:=hb.len;omega⟩,(hb.mulOk hq).ko,⟨e.rk,by have:=e.len;omega,e.val⟩,hb.prod hq⟩ oM j⟩
     next=>cases h
    next h2 =>
     simp only[sJ]at h;subst h;exact⟨0,.fail (by simpa using h2) i⟩
   next=>cases h
def fuel:Nat:=10000000
def yO (a b:List ai):Option (Option (List ai)):=match b with
 | []=>some none
 | g::_=>sO b g fuel a []
def fQ (a b:List ai):Option (List ai):=match yO a b with
 | some r=>g1 (r.getD [])
 | none=>none
def Nq (D:List (List ai)):Nat->List (List ai)->Bool
 | 0,_=>true
 | f+1,R=>if D.length-1<R.length then R.all BP&&Nq D f (gm D R)else true
theorem KT{D:List (List ai)}(j:∀c∈D,Wp c):∀{f:Nat}{R:List (List ai)},Nq D f R=true->KI D f R
 | 0,_,_=>trivial
 | f+1,R,h=>λe=>by
  rw[Nq,if_pos e,Bool.and_eq_true,List.all_eq_true]at h
  have d:∀i,Wp (R.getD i []):=λi=>by
   rcases Nat.lt_or_ge i R.length with hi|hi
   ·rw[jD,gE hi];exact kS (h.1 _ (List.getElem_mem hi))
   ·rw[jD,gN hi];exact Wp.nil
  have b:∀i,Wp (D.getD i []):=λi=>by
   rcases Nat.lt_or_ge i D.length with hi|hi
   ·rw[jD,gE hi];exact j _ (List.getElem_mem hi)
   ·rw[jD,gN hi];exact Wp.nil
  exact⟨λi _=>⟨(d _).mulOk (b _),λ_=>⟨(d _).mulOk (b _),((d _).prod (b _)).1,((d _).prod (b _)).1,⟨((d _).prod (b _)).2,((d _).prod (b _)).2⟩,aY.mul _ _,aY.mul _ _⟩⟩,KT j h.2⟩
def Vx (a b:List ai) (v:Nat):Option (List ai) :=
 let D:=aB b v;let R:=aB a v;let r:=gL D R.length R
 if b≠[]/\Nq D R.length R=true/\Vw (fromL v 0 r)=true/\r.all BP=true then g1 (uI r v)else none
def qd:List ai:=[(e0,1)]
def kG (a:List ai):Option (List ai):=match a with
 | []=>some []
 | t::_=>g1 (bY a (1/t.2))
def lT (a:List ai):Bool:=match a with
 | [t]=>decide (t.1=e0)
 | _=>false
def uA (l:List (List ai)):Nat->Option Nat
 | 0=>none
 | v+1=>if l.any (λa=>decide (0<aH a v))then some v else uA l v
def TT (l:List (List ai)):Option Nat:=uA l 4
def vF (G:List ai->List ai->Option (List ai)):List ai->List (List ai)->Option (List ai)
 | acc,[]=>some acc
 | acc,a::l=>match G acc a with
  | none=>none
  | some g=>if lT g then some g else vF G g l
def lI (G:List ai->List ai->Option (List ai)) (a:List ai) (v:Nat):Option (List ai):=vF G [] (aB a v)
def lJ (G:List ai->List ai->Option (List ai)) (a:List ai) (v:Nat):Option (List ai):=match a with
 | []=>some []
 | t::l=>match lI G (t::l) v with
  | none=>none
  | some c=>fQ (t::l) c
def Ag (m:ai) (v at_:Nat):Nat->Nat
 | 0=>gG m.2.num*mK (gG m.2.den) (pr-2)%pr
 | w+1=>if w=v then Ag m v at_ w else Ag m v at_ w*mK (at_+w) (m.1.get w).toNat%pr
def Q4 (m:ai) (v at_:Nat):Nat:=Ag m v at_ 4
def mg (v at_:Nat):List ai->List Nat->Option (List Nat)
 | [],out=>some out
 | m::l,out=>if gG m.2.den=0 then none else mg v at_ l (out.set (m.1.get v).toNat ((out.getD (m.1.get v).toNat 0+Q4 m v at_)%pr))
def qX (a:List ai) (v at_:Nat):Option (List Nat):=mg v at_ a (List.replicate (aH a v+1).toNat 0)
def oJ (o:Option (List Nat)):Bool:=match o with
 | none=>false
 | some l=>decide (l.getD (l.length-1) 0≠0)
def strip:List Nat->List Nat
 | []=>[]
 | x::l=>match strip l with
  | []=>if x=0 then []else [x]
  | y::r=>x::y::r
def ja (b rest:List Nat) (f at_:Nat):Nat->List Nat
 | 0=>rest
 | i+1=>(ja b rest f at_ i).set (at_+i) (((ja b rest f at_ i).getD (at_+i) 0+(pr-b.getD i 0)*f)%pr)
def sP (b:List Nat) (inv:Nat):Nat->List Nat->Option (List Nat)
 | 0,_=>none
 | n+1,r=>if b.length<=r.length then sP b inv n (strip (ja b r (r.getD (r.length-1) 0*inv%pr) (r.length-b.length) b.length))else some r
def ni:Nat->List Nat->List Nat->Option Nat
 | 0,_,_=>none
 | n+1,a,b=>if b=[]then some a.length else match sP b (mK (b.getD (b.length-1) 0) (pr-2)) fuel a with
  | none=>none
  | some r=>ni n b r
def rV (a b:List Nat):Option Nat:=if a.length<b.length then ni fuel b a else ni fuel a b
def lm (a b:List ai) (v:Nat):List Nat->Option Int
 | []=>some (min (aH a v) (aH b v))
 | k::l=>match qX a v (17+100*k),qX b v (17+100*k)with
  | some x,some y=>if oJ (some x)&&oJ (some y)then(rV x y).map (λn=>(n:Int)-1)else lm a b v l
  | _,_=>lm a b v l
def Ah (a b:List ai) (v:Nat):Option Int:=lm a b v [0,1,2]
def sQ (G:List ai->List ai->Option (List ai)) (v:Nat):Nat->List ai->List ai->Option (List ai)
 | 0,_,_=>none
 | n+1,a,b=>match Vx a b v with
  | none=>none
  | some []=>some b
  | some (t::r)=>if aH (t::r) v=0 then some qd else match lJ G (t::r) v with
   | none=>none
   | some p=>match kG p with
    | none=>none
    | some q=>sQ G v n b q
def BQ (G:List ai->List ai->Option (List ai)) (a b:List ai) (v:Nat):Option (List ai):=match Ah a b v with
 | none=>none
 | some m=>if m=0 then some qd else match yO a b with
  | none=>none
  | some r=>if r.isSome&&decide (m=aH b v)then some b else sQ G v fuel a b
def FL (G:List ai->List ai->Option (List ai)) (a b:List ai) (v:Nat):Option (List ai):=if aH a v<aH b v then BQ G b a v else BQ G a b v
def fP {α β:Type} (a:Option α) (f:α->Option β):Option β:=match a with
 | none=>none
 | some x=>f x
def TU (G:List ai->List ai->Option (List ai)) (a b:List ai):Option (List ai) :=
 if a=[]then kG b else if b=[]then kG a else if lT a=true\/lT b=true then some qd else
 fP (TT [a,b]) λv =>
  if aH b v=0 then fP (lI G a v) λc=>G c b
  else if aH a v=0 then fP (lI G b v) λc=>G a c
  else fP (lI G a v) λx=>fP (lI G b v) λy=>fP (G x y) λg=>fP (fQ a x) λp=>fP (fQ b y) λq=>fP (FL G p q v) λs=>fP (g1 (aO g s)) kG
def zay:Nat->List ai->List ai->Option (List ai)
 | 0,_,_=>none
 | n+1,a,b=>TU (zay n) a b
def Ed (G:List ai->List ai->Option (List ai)) (v:Nat):Nat->Nat->List ai->List ai->List (List ai × Nat)->Option (List (List ai × Nat))
 | 0,_,_,_,_=>none
 | f+1,n,w,y,out=>if 0<aH w v then
   fP (g1 (dN w v)) λd=>fP (g1 (dL y d)) λz=>fP (G w z) λg=>fP (fQ w g) λw'=>fP (fQ z g) λy' =>
    Ed G v f (n+1) w' y' (if 0<aH g v then out++[(g,n)]else out)
  else some out
def Zy (G:List ai->List ai->Option (List ai)) (a:List ai) (v:Nat):Option (List (List ai × Nat)) :=
 fP (lJ G a v) λp=>if aH p v<1 then some []else
  fP (g1 (dN p v)) λd=>fP (G p d) λg=>fP (fQ p g) λw=>fP (fQ d g) λy=>Ed G v fuel 1 w y []
end Q
end
section
namespace Q
open Go Go.RowKit Go.Proofs.YtopclbeomcggiaaGreat
def Gv:El Nat where
 T:=FI
 sz:=1
 pos:=by decide
 E _ cs x:=cs=[.int .u64 (x:Int)]/\x<2147483647
 len:=by rintro w c t ⟨rfl,-⟩;rfl
 one:=by rintro w c t ⟨rfl,-⟩ v hv;simp only[List.mem_cons,List.not_mem_nil,or_false]at hv;subst hv;rfl
 on:=λh _=>h
 ok _:=True
 lr:=λh _ _=>h
 self:=trivial
def nc (l:List Nat):List Value:=l.map (λx:Nat=>Value.int .u64 (x:Int))
def Gw (l:List Nat):Prop:=∀x∈l,x<2147483647
theorem Nr(l:List Nat):(nc l).length=l.length:=by simp[nc]
theorem Gw.nil:Gw []:=λ_ h=>by cases h
theorem Gw.getD{l:List Nat}(h:Gw l)(i:Nat):l.getD i 0<2147483647:=by
 rcases Nat.lt_or_ge i l.length with hi|hi
 ·rw[jD,gE hi];exact h _ (List.getElem_mem hi)
 ·rw[jD,gN hi];decide
theorem Gw.set{l:List Nat}(h:Gw l)(i:Nat){x:Nat}(d:x<2147483647):Gw (l.set i x):=λy b=>by
 rcases List.mem_or_eq_of_mem_set b with b|rfl
 ·exact h y b
 ·exact d
theorem Gw.sub{l r:List Nat}(h:Gw l)(b:∀x∈r,x∈l):Gw r:=λx d=>h x (b x d)
theorem yP{w:World}:∀{l:List Nat}{d:List Value},fA Gv.E w d l↔d=nc l/\Gw l
 | [],d=>by
  constructor
  ·intro h;exact⟨h,Gw.nil⟩
  ·rintro⟨h,-⟩;exact h
 | x::l,d=>by
  constructor
  ·rintro⟨c,r,rfl,⟨rfl,e⟩,h⟩;obtain⟨rfl,i⟩:=yP.1 h
   exact⟨rfl,λy b=>by
    rcases List.mem_cons.1 b with rfl|b
    ·exact e
    ·exact i y b⟩
  ·rintro⟨rfl,h⟩;exact⟨_,_,rfl,⟨rfl,h x sM⟩,yP.2 ⟨rfl,λy b=>h y (by simp[b])⟩⟩
theorem Ai{w:World}{v:Value}{l:List Nat}:bZ Gv w v l↔∃b cap,v=.slice b l.length cap/\l.length<=cap/\At FI w b (nc l)/\Gw l:=by
 constructor
 ·rintro⟨b,cap,j,rfl,d,e,h⟩;obtain⟨rfl,i⟩:=yP.1 h;exact⟨b,cap,rfl,d,e,i⟩
 ·rintro⟨b,cap,rfl,d,e,h⟩;exact⟨b,cap,nc l,rfl,d,e,yP.2 ⟨rfl,h⟩⟩
theorem Ns(l:List Nat)(j:Nat)(b:j<l.length):(nc l)[j]?=some (Value.int .u64 ((l.getD j 0:Nat):Int)):=by rw[nc,List.getElem?_map,gE b,jD,gE b];rfl
theorem _root_.Go.RowKit.Blk.nsl{w:World}{g:Nat}{l:List Nat}(h:Blk w g FI (nc l))(b:Gw l):bZ Gv w (.slice (some ⟨g,0,none⟩) l.length l.length) l :=
 Ai.2 ⟨_,_,rfl,nL _,h.at,b⟩
theorem Blk.ncell{w:World}{g:Nat}{T:TypeId}{l:List Nat}(h:Blk w g T (nc l))(j:Nat)(b:j<l.length):w.cell? ⟨g,j,none⟩=some (.int .u64 ((l.getD j 0:Nat):Int)):=by rw[h.cell,Ns _ _ b]
theorem bW.ncell{T:TypeId}{w:World}{b off:Nat}{l:List Nat}(h:bW T w b off (nc l))(j:Nat)(d:j<l.length):w.cell? ⟨b,off+j,none⟩=some (.int .u64 ((l.getD j 0:Nat):Int)):=by rw[h.cell j (by rw[Nr];exact d),Ns _ _ d]
theorem Blk.nset{w:World}{g:Nat}{T:TypeId}{l:List Nat}(h:Blk w g T (nc l))(j x:Nat):Blk (w.setCell ⟨g,j,none⟩ (.int .u64 (x:Int))) g T (nc (l.set j x)):=by have:=h.set j (.int .u64 (x:Int));rwa[show nc (l.set j x)=(nc l).set j (.int .u64 (x:Int)) by rw[nc,List.map_set];rfl]
theorem KU(n:Nat):(List.replicate n (Value.int IntKind.u64 0).cells[0]!)=nc (List.replicate n 0):=by simp[nc,Value.cells]
theorem Nt(x:Nat):x%pr<2147483647:=Nat.mod_lt _ dM
theorem TV(n:Nat):Gw (List.replicate n 0):=λx b=>by rw[List.eq_of_mem_replicate b];decide
end Q
namespace Go.Proofs.YtopclbeomcggiaaGreat
open Go.RowKit Q
theorem rC:(Tryz.prog.info? 97).map (λi=>(i.zero,i.size,i.bytes))=some (some (.int .u64 0),1,8):=kM
end Go.Proofs.YtopclbeomcggiaaGreat
end
section
namespace Q
open Go Go.RowKit Go.Proofs.YtopclbeomcggiaaGreat
theorem Gx{v at_:Nat}:∀{a:List ai}{out o:List Nat},mg v at_ a out=some o->o.length=out.length/\(Gw out->Gw o)
 | [],out,o,h=>by rw[mg,sJ]at h;subst h;exact⟨rfl,λh=>h⟩
 | m::a,out,o,h=>by
  rw[mg]at h;split at h
  ·cases h
  ·obtain⟨b,d⟩:=Gx h;exact⟨by rw[b,List.length_set],λe=>d (e.set _ (Nt _))⟩
theorem kT{P:Program}{w:World}{ops:Array Oper}{rest:List Oper}{o:Oper}{a:Act}{R:Exit->Act->World->Prop}(d:o.guard=none){t:TypeId}{x i:Operand}(k:o.op=.index t x i){v u r:Value}(l:a.eval x=v)(j:a.eval i=u)
  (b:(Instr.index t v u).run P w=.ok r w) (h:wpList P ops R rest (a.put o.dst r) w):wpList P ops R (o::rest) a w:=by
 refine wpList_plain d λK e=>?_;unfold Oper.wp
 have:(execOp a.eval o).run P w=.ok (.value r) w:=by unfold execOp;rw[k];simp[l,j,b,Result.andThen]
 rw[this];exact e _ _ h
end Q
namespace Go.Proofs.YtopclbeomcggiaaGreat
open Go.RowKit Q Go.WideMaps Go.Maps
theorem Zz(a b c d:Int)(w:World):(Instr.index 36 (.agg #[.int .i64 a,.int .i64 b,.int .i64 c,.int .i64 d]) (.int .i64 0)).run Tryz.prog w=.ok (.int .i64 a) w:=kM
theorem ZA(a b c d:Int)(w:World):(Instr.index 36 (.agg #[.int .i64 a,.int .i64 b,.int .i64 c,.int .i64 d]) (.int .i64 1)).run Tryz.prog w=.ok (.int .i64 b) w:=kM
theorem ZB(a b c d:Int)(w:World):(Instr.index 36 (.agg #[.int .i64 a,.int .i64 b,.int .i64 c,.int .i64 d]) (.int .i64 2)).run Tryz.prog w=.ok (.int .i64 c) w:=kM
theorem ZC(a b c d:Int)(w:World):(Instr.index 36 (.agg #[.int .i64 a,.int .i64 b,.int .i64 c,.int .i64 d]) (.int .i64 3)).run Tryz.prog w=.ok (.int .i64 d) w:=kM
def Ym (w:World) (o:Option (List Nat)) (e:Ending) (w':World):Prop:=∃v,e=.returned (.tuple #[v,.bool (oJ o)])/\(∀l,o=some l->bZ Gv w' v l)/\Below w.heap.size w w'
theorem Gy(va:Value)(a:List ai)(v at_:Nat)(w:World)(ha:aj w va a)(ka:Wp a)(hv:v<4)(N:a≠[])(b5:at_<=1000) :
  Calls Tryz.prog 118 #[va,.int .i64 v,.int .u64 at_] w (Ym w (qX a v at_)):=by
 have Z:=kC va a v w ha hv (by have:=ka.len;omega);have hd2:=(ka.deg v).2
 have a0:∀t∈a,0<=t.1.get v/\(t.1.get v).toNat<(aH a v+1).toNat:=λt ht=>by have h1:=(ka.exps ht v).1;have h2:=fw ht v;omega
 have hd0:0<=aH a v:=by obtain⟨t,ht⟩:=List.exists_mem_of_ne_nil _ N;have:=a0 t ht;omega
 obtain⟨D,hD⟩:∃D:Nat,aH a v=D:=⟨(aH a v).toNat,oM⟩;have a8:qX a v at_=mg v at_ a (List.replicate (D+1) 0):=by rw[qX,hD];congr 1
 rw[a8];clear a8;obtain⟨L,hR⟩:∃L,L=mg v at_ a (List.replicate (D+1) 0):=⟨_,rfl⟩;rw[<-hR];rw[hD]at Z a0 hd2;have a9:∀t∈a,0<=t.1.get v/\(t.1.get v).toNat<D+1:=λt ht=>by have:=a0 t ht;omega
 have hD2:D<=100000:=oM;have p:=λt (ht:t∈a) u=>ka.exps ht u;have ap:=ka.rk;have b4:a.length<=10000:=ka.len;obtain⟨aa,ca,rfl,b6⟩:=ha.shape;replace hR:=zH hR;replace a0:=zH a9;replace p:=zH p;replace ap:=zH ap;replace ha:=zH ha;have hv4:(v:Int)<4:=oM;clear a9 N ka hd0 hD
 go_enter Tryz.func118,Tryz.ntmps118
 go_wp2_with (first
  | (go_at_call 53;refine Z.mono ?_;rintro en w1 ⟨rfl,hb1⟩)
  | (at_make;refine bV rfl _ _ _ rfl _ (.int .u64 0) 1 8 Tryz.underlying94 rC rfl rfl .i64 .i64 _ _ (D+1) rfl rfl oM oM oM oM ?_;intro w2 own2 gr2))
 rw[KU]at own2;have av:=hb1.size;have aw:w.heap.size<=w1.heap.size:=av;generalize hg:w1.heap.size=g at *;have hb12:=hb1.trans (gr2.mono av);have ag:Hid (Blk w2 g FI (nc (List.replicate (D+1) 0))):=zH own2;clear own2 gr2 hb1 hg
 go_loopw [22] (λi wr=>∃(k:Nat)(out:List Nat),k<=a.length/\i=.int .i64 k/\Hid (Blk wr g FI (nc out))/\out.length=D+1/\Hid (Gw out)/\Hid (L=mg v at_ (a.drop k) out)/\Below w.heap.size w wr) (λi _=>a.length-(intOf i).toNat)
 case atStart=>exact⟨0,_,oM,rfl,ag,sM,zH (TV _),zH hR.out,hb12⟩
 case round =>
  clear ag hb12 hR;obtain⟨k,out,hk,rfl,hO,ao,al,hR,F⟩:=hrel;by_cases a5:k<a.length
  ·have au:a[k]?=some a[k]:=gE a5;have hR2:=hR.out;rw[List.drop_eq_getElem_cons a5]at hR2;have o:=List.getElem_mem a5;generalize a[k]=t at *;obtain⟨bq,oq,rt,e1,a4,hC⟩:=fO (ha.out.on F) au;have hx0:=p.out t o 0;have hx1:=p.out t o 1;have hx2:=p.out t o 2;have hx3:=p.out t o 3;have a6:=a0.out t o;have a3:=ap.out t o;obtain⟨⟨z0,z1,z2,z3⟩,q⟩:=t;simp only[Ex.get]at hx0 hx1 hx2 hx3;obtain⟨n0,rfl⟩:=Int.eq_ofNat_of_zero_le hx0.1;obtain⟨n1,rfl⟩:=Int.eq_ofNat_of_zero_le hx1.1;obtain⟨n2,rfl⟩:=Int.eq_ofNat_of_zero_le hx2.1;obtain⟨n3,rfl⟩:=Int.eq_ofNat_of_zero_le hx3.1;obtain⟨n,J⟩:∃n:Nat,Ex.get ((n0:Int),(n1:Int),(n2:Int),(n3:Int)) v=(n:Int):=⟨_,(Int.toNat_of_nonneg a6.1).symm⟩;rw[J]at a6;have hnvl:n<D+1:=by simpa using a6.2
   have b0:(k:Int)<(a.length:Int):=oM;have hr:=hC.range;have h8:(bI ((n0:Int),(n1:Int),(n2:Int),(n3:Int))++rt).length=8:=by rw[List.length_append,a4.len];rfl
   have ax:=a4.len;subst e1;replace hR2:=zH hR2;clear hR au o a6 Z
   go_upto_region 5 with (first
    | (refine ak rfl _ _ 27 rfl aR Tryz.underlying27 _ 8 96 kM _ _ _ rfl .i64 _ rfl k rfl a5 bq oq rfl ?_)
    | (refine wpList_load_mid rfl 43 _ rfl _ _ rfl _ _ hr Tryz.underlying43 rfl (by rw[h8];kernel_rfl) ?_)
    | (refine aA rfl _ (.tmp 10) (.tmp 25) rfl _ _ _ _ rfl rfl (Blk.new wr aR [.int .i64 0,.int .i64 0,.int .i64 0,.int .i64 0,.bool false,.slice none 0 0,.bool false,.slice none 0 0]) (by simp[bI,ax]) (by simp only[List.size_toArray,h8];exact zZ) (Ea a4) ?_;intro W3 R3 gr3))
   have hE:bI ((n0:Int),(n1:Int),(n2:Int),(n3:Int))=[.int .i64 n0,.int .i64 n1,.int .i64 n2,.int .i64 n3]:=rfl;have S:Blk W3 wr.heap.size aR (bI ((n0:Int),(n1:Int),(n2:Int),(n3:Int))++rt):=by simpa using R3
   have ar:Below wr.heap.size wr (wr.alloc (.cells #[.int .i64 0,.int .i64 0,.int .i64 0,.int .i64 0,.bool false,.slice none 0 0,.bool false,.slice none 0 0] aR)):=(Below.refl _ _).alloc (nL _) _;have hb3:Below wr.heap.size wr W3:=ar.trans (aL gr3 sM (nL _));have hbr3:=F.trans (hb3.mono F.size);have hO3:=hO.out.on hb3;have hrt3:=a4.on hb3;have b7:g<wr.heap.size:=hO.out.lt;have b8:w.heap.size<=wr.heap.size:=F.size;clear hr R3 gr3 ar hb3 hC a4 F hO h8;generalize wr.heap.size=mb at *;obtain⟨N1,A1,K1,C1,N2,A2,K2,C2,rfl,i1,i2⟩:=hrt3;simp only at i1 i2 a3;rw[hE]at S;have y0:=S.at1 0 _ rfl;have y1:=S.at1 1 _ rfl;have y2:=S.at1 2 _ rfl;have y3:=S.at1 3 _ rfl;have y4:=S.at1 4 _ rfl;have y5:=S.at1 5 _ rfl;have y6:=S.at1 6 _ rfl;have y7:=S.at1 7 _ rfl;have G:=Bf _ _ _ W3 i2 a3.den';have hR3:=hR2.out;rw[mg]at hR3;clear hR2;have hdl9:=vE (q.den:Int);by_cases hz:gG (q.den:Int)=0
   ·rw[if_pos hz]at hR3;rw[hz]at G;replace hR3:=zH hR3;clear hz hdl9
    go_wp2_with (go_at_call 136;refine G.mono ?_;rintro en w4 ⟨rfl,hb4⟩)
    go_ret2;exact⟨_,by rw[hR3.out];rfl,(λl hl=>by rw[hR3.out]at hl;cases hl),hbr3.trans (hb4.mono hbr3.size)⟩
   ·rw[if_neg hz]at hR3;have I:=λW (hb:Below W3.heap.size W3 W)=>Bf _ _ _ W (i1.on hb) a3.num';have a7:=λW=>zV (gG (q.den:Int)) 2147483645 W oM oM;have ay:=vE q.num;have hX0:Ag (((n0:Int),(n1:Int),(n2:Int),(n3:Int)),q) v at_ 0=gG q.num*mK (gG (q.den:Int)) 2147483645%pr:=rfl;have a2:=Ig (gG (q.den:Int)) 2147483645;rw[mW]at a2;generalize hdd:gG (q.den:Int)=d at *;generalize gG q.num=nn at *;generalize mK d 2147483645=pp at *;have aE:((d:Int)==0)=false:=by simp;omega
    have az:nn*pp<=2147483647*2147483647:=Nat.mul_le_mul oM oM;obtain⟨X0,hX⟩:∃X0,X0=nn*pp%2147483647:=⟨_,rfl⟩;have aq:((nn:Int)*(pp:Int))%2147483647=(X0:Int):=by rw[hX];simp
    rw[mW,<-hX]at hX0;have B:X0<2147483647:=by rw[hX];exact Nat.mod_lt _ dM
    replace hX0:=zH hX0;replace hR3:=zH hR3;replace I:=zH I;replace a7:=zH a7;clear hX hdd hz ay a2 hdl9
    go_upto_region 8 with (go_at_call 136;refine G.mono ?_;rintro en w4 ⟨rfl,hb4⟩)
    have BB4:=S.on hb4;replace y4:=BB4.at1 4 _ rfl;replace y5:=BB4.at1 5 _ rfl
    go_upto_region 9 with (first
     | (go_at_call 136;refine(I.out _ hb4).mono ?_;rintro en w5 ⟨rfl,hb5⟩)
     | (go_at_call 137;refine(a7.out _).mono ?_;rintro en w6 ⟨rfl,hb6⟩))
    have hb46:=hb4.trans ((hb5.trans (hb6.mono hb5.size)).mono hb4.size);have BB6:=S.on hb46;have hO6:=zH (hO3.on hb46);have hbr6:=hbr3.trans (hb46.mono hbr3.size);replace y0:=BB6.at1 0 _ rfl;replace y1:=BB6.at1 1 _ rfl;replace y2:=BB6.at1 2 _ rfl;replace y3:=BB6.at1 3 _ rfl;have ad:=zH BB6;clear S BB4 BB6 hb4 hb5 hb6 hb46 y4 y5 y6 y7 hO3 hbr3 i1 i2 G I a7;go_wp2
    go_loopw [12,42] (λx i wz=>∃u X:Nat,u<=4/\x=.int .u64 X/\i=.int .i64 u/\X<2147483647/\Hid (Ag (((n0:Int),(n1:Int),(n2:Int),(n3:Int)),q) v at_ u=X)/\Hid (Blk wz mb aR ([.int .i64 n0,.int .i64 n1,.int .i64 n2,.int .i64 n3]++[.bool N1,.slice A1 K1 C1,.bool N2,.slice A2 K2 C2]))/\Hid (Blk wz g FI (nc out))/\Below w.heap.size w wz) (λ_ i _=>4-(intOf i).toNat)
    case atStart=>exact⟨0,X0,oM,by rw[aq],nM,B,hX0,ad,hO6,hbr6⟩
    case round =>
     clear ad hO6 hbr6 hX0 B az aq;obtain⟨u,X,hu,rfl,rfl,B,hX,hB,hO,b⟩:=hrel;by_cases hu4:u<4
     ·have s:∀W,Calls Tryz.prog 137 #[.int .u64 ((at_:Int)+(u:Int)),.int .i64 (Ex.get ((n0:Int),(n1:Int),(n2:Int),(n3:Int)) u)] W (oP W (.int .u64 (mK (at_+u) (Ex.get ((n0:Int),(n1:Int),(n2:Int),(n3:Int)) u).toNat))):=λW=>by
       have h1:0<=Ex.get ((n0:Int),(n1:Int),(n2:Int),(n3:Int)) u/\Ex.get ((n0:Int),(n1:Int),(n2:Int),(n3:Int)) u<=100000:=by
        obtain rfl|rfl|rfl|rfl:u=0\/u=1\/u=2\/u=3:=oM
        all_goals (simp only[Ex.get];omega)
       have h2:=zV (at_+u) (Ex.get ((n0:Int),(n1:Int),(n2:Int),(n3:Int)) u).toNat W oM oM;rw[Int.toNat_of_nonneg h1.1,Int.natCast_add]at h2;exact h2
      have a2:=Ig (at_+u) (Ex.get ((n0:Int),(n1:Int),(n2:Int),(n3:Int)) u).toNat;rw[mW]at a2;by_cases m:u=v
      ·have z:Hid (Ag (((n0:Int),(n1:Int),(n2:Int),(n3:Int)),q) v at_ (u+1)=X):=zH (by rw[Ag,if_pos m];exact hX.out);clear s a2 hX;obtain rfl|rfl|rfl|rfl:u=0\/u=1\/u=2\/u=3:=oM
       ·have k1:((0:Int)=(v:Int))=True:=eq_true oM;have k2:((v:Int)=(0:Int))=True:=eq_true oM;have k3:(v=0)=True:=eq_true oM;have k4:((0:Nat)=v)=True:=eq_true oM;have k5:((0:Int)==(v:Int))=true:=by simp only[beq_iff_eq];omega
        clear m
        go_wp2_with (refine kT rfl rfl rfl rfl (Zz _ _ _ _ _) ?_)
        go_roundw
        case rel=>exact⟨1,X,oM,rfl,nM,B,z,hB,hO,b⟩
        case measure=>simp[intOf]
       ·have k1:((1:Int)=(v:Int))=True:=eq_true oM;have k2:((v:Int)=(1:Int))=True:=eq_true oM;have k3:(v=1)=True:=eq_true oM;have k4:((1:Nat)=v)=True:=eq_true oM;have k5:((1:Int)==(v:Int))=true:=by simp only[beq_iff_eq];omega
        clear m
        go_wp2_with (refine kT rfl rfl rfl rfl (ZA _ _ _ _ _) ?_)
        go_roundw
        case rel=>exact⟨2,X,oM,rfl,nM,B,z,hB,hO,b⟩
        case measure=>simp[intOf]
       ·have k1:((2:Int)=(v:Int))=True:=eq_true oM;have k2:((v:Int)=(2:Int))=True:=eq_true oM;have k3:(v=2)=True:=eq_true oM;have k4:((2:Nat)=v)=True:=eq_true oM;have k5:((2:Int)==(v:Int))=true:=by simp only[beq_iff_eq];omega
        clear m
        go_wp2_with (refine kT rfl rfl rfl rfl (ZB _ _ _ _ _) ?_)
        go_roundw
        case rel=>exact⟨3,X,oM,rfl,nM,B,z,hB,hO,b⟩
        case measure=>simp[intOf]
       ·have k1:((3:Int)=(v:Int))=True:=eq_true oM;have k2:((v:Int)=(3:Int))=True:=eq_true oM;have k3:(v=3)=True:=eq_true oM;have k4:((3:Nat)=v)=True:=eq_true oM;have k5:((3:Int)==(v:Int))=true:=by simp only[beq_iff_eq];omega
        clear m
        go_wp2_with (refine kT rfl rfl rfl rfl (ZC _ _ _ _ _) ?_)
        go_roundw
        case rel=>exact⟨4,X,oM,rfl,nM,B,z,hB,hO,b⟩
        case measure=>simp[intOf]
      ·obtain⟨Y,hY⟩:∃Y,Y=X*mK (at_+u) (Ex.get ((n0:Int),(n1:Int),(n2:Int),(n3:Int)) u).toNat%2147483647:=⟨_,rfl⟩;have z:Hid (Ag (((n0:Int),(n1:Int),(n2:Int),(n3:Int)),q) v at_ (u+1)=Y):=zH (by rw[Ag,if_neg m,hX.out,hY];rfl);generalize mK (at_+u) (Ex.get ((n0:Int),(n1:Int),(n2:Int),(n3:Int)) u).toNat=pw at *;have M:Y<2147483647:=by rw[hY];exact Nat.mod_lt _ dM
       have C:Hid (((X:Int)*(pw:Int))%2147483647=(Y:Int)):=zH (by rw[hY];simp);have b3:X*pw<=2147483647*2147483647:=Nat.mul_le_mul oM oM;clear hX hY;obtain rfl|rfl|rfl|rfl:u=0\/u=1\/u=2\/u=3:=oM
       ·simp only[Ex.get]at s;have N:¬v=0:=λh=>m h.symm;have hne2:¬(0:Int)=(v:Int):=oM;have hne3:¬(0:Nat)=v:=m
        go_wp2_with (first
         | (refine kT rfl rfl rfl rfl (Zz _ _ _ _ _) ?_)
         | (go_at_call 137;refine(s _).mono ?_;rintro en w7 ⟨rfl,hb7⟩))
        go_roundw
        case rel=>exact⟨1,Y,oM,by rw[<-C.out],nM,M,z,zH (hB.out.on hb7),zH (hO.out.on hb7),b.trans (hb7.mono b.size)⟩
        case measure=>simp[intOf]
       ·simp only[Ex.get]at s;have N:¬v=1:=λh=>m h.symm;have hne2:¬(1:Int)=(v:Int):=oM;have hne3:¬(1:Nat)=v:=m
        go_wp2_with (first
         | (refine kT rfl rfl rfl rfl (ZA _ _ _ _ _) ?_)
         | (go_at_call 137;refine(s _).mono ?_;rintro en w7 ⟨rfl,hb7⟩))
        go_roundw
        case rel=>exact⟨2,Y,oM,by rw[<-C.out],nM,M,z,zH (hB.out.on hb7),zH (hO.out.on hb7),b.trans (hb7.mono b.size)⟩
        case measure=>simp[intOf]
       ·simp only[Ex.get]at s;have N:¬v=2:=λh=>m h.symm;have hne2:¬(2:Int)=(v:Int):=oM;have hne3:¬(2:Nat)=v:=m
        go_wp2_with (first
         | (refine kT rfl rfl rfl rfl (ZB _ _ _ _ _) ?_)
         | (go_at_call 137;refine(s _).mono ?_;rintro en w7 ⟨rfl,hb7⟩))
        go_roundw
        case rel=>exact⟨3,Y,oM,by rw[<-C.out],nM,M,z,zH (hB.out.on hb7),zH (hO.out.on hb7),b.trans (hb7.mono b.size)⟩
        case measure=>simp[intOf]
       ·simp only[Ex.get]at s;have N:¬v=3:=λh=>m h.symm;have hne2:¬(3:Int)=(v:Int):=oM;have hne3:¬(3:Nat)=v:=m
        go_wp2_with (first
         | (refine kT rfl rfl rfl rfl (ZC _ _ _ _ _) ?_)
         | (go_at_call 137;refine(s _).mono ?_;rintro en w7 ⟨rfl,hb7⟩))
        go_roundw
        case rel=>exact⟨4,Y,oM,by rw[<-C.out],nM,M,z,zH (hB.out.on hb7),zH (hO.out.on hb7),b.trans (hb7.mono b.size)⟩
        case measure=>simp[intOf]
     ·obtain rfl:u=4:=oM;have hB4:=hB.out;have hO4:=hO.out;have hg4:g<wr.heap.size:=hO4.lt;have hmb4:mb<wr.heap.size:=hB4.lt
      have a1:∀W,Below wr.heap.size wr W->W.cell? ⟨mb,v,none⟩=some (.int .i64 n):=λW hb=>by have h1:=O6 ((n0:Int),(n1:Int),(n2:Int),(n3:Int)) v hv;rw[J]at h1;refine(hB4.on hb).at1 v _ ?_;rw[List.getElem?_append_left (by show v<4;exact hv)];exact h1
      have r:∀W,Below wr.heap.size wr W->W.cell? ⟨g,n,none⟩=some (.int .u64 ((out.getD n 0:Nat):Int)):=λW hb=>(hO4.on hb).ncell n oM;have hol2:=al.out.getD n;have ac:(Ex.get ((n0:Int),(n1:Int),(n2:Int),(n3:Int)) v).toNat=n:=by rw[J];rfl
      obtain⟨Y,hY⟩:∃Y,Y=(out.getD n 0+X)%2147483647:=⟨_,rfl⟩
      have hR4:Hid (L=mg v at_ (a.drop (k+1)) (out.set n Y)):=zH (by
       rw[hR3.out,hY];simp only[ac]
       rw[Q4,hX.out];rfl)
      generalize out.getD n 0=y at *;have M:Y<2147483647:=by rw[hY];exact Nat.mod_lt _ dM
      have C:Hid (((y:Int)+(X:Int))%2147483647=(Y:Int)):=zH (by rw[hY];simp);replace a1:=zH a1;replace r:=zH r;have hol3:(out.set n Y).length=D+1:=by rw[List.length_set];exact ao
      have hLo2:=zH (al.out.set n M);clear hX hY ac hR3 J
      go_upto_region 15 with (fail)
      refine aD mixed (none) (0) (eQ.none) [.eq (.slice (some ⟨g,0,none⟩) (D+1) (D+1)),.eq (.int .i64 v),.eq (.pointer (some ⟨mb,0,none⟩)),.eq (.pointer (some ⟨mb,v,none⟩)),.eq (.int .i64 n),.eq (.slice (some ⟨g,0,none⟩) (D+1) (D+1)),.eq (.int .i64 v),.eq (.pointer (some ⟨mb,0,none⟩)),.eq (.pointer (some ⟨mb,v,none⟩)),.eq (.int .i64 n),.eq (.pointer (some ⟨g,0+n*1,none⟩)),.eq (.int .u64 y),.eq (.int .u64 X),.eq (.int .u64 ((y:Int)+(X:Int))),.eq (.int .u64 (((y:Int)+(X:Int))%2147483647)),.eq (.pointer (some ⟨g,0+n*1,none⟩))] [59,60,61,62,63,64,65,66,67,68,69,70,71,72,73,74] rfl rfl rfl rfl ⟨λ_ _ a _ _ _=>xM rfl (a 8 rfl),λ_ _ a _ _ _=>xM rfl (a 1 rfl),λA _ hA _ _ _=>have h10:A.eval (.tmp 10)=.pointer (some ⟨mb,0,none⟩):=hA 10 rfl;pZ rfl,λA _ _ _ _ he=>have h61:=eT 61 (he.1 rfl);have h60:=eT 60 (he.2.1 rfl);pZ rfl,?_,λ_ _ a _ _ _=>xM rfl (a 8 rfl),λ_ _ a _ _ _=>xM rfl (a 1 rfl),λA _ hA _ _ _=>have h10:A.eval (.tmp 10)=.pointer (some ⟨mb,0,none⟩):=hA 10 rfl;pZ rfl,λA _ _ _ _ he=>have h66:=eT 66 (he.1 rfl);have h65:=eT 65 (he.2.1 rfl);pZ rfl,?_,λ_ _ _ _ _ e=>pI rfl Tryz.underlying94 g 0 n (hnvl) (e.1 rfl) (e.2.1 rfl),?_,λ_ _ a _ _ _=>xM rfl (a 12 rfl),?_,?_,λ_ _ _ _ _ e=>pI rfl Tryz.underlying94 g 0 n (hnvl) (e.1 rfl) (e.2.1 rfl),trivial⟩ ?_
      ·intro A w1 hA hL hS he;have h62:=eT 62 (he.1 rfl);refine af rfl ?_;have c0:=a1.out w1 hL.below;exact aC rfl rfl gZ
      ·intro A w1 hA hL hS he;have h67:=eT 67 (he.1 rfl);refine af rfl ?_;have c0:=a1.out w1 hL.below;exact aC rfl rfl gZ
      ·intro A w1 hA hL hS he;have h69:=eT 69 (he.1 rfl);refine af rfl ?_;have c0:=r.out w1 hL.below;exact aC rfl rfl gZ
      ·intro A w1 hA hL hS he;have h70:=eT 70 (he.1 rfl);have h71:=eT 71 (he.2.1 rfl);refine af rfl (aC rfl rfl ?_);generalize A.eval=ev at *;go_simp
       (have hw:=IntKind.wrap_u64 ((y:Int)+(X:Int));omega)
      ·intro A w1 hA hL hS he;have h72:=eT 72 (he.1 rfl);have hc0:=eC A (.int .u64 2147483647);refine af rfl (aC rfl rfl ?_);generalize A.eval=ev at *;go_simp;exact Int.tmod_eq_emod_of_nonneg oM
      ·intro W5 hL5;have hb5:=hL5.below;simp only[aQ,ae.eq,lZ];go_frame;have hO5:=hO4.on hb5;have z5:=hO5.ncell n oM;have f5:=hO5.frozen n;have hO6:=zH (hO5.nset n Y);have hb6:=b.trans ((hb5.mono b.size).trans (bU (W:=W5) (g:=g) (j:=n) aw (.int .u64 (Y:Int))));clear a1 r hL5 hB4 hO4 hB hO hO5 hb5;go_wp2;go_roundw
       case rel=>exact⟨k+1,out.set n Y,oM,nM,by rw[C.out];exact hO6,hol3,hLo2,hR4,by rw[C.out];exact hb6⟩
       case measure=>simp[intOf];omega
  ·obtain rfl:k=a.length:=oM;have ab:Hid (L=some out):=zH (by rw[hR.out,List.drop_of_length_le (nL _)];rfl);have hO4:=hO.out;have hg4:g<wr.heap.size:=hO4.lt;have r:∀W,Below wr.heap.size wr W->W.cell? ⟨g,D,none⟩=some (.int .u64 ((out.getD D 0:Nat):Int)):=λW hb=>(hO4.on hb).ncell D oM
   have an:Hid (oJ L=decide (¬((out.getD D 0:Nat):Int)=0)):=zH (by
    rw[ab.out];show decide (out.getD (out.length-1) 0≠0)=_;rw[ao,Nat.add_sub_cancel];refine decide_eq_decide.2 ?_;constructor
    ·intro h h';exact h oM
    ·intro h h';exact h oM)
   have b2:((D:Int)+1-1)=D:=oM;have hw1:=lL (x:=(D:Int)+1) oM oM;have hw2:=lL (x:=(D:Int)) oM oM;replace r:=zH r;generalize out.getD D 0=y at *
   go_upto_region 17 with (fail)
   refine aD mixed (none) (0) (eQ.none) [.eq (.slice (some ⟨g,0,none⟩) (D+1) (D+1)),.eq (.slice (some ⟨g,0,none⟩) (D+1) (D+1)),.eq (.slice (some ⟨g,0,none⟩) (D+1) (D+1)),.eq (.int .i64 (D+1)),.eq (.int .i64 D),.eq (.pointer (some ⟨g,0+D*1,none⟩)),.eq (.int .u64 y),.eq (.bool (decide (¬(y:Int)=0))),.eq (.slice (some ⟨g,0,none⟩) (D+1) (D+1))] [76,77,78,79,80,81,82,83,6] rfl rfl rfl rfl ⟨λ_ _ a _ _ _=>xM rfl (a 8 rfl),λ_ _ a _ _ _=>xM rfl (a 8 rfl),λ_ _ a _ _ _=>xM rfl (a 8 rfl),λA _ _ _ _ he=>have h78:=eT 78 (he.1 rfl);pZ rfl,λA _ _ _ _ he=>have h79:=eT 79 (he.1 rfl);have hc0:=eC A (.int .i64 1);pZ rfl,λ_ _ _ _ _ e=>pI rfl Tryz.underlying94 g 0 D oM (e.1 rfl) (e.2.1 rfl),?_,?_,λA _ _ _ _ he=>have h76:=eT 76 (he.1 rfl);pZ rfl,trivial⟩ ?_
   ·intro A w1 hA hL hS he;have h81:=eT 81 (he.1 rfl);refine af rfl ?_;have c0:=r.out w1 hL.below;exact aC rfl rfl gZ
   ·intro A w1 hA hL hS he;have h82:=eT 82 (he.1 rfl);have hc0:=eC A (.int .u64 0);refine af rfl (aC rfl rfl ?_);generalize A.eval=ev at *;go_simp
    (by_cases h9:y=0<;>simp[h9])
   ·intro W5 hL5;have hb5:=hL5.below;simp only[aQ,ae.eq,lZ];go_frame;have hO5:=hO4.on hb5;have hS:=Go.RowKit.Blk.nsl hO5 al.out;rw[ao]at hS;clear r hL5 hO4;go_wp2;go_ret2;exact⟨_,by rw[an.out];rfl,λl hl=>by rw[ab.out]at hl;cases hl;exact hS,F.trans (hb5.mono F.size)⟩
end Go.Proofs.YtopclbeomcggiaaGreat
end
section
namespace Q
open Go Go.RowKit Go.Proofs.YtopclbeomcggiaaGreat
def Fu (base:Nat) (w:World) (v:Value) (l:List Nat):Prop :=
 ∃ao cap,v=.slice ao l.length cap/\l.length<=cap/\Gw l/\(0<l.length->∃g cs,ao=some ⟨g,0,none⟩/\base<=g/\Blk w g FI cs/\cs.take l.length=nc l)
theorem Fu.of{base:Nat}{w:World}{v:Value}{l:List Nat}(h:dC Gv base w v l):Fu base w v l:=by
 obtain⟨q,⟨p,d⟩,hex⟩:=h;obtain⟨rfl,k⟩:=yP.1 hex;rcases d with ⟨rfl,m⟩|⟨g,cap,b,rfl,e,hg,i,n,o,j⟩
 ·obtain rfl:l=[]:=List.eq_nil_of_length_eq_zero m;exact⟨none,0,rfl,nL _,k,λh=>by simp at h⟩
 ·refine⟨_,cap,rfl,i,k,λ_=>⟨g,b.toList,rfl,e,by unfold Blk;rw[Array.toArray_toList];exact hg,?_⟩⟩;have:b.toList.take (l.length*1)=nc l:=j;rwa[nU]at this
theorem Fu.on{base:Nat}{w w':World}{v:Value}{l:List Nat}(h:Fu base w v l)(hb:Below w.heap.size w w'):Fu base w' v l:=by obtain⟨b,cap,d,i,j,k⟩:=h;refine⟨b,cap,d,i,j,λhp=>?_⟩;obtain⟨g,cs,e,hg,m,n⟩:=k hp;exact⟨g,cs,e,hg,m.on hb,n⟩
theorem Fu.isSl{base:Nat}{w:World}{v:Value}{l:List Nat}(h:Fu base w v l):bZ Gv w v l:=by obtain⟨b,cap,d,i,j,k⟩:=h;refine Ai.2 ⟨b,cap,d,i,λhp=>?_,j⟩;obtain⟨g,cs,e,hg,m,n⟩:=k (by rw[Nr]at hp;exact hp);refine⟨g,0,e,?_⟩;rw[<-n];exact m.cells.take _
theorem Fu.open{base:Nat}{w:World}{v:Value}{l:List Nat}(h:Fu base w v l)(hp:0<l.length) :
  ∃g cap,v=.slice (some ⟨g,0,none⟩) l.length cap/\l.length<=cap/\base<=g/\g<w.heap.size/\(∀j,j<l.length->w.cell? ⟨g,j,none⟩=some (.int .u64 ((l.getD j 0:Nat):Int)))/\(∀j,w.frozen? ⟨g,j,none⟩=false) /\
   (∀k,k<=l.length->Fu base w (.slice (some ⟨g,0,none⟩) k cap) (l.take k)) /\
   ∀(j x:Nat),j<l.length->x<2147483647->Fu base (w.setCell ⟨g,j,none⟩ (.int .u64 (x:Int))) v (l.set j x):=by
 obtain⟨u,cap,o,p,q,s⟩:=h;obtain⟨g,cs,rfl,hg,b,m⟩:=s hp
 have e:∀j,j<l.length->cs[j]?=some (.int .u64 ((l.getD j 0:Nat):Int)):=λj d=>by rw[<-Ns l j d,<-m,List.getElem?_take,if_pos d]
 refine⟨g,cap,o,p,hg,b.lt,λj d=>b.at1 j _ (e j d),b.frozen,λk i=>?_,λj x d n=>?_⟩
 ·refine⟨some ⟨g,0,none⟩,cap,by rw[List.length_take,Nat.min_eq_left i],by rw[List.length_take];omega,q.sub λx n=>List.mem_of_mem_take n,λ_=>⟨g,cs,rfl,hg,b,?_⟩⟩;rw[List.length_take,Nat.min_eq_left i,nc,List.map_take];have r:(cs.take l.length).take k=(nc l).take k:=by rw[m]
  rw[List.take_take,Nat.min_eq_left i]at r;exact r
 ·refine⟨some ⟨g,0,none⟩,cap,by rw[List.length_set];exact o,by rw[List.length_set];exact p,q.set j n,λ_=>⟨g,cs.set j (.int .u64 (x:Int)),rfl,hg,b.set j _,?_⟩⟩;rw[List.length_set,List.take_set,m,nc,nc,List.map_set]
theorem Nu{r:List Nat}(h:0<r.length)(b:r.getD (r.length-1) 0=0):strip (r.take (r.length-1))=strip r:=by
 have e:r=r.take (r.length-1)++[0]:=by
  have d:r.drop (r.length-1)=[0]:=by rw[List.drop_eq_getElem_cons oM,List.drop_of_length_le oM];rw[jD,gE oM]at b;simpa using b
  rw[<-d,List.take_append_drop]
 generalize r.take (r.length-1)=s at *;subst e;clear h b
 induction s with
 | nil=>rfl
 | cons x s i=>rw[List.cons_append,strip,strip,i]
theorem Nv{r:List Nat}(h:0<r.length)(b:r.getD (r.length-1) 0≠0):strip r=r:=by
 induction r with
 | nil=>rfl
 | cons x r d =>
  cases r with
  | nil=>simp at b;simp[strip,b]
  | cons y r =>
   have:=d sM (by simpa using b);rw[strip,this]
theorem Aj(b r:List Nat)(f at_:Nat):∀i,(ja b r f at_ i).length=r.length
 | 0=>rfl
 | i+1=>by rw[ja,List.length_set,Aj b r f at_ i]
end Q
namespace Go.Proofs.YtopclbeomcggiaaGreat
open Go.RowKit Q
theorem TW:∃z bytes,(Tryz.prog.info? Gv.T).map (λi=>(i.zero,i.size,i.bytes))=some (some z,Gv.sz,bytes)/\z.cells.size=Gv.sz/\bytes<=100000:=⟨.int .u64 0,8,rC,rfl,dM⟩
def Yn (w:World) (l:List Nat) (e:Ending) (w':World):Prop:=∃v,e=.returned v/\Fu w.heap.size w' v l/\Below w.heap.size w w'
theorem Nw(v:Value)(l:List Nat)(w:World)(h:bZ Gv w v l)(r:l.length<=1000000):Calls Tryz.prog 138 #[v] w (Yn w l):=by
 obtain⟨o,cap,s,rfl,p,i,hex⟩:=id h;have n:=Go.Lib.run_eql_slice_nil (P:=Tryz.prog) w 94 97 o l.length cap 0 0 Tryz.underlying94
 cases o with
 | none =>
  have j:l=[]:=by
   cases l with
   | nil=>rfl
   | cons t l =>
    obtain⟨b,off,e,_⟩:=i (by rw[hex.length];simp[Gv]);cases e
  subst j;simp only[List.length_nil,Option.isNone_none]at n ⊢
  go_enter Tryz.func138,Tryz.ntmps138
  go_wp2;go_ret;exact⟨_,rfl,Fu.of (dC.nil _ _ _),Below.refl _ _⟩
 | some a =>
  have d:Below w.heap.size w (w.alloc (.cells #[] FI)):=(Below.refl _ _).alloc (nL _) _;have m:dC Gv w.heap.size (w.alloc (.cells #[] FI)) (.slice (some ⟨w.heap.size,0,none⟩) 0 0) []:=gF Gv w;have h1:=h.on d;clear i
  go_enter Tryz.func138,Tryz.ntmps138
  go_wp2_with (at_builtin;refine gI rfl _ _ 94 rfl Tryz.underlying94 TW rfl rfl m h1 (by simp;omega) d.size ?_;intro v5 w5 hown5 hl5 hv5)
  go_ret;exact⟨_,rfl,by simpa using Fu.of hown5,d.trans (hl5.belowAt d.size (λk q=>by cases q;exact nL _))⟩
end Go.Proofs.YtopclbeomcggiaaGreat
end
section
namespace Q
open Go Go.RowKit Go.Proofs.YtopclbeomcggiaaGreat
theorem Q5{b ts:List ai}{g:ai}(hb:Wp b)(hg:b=g::ts){a:List ai}{r:Option (List ai)}(h:yO a b=some r):∃k,Ae b g k a [] r:=by subst hg;exact TS hb rfl h (by simp[fuel])
theorem zaz{c:Rat}(hc:c≠0)(h:Rk c):Rk (1/c):=by
 have e:1/c=c⁻¹:=by rw[Rat.div_def,Rat.one_mul]
 rw[e];refine⟨?_,?_⟩
 ·rw[Rat.den_inv,if_neg λh=>hc (Rat.num_eq_zero.1 h)];exact h.2
 ·rw[Rat.num_inv,Int.natAbs_mul,Int.natAbs_natCast];refine Nat.le_trans (jl (n:=c.den) ?_) h.1;have:c.num.sign.natAbs<=1:=by rw[Int.natAbs_sign];split<;>omega
  exact Nat.le_trans (Nat.mul_le_mul_right _ this) oM
theorem rk1:Rk (((1:Int)):Rat):=by refine⟨dK,?_⟩;have:=jS (n:=(((1:Int)):Rat).num.natAbs) (k:=1) dK;unfold jH;omega
end Q
namespace Go.Proofs.YtopclbeomcggiaaGreat
open Go.RowKit Q Go.WideMaps Go.Maps
theorem yQ(w:World):Calls Tryz.prog 51 #[] w (aN w qd):=by
 go_enter Tryz.func51,Tryz.ntmps51
 go_wp2_with (first
  | (go_at_call 47;refine(tT 1 _ oM oM).mono ?_;rintro e w1 ⟨v1,rfl,h1,hb1⟩)
  | (go_at_call 89;refine(QI _ _ _ h1).mono ?_;rintro e w2 ⟨v2,rfl,h2,hb2⟩))
 go_ret;exact⟨_,rfl,h2,hb1.trans (hb2.mono hb1.size)⟩
theorem KV(d e:Value)(a b:List ai)(r:Option (List ai))(w:World)(ha:aj w d a)(hb:aj w e b)(kb:Wp b)(h:yO a b=some r):Calls Tryz.prog 93 #[d,e] w (yK w r):=by
 cases b with
 | nil=>simp only[yO,sJ]at h;subst h;exact Wd d e a w ha hb
 | cons g b =>
  obtain⟨k,i⟩:=Q5 kb rfl h;exact We d e a b g k r w ha hb i
theorem rD{a b q:List ai}(h:fQ a b=some q):Wp q:=by
 unfold fQ at h
 cases hd:yO a b with
 | none=>rw[hd]at h;cases h
 | some r =>
  rw[hd]at h;obtain⟨rfl,hq⟩:=kF h;exact hq
theorem oK(d i:Value)(a b q:List ai)(w:World)(ha:aj w d a)(hb:aj w i b)(kb:Wp b)(h:fQ a b=some q):Calls Tryz.prog 56 #[d,i] w (aN w q):=by
 unfold fQ at h
 cases hd:yO a b with
 | none=>rw[hd]at h;cases h
 | some r =>
  rw[hd]at h;obtain⟨rfl,hq⟩:=kF h;have hc:=KV d i a b r w ha hb kb hd;clear hq hd h;obtain⟨l,n,rfl,j⟩:=ha.shape;obtain⟨m,o,rfl,k⟩:=hb.shape
  go_enter Tryz.func56,Tryz.ntmps56
  go_wp2_with (go_at_call 93;refine hc.mono ?_;rintro e w1 ⟨v1,rfl,h1,hb1⟩)
  go_ret;exact⟨_,rfl,h1,hb1⟩
theorem ut(s:Value)(a:List ai)(w:World)(ha:aj w s a):Calls Tryz.prog 50 #[s] w (oP w (.bool (lT a))):=by
 match a,ha with
 | [],ha =>
  obtain⟨q,m,rfl,l⟩:=ha.shape
  go_enter Tryz.func50,Tryz.ntmps50
  go_wp2;go_ret;exact⟨rfl,Below.refl _ _⟩
 | t::u::r,ha =>
  obtain⟨q,m,rfl,l⟩:=ha.shape;have y:(((t::u::r).length:Int)==1)=false:=by simp;omega
  generalize(t::u::r).length=n at *;have b:lT (t::u::r)=false:=rfl;rw[b]
  go_enter Tryz.func50,Tryz.ntmps50
  go_wp2;go_ret;exact⟨rfl,Below.refl _ _⟩
 | [t],ha =>
  obtain⟨q,m,rfl,l⟩:=ha.shape;obtain⟨d,i,x,rfl,-,o,k⟩:=ha.get (j:=0) (t:=t) rfl;obtain⟨B,rfl,z⟩:=o;change bW aR w d (i+0*8) _ at k;have b:lT [t]=decide (t.1=e0):=rfl;rw[b];obtain⟨e,c⟩:=t;simp only at *;have p:=Ty e e0
  go_enter Tryz.func50,Tryz.ntmps50
  go_upto_region 1 with (fail)
  refine aI trivial (none) (0) (eQ.none) [.eq (.slice (some ⟨d,i,none⟩) 1 m),.eq (.int .i64 1),.eq (.bool true),.eq (.bool true),.eq (.slice (some ⟨d,i,none⟩) 1 m),.eq (.pointer (some ⟨d,i+0*8,none⟩)),.eq (.pointer (some ⟨d,i+0*8,none⟩)),.eq (.agg (bI e).toArray),.eq (.agg (bI e0).toArray),.eq (.bool (decide (e=e0))),.eq (.bool (decide (e=e0)))] [3,4,5,6,7,8,9,10,11,12,13] rfl rfl rfl rfl ⟨λ_ _ a _ _ _=>xM rfl (a 0 rfl),λA _ _ _ _ he=>have h3:=eT 3 (he.1 rfl);pZ rfl,λA _ _ _ _ he=>have h4:=eT 4 (he.1 rfl);have hc0:=eC A (.int .i64 1);pZ rfl,λ_ _ _ _ _ e=>xM rfl (e.1 rfl),λ_ _ a _ _ e=>yM (e.1 rfl) rfl (a 0 rfl),λ_ _ _ _ _ e=>aF rfl rfl (e.2.1 rfl) (xI rfl Tryz.underlying27 d i 0 oM (e.1 rfl) rfl),λ_ _ _ _ _ e=>aF rfl rfl (e.2.1 rfl) (uf rfl (e.1 rfl)),λA w1 hA hL hS he=>aF rfl rfl (he.2.1 rfl) (xL rfl (dG (k.on hL.below)) Tryz.underlying36 (show(bI e).length=4 from rfl) (he.1 rfl)),?_,?_,λA _ _ _ _ he=>have h6:=eT 6 (he.1 rfl);have h12:=eT 12 (he.2.1 rfl);have hc0:=eC A (.bool false);pZ rfl,trivial⟩ ?_
  ·intro A w1 hA hL hS he;have h6:=eT 6 (he.1 rfl);refine aF rfl rfl h6 ?_;refine aC rfl rfl ?_;generalize A.eval=ev at *;go_simp
   rfl
  ·intro A w1 hA hL hS he;have h6:=eT 6 (he.2.2.1 rfl);have h10:=eT 10 (he.1 rfl);have h11:=eT 11 (he.2.1 rfl);refine aF rfl rfl h6 ?_;have hq:=p w1;exact aC rfl rfl gZ
  ·intro w2 hL2;simp only[aQ,ae.eq,lZ];go_frame;go_wp2;go_ret;exact⟨rfl,hL2.below⟩
theorem Ee(b:Value)(w:World)(ha:aj w b []):Calls Tryz.prog 14 #[b] w (aN w []):=by
 obtain⟨i,j,rfl,d⟩:=ha.shape;simp only[List.length_nil]
 go_enter Tryz.func14,Tryz.ntmps14
 go_wp2;go_ret;exact⟨_,rfl,bZ.nil _ _,Below.refl _ _⟩
theorem yR{a g:List ai}(h:kG a=some g):Wp g:=by
 cases a with
 | nil=>simp only[kG,sJ]at h;subst h;exact Wp.nil
 | cons t r =>
  simp only[kG]at h;obtain⟨b,d⟩:=kF h;rw[b];exact d
theorem mI(x:Value)(a g:List ai)(w:World)(ha:aj w x a)(l:Wp a)(h:kG a=some g):Calls Tryz.prog 14 #[x] w (aN w g):=by
 match a,ha,l,h with
 | [],ha,l,h =>
  simp only[kG,sJ]at h;subst h;exact Ee x w ha
 | t::r,ha,l,h =>
  simp only[kG]at h;have hg:=kF h;obtain⟨rfl,C⟩:=hg;clear h C;have hz:=(l.val.2 t sM).1;have s:=l.rk t sM;have F:=zaz hz s;have d:=λW v (hb:Below w.heap.size w W) (hv:bX W v (((1:Int):Rat)/t.2))=>Gp x v (t::r) (((1:Int):Rat)/t.2) W (ha.on hb) hv F l.rk (by have:=l.len;omega);have q:(1:Rat)=(((1:Int)):Rat):=rfl;rw[q];obtain⟨M,S,rfl,z⟩:=ha.shape;obtain⟨p,u,G,rfl,-,y,b⟩:=ha.get (j:=0) (t:=t) rfl;obtain⟨X,rfl,n⟩:=y;change bW aR w p (u+0*8) _ at b;have I:=n.len;simp only[List.length_cons]at d ⊢;replace d:=zH d;clear ha l z q;have L:(((r.length+1:Nat):Int)==0)=false:=by simp;omega
  have hp0:0<r.length+1:=oM;generalize r.length+1=N at *
  go_enter Tryz.func14,Tryz.ntmps14
  go_upto_region 3 with (fail)
  obtain⟨N3,A3,K3,C3,N4,A4,K4,C4,rfl,-,-⟩:=id n
  have o:∀W,Below w.heap.size w W->W.cell? ⟨p,u+4,none⟩=some (.bool N3)/\W.cell? ⟨p,u+4+1,none⟩=some (.slice A3 K3 C3)/\W.cell? ⟨p,u+4+2,none⟩=some (.bool N4)/\W.cell? ⟨p,u+4+3,none⟩=some (.slice A4 K4 C4):=λW hb=>by
   have hC:=b.on hb;refine⟨?_,?_,?_,?_⟩
   ·have:=hC.cell 4 (by simp[bI]);simpa[bI]using this
   ·have:=hC.cell 5 (by simp[bI]);simpa[bI,Nat.add_assoc]using this
   ·have:=hC.cell 6 (by simp[bI]);simpa[bI,Nat.add_assoc]using this
   ·have:=hC.cell 7 (by simp[bI]);simpa[bI,Nat.add_assoc]using this
  obtain⟨x1,x2,x3,x4⟩:=o w (Below.refl _ _);have J:=b.lt;have i:=zH (λW v (hb:Below w.heap.size w W) (hv:bX W v (((1:Int)):Rat))=>J3 _ _ _ _ W hv (n.on hb).rat rk1 s hz);obtain⟨x5,x6,x7,x8⟩:=o (w.drew.alloc (.cells #[.bool false,.slice none 0 0,.bool false,.slice none 0 0] 41)) ((ql (Below.refl w.heap.size w) 1).alloc (nL _) _);replace o:=zH o;clear b
  go_cut [9,10,11,12,13,14,8,15,16,3,4] (λ_ _ _ _ _ _ _ _ _ v3 _ wc=>∃bx n5 a5 k5 c5 n6 a6 k6 c6,v3=.pointer (some ⟨bx,0,none⟩)/\Hid (Blk wc bx 41 [.bool n5,.slice a5 k5 c5,.bool n6,.slice a6 k6 c6])/\Hid (bX wc (.agg #[.bool n5,.slice a5 k5 c5,.bool n6,.slice a6 k6 c6]) (((1:Int):Rat)/t.2))/\Below w.heap.size w wc)
  case first =>
   go_region_with (first
    | (go_at_call 47;refine(tT 1 _ oM oM).mono ?_;rintro en w1 ⟨v1,rfl,h1,hb1⟩;have hbw1:Below w.heap.size w w1:=Below.trans (by first|exact ql (Below.refl _ _) _|exact(ql (Below.refl _ _) _).alloc (nL _) _) (hb1.mono (by first|exact nL _|(simp;done)|(simp;omega)));obtain⟨y1,y2,y3,y4⟩:=o.out w1 hbw1;obtain⟨y5,y6,y7,y8⟩:=o.out (w1.alloc (.cells #[.bool false,.slice none 0 0,.bool false,.slice none 0 0] 41)) (hbw1.alloc hbw1.size _);try (have B1:Blk w1 w.heap.size 41 [.bool false,.slice none 0 0,.bool false,.slice none 0 0]:=(Blk.new w.drew 41 [.bool false,.slice none 0 0,.bool false,.slice none 0 0]).on hb1))
    | (go_at_call 46;(first|refine(i.out _ _ hbw1 h1).mono ?_|refine(i.out _ _ (hbw1.alloc hbw1.size _) (h1.on ((Below.refl _ _).alloc (nL _) _))).mono ?_);rintro en w5 ⟨v5,rfl,hv5,hb5⟩;obtain⟨N5,A5,K5,C5,N6,A6,K6,C6,rfl⟩:=gD hv5;have hbw5:Below w.heap.size w w5:=Below.trans (by first|exact hbw1|exact hbw1.alloc hbw1.size _) (hb5.mono (by first|exact hbw1.size|(have:=hbw1.size;simp;omega)));(first|(have B5:=B1.on hb5;have z1:=B5.at1 0 _ rfl;have z2:=B5.at1 1 _ rfl;have z3:=B5.at1 2 _ rfl;have z4:=B5.at1 3 _ rfl;have g1:=B5.frozen 0;have g2:=B5.frozen 1;have g3:=B5.frozen 2;have g4:=B5.frozen 3)|(have B5:Blk w5 w1.heap.size 41 [.bool false,.slice none 0 0,.bool false,.slice none 0 0]:=(Blk.new w1 41 [.bool false,.slice none 0 0,.bool false,.slice none 0 0]).on hb5;have z1:=B5.at1 0 _ rfl;have z2:=B5.at1 1 _ rfl;have z3:=B5.at1 2 _ rfl;have z4:=B5.at1 3 _ rfl;have g1:=B5.frozen 0;have g2:=B5.frozen 1;have g3:=B5.frozen 2;have g4:=B5.frozen 3)|skip);have B6:=Blk.new w5 41 [.bool false,.slice none 0 0,.bool false,.slice none 0 0];have p1:=B6.at1 0 _ rfl;have p2:=B6.at1 1 _ rfl;have p3:=B6.at1 2 _ rfl;have p4:=B6.at1 3 _ rfl;have q1:=B6.frozen 0;have q2:=B6.frozen 1;have q3:=B6.frozen 2;have q4:=B6.frozen 3))
   all_goals first
    | (obtain⟨R5,gr5⟩:=eO [.bool N5,.slice A5 K5 C5,.bool N6,.slice A6 K6 C6] 0 w5 _ B5 sM;have hl5:Lr (some _) 41 w5 _:=⟨gr5,λk D=>by cases D;exact⟨B5.noOther,R5.noOther⟩⟩;have hr5:=hv5.lr hl5 dM;have hbw6:=hbw5.trans (hl5.belowAt hbw5.size (λk D=>by cases D;first|exact nL _|exact hbw1.size));clear hb5 hb1;go_wp2;go_meet;case rel=>exact⟨_,_,_,_,_,_,_,_,_,rfl,zH R5,zH hr5,hbw6⟩)
    | (have R5:=Blk.new w5 41 [.bool N5,.slice A5 K5 C5,.bool N6,.slice A6 K6 C6];have hr5:=hv5.on ((Below.refl _ _).alloc (nL _) (.cells #[.bool N5,.slice A5 K5 C5,.bool N6,.slice A6 K6 C6] 41));have hbw6:=hbw5.alloc hbw5.size (.cells #[.bool N5,.slice A5 K5 C5,.bool N6,.slice A6 K6 C6] 41);clear hb5 hb1;go_wp2;go_meet;case rel=>exact⟨_,_,_,_,_,_,_,_,_,rfl,zH R5,zH hr5,hbw6⟩)
  case rest =>
   obtain⟨bx,n5,a5,k5,c5,n6,a6,k6,c6,rfl,hB,hr,m⟩:=hcut;have y1:=hB.out.at1 0 _ rfl;have y2:=hB.out.at1 1 _ rfl;have y3:=hB.out.at1 2 _ rfl;have y4:=hB.out.at1 3 _ rfl;have B:=d.out _ _ m hr.out;clear x1 x2 x3 x4 x5 x6 x7 x8
   go_wp2_with (go_at_call 48;refine B.mono ?_;rintro e w4 ⟨v4,rfl,h4,hb4⟩)
   go_ret;exact⟨_,rfl,h4,m.trans (hb4.mono m.size)⟩
end Go.Proofs.YtopclbeomcggiaaGreat
end
section
namespace Q
open Go Go.RowKit Go.Proofs.YtopclbeomcggiaaGreat
def Y9 (B E N k:Nat):Sz:=⟨2^k,B*19^k,E+k,N*3^k⟩
def szF:Sz:=⟨2,18,1,2⟩
def zaS (B E N M:Nat):Bool:=decide ((⟨1,B,E,N⟩:Sz).ok)&&(List.range (M+1)).all (λk=>decide ((Y9 B E N k).ok))&&(List.range M).all (λk=>decide (((Y9 B E N k).mul szF).ok)&&decide ((((Y9 B E N k).mul szF).add ⟨1,B,E,N⟩).le (Y9 B E N (k+1))))&&(List.range (M+1)).all (λk=>decide ((Y9 B E N k).le (Y9 B E N M)))
def sze (s:Sz) (d b e:Nat):Sz:=⟨s.D*d^e,s.B*b^e,s.E,s.N⟩
end Q
namespace Go.Proofs.YtopclbeomcggiaaGreat
open Go.RowKit Q
variable {w:World} {vp vq:Value} {p f:List ai}
end Go.Proofs.YtopclbeomcggiaaGreat
end
