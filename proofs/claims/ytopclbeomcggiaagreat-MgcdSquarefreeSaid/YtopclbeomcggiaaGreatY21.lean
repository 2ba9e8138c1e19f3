/- The reference's integers: divide (by one limb), DivMod, Gcd. -/
import Derived.Test.YtopclbeomcggiaaGreatY20
set_option linter.unusedVariables false
set_option linter.unusedSimpArgs false
set_option maxHeartbeats 16000000
set_option maxRecDepth 100000
namespace Go.Proofs.YtopclbeomcggiaaGreat
open Go.RowKit Q
def NJ (w:World) (x y:Int) (e:Ending) (w':World):Prop :=
 ∃n1 m1 n2 m2,e=.returned (.tuple #[.agg #[.bool n1,m1],.agg #[.bool n2,m2]])/\bf w' n1 m1 x/\bf w' n2 m2 y/\Below w.heap.size w w'
theorem uR{P:Program}{fn:Func}{p q:Tmp}{ty:TypeId}(h:fn.results=#[.cell p ty,.cell q ty])(tmps:Array Value)(w:World)(g1 b:Nat){d:TypeDesc}(hu:P.underlying ty=some d)
  (hd:(match d with|.struct _|.array _ _=>true|_=>false)=true) {l m:TypeId} {c1 c2:List Value} (hp:tmps.getD p undef=.pointer (some ⟨g1,0,none⟩)) (hq:tmps.getD q undef=.pointer (some ⟨b,0,none⟩)) (o:Blk w g1 l c1) (r:Blk w b m c2)
  (e:(P.info? ty).map (·.size)=some c1.length) (i:(P.info? ty).map (·.size)=some c2.length) :
  (results fn tmps).run P w=.ok (.tuple #[.agg c1.toArray,.agg c2.toArray]) w:=by
 have j:tmps[p]?.getD undef=.pointer (some ⟨g1,0,none⟩):=by simpa using hp
 have k:tmps[q]?.getD undef=.pointer (some ⟨b,0,none⟩):=by simpa using hq
 have e1:=run_loadVar_row (P:=P) w g1 l ty c1.toArray (0,0) d o hu hd (by simpa using e);have n:=run_loadVar_row (P:=P) w b m ty c2.toArray (0,0) d r hu hd (by simpa using i);simp[results,h,j,k,asAddr,Sem.run_bind,e1,n]
theorem NK{w:World}{neg:Bool}{m:Value}{z:Int}(h:bf w neg m z)(hz:aF z.natAbs<=CS):Calls Tryz.prog 103 #[m,.bool neg] w (lU w z):=by obtain⟨l,d,cap,rfl,hc,b,u,L,e,i,hp,rfl⟩:=h.openS hz;exact iV neg _ l w u oM
theorem zK{w:World}{neg:Bool}{m:Value}{z:Int}(h:bf w neg m z)(hz:aF z.natAbs<=CS):Calls Tryz.prog 103 #[m,.bool false] w (lU w z.natAbs):=by obtain⟨l,e,cap,rfl,hc,b,u,L,i,j,hp,rfl⟩:=h.openS hz;have:=iV false _ l w u oM;have d:=aW L;rw[fG,Int.natAbs_of_nonneg d];exact this
theorem JD(v1 v2:Value)(l1:List Int)(d:Int)(w:World)(h1:cZ w v1 l1)(h2:cZ w v2 [d])(b1:l1.length<=600000000)(hd:1<=d) :
  Calls Tryz.prog 139 #[v1,v2] w (NJ w (ah l1/d) (ah l1%d)):=by
 obtain⟨ao2,cap2,rfl,hc2,L2,m2⟩:=h2;obtain⟨p2,o2,rfl,q⟩:=m2 (by simp[uc]);have s:d<4294967296:=(L2 d sM).2;simp only[List.length_cons,List.length_nil,Nat.zero_add]at hc2 ⊢
 go_enter Tryz.func139,Tryz.ntmps139
 go_upto_region 1 with (fail)
 refine xS λW hb0 B1 B2 z=>?_;have i:=(q.on hb0).ucell 0 sM;simp only[List.getD_cons_zero,Nat.add_zero]at i
 go_upto_region 3 with (first
  | (refine ak rfl (.tmp 21) _ _ rfl _ Tryz.underlying37 _ _ _ bH _ _ _ rfl .i64 0 rfl 0 rfl oM p2 o2 rfl ?_;rw[Nat.zero_mul,Nat.add_zero])
  | (go_at_call 157;refine(CZ _ l1 d _ (h1.on hb0) oM hd s).mono ?_;rintro e w1 ⟨v,l,r,rfl,hu,B,he,hr0,hr1,hb1⟩))
 have hq:Hid (ah l1/d=ah l/\ah l1%d=r):=zH (XQ oM he hr0 hr1);have x:0<=r/\r<bC:=by rw[aT];omega
 clear he i;have hb01:=hb0.trans (hb1.mono hb0.size);have n:=B1.on hb1;have o:=B2.on hb1;have u:ah [r]=r:=by simp[ah]
 go_wp2_with fail
 refine(iV false _ l w1 hu oM).mono ?_;rintro e w2 hret;obtain⟨n3,a3,k3,c3,rfl,i3,hb2⟩:=fC hret;clear hret;have j:Below w2.heap.size w2 (w2.alloc (.cells #[.int .u32 r] uT)):=(Below.refl _ _).alloc (nL _) _
 go_wp2_with fail
 refine(iV false _ [r] _ (cZ.newOne w2 x) sM).mono ?_;rintro e w3 hret;obtain⟨n4,a4,k4,c4,rfl,i4,hb3⟩:=fC hret;clear hret;have hb23:=hb2.trans ((j.trans (hb3.mono j.size)).mono hb2.size);have hC1:=n.on hb23;have hC2:=o.on hb23;have k:=i3.on (j.trans (hb3.mono j.size))
 go_wp2_with (first
  | (refine az rfl _ (.tmp 4) (.tmp 28) rfl _ _ _ _ rfl rfl hC1 rfl aO k.ones ?_;intro w4 R4 gr4;have b:=hC2.grown gr4 oM;have y:=k.stored gr4 hC1 dM;have m:=i4.stored gr4 hC1 dM)
  | (refine az rfl _ (.tmp 5) (.tmp 31) rfl _ _ _ _ rfl rfl b rfl aO m.ones ?_;intro w5 R5 gr5))
 have p:=hb01.trans (hb23.mono hb01.size);have hlt1:=hC1.lt;have hlt2:=b.lt;refine bodyPost_ret (uR rfl _ _ _ _ Tryz.underlying39 rfl rfl rfl (R4.grown gr5 oM) R5 aO aO) rfl ⟨_,_,_,_,rfl,?_,?_,(p.trans ((aH gr4 (Nat.le_of_lt hlt1) (nL _)).mono oM)).trans ((aH gr5 (Nat.le_of_lt hlt2) (nL _)).mono oM)⟩
 ·have:=y.stored gr5 b dM;rw[hq.out.1];simpa[gG]using this
 ·have:=m.stored gr5 b dM;rw[u]at this;rw[hq.out.2];simpa[gG]using this
theorem jd{x y:Int}{K:Nat}(h:x.natAbs<=y.natAbs)(b:aF y.natAbs<=K):aF x.natAbs<=K:=Nat.le_trans (jf h) b
end Go.Proofs.YtopclbeomcggiaaGreat
