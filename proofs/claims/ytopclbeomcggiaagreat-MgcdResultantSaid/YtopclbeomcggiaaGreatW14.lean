/- The integer package of the program: long division. -/
import Derived.Test.YtopclbeomcggiaaGreatW13
import Derived.StillTailTactics
set_option linter.unusedVariables false
set_option linter.unusedSimpArgs false
set_option maxHeartbeats 16000000
set_option maxRecDepth 100000
namespace Go.Proofs.YtopclbeomcggiaaGreat
open Go.RowKit Q
theorem Nl (ao1 ao2:Option Addr) (cap1 cap2:Nat) (A B:List Int) (w:World) (bA:A.length<=17179869184) (LA:aH A) (LB:aH B) (mA:At uT w ao1 (uc A)) (mB:At uT w ao2 (uc B)) (nB:iU B) (hn:2<=B.length) (nz:B.length<=A.length) (hcap1:A.length<=cap1) (hcap:B.length<=cap2) :
  Calls Tryz.prog 161 #[.slice ao1 A.length cap1,.slice ao2 B.length cap2] w (Jw w (ah A) (ah B) (A.length+1)):=by
 obtain⟨n,hn2⟩:∃ n,B.length=n+2:=⟨B.length - 2,by omega⟩;replace hn2:=zH hn2;obtain⟨p2,o2,e2,hcB⟩:=id (mB (by rw [eQ];omega));have E2:=zH e2;have hcl:=hcB.ucell (B.length - 1) (by omega);have b1:=(LB.getD (B.length - 1)).1;have b2:B.getD (B.length - 1) 0<4294967296:=(LB.getD (B.length - 1)).2
 have b3:B.getD (B.length-1) 0≠0:=by
  have hne:B≠[]:=fun h=>by rw [h] at hn;simp at hn
  have:=nB hne;rw [List.getLast_eq_getElem] at this;rw [List.getD_eq_getElem?_getD,List.getElem?_eq_getElem (by omega)];exact this
 obtain⟨x,hx⟩:∃ x,x=B.getD (B.length - 1) 0:=⟨_,rfl⟩;rw [<- hx] at hcl b1 b2 b3;have hbl:=Aj (x:=x.toNat) (by omega) (by omega);obtain⟨k,hk⟩:∃ k:Nat,k=32 - Go.Lib.bitLen x.toNat:=⟨_,rfl⟩;have hkE:(32:Int) - (Go.Lib.bitLen x.toNat:Nat)=(k:Int):=by omega
 have hk32:k<32:=by omega
 have h1:dH w (.slice ao1 A.length cap1) A:=⟨ao1,cap1,rfl,hcap1,LA,mA⟩;have h2:dH w (.slice ao2 B.length cap2) B:=⟨ao2,cap2,rfl,hcap,LB,mB⟩;replace hx:=zH hx;replace hk:=zH hk;replace hbl:=zH hbl;replace hcB:=zH hcB;clear e2
 go_enter Tryz.func161,Tryz.ntmps161
 go_upto_region 2 with (first
  | (refine aj rfl (.tmp 24) (.tmp 27) _ rfl _ Tryz.underlying37 _ _ _ bM _ _ _ rfl _ _ rfl (B.length-1) (by omega) (by omega) p2 o2 E2.out ?_;rw [Nat.mul_one])
  | (go_at_call 171;refine (Pb x _ (by omega) b2).mono ?_;rintro e w' ⟨rfl,rfl⟩;rw [hkE]))
 go_cut [7,8,31,32,33,34,35,36,37,38,39] (fun v7 v8 _ _ _ _ _ _ _ _ _ wc=>∃ (gu gv:Nat) (us vs:List Int),v7=.slice (some ⟨gu,0,none⟩) (A.length+1) (A.length+1)/\v8=.slice (some ⟨gv,0,none⟩) (n+2) (B.length+1)/\gu≠gv/\w'.heap.size<=gu/\w'.heap.size<=gv/\Hid (Blk wc gu uT (uc us))/\Hid (Blk wc gv uT (uc vs))/\us.length=A.length+1/\vs.length=B.length+1/\Hid (aH us)/\Hid (aH vs)/\Hid (ah us=ah A*((2 ^ k:Nat):Int))/\Hid (ah vs=ah B*((2 ^ k:Nat):Int))/\Below w'.heap.size w' wc)
 case first =>
  go_region_with (first
   | (go_at_call 172;refine (Dz _ _ k _ (by first|exact h1.on ((pV (Below.refl _ _) _).trans (hba.mono (Nat.le_refl _)))|exact h2.on ((pV (Below.refl _ _) _).trans (hba.mono (Nat.le_refl _)))) (by omega) hk32).mono ?_;rintro e w4 ⟨gb,lb,rfl,hgb,hBb,hLb,⟨hlb,hvb⟩,hbb⟩)
   | (go_at_call 172;refine (Dz _ _ k _ (by first|exact h1.on (pV (Below.refl _ _) _)|exact h2.on (pV (Below.refl _ _) _)) (by omega) hk32).mono ?_;rintro e w3 ⟨ga,la,rfl,hga,hBa,hLa,⟨hla,hva⟩,hba⟩))
  all_goals (go_wp2;go_meet)
  case rel =>
   have hlt:=hBa.lt;have hne:ga≠gb:=by have:w3.heap.size<=gb:=hgb;omega
   have hBa':=hBa.on hbb;have hbw:Below w'.heap.size w' w4:=(pV (Below.refl _ _) _).trans (hba.trans (hbb.mono (by have:=hba.size;exact this)));have hs1:w'.heap.size<=ga:=hga;have hs2:w'.heap.size<=gb:=by have:w'.heap.size<=w3.heap.size:=hba.size;have:w3.heap.size<=gb:=hgb;omega
   first
   | exact⟨ga,gb,la,lb,rfl,by rw [hn2.out],hne,hs1,hs2,zH hBa',zH hBb,hla,hlb,zH hLa,zH hLb,zH hva,zH hvb,hbw⟩
   | exact⟨gb,ga,lb,la,rfl,by rw [hn2.out],Ne.symm hne,hs2,hs1,zH hBb,zH hBa',hlb,hla,zH hLb,zH hLa,zH hvb,zH hva,hbw⟩
 case rest =>
  have hn3:=hn2.out;obtain⟨gu,gv,us,vs,rfl,rfl,hne,hgu,hgv,Bu,Bv,lus,lvs,Lu,Lv,vu,vv,hbw⟩:=hcut;obtain⟨V,hV⟩:∃ V,V=vs.take (n+2):=⟨_,rfl⟩;have LV:aH V:=by rw [hV];exact Lv.out.take _
  have lV:V.length=n+2:=by rw [hV,List.length_take];omega
  have hP0:(0:Int)<((2 ^ k:Nat):Int):=Int.ofNat_lt.2 (Nat.pow_pos (by decide))
  have vV:ah V=ah B*((2 ^ k:Nat):Int):=by
   rw [hV,<- vv.out];have hb:=hbl.out;exact Xy (b:=Go.Lib.bitLen x.toNat) LB hn3 (by rw [<- show B.length-1=n+1 by omega,<- hx.out];omega) (by have:=hk.out;omega) Lv.out vv.out (by omega)
  have hlowV:bL ^ (n+1)*((2 ^ k:Nat):Int)<=ah V:=by
   have h1:=nB.low LB (by omega);rw [show B.length-1=n+1 by omega] at h1;rw [vV];exact Int.mul_le_mul_of_nonneg_right h1 (by omega)
  have v1:1<=V.getD (n+1) 0:=UC LV lV hP0 hlowV;have hst:uI (ah us) V (A.length+1-(n+2)) us (List.replicate (A.length+1-(n+2)) 0):=O7 LA (by omega) Lu.out lus vu.out hP0 hlowV lV;replace vV:=zH vV;replace hlowV:=zH hlowV;replace hV:=zH hV;have hvget:∀ j,j<n+2->vs.getD j 0=V.getD j 0:=fun j hj=>by rw [hV.out,Ni _ hj]
  have HVG:=zH hvget;clear hvget;replace hst:=zH hst;obtain⟨d,hd⟩:∃ d,A.length+1=d+(n+2):=⟨A.length+1 - (n+2),by omega⟩;replace hn3:=zH hn3
  go_wp2_with (at_make;refine bQ rfl _ _ _ rfl _ (.int .u32 0) 1 4 Tryz.underlying37 bM rfl rfl .i64 .i64 _ _ d rfl rfl (by omega) (by omega) (by omega) (by omega) ?_;intro w1 own1 gr1)
  rw [iZ] at own1;have Bu1:=Bu.out.on gr1;have Bv1:=Bv.out.on gr1;have hbw1:=hbw.trans (gr1.mono hbw.size);have lY:w'.heap.size<=wc.heap.size:=hbw.size;have qR:gu≠wc.heap.size:=by have:=Bu.out.lt;omega
  have hq3:gv≠wc.heap.size:=by have:=Bv.out.lt;omega
  obtain⟨gq,hgq⟩:∃ gq,gq=wc.heap.size:=⟨_,rfl⟩;rw [<- hgq] at own1 lY qR hq3 ⊢;replace hgq:=zH hgq;clear Bu Bv gr1;have hdA:d+(n+2)=A.length+1:=hd.symm;have hst':uI (ah us) V d us (List.replicate d 0):=by have:=hst.out;rw [hd,Nat.add_sub_cancel] at this;exact this
  replace hst':=zH hst';clear hst
  go_loopw [10] (fun i wr=>∃ (j:Nat) (xs qs:List Int),j<=d/\i=.int .i64 ((j:Int)-1)/\qs.length=d/\Hid (uI (ah us) V j xs qs)/\Hid (Blk wr gu uT (uc xs))/\Hid (Blk wr gv uT (uc vs))/\Hid (Blk wr gq uT (uc qs))/\Below w'.heap.size w' wr) (fun i _=>(intOf i+1).toNat)
  case atStart=>exact⟨d,us,_,Nat.le_refl _,by go_num,by simp,hst',zH Bu1,zH Bv1,zH own1,hbw1⟩
  case round =>
   obtain⟨j,xs,qs,hj,rfl,hlq,hinv,Bu,Bv,Bq,hb⟩:=hrel;clear Bu1 Bv1 own1 hst' hbw1;by_cases h0:1<=j
   ·obtain⟨i,rfl⟩:∃ i,j=i+1:=⟨j - 1,by omega⟩;rw [show ((i+1:Nat):Int) - 1=(i:Int) by omega];refine Jy ao1 ao2 cap1 cap2 A B us V vs w' n d k gu gv gq bA nz hn3 lvs LV lV v1 HVG hd hne hgu lY qR hq3 i xs qs wr ⟨hj,hlq,hinv,Bu,Bv,Bq,hb⟩ _ _ _ _ _ _ _ _ _ _ _ _ _ _ _ _ _ _ _ _ _ _ _ _ _ _ _ _ _ _ _ _ _ _ _ _ _ _ _ _ _ _ _ _ _ _ _ _ _ _ _ _ _ _ _ _ _ _ _ _ _ _ _ _ _ _ _ _ _ _ _ _ _ _ _ _ _ _ _ _ _ _ _ _ _ _ _ _ _ _ _ _ _ _ _ _ _ _ _ _ _ _ _ _ _ _ _ _ _ _ _ _ _ _ _ _ _ _ _ _ _ _ _ _ _ _ _ _ _ _ _ _ _ _ _ _ _ _ _ _ _ _ _ _ _ _ _ _ _ _ _ _ _ _ _ _ _ _ _ _ _ _ _ _ _ _ _ _ _ _ _ _ _ _ _ _ _ _ _ _ _ _ _ _ _ _ _ _ _ _ _ _ _ _ _ _ _ _ _ _ _ _ _ _ _ _ _ _ _ _ _ _ _ _ _ _ _ _ _ _ _ _ _ _ _ _ _ _ _ _ _ _ _ _ _ _ _ _ _ _ _ _ _ _ _ _ _ _ ?_;clear hinv Bu Bv Bq hb;intro y11 y12 y13 y14 y15 y16 y17 y18 y19 y20 y21 y22 y52 y53 y54 y55 y56 y57 y58 y59 y60 y61 y62 y63 y64 y65 y66 y67 y68 y69 y70 y71 y72 y73 y74 y75 y76 y77 y78 y79 y80 y81 y82 y83 y84 y85 y86 y87 y88 y89 y90 y91 y92 y93 y94 y95 y96 y97 y98 y99 y100 y101 y102 y103 y104 y105 y106 y107 y108 y109 y110 y111 y112 y113 y114 y115 y116 y117 y118 y119 y120 y121 y122 y123 y124 y125 y126 y127 y128 y129 y130 y131 y132 y133 y134 y135 y136 y137 y138 y139 y140 y141 y142 y143 y144 y145 y146 y147 y148 y149 y150 y151 y152 y153 y154 y155 y156 y157 y158 y159 y160 y161 y162 y163 y164 y165 y166 y167 y168 y169 y170 y171 y172 y173 y174 y175 y176 y177 y178 y179 y180 y181 y182 y183 y184 y185 y186 y187 y188 y189 y190 y191 y192 y193 y194 y195 y196 y197 y198 y199 y200 y201 y202 y203 y204 y205 y206 y207 y208 y209 y210 y211 y212 y213 y214 y215 y216 y217 y218 y219 y220 y221 y222 y223 y224 xs' qs' wz hz
    obtain⟨z1,z2,z3,z4,z5,z6,z7⟩:=hz;refine⟨⟨_,_,_,_,_,_,_,_,_,_,_,_,_,_,_,_,_,_,_,_,_,_,_,_,_,_,_,_,_,_,_,_,_,_,_,_,_,_,_,_,_,_,_,_,_,_,_,_,_,_,_,_,_,_,_,_,_,_,_,_,_,_,_,_,_,_,_,_,_,_,_,_,_,_,_,_,_,_,_,_,_,_,_,_,_,_,_,_,_,_,_,_,_,_,_,_,_,_,_,_,_,_,_,_,_,_,_,_,_,_,_,_,_,_,_,_,_,_,_,_,_,_,_,_,_,_,_,_,_,_,_,_,_,_,_,_,_,_,_,_,_,_,_,_,_,_,_,_,_,_,_,_,_,_,_,_,_,_,_,_,_,_,_,_,_,_,_,_,_,_,_,_,_,_,_,_,_,_,_,_,_,_,_,_,_,_,⟨i,xs',qs',z1,rfl,z2,z3,z4,z5,z6,z7⟩,rfl⟩,?_⟩;simp [intOf]
   ·obtain rfl:j=0:=by omega
    have hLx:=hinv.out.1;have hLq:=hinv.out.2.1;have hlx:xs.length=d+(n+2):=by have:=hinv.out.2.2.1;omega
    have hxV:ah xs<ah V:=by have:=hinv.out.2.2.2.1;simpa using this
    have heq:=hinv.out.2.2.2.2.1;have hVlt:ah V<bL ^ (n+2):=by rw [<- lV];exact il LV
    have hmul:ah xs=((2 ^ k:Nat):Int)*(ah A-ah qs*ah B):=by
     rw [vu.out,vV.out] at heq;exact UF heq
    have hxB:=Int.lt_trans hxV hVlt;obtain⟨P,hP⟩:∃ P:Int,P=((2 ^ k:Nat):Int):=⟨_,rfl⟩;obtain⟨R,hR⟩:∃ R:Int,R=((2 ^ (32 - k):Nat):Int):=⟨_,rfl⟩;have hR0:0<R:=by rw [hR];exact Int.ofNat_lt.2 (Nat.pow_pos (by decide))
    have hPR:P*R=4294967296:=by
     rw [hP,hR,<- Int.natCast_mul,<- Nat.pow_add,show k+(32-k)=32 by omega];rfl
    have hP1:0<P:=by rw [hP];exact hP0
    rw [<- hP] at hmul;replace hP:=zH hP;replace hR:=zH hR;replace hlx:=zH hlx;replace hxV:=zH hxV;replace heq:=zH heq;replace hVlt:=zH hVlt;replace hmul:=zH hmul;replace hxB:=zH hxB;replace hlq:=zH hlq;replace lV:=zH lV;replace hd:=zH hd;replace hdA:=zH hdA;have bn:n+2<=17179869184:=by have:=hn3.out;omega
    have hd1:1<=d:=by have:=hn3.out;have:=hd.out;omega
    go_wp2_with (at_make;refine bQ rfl _ _ _ rfl _ (.int .u32 0) 1 4 Tryz.underlying37 bM rfl rfl .i64 .i64 _ _ (n+2) rfl rfl (by omega) (by omega) (by omega) (by omega) ?_;intro w4 own4 gr4)
    rw [iZ] at own4;have Bu4:=Bu.out.on gr4;have Bq4:=Bq.out.on gr4;have hb4:=hb.trans (gr4.mono hb.size);obtain⟨gr,hgr⟩:∃ gr,gr=wr.heap.size:=⟨_,rfl⟩;have hgr1:w'.heap.size<=gr:=by rw [hgr];exact hb.size
    have hgr2:gu≠gr:=by rw [hgr];have:=Bu.out.lt;omega
    have hgr3:gq≠gr:=by rw [hgr];have:=Bq.out.lt;omega
    rw [<- hgr] at own4 ⊢;replace hgr:=zH hgr;clear Bu Bv Bq hb gr4;obtain⟨w5,rfl⟩:∃ w5:World,w5=wr:=⟨_,rfl⟩
    go_loopw [228] (fun v wr=>∃ (j:Nat) (rs:List Int),j<=n+2/\v=.int .i64 j/\rs.length=n+2/\Hid (yI xs P R j rs)/\Hid (Blk wr gr uT (uc rs))/\Hid (Blk wr gu uT (uc xs))/\Hid (Blk wr gq uT (uc qs))/\Below w'.heap.size w' wr) (fun v _=>n+2-(intOf v).toNat)
    case atStart=>exact⟨0,_,by omega,rfl,by simp,zH (yI.start (by have:=hlx.out;have:=hd.out;omega)),zH own4,zH Bu4,zH Bq4,hb4⟩
    case round =>
     clear own4 Bu4 Bq4 hb4;obtain⟨j,rs,hj,rfl,hlr,hbk,Br,Bu,Bq,hb⟩:=hrel;by_cases hjt:j<n+2
     ·obtain⟨s1,s2,s3,s4,s5⟩:=hbk.out.step hLx (by omega) hP1 hR0 hPR;have cu:=Bu.out.ucell j (by have:=hlx.out;omega);have cu2:=Bu.out.ucell (j+1) (by have:=hlx.out;omega);have cr:=Br.out.ucell j (by omega);have fr:=Br.out.frozen j;have pu:=hLx.getD j;have pw:=hLx.getD (j+1);rw [aT] at pu pw;have hnx:=Sc pw.1 hP1 hR0 hPR;have hdv:R∣xs.getD (j+1) 0 % P*R:=⟨_,Int.mul_comm _ _⟩;generalize xs.getD j 0=x0 at *;generalize xs.getD (j+1) 0=x1 at *;generalize rs.getD j 0=z at *;have hor:=Pd hR.out s1 s2 s3 (by omega) (by omega) hdv;replace s5:=zH s5;replace hnx:=zH hnx;replace hor:=zH hor;replace hlr:=zH hlr;clear hdv;have g3:(j:Int)+1<d+(n+2):=by omega
      have g4:(j:Int)<n+2:=by omega
      have g5:(0:Int)<=(j:Int)+1:=by omega
      have g6:(0:Int)<=j:=by omega
      have g8:IntKind.i64.wrap ((j:Int)+1)=(j:Int)+1:=by rw [IntKind.wrap_i64];omega
      have g9:((j:Int)+1).toNat=j+1:=by omega
      have g7:(j:Int)<d+(n+2):=by omega
      go_upto_region 39 with fail
      go_still_tail 20,(by kernel_rfl)
      have Br6:=Br.out.drew;have Bu6:=Bu.out.drew;have Bq6:=Bq.out.drew;have cr6:=Br6.ucell j (by have:=hlr.out;omega);have fr6:=Br6.frozen j;have hb6:=pV hb 1;change wpList _ _ _ _ _ wr.drew;replace hb6:Below w'.heap.size w' wr.drew:=hb6;generalize wr.drew=w6 at *;clear Br Bu Bq hb cu cu2 cr fr
      go_wp2_with fail
      have eP:(2:Int) ^ k=P:=by rw [hP.out];simp
      rw [eP,hnx.out,hor.out];go_roundw
      case rel=>exact⟨j+1,_,by omega,by go_num,by rw [List.length_set];exact hlr.out,s5,zH (Br6.uset j _),zH (Bu6.other _ _ hgr2),zH (Bq6.other _ _ hgr3),hb6.setCell hgr1 _⟩
      case measure=>simp [intOf];omega
     ·obtain rfl:j=n+2:=by omega
      have hval:=Sb hbk.out hlr hLx (by have:=hlx.out;omega) hP1 hPR hxB.out hmul.out;have hur:=Br.out.u32s hbk.out.1;rw [hlr] at hur;have huq:=Bq.out.u32s hLq;rw [hlq.out] at huq;have HV:=zH hval
      have HL:=zH (show ah rs<ah B from by
       have h1:=hxV.out;rw [vV.out,hmul.out,<- hP.out,Int.mul_comm P] at h1
       rw [hval];exact Int.lt_of_mul_lt_mul_right h1 (by omega))
      go_wp2;go_ret2;refine⟨_,_,qs,rs,rfl,huq,hur,by have:=hlq.out;have:=hd.out;omega,by have:=hn3.out;omega,?_,HL.out,?_⟩
      ·rw [HV.out];omega
      ·exact hb
theorem Pe (v1 v2:Value) (l1 l2:List Int) (w:World) (h1:dH w v1 l1) (h2:dH w v2 l2) (b1:l1.length<=17179869184) (n2:iU l2) (hn:2<=l2.length) (nz:l2.length<=l1.length) :
  Calls Tryz.prog 161 #[v1,v2] w (Jw w (ah l1) (ah l2) (l1.length+1)):=by
 obtain⟨ao1,cap1,rfl,c1,L1,m1⟩:=h1;obtain⟨ao2,cap2,rfl,c2,L2,m2⟩:=h2;exact Nl ao1 ao2 cap1 cap2 l1 l2 w b1 L1 L2 m1 m2 n2 hn nz c1 c2
end Go.Proofs.YtopclbeomcggiaaGreat
