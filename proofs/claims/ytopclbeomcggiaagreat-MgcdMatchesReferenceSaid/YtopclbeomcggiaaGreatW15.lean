/- The integer package of the program: long division. -/
import Derived.Test.YtopclbeomcggiaaGreatW14
import Derived.StillTailTactics
set_option linter.unusedVariables false
set_option linter.unusedSimpArgs false
set_option maxHeartbeats 16000000
set_option maxRecDepth 100000
namespace Go.Proofs.YtopclbeomcggiaaGreat
open Go.RowKit Q
theorem OD(ao1 ao2:Option Addr)(cap1 cap2:Nat)(A B:List Int)(w:World)(bA:A.length<=17179869184)(LA:aG A)(LB:aG B)(mA:At uT w ao1 (uc A))(mB:At uT w ao2 (uc B))(nB:gL B)(hn:2<=B.length)(kQ:B.length<=A.length)(hcap1:A.length<=cap1)(al:B.length<=cap2) :
  Calls Tryz.prog 161 #[.slice ao1 A.length cap1,.slice ao2 B.length cap2] w (KI w (ah A) (ah B) (A.length+1)):=by
 obtain⟨n,hn2⟩:∃n,B.length=n+2:=⟨B.length - 2,oM⟩;replace hn2:=zH hn2;obtain⟨p2,o2,e2,a5⟩:=id (mB (by rw[dG];omega));have E2:=zH e2;have b0:=a5.ucell (B.length - 1) oM;have b1:=(LB.getD (B.length - 1)).1;have b2:B.getD (B.length - 1) 0<4294967296:=(LB.getD (B.length - 1)).2
 have b3:B.getD (B.length-1) 0≠0:=by
  have y:B≠[]:=λh=>by rw[h]at hn;simp at hn
  have:=nB y;rw[List.getLast_eq_getElem]at this;rw[jD,gE oM];exact this
 obtain⟨x,hx⟩:∃x,x=B.getD (B.length - 1) 0:=⟨_,rfl⟩;rw[<-hx]at b0 b1 b2 b3;have a4:=BS (x:=x.toNat) oM oM;obtain⟨k,hk⟩:∃k:Nat,k=32 - Go.Lib.bitLen x.toNat:=⟨_,rfl⟩;have b6:(32:Int) - (Go.Lib.bitLen x.toNat:Nat)=(k:Int):=oM;have hk32:k<32:=oM;have h1:cO w (.slice ao1 A.length cap1) A:=⟨ao1,cap1,rfl,hcap1,LA,mA⟩;have h2:cO w (.slice ao2 B.length cap2) B:=⟨ao2,cap2,rfl,al,LB,mB⟩;replace hx:=zH hx;replace hk:=zH hk;replace a4:=zH a4;replace a5:=zH a5;clear e2
 go_enter Tryz.func161,Tryz.ntmps161
 go_upto_region 2 with (first
  | (refine aj rfl (.tmp 24) (.tmp 27) _ rfl _ Tryz.underlying37 _ _ _ bD _ _ _ rfl _ _ rfl (B.length-1) oM oM p2 o2 E2.out ?_;rw[nU])
  | (go_at_call 171;refine(Qp x _ oM b2).mono ?_;rintro e w' ⟨rfl,rfl⟩;rw[b6]))
 go_cut [7,8,31,32,33,34,35,36,37,38,39] (λv7 v8 _ _ _ _ _ _ _ _ _ wc=>∃(L Z:Nat)(C vs:List Int),v7=.slice (some ⟨L,0,none⟩) (A.length+1) (A.length+1)/\v8=.slice (some ⟨Z,0,none⟩) (n+2) (B.length+1)/\L≠Z/\w'.heap.size<=L/\w'.heap.size<=Z/\Hid (Blk wc L uT (uc C))/\Hid (Blk wc Z uT (uc vs))/\C.length=A.length+1/\vs.length=B.length+1/\Hid (aG C)/\Hid (aG vs)/\Hid (ah C=ah A*((2^k:Nat):Int))/\Hid (ah vs=ah B*((2^k:Nat):Int))/\Below w'.heap.size w' wc)
 case first =>
  go_region_with (first
   | (go_at_call 172;refine(EO _ _ k _ (by first|exact h1.on ((oZ (Below.refl _ _) _).trans (G.mono (nL _)))|exact h2.on ((oZ (Below.refl _ _) _).trans (G.mono (nL _)))) oM hk32).mono ?_;rintro e w4 ⟨gb,lb,rfl,ap,ab,ad,⟨ar,ax⟩,ag⟩)
   | (go_at_call 172;refine(EO _ _ k _ (by first|exact h1.on (oZ (Below.refl _ _) _)|exact h2.on (oZ (Below.refl _ _) _)) oM hk32).mono ?_;rintro e w3 ⟨ga,la,rfl,b4,aa,ac,⟨aq,aw⟩,G⟩))
  all_goals (go_wp2;go_meet)
  case rel =>
   have bd:=aa.lt;have y:ga≠gb:=by have:w3.heap.size<=gb:=ap;omega
   have a0:=aa.on ag;have q:Below w'.heap.size w' w4:=(oZ (Below.refl _ _) _).trans (G.trans (ag.mono (by have:=G.size;exact this)));have hs1:w'.heap.size<=ga:=b4;have hs2:w'.heap.size<=gb:=by have:w'.heap.size<=w3.heap.size:=G.size;have:w3.heap.size<=gb:=ap;omega
   first
   | exact⟨ga,gb,la,lb,rfl,by rw[hn2.out],y,hs1,hs2,zH a0,zH ab,aq,ar,zH ac,zH ad,zH aw,zH ax,q⟩
   | exact⟨gb,ga,lb,la,rfl,by rw[hn2.out],Ne.symm y,hs2,hs1,zH ab,zH a0,ar,aq,zH ad,zH ac,zH ax,zH aw,q⟩
 case rest =>
  have hn3:=hn2.out;obtain⟨L,Z,C,vs,rfl,rfl,y,b5,bb,o,Bv,b7,b8,Lu,Lv,vu,vv,q⟩:=hcut;obtain⟨V,hV⟩:∃V,V=vs.take (n+2):=⟨_,rfl⟩;have LV:aG V:=by rw[hV];exact Lv.out.take _
  have lV:V.length=n+2:=by rw[hV,List.length_take];omega
  have hP0:(0:Int)<((2^k:Nat):Int):=Int.ofNat_lt.2 (Nat.pow_pos dM)
  have vV:ah V=ah B*((2^k:Nat):Int):=by rw[hV,<-vv.out];have hb:=a4.out;exact Yl (b:=Go.Lib.bitLen x.toNat) LB hn3 (by rw[<-show B.length-1=n+1 by omega,<-hx.out];omega) (by have:=hk.out;omega) Lv.out vv.out oM
  have l:bv^(n+1)*((2^k:Nat):Int)<=ah V:=by have h1:=nB.low LB oM;rw[(oM:B.length-1=n+1)]at h1;rw[vV];exact Int.mul_le_mul_of_nonneg_right h1 oM
  have v1:1<=V.getD (n+1) 0:=Vk LV lV hP0 l;have X:vL (ah C) V (A.length+1-(n+2)) C (List.replicate (A.length+1-(n+2)) 0):=Ql LA oM Lu.out b7 vu.out hP0 l lV;replace vV:=zH vV;replace l:=zH l;replace hV:=zH hV;have J:∀j,j<n+2->vs.getD j 0=V.getD j 0:=λj hj=>by rw[hV.out,OA _ hj]
  have ay:=zH J;clear J;replace X:=zH X;obtain⟨d,hd⟩:∃d,A.length+1=d+(n+2):=⟨A.length+1 - (n+2),oM⟩;replace hn3:=zH hn3
  go_wp2_with (at_make;refine bL rfl _ _ _ rfl _ (.int .u32 0) 1 4 Tryz.underlying37 bD rfl rfl .i64 .i64 _ _ d rfl rfl oM oM oM oM ?_;intro w1 own1 gr1)
  rw[iO]at own1;have Bu1:=o.out.on gr1;have Bv1:=Bv.out.on gr1;have hbw1:=q.trans (gr1.mono q.size);have hq1:w'.heap.size<=wc.heap.size:=q.size;have hq2:L≠wc.heap.size:=by have:=o.out.lt;omega
  have hq3:Z≠wc.heap.size:=by have:=Bv.out.lt;omega
  obtain⟨gq,a6⟩:∃gq,gq=wc.heap.size:=⟨_,rfl⟩;rw[<-a6]at own1 hq1 hq2 hq3 ⊢;replace a6:=zH a6;clear o Bv gr1;have an:d+(n+2)=A.length+1:=hd.symm;have p:vL (ah C) V d C (List.replicate d 0):=by have:=X.out;rw[hd,Nat.add_sub_cancel]at this;exact this
  replace p:=zH p;clear X
  go_loopw [10] (λi wr=>∃(j:Nat)(D qs:List Int),j<=d/\i=.int .i64 ((j:Int)-1)/\qs.length=d/\Hid (vL (ah C) V j D qs)/\Hid (Blk wr L uT (uc D))/\Hid (Blk wr Z uT (uc vs))/\Hid (Blk wr gq uT (uc qs))/\Below w'.heap.size w' wr) (λi _=>(intOf i+1).toNat)
  case atStart=>exact⟨d,C,_,nL _,nM,sM,p,zH Bu1,zH Bv1,zH own1,hbw1⟩
  case round =>
   obtain⟨j,D,qs,hj,rfl,I,hinv,o,Bv,M,hb⟩:=hrel;clear Bu1 Bv1 own1 p hbw1;by_cases h0:1<=j
   ·obtain⟨i,rfl⟩:∃i,j=i+1:=⟨j - 1,oM⟩;rw[(oM:((i+1:Nat):Int) - 1=(i:Int))];refine KJ ao1 ao2 cap1 cap2 A B C V vs w' n d k L Z gq bA kQ hn3 b8 LV lV v1 ay hd y b5 hq1 hq2 hq3 i D qs wr ⟨hj,I,hinv,o,Bv,M,hb⟩ _ _ _ _ _ _ _ _ _ _ _ _ _ _ _ _ _ _ _ _ _ _ _ _ _ _ _ _ _ _ _ _ _ _ _ _ _ _ _ _ _ _ _ _ _ _ _ _ _ _ _ _ _ _ _ _ _ _ _ _ _ _ _ _ _ _ _ _ _ _ _ _ _ _ _ _ _ _ _ _ _ _ _ _ _ _ _ _ _ _ _ _ _ _ _ _ _ _ _ _ _ _ _ _ _ _ _ _ _ _ _ _ _ _ _ _ _ _ _ _ _ _ _ _ _ _ _ _ _ _ _ _ _ _ _ _ _ _ _ _ _ _ _ _ _ _ _ _ _ _ _ _ _ _ _ _ _ _ _ _ _ _ _ _ _ _ _ _ _ _ _ _ _ _ _ _ _ _ _ _ _ _ _ _ _ _ _ _ _ _ _ _ _ _ _ _ _ _ _ _ _ _ _ _ _ _ _ _ _ _ _ _ _ _ _ _ _ _ _ _ _ _ _ _ _ _ _ _ _ _ _ _ _ _ _ _ _ _ _ _ _ _ _ _ _ _ _ _ ?_;clear hinv o Bv M hb;intro y11 y12 y13 y14 y15 y16 y17 y18 y19 y20 y21 y22 y52 y53 y54 y55 y56 y57 y58 y59 y60 y61 y62 y63 y64 y65 y66 y67 y68 y69 y70 y71 y72 y73 y74 y75 y76 y77 y78 y79 y80 y81 y82 y83 y84 y85 y86 y87 y88 y89 y90 y91 y92 y93 y94 y95 y96 y97 y98 y99 y100 y101 y102 y103 y104 y105 y106 y107 y108 y109 y110 y111 y112 y113 y114 y115 y116 y117 y118 y119 y120 y121 y122 y123 y124 y125 y126 y127 y128 y129 y130 y131 y132 y133 y134 y135 y136 y137 y138 y139 y140 y141 y142 y143 y144 y145 y146 y147 y148 y149 y150 y151 y152 y153 y154 y155 y156 y157 y158 y159 y160 y161 y162 y163 y164 y165 y166 y167 y168 y169 y170 y171 y172 y173 y174 y175 y176 y177 y178 y179 y180 y181 y182 y183 y184 y185 y186 y187 y188 y189 y190 y191 y192 y193 y194 y195 y196 y197 y198 y199 y200 y201 y202 y203 y204 y205 y206 y207 y208 y209 y210 y211 y212 y213 y214 y215 y216 y217 y218 y219 y220 y221 y222 y223 y224 ba b9 wz hz
    obtain⟨z1,z2,z3,z4,z5,z6,z7⟩:=hz;refine⟨⟨_,_,_,_,_,_,_,_,_,_,_,_,_,_,_,_,_,_,_,_,_,_,_,_,_,_,_,_,_,_,_,_,_,_,_,_,_,_,_,_,_,_,_,_,_,_,_,_,_,_,_,_,_,_,_,_,_,_,_,_,_,_,_,_,_,_,_,_,_,_,_,_,_,_,_,_,_,_,_,_,_,_,_,_,_,_,_,_,_,_,_,_,_,_,_,_,_,_,_,_,_,_,_,_,_,_,_,_,_,_,_,_,_,_,_,_,_,_,_,_,_,_,_,_,_,_,_,_,_,_,_,_,_,_,_,_,_,_,_,_,_,_,_,_,_,_,_,_,_,_,_,_,_,_,_,_,_,_,_,_,_,_,_,_,_,_,_,_,_,_,_,_,_,_,_,_,_,_,_,_,_,_,_,_,_,_,⟨i,ba,b9,z1,rfl,z2,z3,z4,z5,z6,z7⟩,rfl⟩,?_⟩;simp[intOf]
   ·obtain rfl:j=0:=oM;have N:=hinv.out.1;have aE:=hinv.out.2.1;have u:D.length=d+(n+2):=by have:=hinv.out.2.2.1;omega
    have Y:ah D<ah V:=by have:=hinv.out.2.2.2.1;simpa using this
    have S:=hinv.out.2.2.2.2.1;have F:ah V<bv^(n+2):=by rw[<-lV];exact gK LV
    have m:ah D=((2^k:Nat):Int)*(ah A-ah qs*ah B):=by rw[vu.out,vV.out]at S;exact Vp S
    have a9:=Int.lt_trans Y F;obtain⟨P,hP⟩:∃P:Int,P=((2^k:Nat):Int):=⟨_,rfl⟩;obtain⟨R,hR⟩:∃R:Int,R=((2^(32 - k):Nat):Int):=⟨_,rfl⟩;have hR0:0<R:=by rw[hR];exact Int.ofNat_lt.2 (Nat.pow_pos dM)
    have a2:P*R=4294967296:=by rw[hP,hR,<-Int.natCast_mul,<-Nat.pow_add,(oM:k+(32-k)=32)];rfl
    have hP1:0<P:=by rw[hP];exact hP0
    rw[<-hP]at m;replace hP:=zH hP;replace hR:=zH hR;replace u:=zH u;replace Y:=zH Y;replace S:=zH S;replace F:=zH F;replace m:=zH m;replace a9:=zH a9;replace I:=zH I;replace lV:=zH lV;replace hd:=zH hd;replace an:=zH an;have bn:n+2<=17179869184:=by have:=hn3.out;omega
    have hd1:1<=d:=by have:=hn3.out;have:=hd.out;omega
    go_wp2_with (at_make;refine bL rfl _ _ _ rfl _ (.int .u32 0) 1 4 Tryz.underlying37 bD rfl rfl .i64 .i64 _ _ (n+2) rfl rfl oM oM oM oM ?_;intro w4 own4 gr4)
    rw[iO]at own4;have Bu4:=o.out.on gr4;have Bq4:=M.out.on gr4;have hb4:=hb.trans (gr4.mono hb.size);obtain⟨gr,r⟩:∃gr,gr=wr.heap.size:=⟨_,rfl⟩;have hgr1:w'.heap.size<=gr:=by rw[r];exact hb.size
    have hgr2:L≠gr:=by rw[r];have:=o.out.lt;omega
    have hgr3:gq≠gr:=by rw[r];have:=M.out.lt;omega
    rw[<-r]at own4 ⊢;replace r:=zH r;clear o Bv M hb gr4;obtain⟨w5,rfl⟩:∃w5:World,w5=wr:=⟨_,rfl⟩
    go_loopw [228] (λv wr=>∃(j:Nat)(rs:List Int),j<=n+2/\v=.int .i64 j/\rs.length=n+2/\Hid (zV D P R j rs)/\Hid (Blk wr gr uT (uc rs))/\Hid (Blk wr L uT (uc D))/\Hid (Blk wr gq uT (uc qs))/\Below w'.heap.size w' wr) (λv _=>n+2-(intOf v).toNat)
    case atStart=>exact⟨0,_,oM,rfl,sM,zH (zV.start (by have:=u.out;have:=hd.out;omega)),zH own4,zH Bu4,zH Bq4,hb4⟩
    case round =>
     clear own4 Bu4 Bq4 hb4;obtain⟨j,rs,hj,rfl,s,a3,Br,o,M,hb⟩:=hrel;by_cases bc:j<n+2
     ·obtain⟨s1,s2,s3,s4,s5⟩:=a3.out.step N oM hP1 hR0 a2;have cu:=o.out.ucell j (by have:=u.out;omega);have cu2:=o.out.ucell (j+1) (by have:=u.out;omega);have cr:=Br.out.ucell j oM;have fr:=Br.out.frozen j;have pu:=N.getD j;have pw:=N.getD (j+1);rw[aP]at pu pw;have a7:=Tc pw.1 hP1 hR0 a2;have ao:R∣D.getD (j+1) 0%P*R:=⟨_,Int.mul_comm _ _⟩;generalize D.getD j 0=x0 at *;generalize D.getD (j+1) 0=x1 at *;generalize rs.getD j 0=z at *;have a8:=Qq hR.out s1 s2 s3 oM oM ao;replace s5:=zH s5;replace a7:=zH a7;replace a8:=zH a8;replace s:=zH s;clear ao;have g3:(j:Int)+1<d+(n+2):=oM;have g4:(j:Int)<n+2:=oM;have g5:(0:Int)<=(j:Int)+1:=oM;have g6:(0:Int)<=j:=oM;have g8:IntKind.i64.wrap ((j:Int)+1)=(j:Int)+1:=by rw[IntKind.wrap_i64];omega
      have g9:((j:Int)+1).toNat=j+1:=oM;have g7:(j:Int)<d+(n+2):=oM
      go_upto_region 39 with fail
      go_still_tail 20,kM
      have Br6:=Br.out.drew;have Bu6:=o.out.drew;have Bq6:=M.out.drew;have cr6:=Br6.ucell j (by have:=s.out;omega);have fr6:=Br6.frozen j;have hb6:=oZ hb 1;change wpList _ _ _ _ _ wr.drew;replace hb6:Below w'.heap.size w' wr.drew:=hb6;generalize wr.drew=w6 at *;clear Br o M hb cu cu2 cr fr
      go_wp2_with fail
      have eP:(2:Int)^k=P:=by rw[hP.out];simp
      rw[eP,a7.out,a8.out];go_roundw
      case rel=>exact⟨j+1,_,oM,nM,by rw[List.length_set];exact s.out,s5,zH (Br6.uset j _),zH (Bu6.other _ _ hgr2),zH (Bq6.other _ _ hgr3),hb6.setCell hgr1 _⟩
      case measure=>simp[intOf];omega
     ·obtain rfl:j=n+2:=oM;have a1:=Ta a3.out s N (by have:=u.out;omega) hP1 a2 a9.out m.out;have av:=Br.out.u32s a3.out.1;rw[s]at av;have au:=M.out.u32s aE;rw[I.out]at au;have HV:=zH a1
      have HL:=zH (show ah rs<ah B from by
       have h1:=Y.out;rw[vV.out,m.out,<-hP.out,Int.mul_comm P]at h1
       rw[a1];exact Int.lt_of_mul_lt_mul_right h1 oM)
      go_wp2;go_ret2;refine⟨_,_,qs,rs,rfl,au,av,by have:=I.out;have:=hd.out;omega,by have:=hn3.out;omega,?_,HL.out,?_⟩
      ·rw[HV.out];omega
      ·exact hb
theorem Qs(j k:Value)(b l2:List Int)(w:World)(n:cO w j b)(o:cO w k l2)(b1:b.length<=17179869184)(n2:gL l2)(p:2<=l2.length)(kQ:l2.length<=b.length) :
  Calls Tryz.prog 161 #[j,k] w (KI w (ah b) (ah l2) (b.length+1)):=by
 obtain⟨h,d,rfl,c1,l,m1⟩:=n;obtain⟨i,e,rfl,c2,m,q⟩:=o;exact OD h i d e b l2 w b1 l m m1 q n2 p kQ c1 c2
end Go.Proofs.YtopclbeomcggiaaGreat
