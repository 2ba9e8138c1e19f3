/- The integer package of the program: long division: a round. -/
import Derived.Test.YtopclbeomcggiaaGreatW13
import Derived.Deep.CutBlock
import Derived.Deep.DeepCutAuto
set_option linter.unusedVariables false
set_option linter.unusedSimpArgs false
set_option maxHeartbeats 16000000
set_option maxRecDepth 100000
namespace Go.Proofs.YtopclbeomcggiaaGreat
open Go.RowKit Q
def KI (w:World) (n d:Int) (len:Nat) (e:Ending) (w':World):Prop :=
 ∃v1 v2 q r,e=.returned (.tuple #[v1,v2])/\cO w' v1 q/\cO w' v2 r/\q.length<=len/\r.length<=len/\n=ah q*d+ah r/\ah r<d/\Below w.heap.size w w'
theorem Vn{t g r y:Int}(h:t=(g-1)*y+(r+y))(d:t<4294967296*(y+1))(i:0<y)(e:4294967295<r+y):g-1<=4294967295:=by have b:(g-1)*y<4294967296*y:=oM;have:=Int.lt_of_mul_lt_mul_right b oM;omega
theorem Vo{g y r a:Int}(h:0<=g)(b:g<=4294967295)(d:0<=y)(k:y<4294967296)(e:0<=a)(j:4294967296<=r):g*y<=r*4294967296+a:=by have i:=Int.mul_le_mul_of_nonneg_right b d;omega
theorem Ii{z l b:Int}(d:-4294967296<=z-l-b)(e:z-l-b<4294967296):IntKind.u64.wrap (IntKind.u64.wrap (z-l)-b)%4294967296=(z-l-b)%4294967296/\IntKind.u64.wrap (IntKind.u64.wrap (z-l)-b)/9223372036854775808=if z-l-b<0 then 1 else 0:=by rw[IntKind.wrap_u64,IntKind.wrap_u64];refine⟨oM,?_⟩;split<;>omega
theorem Vp{a b q x P:Int}(h:a*P=x+q*(b*P)):x=P*(a-q*b):=by have:x=a*P-q*(b*P):=oM;rw[this];grind
theorem Tf(g y r:Int):g*y+r=(g-1)*y+(r+y):=gR
def mV:Code->Option Code
 | .loop c=>some c
 | .seq a b=>match mV a with
  | some c=>some c
  | none=>mV b
 | .block _ c=>mV c
 | .scope c=>mV c
 | .cond _ a b=>match mV a with
  | some c=>some c
  | none=>mV b
 | _=>none
def UE (A:Int) (V vs:List Int) (d gu gv gq B0:Nat) (w0:World) (j:Nat) (xs qs:List Int) (wr:World):Prop :=
 j<=d/\qs.length=d/\Hid (vL A V j xs qs)/\Hid (Blk wr gu uT (uc xs))/\Hid (Blk wr gv uT (uc vs))/\Hid (Blk wr gq uT (uc qs))/\Below B0 w0 wr
theorem KJ(ao1 ao2:Option Addr)(cap1 cap2:Nat)(A B us V vs:List Int)(w':World)(n d k G gv gq:Nat)(bA:A.length<=17179869184)(kQ:B.length<=A.length)(hn3:Hid (B.length=n+2))(aE:vs.length=B.length+1)(LV:aG V)(lV:V.length=n+2)(v1:1<=V.getD (n+1) 0)
  (X:Hid (∀j,j<n+2->vs.getD j 0=V.getD j 0)) (hd:A.length+1=d+(n+2)) (aa:G≠gv) (a9:w'.heap.size<=G) (hq1:w'.heap.size<=gq) (hq2:G≠gq) (hq3:gv≠gq)
  (i:Nat) (I qs:List Int) (wr:World) (hrel:UE (ah us) V vs d G gv gq w'.heap.size w' (i+1) I qs wr)
  (c2 c3 c5 c23 c24 c25 c26 c27 c28 c29 c30 c31 c32 c33 c34 c35 c36 c37 c38 c39 c40 c41 c42 c43 c44 c45 c46 c47 c48 c49 c50 c51 c225 c226 c227 c228 c229 c230 c231 c232 c233 c234 c235 c236 c237 c238 c239 c240 c241 c242 c243 c244 c245 c246 c247 c248 c249 c250 c251 c252 c253:Value) (x11 x12 x13 x14 x15 x16 x17 x18 x19 x20 x21 x22 x52 x53 x54 x55 x56 x57 x58 x59 x60 x61 x62 x63 x64 x65 x66 x67 x68 x69 x70 x71 x72 x73 x74 x75 x76 x77 x78 x79 x80 x81 x82 x83 x84 x85 x86 x87 x88 x89 x90 x91 x92 x93 x94 x95 x96 x97 x98 x99 x100 x101 x102 x103 x104 x105 x106 x107 x108 x109 x110 x111 x112 x113 x114 x115 x116 x117 x118 x119 x120 x121 x122 x123 x124 x125 x126 x127 x128 x129 x130 x131 x132 x133 x134 x135 x136 x137 x138 x139 x140 x141 x142 x143 x144 x145 x146 x147 x148 x149 x150 x151 x152 x153 x154 x155 x156 x157 x158 x159 x160 x161 x162 x163 x164 x165 x166 x167 x168 x169 x170 x171 x172 x173 x174 x175 x176 x177 x178 x179 x180 x181 x182 x183 x184 x185 x186 x187 x188 x189 x190 x191 x192 x193 x194 x195 x196 x197 x198 x199 x200 x201 x202 x203 x204 x205 x206 x207 x208 x209 x210 x211 x212 x213 x214 x215 x216 x217 x218 x219 x220 x221 x222 x223 x224:Value) (R:Act->World->Prop) (Q0:Exit->Act->World->Prop)
  (hR:∀(y11 y12 y13 y14 y15 y16 y17 y18 y19 y20 y21 y22 y52 y53 y54 y55 y56 y57 y58 y59 y60 y61 y62 y63 y64 y65 y66 y67 y68 y69 y70 y71 y72 y73 y74 y75 y76 y77 y78 y79 y80 y81 y82 y83 y84 y85 y86 y87 y88 y89 y90 y91 y92 y93 y94 y95 y96 y97 y98 y99 y100 y101 y102 y103 y104 y105 y106 y107 y108 y109 y110 y111 y112 y113 y114 y115 y116 y117 y118 y119 y120 y121 y122 y123 y124 y125 y126 y127 y128 y129 y130 y131 y132 y133 y134 y135 y136 y137 y138 y139 y140 y141 y142 y143 y144 y145 y146 y147 y148 y149 y150 y151 y152 y153 y154 y155 y156 y157 y158 y159 y160 y161 y162 y163 y164 y165 y166 y167 y168 y169 y170 y171 y172 y173 y174 y175 y176 y177 y178 y179 y180 y181 y182 y183 y184 y185 y186 y187 y188 y189 y190 y191 y192 y193 y194 y195 y196 y197 y198 y199 y200 y201 y202 y203 y204 y205 y206 y207 y208 y209 y210 y211 y212 y213 y214 y215 y216 y217 y218 y219 y220 y221 y222 y223 y224:Value)(aw av:List Int)(wz:World),UE (ah us) V vs d G gv gq w'.heap.size w' i aw av wz->R ⟨#[.slice ao1 A.length cap1,.slice ao2 B.length cap2,c2,c3,.slice (some ⟨gq,0,none⟩) d d,c5,.int .i64 k,.slice (some ⟨G,0,none⟩) (d+(n+2)) (d+(n+2)),.slice (some ⟨gv,0,none⟩) (n+2) (B.length+1),.int .i64 (n+2),.int .i64 ((i:Int)-1),y11,y12,y13,y14,y15,y16,y17,y18,y19,y20,y21,y22,c23,c24,c25,c26,c27,c28,c29,c30,c31,c32,c33,c34,c35,c36,c37,c38,c39,c40,c41,c42,c43,c44,c45,c46,c47,c48,c49,c50,c51,y52,y53,y54,y55,y56,y57,y58,y59,y60,y61,y62,y63,y64,y65,y66,y67,y68,y69,y70,y71,y72,y73,y74,y75,y76,y77,y78,y79,y80,y81,y82,y83,y84,y85,y86,y87,y88,y89,y90,y91,y92,y93,y94,y95,y96,y97,y98,y99,y100,y101,y102,y103,y104,y105,y106,y107,y108,y109,y110,y111,y112,y113,y114,y115,y116,y117,y118,y119,y120,y121,y122,y123,y124,y125,y126,y127,y128,y129,y130,y131,y132,y133,y134,y135,y136,y137,y138,y139,y140,y141,y142,y143,y144,y145,y146,y147,y148,y149,y150,y151,y152,y153,y154,y155,y156,y157,y158,y159,y160,y161,y162,y163,y164,y165,y166,y167,y168,y169,y170,y171,y172,y173,y174,y175,y176,y177,y178,y179,y180,y181,y182,y183,y184,y185,y186,y187,y188,y189,y190,y191,y192,y193,y194,y195,y196,y197,y198,y199,y200,y201,y202,y203,y204,y205,y206,y207,y208,y209,y210,y211,y212,y213,y214,y215,y216,y217,y218,y219,y220,y221,y222,y223,y224,c225,c226,c227,c228,c229,c230,c231,c232,c233,c234,c235,c236,c237,c238,c239,c240,c241,c242,c243,c244,c245,c246,c247,c248,c249,c250,c251,c252,c253],[]⟩ wz) :
  Code.wp Tryz.prog ((Tryz.f161.body.bind mV).getD .skip) (Exit.then R Q0) ⟨#[.slice ao1 A.length cap1,.slice ao2 B.length cap2,c2,c3,.slice (some ⟨gq,0,none⟩) d d,c5,.int .i64 k,.slice (some ⟨G,0,none⟩) (d+(n+2)) (d+(n+2)),.slice (some ⟨gv,0,none⟩) (n+2) (B.length+1),.int .i64 (n+2),.int .i64 i,x11,x12,x13,x14,x15,x16,x17,x18,x19,x20,x21,x22,c23,c24,c25,c26,c27,c28,c29,c30,c31,c32,c33,c34,c35,c36,c37,c38,c39,c40,c41,c42,c43,c44,c45,c46,c47,c48,c49,c50,c51,x52,x53,x54,x55,x56,x57,x58,x59,x60,x61,x62,x63,x64,x65,x66,x67,x68,x69,x70,x71,x72,x73,x74,x75,x76,x77,x78,x79,x80,x81,x82,x83,x84,x85,x86,x87,x88,x89,x90,x91,x92,x93,x94,x95,x96,x97,x98,x99,x100,x101,x102,x103,x104,x105,x106,x107,x108,x109,x110,x111,x112,x113,x114,x115,x116,x117,x118,x119,x120,x121,x122,x123,x124,x125,x126,x127,x128,x129,x130,x131,x132,x133,x134,x135,x136,x137,x138,x139,x140,x141,x142,x143,x144,x145,x146,x147,x148,x149,x150,x151,x152,x153,x154,x155,x156,x157,x158,x159,x160,x161,x162,x163,x164,x165,x166,x167,x168,x169,x170,x171,x172,x173,x174,x175,x176,x177,x178,x179,x180,x181,x182,x183,x184,x185,x186,x187,x188,x189,x190,x191,x192,x193,x194,x195,x196,x197,x198,x199,x200,x201,x202,x203,x204,x205,x206,x207,x208,x209,x210,x211,x212,x213,x214,x215,x216,x217,x218,x219,x220,x221,x222,x223,x224,c225,c226,c227,c228,c229,c230,c231,c232,c233,c234,c235,c236,c237,c238,c239,c240,c241,c242,c243,c244,c245,c246,c247,c248,c249,c250,c251,c252,c253],[]⟩ wr:=by
 have ap:d+(n+2)=A.length+1:=hd.symm;obtain⟨hj,M,hinv,m,q,C,hb⟩:=hrel
 conv=>arg 2;whnf
 have u:=hinv.out.1;have S:I.length=d+(n+2):=by have:=hinv.out.2.2.1;omega
 have N:=hinv.out.2.2.2.1;have ao:ah V<bv^(n+2):=by rw[<-lV];exact gK LV
 obtain⟨Wl,wl0,wl1,hW⟩:=SV u (n:=n+2) (i:=i) oM (Int.lt_trans N ao) oM;rw[(oM:i+(n+2) - 2=i+n),(oM:i+(n+2) - 1=i+(n+1)),Nat.add_sub_cancel]at hW;rw[Nat.add_sub_cancel]at wl1;obtain⟨Vl,vl0,vl1,J⟩:=SX LV oM;rw[(oM:V.length - 2=n),(oM:V.length - 1=n+1)]at J;rw[(oM:V.length - 2=n)]at vl1;have cu0:=m.out.ucell (i+(n+2)) oM;have cu1:=m.out.ucell (i+(n+1)) oM;have cu2:=m.out.ucell (i+n) oM;have cv1:=q.out.ucell (n+1) (by have:=hn3.out;omega);have cv2:=q.out.ucell n (by have:=hn3.out;omega);rw[X.out _ oM]at cv1;rw[X.out _ oM]at cv2;have p0:=u.getD (i+(n+2));have p1:=u.getD (i+(n+1));have p2:=u.getD (i+n);have r1:=LV.getD (n+1);have r2:=LV.getD n;rw[aP]at p0 p1 p2 r1 r2;generalize I.getD (i+(n+2)) 0=a0 at *;generalize I.getD (i+(n+1)) 0=a1 at *;generalize hA2:I.getD (i+n) 0=a2 at *;generalize hY1:V.getD (n+1) 0=y1 at *;generalize hY2:V.getD n 0=y2 at *;replace hA2:=zH hA2;replace hY1:=zH hY1;replace hY2:=zH hY2;have aq:=AL a0 a1 p0.1 p0.2 p1.1 p1.2;replace S:=zH S;replace N:=zH N;replace hW:=zH hW;replace J:=zH J;replace M:=zH M;replace lV:=zH lV;replace hd:=zH hd;replace ap:=zH ap
 go_upto_region 8 with fail
 have g1:(i:Int)+(n+2)<A.length+1:=by have:=hd.out;omega
 have g2:(n:Int)+1<n+2:=oM
 go_quiet (fail)
 go_upto_region 9 with fail
 have gy:0<y1:=oM;have gy0:y1≠0:=oM
 go_quiet (fail)
 go_upto_block 2 with fail
 obtain⟨t,ht⟩:∃t,t=a0*4294967296+a1:=⟨_,rfl⟩;have t0:0<=t:=oM;have q0:=Int.ediv_nonneg t0 (oM:0<=y1);have q1:t/y1<=t:=Int.ediv_le_self y1 t0;have m0:=Int.emod_nonneg t gy0;have m1:=Int.emod_lt_of_pos t gy;have em:=Int.mul_ediv_add_emod t y1;rw[<-ht]at hW aq ⊢;have a5:0<bv^n:=Int.pow_pos dR;have ac:0<ah V:=by have:=aU (u.drop (i+1));have:=N.out;omega
 have Y:=aU (u.drop i)
 have a7:ah (I.drop i)<4294967296*ah V:=by rw[yR I i (by have:=S.out;omega),aP];have:=(u.getD i).2;rw[aP]at this;have:=N.out;omega
 have au:0<=ah (I.drop i)/ah V:=Int.ediv_nonneg Y oM;have al:=WJ a5 hW.out wl0 p2.1 J.out vl1 r2.2 a7
 have hq0:ah (I.drop i)/ah V<=t/y1:=by have:=Vh (u0:=a0) (u1:=a1) a5 (by rw[<-ht];exact hW.out) wl1 J.out vl0 v1 r2.1 p2.2 Y;rw[<-ht]at this;exact this
 have a3:∀g r:Int,0<=g->t=g*y1+r->ah (I.drop i)/ah V<=g->(4294967295<g\/r*4294967296+a2<g*y2)->ah (I.drop i)/ah V<=g - 1:=λg r h1 h2 h3 h4=>Vi a5 hW.out wl1 J.out vl0 ac a7 Y h1 h2 h3 h4;have L:∀g r:Int,0<=g->g<=4294967295->t=g*y1+r->g*y2<=r*4294967296+a2->g - 1<=ah (I.drop i)/ah V:=λg r h1 h2 h3 h4=>Vj a5 hW.out wl0 J.out vl0 vl1 v1 r2.1 h1 h2 h3 h4;have p:ah (I.drop i)/ah V<=t/y1/\t=t/y1*y1+t%y1:=⟨hq0,by rw[Int.mul_comm];exact em.symm⟩;obtain⟨Q,hQ⟩:∃Q,Q=ah (I.drop i)/ah V:=⟨_,rfl⟩;rw[<-hQ]at au p;simp only[<-hQ]at a3 L;replace hQ:=zH hQ;replace a3:=zH a3;replace L:=zH L;replace p:=zH p;replace al:=zH al;replace ht:=zH ht;replace a7:=zH a7;have tb:t<18446744073709551616:=by have:=ht.out;omega
 clear hq0 Y em a5 hW J wl0 wl1 vl0 vl1 aq
 go_cut [12,13]from 89 to 124 (λv12 v13 wc=>∃g:Int,v12=.int .u64 g/\0<=g/\g<=4294967295/\Hid (Q<=g)/\Hid (g-1<=Q)/\Hid (Blk wc G uT (uc I))/\Hid (Blk wc gv uT (uc vs))/\Hid (Blk wc gq uT (uc qs))/\Below w'.heap.size w' wc)
 case first =>
  go_wp2_with fail
  go_loopw [12,13] (λv12 v13 wr=>∃g r:Int,v12=.int .u64 g/\v13=.int .u64 r/\0<=g/\g<18446744073709551616/\0<=r/\r<=4294967295/\Hid (t=g*y1+r)/\Hid (Q<=g)/\Hid (Blk wr G uT (uc I))/\Hid (Blk wr gv uT (uc vs))/\Hid (Blk wr gq uT (uc qs))/\Below w'.heap.size w' wr) (λv12 _ _=>(intOf v12).toNat)
  case atStart=>exact⟨t/y1,t%y1,rfl,rfl,q0,oM,m0,oM,zH p.out.2,zH p.out.1,zH (m.out.on (oZ (Below.refl _ _) _)),zH (q.out.on (oZ (Below.refl _ _) _)),zH (C.out.on (oZ (Below.refl _ _) _)),oZ hb _⟩
  case round =>
   clear cu0 cu1 cu2 cv1 cv2;obtain⟨g,r,rfl,rfl,g0,ay,r0,b0,hT,a6,m,q,C,hb⟩:=hrel;have cu2:=m.out.ucell (i+n) (by have:=S.out;omega);have cv1:=q.out.ucell (n+1) (by have:=hn3.out;omega);have cv2:=q.out.ucell n (by have:=hn3.out;omega);rw[X.out _ oM,hY1.out]at cv1;rw[X.out _ oM,hY2.out]at cv2;rw[hA2.out]at cu2;have hor2:=AL r a2 r0 oM p2.1 p2.2;have g3:(i:Int)+n<A.length+1:=by have:=hd.out;omega
   have an:wr.cell? ⟨G,i+(n+2)-2,none⟩=some (.int .u32 a2):=by rw[(oM:i+(n+2)-2=i+n)];exact cu2
   have g4:(n:Int)<n+2:=oM;have g5:(0:Int)<=n:=oM;have g6:(0:Int)<=(i:Int)+n:=oM;have g7:(n:Int)+2-2<n+2:=oM;have g8:(0:Int)<=(n:Int)+2-2:=oM;have e5:=zH (hT.out.trans (Tf g y1 r))
   go_upto_region 10 with fail
   go_cut [112]from 89 to 111 (λv112 wc=>∃bad:Bool,v112=.bool bad/\(bad=true->4294967295<g\/r*4294967296+a2<g*y2)/\(bad=false->g<=4294967295/\g*y2<=r*4294967296+a2)/\Hid (Blk wc G uT (uc I))/\Hid (Blk wc gv uT (uc vs))/\Hid (Blk wc gq uT (uc qs))/\Below w'.heap.size w' wc)
   case first =>
    by_cases hg:g<=4294967295
    ·have dg:decide ((4294967295:Int)<g)=false:=decide_eq_false oM;have m1:0<=g*y2:=Int.mul_nonneg g0 r2.1
     have m2:g*y2<18446744073709551616:=by have a:=Int.mul_le_mul_of_nonneg_right hg r2.1;omega
     by_cases hc:r*4294967296+a2<g*y2
     ·have dc:decide (r*4294967296+a2<g*y2)=true:=decide_eq_true hc
      go_quiet (fail)
      go_wp2;go_meet
      case rel=>exact⟨true,rfl,λ_=>.inr hc,λh=>(by cases h),zH (m.out.on (oZ (Below.refl _ _) _)),zH (q.out.on (oZ (Below.refl _ _) _)),zH (C.out.on (oZ (Below.refl _ _) _)),oZ hb _⟩
     ·have dc:decide (r*4294967296+a2<g*y2)=false:=decide_eq_false hc
      go_quiet (fail)
      go_wp2;go_meet
      case rel=>exact⟨false,rfl,λh=>(by cases h),λ_=>⟨hg,oM⟩,zH (m.out.on (oZ (Below.refl _ _) _)),zH (q.out.on (oZ (Below.refl _ _) _)),zH (C.out.on (oZ (Below.refl _ _) _)),oZ hb _⟩
    ·have dg:decide ((4294967295:Int)<g)=true:=decide_eq_true oM;have dg2:4294967295<g:=oM
     go_quiet (fail)
     go_wp2;go_meet
     case rel=>exact⟨true,rfl,λ_=>.inl dg2,λh=>(by cases h),zH (m.out.on (oZ (Below.refl _ _) _)),zH (q.out.on (oZ (Below.refl _ _) _)),zH (C.out.on (oZ (Below.refl _ _) _)),oZ hb _⟩
   case rest =>
    clear m q C hb cu2 cv1 cv2 an;obtain⟨bad,rfl,hb1,hb2,m,q,C,hb⟩:=hcut;have cv1:=q.out.ucell (n+1) (by have:=hn3.out;omega);rw[X.out _ oM,hY1.out]at cv1
    cases bad with
    | false =>
     obtain⟨hg,hc⟩:=hb2 rfl;have H1:=zH (L.out g r g0 hg hT.out hc);clear hb1 hb2 hc;go_wp2;go_meet
     case rel=>exact⟨g,rfl,g0,hg,a6,H1,m,q,C,hb⟩
    | true =>
     have HD:=zH (a3.out g r g0 hT.out a6.out (hb1 rfl));clear hb1 hb2;have w1:0<=g-1:=by have:=HD.out;omega
     by_cases hr:r+y1<=4294967295
     ·go_wp2;go_roundw
      case rel=>exact⟨g-1,r+y1,rfl,rfl,w1,oM,oM,hr,e5,HD,m,q,C,hb⟩
      case measure=>simp[intOf];omega
     ·have w2:g-1<=4294967295:=Vn e5.out al.out gy oM;have H1:=zH (L.out (g-1) (r+y1) w1 w2 e5.out (Vo w1 w2 r2.1 r2.2 p2.1 oM));go_wp2;go_meet
      case rel=>exact⟨g-1,rfl,w1,w2,HD,H1,m,q,C,hb⟩
 case rest =>
  obtain⟨g,rfl,g0,g1,a6,hQ1,m,q,C,hb⟩:=hcut;clear cu0 cu1 cu2 cv1 cv2;obtain⟨wo,rfl⟩:∃wo:World,wo=wc:=⟨_,rfl⟩;have ax:=zH u
  go_wp2_with fail
  go_loopw [14,15,127] (λv14 v15 v127 wr=>∃(j:Nat)(zs:List Int)(c b:Int),j<=n+2/\v127=.int .i64 j/\v14=.int .u64 c/\v15=.int .u64 b/\Hid (uh I V i g j zs c b)/\Hid (Blk wr G uT (uc zs))/\Hid (Blk wr gv uT (uc vs))/\Hid (Blk wr gq uT (uc qs))/\Below w'.heap.size w' wr) (λ_ _ v _=>n+2-(intOf v).toNat)
  case atStart=>exact⟨0,I,0,0,oM,rfl,rfl,rfl,zH (uh.start u),m,q,C,hb⟩
  case round =>
   clear m q C hb;obtain⟨j,zs,c,b,hj,rfl,rfl,rfl,l,m,q,C,hb⟩:=hrel;by_cases ag:j<n+2
   ·have hlx2:=S.out;obtain⟨s1,s2,s3,s4,s5⟩:=l.out.step LV g0 g1 oM;have cu:=m.out.ucell (i+j) (by rw[l.out.1];omega);have fu:=m.out.frozen (i+j);have cv:=q.out.ucell j (by have:=hn3.out;omega);rw[X.out j ag]at cv;have pu:=l.out.2.1.getD (i+j);have py:=LV.getD j;have pb0:=l.out.2.2.2.2.1;have pb1:=l.out.2.2.2.2.2.1;have pc0:=l.out.2.2.1;rw[aP]at pu py;generalize V.getD j 0=y at *;generalize zs.getD (i+j) 0=z at *;have m0:0<=g*y:=Int.mul_nonneg g0 py.1;have dw:=Ii s3 s4;replace dw:=zH dw;replace s5:=zH s5;replace hlx2:=zH hlx2;have g3:(j:Int)<n+2:=oM;have g4:(i:Int)+j<d+(n+2):=by have:=hd.out;have:=S.out;omega
    go_wp2_with fail
    rw[dw.out.1,dw.out.2];go_roundw
    case rel=>exact⟨j+1,_,_,_,oM,nM,rfl,rfl,s5,zH (m.out.uset (i+j) _),zH (q.out.other _ _ (Ne.symm aa)),zH (C.out.other _ _ (Ne.symm hq2)),hb.setCell a9 _⟩
    case measure=>simp[intOf];omega
   ·obtain rfl:j=n+2:=oM;have hlx2:=S.out;have hE:=SY (lV.out.symm▸l.out) (by have:=lV.out;omega) u N.out LV (by have:=hQ.out;have:=a6.out;omega) (by have:=hQ.out;have:=hQ1.out;omega);rw[lV.out]at hE;have cu:=m.out.ucell (i+(n+2)) (by rw[l.out.1];omega);have fu:=m.out.frozen (i+(n+2));have pu:=l.out.2.1.getD (i+(n+2));have pb0:=l.out.2.2.2.2.1;have pb1:=l.out.2.2.2.2.2.1;have pc0:=l.out.2.2.1;have pc1:=l.out.2.2.2.1;rw[aP]at pu;have ar:=l.out.1;have HT:=l.out.2.2.2.2.2.2.2.1;generalize hz:zs.getD (i+(n+2)) 0=z at *;obtain⟨t1,t2,E1,E2,E3,E4,E5⟩:=hE;have dw:=Ii t2 t1;obtain⟨D,hD⟩:∃D,D=z - c - b:=⟨_,rfl⟩;replace dw:=zH dw;replace E1:=zH E1;replace E2:=zH E2;replace E3:=zH E3;replace E4:=zH E4;replace E5:=zH E5;replace hD:=zH hD;replace hz:=zH hz;replace HT:=zH HT;replace hlx2:=zH hlx2;replace ar:=zH ar;have g4:(i:Int)+(n+2)<d+(n+2):=by have:=hd.out;have:=S.out;omega
    go_upto_region 25 with fail
    rw[dw.out.1];have Bu2:=m.out.uset (i+(n+2)) ((z-c-b)%4294967296);have Bv2:=q.out.other ⟨G,i+(n+2),none⟩ (.int .u32 ((z-c-b)%4294967296)) (Ne.symm aa);have Bq2:=C.out.other ⟨G,i+(n+2),none⟩ (.int .u32 ((z-c-b)%4294967296)) (Ne.symm hq2);have hb2:Below w'.heap.size w' (wr.setCell ⟨G,i+(n+2),none⟩ (.int .u32 ((z-c-b)%4294967296))):=hb.setCell a9 _;clear cu fu m q C hb;generalize wr.setCell ⟨G,i+(n+2),none⟩ (.int .u32 ((z-c-b)%4294967296))=w2 at *;replace Bu2:=zH Bu2;replace Bv2:=zH Bv2;replace Bq2:=zH Bq2;have hi:i<d:=oM;have g6:(i:Int)<d:=oM;by_cases a4:z-c-b<0
    ·have dv:IntKind.u64.wrap (IntKind.u64.wrap (z-c)-b)/9223372036854775808=1:=by rw[dw.out.2,if_pos a4]
     have F:=zH (E5.out a4);have w1:0<=g-1:=by have:=F.out.1;have:=hQ.out;omega
     obtain⟨Z,hZ⟩:∃Z,Z=zs.set (i+(n+2)) ((z - c - b)%4294967296):=⟨_,rfl⟩;rw[<-hZ]at Bu2 E1 E2 E3 F;have LZ:=E1.out
     have ad:∀s,i+V.length<s->Z.getD s 0=0:=λs hs=>by have h1:=lV.out;rw[hZ,dX _ _ _ _ oM,HT.out _ oM];have:=oH (u.drop (i+1)) (Int.lt_trans N.out (gK LV)) (s-(i+1)) oM;rw[iB]at this;rw[<-this];congr 1;omega
     replace ad:=zH ad;replace hZ:=zH hZ
     go_wp2_with fail
     obtain⟨w3,rfl⟩:∃w3:World,w3=wr:=⟨_,rfl⟩
     go_loopw [20,188] (λv20 v188 wr=>∃(j:Nat)(ys:List Int)(e:Int),j<=n+2/\v188=.int .i64 j/\v20=.int .u32 e/\Hid (ui Z V i j ys e)/\Hid (Blk wr G uT (uc ys))/\Hid (Blk wr gv uT (uc vs))/\Hid (Blk wr gq uT (uc qs))/\Below w'.heap.size w' wr) (λ_ v _=>n+2-(intOf v).toNat)
     case atStart=>exact⟨0,Z,0,oM,rfl,rfl,zH (ui.start LZ),Bu2,Bv2,Bq2,hb2⟩
     case round =>
      clear Bu2 Bv2 Bq2 hb2;obtain⟨j,ys,e,hj,rfl,rfl,o,m,q,C,hb⟩:=hrel;have ab:=o.out.1;have a8:=E2.out;have hlx3:=hlx2.out;by_cases ag:j<n+2
      ·have s5:=o.out.step LV (j:=j) oM;have cu:=m.out.ucell (i+j) oM;have fu:=m.out.frozen (i+j);have cv:=q.out.ucell j (by have:=hn3.out;omega);rw[X.out j ag]at cv;have pu:=o.out.2.1.getD (i+j);have py:=LV.getD j;have pe0:=o.out.2.2.1;have pe1:=o.out.2.2.2.1;rw[aP]at pu py;generalize V.getD j 0=y at *;generalize ys.getD (i+j) 0=x at *;obtain⟨pu0,pu1⟩:=pu;obtain⟨py0,py1⟩:=py;replace s5:=zH s5;replace ab:=zH ab;replace a8:=zH a8;replace hlx3:=zH hlx3;have g3:(j:Int)<n+2:=oM;have g4:(i:Int)+j<d+(n+2):=oM
       go_wp2_with (go_at_call 164;refine(yN _ _ _ _ aM aM aM aM aM aM).mono ?_;rintro e w' ⟨rfl,rfl⟩)
       go_roundw
       case rel=>exact⟨j+1,_,_,oM,nM,rfl,s5,zH (m.out.uset (i+j) _),zH (q.out.other _ _ (Ne.symm aa)),zH (C.out.other _ _ (Ne.symm hq2)),hb.setCell a9 _⟩
       case measure=>simp[intOf];omega
      ·obtain rfl:j=n+2:=oM;have hA:=S9 (lV.out.symm▸o.out) (by have:=lV.out;omega) E2.out.symm u N.out LV E3.out ad.out F.out.1 (by rw[lV.out];exact F.out.2.1);rw[lV.out]at hA;have cu:=m.out.ucell (i+(n+2)) oM;have fu:=m.out.frozen (i+(n+2));have pu:=o.out.2.1.getD (i+(n+2));have pe0:=o.out.2.2.1;have pe1:=o.out.2.2.2.1;rw[aP]at pu;generalize ys.getD (i+(n+2)) 0=x at *;have cq:=(C.out.other ⟨G,i+(n+2),none⟩ (.int .u32 ((x+e)%4294967296)) (Ne.symm hq2)).ucell i (by have:=M.out;omega);have fq:=(C.out.other ⟨G,i+(n+2),none⟩ (.int .u32 ((x+e)%4294967296)) (Ne.symm hq2)).frozen i;have hL:=zH (vL.step (Q:=g - 1) hinv.out (by have:=M.out;omega) w1 oM hA.1 hA.2.1 hA.2.2.2.1 hA.2.2.2.2);have e9:(g - 1)%4294967296=g - 1:=Int.emod_eq_of_lt w1 oM;replace ab:=zH ab;replace a8:=zH a8;replace hlx3:=zH hlx3;clear hA;generalize qs.getD i 0=qz at *
       go_wp2_with fail
       refine hR _ _ _ _ _ _ _ _ _ _ _ _ _ _ _ _ _ _ _ _ _ _ _ _ _ _ _ _ _ _ _ _ _ _ _ _ _ _ _ _ _ _ _ _ _ _ _ _ _ _ _ _ _ _ _ _ _ _ _ _ _ _ _ _ _ _ _ _ _ _ _ _ _ _ _ _ _ _ _ _ _ _ _ _ _ _ _ _ _ _ _ _ _ _ _ _ _ _ _ _ _ _ _ _ _ _ _ _ _ _ _ _ _ _ _ _ _ _ _ _ _ _ _ _ _ _ _ _ _ _ _ _ _ _ _ _ _ _ _ _ _ _ _ _ _ _ _ _ _ _ _ _ _ _ _ _ _ _ _ _ _ _ _ _ _ _ _ _ _ _ _ _ _ _ _ _ _ _ _ _ _ _ _ _ _ _ _ _ ⟨oM,by rw[List.length_set];exact M.out,hL,zH ((m.out.uset (i+(n+2)) _).other _ _ hq2),zH ((q.out.other _ _ (Ne.symm aa)).other _ _ hq3),zH ((C.out.other _ _ (Ne.symm hq2)).uset i (g-1)),(hb.setCell a9 _).setCell hq1 _⟩
    ·have dv:IntKind.u64.wrap (IntKind.u64.wrap (z-c)-b)/9223372036854775808=0:=by rw[dw.out.2,if_neg a4]
     have F:=E4.out a4;have cq:=Bq2.out.ucell i (by have:=M.out;omega);have fq:=Bq2.out.frozen i;have hL:=zH (vL.step (Q:=g) hinv.out (by have:=M.out;omega) g0 oM E1.out E2.out F.2.1 F.2.2);have e9:g%4294967296=g:=Int.emod_eq_of_lt g0 oM;clear F;generalize qs.getD i 0=qz at *
     go_wp2_with fail
     refine hR _ _ _ _ _ _ _ _ _ _ _ _ _ _ _ _ _ _ _ _ _ _ _ _ _ _ _ _ _ _ _ _ _ _ _ _ _ _ _ _ _ _ _ _ _ _ _ _ _ _ _ _ _ _ _ _ _ _ _ _ _ _ _ _ _ _ _ _ _ _ _ _ _ _ _ _ _ _ _ _ _ _ _ _ _ _ _ _ _ _ _ _ _ _ _ _ _ _ _ _ _ _ _ _ _ _ _ _ _ _ _ _ _ _ _ _ _ _ _ _ _ _ _ _ _ _ _ _ _ _ _ _ _ _ _ _ _ _ _ _ _ _ _ _ _ _ _ _ _ _ _ _ _ _ _ _ _ _ _ _ _ _ _ _ _ _ _ _ _ _ _ _ _ _ _ _ _ _ _ _ _ _ _ _ _ _ _ _ ⟨oM,by rw[List.length_set];exact M.out,hL,zH (Bu2.out.other _ _ hq2),zH (Bv2.out.other _ _ hq3),zH (Bq2.out.uset i g),hb2.setCell hq1 _⟩
end Go.Proofs.YtopclbeomcggiaaGreat
