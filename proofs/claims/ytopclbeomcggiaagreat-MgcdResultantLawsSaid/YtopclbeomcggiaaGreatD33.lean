/- mgcd.Gcd: one level. mgcd.Squarefree. Matrices of polynomials; Sylvester's matrix and its elimination, in plain words. Exact divisions: their runs. Polynomials with integer coefficients: they are small; exact divisions end with the quotient. No program in sight. The elimination, plain: what its steps make of a matrix that is known. No program in sight. The elimination's last two steps, with and without an exchange; entries in one variable. No program in sight. Sylvester's matrix: its elements; the elimination by the rows of the first polynomial. No program in sight. -/
import Derived.Test.YtopclbeomcggiaaGreatD24
import Derived.Test.YtopclbeomcggiaaGreatD31
import Derived.Test.YtopclbeomcggiaaGreatD32
set_option linter.unusedVariables false
set_option linter.unusedSimpArgs false
section
namespace Q
open Go Go.RowKit Go.Proofs.YtopclbeomcggiaaGreat
def gcdT (G : List Trm → List Trm → Option (List Trm)) (a b : List Trm) : Option (List Trm) :=
 if a=[] then normO b else if b=[] then normO a else if constB a=true ∨ constB b=true then some oneP else
 bind2 (high [a,b]) fun v =>
  if degP b v=0 then bind2 (contO G a v) fun c=>G c b
  else if degP a v=0 then bind2 (contO G b v) fun c=>G a c
  else bind2 (contO G a v) fun x=>bind2 (contO G b v) fun y=>bind2 (G x y) fun g=>bind2 (overO a x) fun p=>bind2 (overO b y) fun q =>
   if p=[] ∨ q=[] then none else bind2 (seqO G p q v) fun s=>bind2 (g1 (mulP g s)) normO
def gcdN : Nat → List Trm → List Trm → Option (List Trm)
 | 0,_,_=>none
 | n + 1,a,b=>gcdT (gcdN n) a b
theorem isPolys2 {w : World} {va vb : Value} {a b : List Trm} (ha : IsPoly w va a) (hb : IsPoly w vb b) : IsPolys (w.alloc (.cells #[va,vb] 27)) (.slice (some ⟨w.heap.size,0,none⟩) 2 2) [a,b]:=by
 have hbe : Below w.heap.size w (w.alloc (.cells #[va,vb] 27)):=(Below.refl _ _).alloc (Nat.le_refl _) _
 exact ⟨_,_,[va,vb],rfl,Nat.le_refl _,(Blk.new w polyT [va,vb]).at,⟨[va],[vb],rfl,⟨va,rfl,ha.on hbe⟩,⟨[vb],[],rfl,⟨vb,rfl,hb.on hbe⟩,rfl⟩⟩⟩
end Q
namespace Go.Proofs.YtopclbeomcggiaaGreat
open Go.RowKit Q
theorem seqO_wp {G : List Trm → List Trm → Option (List Trm)} {v : Nat} {a b g : List Trm} (ka : Wp a) (kb : Wp b) (h : seqO G a b v=some g) : Wp g:=by
 unfold seqO at h
 split at h
 ·exact seqS_wp ka h
 ·exact seqS_wp kb h
theorem gcdT_wp {G : List Trm → List Trm → Option (List Trm)} (HG : GcdG G) {a b g : List Trm} (ka : Wp a) (kb : Wp b) (h : gcdT G a b=some g) : Wp g:=by
 unfold gcdT at h
 split at h
 ·exact norm_wp h
 split at h
 ·exact norm_wp h
 split at h
 ·cases h; exact one_wp
 obtain ⟨v,-,h⟩:=bind2_some h
 split at h
 ·obtain ⟨c,hc,h⟩:=bind2_some h
  exact (HG _ _ _ (cont_wp HG ka hc) kb h).2
 split at h
 ·obtain ⟨c,hc,h⟩:=bind2_some h
  exact (HG _ _ _ ka (cont_wp HG kb hc) h).2
 obtain ⟨x,hx,h⟩:=bind2_some h
 obtain ⟨y,hy,h⟩:=bind2_some h
 obtain ⟨g',hg,h⟩:=bind2_some h
 obtain ⟨p,hp,h⟩:=bind2_some h
 obtain ⟨q,hq,h⟩:=bind2_some h
 split at h
 ·cases h
 obtain ⟨s,hs,h⟩:=bind2_some h
 obtain ⟨m,hm,h⟩:=bind2_some h
 exact norm_wp h
set_option maxHeartbeats 4000000 in
set_option maxRecDepth 100000 in
theorem gcdT_any {G : List Trm → List Trm → Option (List Trm)} (HG : GcdG G) : GcdG (gcdT G):=by
 intro a b g ka kb h
 refine ⟨fun va vb w hva hvb=>?_,gcdT_wp HG ka kb h⟩
 unfold gcdT at h
 by_cases ha0 : a=[]
 ·rw [if_pos ha0] at h; subst ha0
  have hc:=normal_any vb b g w hvb kb h
  obtain ⟨aa,ca,rfl,hca⟩:=hva.shape
  simp only [List.length_nil]
  obtain ⟨ab,cb,rfl,hcb⟩:=hvb.shape
  clear h HG
  go_enter Tryz.func16,Tryz.ntmps16
  go_wp2_with (go_at_call 14; refine hc.mono ?_; rintro en w1 ⟨v1,rfl,h1,hb1⟩)
  go_ret
  exact ⟨_,rfl,h1,hb1⟩
 rw [if_neg ha0] at h
 by_cases hb0 : b=[]
 ·rw [if_pos hb0] at h; subst hb0
  have hc:=normal_any va a g w hva ka h
  obtain ⟨aa,ca,rfl,hca⟩:=hva.shape
  obtain ⟨ab,cb,rfl,hcb⟩:=hvb.shape
  simp only [List.length_nil]
  have hne : ((a.length : Int) == 0)=false:=by have:=List.length_pos_iff.2 ha0; simp; omega
  generalize a.length=na at *
  clear h HG ha0
  go_enter Tryz.func16,Tryz.ntmps16
  go_wp2_with (go_at_call 14; refine hc.mono ?_; rintro en w1 ⟨v1,rfl,h1,hb1⟩)
  go_ret
  exact ⟨_,rfl,h1,hb1⟩
 rw [if_neg hb0] at h
 have hca:=fun W (hb : Below w.heap.size w W)=>constant_any va a W (hva.on hb)
 have hcb:=fun W (hb : Below w.heap.size w W)=>constant_any vb b W (hvb.on hb)
 have hHi:=fun W (hb : Below w.heap.size w W)=>highest_any _ [a,b] _ (isPolys2 (hva.on hb) (hvb.on hb)) (by simp) (fun c hc=>by
  rcases List.mem_cons.1 hc with rfl | hc
  ·exact ka
  ·rw [List.mem_singleton.1 hc]; exact kb)
 have hA:=fun W (hb : Below w.heap.size w W)=>hva.on hb
 have hB:=fun W (hb : Below w.heap.size w W)=>hvb.on hb
 have kna:=ha0
 have knb:=hb0
 have hnea : ((a.length : Int) == 0)=false:=by have:=List.length_pos_iff.2 ha0; simp; omega
 have hneb : ((b.length : Int) == 0)=false:=by have:=List.length_pos_iff.2 hb0; simp; omega
 obtain ⟨aa,ca,rfl,hcca⟩:=hva.shape
 obtain ⟨ab,cb,rfl,hccb⟩:=hvb.shape
 obtain ⟨na,hna⟩ : ∃ na,na=a.length:=⟨_,rfl⟩
 obtain ⟨nb,hnb⟩ : ∃ nb,nb=b.length:=⟨_,rfl⟩
 rw [← hna] at hnea hca hHi hA ⊢
 rw [← hnb] at hneb hcb hHi hB ⊢
 replace hHi:=Lib.hid hHi
 replace hA:=Lib.hid hA
 replace hB:=Lib.hid hB
 clear hna hnb hcca hccb hva hvb ha0 hb0
 cases ha1 : constB a
 case true =>
  rw [if_pos (.inl ha1)] at h
  cases h
  rw [ha1] at hca
  clear ha1 hcb
  replace hca:=Lib.hid hca
  go_enter Tryz.func16,Tryz.ntmps16
  go_wp2_with (first
   | (go_at_call 50; refine (hca.out _ (Below.refl _ _)).mono ?_; rintro en w1 ⟨rfl,hb1⟩)
   | (go_at_call 51; refine (one_any _).mono ?_; rintro en w2 ⟨v2,rfl,h2,hb2⟩))
  go_ret
  exact ⟨_,rfl,h2,hb1.trans (hb2.mono hb1.size)⟩
 case false =>
  rw [ha1] at hca
  cases hb1 : constB b
  case true =>
   rw [if_pos (.inr hb1)] at h
   cases h
   rw [hb1] at hcb
   clear ha1 hb1
   replace hca:=Lib.hid hca
   replace hcb:=Lib.hid hcb
   go_enter Tryz.func16,Tryz.ntmps16
   go_wp2_with (first
    | (go_at_call 50; refine (hcb.out w1 hb1).mono ?_; rintro en w2 ⟨rfl,hb2⟩)
    | (go_at_call 50; refine (hca.out _ (Below.refl _ _)).mono ?_; rintro en w1 ⟨rfl,hb1⟩)
    | (go_at_call 51; refine (one_any _).mono ?_; rintro en w3 ⟨v3,rfl,h3,hb3⟩))
   go_ret
   exact ⟨_,rfl,h3,(hb1.trans (hb2.mono hb1.size)).trans (hb3.mono (hb1.trans (hb2.mono hb1.size)).size)⟩
  case false =>
   rw [if_neg (by rintro (h | h); rw [ha1] at h; cases h; rw [hb1] at h; cases h)] at h
   obtain ⟨v,hv,h⟩:=bind2_some h
   have hv4 : v < 4:=high_lt hv
   rw [hb1] at hcb
   rw [hv] at hHi
   clear ha1 hb1 hv
   replace hca:=Lib.hid hca
   replace hcb:=Lib.hid hcb
   have hDa:=Lib.hid (fun W (hb : Below w.heap.size w W)=>deg_any _ a v W (hA.out W hb) hv4 (by have:=ka.len; omega))
   have hDb:=Lib.hid (fun W (hb : Below w.heap.size w W)=>deg_any _ b v W (hB.out W hb) hv4 (by have:=kb.len; omega))
   change Hid (∀ W,_ → Calls _ _ _ _ (Ret _ (.int .i64 (v : Int)))) at hHi
   go_enter Tryz.func16,Tryz.ntmps16
   go_upto_region 8 with (first
    | (go_at_call 50; refine (hcb.out w1 hb1).mono ?_; rintro en w2 ⟨rfl,hb2⟩; have hb12:=hb1.trans (hb2.mono hb1.size))
    | (go_at_call 50; refine (hca.out _ (Below.refl _ _)).mono ?_; rintro en w1 ⟨rfl,hb1⟩)
    | (go_at_call 52; refine (hHi.out _ hb12).mono ?_; rintro en w3 ⟨rfl,hb3⟩))
   have hb0:=hb12.trans (((Below.refl _ _).alloc (Nat.le_refl _) _).trans (hb3.mono (by simp)) |>.mono hb12.size)
   obtain ⟨da,hda2⟩ : ∃ da,da=degP a v:=⟨_,rfl⟩
   obtain ⟨db,hdb2⟩ : ∃ db,db=degP b v:=⟨_,rfl⟩
   rw [← hda2] at hDa h
   rw [← hdb2] at hDb h
   have hD1:=Lib.hid (hDb.out w3 hb0)
   clear hca hcb hHi hb1 hb2 hb12 hb3 hda2 hdb2
   by_cases hd1 : db=0
   ·rw [if_pos hd1] at h
    obtain ⟨c,hc,h⟩:=bind2_some h
    have hct:=Lib.hid (fun W (hb : Below w.heap.size w W)=>content_any HG _ a c v W hv4 (hA.out W hb) ka hc)
    have hgc:=Lib.hid (HG _ _ _ (cont_wp HG ka hc) kb h).1
    subst hd1
    clear h hc hDa hDb
    go_wp2_with (first
     | (go_at_call 53; refine hD1.out.mono ?_; rintro en w4 ⟨rfl,hb4⟩; have hb04:=hb0.trans (hb4.mono hb0.size))
     | (go_at_call 18; refine (hct.out _ hb04).mono ?_; rintro en w5 ⟨v5,rfl,h5,hb5⟩; have hb05:=hb04.trans (hb5.mono hb04.size); have hBb:=hB.out _ hb05)
     | (go_at_call 16; refine (hgc.out _ _ _ h5 hBb).mono ?_; rintro en w6 ⟨v6,rfl,h6,hb6⟩))
    go_ret
    exact ⟨_,rfl,h6,hb05.trans (hb6.mono hb05.size)⟩
   ·rw [if_neg hd1] at h
    have hd1' : (db == 0)=false:=by simpa using hd1
    by_cases hd2 : da=0
    ·rw [if_pos hd2] at h
     obtain ⟨c,hc,h⟩:=bind2_some h
     have hct:=Lib.hid (fun W (hb : Below w.heap.size w W)=>content_any HG _ b c v W hv4 (hB.out W hb) kb hc)
     have hgc:=Lib.hid (HG _ _ _ ka (cont_wp HG kb hc) h).1
     subst hd2
     clear h hc hd1
     go_wp2_with (first
      | (go_at_call 53; refine (hDa.out w4 hb04).mono ?_; rintro en w5 ⟨rfl,hb5⟩; have hb05:=hb04.trans (hb5.mono hb04.size))
      | (go_at_call 53; refine hD1.out.mono ?_; rintro en w4 ⟨rfl,hb4⟩; have hb04:=hb0.trans (hb4.mono hb0.size))
      | (go_at_call 18; refine (hct.out _ hb05).mono ?_; rintro en w6 ⟨v6,rfl,h6,hb6⟩; have hb06:=hb05.trans (hb6.mono hb05.size); have hAa:=hA.out _ hb06)
      | (go_at_call 16; refine (hgc.out _ _ _ hAa h6).mono ?_; rintro en w7 ⟨v7,rfl,h7,hb7⟩))
     go_ret
     exact ⟨_,rfl,h7,hb06.trans (hb7.mono hb06.size)⟩
    ·rw [if_neg hd2] at h
     have hd2' : (da == 0)=false:=by simpa using hd2
     obtain ⟨x,hx,h⟩:=bind2_some h
     obtain ⟨y,hy,h⟩:=bind2_some h
     obtain ⟨g',hg,h⟩:=bind2_some h
     obtain ⟨p,hp,h⟩:=bind2_some h
     obtain ⟨q,hq,h⟩:=bind2_some h
     by_cases hpq : p=[] ∨ q=[]
     ·rw [if_pos hpq] at h; cases h
     rw [if_neg hpq] at h
     obtain ⟨s,hs,h⟩:=bind2_some h
     obtain ⟨m,hm,h⟩:=bind2_some h
     obtain ⟨rfl,km⟩:=g1_some hm
     have kx:=cont_wp HG ka hx
     have ky:=cont_wp HG kb hy
     have kg:=(HG _ _ _ kx ky hg).2
     have kp:=over_wp hp
     have kq:=over_wp hq
     have ks:=seqO_wp kp kq hs
     have kmo:=kg.mulOk ks
     have hcx:=Lib.hid (fun W (hb : Below w.heap.size w W)=>content_any HG _ a x v W hv4 (hA.out W hb) ka hx)
     have hcy:=Lib.hid (fun W (hb : Below w.heap.size w W)=>content_any HG _ b y v W hv4 (hB.out W hb) kb hy)
     have hgc:=Lib.hid (HG _ _ _ kx ky hg).1
     have hop:=Lib.hid (fun W u (hb : Below w.heap.size w W) (hu : IsPoly W u x)=>over_any _ u a x p W (hA.out W hb) hu kx hp)
     have hoq:=Lib.hid (fun W u (hb : Below w.heap.size w W) (hu : IsPoly W u y)=>over_any _ u b y q W (hB.out W hb) hu ky hq)
     have hsq:=Lib.hid (fun W u1 u2 (h1 : IsPoly W u1 p) (h2 : IsPoly W u2 q) (n1 : p ≠ []) (n2 : q ≠ [])=>sequence_any HG u1 u2 p q s v W h1 h2 kp kq n1 n2 hv4 hs)
     have hml:=Lib.hid (fun W u1 u2 (h1 : IsPoly W u1 g') (h2 : IsPoly W u2 s)=>mul_pp u1 u2 g' s W h1 h2 kmo.kp kmo.kq kmo.ko kmo.kl.1 kmo.kl.2)
     have hno:=Lib.hid (fun W u (hu : IsPoly W u (mulP g' s))=>normal_any u _ g W hu km h)
     have hpn : p ≠ []:=fun h=>hpq (.inl h)
     have hqn : q ≠ []:=fun h=>hpq (.inr h)
     clear h hx hy hg hp hq hs hm hpq km kx ky kg kp kq ks kmo hd1 hd2
     generalize mulP g' s=m at *
     go_upto_region 12 with (first
      | (go_at_call 53; refine (hDa.out w4 hb04).mono ?_; rintro en w5 ⟨rfl,hb5⟩; have hb05:=hb04.trans (hb5.mono hb04.size))
      | (go_at_call 53; refine hD1.out.mono ?_; rintro en w4 ⟨rfl,hb4⟩; have hb04:=hb0.trans (hb4.mono hb0.size)))
     clear hD1 hDa hDb
     go_upto_region 13 with (first
      | (go_at_call 18; refine (hcy.out w6 hb06).mono ?_; rintro en w7 ⟨v7,rfl,h7,hb7⟩; have hb07:=hb06.trans (hb7.mono hb06.size); have h67:=h6.on hb7)
      | (go_at_call 18; refine (hcx.out _ hb05).mono ?_; rintro en w6 ⟨v6,rfl,h6,hb6⟩; have hb06:=hb05.trans (hb6.mono hb05.size)))
     have hgc2:=Lib.hid (hgc.out _ _ _ h67 h7)
     clear hcx hcy hgc
     go_wp2_with (first
      | (go_at_call 56; refine (hoq.out w9 v7 hb09 h79).mono ?_; rintro en w10 ⟨v10,rfl,h10,hb10⟩; have hb010:=hb09.trans (hb10.mono hb09.size); have h910:=h9.on hb10; have h810:=(h8.on hb9).on hb10)
      | (go_at_call 56; refine (hop.out w8 v6 hb08 h68).mono ?_; rintro en w9 ⟨v9,rfl,h9,hb9⟩; have hb09:=hb08.trans (hb9.mono hb08.size); have h79:=h78.on hb9)
      | (go_at_call 16; refine hgc2.out.mono ?_; rintro en w8 ⟨v8,rfl,h8,hb8⟩; have hb08:=hb07.trans (hb8.mono hb07.size); have h68:=h67.on hb8; have h78:=h7.on hb8)
      | (go_at_call 55; refine (hsq.out _ _ _ h910 h10 hpn hqn).mono ?_; rintro en w11 ⟨v11,rfl,h11,hb11⟩; have hb011:=hb010.trans (hb11.mono hb010.size); have h811:=h810.on hb11)
      | (go_at_call 54; refine (hml.out _ _ _ h811 h11).mono ?_; rintro en w12 ⟨v12,rfl,h12,hb12⟩; have hb012:=hb011.trans (hb12.mono hb011.size))
      | (go_at_call 14; refine (hno.out _ _ h12).mono ?_; rintro en w13 ⟨v13,rfl,h13,hb13⟩))
     go_ret
     exact ⟨_,rfl,h13,hb012.trans (hb13.mono hb012.size)⟩
theorem gcdN_any : ∀ n,GcdG (gcdN n)
 | 0=>fun a b g _ _ h=>by simp [gcdN] at h
 | n + 1=>gcdT_any (gcdN_any n)
end Go.Proofs.YtopclbeomcggiaaGreat
end
section
namespace Q
open Go Go.RowKit Go.Proofs.YtopclbeomcggiaaGreat
def elFac : El (List Trm × Nat) where
 T:=54
 sz:=2
 pos:=by decide
 E w cs f:=∃ v,cs=[v,.int .i64 (f.2 : Int)] ∧ IsPoly w v f.1
 len:=by rintro w c t ⟨v,rfl,-⟩; rfl
 one:=by
  rintro w c t ⟨v,rfl,h⟩ u hu
  simp only [List.mem_cons,List.not_mem_nil,or_false] at hu
  rcases hu with rfl | rfl
  ·exact IsSl.one h
  ·rfl
 on:=by rintro w w' c t ⟨v,rfl,h⟩ hb; exact ⟨v,rfl,IsSl.on h hb⟩
 ok T:=elTerm.ok T ∧ monoT ≠ T
 lr:=by rintro g T' w w' c t ⟨v,rfl,h⟩ hl hT; exact ⟨v,rfl,IsSl.lr h hl hT.1 hT.2⟩
 self:=⟨elTerm_ok (by decide),by decide⟩
theorem sqO_inv {G : List Trm → List Trm → Option (List Trm)} {a p : List Trm} {v : Nat} {R : List (List Trm × Nat)} (h : (if degP p v < 1 then some [] else
  bind2 (g1 (partialP p v)) fun d=>bind2 (G p d) fun g=>bind2 (overO p g) fun w=>bind2 (overO d g) fun y=>sqGo G v fuel 1 w y [])=some R) (hd : ¬ degP p v < 1) :
  ∃ g w0 y0,Wp (partialP p v) ∧ G p (partialP p v)=some g ∧ overO p g=some w0 ∧ overO (partialP p v) g=some y0 ∧ sqGo G v fuel 1 w0 y0 []=some R:=by
 rw [if_neg hd] at h
 obtain ⟨d,hd,h⟩:=bind2_some h
 obtain ⟨rfl,kd⟩:=g1_some hd
 obtain ⟨g,hg,h⟩:=bind2_some h
 obtain ⟨w0,hw,h⟩:=bind2_some h
 obtain ⟨y0,hy,h⟩:=bind2_some h
 exact ⟨g,w0,y0,kd,hg,hw,hy,h⟩
theorem sqGo_inv {G : List Trm → List Trm → Option (List Trm)} {x y : List Trm} {v f n : Nat} {out R : List (List Trm × Nat)} (h : sqGo G v (f + 1) n x y out=some R) (hd : 0 < degP x v) :
  ∃ g x' y',Wp (partialP x v) ∧ Wp (subP y (partialP x v)) ∧ G x (subP y (partialP x v))=some g ∧ overO x g=some x' ∧ overO (subP y (partialP x v)) g=some y' ∧ sqGo G v f (n + 1) x' y' (if 0 < degP g v then out ++ [(g,n)] else out)=some R:=by
 rw [sqGo,if_pos hd] at h
 obtain ⟨d,hd9,h⟩:=bind2_some h
 obtain ⟨rfl,kd⟩:=g1_some hd9
 obtain ⟨z,hz9,h⟩:=bind2_some h
 obtain ⟨rfl,kz⟩:=g1_some hz9
 obtain ⟨g,hg,h⟩:=bind2_some h
 obtain ⟨x',hx',h⟩:=bind2_some h
 obtain ⟨y',hy',h⟩:=bind2_some h
 exact ⟨g,x',y',kd,kz,hg,hx',hy',h⟩
abbrev OwnFac (base : Nat) (w : World) (v : Value) (l : List (List Trm × Nat)) : Prop:=OwnSl elFac base w v l
abbrev IsFac (w : World) (v : Value) (l : List (List Trm × Nat)) : Prop:=IsSl elFac w v l
end Q
namespace Go.Proofs.YtopclbeomcggiaaGreat
open Go.RowKit Q
theorem info_elFac : ∃ z bytes,(Tryz.prog.info? elFac.T).map (fun i=>(i.zero,i.size,i.bytes))=some (some z,elFac.sz,bytes) ∧ z.cells.size=elFac.sz ∧ bytes ≤ 100000:=⟨.agg #[.slice none 0 0,.int .i64 0],32,by kernel_rfl,rfl,by decide⟩
def RetFac (w : World) (l : List (List Trm × Nat)) (e : Ending) (w' : World) : Prop:=∃ v,e=.returned v ∧ IsFac w' v l ∧ Below w.heap.size w w'
theorem Wp.part {p : List Trm} (h : Wp p) (v : Nat) : ∀ t ∈ p,Rk t.2 ∧ t.1.get v ≤ 1000000 ∧ Rk (t.1.get v : Rat):=fun t ht=>by
 have h1:=h.exps ht v
 refine ⟨h.rk t ht,by omega,?_⟩
 obtain ⟨m,hm⟩ : ∃ m : Nat,t.1.get v=m:=⟨(t.1.get v).toNat,by omega⟩
 rw [hm]
 refine (rs_of_dv (s:=⟨1,1000,1,1⟩) (by decide +kernel) (Dv.int 1 (m : Int)) ?_).rk
 rw [rabs_int]; exact Rat.natCast_le_natCast.2 (by show (m : Int).natAbs ≤ 1000; omega)
theorem partW {va : Value} {p : List Trm} {v : Nat} {w : World} (h : Wp p) (hv : v < 4) (hp : IsPoly w va p) : Calls Tryz.prog 73 #[va,.int .i64 v] w (RetPoly w (partialP p v)) :=
 partial_any va p v w hp hv (Wp.part h v) (by have:=h.len; omega)
theorem subW {va vb : Value} {p q : List Trm} {w : World} (h : Wp p) (h' : Wp q) (hp : IsPoly w va p) (hq : IsPoly w vb q) : Calls Tryz.prog 74 #[va,vb] w (RetPoly w (subP p q)) :=
 sub_any va vb p q w hp hq h.rk h'.rk (by have:=h.len; omega) (by have:=h'.len; omega) h.val h'.val
set_option maxHeartbeats 4000000 in
set_option maxRecDepth 100000 in
theorem squarefree_any {G : List Trm → List Trm → Option (List Trm)} (HG : GcdG G) (va : Value) (a : List Trm) (R : List (List Trm × Nat)) (v : Nat) (w : World) (ha : IsPoly w va a) (ka : Wp a) (hv : v < 4) (h : sqO G a v=some R) :
  Calls Tryz.prog 29 #[va,.int .i64 v] w (RetFac w R):=by
 have hex : ∃ p,primO G a v=some p ∧ ((degP p v < 1 ∧ R=[]) ∨ (¬ degP p v < 1 ∧ ∃ g w0 y0,Wp (partialP p v) ∧ G p (partialP p v)=some g ∧ overO p g=some w0 ∧ overO (partialP p v) g=some y0 ∧ sqGo G v fuel 1 w0 y0 []=some R)):=by
  unfold sqO at h
  obtain ⟨p,hp,h⟩:=bind2_some h
  refine ⟨p,hp,?_⟩
  by_cases hd : degP p v < 1
  ·rw [if_pos hd,Option.some.injEq] at h; exact .inl ⟨hd,h.symm⟩
  ·exact .inr ⟨hd,sqO_inv (a:=a) h hd⟩
 clear h
 obtain ⟨p,hp,hex⟩:=hex
 have kp:=prim_wp hp
 have hpr:=Lib.hid (primitive_any HG va a p v w hv ha ka hp)
 have hdp:=Lib.hid (fun W u (hu : IsPoly W u p)=>deg_any u p v W hu hv (by have:=kp.len; omega))
 obtain ⟨dp,hdp2⟩ : ∃ dp,dp=degP p v:=⟨_,rfl⟩
 rw [← hdp2] at hdp hex
 clear hp hdp2
 rcases hex with ⟨hd1,rfl⟩ | ⟨hd1,g,w0,y0,kd,hg,hw,hy,h⟩
 ·go_enter Tryz.func29,Tryz.ntmps29
  go_wp2_with (first
   | (go_at_call 20; refine hpr.out.mono ?_; rintro en w3 ⟨v3,rfl,h3,hb3⟩)
   | (go_at_call 53; refine (hdp.out _ _ h3).mono ?_; rintro en w4 ⟨rfl,hb4⟩))
  go_ret
  exact ⟨_,rfl,IsSl.nil _ _,hb3.trans (hb4.mono hb3.size)⟩
 ·have hpt:=Lib.hid (fun W u (hu : IsPoly W u p)=>partW (w:=W) kp hv hu)
  generalize partialP p v=d at *
  obtain ⟨hgc,kg⟩:=HG _ _ _ kp kd hg
  have kw:=over_wp hw
  have ky:=over_wp hy
  replace hgc:=Lib.hid hgc
  have how:=Lib.hid (fun W u1 u2 (h1 : IsPoly W u1 p) (h2 : IsPoly W u2 g)=>over_any u1 u2 p g w0 W h1 h2 kg hw)
  have hoy:=Lib.hid (fun W u1 u2 (h1 : IsPoly W u1 d) (h2 : IsPoly W u2 g)=>over_any u1 u2 d g y0 W h1 h2 kg hy)
  obtain ⟨F,hF⟩ : ∃ F,F=fuel:=⟨_,rfl⟩
  have hF9 : 1 + F ≤ 100001:=by rw [hF]; decide
  rw [← hF] at h
  replace h:=Lib.hid h
  clear hF hg hw hy kp kd kg
  go_enter Tryz.func29,Tryz.ntmps29
  go_upto_region 6 with (first
   | (go_at_call 20; refine hpr.out.mono ?_; rintro en w3 ⟨v3,rfl,h3,hb3⟩)
   | (go_at_call 53; refine (hdp.out _ _ h3).mono ?_; rintro en w4 ⟨rfl,hb4⟩; have h34:=h3.on hb4)
   | (go_at_call 73; refine (hpt.out _ _ h34).mono ?_; rintro en w5 ⟨v5,rfl,h5,hb5⟩))
  have h35:=h34.on hb5
  have hb05:=(hb3.trans (hb4.mono hb3.size)).trans (hb5.mono (hb3.trans (hb4.mono hb3.size)).size)
  have hgc2:=Lib.hid (hgc.out _ _ _ h35 h5)
  clear hb3 hb4 hb5 h34 h3 hpr hpt hdp hgc hd1
  go_upto_region 7 with (go_at_call 16; refine hgc2.out.mono ?_; rintro en w6 ⟨v6,rfl,h6,hb6⟩)
  have how2:=Lib.hid (how.out _ _ _ (h35.on hb6) h6)
  have hoy2:=Lib.hid (fun W (hb : Below w6.heap.size w6 W)=>hoy.out W _ _ ((h5.on hb6).on hb) (h6.on hb))
  clear how hoy h35 h5 hgc2
  go_upto_region 8 with (first
   | (go_at_call 56; refine (hoy2.out w7 hb7).mono ?_; rintro en w8 ⟨v8,rfl,h8,hb8⟩)
   | (go_at_call 56; refine how2.out.mono ?_; rintro en w7 ⟨v7,rfl,h7,hb7⟩))
  have hb68:=hb6.trans ((hb7.trans (hb8.mono hb7.size)).mono hb6.size)
  have hb08:=hb05.trans (hb68.mono hb05.size)
  have h78:=Lib.hid (h7.on hb8)
  replace h8:=Lib.hid h8
  clear how2 hoy2 hb05 hb6 hb7 hb8 hb68 h6 h7
  go_wp2
  go_loopg [6,9,10,11] F (fun f vo vw vy vn wr=>∃ (n : Nat) (x y : List Trm) (out : List (List Trm × Nat)),vn=.int .i64 n ∧ Hid (OwnFac w.heap.size wr vo out) ∧ Hid (IsPoly wr vw x) ∧ Hid (IsPoly wr vy y) ∧ Wp x ∧ Wp y ∧ Hid (sqGo G v f n x y out=some R) ∧ n + f ≤ 100001 ∧ out.length ≤ n ∧ Below w.heap.size w wr)
  case atStart=>exact ⟨1,w0,y0,[],rfl,Lib.hid (OwnSl.nil _ _ _),h78,h8,kw,ky,h,hF9,by simp,hb08⟩
  case round =>
   clear h78 h8 kw ky h hF9 hb08
   obtain ⟨n,x,y,out,rfl,ho,hx,hy,kx,ky,hs,hnf,hol,hbr⟩:=hrel
   cases gk with
   | zero=>exact absurd hs.out (by simp [sqGo])
   | succ f =>
   have hs2:=hs.out
   have hinv:=sqGo_inv hs2
   rw [sqGo] at hs2
   have hdx:=Lib.hid (deg_any _ x v wr hx.out hv (by have:=kx.len; omega))
   obtain ⟨dx,hdx2⟩ : ∃ dx,dx=degP x v:=⟨_,rfl⟩
   rw [← hdx2] at hdx hs2 hinv
   clear hs hdx2
   by_cases hd : 0 < dx
   ·clear hs2
    obtain ⟨g,x',y',kd,kz,hg,hx',hy',hs2⟩:=hinv hd
    clear hinv
    have hpt:=Lib.hid (fun W (h1 : Below wr.heap.size wr W)=>partW (w:=W) kx hv (hx.out.on h1))
    have hsb:=Lib.hid (fun W u (h1 : Below wr.heap.size wr W) (hu : IsPoly W u (partialP x v))=>subW (w:=W) ky kd (hy.out.on h1) hu)
    generalize partialP x v=d at *
    generalize subP y d=z at *
    obtain ⟨hgc,kg⟩:=HG _ _ _ kx kz hg
    replace hgc:=Lib.hid hgc
    have hdg:=Lib.hid (fun W u (hu : IsPoly W u g)=>deg_any u g v W hu hv (by have:=kg.len; omega))
    have kx':=over_wp hx'
    have ky':=over_wp hy'
    have how:=Lib.hid (fun W u1 u2 (h1 : IsPoly W u1 x) (h2 : IsPoly W u2 g)=>over_any u1 u2 x g x' W h1 h2 kg hx')
    have hoy:=Lib.hid (fun W u1 u2 (h1 : IsPoly W u1 z) (h2 : IsPoly W u2 g)=>over_any u1 u2 z g y' W h1 h2 kg hy')
    obtain ⟨dg,hdg2⟩ : ∃ dg,dg=degP g v:=⟨_,rfl⟩
    rw [← hdg2] at hdg hs2
    clear hg hx' hy' kd kz kg hdg2
    go_upto_region 12 with (first
     | (go_at_call 53; refine hdx.out.mono ?_; rintro en w3 ⟨rfl,hb3⟩)
     | (go_at_call 73; refine (hpt.out _ hb3).mono ?_; rintro en w4 ⟨v4,rfl,h4,hb4⟩; have hb34:=hb3.trans (hb4.mono hb3.size))
     | (go_at_call 74; refine (hsb.out _ _ hb34 h4).mono ?_; rintro en w5 ⟨v5,rfl,h5,hb5⟩))
    have hb35:=hb34.trans (hb5.mono hb34.size)
    have hgc2:=Lib.hid (hgc.out _ _ _ (hx.out.on hb35) h5)
    have hx5:=hx.out.on hb35
    have ho5:=ho.out.on hb35
    have hbr5:=hbr.trans (hb35.mono hbr.size)
    clear hb3 hb4 hb5 hb34 hb35 h4 hpt hsb hdx hgc hx hy ho
    go_upto_region 13 with (go_at_call 16; refine hgc2.out.mono ?_; rintro en w6 ⟨v6,rfl,h6,hb6⟩)
    have hx6:=hx5.on hb6
    have hz6:=h5.on hb6
    have ho6:=ho5.on hb6
    have hbr6:=hbr5.trans (hb6.mono hbr5.size)
    have hdg2:=Lib.hid (hdg.out _ _ h6)
    clear hgc2 hx5 h5 ho5 hbr5 hb6 hdg
    have hn1 : n ≤ 100000:=by omega
    go_upto_if 50 with (go_at_call 53; refine hdg2.out.mono ?_; rintro en w7 ⟨rfl,hb7⟩)
    have hx7:=hx6.on hb7
    have hz7:=hz6.on hb7
    have ho7:=ho6.on hb7
    have hg7:=h6.on hb7
    have hbr7:=hbr6.trans (hb7.mono hbr6.size)
    clear hx6 hz6 ho6 h6 hbr6 hb7 hdg2
    go_cut [6,51,52,53,54,55,56] (fun vo _ _ _ _ _ _ wd=>Hid (OwnFac w.heap.size wd vo (if 0 < dg then out ++ [(g,n)] else out)) ∧ Hid (IsPoly wd u9 x) ∧ Hid (IsPoly wd v5 z) ∧ Hid (IsPoly wd v6 g) ∧ Below w.heap.size w wd)
    case first =>
     by_cases hp : 0 < dg
     ·have hbe : Below w7.heap.size w7 (w7.alloc (.cells #[v6,.int .i64 n] 54)):=(Below.refl _ _).alloc (Nat.le_refl _) _
      have hbre:=hbr7.trans (hbe.mono hbr7.size)
      have hown:=ho7.on hbe
      have hsl : IsFac (w7.alloc (.cells #[v6,.int .i64 n] 54)) (.slice (some ⟨w7.heap.size,0,none⟩) 1 1) [(g,n)] :=
       ⟨_,1,[v6,.int .i64 n],rfl,Nat.le_refl _,(Blk.new w7 54 [v6,.int .i64 n]).at,Elems.single ⟨v6,rfl,hg7.on hbe⟩⟩
      have hxe:=hx7.on hbe
      have hze:=hz7.on hbe
      have hge:=hg7.on hbe
      have hbas:=ho7.base_le
      obtain ⟨a6,c6,rfl,-⟩:=hg7.shape
      replace hbas:=Lib.hid hbas
      clear hx7 hz7 hg7 ho7
      go_wp2_with (at_builtin; refine wpList_app rfl _ _ 50 rfl Tryz.underlying50 info_elFac rfl rfl hown hsl (by simp; omega) hbre.size ?_; intro v8 w8 hown8 hl8 hv8)
      have hb8:=hbre.trans (hl8.belowAt hbre.size (fun k hk=>(hbas.out k hk).1))
      have hx8:=hxe.lr hl8 (elTerm_ok (by decide)) (by decide)
      have hz8:=hze.lr hl8 (elTerm_ok (by decide)) (by decide)
      have hg8:=hge.lr hl8 (elTerm_ok (by decide)) (by decide)
      go_meet
      case rel=>exact ⟨Lib.hid (by rw [if_pos hp]; exact hown8),Lib.hid hx8,Lib.hid hz8,Lib.hid hg8,hb8⟩
     ·go_wp2
      go_meet
      case rel=>exact ⟨Lib.hid (by rw [if_neg (by omega)]; exact ho7),Lib.hid hx7,Lib.hid hz7,Lib.hid hg7,hbr7⟩
    case rest =>
     clear hx7 hz7 hg7 ho7 hbr7
     obtain ⟨ho,hx,hz,hg,hbc⟩:=hcut
     have how2:=Lib.hid (how.out _ _ _ hx.out hg.out)
     have hoy2:=Lib.hid (fun W (hb : Below wc.heap.size wc W)=>hoy.out W _ _ (hz.out.on hb) (hg.out.on hb))
     have hlen : (if 0 < dg then out ++ [(g,n)] else out).length ≤ n + 1:=by
      split
      ·simp; omega
      ·omega
     replace hs2:=Lib.hid hs2
     generalize (if 0 < dg then out ++ [(g,n)] else out)=out2 at *
     clear how hoy hx hz hg
     go_wp2_with (first
      | (go_at_call 56; refine (hoy2.out w9 hb9).mono ?_; rintro en w10 ⟨v10,rfl,h10,hb10⟩)
      | (go_at_call 56; refine how2.out.mono ?_; rintro en w9 ⟨v9,rfl,h9,hb9⟩))
     have hb910:=hb9.trans (hb10.mono hb9.size)
     go_roundg f
     case measure=>omega
     case rel=>exact ⟨n + 1,x',y',out2,by go_num,Lib.hid (ho.out.on hb910),Lib.hid (h9.on hb10),Lib.hid h10,kx',ky',hs2,by omega,hlen,hbc.trans (hb910.mono hbc.size)⟩
   ·rw [if_neg hd,Option.some.injEq] at hs2
    have hfin:=Lib.hid hs2
    have hS:=ho.out.isSl
    clear hs2 ho hx hy
    go_wp2_with (go_at_call 53; refine hdx.out.mono ?_; rintro en w3 ⟨rfl,hb3⟩)
    go_ret
    exact ⟨_,rfl,by rw [← hfin.out]; exact hS.on hb3,hbr.trans (hb3.mono hbr.size)⟩
end Go.Proofs.YtopclbeomcggiaaGreat
end
section
namespace Q
open Go Go.RowKit Go.Proofs.YtopclbeomcggiaaGreat
abbrev Mx:=List (List (List Trm))
def mget (M : Mx) (i j : Nat) : List Trm:=(M.getD i []).getD j []
def mset (M : Mx) (i j : Nat) (x : List Trm) : Mx:=M.set i ((M.getD i []).set j x)
def sylTo (l : List (List Trm)) (at_ N : Nat) : Nat → List (List Trm)
 | 0=>List.replicate N []
 | k + 1=>(sylTo l at_ N k).set (at_ + l.length - 1 - k) (l.getD k [])
def sylRow (a b : List (List Trm)) (N i : Nat) : List (List Trm):=if b.length - 1 ≤ i then sylTo b (i - (b.length - 1)) N b.length else sylTo a i N a.length
def syl (a b : List (List Trm)) : Mx:=(List.range (a.length - 1 + (b.length - 1))).map (sylRow a b (a.length - 1 + (b.length - 1)))
theorem sylTo_len (l : List (List Trm)) (at_ N : Nat) : ∀ k,(sylTo l at_ N k).length=N
 | 0=>by simp [sylTo]
 | k + 1=>by rw [sylTo,List.length_set,sylTo_len l at_ N k]
def elJ (N k i : Nat) (last : List Trm) : Nat → Mx → Option Mx
 | 0,M=>some M
 | f + 1,M=>bind2 (overO (subP (mulP (mget M k k) (mget M i (N - (f + 1)))) (mulP (mget M i k) (mget M k (N - (f + 1))))) last) fun x=>elJ N k i last f (mset M i (N - (f + 1)) x)
def elI (N k : Nat) (last : List Trm) : Nat → Mx → Option Mx
 | 0,M=>some M
 | f + 1,M=>bind2 (elJ N k (N - (f + 1)) last (N - (k + 1)) M) fun M'=>elI N k last f M'
def findP (N k : Nat) (M : Mx) : Nat → Option Nat
 | 0=>none
 | f + 1=>if mget M (N - (f + 1)) k=[] then findP N k M f else some (N - (f + 1))
def swapR (M : Mx) (i j : Nat) : Mx:=(M.set i (M.getD j [])).set j (M.getD i [])
def finR (last : List Trm) (neg : Bool) : List Trm:=if neg then subP [] last else last
def resS (N : Nat) : Nat → Mx → List Trm → Bool → Option (List Trm)
 | 0,_,last,neg=>some (finR last neg)
 | f + 1,M,last,neg=>match findP N (N - (f + 1)) M (f + 1) with
  | none=>some []
  | some at_ =>
   let M1:=if at_=N - (f + 1) then M else swapR M (N - (f + 1)) at_
   let neg1:=if at_=N - (f + 1) then neg else !neg
   if f=0 then some (finR (mget M1 (N - (f + 1)) (N - (f + 1))) neg1)
   else bind2 (elI N (N - (f + 1)) last f M1) fun M2=>resS N f M2 (mget M2 (N - (f + 1)) (N - (f + 1))) neg1
def resO (a b : List Trm) (v : Nat) : Option (List Trm) :=
 if a=[] ∨ b=[] then some [] else resS ((coeffsP a v).length - 1 + ((coeffsP b v).length - 1)) ((coeffsP a v).length - 1 + ((coeffsP b v).length - 1)) (syl (coeffsP a v) (coeffsP b v)) oneP false
structure MxOk (N : Nat) (M : Mx) : Prop where
 len : M.length=N
 rows : ∀ r ∈ M,r.length=N
 el : ∀ r ∈ M,∀ x ∈ r,Wp x
theorem MxOk.get {N : Nat} {M : Mx} (h : MxOk N M) (i j : Nat) : Wp (mget M i j):=by
 unfold mget
 rcases Nat.lt_or_ge i M.length with hi | hi
 ·rw [List.getD_eq_getElem?_getD (l:=M),List.getElem?_eq_getElem hi,Option.getD_some]
  rcases Nat.lt_or_ge j M[i].length with hj | hj
  ·rw [List.getD_eq_getElem?_getD,List.getElem?_eq_getElem hj]; exact h.el _ (List.getElem_mem hi) _ (List.getElem_mem hj)
  ·rw [List.getD_eq_getElem?_getD,List.getElem?_eq_none hj]; exact Wp.nil
 ·rw [List.getD_eq_getElem?_getD (l:=M),List.getElem?_eq_none hi]; simp; exact Wp.nil
theorem MxOk.row {N : Nat} {M : Mx} (h : MxOk N M) {i : Nat} (hi : i < N) : M.getD i [] ∈ M ∧ (M.getD i []).length=N ∧ M[i]?=some (M.getD i []):=by
 have hl : i < M.length:=by rw [h.len]; exact hi
 have e : M.getD i []=M[i]:=by rw [List.getD_eq_getElem?_getD,List.getElem?_eq_getElem hl]; rfl
 rw [e]
 exact ⟨List.getElem_mem hl,h.rows _ (List.getElem_mem hl),List.getElem?_eq_getElem hl⟩
theorem MxOk.set {N : Nat} {M : Mx} (h : MxOk N M) {i j : Nat} {x : List Trm} (hi : i < N) (hx : Wp x) : MxOk N (mset M i j x):=by
 obtain ⟨h1,h2,h3⟩:=h.row hi
 refine ⟨by rw [mset,List.length_set]; exact h.len,fun r hr=>?_,fun r hr y hy=>?_⟩
 ·rcases List.mem_or_eq_of_mem_set hr with hr | rfl
  ·exact h.rows r hr
  ·rw [List.length_set]; exact h2
 ·rcases List.mem_or_eq_of_mem_set hr with hr | rfl
  ·exact h.el r hr y hy
  ·rcases List.mem_or_eq_of_mem_set hy with hy | rfl
   ·exact h.el _ h1 y hy
   ·exact hx
theorem MxOk.swap {N : Nat} {M : Mx} (h : MxOk N M) {i j : Nat} (hi : i < N) (hj : j < N) : MxOk N (swapR M i j):=by
 have hm : ∀ r ∈ swapR M i j,r ∈ M:=fun r hr=>by
  rcases List.mem_or_eq_of_mem_set hr with hr | rfl
  ·rcases List.mem_or_eq_of_mem_set hr with hr | rfl
   ·exact hr
   ·exact (h.row hj).1
  ·exact (h.row hi).1
 exact ⟨by rw [swapR,List.length_set,List.length_set]; exact h.len,fun r hr=>h.rows r (hm r hr),fun r hr=>h.el r (hm r hr)⟩
theorem sylTo_el {l : List (List Trm)} (hl : ∀ c ∈ l,Wp c) (at_ N : Nat) : ∀ k,∀ x ∈ sylTo l at_ N k,Wp x
 | 0,x,hx=>by rw [List.eq_of_mem_replicate hx]; exact Wp.nil
 | k + 1,x,hx=>by
  rcases List.mem_or_eq_of_mem_set hx with hx | rfl
  ·exact sylTo_el hl at_ N k x hx
  ·rcases Nat.lt_or_ge k l.length with hk | hk
   ·rw [List.getD_eq_getElem?_getD,List.getElem?_eq_getElem hk]; exact hl _ (List.getElem_mem hk)
   ·rw [List.getD_eq_getElem?_getD,List.getElem?_eq_none hk]; exact Wp.nil
theorem syl_ok {a b : List (List Trm)} (ha : ∀ c ∈ a,Wp c) (hb : ∀ c ∈ b,Wp c) : MxOk (a.length - 1 + (b.length - 1)) (syl a b):=by
 refine ⟨by simp [syl],fun r hr=>?_,fun r hr x hx=>?_⟩
 ·obtain ⟨i,-,rfl⟩:=List.mem_map.1 hr
  unfold sylRow; split <;> exact sylTo_len _ _ _ _
 ·obtain ⟨i,-,rfl⟩:=List.mem_map.1 hr
  unfold sylRow at hx
  split at hx
  ·exact sylTo_el hb _ _ _ x hx
  ·exact sylTo_el ha _ _ _ x hx
abbrev rowT : TypeId:=75
def hdr (N : Nat) (b : Nat) : Value:=.slice (some ⟨b,0,none⟩) N N
def RowAt (base : Nat) (w : World) (N b : Nat) (r : List (List Trm)) : Prop:=base ≤ b ∧ r.length=N ∧ ∃ vs,Cols w b vs r ∧ vs.length=N
structure Mat (base : Nat) (w : World) (g N : Nat) (bs : List Nat) (M : Mx) : Prop where
 ob : Blk w g rowT (bs.map (hdr N) ++ List.replicate (N - bs.length) (.slice none 0 0))
 gb : base ≤ g
 len : M.length=bs.length
 le : bs.length ≤ N
 row : ∀ (i b : Nat) (r : List (List Trm)),bs[i]?=some b → M[i]?=some r → RowAt base w N b r
 nd : bs.Nodup
theorem RowAt.on {base : Nat} {w w' : World} {N b : Nat} {r : List (List Trm)} (h : RowAt base w N b r) (hb : Below w.heap.size w w') : RowAt base w' N b r:=by
 obtain ⟨h1,h2,vs,h3,h4⟩:=h
 exact ⟨h1,h2,vs,h3.on hb,h4⟩
theorem Mat.on {base : Nat} {w w' : World} {g N : Nat} {bs : List Nat} {M : Mx} (h : Mat base w g N bs M) (hb : Below w.heap.size w w') : Mat base w' g N bs M :=
 ⟨h.ob.on hb,h.gb,h.len,h.le,fun i b r h1 h2=>(h.row i b r h1 h2).on hb,h.nd⟩
theorem RowAt.ne {base : Nat} {w : World} {N b g : Nat} {r : List (List Trm)} {cs : List Value} (h : RowAt base w N b r) (hg : Blk w g rowT cs) : b ≠ g:=by
 rintro rfl
 obtain ⟨-,-,vs,h3,-⟩:=h
 have:=h3.b
 unfold Blk at *
 rw [this] at hg
 simp only [Option.some.injEq,Obj.cells.injEq] at hg
 exact absurd hg.2.1 (by decide)
theorem RowAt.lr {base : Nat} {w w' : World} {N b : Nat} {r : List (List Trm)} {g : Nat} {T : TypeId} (h : RowAt base w N b r) (hl : Lr (some g) T w w') (hT : uT ≠ T) (hT' : monoT ≠ T) (hne : b ≠ g) : RowAt base w' N b r:=by
 obtain ⟨h1,h2,vs,h3,h4⟩:=h
 exact ⟨h1,h2,vs,⟨h3.b.lr hl (by simpa using hne),h3.l,fun i v p hv hp=>(h3.p i v p hv hp).lr hl (elTerm_ok hT) hT'⟩,h4⟩
theorem RowAt.set {base : Nat} {w : World} {N b : Nat} {r : List (List Trm)} (h : RowAt base w N b r) {j : Nat} (hj : j < N) {v : Value} {q : List Trm} (hq : IsPoly w v q) :
  RowAt base (w.setCell ⟨b,j,none⟩ v) N b (r.set j q) ∧ Lr (some b) polyT w (w.setCell ⟨b,j,none⟩ v):=by
 obtain ⟨h1,h2,vs,h3,h4⟩:=h
 obtain ⟨h5,h6⟩:=h3.set (i:=j) (by omega) hq
 exact ⟨⟨h1,by simpa using h2,_,h5,by simpa using h4⟩,h6⟩
theorem RowAt.get {base : Nat} {w : World} {N b : Nat} {r : List (List Trm)} (h : RowAt base w N b r) {j : Nat} (hj : j < N) : ∃ v,IsPoly w v (r.getD j []) ∧ w.cell? ⟨b,j,none⟩=some v ∧ w.frozen? ⟨b,j,none⟩=false ∧ b < w.heap.size:=by
 obtain ⟨h1,h2,vs,h3,h4⟩:=h
 obtain ⟨v,hv,hp,hc⟩:=h3.get (i:=j) (by omega)
 exact ⟨v,hp,hc,h3.b.frozen j,h3.b.lt⟩
end Q
end
section
namespace Q
open Go Go.Proofs.YtopclbeomcggiaaGreat
theorem head_is {a : List Trm} (hv : Vld a) {E : Ex} {c : Rat} (hc : c ≠ 0) (h1 : ∀ t ∈ a,E=t.1 ∨ E.gt t.1=true) (h2 : cf a E=c) : ∃ a',a=(E,c) :: a':=by
 obtain ⟨t,ht,he⟩:=cf_in (l:=a) (e:=E) (by rw [h2]; exact hc)
 cases a with
 | nil=>cases ht
 | cons m a =>
  have h3 : m.1=E:=by
   rcases h1 m (by simp) with h | h
   ·exact h.symm
   ·rcases List.mem_cons.1 ht with rfl | ht
    ·exact he
    ·have h4:=hv.1.head t ht
     rw [he] at h4
     rw [Ex.gt_asymm h] at h4; cases h4
  have h4:=hv.cf_head
  rw [h3,h2] at h4
  exact ⟨a,by rw [← h3,h4]⟩
theorem mul_top {x g : Trm} {s ts : List Trm} (hs : Vld (x :: s)) (hb : Vld (g :: ts)) : (∀ t ∈ mulP (x :: s) (g :: ts),x.1.add g.1=t.1 ∨ (x.1.add g.1).gt t.1=true) ∧ cf (mulP (x :: s) (g :: ts)) (x.1.add g.1)=x.2 * g.2:=by
 refine ⟨canon_ex (P:=fun e=>x.1.add g.1=e ∨ (x.1.add g.1).gt e=true) fun t ht=>?_,?_⟩
 ·obtain ⟨a,ha,b,hb',rfl⟩:=mem_prods ht
  by_cases h : x.1=a.1 ∧ g.1=b.1
  ·exact .inl (by simp only [mulT,h.1,h.2])
  ·exact .inr (gt_add_both (hs.1.head_or a ha) (hb.1.head_or b hb') h)
 ·rw [mulP,cf_canon,if_pos (Ex.nat_add hs.nat.head hb.nat.head),cf_prods_head hs.1 hb.1]
theorem quo_back {x g : Trm} (hz : g.2 ≠ 0) : quoT (x.1.add g.1,x.2 * g.2) g=x:=by
 obtain ⟨e,c⟩:=x
 unfold quoT
 refine Prod.ext ?_ ?_
 ·show (e.add g.1).sub g.1=e
  simp only [Ex.add,Ex.sub]; refine Ex.ext' ?_ ?_ ?_ ?_ <;> simp only <;> omega
 ·show c * g.2 / g.2=c
  exact Rat.mul_div_cancel hz
theorem sub_back {x : Trm} {s b d : List Trm} (hs : Vld (x :: s)) (hb : Vld b) (hd : Vld d) : subP (addP (mulP (x :: s) b) d) (mulP b [x])=addP (mulP s b) d :=
 ev_inj (Vld.sub _ _) (Vld.add _ _) fun y=>by
  have hx : Vld [x]:=⟨List.pairwise_singleton _ _,fun t ht=>hs.2 t (by simp at ht; simp [ht])⟩
  rw [ev_sub y (Vld.add _ _).nat (Vld.mul _ _),ev_add y (Vld.mul _ _).nat hd.nat,ev_mul y hs.nat hb.nat,ev_mul y hb.nat hx.nat,ev_add y (Vld.mul _ _).nat hd.nat,ev_mul y hs.tail.nat hb.nat,ev_cons,ev_cons,ev_nil]
  grind
theorem addP_nil {p : List Trm} (hp : Vld p) : addP p []=p:=by rw [addP,List.append_nil,canon_id hp]
theorem int_of_dv {c : Rat} (h : Dv 1 c) : ∃ z : Int,c=(z : Rat):=by
 obtain ⟨k,hk⟩:=h
 exact ⟨k,by rw [← hk,show ((1 : Nat) : Rat)=1 from rfl,Rat.mul_one]⟩
theorem int_le {z : Int} {n : Nat} (h : rabs (z : Rat) ≤ (n : Rat)) : z.natAbs ≤ n:=by
 rw [rabs_int] at h
 exact Rat.natCast_le_natCast.1 h
end Q
namespace Go.Proofs.YtopclbeomcggiaaGreat
open Go Go.RowKit Q
def RetDivT (w : World) (s : List Trm) (t : Bool) (e : Ending) (w' : World) : Prop:=∃ v,e=.returned (.tuple #[v,.bool t]) ∧ IsPoly w' v s ∧ Below w.heap.size w w'
end Go.Proofs.YtopclbeomcggiaaGreat
end
section
namespace Q
open Go Go.Proofs.YtopclbeomcggiaaGreat
theorem den_one {c : Rat} (h : Dv 1 c) : c.den=1:=by
 obtain ⟨z,rfl⟩:=int_of_dv h
 rfl
theorem lcmD_one : ∀ {l : List Trm},(∀ t ∈ l,Dv 1 t.2) → lcmD l=1
 | [],_=>rfl
 | t :: l,h=>by
  rw [lcmD,den_one (h t (by simp)),lcmD_one fun u hu=>h u (by simp [hu])]; rfl
structure Is (s : Sz) : Prop where
 d : s.D=1
 b : s.B ≤ 2 ^ 200
 e : s.E ≤ 1000
 n : s.N ≤ 900
theorem bdB_of {s : Sz} {p : List Trm} (hb : Bd s p) (h : Is s) : bdB p=true:=by
 have hd : ∀ t ∈ p,Dv 1 t.2:=fun t ht=>h.d ▸ hb.d t ht
 have hn:=hb.n
 have hn2:=h.n
 have he2:=h.e
 simp only [bdB,Bool.and_eq_true,decide_eq_true_eq,List.all_eq_true]
 refine ⟨⟨⟨by omega,fun t ht=>?_⟩,by rw [lcmD_one hd]; omega⟩,Rat.le_trans hb.b (Rat.natCast_le_natCast.2 h.b)⟩
 have:=hb.e t ht
 exact ⟨⟨⟨⟨⟨⟨⟨by omega,by omega⟩,by omega⟩,by omega⟩,by omega⟩,by omega⟩,by omega⟩,by omega⟩
theorem wpB_of {s : Sz} {p : List Trm} (hv : Vld p) (hb : Bd s p) (h : Is s) : wpB p=true:=by
 rw [wpB,Bool.and_eq_true]; exact ⟨vldB_vld.2 hv,bdB_of hb h⟩
theorem g1_of {s : Sz} {p : List Trm} (hv : Vld p) (hb : Bd s p) (h : Is s) : g1 p=some p:=by
 rw [g1,wpB_of hv hb h]; rfl
theorem divO_exact {sp sb : Sz} {g : Trm} {ts : List Trm} (hv : Vld (g :: ts)) (hb : Bd sb (g :: ts)) (k : Is (sp.mul sb)) (kp : Is sp) (hg : g.2.num.natAbs < 4294967296) : ∀ (s out : List Trm) (n : Nat),Vld s → Bd sp s → s.length + 1 ≤ n → divO (g :: ts) g n (mulP s (g :: ts)) out=some (some (out ++ s))
 | [],out,n,_,_,hn=>by
  obtain ⟨n,rfl⟩ : ∃ m,n=m + 1:=⟨n - 1,by simp at hn; omega⟩
  rw [show mulP [] (g :: ts)=[] from rfl,divO,List.append_nil]
 | x :: s,out,n,hs,hB,hn=>by
  obtain ⟨n,rfl⟩ : ∃ m,n=m + 1:=⟨n - 1,by simp at hn; omega⟩
  have hz:=(hv.2 g (by simp)).1
  have hx:=hs.2 x (by simp)
  obtain ⟨h1,h2⟩:=mul_top hs hv
  obtain ⟨a,ha⟩:=head_is (Vld.mul _ _) (rmul_ne hx.1 hz) h1 h2
  have hw:=wpB_of (Vld.mul (x :: s) (g :: ts)) (hB.prods hb).canon k
  have hW2 : Bd sp s:=hB.sub (List.sublist_cons_self _ _)
  have ih:=divO_exact hv hb k kp hg s (out ++ [x]) n hs.tail hW2 (by simp at hn; omega)
  have h3:=sub_back hs hv Vld.nil
  rw [addP_nil (Vld.mul _ _),addP_nil (Vld.mul _ _)] at h3
  rw [ha] at hw h3 ⊢
  have h4:=quo_back (x:=x) hz
  have h5 : ((x.1.add g.1).sub g.1)=x.1:=congrArg Prod.fst h4
  have hmul : Bd (sp.mul sb) ((x.1.add g.1,x.2 * g.2) :: a):=ha ▸ (hB.prods hb).canon
  have hden : (x.2 * g.2).den=1:=den_one (k.d ▸ hmul.d (x.1.add g.1,x.2 * g.2) (by simp))
  have hfit : fitB (((x.2 * g.2).den : Int) * g.2.num)=true:=by
   rw [fitB,hden]; simpa using hg
  have hxb : wpB [x]=true:=wpB_of ⟨List.pairwise_singleton _ _,fun t ht=>by rw [List.mem_singleton.1 ht]; exact hx⟩ (hB.sub (List.singleton_sublist.2 (by simp))) kp
  rw [divO,if_pos (by rw [hw]; simpa using hfit),if_pos (by show ((x.1.add g.1).sub g.1).nat=true; rw [h5]; exact hx.2),h4,if_pos hxb,h3,ih]
  simp
theorem over_exact {sp sb : Sz} {s b : List Trm} (hne : b ≠ []) (hs : Vld s) (hv : Vld b) (hS : Bd sp s) (hb : Bd sb b) (k : Is (sp.mul sb)) (kp : Is sp) (hg : ∀ t ∈ b,t.2.num.natAbs < 4294967296) : overO (mulP s b) b=some s:=by
 cases b with
 | nil=>exact absurd rfl hne
 | cons g ts =>
  have hl:=hS.n
  have hl2:=kp.n
  have h:=divO_exact hv hb k kp (hg g (by simp)) s [] fuel hs hS (by unfold fuel; omega)
  rw [overO,divW,h]
  simp only [List.nil_append,Option.getD_some]
  exact g1_of hs hS kp
end Q
end
section
namespace Q
open Go Go.Proofs.YtopclbeomcggiaaGreat
structure Rep (N : Nat) (M : Mx) (F : Nat → Nat → List Trm) : Prop where
 len : M.length=N
 rows : ∀ r ∈ M,r.length=N
 el : ∀ i j,i < N → j < N → mget M i j=F i j
theorem mget_mset {N : Nat} {M : Mx} (hl : M.length=N) (hr : ∀ r ∈ M,r.length=N) {i j : Nat} (hi : i < N) (hj : j < N) (x : List Trm) (i' j' : Nat) : mget (mset M i j x) i' j'=if i'=i ∧ j'=j then x else mget M i' j':=by
 have hM : M.getD i []=M[i]'(by omega):=by rw [List.getD_eq_getElem?_getD,List.getElem?_eq_getElem (by omega)]; rfl
 have hrl : (M[i]'(by omega)).length=N:=hr _ (List.getElem_mem _)
 unfold mget mset
 by_cases h1 : i'=i
 ·subst h1
  rw [List.getD_eq_getElem?_getD (l:=M.set i' _),List.getElem?_set,if_pos rfl,if_pos (by omega),Option.getD_some,hM,List.getD_eq_getElem?_getD,List.getElem?_set]
  by_cases h2 : j=j'
  ·subst h2; rw [if_pos rfl,if_pos (by omega),if_pos ⟨rfl,rfl⟩]; rfl
  ·rw [if_neg h2,if_neg (fun h=>h2 h.2.symm),← List.getD_eq_getElem?_getD]
 ·rw [if_neg (fun h=>h1 h.1),List.getD_eq_getElem?_getD (l:=M.set i _),List.getElem?_set,if_neg (fun h=>h1 h.symm),← List.getD_eq_getElem?_getD]
theorem Rep.set {N : Nat} {M : Mx} {F : Nat → Nat → List Trm} (h : Rep N M F) {i j : Nat} (hi : i < N) (hj : j < N) (x : List Trm) : Rep N (mset M i j x) (fun i' j'=>if i'=i ∧ j'=j then x else F i' j'):=by
 have hM : M.getD i []=M[i]'(by rw [h.len]; exact hi):=by rw [List.getD_eq_getElem?_getD,List.getElem?_eq_getElem (by rw [h.len]; exact hi)]; rfl
 refine ⟨by rw [mset,List.length_set]; exact h.len,fun r hr=>?_,fun i' j' h1 h2=>?_⟩
 ·rcases List.mem_or_eq_of_mem_set hr with hr | rfl
  ·exact h.rows r hr
  ·rw [List.length_set,hM]; exact h.rows _ (List.getElem_mem _)
 ·rw [mget_mset h.len h.rows hi hj]
  split
  ·rfl
  ·exact h.el i' j' h1 h2
theorem Rep.congr {N : Nat} {M : Mx} {F G : Nat → Nat → List Trm} (h : Rep N M F) (e : ∀ i j,i < N → j < N → F i j=G i j) : Rep N M G :=
 ⟨h.len,h.rows,fun i j h1 h2=>(h.el i j h1 h2).trans (e i j h1 h2)⟩
theorem elJ_run {N k i : Nat} {last : List Trm} {X : Nat → List Trm} (hk : k < i) (hi : i < N) : ∀ (f : Nat) {M : Mx} {F : Nat → Nat → List Trm},Rep N M F → k + f < N →
  (∀ j,N - f ≤ j → j < N → overO (subP (mulP (F k k) (F i j)) (mulP (F i k) (F k j))) last=some (X j)) →
  ∃ M',elJ N k i last f M=some M' ∧ Rep N M' (fun i' j'=>if i'=i ∧ N - f ≤ j' then X j' else F i' j')
 | 0,M,F,h,_,_=>⟨M,rfl,h.congr fun i' j' h1 h2=>by rw [if_neg (by omega)]⟩
 | f + 1,M,F,h,hf,hx=>by
  have hj : N - (f + 1) < N:=by omega
  have h1:=hx (N - (f + 1)) (Nat.le_refl _) hj
  have h2:=h.set hi hj (X (N - (f + 1)))
  obtain ⟨M',h3,h4⟩:=elJ_run hk hi f h2 (by omega) (fun j h5 h6=>by
   simp only
   rw [if_neg (by omega),if_neg (by omega),if_neg (by omega),if_neg (by omega)]
   exact hx j (by omega) h6)
  refine ⟨M',?_,h4.congr fun i' j' h5 h6=>?_⟩
  ·rw [elJ,h.el k k (by omega) (by omega),h.el i _ hi hj,h.el i k hi (by omega),h.el k _ (by omega) hj,h1]
   exact h3
  ·by_cases h7 : i'=i
   ·subst h7
    by_cases h8 : N - f ≤ j'
    ·rw [if_pos ⟨rfl,h8⟩,if_pos ⟨rfl,by omega⟩]
    ·rw [if_neg (fun h=>h8 h.2)]
     by_cases h9 : j'=N - (f + 1)
     ·rw [if_pos ⟨rfl,h9⟩,if_pos ⟨rfl,by omega⟩,h9]
     ·rw [if_neg (fun h=>h9 h.2),if_neg (by omega)]
   ·rw [if_neg (fun h=>h7 h.1),if_neg (fun h=>h7 h.1),if_neg (fun h=>h7 h.1)]
theorem elI_run {N k : Nat} {last : List Trm} {X : Nat → Nat → List Trm} (hkN : k < N) : ∀ (f : Nat) {M : Mx} {F : Nat → Nat → List Trm},Rep N M F → k + f < N →
  (∀ i j,N - f ≤ i → i < N → k < j → j < N → overO (subP (mulP (F k k) (F i j)) (mulP (F i k) (F k j))) last=some (X i j)) →
  ∃ M',elI N k last f M=some M' ∧ Rep N M' (fun i' j'=>if N - f ≤ i' ∧ k < j' then X i' j' else F i' j')
 | 0,M,F,h,_,_=>⟨M,rfl,h.congr fun i' j' h1 h2=>by rw [if_neg (by omega)]⟩
 | f + 1,M,F,h,hf,hx=>by
  have hi : N - (f + 1) < N:=by omega
  obtain ⟨M1,h1,h2⟩:=elJ_run (X:=X (N - (f + 1))) (k:=k) (last:=last) (by omega) hi (N - (k + 1)) h (by omega) (fun j h3 h4=>hx _ j (Nat.le_refl _) hi (by omega) h4)
  obtain ⟨M',h3,h4⟩:=elI_run hkN f h2 (by omega) (fun i j h5 h6 h7 h8=>by
   rw [if_neg (by omega),if_neg (by omega),if_neg (by omega),if_neg (by omega)]
   exact hx i j (by omega) h6 h7 h8)
  refine ⟨M',?_,h4.congr fun i' j' h5 h6=>?_⟩
  ·rw [elI,h1]; exact h3
  ·by_cases h7 : N - f ≤ i' ∧ k < j'
   ·rw [if_pos h7,if_pos ⟨by omega,h7.2⟩]
   ·rw [if_neg h7]
    by_cases h8 : i'=N - (f + 1) ∧ N - (N - (k + 1)) ≤ j'
    ·rw [if_pos h8,if_pos ⟨by omega,by omega⟩,h8.1]
    ·rw [if_neg h8,if_neg (by omega)]
theorem resS_pivot {N f k : Nat} {M : Mx} {F : Nat → Nat → List Trm} {last : List Trm} {neg : Bool} (h : Rep N M F) (hk : k + (f + 1)=N) (hp : F k k ≠ []) {X : Nat → Nat → List Trm}
  (hx : ∀ i j,k < i → i < N → k < j → j < N → overO (subP (mulP (F k k) (F i j)) (mulP (F i k) (F k j))) last=some (X i j)) :
  ∃ M',Rep N M' (fun i j=>if k < i ∧ k < j then X i j else F i j) ∧ resS N (f + 1) M last neg=if f=0 then some (finR (F k k) neg) else resS N f M' (F k k) neg:=by
 have hNk : N - (f + 1)=k:=by omega
 have hfp : findP N k M (f + 1)=some k:=by rw [findP,hNk,if_neg (by rw [h.el k k (by omega) (by omega)]; exact hp)]
 obtain ⟨M',h1,h2⟩:=elI_run (k:=k) (last:=last) (X:=X) (by omega) f h (by omega) (fun i j h3 h4 h5 h6=>hx i j (by omega) h4 h5 h6)
 have h2':=h2.congr (G:=fun i j=>if k < i ∧ k < j then X i j else F i j) fun i j h3 h4=>by
  by_cases h5 : k < i ∧ k < j
  ·rw [if_pos h5,if_pos ⟨by omega,h5.2⟩]
  ·rw [if_neg h5,if_neg (by omega)]
 refine ⟨M',h2',?_⟩
 rw [resS,hNk,hfp]
 simp only [if_true]
 split
 ·rw [h.el k k (by omega) (by omega)]
 ·rw [h1]
  show resS N f M' (mget M' k k) neg=_
  rw [h2'.el k k (by omega) (by omega)]
  simp
theorem findP_none {N k : Nat} {M : Mx} {F : Nat → Nat → List Trm} (h : Rep N M F) (hkN : k < N) : ∀ (f : Nat),f ≤ N → (∀ i,N - f ≤ i → i < N → F i k=[]) → findP N k M f=none
 | 0,_,_=>rfl
 | f + 1,hf,hz=>by
  rw [findP,h.el _ k (by omega) hkN,if_pos (hz _ (Nat.le_refl _) (by omega))]
  exact findP_none h hkN f (by omega) fun i h1 h2=>hz i (by omega) h2
theorem resS_none {N f k : Nat} {M : Mx} {F : Nat → Nat → List Trm} {last : List Trm} {neg : Bool} (h : Rep N M F) (hk : k + (f + 1)=N) (hz : ∀ i,k ≤ i → i < N → F i k=[]) : resS N (f + 1) M last neg=some []:=by
 have hNk : N - (f + 1)=k:=by omega
 rw [resS,hNk,findP_none h (by omega) (f + 1) (by omega) fun i h1 h2=>hz i (by omega) h2]
end Q
end
section
namespace Q
open Go Go.Proofs.YtopclbeomcggiaaGreat
theorem resS_last {N k : Nat} {M : Mx} {F : Nat → Nat → List Trm} {last : List Trm} {neg : Bool} (h : Rep N M F) (hk : k + 1=N) : resS N 1 M last neg=some (if F k k=[] then [] else finR (F k k) neg):=by
 by_cases h0 : F k k=[]
 ·rw [if_pos h0]
  exact resS_none h hk fun i h1 h2=>by rw [show i=k by omega]; exact h0
 ·rw [if_neg h0]
  obtain ⟨M',-,h2⟩:=resS_pivot (neg:=neg) (last:=last) (X:=fun _ _=>[]) h hk h0 (fun i j h1 h2=>by omega)
  rw [h2,if_pos rfl]
theorem resS_last' {N k : Nat} {M : Mx} {F : Nat → Nat → List Trm} {last x : List Trm} {neg : Bool} (h : Rep N M F) (hk : k + 1=N) (hx : F k k=x) : resS N 1 M last neg=some (if x=[] then [] else finR x neg):=by
 rw [resS_last h hk,hx]
theorem getD_set {α : Type} (l : List α) (i j : Nat) (x d : α) (hi : i < l.length) : (l.set i x).getD j d=if j=i then x else l.getD j d:=by
 rw [List.getD_eq_getElem?_getD,List.getElem?_set,List.getD_eq_getElem?_getD]
 by_cases h : i=j
 ·subst h; rw [if_pos rfl,if_pos hi,if_pos rfl]; rfl
 ·rw [if_neg h,if_neg (fun h'=>h h'.symm)]
theorem Rep.swap {N : Nat} {M : Mx} {F : Nat → Nat → List Trm} (h : Rep N M F) {i j : Nat} (hi : i < N) (hj : j < N) : Rep N (swapR M i j) (fun i' j'=>if i'=j then F i j' else if i'=i then F j j' else F i' j'):=by
 have hm : ∀ k,k < N → M.getD k [] ∈ M:=fun k hk=>by
  rw [List.getD_eq_getElem?_getD,List.getElem?_eq_getElem (by rw [h.len]; exact hk)]; exact List.getElem_mem _
 refine ⟨by rw [swapR,List.length_set,List.length_set]; exact h.len,fun r hr=>?_,fun i' j' h1 h2=>?_⟩
 ·rcases List.mem_or_eq_of_mem_set hr with hr | rfl
  ·rcases List.mem_or_eq_of_mem_set hr with hr | rfl
   ·exact h.rows r hr
   ·exact h.rows _ (hm j hj)
  ·exact h.rows _ (hm i hi)
 ·unfold mget swapR
  rw [getD_set _ _ _ _ _ (by rw [List.length_set,h.len]; exact hj),getD_set _ _ _ _ _ (by rw [h.len]; exact hi)]
  split
  ·exact h.el i j' hi h2
  ·split
   ·exact h.el j j' hj h2
   ·exact h.el i' j' h1 h2
theorem resS_swap {N k : Nat} {M : Mx} {F : Nat → Nat → List Trm} {last x : List Trm} {neg : Bool} (h : Rep N M F) (hk : k + 2=N) (h0 : F k k=[]) (hp : F (k + 1) k ≠ [])
  (hx : overO (subP (mulP (F (k + 1) k) (F k (k + 1))) (mulP (F k k) (F (k + 1) (k + 1)))) last=some x) : resS N 2 M last neg=some (if x=[] then [] else finR x (!neg)):=by
 have hNk : N - 2=k:=by omega
 have hNk1 : N - 1=k + 1:=by omega
 have hfp : findP N k M 2=some (k + 1):=by
  rw [findP,hNk,if_pos (by rw [h.el k k (by omega) (by omega)]; exact h0),findP,hNk1,if_neg (by rw [h.el (k + 1) k (by omega) (by omega)]; exact hp)]
 have hs:=h.swap (i:=k) (j:=k + 1) (by omega) (by omega)
 obtain ⟨M',h1,h2⟩:=elI_run (k:=k) (last:=last) (X:=fun _ _=>x) (by omega) 1 hs (by omega) (fun i j h3 h4 h5 h6=>by
  obtain rfl : i=k + 1:=by omega
  obtain rfl : j=k + 1:=by omega
  rw [if_neg (by omega),if_pos rfl,if_pos rfl,if_pos rfl,if_neg (by omega),if_pos rfl]
  exact hx)
 rw [resS,hNk,hfp]
 simp only
 rw [if_neg (by omega),if_neg (by omega),if_neg (by omega),h1]
 show resS N 1 M' _ _=_
 exact resS_last' h2 (k:=k + 1) (by omega) (if_pos ⟨by omega,by omega⟩)
theorem sub_back2 {d : List Trm} (h : Vld d) : subP [] (subP [] d)=d :=
 ev_inj (Vld.sub _ _) h fun y=>by
  rw [ev_sub y Vld.nil.nat (Vld.sub _ _),ev_sub y Vld.nil.nat h,ev_nil]; grind
theorem resS_block {N k : Nat} {M : Mx} {F : Nat → Nat → List Trm} {last d : List Trm} (h : Rep N M F) (hk : k + 2=N) (hd : Vld d)
  (h1 : overO (subP (mulP (F k k) (F (k + 1) (k + 1))) (mulP (F (k + 1) k) (F k (k + 1)))) last=some d)
  (h2 : overO (subP (mulP (F (k + 1) k) (F k (k + 1))) (mulP (F k k) (F (k + 1) (k + 1)))) last=some (subP [] d))
  (h3 : F k k=[] → F (k + 1) k=[] → d=[]) : resS N 2 M last false=some d:=by
 by_cases p0 : F k k=[]
 ·by_cases r0 : F (k + 1) k=[]
  ·rw [h3 p0 r0]
   exact resS_none (f:=1) h hk fun i h4 h5=>by
    obtain rfl | rfl : i=k ∨ i=k + 1:=by omega
    ·exact p0
    ·exact r0
  ·rw [resS_swap h hk p0 r0 h2]
   by_cases e : subP [] d=[]
   ·rw [if_pos e,← sub_back2 hd,e]; rfl
   ·rw [if_neg e]; show some (subP [] (subP [] d))=_; rw [sub_back2 hd]
 ·obtain ⟨M',h4,h5⟩:=resS_pivot (f:=1) (neg:=false) (last:=last) (X:=fun _ _=>d) h hk p0 (fun i j h6 h7 h8 h9=>by
   obtain rfl : i=k + 1:=by omega
   obtain rfl : j=k + 1:=by omega
   exact h1)
  refine h5.trans ?_
  rw [if_neg (by omega),resS_last' h4 (k:=k + 1) (x:=d) (by omega) (if_pos ⟨by omega,by omega⟩)]
  by_cases e : d=[]
  ·rw [if_pos e,e]
  ·rw [if_neg e]; rfl
structure En (u B E : Nat) (p : List Trm) : Prop where
 v : Vld p
 d : ∀ t ∈ p,Dv 1 t.2
 b : asum p ≤ (B : Rat)
 e : ∀ t ∈ p,t.1.get u ≤ E
 o : ∀ t ∈ p,∀ x,x < 4 → x ≠ u → t.1.get x=0
theorem ex_of_get {e f : Ex} (h : ∀ x,x < 4 → e.get x=f.get x) : e=f:=Ex.ext' (h 0 (by omega)) (h 1 (by omega)) (h 2 (by omega)) (h 3 (by omega))
theorem nodup_len : ∀ (E : Nat) (l : List Nat),l.Nodup → (∀ x ∈ l,x ≤ E) → l.length ≤ E + 1
 | 0,l,hn,hl=>by
  match l,hn,hl with
  | [],_,_=>simp
  | [x],_,_=>simp
  | x :: y :: r,hn,hl =>
   have h1:=hl x (by simp)
   have h2:=hl y (by simp)
   rw [List.nodup_cons] at hn
   exact absurd (show x ∈ y :: r by rw [show x=y by omega]; simp) hn.1
 | E + 1,l,hn,hl=>by
  by_cases hm : E + 1 ∈ l
  ·have h1:=nodup_len E (l.erase (E + 1)) (hn.erase _) fun x hx=>by
    have h2:=hn.mem_erase_iff.1 hx
    have:=hl x h2.2
    omega
   have h3:=List.length_erase_of_mem hm
   omega
  ·have h1:=nodup_len E l hn fun x hx=>by
    have h2:=hl x hx
    have h3 : x ≠ E + 1:=fun h=>hm (h ▸ hx)
    omega
   omega
theorem En.len {u B E : Nat} {p : List Trm} (h : En u B E p) (hu : u < 4) : p.length ≤ E + 1:=by
 have h1 : (p.map fun t=>(t.1.get u).toNat).Nodup:=by
  rw [List.nodup_iff_pairwise_ne,List.pairwise_map]
  refine List.Pairwise.imp_of_mem ?_ h.v.1
  intro s t hs ht hgt he
  refine absurd (ex_of_get fun x hx=>?_) (Ex.gt_ne hgt)
  by_cases hxu : x=u
  ·subst hxu
   have a1:=Ex.nat_get (h.v.nat s hs) x
   have a2:=Ex.nat_get (h.v.nat t ht) x
   omega
  ·rw [h.o s hs x hx hxu,h.o t ht x hx hxu]
 have h2:=nodup_len E _ h1 fun x hx=>by
  obtain ⟨t,ht,rfl⟩:=List.mem_map.1 hx
  have:=h.e t ht
  omega
 simpa using h2
theorem En.bd {u B E : Nat} {p : List Trm} (h : En u B E p) (hu : u < 4) : Bd ⟨1,B,E,E + 1⟩ p:=by
 refine ⟨h.len hu,fun t ht=>?_,h.d,h.b⟩
 have g : ∀ x,x < 4 → 0 ≤ t.1.get x ∧ t.1.get x ≤ E:=fun x hx=>by
  refine ⟨Ex.nat_get (h.v.nat t ht) x,?_⟩
  by_cases hxu : x=u
  ·subst hxu; exact h.e t ht
  ·rw [h.o t ht x hx hxu]; omega
 have g0:=g 0 (by omega)
 have g1:=g 1 (by omega)
 have g2:=g 2 (by omega)
 have g3:=g 3 (by omega)
 simp only [Ex.get] at g0 g1 g2 g3
 dsimp only
 omega
theorem En.nil (u B E : Nat) : En u B E []:=⟨Vld.nil,fun _ h=>(by cases h),by simp only [asum]; exact Rat.natCast_nonneg,fun _ h=>(by cases h),fun _ h=>(by cases h)⟩
theorem En.mono {u B E B' E' : Nat} {p : List Trm} (h : En u B E p) (hB : B ≤ B') (hE : E ≤ E') : En u B' E' p :=
 ⟨h.v,h.d,Rat.le_trans h.b (Rat.natCast_le_natCast.2 hB),fun t ht=>by have:=h.e t ht; omega,h.o⟩
theorem get_add (e f : Ex) (x : Nat) : (e.add f).get x=e.get x + f.get x:=by rcases x with _ | _ | _ | x <;> rfl
theorem En.mul {u B E B' E' : Nat} {p q : List Trm} (h : En u B E p) (h' : En u B' E' q) (hu : u < 4) : En u (B * B') (E + E') (mulP p q):=by
 have hb:=((h.bd hu).prods (h'.bd hu)).canon
 refine ⟨Vld.mul _ _,hb.d,hb.b,?_,?_⟩
 ·exact canon_ex (P:=fun e=>e.get u ≤ ((E + E' : Nat) : Int)) fun t ht=>by
   obtain ⟨a,ha,b,hb',rfl⟩:=mem_prods ht
   show (a.1.add b.1).get u ≤ _
   rw [get_add]
   have:=h.e a ha
   have:=h'.e b hb'
   omega
 ·exact canon_ex (P:=fun e=>∀ x,x < 4 → x ≠ u → e.get x=0) fun t ht x hx hxu=>by
   obtain ⟨a,ha,b,hb',rfl⟩:=mem_prods ht
   show (a.1.add b.1).get x=0
   rw [get_add,h.o a ha x hx hxu,h'.o b hb' x hx hxu]; rfl
theorem En.neg {u B E : Nat} {p : List Trm} (h : En u B E p) : En u B E (scaleP p (-1)):=by
 have e : scaleP p (-1)=p.map fun t=>(t.1,t.2 * -1):=by unfold scaleP; rw [if_neg (by decide +kernel)]
 refine ⟨h.v.scale _,?_,?_,?_,?_⟩
 ·intro t ht
  rw [e] at ht
  obtain ⟨s,hs,rfl⟩:=List.mem_map.1 ht
  show Dv 1 (s.2 * -1)
  have:=(h.d s hs).neg
  rwa [show s.2 * -1=-s.2 by grind]
 ·have h1 : ∀ l : List Trm,asum (l.map fun t=>(t.1,t.2 * -1))=asum l:=fun l=>by
   induction l with
   | nil=>rfl
   | cons t l ih =>
    simp only [List.map_cons,asum,ih]
    rw [show t.2 * -1=-t.2 by grind,rabs_neg]
  rw [e,h1]; exact h.b
 ·intro t ht
  rw [e] at ht
  obtain ⟨s,hs,rfl⟩:=List.mem_map.1 ht
  exact h.e s hs
 ·intro t ht
  rw [e] at ht
  obtain ⟨s,hs,rfl⟩:=List.mem_map.1 ht
  exact h.o s hs
theorem En.add {u B E B' E' : Nat} {p q : List Trm} (h : En u B E p) (h' : En u B' E' q) (hu : u < 4) : En u (B + B') (max E E') (addP p q):=by
 have hb:=((h.bd hu).append (h'.bd hu)).canon
 refine ⟨Vld.add _ _,fun t ht=>(hb.d t ht).dvd (by show Nat.lcm 1 1 ∣ 1; decide),hb.b,?_,?_⟩
 ·exact canon_ex (P:=fun e=>e.get u ≤ ((max E E' : Nat) : Int)) fun t ht=>by
   rcases List.mem_append.1 ht with ht | ht
   ·have:=h.e t ht; omega
   ·have:=h'.e t ht; omega
 ·exact canon_ex (P:=fun e=>∀ x,x < 4 → x ≠ u → e.get x=0) fun t ht=>by
   rcases List.mem_append.1 ht with ht | ht
   ·exact h.o t ht
   ·exact h'.o t ht
theorem En.sub {u B E B' E' : Nat} {p q : List Trm} (h : En u B E p) (h' : En u B' E' q) (hu : u < 4) : En u (B + B') (max E E') (subP p q):=h.add h'.neg hu
theorem En.one (u : Nat) : En u 1 0 oneP:=⟨by exact vldB_vld.1 (by decide +kernel),fun t ht=>by rw [List.mem_singleton.1 ht]; exact Dv.int 1 1,by decide +kernel,fun t ht=>by
  rw [List.mem_singleton.1 ht]
  rcases u with _ | _ | _ | u <;> simp [Ex.get,e0],fun t ht x _ _=>by
  rw [List.mem_singleton.1 ht]
  rcases x with _ | _ | _ | x <;> rfl⟩
theorem over_en {u B E B' E' : Nat} {s b : List Trm} (hs : En u B E s) (hb : En u B' E' b) (hu : u < 4) (hne : b ≠ []) (k1 : B * B' ≤ 2 ^ 200) (k2 : (E + 1) * (E' + 1) ≤ 900) (k2' : E + E' ≤ 1000) (k3 : B ≤ 2 ^ 200) (k4 : B' < 4294967296) : overO (mulP s b) b=some s:=by
 refine over_exact hne hs.v hb.v (hs.bd hu) (hb.bd hu) ⟨rfl,k1,k2',k2⟩ ⟨rfl,k3,by show E ≤ 1000; omega,Nat.le_trans (by show E + 1 ≤ (E + 1) * (E' + 1); exact Nat.le_mul_of_pos_right _ (by omega)) k2⟩ fun t ht=>?_
 obtain ⟨z,hz⟩:=int_of_dv (hb.d t ht)
 have h1:=Rat.le_trans (asum_mem ht) hb.b
 rw [hz] at h1 ⊢
 have h2:=int_le h1
 show z.natAbs < 4294967296
 omega
end Q
end
section
namespace Q
open Go Go.Proofs.YtopclbeomcggiaaGreat
def rowE (l : List (List Trm)) (at_ j : Nat) : List Trm:=if at_ ≤ j ∧ j < at_ + l.length then l.getD (at_ + l.length - 1 - j) [] else []
theorem sylTo_get (l : List (List Trm)) (at_ N : Nat) (h : at_ + l.length ≤ N) : ∀ k j,k ≤ l.length → j < N → (sylTo l at_ N k).getD j []=if at_ + l.length - k ≤ j ∧ j < at_ + l.length then l.getD (at_ + l.length - 1 - j) [] else []
 | 0,j,_,hj=>by
  rw [sylTo,List.getD_eq_getElem?_getD,List.getElem?_replicate,if_pos hj,if_neg (by omega)]; rfl
 | k + 1,j,hk,hj=>by
  rw [sylTo,getD_set _ _ _ _ _ (by rw [sylTo_len]; omega),sylTo_get l at_ N h k j (by omega) hj]
  by_cases h1 : j=at_ + l.length - 1 - k
  ·rw [if_pos h1,if_pos ⟨by omega,by omega⟩]; congr 1; omega
  ·rw [if_neg h1]
   by_cases h2 : at_ + l.length - k ≤ j ∧ j < at_ + l.length
   ·rw [if_pos h2,if_pos ⟨by omega,h2.2⟩]
   ·rw [if_neg h2,if_neg (by omega)]
theorem sylTo_row {l : List (List Trm)} {at_ N j : Nat} (h : at_ + l.length ≤ N) (hj : j < N) : (sylTo l at_ N l.length).getD j []=rowE l at_ j:=by
 rw [sylTo_get l at_ N h _ j (Nat.le_refl _) hj,rowE,Nat.add_sub_cancel]
def sylF (a b : List (List Trm)) (n i j : Nat) : List Trm:=if n ≤ i then rowE b (i - n) j else rowE a i j
theorem syl_rep {a b : List (List Trm)} {m n : Nat} (ha : a.length=m + 1) (hb : b.length=n + 1) : Rep (m + n) (syl a b) (sylF a b n):=by
 have e : a.length - 1 + (b.length - 1)=m + n:=by omega
 have hsy : syl a b=(List.range (m + n)).map (sylRow a b (m + n)):=by rw [syl,e]
 refine ⟨by rw [hsy]; simp,fun r hr=>?_,fun i j hi hj=>?_⟩
 ·rw [hsy] at hr
  obtain ⟨i,-,rfl⟩:=List.mem_map.1 hr
  unfold sylRow; split <;> exact sylTo_len _ _ _ _
 ·have h1 : (syl a b).getD i []=sylRow a b (m + n) i:=by
   rw [hsy,List.getD_eq_getElem?_getD,List.getElem?_map,List.getElem?_range hi]; rfl
  unfold mget
  rw [h1,sylRow,sylF,show b.length - 1=n by omega]
  by_cases h2 : n ≤ i
  ·rw [if_pos h2,if_pos h2]; exact sylTo_row (by omega) hj
  ·rw [if_neg h2,if_neg h2]; exact sylTo_row (by omega) hj
def stepF (a : List (List Trm)) (am : List Trm) (k : Nat) (F : Nat → Nat → List Trm) (i j : Nat) : List Trm:=if k < i ∧ k < j then subP (mulP am (F i j)) (mulP (F i k) (rowE a k j)) else F i j
def FF (a : List (List Trm)) (am : List Trm) (F : Nat → Nat → List Trm) : Nat → Nat → Nat → List Trm
 | 0=>F
 | k + 1=>stepF a am k (FF a am F k)
theorem powP_en {u α ε : Nat} {p : List Trm} (h : En u α ε p) (hu : u < 4) : ∀ k,En u (α ^ k) (ε * k) (powP p k)
 | 0=>by
  have:=En.one u
  rw [Nat.pow_zero,Nat.mul_zero]
  exact this
 | k + 1=>by
  rw [Nat.pow_succ,Nat.mul_add,Nat.mul_one]
  exact (powP_en h hu k).mul h hu
structure Sy (u α γ ε m n : Nat) (a b : List (List Trm)) (am : List Trm) : Prop where
 u4 : u < 4
 la : a.length=m + 1
 lb : b.length=n + 1
 ld : am=a.getD m []
 ne : am ≠ []
 ea : ∀ i j,En u α 2 (rowE a i j)
 eb : ∀ i j,En u γ ε (rowE b i j)
 em : En u α 2 am
 ag : α ≤ γ
 e2 : 2 ≤ ε
section
variable {u α γ ε m n : Nat} {a b : List (List Trm)} {am : List Trm}
theorem rowE_diag (h : Sy u α γ ε m n a b am) (k : Nat) : rowE a k k=am:=by
 rw [rowE,if_pos ⟨Nat.le_refl _,by have:=h.la; omega⟩,h.ld]; congr 1; have:=h.la; omega
theorem rowE_low {i k : Nat} (h : k < i) : rowE a i k=[]:=by rw [rowE,if_neg (by omega)]
theorem ff_en (h : Sy u α γ ε m n a b am) : ∀ k i j,En u ((2 * α) ^ k * γ) (2 * k + ε) (FF a am (sylF a b n) k i j)
 | 0,i,j=>by
  rw [FF,Nat.pow_zero,Nat.one_mul,Nat.mul_zero,Nat.zero_add,sylF]
  split
  ·exact h.eb _ _
  ·exact (h.ea _ _).mono h.ag h.e2
 | k + 1,i,j=>by
  have ih:=ff_en h k
  rw [FF,stepF]
  have e1 : (2 * α) ^ (k + 1) * γ=α * ((2 * α) ^ k * γ) + (2 * α) ^ k * γ * α:=by rw [Nat.pow_succ]; grind
  split
  ·refine ((h.em.mul (ih i j) h.u4).sub ((ih i k).mul (h.ea k j) h.u4) h.u4).mono (by rw [e1]; exact Nat.le_refl _) (by omega)
  ·refine (ih i j).mono ?_ (by omega)
   by_cases h0 : α=0
   ·-- am would be 0
    exfalso
    have h1:=h.em.b
    obtain ⟨t,ht⟩:=List.exists_mem_of_ne_nil _ h.ne
    have h2:=asum_mem ht
    have h3:=(h.em.v.2 t ht).1
    have h4:=rabs_nonneg t.2
    rw [h0] at h1
    have h5 : rabs t.2=0:=by
     have : ((0 : Nat) : Rat)=0:=rfl
     grind
    unfold rabs at h5
    split at h5 <;> grind
   ·rw [Nat.pow_succ]
    have : (2 * α) ^ k * 1 ≤ (2 * α) ^ k * (2 * α):=Nat.mul_le_mul_left _ (by omega)
    rw [Nat.mul_one] at this
    exact Nat.mul_le_mul_right _ this
theorem ff_rows (h : Sy u α γ ε m n a b am) : ∀ k i j,k ≤ i → i < n → k ≤ j → FF a am (sylF a b n) k i j=mulP (powP am k) (rowE a i j)
 | 0,i,j,_,hi,_=>by
  rw [FF,sylF,if_neg (by omega)]
  refine ev_inj (h.ea i j).v (Vld.mul _ _) fun x=>?_
  rw [ev_mul x (Vld.pow _ _).nat (h.ea i j).v.nat,ev_pow x h.em.v.nat]
  grind
 | k + 1,i,j,hk,hi,hj=>by
  have e1:=ff_rows h k i j (by omega) hi (by omega)
  have e2:=ff_rows h k i k (by omega) hi (Nat.le_refl _)
  rw [FF,stepF,if_pos ⟨by omega,by omega⟩,e1,e2,rowE_low (show k < i by omega)]
  refine ev_inj (Vld.sub _ _) (Vld.mul _ _) fun x=>?_
  rw [ev_sub x (Vld.mul _ _).nat (Vld.mul _ _),ev_mul x h.em.v.nat (Vld.mul _ _).nat,ev_mul x (Vld.mul _ _).nat (h.ea k j).v.nat,ev_mul x (Vld.pow _ _).nat (h.ea i j).v.nat,ev_mul x (Vld.pow _ _).nat (h.ea i j).v.nat,ev_mul x (Vld.pow _ _).nat Vld.nil.nat,ev_pow x h.em.v.nat,ev_pow x h.em.v.nat,ev_nil]
  rw [show ev x am ^ (k + 1)=ev x am ^ k * ev x am from Rat.pow_succ _ _]
  grind
theorem ff_piv (h : Sy u α γ ε m n a b am) {k : Nat} (hk : k < n) : FF a am (sylF a b n) k k k=powP am (k + 1):=by
 rw [ff_rows h k k k (Nat.le_refl _) hk (Nat.le_refl _),rowE_diag h]; rfl
theorem pow_ne (h : Sy u α γ ε m n a b am) : ∀ k,powP am k ≠ []
 | 0=>by show constP 1 ≠ []; decide +kernel
 | k + 1=>fun he=>by
  have h1 : mulP (powP am k) am=[]:=he
  rcases (mulP_nil_iff (Vld.pow _ _) h.em.v).1 h1 with h2 | h2
  ·exact pow_ne h k h2
  ·exact h.ne h2
theorem ff_exact (h : Sy u α γ ε m n a b am) {k i j : Nat} (hk : k < n) (hn : n ≤ 4) (hα : α ≤ 15) (hγ : γ ≤ 225) (hε : ε ≤ 4) (hi : k < i) (hj : k < j) :
  overO (subP (mulP (FF a am (sylF a b n) k k k) (FF a am (sylF a b n) k i j)) (mulP (FF a am (sylF a b n) k i k) (FF a am (sylF a b n) k k j))) (powP am k)=some (FF a am (sylF a b n) (k + 1) i j):=by
 have e1 : FF a am (sylF a b n) (k + 1) i j=subP (mulP am (FF a am (sylF a b n) k i j)) (mulP (FF a am (sylF a b n) k i k) (rowE a k j)):=by rw [FF,stepF,if_pos ⟨hi,hj⟩]
 have v1:=(ff_en h k i j).v
 have v2:=(ff_en h k i k).v
 have v3:=(h.ea k j).v
 have e2 : subP (mulP (FF a am (sylF a b n) k k k) (FF a am (sylF a b n) k i j)) (mulP (FF a am (sylF a b n) k i k) (FF a am (sylF a b n) k k j))=mulP (FF a am (sylF a b n) (k + 1) i j) (powP am k):=by
  rw [ff_piv h hk,ff_rows h k k j (Nat.le_refl _) hk (by omega),e1]
  refine ev_inj (Vld.sub _ _) (Vld.mul _ _) fun x=>?_
  rw [ev_sub x (Vld.mul _ _).nat (Vld.mul _ _),ev_mul x (Vld.pow _ _).nat v1.nat,ev_mul x v2.nat (Vld.mul _ _).nat,ev_mul x (Vld.pow _ _).nat v3.nat,ev_mul x (Vld.sub _ _).nat (Vld.pow _ _).nat,ev_sub x (Vld.mul _ _).nat (Vld.mul _ _),ev_mul x h.em.v.nat v1.nat,ev_mul x v2.nat v3.nat,ev_pow x h.em.v.nat,ev_pow x h.em.v.nat]
  rw [show ev x am ^ (k + 1)=ev x am ^ k * ev x am from Rat.pow_succ _ _]
  grind
 rw [e2]
 have b1 : (2 * α) ^ (k + 1) * γ ≤ 30 ^ 4 * 225:=Nat.mul_le_mul (Nat.le_trans (Nat.pow_le_pow_left (by omega) _) (Nat.pow_le_pow_right (by omega) (by omega))) hγ
 have b2 : α ^ k ≤ 15 ^ 4:=Nat.le_trans (Nat.pow_le_pow_left hα _) (Nat.pow_le_pow_right (by omega) (by omega))
 have b3 : 30 ^ 4 * 225 * 15 ^ 4 ≤ 2 ^ 200:=by decide +kernel
 refine over_en (ff_en h (k + 1) i j) (powP_en h.em h.u4 k) h.u4 (pow_ne h k) (Nat.le_trans (Nat.mul_le_mul b1 b2) b3) (Nat.le_trans (show (2 * (k + 1) + ε + 1) * (2 * k + 1) ≤ 21 * 21 from Nat.mul_le_mul (by omega) (by omega)) (by omega)) (by omega) (Nat.le_trans b1 (by decide +kernel)) (by omega)
end
end Q
end
