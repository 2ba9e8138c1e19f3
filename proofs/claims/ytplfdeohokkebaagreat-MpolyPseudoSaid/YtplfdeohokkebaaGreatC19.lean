/- The reference's integers: plus, minus. The reference's integers: Add, Sub. The reference's integers: Mul, short. -/
import Derived.Test.YtplfdeohokkebaaGreatC18
set_option linter.unusedVariables false
set_option linter.unusedSimpArgs false
section
namespace Go.Proofs.YtplfdeohokkebaaGreat
open Go.RowKit Q
def PlusR (l1 l2 : List Int) (i : Nat) (xs : List Int) (c : Int) : Prop :=
 xs.length = i ∧ Limbs xs ∧ 0 ≤ c ∧ c ≤ 1 ∧ i ≤ max l1.length l2.length + 1 ∧ (i = max l1.length l2.length + 1 → c = 0) ∧ lval xs + B32 ^ i * c = lval (l1.take i) + lval (l2.take i)
theorem PlusR.start (l1 l2 : List Int) : PlusR l1 l2 0 [] 0 := ⟨rfl, Limbs.nil, by omega, by omega, by omega, by omega, by simp [lval]⟩
theorem mod_limb (x : Int) : 0 ≤ x % 4294967296 ∧ x % 4294967296 < B32 := by rw [B32_eq]; omega
theorem PlusR.step {l1 l2 : List Int} {i : Nat} {xs : List Int} {c : Int} (h : PlusR l1 l2 i xs c) (L1 : Limbs l1) (L2 : Limbs l2) (hi : i < l1.length ∨ i < l2.length ∨ 0 < c) :
  PlusR l1 l2 (i + 1) (xs ++ [(c + l1.getD i 0 + l2.getD i 0) % 4294967296]) ((c + l1.getD i 0 + l2.getD i 0) / 4294967296) := by
 obtain ⟨h1, h2, h3, h4, h5, h6, h7⟩ := h
 have a1 := L1.getD i
 have a2 := L2.getD i
 rw [B32_eq] at a1 a2
 have p1 := getD_past l1 i
 have p2 := getD_past l2 i
 have hle : i ≤ max l1.length l2.length := by
  rcases Nat.lt_or_ge (max l1.length l2.length) i with h | h
  ·have := h6 (by omega); omega
  ·exact h
 refine ⟨by simp [h1], h2.append (Limbs.nil.cons (mod_limb _)), by omega, by omega, by omega, fun he => ?_, ?_⟩
 ·have := p1 (by omega); have := p2 (by omega); omega
 ·rw [lval_append, lval_take_succ', lval_take_succ', h1]
  simp only [lval, Int.mul_zero, Int.add_zero]
  have e := Int.mul_ediv_add_emod (c + l1.getD i 0 + l2.getD i 0) 4294967296
  generalize (c + l1.getD i 0 + l2.getD i 0) % 4294967296 = r at *
  generalize (c + l1.getD i 0 + l2.getD i 0) / 4294967296 = q at *
  rw [Int.pow_succ]
  have : B32 ^ i * (c + l1.getD i 0 + l2.getD i 0) = B32 ^ i * (B32 * q + r) := by rw [B32_eq, e]
  generalize B32 ^ i = P at *
  grind
theorem PlusR.done {l1 l2 : List Int} {i : Nat} {xs : List Int} (h : PlusR l1 l2 i xs 0) (h1 : ¬ i < l1.length) (h2 : ¬ i < l2.length) : lval xs = lval l1 + lval l2 ∧ xs.length ≤ max l1.length l2.length + 1 := by
 obtain ⟨e1, _, _, _, e5, _, e7⟩ := h
 rw [List.take_of_length_le (by omega), List.take_of_length_le (by omega)] at e7
 exact ⟨by simpa using e7, by omega⟩
set_option maxHeartbeats 2000000 in
set_option maxRecDepth 100000 in
theorem plus1_any (v1 v2 : Value) (l1 l2 : List Int) (w : World) (h1 : U32s w v1 l1) (h2 : U32s w v2 l2) (b1 : l1.length ≤ 10000000) (b2 : l2.length ≤ 10000000) :
  Calls Tryz.prog 97 #[v1, v2] w (RetU w fun l => lval l = lval l1 + lval l2 ∧ l.length ≤ max l1.length l2.length + 1) := by
 obtain ⟨ao1, cap1, rfl, hc1, L1, m1⟩ := h1
 obtain ⟨ao2, cap2, rfl, hc2, L2, m2⟩ := h2
 go_enter Tryz.func97, Tryz.ntmps97
 go_wp2
 have hown0 := own_lit0 elU w
 have hb0 : Below w.heap.size w (w.alloc (.cells #[] uT)) := (Below.refl _ _).alloc (Nat.le_refl _) _
 change OwnSl elU w.heap.size (w.alloc (.cells #[] uT)) _ _ at hown0
 go_loopw [5, 6, 7] (fun o c i wr => ∃ (k : Nat) (xs : List Int) (q : Int), i = .int .i64 k ∧ c = .int .u64 q ∧ Hid (PlusR l1 l2 k xs q) ∧ Hid (OwnSl elU w.heap.size wr o xs) ∧ Below w.heap.size w wr) (fun _ _ i _ => max l1.length l2.length + 1 - (intOf i).toNat)
 case atStart => exact ⟨0, [], 0, rfl, rfl, Lib.hid (PlusR.start l1 l2), Lib.hid hown0, hb0⟩
 case round =>
  clear hown0 hb0
  obtain ⟨k, xs, q, rfl, rfl, hinv, hown, hb⟩ := hrel
  have q0 := hinv.out.2.2.1
  have q1 := hinv.out.2.2.2.1
  have hkm := hinv.out.2.2.2.2.1
  have hxl := hinv.out.1
  have hlx : xs.length + ([0] : List Int).length ≤ 1000000000 := by simp; omega
  have hstep := hinv.out.step L1 L2
  have hdone := hinv.out.2.2.2.2.2.1
  have p1 := getD_past l1 k
  have p2 := getD_past l2 k
  have a1 := (L1.getD k).1
  have a1' : l1.getD k 0 < 4294967296 := (L1.getD k).2
  have a2 := (L2.getD k).1
  have a2' : l2.getD k 0 < 4294967296 := (L2.getD k).2
  have hc1 : k < l1.length → ∃ b o, Hid (ao1 = some ⟨b, o, none⟩) ∧ wr.cell? ⟨b, o + k, none⟩ = some (.int .u32 (l1.getD k 0)) := fun h => by
   obtain ⟨b, o, e, hc⟩ := m1 (by rw [uc_len]; omega)
   exact ⟨b, o, Lib.hid e, (hc.on hb).ucell k h⟩
  have hc2 : k < l2.length → ∃ b o, Hid (ao2 = some ⟨b, o, none⟩) ∧ wr.cell? ⟨b, o + k, none⟩ = some (.int .u32 (l2.getD k 0)) := fun h => by
   obtain ⟨b, o, e, hc⟩ := m2 (by rw [uc_len]; omega)
   exact ⟨b, o, Lib.hid e, (hc.on hb).ucell k h⟩
  generalize l1.getD k 0 = x at *
  generalize l2.getD k 0 = y at *
  have hmk : k ≤ 10000001 := by omega
  replace hkm := Lib.hid hkm
  replace hdone := Lib.hid hdone
  replace hxl := Lib.hid hxl
  have hbe := hown.out.base_le
  have happ : ∀ z : Int, 0 ≤ z → OwnSl elU w.heap.size (wr.alloc (.cells #[.int .u32 (z % 4294967296)] uT)) u5 xs ∧ IsSl elU (wr.alloc (.cells #[.int .u32 (z % 4294967296)] uT)) (.slice (some ⟨wr.heap.size, 0, none⟩) 1 1) [z % 4294967296] ∧ w.heap.size ≤ (wr.alloc (.cells #[.int .u32 (z % 4294967296)] uT)).heap.size ∧
    ∀ w5, Lr u5.ownBlock uT (wr.alloc (.cells #[.int .u32 (z % 4294967296)] uT)) w5 → Below w.heap.size w w5 := fun z _ => by
   have hba : Below wr.heap.size wr (wr.alloc (.cells #[.int .u32 (z % 4294967296)] uT)) := (Below.refl _ _).alloc (Nat.le_refl _) _
   have hbw := hb.trans (hba.mono hb.size)
   exact ⟨hown.out.on hba, isSl_u.2 (U32s.newOne wr (mod_limb z)), hbw.size, fun w5 hl => hbw.trans (hl.belowAt hbw.size (fun k hk => (hbe k hk).1))⟩
  by_cases h1 : k < l1.length
  ·obtain ⟨b1', o1, E1, hcell1⟩ := hc1 h1
   replace hstep := Lib.hid (hstep (.inl h1))
   clear p1
   by_cases h2 : k < l2.length
   ·obtain ⟨b2', o2, E2, hcell2⟩ := hc2 h2
    clear p2 hc1 hc2
    obtain ⟨s1, s2, s3, s4⟩ := happ (q + x + y) (by omega)
    clear happ
    go_wp2_with (first
     | (refine wpList_index_at rfl (.tmp 30) (.tmp 31) _ rfl _ Tryz.underlying30 _ _ _ infoU32 _ _ _ rfl _ _ rfl k rfl h1 b1' o1 E1.out ?_; rw [Nat.mul_one])
     | (refine wpList_index_at rfl (.tmp 41) (.tmp 42) _ rfl _ Tryz.underlying30 _ _ _ infoU32 _ _ _ rfl _ _ rfl k rfl h2 b2' o2 E2.out ?_; rw [Nat.mul_one])
     | (at_builtin; refine wpList_app rfl _ _ 30 rfl Tryz.underlying30 info_elU rfl rfl s1 s2 hlx s3 ?_; intro v5 w5 hown5 hl5 hv5; replace s4 := s4 w5 hl5))
    go_roundw
    case rel => exact ⟨k + 1, _, _, by go_num, rfl, hstep, Lib.hid hown5, s4⟩
    case measure => have := hkm.out; simp [intOf]; omega
   ·obtain rfl := p2 h2
    clear p2 hc1 hc2
    obtain ⟨s1, s2, s3, s4⟩ := happ (q + x) (by omega)
    rw [Int.add_zero] at hstep
    clear happ
    go_wp2_with (first
     | (refine wpList_index_at rfl (.tmp 30) (.tmp 31) _ rfl _ Tryz.underlying30 _ _ _ infoU32 _ _ _ rfl _ _ rfl k rfl h1 b1' o1 E1.out ?_; rw [Nat.mul_one])
     | (at_builtin; refine wpList_app rfl _ _ 30 rfl Tryz.underlying30 info_elU rfl rfl s1 s2 hlx s3 ?_; intro v5 w5 hown5 hl5 hv5; replace s4 := s4 w5 hl5))
    go_roundw
    case rel => exact ⟨k + 1, _, _, by go_num, rfl, hstep, Lib.hid hown5, s4⟩
    case measure => have := hkm.out; simp [intOf]; omega
  ·obtain rfl := p1 h1
   clear p1 hc1
   by_cases h2 : k < l2.length
   ·obtain ⟨b2', o2, E2, hcell2⟩ := hc2 h2
    replace hstep := Lib.hid (hstep (.inr (.inl h2)))
    rw [Int.add_zero] at hstep
    clear p2 hc2
    obtain ⟨s1, s2, s3, s4⟩ := happ (q + y) (by omega)
    clear happ
    go_wp2_with (first
     | (refine wpList_index_at rfl (.tmp 41) (.tmp 42) _ rfl _ Tryz.underlying30 _ _ _ infoU32 _ _ _ rfl _ _ rfl k rfl h2 b2' o2 E2.out ?_; rw [Nat.mul_one])
     | (at_builtin; refine wpList_app rfl _ _ 30 rfl Tryz.underlying30 info_elU rfl rfl s1 s2 hlx s3 ?_; intro v5 w5 hown5 hl5 hv5; replace s4 := s4 w5 hl5))
    go_roundw
    case rel => exact ⟨k + 1, _, _, by go_num, rfl, hstep, Lib.hid hown5, s4⟩
    case measure => have := hkm.out; simp [intOf]; omega
   ·obtain rfl := p2 h2
    clear p2 hc2
    by_cases h3 : 0 < q
    ·replace hstep := Lib.hid (hstep (.inr (.inr h3)))
     rw [Int.add_zero, Int.add_zero] at hstep
     obtain ⟨s1, s2, s3, s4⟩ := happ q q0
     rw [Int.emod_eq_of_lt q0 (show q < 4294967296 by omega)] at s1 s2 s3 s4 hstep
     have hk1 : k ≤ max l1.length l2.length := by
      have := hkm.out
      rcases Nat.lt_or_ge (max l1.length l2.length) k with h | h
      ·have := hdone.out (by omega); omega
      ·exact h
     replace hk1 := Lib.hid hk1
     clear happ
     go_wp2_with (first
      | (at_builtin; refine wpList_app rfl _ _ 30 rfl Tryz.underlying30 info_elU rfl rfl s1 s2 hlx s3 ?_; intro v5 w5 hown5 hl5 hv5; replace s4 := s4 w5 hl5))
     go_roundw
     case rel => exact ⟨k + 1, _, _, by go_num, rfl, hstep, Lib.hid hown5, s4⟩
     case measure => have := hk1.out; simp [intOf]; omega
    ·obtain rfl : q = 0 := by omega
     have hd := Lib.hid (hinv.out.done h1 h2)
     clear hstep happ
     go_wp2
     go_ret
     exact ⟨_, xs, rfl, isSl_u.1 hown.out.isSl, hd.out, hb⟩
def MinusR (l1 l2 : List Int) (i : Nat) (xs : List Int) (c : Int) : Prop :=
 xs.length = i ∧ Limbs xs ∧ 0 ≤ c ∧ c ≤ 1 ∧ i ≤ l1.length ∧ lval xs + lval (l2.take i) = lval (l1.take i) + B32 ^ i * c
theorem MinusR.start (l1 l2 : List Int) : MinusR l1 l2 0 [] 0 := ⟨rfl, Limbs.nil, by omega, by omega, by omega, by simp [lval]⟩
theorem MinusR.step {l1 l2 : List Int} {i : Nat} {xs : List Int} {c : Int} (h : MinusR l1 l2 i xs c) (L1 : Limbs l1) (L2 : Limbs l2) (hi : i < l1.length) :
  (l1.getD i 0 - c - l2.getD i 0 < 0 → MinusR l1 l2 (i + 1) (xs ++ [l1.getD i 0 - c - l2.getD i 0 + 4294967296]) 1) ∧ (¬ l1.getD i 0 - c - l2.getD i 0 < 0 → MinusR l1 l2 (i + 1) (xs ++ [l1.getD i 0 - c - l2.getD i 0]) 0) := by
 obtain ⟨h1, h2, h3, h4, h5, h7⟩ := h
 have a1 := L1.getD i
 have a2 := L2.getD i
 rw [B32_eq] at a1 a2
 constructor
 ·intro hd
  refine ⟨by simp [h1], h2.append (Limbs.nil.cons (by rw [B32_eq]; omega)), by omega, by omega, by omega, ?_⟩
  rw [lval_append, lval_take_succ', lval_take_succ', h1, Int.pow_succ]
  simp only [lval, Int.mul_zero, Int.add_zero]
  rw [← B32_eq]
  generalize B32 ^ i = P at *
  grind
 ·intro hd
  refine ⟨by simp [h1], h2.append (Limbs.nil.cons (by rw [B32_eq]; omega)), by omega, by omega, by omega, ?_⟩
  rw [lval_append, lval_take_succ', lval_take_succ', h1, Int.pow_succ]
  simp only [lval, Int.mul_zero, Int.add_zero]
  generalize B32 ^ i = P at *
  grind
theorem MinusR.done {l1 l2 : List Int} {xs : List Int} {c : Int} (h : MinusR l1 l2 l1.length xs c) (h2 : l2.length ≤ l1.length) (hle : lval l2 ≤ lval l1) : lval xs = lval l1 - lval l2 ∧ xs.length = l1.length := by
 obtain ⟨e1, e2, e3, e4, e5, e7⟩ := h
 rw [List.take_of_length_le (by omega), List.take_of_length_le (by omega)] at e7
 have := lval_lt e2
 rw [e1] at this
 have hc : c = 0 ∨ c = 1 := by omega
 rcases hc with rfl | rfl
 ·exact ⟨by omega, e1⟩
 ·rw [Int.mul_one] at e7; omega
set_option maxHeartbeats 2000000 in
set_option maxRecDepth 100000 in
theorem minus1_any (v1 v2 : Value) (l1 l2 : List Int) (w : World) (h1 : U32s w v1 l1) (h2 : U32s w v2 l2) (b1 : l1.length ≤ 10000000) (hlen : l2.length ≤ l1.length) (hle : lval l2 ≤ lval l1) :
  Calls Tryz.prog 99 #[v1, v2] w (RetU w fun l => lval l = lval l1 - lval l2 ∧ l.length = l1.length) := by
 obtain ⟨ao1, cap1, rfl, hc1, L1, m1⟩ := h1
 obtain ⟨ao2, cap2, rfl, hc2, L2, m2⟩ := h2
 go_enter Tryz.func99, Tryz.ntmps99
 go_wp2
 have hown0 := own_lit0 elU w
 have hb0 : Below w.heap.size w (w.alloc (.cells #[] uT)) := (Below.refl _ _).alloc (Nat.le_refl _) _
 change OwnSl elU w.heap.size (w.alloc (.cells #[] uT)) _ _ at hown0
 go_loopw [5, 6, 7] (fun o c i wr => ∃ (k : Nat) (xs : List Int) (q : Int), i = .int .i64 k ∧ c = .int .i64 q ∧ Hid (MinusR l1 l2 k xs q) ∧ Hid (OwnSl elU w.heap.size wr o xs) ∧ Below w.heap.size w wr) (fun _ _ i _ => l1.length - (intOf i).toNat)
 case atStart => exact ⟨0, [], 0, rfl, rfl, Lib.hid (MinusR.start l1 l2), Lib.hid hown0, hb0⟩
 case round =>
  clear hown0 hb0
  obtain ⟨k, xs, q, rfl, rfl, hinv, hown, hb⟩ := hrel
  have q0 := hinv.out.2.2.1
  have q1 := hinv.out.2.2.2.1
  have hkm := hinv.out.2.2.2.2.1
  have hlx : xs.length + ([0] : List Int).length ≤ 1000000000 := by have := hinv.out.1; simp; omega
  by_cases h1 : k < l1.length
  ·obtain ⟨st1, st2⟩ := hinv.out.step L1 L2 h1
   have p2 := getD_past l2 k
   have a1 := (L1.getD k).1
   have a1' : l1.getD k 0 < 4294967296 := (L1.getD k).2
   have a2 := (L2.getD k).1
   have a2' : l2.getD k 0 < 4294967296 := (L2.getD k).2
   obtain ⟨b1', o1, e1, hcl1⟩ := m1 (by rw [uc_len]; omega)
   have E1 := Lib.hid e1
   have hcell1 := (hcl1.on hb).ucell k h1
   have hc2 : k < l2.length → ∃ b o, Hid (ao2 = some ⟨b, o, none⟩) ∧ wr.cell? ⟨b, o + k, none⟩ = some (.int .u32 (l2.getD k 0)) := fun h => by
    obtain ⟨b, o, e, hc⟩ := m2 (by rw [uc_len]; omega)
    exact ⟨b, o, Lib.hid e, (hc.on hb).ucell k h⟩
   generalize l1.getD k 0 = x at *
   generalize l2.getD k 0 = y at *
   have hbe := hown.out.base_le
   have happ : ∀ z : Int, 0 ≤ z → z < 4294967296 → OwnSl elU w.heap.size (wr.alloc (.cells #[.int .u32 z] uT)) u5 xs ∧ IsSl elU (wr.alloc (.cells #[.int .u32 z] uT)) (.slice (some ⟨wr.heap.size, 0, none⟩) 1 1) [z] ∧ w.heap.size ≤ (wr.alloc (.cells #[.int .u32 z] uT)).heap.size ∧
     ∀ w5, Lr u5.ownBlock uT (wr.alloc (.cells #[.int .u32 z] uT)) w5 → Below w.heap.size w w5 := fun z z0 z1 => by
    have hba : Below wr.heap.size wr (wr.alloc (.cells #[.int .u32 z] uT)) := (Below.refl _ _).alloc (Nat.le_refl _) _
    have hbw := hb.trans (hba.mono hb.size)
    exact ⟨hown.out.on hba, isSl_u.2 (U32s.newOne wr (by rw [B32_eq]; exact ⟨z0, z1⟩)), hbw.size, fun w5 hl => hbw.trans (hl.belowAt hbw.size (fun k hk => (hbe k hk).1))⟩
   clear e1 hcl1 hown
   have hxq1 : -9223372036854775808 ≤ x - q ∧ x - q ≤ 9223372036854775807 := by omega
   by_cases h2 : k < l2.length
   ·obtain ⟨b2', o2, E2, hcell2⟩ := hc2 h2
    clear p2 hc2
    by_cases hd : x - q - y < 0
    ·replace st1 := Lib.hid (st1 hd)
     obtain ⟨s1, s2, s3, s4⟩ := happ (x - q - y + 4294967296) (by omega) (by omega)
     clear happ st2
     go_wp2_with (first
      | (refine wpList_index_at rfl (.tmp 16) (.tmp 17) _ rfl _ Tryz.underlying30 _ _ _ infoU32 _ _ _ rfl _ _ rfl k rfl h1 b1' o1 E1.out ?_; rw [Nat.mul_one])
      | (refine wpList_index_at rfl (.tmp 28) (.tmp 29) _ rfl _ Tryz.underlying30 _ _ _ infoU32 _ _ _ rfl _ _ rfl k rfl h2 b2' o2 E2.out ?_; rw [Nat.mul_one])
      | (at_builtin; refine wpList_app rfl _ _ 30 rfl Tryz.underlying30 info_elU rfl rfl s1 s2 hlx s3 ?_; intro v5 w5 hown5 hl5 hv5; replace s4 := s4 w5 hl5))
     go_roundw
     case rel => exact ⟨k + 1, _, _, by go_num, rfl, st1, Lib.hid hown5, s4⟩
     case measure => simp [intOf]; omega
    ·replace st2 := Lib.hid (st2 hd)
     obtain ⟨s1, s2, s3, s4⟩ := happ (x - q - y) (by omega) (by omega)
     clear happ st1
     go_wp2_with (first
      | (refine wpList_index_at rfl (.tmp 16) (.tmp 17) _ rfl _ Tryz.underlying30 _ _ _ infoU32 _ _ _ rfl _ _ rfl k rfl h1 b1' o1 E1.out ?_; rw [Nat.mul_one])
      | (refine wpList_index_at rfl (.tmp 28) (.tmp 29) _ rfl _ Tryz.underlying30 _ _ _ infoU32 _ _ _ rfl _ _ rfl k rfl h2 b2' o2 E2.out ?_; rw [Nat.mul_one])
      | (at_builtin; refine wpList_app rfl _ _ 30 rfl Tryz.underlying30 info_elU rfl rfl s1 s2 hlx s3 ?_; intro v5 w5 hown5 hl5 hv5; replace s4 := s4 w5 hl5))
     go_roundw
     case rel => exact ⟨k + 1, _, _, by go_num, rfl, st2, Lib.hid hown5, s4⟩
     case measure => simp [intOf]; omega
   ·obtain rfl := p2 h2
    clear p2 hc2
    rw [Int.sub_zero] at st1 st2
    by_cases hd : x - q < 0
    ·replace st1 := Lib.hid (st1 hd)
     obtain ⟨s1, s2, s3, s4⟩ := happ (x - q + 4294967296) (by omega) (by omega)
     clear happ st2
     go_wp2_with (first
      | (refine wpList_index_at rfl (.tmp 16) (.tmp 17) _ rfl _ Tryz.underlying30 _ _ _ infoU32 _ _ _ rfl _ _ rfl k rfl h1 b1' o1 E1.out ?_; rw [Nat.mul_one])
      | (at_builtin; refine wpList_app rfl _ _ 30 rfl Tryz.underlying30 info_elU rfl rfl s1 s2 hlx s3 ?_; intro v5 w5 hown5 hl5 hv5; replace s4 := s4 w5 hl5))
     go_roundw
     case rel => exact ⟨k + 1, _, _, by go_num, rfl, st1, Lib.hid hown5, s4⟩
     case measure => simp [intOf]; omega
    ·replace st2 := Lib.hid (st2 hd)
     obtain ⟨s1, s2, s3, s4⟩ := happ (x - q) (by omega) (by omega)
     clear happ st1
     go_wp2_with (first
      | (refine wpList_index_at rfl (.tmp 16) (.tmp 17) _ rfl _ Tryz.underlying30 _ _ _ infoU32 _ _ _ rfl _ _ rfl k rfl h1 b1' o1 E1.out ?_; rw [Nat.mul_one])
      | (at_builtin; refine wpList_app rfl _ _ 30 rfl Tryz.underlying30 info_elU rfl rfl s1 s2 hlx s3 ?_; intro v5 w5 hown5 hl5 hv5; replace s4 := s4 w5 hl5))
     go_roundw
     case rel => exact ⟨k + 1, _, _, by go_num, rfl, st2, Lib.hid hown5, s4⟩
     case measure => simp [intOf]; omega
  ·obtain rfl : k = l1.length := by omega
   have hd := Lib.hid (hinv.out.done hlen hle)
   go_wp2
   go_ret
   exact ⟨_, xs, rfl, isSl_u.1 hown.out.isSl, hd.out, hb⟩
end Go.Proofs.YtplfdeohokkebaaGreat
end
section
namespace Q
open Go Go.RowKit Go.Proofs.YtplfdeohokkebaaGreat
def FactL.lim {g : Option Nat} {T : TypeId} (hT : uT ≠ T) (z : Int) (n : Nat) : FactL (Lr g T) := FactL.of (fun v w => ∃ l, U32s w v l ∧ lval l = z ∧ l.length ≤ n) (fun _ _ _ hb ⟨l, h, e⟩ => ⟨l, h.lr hb hT, e⟩)
end Q
namespace Go.Proofs.YtplfdeohokkebaaGreat
open Go.RowKit Q
theorem made1_p {w : World} {v : Value} {z : Int} {n : Nat} (h : ∃ l, U32s w v l ∧ lval l = z ∧ l.length ≤ n) (hn : n ≤ 100000000) (neg : Bool) : Calls Tryz.prog 84 #[v, .bool neg] w (RetI w (sgn neg z)) := by
 obtain ⟨l, hu, rfl, hl⟩ := h
 exact made1_any neg v l w hu (by omega)
set_option maxHeartbeats 2000000 in
set_option maxRecDepth 100000 in
theorem add1_any (n1 n2 : Bool) (m1 m2 : Value) (z1 z2 : Int) (w : World) (h1 : IsInt w n1 m1 z1) (h2 : IsInt w n2 m2 z2) (c1 : nbits z1.natAbs ≤ CS) (c2 : nbits z2.natAbs ≤ CS) :
  Calls Tryz.prog 68 #[.agg #[.bool n1, m1], .agg #[.bool n2, m2]] w (RetI w (z1 + z2)) := by
 obtain ⟨l1, ao1, cap1, rfl, hc1, b1, u1, L1, mm1, nn1, hp1, e1⟩ := h1.openS c1
 obtain ⟨l2, ao2, cap2, rfl, hc2, b2, u2, L2, mm2, nn2, hp2, e2⟩ := h2.openS c2
 clear hc1 hc2 mm1 mm2 h1 h2 c1 c2 hp1 hp2
 by_cases hn : n1 = n2
 ·subst hn
  have e : z1 + z2 = sgn n1 (lval l1 + lval l2) := by rw [e1, e2]; cases n1 <;> simp [sgn] <;> omega
  rw [e]
  clear e e1 e2
  have hnb : (n1 == n1) = true := by simp
  go_enter Tryz.func68, Tryz.ntmps68
  go_upto_region 1 with (fail)
  refine abs3 fun W hb0 B1 B2 B3 hsz => ?_
  have x1 := B1.at1 0 _ rfl
  have x2 := B2.at1 0 _ rfl
  go_upto_region 2 with (fail)
  refine wp_region_L mixed (none) (0) (Okr.none) [.eq (.pointer (some ⟨w.heap.size, 1, none⟩)), .eq (.slice ao1 l1.length cap1), .eq (.pointer (some ⟨w.heap.size + 1, 1, none⟩)), .eq (.slice ao2 l2.length cap2), .lim (by decide) (lval l1 + lval l2) 1000000, .eq (.pointer (some ⟨w.heap.size, 0, none⟩)), .eq (.bool n1), .int (by decide) ((sgn n1 (lval l1 + lval l2)))] [10, 11, 12, 13, 14, 15, 16, 17] rfl rfl rfl rfl ⟨?_, ?_, ?_, ?_, ?_, ?_, ?_, ?_, trivial⟩ ?_
  ·intro A w1 hA hL hS he
   have h2 : A.eval (.tmp 2) = .pointer (some ⟨w.heap.size, 0, none⟩) := hA 2 rfl
   refine goOn_plain rfl (stepG_pure rfl rfl ?_)
   generalize A.eval = ev at *
   go_simp
  ·intro A w1 hA hL hS he
   have hb := hL.below
   have h10 : A.eval (.tmp 10) = _ := he.1 rfl
   have c0 := ((B1).on hb).at1 1 _ rfl
   refine goOn_plain rfl (stepG_pure rfl rfl ?_)
   generalize A.eval = ev at *
   go_simp
  ·intro A w1 hA hL hS he
   have h3 : A.eval (.tmp 3) = .pointer (some ⟨w.heap.size + 1, 0, none⟩) := hA 3 rfl
   refine goOn_plain rfl (stepG_pure rfl rfl ?_)
   generalize A.eval = ev at *
   go_simp
  ·intro A w1 hA hL hS he
   have hb := hL.below
   have h12 : A.eval (.tmp 12) = _ := he.1 rfl
   have c0 := ((B2).on hb).at1 1 _ rfl
   refine goOn_plain rfl (stepG_pure rfl rfl ?_)
   generalize A.eval = ev at *
   go_simp
  ·intro A w1 hA hL hS he
   have hb := hS rfl
   have h11 : A.eval (.tmp 11) = _ := he.1 rfl
   have h13 : A.eval (.tmp 13) = _ := he.2.1 rfl
   have hf0 : A.eval (.func 97) = .func (.func 97) #[] #[] := rfl
   refine goOn_plain rfl ?_
   refine stepG_call (f := 97) (args := #[.slice ao1 l1.length cap1, .slice ao2 l2.length cap2]) rfl rfl ?_ ?_
   ·generalize A.eval = ev at *
    go_simp
   ·refine (plus1_any _ _ l1 l2 _ ((u1.on hb0).on hb) ((u2.on hb0).on hb) (by omega) (by omega)).mono ?_
    rintro e w' ⟨v, l, rfl, hu, hp, hb'⟩
    exact ⟨_, rfl, hb', l, hu, hp.1, by omega⟩
  ·intro A w1 hA hL hS he
   have h2 : A.eval (.tmp 2) = .pointer (some ⟨w.heap.size, 0, none⟩) := hA 2 rfl
   refine goOn_plain rfl (stepG_pure rfl rfl ?_)
   generalize A.eval = ev at *
   go_simp
  ·intro A w1 hA hL hS he
   have hb := hL.below
   have h15 : A.eval (.tmp 15) = _ := he.1 rfl
   have c0 := ((B1).on hb).at1 0 _ rfl
   refine goOn_plain rfl (stepG_pure rfl rfl ?_)
   generalize A.eval = ev at *
   go_simp
  ·intro A w1 hA hL hS he
   have hb := hS rfl
   have f14 : ((.lim (by decide) (lval l1 + lval l2) 1000000 : FactL (Lr (none) (0)))).p (A.eval (.tmp 14)) w1 := he.1 rfl
   obtain ⟨v14, h14⟩ : ∃ v, A.eval (.tmp 14) = v := ⟨_, rfl⟩
   rw [h14] at f14
   have h16 : A.eval (.tmp 16) = _ := he.2.1 rfl
   have hf0 : A.eval (.func 84) = .func (.func 84) #[] #[] := rfl
   refine goOn_plain rfl ?_
   refine stepG_call (f := 84) (args := #[v14, .bool n1]) rfl rfl ?_ ?_
   ·generalize A.eval = ev at *
    go_simp
   ·refine (made1_p f14 (by omega) n1).mono ?_
    rintro e w' ⟨neg, m, rfl, hi, hb'⟩
    exact ⟨_, rfl, hb', neg, m, rfl, hi⟩
  ·intro W2 hL2
   have hb2 := hL2.below
   simp only [TailL, FactL.eq, FactL.ret, FactL.int, FactL.lim, FactL.of, List.length_cons, List.length_nil, List.drop_succ_cons, List.drop_zero]
   rintro _ - _ ⟨n7, m7, rfl, i7⟩
   go_frame
   have B3' := B3.on hb2
   go_wp2_with (refine wpList_store_blk rfl _ (.tmp 4) (.tmp 17) rfl _ _ _ _ rfl rfl B3' rfl sizeInt i7.ones ?_; intro w3 R gr)
   exact ret_blk rfl rfl rfl R Tryz.underlying32 rfl sizeInt (int_end hb0 hb2 (by omega) B3' i7 gr)
 ·have hnb : (n1 == n2) = false := by simpa using hn
  have HL1 := fun W (hb : Below w.heap.size w W) => less_any _ _ l1 l2 W (u1.on hb) (u2.on hb) (by omega) (by omega) nn1 nn2
  go_enter Tryz.func68, Tryz.ntmps68
  go_upto_region 1 with (fail)
  refine abs3 fun W hb0 B1 B2 B3 hsz => ?_
  have x1 := B1.at1 0 _ rfl
  have x2 := B2.at1 0 _ rfl
  have x3 := B1.at1 1 _ rfl
  have x4 := B2.at1 1 _ rfl
  go_upto_region 3 with (fail)
  by_cases hlt : lval l1 < lval l2
  ·simp only [hlt, decide_true] at HL1
   have e : z1 + z2 = sgn n2 (lval l2 - lval l1) := by rw [e1, e2]; cases n1 <;> cases n2 <;> simp [sgn] at * <;> omega
   replace e := Lib.hid e
   clear e1 e2
   have hlen := len_le_of_val L2 L1 nn1 (by omega)
   go_upto_region 4 with (go_at_call 98; refine (HL1 W hb0).mono ?_; rintro en w1 ⟨rfl, hb1⟩)
   have hb01 := hb0.trans (hb1.mono hb0.size)
   replace B1 := B1.on hb1
   replace B2 := B2.on hb1
   replace B3 := B3.on hb1
   refine wp_region_L mixed (none) (0) (Okr.none) [.eq (.pointer (some ⟨w.heap.size + 1, 1, none⟩)), .eq (.slice ao2 l2.length cap2), .eq (.pointer (some ⟨w.heap.size, 1, none⟩)), .eq (.slice ao1 l1.length cap1), .lim (by decide) (lval l2 - lval l1) 1000000, .eq (.pointer (some ⟨w.heap.size + 1, 0, none⟩)), .eq (.bool n2), .int (by decide) ((sgn n2 (lval l2 - lval l1)))] [23, 24, 25, 26, 27, 28, 29, 30] rfl rfl rfl rfl ⟨?_, ?_, ?_, ?_, ?_, ?_, ?_, ?_, trivial⟩ ?_
   ·intro A w1 hA hL hS he
    have h3 : A.eval (.tmp 3) = .pointer (some ⟨w.heap.size + 1, 0, none⟩) := hA 3 rfl
    refine goOn_plain rfl (stepG_pure rfl rfl ?_)
    generalize A.eval = ev at *
    go_simp
   ·intro A w1 hA hL hS he
    have hb := hL.below
    have h23 : A.eval (.tmp 23) = _ := he.1 rfl
    have c0 := ((B2).on hb).at1 1 _ rfl
    refine goOn_plain rfl (stepG_pure rfl rfl ?_)
    generalize A.eval = ev at *
    go_simp
   ·intro A w1 hA hL hS he
    have h2 : A.eval (.tmp 2) = .pointer (some ⟨w.heap.size, 0, none⟩) := hA 2 rfl
    refine goOn_plain rfl (stepG_pure rfl rfl ?_)
    generalize A.eval = ev at *
    go_simp
   ·intro A w1 hA hL hS he
    have hb := hL.below
    have h25 : A.eval (.tmp 25) = _ := he.1 rfl
    have c0 := ((B1).on hb).at1 1 _ rfl
    refine goOn_plain rfl (stepG_pure rfl rfl ?_)
    generalize A.eval = ev at *
    go_simp
   ·intro A w1 hA hL hS he
    have hb := hS rfl
    have h24 : A.eval (.tmp 24) = _ := he.1 rfl
    have h26 : A.eval (.tmp 26) = _ := he.2.1 rfl
    have hf0 : A.eval (.func 99) = .func (.func 99) #[] #[] := rfl
    refine goOn_plain rfl ?_
    refine stepG_call (f := 99) (args := #[.slice ao2 l2.length cap2, .slice ao1 l1.length cap1]) rfl rfl ?_ ?_
    ·generalize A.eval = ev at *
     go_simp
    ·refine (minus1_any _ _ l2 l1 _ ((u2.on hb01).on hb) ((u1.on hb01).on hb) (by omega) hlen (by omega)).mono ?_
     rintro e w' ⟨v, l, rfl, hu, hp, hb'⟩
     exact ⟨_, rfl, hb', l, hu, hp.1, by omega⟩
   ·intro A w1 hA hL hS he
    have h3 : A.eval (.tmp 3) = .pointer (some ⟨w.heap.size + 1, 0, none⟩) := hA 3 rfl
    refine goOn_plain rfl (stepG_pure rfl rfl ?_)
    generalize A.eval = ev at *
    go_simp
   ·intro A w1 hA hL hS he
    have hb := hL.below
    have h28 : A.eval (.tmp 28) = _ := he.1 rfl
    have c0 := ((B2).on hb).at1 0 _ rfl
    refine goOn_plain rfl (stepG_pure rfl rfl ?_)
    generalize A.eval = ev at *
    go_simp
   ·intro A w1 hA hL hS he
    have hb := hS rfl
    have f27 : ((.lim (by decide) (lval l2 - lval l1) 1000000 : FactL (Lr (none) (0)))).p (A.eval (.tmp 27)) w1 := he.1 rfl
    obtain ⟨v27, h27⟩ : ∃ v, A.eval (.tmp 27) = v := ⟨_, rfl⟩
    rw [h27] at f27
    have h29 : A.eval (.tmp 29) = _ := he.2.1 rfl
    have hf0 : A.eval (.func 84) = .func (.func 84) #[] #[] := rfl
    refine goOn_plain rfl ?_
    refine stepG_call (f := 84) (args := #[v27, .bool n2]) rfl rfl ?_ ?_
    ·generalize A.eval = ev at *
     go_simp
    ·refine (made1_p f27 (by omega) n2).mono ?_
     rintro e w' ⟨neg, m, rfl, hi, hb'⟩
     exact ⟨_, rfl, hb', neg, m, rfl, hi⟩
   ·intro W2 hL2
    have hb2 := hL2.below
    simp only [TailL, FactL.eq, FactL.ret, FactL.int, FactL.lim, FactL.of, List.length_cons, List.length_nil, List.drop_succ_cons, List.drop_zero]
    rintro _ - _ ⟨n7, m7, rfl, i7⟩
    go_frame
    have B3' := B3.on hb2
    go_wp2_with (refine wpList_store_blk rfl _ (.tmp 4) (.tmp 30) rfl _ _ _ _ rfl rfl B3' rfl sizeInt i7.ones ?_; intro w3 R gr)
    exact ret_blk rfl rfl rfl R Tryz.underlying32 rfl sizeInt (by rw [e.out]; exact int_end hb01 hb2 (by omega) B3' i7 gr)
  ·simp only [hlt, decide_false] at HL1
   have e : z1 + z2 = sgn n1 (lval l1 - lval l2) := by rw [e1, e2]; cases n1 <;> cases n2 <;> simp [sgn] at * <;> omega
   replace e := Lib.hid e
   clear e1 e2
   have hlen := len_le_of_val L1 L2 nn2 (by omega)
   go_upto_region 5 with (go_at_call 98; refine (HL1 W hb0).mono ?_; rintro en w1 ⟨rfl, hb1⟩)
   have hb01 := hb0.trans (hb1.mono hb0.size)
   replace B1 := B1.on hb1
   replace B2 := B2.on hb1
   replace B3 := B3.on hb1
   refine wp_region_L mixed (none) (0) (Okr.none) [.eq (.pointer (some ⟨w.heap.size, 1, none⟩)), .eq (.slice ao1 l1.length cap1), .eq (.pointer (some ⟨w.heap.size + 1, 1, none⟩)), .eq (.slice ao2 l2.length cap2), .lim (by decide) (lval l1 - lval l2) 1000000, .eq (.pointer (some ⟨w.heap.size, 0, none⟩)), .eq (.bool n1), .int (by decide) ((sgn n1 (lval l1 - lval l2)))] [31, 32, 33, 34, 35, 36, 37, 38] rfl rfl rfl rfl ⟨?_, ?_, ?_, ?_, ?_, ?_, ?_, ?_, trivial⟩ ?_
   ·intro A w1 hA hL hS he
    have h2 : A.eval (.tmp 2) = .pointer (some ⟨w.heap.size, 0, none⟩) := hA 2 rfl
    refine goOn_plain rfl (stepG_pure rfl rfl ?_)
    generalize A.eval = ev at *
    go_simp
   ·intro A w1 hA hL hS he
    have hb := hL.below
    have h31 : A.eval (.tmp 31) = _ := he.1 rfl
    have c0 := ((B1).on hb).at1 1 _ rfl
    refine goOn_plain rfl (stepG_pure rfl rfl ?_)
    generalize A.eval = ev at *
    go_simp
   ·intro A w1 hA hL hS he
    have h3 : A.eval (.tmp 3) = .pointer (some ⟨w.heap.size + 1, 0, none⟩) := hA 3 rfl
    refine goOn_plain rfl (stepG_pure rfl rfl ?_)
    generalize A.eval = ev at *
    go_simp
   ·intro A w1 hA hL hS he
    have hb := hL.below
    have h33 : A.eval (.tmp 33) = _ := he.1 rfl
    have c0 := ((B2).on hb).at1 1 _ rfl
    refine goOn_plain rfl (stepG_pure rfl rfl ?_)
    generalize A.eval = ev at *
    go_simp
   ·intro A w1 hA hL hS he
    have hb := hS rfl
    have h32 : A.eval (.tmp 32) = _ := he.1 rfl
    have h34 : A.eval (.tmp 34) = _ := he.2.1 rfl
    have hf0 : A.eval (.func 99) = .func (.func 99) #[] #[] := rfl
    refine goOn_plain rfl ?_
    refine stepG_call (f := 99) (args := #[.slice ao1 l1.length cap1, .slice ao2 l2.length cap2]) rfl rfl ?_ ?_
    ·generalize A.eval = ev at *
     go_simp
    ·refine (minus1_any _ _ l1 l2 _ ((u1.on hb01).on hb) ((u2.on hb01).on hb) (by omega) hlen (by omega)).mono ?_
     rintro e w' ⟨v, l, rfl, hu, hp, hb'⟩
     exact ⟨_, rfl, hb', l, hu, hp.1, by omega⟩
   ·intro A w1 hA hL hS he
    have h2 : A.eval (.tmp 2) = .pointer (some ⟨w.heap.size, 0, none⟩) := hA 2 rfl
    refine goOn_plain rfl (stepG_pure rfl rfl ?_)
    generalize A.eval = ev at *
    go_simp
   ·intro A w1 hA hL hS he
    have hb := hL.below
    have h36 : A.eval (.tmp 36) = _ := he.1 rfl
    have c0 := ((B1).on hb).at1 0 _ rfl
    refine goOn_plain rfl (stepG_pure rfl rfl ?_)
    generalize A.eval = ev at *
    go_simp
   ·intro A w1 hA hL hS he
    have hb := hS rfl
    have f35 : ((.lim (by decide) (lval l1 - lval l2) 1000000 : FactL (Lr (none) (0)))).p (A.eval (.tmp 35)) w1 := he.1 rfl
    obtain ⟨v35, h35⟩ : ∃ v, A.eval (.tmp 35) = v := ⟨_, rfl⟩
    rw [h35] at f35
    have h37 : A.eval (.tmp 37) = _ := he.2.1 rfl
    have hf0 : A.eval (.func 84) = .func (.func 84) #[] #[] := rfl
    refine goOn_plain rfl ?_
    refine stepG_call (f := 84) (args := #[v35, .bool n1]) rfl rfl ?_ ?_
    ·generalize A.eval = ev at *
     go_simp
    ·refine (made1_p f35 (by omega) n1).mono ?_
     rintro e w' ⟨neg, m, rfl, hi, hb'⟩
     exact ⟨_, rfl, hb', neg, m, rfl, hi⟩
   ·intro W2 hL2
    have hb2 := hL2.below
    simp only [TailL, FactL.eq, FactL.ret, FactL.int, FactL.lim, FactL.of, List.length_cons, List.length_nil, List.drop_succ_cons, List.drop_zero]
    rintro _ - _ ⟨n7, m7, rfl, i7⟩
    go_frame
    have B3' := B3.on hb2
    go_wp2_with (refine wpList_store_blk rfl _ (.tmp 4) (.tmp 38) rfl _ _ _ _ rfl rfl B3' rfl sizeInt i7.ones ?_; intro w3 R gr)
    exact ret_blk rfl rfl rfl R Tryz.underlying32 rfl sizeInt (by rw [e.out]; exact int_end hb01 hb2 (by omega) B3' i7 gr)
set_option maxHeartbeats 2000000 in
set_option maxRecDepth 100000 in
theorem sub1_any (n1 n2 : Bool) (m1 m2 : Value) (z1 z2 : Int) (w : World) (h1 : IsInt w n1 m1 z1) (h2 : IsInt w n2 m2 z2) (c1 : nbits z1.natAbs ≤ CS) (c2 : nbits z2.natAbs ≤ CS) :
  Calls Tryz.prog 131 #[.agg #[.bool n1, m1], .agg #[.bool n2, m2]] w (RetI w (z1 - z2)) := by
 obtain ⟨a1, k1, q1, rfl, -, -⟩ := h1.shape
 obtain ⟨a2, k2, q2, rfl, -, -⟩ := h2.shape
 have c3 : nbits (-z2).natAbs ≤ CS := by rw [Int.natAbs_neg]; exact c2
 rw [Int.sub_eq_add_neg]
 go_enter Tryz.func131, Tryz.ntmps131
 go_upto_region 1 with (fail)
 refine abs3 fun W hb0 B1 B2 B3 hsz => ?_
 refine wp_region_L mixed (none) (0) (Okr.none) [.eq (.agg #[.bool n1, .slice a1 k1 q1]), .eq (.agg #[.bool n2, .slice a2 k2 q2]), .int (by decide) ((-z2)), .int (by decide) ((z1 + -z2))] [5, 6, 7, 8] rfl rfl rfl rfl ⟨?_, ?_, ?_, ?_, trivial⟩ ?_
 ·intro A w1 hA hL hS he
  have hb := hL.below
  have h2 : A.eval (.tmp 2) = .pointer (some ⟨w.heap.size, 0, none⟩) := hA 2 rfl
  have c0 := ((B1).on hb).at1 0 _ rfl
  have c1 := ((B1).on hb).at1 1 _ rfl
  refine goOn_plain rfl (stepG_pure rfl rfl ?_)
  generalize A.eval = ev at *
  go_simp
 ·intro A w1 hA hL hS he
  have hb := hL.below
  have h3 : A.eval (.tmp 3) = .pointer (some ⟨w.heap.size + 1, 0, none⟩) := hA 3 rfl
  have c0 := ((B2).on hb).at1 0 _ rfl
  have c1 := ((B2).on hb).at1 1 _ rfl
  refine goOn_plain rfl (stepG_pure rfl rfl ?_)
  generalize A.eval = ev at *
  go_simp
 ·intro A w1 hA hL hS he
  have hb := hS rfl
  have h6 : A.eval (.tmp 6) = _ := he.1 rfl
  have hf0 : A.eval (.func 114) = .func (.func 114) #[] #[] := rfl
  refine goOn_plain rfl ?_
  refine stepG_call (f := 114) (args := #[.agg #[.bool n2, .slice a2 k2 q2]]) rfl rfl ?_ ?_
  ·generalize A.eval = ev at *
   go_simp
  ·refine (neg1_any _ _ _ _ ((h2.on hb0).on hb) c2).mono ?_
   rintro e w' ⟨neg, m, rfl, hi, hb'⟩
   exact ⟨_, rfl, hb', neg, m, rfl, hi⟩
 ·intro A w1 hA hL hS he
  have hb := hS rfl
  have h5 : A.eval (.tmp 5) = _ := he.1 rfl
  have f7 : ((.int (by decide) ((-z2)) : FactL (Lr (none) (0)))).p (A.eval (.tmp 7)) w1 := he.2.1 rfl
  obtain ⟨v7, h7⟩ : ∃ v, A.eval (.tmp 7) = v := ⟨_, rfl⟩
  rw [h7] at f7
  have hf0 : A.eval (.func 68) = .func (.func 68) #[] #[] := rfl
  refine goOn_plain rfl ?_
  refine stepG_call (f := 68) (args := #[.agg #[.bool n1, .slice a1 k1 q1], v7]) rfl rfl ?_ ?_
  ·generalize A.eval = ev at *
   go_simp
  ·obtain ⟨n7, m7, rfl, i7⟩ := f7
   refine (add1_any _ _ _ _ _ _ _ ((h1.on hb0).on hb) i7 c1 c3).mono ?_
   rintro e w' ⟨neg, m, rfl, hi, hb'⟩
   exact ⟨_, rfl, hb', neg, m, rfl, hi⟩
 ·intro W2 hL2
  have hb2 := hL2.below
  simp only [TailL, FactL.eq, FactL.ret, FactL.int, FactL.lim, FactL.of, List.length_cons, List.length_nil, List.drop_succ_cons, List.drop_zero]
  rintro _ - _ ⟨n7, m7, rfl, i7⟩
  go_frame
  have B3' := B3.on hb2
  go_wp2_with (refine wpList_store_blk rfl _ (.tmp 4) (.tmp 8) rfl _ _ _ _ rfl rfl B3' rfl sizeInt i7.ones ?_; intro w3 R gr)
  exact ret_blk rfl rfl rfl R Tryz.underlying32 rfl sizeInt (int_end hb0 hb2 (by omega) B3' i7 gr)
end Go.Proofs.YtplfdeohokkebaaGreat
end
section
namespace Go.Proofs.YtplfdeohokkebaaGreat
open Go.RowKit Q
def MulOutR (A B : List Int) (i : Nat) (xs : List Int) : Prop :=
 xs.length = A.length + B.length + 1 ∧ Limbs xs ∧ lval xs = lval (A.take i) * lval B ∧ ∀ j, i + B.length ≤ j → xs.getD j 0 = 0
def MulInR (A B : List Int) (i k : Nat) (xs : List Int) (c : Int) : Prop :=
 xs.length = A.length + B.length + 1 ∧ Limbs xs ∧ 0 ≤ c ∧ c < 4294967296 ∧ k ≤ B.length + 1 ∧ (k = B.length + 1 → c = 0) ∧ (k ≤ B.length → xs.getD (i + B.length) 0 = 0) ∧
  lval xs + B32 ^ (i + k) * c = lval (A.take i) * lval B + B32 ^ i * (A.getD i 0 * lval (B.take k)) ∧ ∀ j, i + B.length < j → xs.getD j 0 = 0
theorem MulOutR.start (A B : List Int) : MulOutR A B 0 (List.replicate (A.length + B.length + 1) 0) :=
 ⟨by simp, Limbs_zeros _, by simp [lval, lval_zeros], fun j _ => by
  rw [List.getD_eq_getElem?_getD, List.getElem?_replicate]; split <;> rfl⟩
theorem MulOutR.inner {A B : List Int} {i : Nat} {xs : List Int} (h : MulOutR A B i xs) : MulInR A B i 0 xs 0 :=
 ⟨h.1, h.2.1, by omega, by omega, by omega, by omega, fun _ => h.2.2.2 _ (Nat.le_refl _), by rw [h.2.2.1]; simp [lval], fun j hj => h.2.2.2 j (by omega)⟩
theorem MulInR.step {A B : List Int} {i k : Nat} {xs : List Int} {c : Int} (h : MulInR A B i k xs c) (LA : Limbs A) (LB : Limbs B) (hi : i < A.length) (hk : k < B.length ∨ 0 < c) :
  MulInR A B i (k + 1) (xs.set (i + k) ((c + xs.getD (i + k) 0 + A.getD i 0 * B.getD k 0) % 4294967296)) ((c + xs.getD (i + k) 0 + A.getD i 0 * B.getD k 0) / 4294967296) := by
 obtain ⟨h1, h2, h3, h4, h5, h6, h7, h8, h9⟩ := h
 have a1 := LA.getD i
 have a2 := LB.getD k
 have a3 := h2.getD (i + k)
 rw [B32_eq] at a1 a2 a3
 have hp := prod_bound (A.getD i 0) (B.getD k 0) a1.1 (by omega) a2.1 (by omega)
 have p2 := getD_past B k
 have hkl : k ≤ B.length := by
  rcases Nat.lt_or_ge B.length k with h | h
  ·have := h6 (by omega); omega
  ·exact h
 have hkz : ¬ k < B.length → (c + xs.getD (i + k) 0 + A.getD i 0 * B.getD k 0) = c := fun h => by
  have e : k = B.length := by omega
  rw [p2 h, e, h7 hkl]; simp
 refine ⟨by simpa using h1, Limbs_set h2 _ (by rw [B32_eq]; omega), by omega, by omega, by omega, fun he => ?_, fun hl => ?_, ?_, fun j hj => by rw [getD_set_ne' _ _ _ _ (by omega)]; exact h9 j hj⟩
 ·rw [hkz (by omega)]; omega
 ·rw [getD_set_ne' _ _ _ _ (by omega)]; exact h7 hkl
 rw [lval_set _ _ _ (by omega), lval_take_succ']
 have e := Int.mul_ediv_add_emod (c + xs.getD (i + k) 0 + A.getD i 0 * B.getD k 0) 4294967296
 generalize (c + xs.getD (i + k) 0 + A.getD i 0 * B.getD k 0) % 4294967296 = r at *
 generalize (c + xs.getD (i + k) 0 + A.getD i 0 * B.getD k 0) / 4294967296 = q at *
 rw [← B32_eq] at e
 have e2 : B32 ^ (i + (k + 1)) = B32 ^ (i + k) * B32 := by rw [← Nat.add_assoc, Int.pow_succ]
 have e3 : B32 ^ (i + k) = B32 ^ i * B32 ^ k := Int.pow_add ..
 rw [e2]
 have : B32 ^ (i + k) * (c + xs.getD (i + k) 0 + A.getD i 0 * B.getD k 0) = B32 ^ (i + k) * (B32 * q + r) := by rw [e]
 have h5' : lval xs = lval (A.take i) * lval B + B32 ^ i * (A.getD i 0 * lval (B.take k)) - B32 ^ (i + k) * c := by omega
 rw [h5']
 rw [e3] at *
 generalize B32 ^ i = P at *
 generalize B32 ^ k = R at *
 grind
theorem MulInR.done {A B : List Int} {i k : Nat} {xs : List Int} (h : MulInR A B i k xs 0) (hk : ¬ k < B.length) : MulOutR A B (i + 1) xs := by
 obtain ⟨h1, h2, h3, h4, h5, h6, h7, h8, h9⟩ := h
 refine ⟨h1, h2, ?_, fun j hj => h9 j (by omega)⟩
 rw [lval_take_succ']
 rw [List.take_of_length_le (l := B) (by omega)] at h8
 grind
theorem MulOutR.done {A B : List Int} {xs : List Int} (h : MulOutR A B A.length xs) : lval xs = lval A * lval B := by
 rw [h.2.2.1, List.take_of_length_le (Nat.le_refl _)]
set_option maxHeartbeats 4000000 in
set_option maxRecDepth 100000 in
theorem mul1_main (n1 n2 : Bool) (ao1 ao2 : Option Addr) (cap1 cap2 : Nat) (la lb : List Int) (w : World) (bA : la.length ≤ 10000000) (bB : lb.length ≤ 10000000) (LA : Limbs la) (LB : Limbs lb) (mA : At uT w ao1 (uc la)) (mB : At uT w ao2 (uc lb)) :
  Calls Tryz.prog 69 #[.agg #[.bool n1, .slice ao1 la.length cap1], .agg #[.bool n2, .slice ao2 lb.length cap2]] w (RetI w (sgn (n1 != n2) (lval la * lval lb))) := by
 go_enter Tryz.func69, Tryz.ntmps69
 go_upto_region 1 with (fail)
 refine abs3 fun W hb0 B1 B2 B3 hsz => ?_
 have c1 := B1.at1 1 _ rfl
 have c2 := B2.at1 1 _ rfl
 go_wp2_with (at_make; refine wpList_make_blk rfl _ _ _ rfl _ (.int .u32 0) 1 4 Tryz.underlying30 infoU32 rfl rfl .i64 .i64 _ _ (la.length + lb.length + 1) rfl rfl (by omega) (by omega) (by omega) (by omega) ?_; intro w1 own1 gr1; have c3 := (B1.keep gr1 B1.lt).at1 1 _ rfl)
 rw [ucells_make] at own1
 clear c1 c2 c3
 go_loopw [6] (fun i wr => ∃ (k : Nat) (xs : List Int), k ≤ la.length ∧ i = .int .i64 k ∧ Hid (MulOutR la lb k xs) ∧ Hid (Blk wr W.heap.size uT (uc xs)) ∧ Below W.heap.size W wr) (fun i _ => la.length - (intOf i).toNat)
 case atStart => exact ⟨0, _, Nat.zero_le _, rfl, Lib.hid (MulOutR.start la lb), Lib.hid own1, gr1⟩
 case round =>
  clear own1 gr1
  obtain ⟨i, xs, hi, rfl, hinv, hblk, hb⟩ := hrel
  have d1 := (B1.keep hb B1.lt).at1 1 _ rfl
  by_cases hlt : i < la.length
  ·obtain ⟨p1, o1, rfl, hcA⟩ := mA (by rw [uc_len]; omega)
   have hcA' : ∀ w', Below W.heap.size W w' → w'.cell? ⟨p1, o1 + i, none⟩ = some (.int .u32 (la.getD i 0)) := fun w' h => ((hcA.on hb0).on h).ucell i hlt
   have a1 := (LA.getD i).1
   have a1' : la.getD i 0 < 4294967296 := (LA.getD i).2
   have HX : Hid (∃ x, x = la.getD i 0) := ⟨_, rfl⟩
   obtain ⟨x, hx⟩ := HX.out
   rw [← hx] at hcA' a1 a1'
   replace hx := Lib.hid hx
   clear hcA HX
   go_wp2
   go_loopw [7, 8] (fun c q wr => ∃ (k : Nat) (xs : List Int) (cy : Int), q = .int .i64 k ∧ c = .int .u64 cy ∧ Hid (MulInR la lb i k xs cy) ∧ Hid (Blk wr W.heap.size uT (uc xs)) ∧ Below W.heap.size W wr) (fun _ q _ => lb.length + 1 - (intOf q).toNat)
   case atStart => exact ⟨0, xs, 0, rfl, rfl, Lib.hid hinv.out.inner, hblk, hb⟩
   case round =>
    clear hinv hblk d1 hb
    obtain ⟨k, ys, cy, rfl, rfl, hin, hblk, hbr⟩ := hrel
    have d2 := (B2.keep hbr B2.lt).at1 1 _ rfl
    have q1 := hin.out.2.2.1
    have q2 := hin.out.2.2.2.1
    have hkb := hin.out.2.2.2.2.1
    have HK := Lib.hid hin.out.2.2.2.2.2.1
    have HL := Lib.hid hin.out.1
    have hco := hblk.out.ucell (i + k)
    have hfo := hblk.out.frozen (i + k)
    have hik : i + k < ys.length ↔ k ≤ lb.length ∨ i + k < la.length + lb.length + 1 := by rw [HL.out]; omega
    have a2 := (LB.getD k).1
    have a2' : lb.getD k 0 < 4294967296 := (LB.getD k).2
    have a3 := (hin.out.2.1.getD (i + k)).1
    have a3' : ys.getD (i + k) 0 < 4294967296 := (hin.out.2.1.getD (i + k)).2
    have p2 := getD_past lb k
    have hst := hin.out.step LA LB hlt
    rw [← hx.out] at hst
    have hylen : ys.length = la.length + lb.length + 1 := HL.out
    by_cases hkt : k < lb.length
    ·obtain ⟨p2', o2, rfl, hcB⟩ := mB (by rw [uc_len]; omega)
     have hcB' : ∀ w', Below W.heap.size W w' → w'.cell? ⟨p2', o2 + k, none⟩ = some (.int .u32 (lb.getD k 0)) := fun w' h => ((hcB.on hb0).on h).ucell k hkt
     replace hco := hco (by rw [hylen]; omega)
     replace hst := Lib.hid (hst (.inl hkt))
     have hlen' : i + k < ys.length := by omega
     clear p2 hik hcB hylen
     generalize lb.getD k 0 = y at *
     generalize ys.getD (i + k) 0 = z at *
     obtain ⟨hp0, hp1⟩ := prod_bound x y a1 (by omega) a2 (by omega)
     have hlen2 : i + k < la.length + lb.length + 1 := by omega
     replace hlen' := Lib.hid hlen'
     go_upto_region 11 with (fail)
     refine wp_region_L mixed (none) (0) (Okr.none) [.eq (.int .u64 (cy + z)), .eq (.pointer (some ⟨w.heap.size, 1, none⟩)), .eq (.slice (some ⟨p1, o1, none⟩) la.length cap1), .eq (.int .i64 i), .eq (.pointer (some ⟨p1, o1 + i * 1, none⟩)), .eq (.int .u32 x), .eq (.int .u64 x), .eq (.pointer (some ⟨w.heap.size + 1, 1, none⟩)), .eq (.slice (some ⟨p2', o2, none⟩) lb.length cap2), .eq (.int .i64 k), .eq (.pointer (some ⟨p2', o2 + k * 1, none⟩)), .eq (.int .u32 y), .eq (.int .u64 y), .eq (.int .u64 (x * y)), .eq (.int .u64 (cy + z + x * y))] [50, 51, 52, 53, 54, 55, 56, 57, 58, 59, 60, 61, 62, 63, 64] rfl rfl rfl rfl ⟨?_, ?_, ?_, ?_, ?_, ?_, ?_, ?_, ?_, ?_, ?_, ?_, ?_, ?_, ?_, trivial⟩ ?_
     ·exact fun A w1 hA hL hS he => goOn_plain rfl (stepG_mv rfl rfl (hA 7 rfl))
     ·intro A w1 hA hL hS he
      have h2 : A.eval (.tmp 2) = .pointer (some ⟨w.heap.size, 0, none⟩) := hA 2 rfl
      refine goOn_plain rfl (stepG_pure rfl rfl ?_)
      generalize A.eval = ev at *
      go_simp
     ·intro A w1 hA hL hS he
      have hb := hL.below
      have h51 : A.eval (.tmp 51) = _ := he.1 rfl
      have c0 := ((B1.keep hbr B1.lt).on hb).at1 1 _ rfl
      refine goOn_plain rfl (stepG_pure rfl rfl ?_)
      generalize A.eval = ev at *
      go_simp
     ·exact fun A w1 hA hL hS he => goOn_plain rfl (stepG_mv rfl rfl (hA 6 rfl))
     ·intro A w1 hA hL hS he
      have h52 : A.eval (.tmp 52) = _ := he.1 rfl
      have h53 : A.eval (.tmp 53) = _ := he.2.1 rfl
      refine goOn_plain rfl ?_
      exact stepG_pure rfl rfl (execOp_index rfl (by rw [h52, h53]; exact run_index Tryz.underlying30 (by kernel_rfl) w1 p1 o1 _ _ i .i64 _ (by first | rfl | simp | omega) (hlt)))
     ·intro A w1 hA hL hS he
      have h54 : A.eval (.tmp 54) = _ := he.1 rfl
      refine goOn_plain rfl ?_
      have c0 := hcA' w1 (hbr.trans (hL.below.mono hbr.size))
      refine stepG_pure rfl rfl ?_
      generalize A.eval = ev at *
      go_simp
     ·intro A w1 hA hL hS he
      have h55 : A.eval (.tmp 55) = _ := he.1 rfl
      refine goOn_plain rfl (stepG_pure rfl rfl ?_)
      generalize A.eval = ev at *
      go_simp
      rw [IntKind.wrap_u64]; omega
     ·intro A w1 hA hL hS he
      have h3 : A.eval (.tmp 3) = .pointer (some ⟨w.heap.size + 1, 0, none⟩) := hA 3 rfl
      refine goOn_plain rfl (stepG_pure rfl rfl ?_)
      generalize A.eval = ev at *
      go_simp
     ·intro A w1 hA hL hS he
      have hb := hL.below
      have h57 : A.eval (.tmp 57) = _ := he.1 rfl
      have c0 := ((B2.keep hbr B2.lt).on hb).at1 1 _ rfl
      refine goOn_plain rfl (stepG_pure rfl rfl ?_)
      generalize A.eval = ev at *
      go_simp
     ·exact fun A w1 hA hL hS he => goOn_plain rfl (stepG_mv rfl rfl (hA 8 rfl))
     ·intro A w1 hA hL hS he
      have h58 : A.eval (.tmp 58) = _ := he.1 rfl
      have h59 : A.eval (.tmp 59) = _ := he.2.1 rfl
      refine goOn_plain rfl ?_
      exact stepG_pure rfl rfl (execOp_index rfl (by rw [h58, h59]; exact run_index Tryz.underlying30 (by kernel_rfl) w1 p2' o2 _ _ k .i64 _ (by first | rfl | simp | omega) (hkt)))
     ·intro A w1 hA hL hS he
      have h60 : A.eval (.tmp 60) = _ := he.1 rfl
      refine goOn_plain rfl ?_
      have c0 := hcB' w1 (hbr.trans (hL.below.mono hbr.size))
      refine stepG_pure rfl rfl ?_
      generalize A.eval = ev at *
      go_simp
     ·intro A w1 hA hL hS he
      have h61 : A.eval (.tmp 61) = _ := he.1 rfl
      refine goOn_plain rfl (stepG_pure rfl rfl ?_)
      generalize A.eval = ev at *
      go_simp
      rw [IntKind.wrap_u64]; omega
     ·intro A w1 hA hL hS he
      have h56 : A.eval (.tmp 56) = _ := he.1 rfl
      have h62 : A.eval (.tmp 62) = _ := he.2.1 rfl
      refine goOn_plain rfl (stepG_pure rfl rfl ?_)
      generalize A.eval = ev at *
      go_simp
      rw [IntKind.wrap_u64]; omega
     ·intro A w1 hA hL hS he
      have h50 : A.eval (.tmp 50) = _ := he.1 rfl
      have h63 : A.eval (.tmp 63) = _ := he.2.1 rfl
      refine goOn_plain rfl (stepG_pure rfl rfl ?_)
      generalize A.eval = ev at *
      go_simp
      rw [IntKind.wrap_u64]; omega
     ·intro W2 hL2
      simp only [TailL, FactL.eq, List.length_cons, List.length_nil, List.drop_succ_cons, List.drop_zero]
      have hblk2 := Lib.hid (hblk.out.on hL2.below)
      have hb2 := hbr.trans (hL2.below.mono hbr.size)
      have hco2 := hblk2.out.ucell (i + k) hlen'.out
      have hfo2 := hblk2.out.frozen (i + k)
      go_frame
      go_wp2
      go_roundw
      case rel => exact ⟨k + 1, _, _, by go_num, rfl, hst, Lib.hid (hblk2.out.uset (i + k) _), hb2.setCell (Nat.le_refl _) _⟩
      case measure => simp [intOf]; omega
    ·rw [p2 hkt, Int.mul_zero, Int.add_zero] at hst
     rw [p2 hkt] at a2 a2'
     by_cases hc0 : 0 < cy
     ·replace hst := Lib.hid (hst (.inr hc0))
      have hkl : k ≤ lb.length := by
       rcases Nat.lt_or_ge lb.length k with h | h
       ·have := HK.out (by omega); omega
       ·exact h
      replace hco := hco (by rw [hylen]; omega)
      have hlen2 : i + k < la.length + lb.length + 1 := by omega
      clear p2 hik hylen
      generalize ys.getD (i + k) 0 = z at *
      replace hkl := Lib.hid hkl
      go_wp2
      go_roundw
      case rel => exact ⟨k + 1, _, _, by go_num, rfl, hst, Lib.hid (hblk.out.uset (i + k) _), hbr.setCell (Nat.le_refl _) _⟩
      case measure => have := hkl.out; simp [intOf]; omega
     ·obtain rfl : cy = 0 := by omega
      have HD := Lib.hid (hin.out.done hkt)
      clear hst hco hik p2 hylen
      go_wp2
      go_roundw
      case rel => exact ⟨i + 1, _, by omega, by go_num, HD, hblk, hbr⟩
      case measure => simp [intOf]; omega
  ·obtain rfl : i = la.length := by omega
   have e1 := (B1.keep hb B1.lt).at1 0 _ rfl
   have e2 := (B2.keep hb B2.lt).at1 0 _ rfl
   have hu : U32s wr (.slice (some ⟨W.heap.size, 0, none⟩) (la.length + lb.length + 1) (la.length + lb.length + 1)) xs := by
    have := hblk.out.u32s hinv.out.2.1
    rw [hinv.out.1] at this; exact this
   have HV := Lib.hid hinv.out.done
   have hxl : xs.length ≤ 100000000 := by rw [hinv.out.1]; omega
   have hb0' := hb0.trans (hb.mono hb0.size)
   have B3' := B3.keep hb B3.lt
   clear hinv hblk
   go_wp2_with fail
   refine (made1_any (n1 != n2) _ xs _ hu hxl).mono ?_
   rintro e w2 ⟨neg, m, rfl, hi, hb2⟩
   rw [HV.out] at hi
   go_wp2_with (refine wpList_store_blk rfl _ (.tmp 4) (.tmp 80) rfl _ _ _ _ rfl rfl (B3'.on hb2) rfl sizeInt hi.ones ?_; intro w3 R gr)
   exact ret_blk rfl rfl rfl R Tryz.underlying32 rfl sizeInt (int_end hb0' hb2 (by omega) (B3'.on hb2) hi gr)
theorem mul1_any (n1 n2 : Bool) (m1 m2 : Value) (z1 z2 : Int) (w : World) (h1 : IsInt w n1 m1 z1) (h2 : IsInt w n2 m2 z2) (c1 : nbits z1.natAbs ≤ CS) (c2 : nbits z2.natAbs ≤ CS) :
  Calls Tryz.prog 69 #[.agg #[.bool n1, m1], .agg #[.bool n2, m2]] w (RetI w (z1 * z2)) := by
 obtain ⟨l1, ao1, cap1, rfl, hc1, b1, u1, L1, mm1, nn1, hp1, rfl⟩ := h1.openS c1
 obtain ⟨l2, ao2, cap2, rfl, hc2, b2, u2, L2, mm2, nn2, hp2, rfl⟩ := h2.openS c2
 rw [← sgn_mul]
 exact mul1_main n1 n2 ao1 ao2 cap1 cap2 l1 l2 w (by omega) (by omega) L1 L2 mm1 mm2
set_option maxHeartbeats 1000000 in
set_option maxRecDepth 100000 in
theorem short1_main (ao : Option Addr) (cap : Nat) (A : List Int) (d : Int) (w : World) (bA : A.length ≤ 68719476736) (LA : Limbs A) (mA : At uT w ao (uc A)) (d0 : 1 ≤ d) (d1 : d < 4294967296) :
  Calls Tryz.prog 143 #[.slice ao A.length cap, .int .u32 d] w (RetShort w (lval A) d A.length) := by
 go_enter Tryz.func143, Tryz.ntmps143
 go_wp2_with (at_make; refine wpList_make_blk rfl _ _ _ rfl _ (.int .u32 0) 1 4 Tryz.underlying30 infoU32 rfl rfl .i64 .i64 _ _ A.length rfl rfl (by omega) (by omega) (by omega) (by omega) ?_; intro w1 own1 gr1)
 rw [ucells_make] at own1
 go_loopw [7, 8] (fun r i wr => ∃ (k : Nat) (xs : List Int) (q : Int), k ≤ A.length ∧ i = .int .i64 ((k : Int) - 1) ∧ r = .int .u64 q ∧ Hid (ShortInv A d k xs q) ∧ Hid (Blk wr w.heap.size uT (uc xs)) ∧ Below w.heap.size w wr) (fun _ i _ => (intOf i + 1).toNat)
 case atStart => exact ⟨A.length, _, 0, Nat.le_refl _, rfl, rfl, Lib.hid (ShortInv.start A d (by omega)), Lib.hid own1, gr1⟩
 case round =>
  obtain ⟨k, xs, q, hk, rfl, rfl, hinv, hblk, hb⟩ := hrel
  by_cases h0 : 1 ≤ k
  ·obtain ⟨i, rfl⟩ : ∃ i, k = i + 1 := ⟨k - 1, by omega⟩
   obtain ⟨p1, o1, e1, hcA⟩ := mA (by rw [uc_len]; omega)
   have hc := (hcA.keep hb hcA.lt).ucell i (by omega)
   have E1 := Lib.hid e1
   have q0 := hinv.out.2.2.1
   have q1 : q < 4294967296 := by have := hinv.out.2.2.2.1; omega
   have hxi : i < xs.length := by have := hinv.out.1; omega
   have hco := hblk.out.ucell i hxi
   have hfo := hblk.out.frozen i
   have a1 := (LA.getD i).1
   have a1' : A.getD i 0 < 4294967296 := (LA.getD i).2
   obtain ⟨hst, s1, s0⟩ := hinv.out.step LA d1 (by omega)
   have HX := Lib.hid hxi
   clear e1 hcA hxi
   generalize A.getD i 0 = x at *
   generalize xs.getD i 0 = z at *
   have HST := Lib.hid hst
   clear hst
   have hlt : i < A.length := by omega
   have hwf : 0 ≤ q * 4294967296 + x := by omega
   go_wp2_with (refine wpList_index_at rfl (.tmp 21) (.tmp 22) _ rfl _ Tryz.underlying30 _ _ _ infoU32 _ _ _ rfl _ _ rfl i (by omega) hlt p1 o1 E1.out ?_; rw [Nat.mul_one])
   go_roundw
   case rel => exact ⟨i, _, _, by omega, by go_num, rfl, HST, Lib.hid (hblk.out.uset i _), hb.setCell (Nat.le_refl _) _⟩
   case measure => simp [intOf]
  ·obtain rfl : k = 0 := by omega
   have q0 := hinv.out.2.2.1
   have q1 : q < 4294967296 := by have := hinv.out.2.2.2.1; omega
   go_wp2
   go_ret2
   have hu := hblk.out.u32s hinv.out.2.1
   rw [hinv.out.1] at hu
   exact ⟨_, xs, q, rfl, hu, hinv.out.1, hinv.out.done, q0, hinv.out.2.2.2.1, hb⟩
theorem short1_any (v : Value) (l : List Int) (d : Int) (w : World) (h : U32s w v l) (b : l.length ≤ 68719476736) (d0 : 1 ≤ d) (d1 : d < 4294967296) :
  Calls Tryz.prog 143 #[v, .int .u32 d] w (RetShort w (lval l) d l.length) := by
 obtain ⟨ao, cap, rfl, _, L, m⟩ := h
 exact short1_main ao cap l d w b L m d0 d1
end Go.Proofs.YtplfdeohokkebaaGreat
end
