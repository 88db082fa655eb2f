/- The Reader of package octet: what each of its methods takes. -/
import Derived.Test.YtbppnihcbcdglaaGreatZ2
/- The Writer of package octet: what each of its methods lays. -/
namespace Go.Proofs.YtbppnihcbcdglaaGreat
open Go.RowKit
set_option linter.unusedVariables false
set_option linter.unusedSimpArgs false

/-- A Writer at block b: its error, its bytes, which lie from n0 on. -/
def Wr (w : World) (n0 b : Nat) (e : Int) (xs : Bs) : Prop :=
  n0 ≤ b ∧ ∃ v, w.heap[b]? = some (.cells #[v, .int .i64 e] 83 (0, 0)) ∧ OwnB w n0 v xs

theorem Wr.below {w w' : World} {n0 b : Nat} {e : Int} {xs : Bs} (h : Wr w n0 b e xs) (hb : Below w.heap.size w w') : Wr w' n0 b e xs := by
  obtain ⟨h1, v, h2, h3⟩ := h
  exact ⟨h1, v, (hb.block b (blk_lt h2)).trans h2, h3.kept fun k _ hk => hb.block k hk⟩

set_option maxHeartbeats 400000 in
theorem lay_any (w : World) (n0 b : Nat) (e : Int) (xs : Bs) (hW : Wr w n0 b e xs) (ax : Option Addr) (c : Nat) (ys : Bs) (hy : BS w ax c ys)
    (hl : xs.length + ys.length ≤ 100000000000000) :
    Calls Tryz.prog 101 #[.pointer (some ⟨b, 0, none⟩), .slice ax ys.length c] w fun e' w' => e' = .returned (.tuple #[]) ∧
      Wr w' n0 b e (lay e xs ys) ∧ FrW b n0 w w' := by
  obtain ⟨hb, v, hblk, hown⟩ := hW
  have c0 := blk_cell hblk 0
  have c1 := blk_cell hblk 1
  have f0 := blk_free hblk 0
  simp at c0 c1
  have hrow := hown.ne hblk (by decide)
  by_cases h0 : e = 0
  · subst h0
    go_enter Tryz.func101, Tryz.ntmps101
    (repeat' (first | (at_builtin; refine wp_appB rfl _ _ rfl n0 v xs ys rfl hown ax c rfl hy hl (by have := blk_lt hblk; omega) ?_; intro v' w' hown' hg'; obtain ⟨a', c', rfl, -, -⟩ := hown'.shape; simp only [List.length_append] at hown'; have hblk' := (hg'.block b (blk_lt hblk) (fun e => hrow e.symm)).trans hblk; have d0 := blk_cell hblk' 0; have g0 := blk_free hblk' 0; simp at d0) | ((fail_if_success at_builtin); first | go_values | go_skip | go_guarded | go_step | go_upon | go_back)))
    refine bodyPost_end (results_none rfl _ _ _) rfl ⟨rfl, ⟨hb, _, blk_set hblk' 0 _, ?_⟩, ?_⟩
    · rw [lay_0]
      exact hown'.kept fun k hk _ => Below.heap_setCell _ _ _ _ (fun e => hown'.ne hblk' (by decide) (by rw [hk]; exact congrArg some e))
    · exact ((Fr.refl w _).grown hg' (fun k hk => .inl (.inr (hown.row k hk)))).setCell (.inl (.inl rfl)) _
  · go_enter Tryz.func101, Tryz.ntmps101
    have h0' : (e == 0) = false := by simpa using h0
    (repeat' (first | fail | ((fail_if_success at_builtin); first | go_values | go_skip | go_guarded | go_step | go_upon | go_back)))
    go_end0
    exact ⟨rfl, ⟨hb, v, hblk, by rw [lay_ne h0]; exact hown⟩, Fr.refl _ _⟩

set_option maxHeartbeats 400000 in
theorem stop_any (w : World) (n0 b : Nat) (e : Int) (xs : Bs) (hW : Wr w n0 b e xs) (x : Int) :
    Calls Tryz.prog 100 #[.pointer (some ⟨b, 0, none⟩), .int .i64 x] w fun e' w' => e' = .returned (.tuple #[]) ∧
      Wr w' n0 b (stopE e x) xs ∧ FrW b n0 w w' := by
  obtain ⟨hb, v, hblk, hown⟩ := hW
  have c0 := blk_cell hblk 0
  have c1 := blk_cell hblk 1
  have f1 := blk_free hblk 1
  simp at c0 c1
  by_cases h0 : e = 0
  · subst h0
    go_enter Tryz.func100, Tryz.ntmps100
    (repeat' (first | fail | ((fail_if_success at_builtin); first | go_values | go_skip | go_guarded | go_step | go_upon | go_back)))
    refine bodyPost_end (results_none rfl _ _ _) rfl ⟨rfl, ⟨hb, _, blk_set hblk 1 _, ?_⟩, ?_⟩
    · exact hown.kept fun k hk _ => Below.heap_setCell _ _ _ _ (fun e => hown.ne hblk (by decide) (by rw [hk]; exact congrArg some e))
    · exact (Fr.refl w _).setCell (.inl (.inl rfl)) _
  · go_enter Tryz.func100, Tryz.ntmps100
    have h0' : (e == 0) = false := by simpa using h0
    (repeat' (first | fail | ((fail_if_success at_builtin); first | go_values | go_skip | go_guarded | go_step | go_upon | go_back)))
    go_end0
    exact ⟨rfl, ⟨hb, v, by rw [stopE_ne h0]; exact hblk, hown⟩, Fr.refl _ _⟩

theorem or128 : ∀ x, x < 256 → x ||| 128 = x % 128 + 128 := by decide +kernel
theorem byte_or (m : Nat) : bits BinOp.or IntKind.u8 ((m : Int) % 256) 128 = ((UInt8.ofNat (m % 128 + 128)).toNat : Int) := by
  have h := u8_or_nat (m % 256) 128 (by omega) (by omega)
  rw [or128 _ (by omega)] at h
  rw [show ((m : Int) % 256) = ((m % 256 : Nat) : Int) by omega, show (128 : Int) = ((128 : Nat) : Int) from rfl, h]
  simp; omega

set_option maxRecDepth 20000 in
set_option maxHeartbeats 400000 in
theorem sevens_any (u : Nat) (w : World) (hu : u < 18446744073709551616) :
    Calls Tryz.prog 102 #[.int .u64 u] w fun e w' => ∃ v, e = .returned v ∧ OwnB w' w.heap.size v (sevens u) ∧ Below w.heap.size w w' := by
  have HU := Lib.hid hu
  clear hu
  go_enter Tryz.func102, Tryz.ntmps102
  (repeat' (first | fail | ((fail_if_success at_builtin); first | go_values | go_skip | go_guarded | go_step | go_upon | go_back)))
  go_loopw [0, 3] (fun x v wr => ∃ (m : Nat) (pre : Bs), x = .int .u64 m ∧ m ≤ u ∧ sevens u = pre ++ sevens m ∧ OwnB wr w.heap.size v pre ∧ Below w.heap.size w wr)
    (fun x _ _ => (intOf x).toNat)
  case atStart => exact ⟨u, [], rfl, Nat.le_refl _, rfl, OwnB.nil _ _, Below.refl _ _⟩
  case round =>
    obtain ⟨m, pre, rfl, hm, hs, hown, hb⟩ := hrel
    have hpl : pre.length ≤ 10 := by have := congrArg List.length hs; have := sevens_len HU.out; simp at *; omega
    have HS := Lib.hid hs
    clear hs
    have hsz := hb.size
    by_cases h : m < 128
    · have hx : Hid ((m : Int) = ((UInt8.ofNat m).toNat : Int)) := Lib.hid (by simp; omega)
      (repeat' (first | (at_builtin; refine wp_appB rfl _ _ rfl w.heap.size _ pre [UInt8.ofNat m] rfl (hown.kept (fun b hb hlt => Below.heap_alloc _ _ _ hlt)) (some ⟨wr.heap.size, 0, none⟩) 1 rfl (bts_one hx.out) (by show pre.length + 1 ≤ _; omega) (by rw [World.size_alloc]; omega) ?_; intro v' w' hown' hg') | ((fail_if_success at_builtin); first | go_values | go_skip | go_guarded | go_step | go_upon | go_back)))
      refine bodyPost_ret (results_tmp rfl _ _ _) rfl ⟨_, rfl, ?_, ?_⟩
      · rw [HS.out, sevens_lt h]; exact hown'
      · exact (hb.alloc hsz _).grown hg' (by rw [World.size_alloc]; omega) (fun k hk => (hown.row k hk).1)
    · have hx : Hid (bits BinOp.or IntKind.u8 ((m : Int) % 256) 128 = ((UInt8.ofNat (m % 128 + 128)).toNat : Int)) := Lib.hid (byte_or m)
      (repeat' (first | (at_builtin; refine wp_appB rfl _ _ rfl w.heap.size _ pre [UInt8.ofNat (m % 128 + 128)] rfl (hown.kept (fun b hb hlt => Below.heap_alloc _ _ _ hlt)) (some ⟨wr.heap.size, 0, none⟩) 1 rfl (bts_one hx.out) (by show pre.length + 1 ≤ _; omega) (by rw [World.size_alloc]; omega) ?_; intro v' w' hown' hg') | ((fail_if_success at_builtin); first | go_values | go_skip | go_guarded | go_step | go_upon | go_back)))
      go_roundw
      case rel => exact ⟨m / 128, pre ++ [UInt8.ofNat (m % 128 + 128)], by simp, by omega, by rw [HS.out, sevens_ge (by omega)]; simp, hown', (hb.alloc hsz _).grown hg' (by rw [World.size_alloc]; omega) (fun k hk => (hown.row k hk).1)⟩
      case measure => simp [intOf]; omega

set_option maxHeartbeats 400000 in
theorem clone_any (w : World) (ax : Option Addr) (c : Nat) (ys : Bs) (hy : BS w ax c ys) (hl : ys.length ≤ 35184372088832) :
    Calls Tryz.prog 65 #[.slice ax ys.length c] w fun e w' => ∃ v, e = .returned v ∧ OwnB w' w.heap.size v ys ∧ Below w.heap.size w w' := by
  have HL := Lib.hid hl
  clear hl
  cases ax with
  | none =>
    obtain ⟨rfl, rfl⟩ := hy.nil_
    have hn : ∀ W, (binOp .eql 27 (.slice none 0 0) (.slice none 0 0)).run Tryz.prog W = .ok (.bool true) W := fun W => run_bnil W none 0 0
    go_enter Tryz.func65, Tryz.ntmps65
    (repeat' (first | fail | ((fail_if_success at_builtin); first | go_values | go_skip | go_guarded | go_step | go_upon | go_back)))
    refine bodyPost_ret (results_tmp rfl _ _ _) rfl ⟨_, rfl, OwnB.nil _ _, Below.refl _ _⟩
  | some ad =>
    have hn : ∀ W, (binOp .eql 27 (.slice (some ad) ys.length c) (.slice none 0 0)).run Tryz.prog W = .ok (.bool false) W := fun W => run_bnil W (some ad) ys.length c
    have hb1 := (Below.refl w.heap.size w).alloc (Nat.le_refl _) (.cells #[] 5)
    have ho := own_empty w w.heap.size (Nat.le_refl _)
    go_enter Tryz.func65, Tryz.ntmps65
    (repeat' (first | (at_builtin; refine wp_appB rfl _ _ rfl w.heap.size _ [] ys rfl ho (some ad) c rfl (hy.below hb1) (by have := HL.out; simp; omega) (by rw [World.size_alloc]; omega) ?_; intro v' w' hown' hg') | ((fail_if_success at_builtin); first | go_values | go_skip | go_guarded | go_step | go_upon | go_back)))
    refine bodyPost_ret (results_tmp rfl _ _ _) rfl ⟨v', rfl, hown', hb1.grown hg' (by rw [World.size_alloc]; omega) (fun k hk => (ho.row k hk).1)⟩

set_option maxHeartbeats 400000 in
theorem wnumber_any (w : World) (n0 b : Nat) (e : Int) (xs : Bs) (hW : Wr w n0 b e xs) (x : Nat) (hx : x < 9223372036854775808) (hl : xs.length ≤ 35184372088832) (hn : n0 ≤ w.heap.size) :
    Calls Tryz.prog 43 #[.pointer (some ⟨b, 0, none⟩), .int .i64 x] w fun e' w' => e' = .returned (.tuple #[]) ∧
      Wr w' n0 b e (lay e xs (sevens x)) ∧ FrW b n0 w w' := by
  have HX : Hid (x < 18446744073709551616) := Lib.hid (by omega)
  have HL := Lib.hid hl
  clear hx hl
  have hsl := sevens_len HX.out
  go_enter Tryz.func43, Tryz.ntmps43
  (repeat' (first | (go_at_call 102; rw [show IntKind.u64.wrap (x : Int) = x from IntWalk.u64_in _ (by have := HX.out; omega)]; refine (sevens_any x _ HX.out).mono ?_; rintro e1 w1 ⟨v, rfl, ho, hb⟩; obtain ⟨a, c, rfl, hbt, -⟩ := ho.shape; dsimp only) | (go_at_call 101; refine (lay_any _ n0 b e xs (hW.below hb) a c (sevens x) hbt (by have := HL.out; omega)).mono ?_; rintro e1 w2 ⟨rfl, hW2, hf2⟩; skip; dsimp only) | ((fail_if_success at_builtin); first | go_values | go_skip | go_guarded | go_step | go_upon | go_back)))
  refine bodyPost_end (results_none rfl _ _ _) rfl ⟨rfl, hW2, FrW.before hb hf2⟩

theorem xor_ones (m : Nat) (h : m < 18446744073709551616) : m ^^^ 18446744073709551615 = 18446744073709551615 - m := by
  have e : (BitVec.ofNat 64 m ^^^ BitVec.allOnes 64).toNat = (~~~ BitVec.ofNat 64 m).toNat := by rw [BitVec.xor_allOnes]
  rw [BitVec.toNat_xor, BitVec.toNat_allOnes, BitVec.toNat_not, BitVec.toNat_ofNat, Nat.mod_eq_of_lt (by simpa using h)] at e
  exact e
theorem zig_xor (x : Int) (h : -9223372036854775808 ≤ x ∧ x < 9223372036854775808) :
    bits BinOp.xor IntKind.u64 (IntKind.u64.wrap (IntKind.u64.wrap x * 2)) (IntKind.u64.wrap (x / 9223372036854775808)) = (zig x : Int) := by
  rcases Int.lt_or_le x 0 with h0 | h0
  · have e1 : IntKind.u64.wrap (IntKind.u64.wrap x * 2) = ((2 * x + 18446744073709551616).toNat : Int) := by
      simp only [IntKind.wrap_u64]; omega
    have e2 : IntKind.u64.wrap (x / 9223372036854775808) = ((18446744073709551615 : Nat) : Int) := by
      simp only [IntKind.wrap_u64]; omega
    rw [e1, e2, u64_xor_nat _ _ (by omega) (by omega), xor_ones _ (by omega)]
    unfold zig
    rw [if_neg (by omega)]
    omega
  · have e1 : IntKind.u64.wrap (IntKind.u64.wrap x * 2) = ((2 * x).toNat : Int) := by
      simp only [IntKind.wrap_u64]; omega
    have e2 : IntKind.u64.wrap (x / 9223372036854775808) = ((0 : Nat) : Int) := by
      simp only [IntKind.wrap_u64]; omega
    rw [e1, e2, u64_xor_nat _ _ (by omega) (by omega), Nat.xor_zero]
    unfold zig
    rw [if_pos h0]
theorem zig_lt (x : Int) (h : -9223372036854775808 ≤ x ∧ x < 9223372036854775808) : zig x < 18446744073709551616 := by unfold zig; split <;> omega

set_option maxHeartbeats 400000 in
theorem wint_any (w : World) (n0 b : Nat) (e : Int) (xs : Bs) (hW : Wr w n0 b e xs) (x : Int) (hx : -9223372036854775808 ≤ x ∧ x < 9223372036854775808) (hl : xs.length ≤ 35184372088832) (hn : n0 ≤ w.heap.size) :
    Calls Tryz.prog 181 #[.pointer (some ⟨b, 0, none⟩), .int .i64 x] w fun e' w' => e' = .returned (.tuple #[]) ∧
      Wr w' n0 b e (lay e xs (sevens (zig x))) ∧ FrW b n0 w w' := by
  have HX := Lib.hid hx
  have HL := Lib.hid hl
  clear hx hl
  have hsl := sevens_len (zig_lt x HX.out)
  go_enter Tryz.func181, Tryz.ntmps181
  (repeat' (first | (go_at_call 102; rw [zig_xor x HX.out]; refine (sevens_any (zig x) _ (zig_lt x HX.out)).mono ?_; rintro e1 w1 ⟨v, rfl, ho, hb⟩; obtain ⟨a, c, rfl, hbt, -⟩ := ho.shape; dsimp only) | (go_at_call 101; refine (lay_any _ n0 b e xs (hW.below hb) a c (sevens (zig x)) hbt (by have := HL.out; omega)).mono ?_; rintro e1 w2 ⟨rfl, hW2, hf2⟩; skip; dsimp only) | ((fail_if_success at_builtin); first | go_values | go_skip | go_guarded | go_step | go_upon | go_back)))
  refine bodyPost_end (results_none rfl _ _ _) rfl ⟨rfl, hW2, FrW.before hb hf2⟩

set_option maxHeartbeats 400000 in
theorem wbyte_any (w : World) (n0 b : Nat) (e : Int) (xs : Bs) (hW : Wr w n0 b e xs) (x : UInt8) (hl : xs.length ≤ 35184372088832) (hn : n0 ≤ w.heap.size) :
    Calls Tryz.prog 105 #[.pointer (some ⟨b, 0, none⟩), .int .u8 (x.toNat : Int)] w fun e' w' => e' = .returned (.tuple #[]) ∧
      Wr w' n0 b e (lay e xs [x]) ∧ FrW b n0 w w' := by
  have HL := Lib.hid hl
  clear hl
  have hb1 := (Below.refl w.heap.size w).alloc (Nat.le_refl _) (.cells #[.int .u8 (x.toNat : Int)] 5)
  go_enter Tryz.func105, Tryz.ntmps105
  (repeat' (first | (go_at_call 101; refine (lay_any _ n0 b e xs (hW.below hb1) (some ⟨w.heap.size, 0, none⟩) 1 [x] (bts_one rfl) (by have := HL.out; show xs.length + 1 ≤ _; omega)).mono ?_; rintro e1 w2 ⟨rfl, hW2, hf2⟩; skip; dsimp only) | ((fail_if_success at_builtin); first | go_values | go_skip | go_guarded | go_step | go_upon | go_back)))
  refine bodyPost_end (results_none rfl _ _ _) rfl ⟨rfl, hW2, FrW.before hb1 hf2⟩

set_option maxHeartbeats 400000 in
theorem wdata_any (w : World) (n0 b : Nat) (e : Int) (xs : Bs) (hW : Wr w n0 b e xs) (hl : xs.length ≤ 35184372088832) :
    Calls Tryz.prog 45 #[.pointer (some ⟨b, 0, none⟩)] w fun e' w' => ∃ v, e' = .returned v ∧ OwnB w' w.heap.size v xs ∧ Below w.heap.size w w' := by
  obtain ⟨hb, v, hblk, hown⟩ := hW
  obtain ⟨a, c, rfl, hbt, -⟩ := hown.shape
  have HL := Lib.hid hl
  clear hl
  have c0 := blk_cell hblk 0
  simp at c0
  go_enter Tryz.func45, Tryz.ntmps45
  (repeat' (first | (go_at_call 65; refine (clone_any _ a c xs hbt HL.out).mono ?_; rintro e1 w1 ⟨v, rfl, ho, hb⟩; skip; dsimp only) | ((fail_if_success at_builtin); first | go_values | go_skip | go_guarded | go_step | go_upon | go_back)))
  refine bodyPost_ret (results_tmp rfl _ _ _) rfl ⟨v, rfl, ho, hb⟩


set_option maxHeartbeats 400000 in
theorem wtext1_any (w : World) (n0 b : Nat) (e : Int) (xs : Bs) (hW : Wr w n0 b e xs) (s : ByteArray) (b1 b2 : Nat) (hl : xs.length ≤ 35184372088832) (hs : s.size ≤ 35184372088832) (hn : n0 ≤ w.heap.size)
    (h1 : w.heap[b1]? = some (.cells #[.pointer (some ⟨b, 0, none⟩)] 181 (0, 0))) (h2 : w.heap[b2]? = some (.cells #[.string s] 9 (0, 0))) :
    Calls Tryz.prog 178 #[.pointer (some ⟨b1, 0, none⟩), .pointer (some ⟨b2, 0, none⟩)] w fun e' w' => e' = .returned (.tuple #[]) ∧
      Wr w' n0 b e (lay e xs (sevens s.size)) ∧ FrW b n0 w w' := by
  have c1 := blk_cell h1 0
  have c2 := blk_cell h2 0
  simp at c1 c2
  have HL := Lib.hid hl
  have HS := Lib.hid hs
  clear hl hs
  go_enter Tryz.func178, Tryz.ntmps178
  (repeat' (first | (go_at_call 43; refine (wnumber_any _ n0 b e xs hW s.size (by have := HS.out; omega) HL.out hn).mono ?_; rintro e1 w2 ⟨rfl, hW2, hf2⟩; skip; dsimp only) | ((fail_if_success at_builtin); first | go_values | go_skip | go_guarded | go_step | go_upon | go_back)))
  refine bodyPost_end (results_none rfl _ _ _) rfl ⟨rfl, hW2, hf2⟩

set_option maxHeartbeats 400000 in
theorem wtext2_any (w : World) (n0 b : Nat) (e : Int) (xs : Bs) (hW : Wr w n0 b e xs) (s : ByteArray) (b1 b2 : Nat) (hl : xs.length ≤ 35184372088842) (hs : s.size ≤ 35184372088832)
    (h1 : w.heap[b1]? = some (.cells #[.pointer (some ⟨b, 0, none⟩)] 181 (0, 0))) (h2 : w.heap[b2]? = some (.cells #[.string s] 9 (0, 0))) :
    Calls Tryz.prog 179 #[.pointer (some ⟨b1, 0, none⟩), .pointer (some ⟨b2, 0, none⟩)] w fun e' w' => e' = .returned (.tuple #[]) ∧
      Wr w' n0 b e (lay e xs (s.data.toList)) ∧ FrW b n0 w w' := by
  have c1 := blk_cell h1 0
  have c2 := blk_cell h2 0
  simp at c1 c2
  have HL := Lib.hid hl
  have HS := Lib.hid hs
  clear hl hs
  have hcv := fun W => run_sbytes W s
  have hb1 : Below w.heap.size w (w.alloc (.cells (bytesRow s (grownCap w s.size 0 5)) 5 ((bytesRow s (grownCap w s.size 0 5)).size, (bytesRow s (grownCap w s.size 0 5)).size + 1))).drew := ((Below.refl _ _).alloc (Nat.le_refl _) _).drew
  go_enter Tryz.func179, Tryz.ntmps179
  (repeat' ((fail_if_success at_builtin); first | go_values | go_skip | go_guarded | go_step | go_upon | go_back))
  (refine (lay_any _ n0 b e xs (hW.below hb1) (some ⟨w.heap.size, 0, none⟩) (grownCap w s.size 0 5) s.data.toList ⟨grownCap_size _ _ _ _, (fun h => nomatch h), bts_conv _ _ _ _⟩ (by have := HL.out; have := HS.out; show xs.length + s.size ≤ _; omega)).mono ?_; rintro e1 w2 ⟨rfl, hW2, hf2⟩; dsimp only; (repeat' ((fail_if_success at_builtin); first | go_values | go_skip | go_guarded | go_step | go_upon | go_back)))
  refine bodyPost_end (results_none rfl _ _ _) rfl ⟨rfl, hW2, FrW.before hb1 hf2⟩

set_option maxHeartbeats 1000000 in
theorem wtext_any (w : World) (n0 b : Nat) (e : Int) (xs : Bs) (hW : Wr w n0 b e xs) (s : ByteArray) (hl : xs.length ≤ 35184372088832) (hs : s.size ≤ 35184372088832) (hn : n0 ≤ w.heap.size) :
    Calls Tryz.prog 108 #[.pointer (some ⟨b, 0, none⟩), .string s] w fun e' w' => e' = .returned (.tuple #[]) ∧
      Wr w' n0 b e (lay e xs (text s.data.toList)) ∧ FrW b n0 w w' := by
  have HL := Lib.hid hl
  have HS := Lib.hid hs
  clear hl hs
  have hbl := blk_lt hW.2.choose_spec.1
  have hsl := sevens_len (u := s.size) (by have := HS.out; omega)
  obtain ⟨W1, hW1⟩ : ∃ W1, W1 = ((w.alloc (.cells #[.pointer (some ⟨b, 0, none⟩)] 181)).alloc (.cells #[.string s] 9)).alloc (.cells #[.func (.func 178) #[] #[.pointer (some ⟨w.heap.size, 0, none⟩), .pointer (some ⟨w.heap.size + 1, 0, none⟩)], .func (.func 179) #[] #[.pointer (some ⟨w.heap.size, 0, none⟩), .pointer (some ⟨w.heap.size + 1, 0, none⟩)]] 1) := ⟨_, rfl⟩
  have hb1 : Below w.heap.size w W1 := by rw [hW1]; exact (((Below.refl _ _).alloc (Nat.le_refl _) _).alloc (by simp) _).alloc (by simp; omega) _
  have k0 : W1.heap[w.heap.size]? = some (.cells #[.pointer (some ⟨b, 0, none⟩)] 181 (0, 0)) := by rw [hW1]; exact blk_alloc (blk_alloc (blk_new _ _) _) _
  have k1 : W1.heap[w.heap.size + 1]? = some (.cells #[.string s] 9 (0, 0)) := by rw [hW1, ← World.size_alloc w (.cells #[.pointer (some ⟨b, 0, none⟩)] 181)]; exact blk_alloc (blk_new _ _) _
  have k2 : W1.heap[w.heap.size + 1 + 1]? = some (.cells #[.func (.func 178) #[] #[.pointer (some ⟨w.heap.size, 0, none⟩), .pointer (some ⟨w.heap.size + 1, 0, none⟩)], .func (.func 179) #[] #[.pointer (some ⟨w.heap.size, 0, none⟩), .pointer (some ⟨w.heap.size + 1, 0, none⟩)]] 1 (0, 0)) := by
    rw [hW1, show w.heap.size + 1 + 1 = ((w.alloc (.cells #[.pointer (some ⟨b, 0, none⟩)] 181)).alloc (.cells #[.string s] 9)).heap.size by simp]; exact blk_new _ _
  have hn1 : n0 ≤ W1.heap.size := Nat.le_trans hn hb1.size
  have HW1 := Lib.hid hW1
  clear hW1
  go_enter Tryz.func108, Tryz.ntmps108
  (repeat' ((fail_if_success at_builtin); first | go_values | go_skip | go_guarded | go_step | go_upon | go_back))
  refine wp_loop_rounds 3 ?_
  rw [rounds_succ]
  (repeat' ((fail_if_success at_builtin); first | go_values | go_skip | go_guarded | go_step | go_upon | go_back))
  rw [← HW1.out]
  refine (wtext1_any W1 n0 b e xs (hW.below hb1) s _ _ HL.out HS.out hn1 k0 k1).mono ?_
  rintro e1 w1 ⟨rfl, hW2, hf2⟩
  dsimp only
  have m0 := hf2.blk k0 (by omega) (by decide)
  have m1 := hf2.blk k1 (by omega) (by decide)
  have m2 := hf2.blk k2 (by omega) (by decide)
  have d1 := blk_cell m2 1
  simp at d1
  (repeat' ((fail_if_success at_builtin); first | go_values | go_skip | go_guarded | go_step | go_upon | go_back))
  rw [rounds_succ]
  (repeat' ((fail_if_success at_builtin); first | go_values | go_skip | go_guarded | go_step | go_upon | go_back))
  refine (wtext2_any w1 n0 b e _ hW2 s _ _ ?_ HS.out m0 m1).mono ?_
  · have := HL.out
    have := lay_len e xs (sevens s.size)
    omega
  rintro e1 w3 ⟨rfl, hW3, hf3⟩
  dsimp only
  (repeat' ((fail_if_success at_builtin); first | go_values | go_skip | go_guarded | go_step | go_upon | go_back))
  rw [rounds_succ]
  (repeat' ((fail_if_success at_builtin); first | go_values | go_skip | go_guarded | go_step | go_upon | go_back))
  refine bodyPost_end (results_none rfl _ _ _) rfl ⟨rfl, ?_, FrW.before hb1 (FrW.trans hf2 hf3)⟩
  have : (s.data.toList).length = s.size := rfl
  rw [lay_lay, ← this] at hW3
  exact hW3
end Go.Proofs.YtbppnihcbcdglaaGreat
namespace Go.Proofs.YtbppnihcbcdglaaGreat
open Go.RowKit
set_option linter.unusedVariables false
set_option linter.unusedSimpArgs false

/-- The block that an address names is one of bytes. -/
def TyB (w : World) (a : Option Addr) : Prop := ∀ (g o : Nat), a = some ⟨g, o, none⟩ → ∃ (cur : Array Value) (f : Nat × Nat), w.heap[g]? = some (.cells cur 5 f)
theorem TyB.kept {w w' : World} {a : Option Addr} (h : TyB w a) (hk : ∀ (g : Nat) (cur : Array Value) (f : Nat × Nat), w.heap[g]? = some (.cells cur 5 f) → w'.heap[g]? = some (.cells cur 5 f)) : TyB w' a := fun g o e => by
  obtain ⟨cur, f, hg⟩ := h g o e
  exact ⟨cur, f, hk g cur f hg⟩
theorem TyB.set {w : World} {a : Option Addr} (h : TyB w a) (b i : Nat) (u : Value) : TyB (w.setCell ⟨b, i, none⟩ u) a := fun g o e => by
  obtain ⟨cur, f, hg⟩ := h g o e
  by_cases hb : g = b
  · subst hb; exact ⟨_, _, blk_set hg i u⟩
  · exact ⟨cur, f, blk_set_other hg hb i u⟩
theorem TyB.below {w w' : World} {a : Option Addr} (h : TyB w a) (hb : Below w.heap.size w w') : TyB w' a := h.kept fun g cur f hg => blk_below hb hg (blk_lt hg)
/-- A Reader at block b. -/
def Rd (w : World) (b : Nat) (r : RS) : Prop :=
  ∃ a c, w.heap[b]? = some (.cells #[.slice a r.d.length c, .int .i64 (r.i : Int), .int .i64 r.e] 207 (0, 0)) ∧ BS w a c r.d ∧ r.i ≤ r.d.length ∧ r.d.length ≤ 17592186044416 ∧ TyB w a
theorem BS.drewN {w : World} {a : Option Addr} {c : Nat} {xs : Bs} (h : BS w a c xs) (n : Nat) : BS (w.drewN n) a c xs := ⟨h.le, h.nil, h.at_⟩
theorem BS.drew {w : World} {a : Option Addr} {c : Nat} {xs : Bs} (h : BS w a c xs) : BS w.drew a c xs := ⟨h.le, h.nil, h.at_⟩
theorem Rd.drewN {w : World} {b : Nat} {r : RS} (h : Rd w b r) (n : Nat) : Rd (w.drewN n) b r := by
  obtain ⟨a, c, h1, h2, h3⟩ := h
  exact ⟨a, c, h1, h2.drewN n, h3⟩
theorem Rd.lt {w : World} {b : Nat} {r : RS} (h : Rd w b r) : b < w.heap.size := by obtain ⟨a, c, h1, _⟩ := h; exact blk_lt h1
theorem BS.not_in {w : World} {a : Option Addr} {c : Nat} {xs : Bs} (h : BS w a c xs) {b : Nat} {x : Value} {e : Int} {cs : Array Value} {t : TypeId} {f : Nat × Nat} (hb : w.heap[b]? = some (.cells cs t f)) (hn : ∀ v, v ∈ cs.toList → ∀ u, v ≠ B u) : xs = [] ∨ ∃ g o, a = some ⟨g, o, none⟩ ∧ g ≠ b := by
  rcases h.at_ with h0 | ⟨g, o, rfl, hc⟩
  · exact .inl h0
  · by_cases hg : g = b
    · subst hg
      refine .inl ?_
      cases hx : xs with
      | nil => rfl
      | cons y ys =>
        have h0 := hc 0 y (by rw [hx]; rfl)
        rw [blk_cell hb] at h0
        exact absurd rfl (hn (B y) (Array.mem_toList_iff.2 (Array.mem_of_getElem? h0)) y)
    · exact .inr ⟨g, o, rfl, hg⟩
/-- A Reader whose place is written. -/
theorem Rd.setAt {w : World} {b : Nat} {r : RS} (h : Rd w b r) (i : Nat) (hi : i ≤ r.d.length) : Rd (w.setCell ⟨b, 1, none⟩ (.int .i64 (i : Int))) b { r with i := i } := by
  obtain ⟨a, c, h1, h2, h3, h4⟩ := h
  exact ⟨a, c, blk_set h1 1 _, h2.set h1 (by simp [B]) _ _, hi, h4.1, h4.2.set _ _ _⟩
theorem Rd.setE {w : World} {b : Nat} {r : RS} (h : Rd w b r) (e : Int) : Rd (w.setCell ⟨b, 2, none⟩ (.int .i64 e)) b { r with e := e } := by
  obtain ⟨a, c, h1, h2, h3, h4⟩ := h
  exact ⟨a, c, blk_set h1 2 _, h2.set h1 (by simp [B]) _ _, h3, h4.1, h4.2.set _ _ _⟩
/-- What the walk wants of a Reader. -/
theorem Rd.cells {w : World} {b : Nat} {r : RS} (h : Rd w b r) : ∃ a c, w.cell? ⟨b, 0, none⟩ = some (.slice a r.d.length c) ∧ w.cell? ⟨b, 1, none⟩ = some (.int .i64 (r.i : Int)) ∧ w.cell? ⟨b, 2, none⟩ = some (.int .i64 r.e) ∧ w.frozen? ⟨b, 1, none⟩ = false ∧ w.frozen? ⟨b, 2, none⟩ = false ∧ BS w a c r.d ∧ r.i ≤ r.d.length ∧ r.d.length ≤ 17592186044416 := by
  obtain ⟨a, c, h1, h2, h3, h4⟩ := h
  obtain ⟨p0, p1, p2, f0, f1, f2⟩ := blk3 h1
  exact ⟨a, c, p0, p1, p2, f1, f2, h2, h3, h4.1⟩

theorem Rd.byteAt {w : World} {b : Nat} {r : RS} (h : Rd w b r) {i : Nat} (hi : i < r.d.length) : ∃ g o c, w.cell? ⟨b, 0, none⟩ = some (.slice (some ⟨g, o, none⟩) r.d.length c) ∧ g ≠ b ∧ w.cell? ⟨g, o + i, none⟩ = some (.int .u8 (r.d[i].toNat : Int)) := by
  obtain ⟨a, c, h1, h2, h3, h4⟩ := h
  rcases h2.not_in (x := .nilIface) (e := 0) h1 (by simp [B]) with h5 | ⟨g, o, rfl, hg⟩
  · rw [h5] at hi; simp at hi
  · refine ⟨g, o, c, blk_cell h1 0, hg, ?_⟩
    rcases h2.at_ with h5 | ⟨g', o', e, hc⟩
    · rw [h5] at hi; simp at hi
    · cases e
      exact hc i _ (List.getElem?_eq_getElem hi)

theorem Fr.setB {w w' : World} {b : Nat} (h : Fr w w' (fun k => k = b)) (i : Nat) (u : Value) : Fr w (w'.setCell ⟨b, i, none⟩ u) (fun k => k = b) := Fr.setCell (p := ⟨b, i, none⟩) h (.inl rfl) u
theorem stopped_no (w : World) (b : Nat) (r : RS) (h : Rd w b r) (h0 : r.e = 0) :
    Calls Tryz.prog 170 #[.pointer (some ⟨b, 0, none⟩)] w fun e' w' => e' = .returned (.bool false) ∧ w = w' := by
  obtain ⟨a, c, p0, p1, p2, f1, f2, hs, hi, hl⟩ := h.cells
  rw [h0] at p2
  clear hl hi hs
  go_enter Tryz.func170, Tryz.ntmps170
  (repeat' ((fail_if_success at_builtin); first | go_values | go_skip | go_guarded | go_step | go_upon | go_back))
  refine bodyPost_ret (results_tmp rfl _ _ _) rfl ⟨rfl, rfl⟩
theorem stopped_yes (w : World) (b : Nat) (r : RS) (h : Rd w b r) (h0 : r.e ≠ 0) :
    Calls Tryz.prog 170 #[.pointer (some ⟨b, 0, none⟩)] w fun e' w' => e' = .returned (.bool true) ∧ w = w' := by
  obtain ⟨a, c, p0, p1, p2, f1, f2, hs, hi, hl⟩ := h.cells
  clear hl hi hs
  have h0' : (r.e != 0) = true := by simpa using h0
  go_enter Tryz.func170, Tryz.ntmps170
  (repeat' ((fail_if_success at_builtin); first | go_values | go_skip | go_guarded | go_step | go_upon | go_back))
  refine bodyPost_ret (results_tmp rfl _ _ _) rfl ⟨rfl, rfl⟩

theorem left_any (w : World) (b : Nat) (r : RS) (h : Rd w b r) :
    Calls Tryz.prog 121 #[.pointer (some ⟨b, 0, none⟩)] w fun e' w' => e' = .returned (.int .i64 ((r.d.length - r.i : Nat) : Int)) ∧ ∃ n, w.drewN n = w' := by
  obtain ⟨a, c, p0, p1, p2, f1, f2, hs, hi, hl⟩ := h.cells
  go_enter Tryz.func121, Tryz.ntmps121
  (repeat' ((fail_if_success at_builtin); first | go_values | go_skip | go_guarded | go_step | go_upon | go_back))
  go_quiet (fail)
  (repeat' ((fail_if_success at_builtin); first | go_values | go_skip | go_guarded | go_step | go_upon | go_back))
  refine bodyPost_ret (results_tmp rfl _ _ _) rfl ⟨?_, _, rfl⟩
  show Ending.returned (.int .i64 _) = Ending.returned (.int .i64 _)
  congr 2
  omega

theorem err_no (w : World) (b : Nat) (r : RS) (h : Rd w b r) (h0 : r.e = 0) :
    Calls Tryz.prog 120 #[.pointer (some ⟨b, 0, none⟩)] w fun e' w' => e' = .returned (.tuple #[.int .i64 0, .int .i64 0]) ∧ ∃ n, w.drewN n = w' := by
  obtain ⟨a, c, p0, p1, p2, f1, f2, hs, hi, hl⟩ := h.cells
  rw [h0] at p2
  clear hl hi hs
  go_enter Tryz.func120, Tryz.ntmps120
  (repeat' ((fail_if_success at_builtin); first | go_values | go_skip | go_guarded | go_step | go_upon | go_back))
  refine bodyPost_ret (results_tmp2 rfl _ _ _) rfl ⟨rfl, 0, rfl⟩
theorem err_yes (w : World) (b : Nat) (r : RS) (h : Rd w b r) (h0 : r.e ≠ 0) :
    Calls Tryz.prog 120 #[.pointer (some ⟨b, 0, none⟩)] w fun e' w' => e' = .returned (.tuple #[.int .i64 r.e, .int .i64 (r.i : Int)]) ∧ ∃ n, w.drewN n = w' := by
  obtain ⟨a, c, p0, p1, p2, f1, f2, hs, hi, hl⟩ := h.cells
  clear hl hi hs
  have h0' : (r.e == 0) = false := by simpa using h0
  go_enter Tryz.func120, Tryz.ntmps120
  (repeat' ((fail_if_success at_builtin); first | go_values | go_skip | go_guarded | go_step | go_upon | go_back))
  go_quiet (fail)
  (repeat' ((fail_if_success at_builtin); first | go_values | go_skip | go_guarded | go_step | go_upon | go_back))
  refine bodyPost_ret (results_tmp2 rfl _ _ _) rfl ⟨rfl, _, rfl⟩

theorem end_any (w : World) (b : Nat) (r : RS) (h : Rd w b r) :
    Calls Tryz.prog 57 #[.pointer (some ⟨b, 0, none⟩)] w fun e' w' => e' = .returned (.int .i64 r.end_) ∧ ∃ n, w.drewN n = w' := by
  by_cases h0 : r.e = 0
  · go_enter Tryz.func57, Tryz.ntmps57
    (repeat' ((fail_if_success at_builtin); first | go_values | go_skip | go_guarded | go_step | go_upon | go_back))
    (refine (err_no w b r h h0).mono ?_; rintro e1 w1 ⟨rfl, n1, rfl⟩; dsimp only; (repeat' ((fail_if_success at_builtin); first | go_values | go_skip | go_guarded | go_step | go_upon | go_back)))
    refine (left_any _ b r (h.drewN n1)).mono ?_
    rintro e1 w2 ⟨rfl, n2, rfl⟩
    dsimp only
    by_cases h1 : r.i < r.d.length
    · have h2 : 0 < r.d.length - r.i := by omega
      have h3 : r.end_ = 3 := by simp [RS.end_, h0, h1]
      (repeat' ((fail_if_success at_builtin); first | go_values | go_skip | go_guarded | go_step | go_upon | go_back))
      refine bodyPost_ret (results_tmp rfl _ _ _) rfl ⟨by rw [h3]; rfl, n1 + n2, rfl⟩
    · have h2 : r.d.length - r.i = 0 := by omega
      have h3 : r.end_ = 0 := by simp [RS.end_, h0, h1]
      rw [h2]
      clear h2
      (repeat' ((fail_if_success at_builtin); first | go_values | go_skip | go_guarded | go_step | go_upon | go_back))
      refine bodyPost_ret (results_tmp rfl _ _ _) rfl ⟨by rw [h3]; rfl, n1 + n2, rfl⟩
  · have h0' : (r.e == 0) = false := by simpa using h0
    have h3 : r.end_ = r.e := by simp [RS.end_, h0]
    have H3 := Lib.hid h3
    clear h3
    go_enter Tryz.func57, Tryz.ntmps57
    (repeat' ((fail_if_success at_builtin); first | go_values | go_skip | go_guarded | go_step | go_upon | go_back))
    (refine (err_yes w b r h h0).mono ?_; rintro e1 w1 ⟨rfl, n1, rfl⟩; dsimp only; (repeat' ((fail_if_success at_builtin); first | go_values | go_skip | go_guarded | go_step | go_upon | go_back)))
    refine bodyPost_ret (results_tmp rfl _ _ _) rfl ⟨by rw [H3.out]; rfl, n1, rfl⟩

theorem byte_any (w : World) (b : Nat) (r : RS) (h : Rd w b r) :
    Calls Tryz.prog 97 #[.pointer (some ⟨b, 0, none⟩)] w fun e' w' => e' = .returned (.int .u8 (r.byte.1.toNat : Int)) ∧ Rd w' b r.byte.2 ∧ Fr w w' (fun k => k = b) := by
  obtain ⟨a, c, p0, p1, p2, f1, f2, hs, hi, hl⟩ := h.cells
  by_cases h0 : r.e = 0
  · rcases Nat.lt_or_ge r.i r.d.length with h1 | h1
    · obtain ⟨g, o, c', p0, hne, hc⟩ := h.byteAt h1
      have hb : r.byte = (r.d[r.i], { r with i := r.i + 1 }) := by simp [RS.byte, h0, List.getElem?_eq_getElem h1]
      have HB := Lib.hid hb
      clear hb
      have hR := fun (n : Nat) => (h.drewN n).setAt (r.i + 1) h1
      go_enter Tryz.func97, Tryz.ntmps97
      (repeat' ((fail_if_success at_builtin); first | go_values | go_skip | go_guarded | go_step | go_upon | go_back))
      (refine (stopped_no w b r h h0).mono ?_; rintro e1 w1 ⟨rfl, rfl⟩; dsimp only; (repeat' ((fail_if_success at_builtin); first | go_values | go_skip | go_guarded | go_step | go_upon | go_back)))
      go_quiet (fail)
      (repeat' ((fail_if_success at_builtin); first | go_values | go_skip | go_guarded | go_step | go_upon | go_back))
      have h1' : (r.i : Int) < (r.d.length : Int) := by omega
      have hi0 : (0 : Int) ≤ (r.i : Int) := Int.natCast_nonneg _
      have hR1 := hR nq
      have hF := (((Fr.refl w (fun k => k = b)).drewN nq).setB 1 (.int .i64 ((r.i + 1 : Nat) : Int)))
      rw [show ((r.i : Int) + 1) = ((r.i + 1 : Nat) : Int) from by omega]
      generalize (w.drewN nq).setCell ⟨b, 1, none⟩ (.int .i64 ((r.i + 1 : Nat) : Int)) = W1 at *
      clear p0 p1 p2 f1 f2 hc hR
      obtain ⟨g, o, c', p0, hne, hc⟩ := hR1.byteAt (i := r.i) h1
      obtain ⟨-, -, -, p1, -⟩ := hR1.cells
      dsimp only at p0 p1 hc
      go_quiet (fail)
      (repeat' ((fail_if_success at_builtin); first | go_values | go_skip | go_guarded | go_step | go_upon | go_back))
      refine bodyPost_ret (results_tmp rfl _ _ _) rfl ⟨by rw [HB.out]; rfl, by rw [HB.out]; exact hR1.drewN _, hF.drewN _⟩
    · have hb : r.byte = (0, { r with e := 2 }) := by simp [RS.byte, h0, h1]
      have HB := Lib.hid hb
      clear hb
      go_enter Tryz.func97, Tryz.ntmps97
      (repeat' ((fail_if_success at_builtin); first | go_values | go_skip | go_guarded | go_step | go_upon | go_back))
      (refine (stopped_no w b r h h0).mono ?_; rintro e1 w1 ⟨rfl, rfl⟩; dsimp only; (repeat' ((fail_if_success at_builtin); first | go_values | go_skip | go_guarded | go_step | go_upon | go_back)))
      go_quiet (fail)
      (repeat' ((fail_if_success at_builtin); first | go_values | go_skip | go_guarded | go_step | go_upon | go_back))
      refine bodyPost_ret (results_tmp rfl _ _ _) rfl ⟨by rw [HB.out]; rfl, by rw [HB.out]; exact (h.drewN nq).setE 2, ((Fr.refl w _).drewN nq).setB 2 _⟩
  · have hb : r.byte = (0, r) := by simp [RS.byte, h0]
    have HB := Lib.hid hb
    clear hb
    go_enter Tryz.func97, Tryz.ntmps97
    (repeat' ((fail_if_success at_builtin); first | go_values | go_skip | go_guarded | go_step | go_upon | go_back))
    (refine (stopped_yes w b r h h0).mono ?_; rintro e1 w1 ⟨rfl, rfl⟩; dsimp only; (repeat' ((fail_if_success at_builtin); first | go_values | go_skip | go_guarded | go_step | go_upon | go_back)))
    refine bodyPost_ret (results_tmp rfl _ _ _) rfl ⟨by rw [HB.out]; rfl, by rw [HB.out]; exact h, Fr.refl _ _⟩
end Go.Proofs.YtbppnihcbcdglaaGreat
