/- frame: the frame at a place, whole. No condition. -/
import Derived.Laws.Tables
import Derived.Deep.RegionHeld3
import Derived.Test.YtbppnihcbcdglaaGreatZ1
import Derived.Test.YtbppnihcbcdglaaGreatZ3
import Derived.Test.YtbppnihcbcdglaaGreatZ5
/- Package crc and treadleref2: sums of bytes. -/
namespace Go.Proofs.YtbppnihcbcdglaaGreat
open Go.RowKit
set_option linter.unusedVariables false
set_option linter.unusedSimpArgs false

def U (n : Nat) : Value := .int .u32 (n : Int)
/-- The table of the low four digits. -/
def tab16 : Array Value := ((List.range 16).map fun j => U (st4 j)).toArray

theorem xorPoly (s : Nat) (h : s < 4294967296) : bits BinOp.xor IntKind.u32 ((s : Int)) 2197175160 = ((s ^^^ poly : Nat) : Int) := by
  rw [show (2197175160 : Int) = ((poly : Nat) : Int) from rfl]; exact u32_xor_nat _ _ h poly_lt

set_option maxHeartbeats 1000000 in
theorem steps_any (w : World) (b : Nat) (hb : w.heap[b]? = some (.cells tab16 332 (0, 0))) (s : Nat) (hs : s < 4294967296) :
    Calls Tryz.prog 238 #[.pointer (some ⟨b, 0, none⟩), .int .u32 (s : Int)] w fun e' w' => e' = .returned (.int .u32 (st8 s : Int)) ∧ w = w' := by
  have hc : ∀ j, j < 16 → w.cell? ⟨b, j, none⟩ = some (.int .u32 ((st4 j : Nat) : Int)) := fun j hj => by
    rw [blk_cell hb]; simp [tab16, U, hj]
  have key : ∀ s : Nat, s < 4294967296 → ∃ m s2 : Nat, m < 16 ∧ st4 s = s2 ∧ s2 < 4294967296 ∧ bits BinOp.and IntKind.u32 (s : Int) 15 = (m : Int) ∧ bits BinOp.xor IntKind.u32 ((st4 m : Nat) : Int) ((s : Int) / 16) = (s2 : Int) := fun s hs => by
    refine ⟨s % 16, st4 s, by omega, rfl, st4_lt hs, ?_, ?_⟩
    · rw [show (15 : Int) = ((15 : Nat) : Int) from rfl, u32_and_nat _ _ hs (by omega)]
      congr 1
      exact Nat.and_two_pow_sub_one_eq_mod s 4
    · rw [show ((s : Int) / 16) = ((s / 16 : Nat) : Int) by omega, u32_xor_nat _ _ (st4_lt (by omega)) (by omega), ← st4_table]
  obtain ⟨m, s2, hm, he, hl, ha, hx⟩ := key s hs
  obtain ⟨m2, s4, hm2, he2, hl2, ha2, hx2⟩ := key s2 hl
  have HE : Hid (st8 s = s4) := Lib.hid (by unfold st8; rw [he, he2])
  have c1 := hc m hm
  have c2 := hc m2 hm2
  have i1 : (m : Int) < 16 := by omega
  have i2 : (m2 : Int) < 16 := by omega
  clear hc key hs hl hl2 he he2
  go_enter Tryz.func238, Tryz.ntmps238
  (repeat' ((fail_if_success at_builtin); first | go_values | go_skip | go_guarded | go_step | go_upon | go_back))
  refine bodyPost_ret (results_tmp rfl _ _ _) rfl ⟨by rw [HE.out]; rfl, rfl⟩

theorem tab16_size : tab16.size = 16 := by simp [tab16]
theorem tab16_all : tab16.all (·.oneCell') = true := by simp [tab16, U, Value.oneCell']
def stk : Nat → Nat → Nat
  | 0, s => s
  | k + 1, s => st1 (stk k s)
theorem stk_lt {s : Nat} (h : s < 4294967296) : ∀ k, stk k s < 4294967296
  | 0 => h
  | k + 1 => st1_lt (stk_lt h k)
def part (i : Nat) : Array Value := ((List.range 16).map fun j => if j < i then U (st4 j) else U 0).toArray
theorem part_16 : part 16 = tab16 := by
  unfold part tab16
  rw [List.map_congr_left (g := fun j => U (st4 j)) (fun j hj => if_pos (by simpa using hj))]
theorem part_0 : part 0 = #[.int .u32 0, .int .u32 0, .int .u32 0, .int .u32 0, .int .u32 0, .int .u32 0, .int .u32 0, .int .u32 0, .int .u32 0, .int .u32 0, .int .u32 0, .int .u32 0, .int .u32 0, .int .u32 0, .int .u32 0, .int .u32 0] := rfl
theorem part_size (i : Nat) : (part i).size = 16 := by simp [part]
theorem part_set (i : Nat) (h : i < 16) : (part i).setIfInBounds i (U (st4 i)) = part (i + 1) := by
  apply Array.ext
  · simp [part]
  · intro j h1 h2
    rw [Array.getElem_setIfInBounds (by simpa [part] using h1)]
    simp only [part, List.getElem_toArray, List.getElem_map, List.getElem_range]
    by_cases hj : i = j
    · subst hj; simp
    · rw [if_neg hj]
      by_cases hl : j < i
      · rw [if_pos hl, if_pos (by omega)]
      · rw [if_neg hl, if_neg (by omega)]
theorem and1_u32 (s : Nat) (h : s < 4294967296) : bits BinOp.and IntKind.u32 (s : Int) 1 = ((s % 2 : Nat) : Int) := by
  rw [show (1 : Int) = ((1 : Nat) : Int) from rfl, u32_and_nat _ _ h (by omega)]
  congr 1
  exact Nat.and_two_pow_sub_one_eq_mod s 1
theorem st1_yes (s : Nat) (h : s < 4294967296) (h1 : s % 2 = 1) : bits BinOp.xor IntKind.u32 ((s : Int) / 2) 2197175160 = ((st1 s : Nat) : Int) := by
  rw [show ((s : Int) / 2) = ((s / 2 : Nat) : Int) by omega, xorPoly _ (by omega)]
  unfold st1; rw [if_pos h1]
theorem st1_no (s : Nat) (h1 : ¬ s % 2 = 1) : (s : Int) / 2 = ((st1 s : Nat) : Int) := by
  unfold st1; rw [if_neg h1]; omega

set_option maxHeartbeats 1000000 in
theorem halves_any (w : World) :
    Calls Tryz.prog 237 #[] w fun e' w' => e' = .returned (.agg tab16) ∧ Below w.heap.size w w' := by
  obtain ⟨W, HW, hb1, e1, e2, hsW⟩ := box2 w (.cells #[.int .u32 0, .int .u32 0, .int .u32 0, .int .u32 0, .int .u32 0, .int .u32 0, .int .u32 0, .int .u32 0, .int .u32 0, .int .u32 0, .int .u32 0, .int .u32 0, .int .u32 0, .int .u32 0, .int .u32 0, .int .u32 0] 332) (.cells #[.int .u32 0, .int .u32 0, .int .u32 0, .int .u32 0, .int .u32 0, .int .u32 0, .int .u32 0, .int .u32 0, .int .u32 0, .int .u32 0, .int .u32 0, .int .u32 0, .int .u32 0, .int .u32 0, .int .u32 0, .int .u32 0] 332)
  rw [← part_0] at e1 e2
  go_enter Tryz.func237, Tryz.ntmps237
  (repeat' ((fail_if_success at_builtin); first | go_values | go_skip | go_guarded | go_step | go_upon | go_back))
  rw [← HW.out]
  go_loopw [2, 3, 4, 9] (fun _ _ x _ wr => ∃ i : Nat, i ≤ 16 ∧ x = .int .i64 i ∧ wr.heap[w.heap.size]? = some (.cells (part 0) 332 (0, 0)) ∧ wr.heap[w.heap.size + 1]? = some (.cells (part i) 332 (0, 0)) ∧ Below w.heap.size w wr) (fun _ _ x _ _ => 16 - (intOf x).toNat)
  case atStart => exact ⟨0, by omega, rfl, e1, e2, hb1⟩
  case round =>
    obtain ⟨i, hi, rfl, k1, k2, hb⟩ := hrel
    by_cases hlt : i < 16
    · (repeat' ((fail_if_success at_builtin); first | go_values | go_skip | go_guarded | go_step | go_upon | go_back))
      go_loopw [3, 9] (fun x y w2 => ∃ k : Nat, k ≤ 4 ∧ x = .int .u32 (stk k i : Nat) ∧ y = .int .i64 k ∧ wr = w2) (fun _ y _ => 4 - (intOf y).toNat)
      case atStart => exact ⟨0, by omega, rfl, rfl, rfl⟩
      case round =>
        obtain ⟨k, hk, rfl, rfl, rfl⟩ := hrel
        by_cases hk4 : k < 4
        · have hs := stk_lt (s := i) (by omega) k
          by_cases h1 : stk k i % 2 = 1
          · have ht : (bits BinOp.and IntKind.u32 ((stk k i : Nat) : Int) 1 == 1) = true := by rw [and1_u32 _ hs, h1]; rfl
            have hx := Lib.hid (st1_yes _ hs h1)
            clear hs h1
            (repeat' ((fail_if_success at_builtin); first | go_values | go_skip | go_guarded | go_step | go_upon | go_back))
            go_roundw
            case rel => exact ⟨k + 1, by omega, by rw [hx.out]; rfl, by go_num, trivial⟩
            case measure => simp [intOf]; omega
          · have ht : (bits BinOp.and IntKind.u32 ((stk k i : Nat) : Int) 1 == 1) = false := by rw [and1_u32 _ hs]; simp; omega
            have hx := Lib.hid (st1_no _ h1)
            clear hs h1
            (repeat' ((fail_if_success at_builtin); first | go_values | go_skip | go_guarded | go_step | go_upon | go_back))
            go_roundw
            case rel => exact ⟨k + 1, by omega, by rw [hx.out]; rfl, by go_num, trivial⟩
            case measure => simp [intOf]; omega
        · obtain rfl : k = 4 := by omega
          have hlt' : (i : Int) < 16 := by omega
          have cc : wr.cell? ⟨w.heap.size + 1, i, none⟩ = some ((part i)[i]'(by rw [part_size]; exact hlt)) := by rw [blk_cell k2]; exact Array.getElem?_eq_getElem _
          have ff := blk_free k2 i
          have hset := Lib.hid (part_set i hlt)
          have hu2 : Hid (Value.int IntKind.u32 ((stk 4 i : Nat) : Int) = U (st4 i)) := Lib.hid rfl
          (repeat' ((fail_if_success at_builtin); first | go_values | go_skip | go_guarded | go_step | go_upon | go_back))
          go_roundw
          case rel =>
            have k3 := blk_set k2 i (U (st4 i))
            rw [hset.out] at k3
            exact ⟨i + 1, by omega, by go_num, blk_set_other k1 (by omega) _ _, k3, by (repeat' (first | (with_reducible exact Below.refl _ _) | (with_reducible assumption) | (with_reducible refine Below.drew ?_) | (with_reducible refine bdrewN ?_ _) | (with_reducible refine Below.alloc ?_ ?_ _) | (with_reducible refine Below.setCell ?_ ?_ _) | omega | (simp; done) | (simp; omega)))⟩
          case measure => simp [intOf]; omega
    · obtain rfl : i = 16 := by omega
      rw [part_16] at k2
      have hsz : (Tryz.prog.info? 332).map (·.size) = some tab16.size := by rw [tab16_size]; kernel_rfl
      repeat' (first | (with_reducible show wpList _ _ _ ((⟨some 24, _, _, _, _, _⟩ : Oper) :: _) _ _; refine wpList_load_row (o := ⟨some 24, .load 332 (.tmp 1), _, _, _, none⟩) rfl 332 (.tmp 1) rfl (w.heap.size + 1) rfl 332 tab16 (0, 0) _ k2 Tryz.underlying332 rfl hsz ?_) | (with_reducible show wpList _ _ _ ((⟨none, _, _, _, _, _⟩ : Oper) :: _) _ _; refine wpList_store_row (o := ⟨none, .store 332 (.tmp 0) (.tmp 24), _, _, _, none⟩) rfl 332 (.tmp 0) (.tmp 24) rfl w.heap.size tab16 rfl rfl 332 (part 0) k1 hsz (by rw [part_size, tab16_size]) tab16_all ?_) | go_values | go_skip | go_guarded | go_step | go_upon)
      have k3 := setRow_heap wr w.heap.size (part 0) tab16 332 (0, 0) k1
      refine bodyPost_ret (v := .agg tab16) ?_ rfl ⟨rfl, ?_⟩
      · exact results_cell_row (fn := Tryz.f237) rfl _ _ w.heap.size 332 tab16 (0, 0) _ rfl k3 Tryz.underlying332 rfl hsz
      · exact hb.trans ⟨rfl, rfl, rfl, by simp [World.setRow], fun k hk => setRow_other _ _ _ _ (by omega)⟩

theorem not_u32 (s : Nat) (h : s < 4294967296) : bits BinOp.xor IntKind.u32 (if IntKind.u32.signed = true then -1 else IntKind.u32.max) (s : Int) = ((s ^^^ 4294967295 : Nat) : Int) := by
  have e : (if IntKind.u32.signed = true then (-1 : Int) else IntKind.u32.max) = ((4294967295 : Nat) : Int) := by decide
  rw [e, u32_xor_nat _ _ (by omega) h, Nat.xor_comm]

set_option maxHeartbeats 1000000 in
theorem update_any (w : World) (s : Nat) (hs : s < 4294967296) (a : Option Addr) (c : Nat) (xs : Bs) (hx : BS w a c xs) (hl : xs.length ≤ 35184372088832) :
    Calls Tryz.prog 173 #[.int .u32 (s : Int), .slice a xs.length c] w fun e' w' => e' = .returned (.int .u32 (crcUp s xs : Int)) ∧ Below w.heap.size w w' := by
  have HL := Lib.hid hl
  have HS := Lib.hid hs
  clear hl hs
  have hsz : (Tryz.prog.info? 332).map (·.size) = some tab16.size := by rw [tab16_size]; kernel_rfl
  go_enter Tryz.func173, Tryz.ntmps173
  (repeat' ((fail_if_success at_builtin); first | go_values | go_skip | go_guarded | go_step | go_upon | go_back))
  refine (halves_any w).mono ?_
  rintro e1 w1 ⟨rfl, hb1⟩
  dsimp only
  obtain ⟨W, HW, hb2, e1, hsW⟩ := box1 w1 (.cells (part 0) 332)
  repeat' (first | (with_reducible show wpList _ _ _ ((⟨none, _, _, _, _, _⟩ : Oper) :: _) _ _; rw [← part_0, ← HW.out]; refine wpList_store_row (o := ⟨none, .store 332 (.tmp 5) (.tmp 9), _, _, _, none⟩) rfl 332 (.tmp 5) (.tmp 9) rfl w1.heap.size tab16 rfl rfl 332 (part 0) e1 hsz (by rw [part_size, tab16_size]) tab16_all ?_) | go_values | go_skip | go_guarded | go_step | go_upon)
  have k3 := setRow_heap W w1.heap.size (part 0) tab16 332 (0, 0) e1
  have hb3 : Below w.heap.size w (W.setRow w1.heap.size tab16) := (hb1.trans (hb2.mono hb1.size)).trans ⟨rfl, rfl, rfl, by simp [World.setRow], fun k hk => setRow_other _ _ _ _ (by have := hb1.size; omega)⟩
  generalize W.setRow w1.heap.size tab16 = W2 at *
  rw [not_u32 s HS.out]
  go_loopw [6, 8, 14] (fun x _ y wr => ∃ k : Nat, k ≤ xs.length ∧ y = .int .i64 k ∧ x = .int .u32 (crcGo (s ^^^ 4294967295) (xs.take k) : Nat) ∧ W2 = wr) (fun _ _ y _ => xs.length - (intOf y).toNat)
  case atStart => exact ⟨0, Nat.zero_le _, rfl, rfl, rfl⟩
  case round =>
    obtain ⟨k, hk, rfl, rfl, rfl⟩ := hrel
    have hx2 := hx.below hb3
    have hk3 : (k : Int) ≤ 35184372088832 := by have := HL.out; omega
    by_cases hlt : k < xs.length
    · obtain ⟨g, o, rfl, hg, hcc⟩ := hx2.at_.at (by omega)
      have hc := hcc k _ (List.getElem?_eq_getElem hlt)
      have htk : xs.take (k + 1) = xs.take k ++ [xs[k]] := List.take_succ_eq_append_getElem hlt
      have hgo := crcGo_lt (xs.take k) (s := s ^^^ 4294967295) (Nat.xor_lt_two_pow (n := 32) HS.out (by decide))
      have hst : Hid (crcGo (s ^^^ 4294967295) (xs.take (k + 1)) = st8 (crcGo (s ^^^ 4294967295) (xs.take k) ^^^ xs[k].toNat)) := Lib.hid (by rw [htk, crcGo_snoc])
      generalize crcGo (s ^^^ 4294967295) (xs.take k) = x at *
      rw [B_eq] at hc
      have hxb : Hid (bits BinOp.xor IntKind.u32 (x : Int) ((xs[k].toNat : Int) % 4294967296) = ((x ^^^ xs[k].toNat : Nat) : Int)) := Lib.hid (by rw [show ((xs[k].toNat : Int) % 4294967296) = ((xs[k].toNat : Nat) : Int) by have := xs[k].toNat_lt; omega]; exact u32_xor_nat x xs[k].toNat hgo (by have := xs[k].toNat_lt; omega))
      have hlx := Lib.hid (xor_byte_lt hgo xs[k])
      clear hcc htk hx2 hgo
      (repeat' ((fail_if_success at_builtin); first | go_values | go_skip | go_guarded | go_step | go_upon | go_back))
      rw [hxb.out]
      (refine (steps_any W2 w1.heap.size k3 (x ^^^ xs[k].toNat) hlx.out).mono ?_; rintro e1 w3 ⟨rfl, rfl⟩; dsimp only)
      (repeat' ((fail_if_success at_builtin); first | go_values | go_skip | go_guarded | go_step | go_upon | go_back))
      go_roundw
      case rel => exact ⟨k + 1, by omega, by go_num, by rw [hst.out], trivial⟩
      case measure => simp [intOf]; omega
    · obtain rfl : k = xs.length := by omega
      rw [List.take_length]
      have hgo := crcGo_lt xs (s := s ^^^ 4294967295) (Nat.xor_lt_two_pow (n := 32) HS.out (by decide))
      have hn := Lib.hid (not_u32 _ hgo)
      clear hgo
      (repeat' ((fail_if_success at_builtin); first | go_values | go_skip | go_guarded | go_step | go_upon | go_back))
      rw [hn.out]
      refine bodyPost_ret (results_tmp rfl _ _ _) rfl ⟨rfl, hb3⟩

theorem of_any (w : World) (a : Option Addr) (c : Nat) (xs : Bs) (hx : BS w a c xs) (hl : xs.length ≤ 35184372088832) :
    Calls Tryz.prog 174 #[.slice a xs.length c] w fun e' w' => e' = .returned (.int .u32 (crcUp 0 xs : Int)) ∧ Below w.heap.size w w' := by
  have HL := Lib.hid hl
  clear hl
  go_enter Tryz.func174, Tryz.ntmps174
  (repeat' ((fail_if_success at_builtin); first | go_values | go_skip | go_guarded | go_step | go_upon | go_back))
  (refine (update_any w 0 (by omega) a c xs hx HL.out).mono ?_; rintro e1 w1 ⟨rfl, hb⟩; dsimp only; (repeat' ((fail_if_success at_builtin); first | go_values | go_skip | go_guarded | go_step | go_upon | go_back)))
  refine bodyPost_ret (results_tmp rfl _ _ _) rfl ⟨rfl, hb⟩

theorem xor_i64 (a b : Nat) (ha : a < 4294967296) (hb : b < 4294967296) : bits BinOp.xor IntKind.i64 (a : Int) (b : Int) = ((a ^^^ b : Nat) : Int) := by
  have hx : a ^^^ b < 2 ^ 32 := Nat.xor_lt_two_pow ha hb
  show IntKind.i64.wrap ((BitVec.ofInt 64 (a : Int) ^^^ BitVec.ofInt 64 (b : Int)).toNat : Int) = _
  rw [BitVec.toNat_xor, BitVec.toNat_ofInt, BitVec.toNat_ofInt, IntKind.wrap_i64]
  rw [show (((a : Int) % ((2 ^ 64 : Nat) : Int)).toNat) = a by omega, show (((b : Int) % ((2 ^ 64 : Nat) : Int)).toNat) = b by omega]
  omega
theorem rst1_yes (s : Nat) (h : s < 4294967296) (h1 : s % 2 = 1) : bits BinOp.xor IntKind.i64 ((s : Int) / 2) 2197175160 = ((st1 s : Nat) : Int) := by
  rw [show ((s : Int) / 2) = ((s / 2 : Nat) : Int) by omega, show (2197175160 : Int) = ((poly : Nat) : Int) from rfl, xor_i64 _ _ (by omega) poly_lt]
  unfold st1; rw [if_pos h1]

set_option maxRecDepth 400000 in
set_option maxHeartbeats 1000000 in
theorem rstep_any (w : World) (s : Nat) (hs : s < 4294967296) :
    Calls Tryz.prog 253 #[.int .i64 (s : Int)] w fun e' w' => e' = .returned (.int .i64 (st8 s : Int)) ∧ w = w' := by
  have HS := Lib.hid hs
  clear hs
  go_enter Tryz.func253, Tryz.ntmps253
  (repeat' ((fail_if_success at_builtin); first | go_values | go_skip | go_guarded | go_step | go_upon | go_back))
  go_loop [0, 3] (fun x y => ∃ k : Nat, k ≤ 8 ∧ x = .int .i64 (stk k s : Nat) ∧ y = .int .i64 k) (fun _ y => 8 - (intOf y).toNat)
  case atStart => exact ⟨0, by omega, rfl, rfl⟩
  case round =>
    obtain ⟨k, hk, rfl, rfl⟩ := hrel
    by_cases hk8 : k < 8
    · have hs := stk_lt HS.out k
      by_cases h1 : stk k s % 2 = 1
      · have ht : ((((stk k s : Nat) : Int) % 2) == 1) = true := by simp; omega
        have hx : Hid ((bits BinOp.xor IntKind.i64 (((stk k s : Nat) : Int) / 2) 2197175160) = ((stk (k + 1) s : Nat) : Int)) := Lib.hid (rst1_yes _ hs h1)
        have hss : ((stk k s : Nat) : Int) < 4294967296 := by omega
        have hs0 : 0 ≤ ((stk k s : Nat) : Int) := by omega
        clear hs h1
        generalize ((stk k s : Nat) : Int) = x at *
        (repeat' ((fail_if_success at_builtin); first | go_values | go_skip | go_guarded | go_step | go_upon | go_back))
        go_round
        case rel => exact ⟨k + 1, by omega, by rw [hx.out], by go_num⟩
        case measure => simp [intOf]; omega
      · have ht : ((((stk k s : Nat) : Int) % 2) == 1) = false := by simp; omega
        have hx : Hid (((stk k s : Nat) : Int) / 2 = ((stk (k + 1) s : Nat) : Int)) := Lib.hid (st1_no _ h1)
        have hss : ((stk k s : Nat) : Int) < 4294967296 := by omega
        have hs0 : 0 ≤ ((stk k s : Nat) : Int) := by omega
        clear hs h1
        generalize ((stk k s : Nat) : Int) = x at *
        (repeat' ((fail_if_success at_builtin); first | go_values | go_skip | go_guarded | go_step | go_upon | go_back))
        go_round
        case rel => exact ⟨k + 1, by omega, by rw [hx.out], by go_num⟩
        case measure => simp [intOf]; omega
    · obtain rfl : k = 8 := by omega
      (repeat' ((fail_if_success at_builtin); first | go_values | go_skip | go_guarded | go_step | go_upon | go_back))
      refine bodyPost_ret (results_tmp rfl _ _ _) rfl ⟨rfl, rfl⟩

theorem xor_ones_i64 (s : Nat) (h : s < 4294967296) : bits BinOp.xor IntKind.i64 (s : Int) 4294967295 = ((s ^^^ 4294967295 : Nat) : Int) := xor_i64 s 4294967295 h (by omega)

set_option maxRecDepth 20000 in
set_option maxHeartbeats 1000000 in
theorem rupdate_any (w : World) (s : Nat) (hs : s < 4294967296) (a : Option Addr) (c : Nat) (xs : Bs) (hx : BS w a c xs) (hl : xs.length ≤ 35184372088832) :
    Calls Tryz.prog 183 #[.int .u32 (s : Int), .slice a xs.length c] w fun e' w' => e' = .returned (.int .u32 (crcUp s xs : Int)) ∧ w = w' := by
  have HL := Lib.hid hl
  have HS := Lib.hid hs
  have hini := Lib.hid (xor_ones_i64 s hs)
  have hsb : (s : Int) < 4294967296 := by omega
  clear hl hs
  go_enter Tryz.func183, Tryz.ntmps183
  (repeat' ((fail_if_success at_builtin); first | go_values | go_skip | go_guarded | go_step | go_upon | go_back))
  rw [hini.out]
  clear hsb
  go_loop [5, 6] (fun x y => ∃ k : Nat, k ≤ xs.length ∧ y = .int .i64 k ∧ x = .int .i64 (crcGo (s ^^^ 4294967295) (xs.take k) : Nat)) (fun _ y => xs.length - (intOf y).toNat)
  case atStart => exact ⟨0, Nat.zero_le _, rfl, rfl⟩
  case round =>
    obtain ⟨k, hk, rfl, rfl⟩ := hrel
    have hk3 : (k : Int) ≤ 35184372088832 := by have := HL.out; omega
    by_cases hlt : k < xs.length
    · obtain ⟨g, o, rfl, hg, hcc⟩ := hx.at_.at (by omega)
      have hc := hcc k _ (List.getElem?_eq_getElem hlt)
      have htk : xs.take (k + 1) = xs.take k ++ [xs[k]] := List.take_succ_eq_append_getElem hlt
      have hgo := crcGo_lt (xs.take k) (s := s ^^^ 4294967295) (Nat.xor_lt_two_pow (n := 32) HS.out (by decide))
      have hst : Hid (crcGo (s ^^^ 4294967295) (xs.take (k + 1)) = st8 (crcGo (s ^^^ 4294967295) (xs.take k) ^^^ xs[k].toNat)) := Lib.hid (by rw [htk, crcGo_snoc])
      generalize crcGo (s ^^^ 4294967295) (xs.take k) = x at *
      rw [B_eq] at hc
      have hxb : Hid (bits BinOp.xor IntKind.i64 (x : Int) (wrap64 (xs[k].toNat : Int)) = ((x ^^^ xs[k].toNat : Nat) : Int)) := Lib.hid (by rw [show wrap64 (xs[k].toNat : Int) = ((xs[k].toNat : Nat) : Int) by have := xs[k].toNat_lt; unfold wrap64; omega]; exact xor_i64 x xs[k].toNat hgo (by have := xs[k].toNat_lt; omega))
      have hlx := Lib.hid (xor_byte_lt hgo xs[k])
      clear hcc htk hgo
      (repeat' ((fail_if_success at_builtin); first | go_values | go_skip | go_guarded | go_step | go_upon | go_back))
      rw [hxb.out]
      (refine (rstep_any w (x ^^^ xs[k].toNat) hlx.out).mono ?_; rintro e1 w3 ⟨rfl, rfl⟩; dsimp only)
      (repeat' ((fail_if_success at_builtin); first | go_values | go_skip | go_guarded | go_step | go_upon | go_back))
      go_round
      case rel => exact ⟨k + 1, by omega, by go_num, by rw [hst.out]⟩
      case measure => simp [intOf]; omega
    · obtain rfl : k = xs.length := by omega
      rw [List.take_length]
      have hgo := crcGo_lt xs (s := s ^^^ 4294967295) (Nat.xor_lt_two_pow (n := 32) HS.out (by decide))
      have hn := Lib.hid (xor_ones_i64 _ hgo)
      have hu := Lib.hid (crcUp_lt HS.out xs)
      clear hgo
      (repeat' ((fail_if_success at_builtin); first | go_values | go_skip | go_guarded | go_step | go_upon | go_back))
      rw [hn.out]
      refine bodyPost_ret (results_tmp rfl _ _ _) rfl ⟨?_, rfl⟩
      refine congrArg (fun x => Ending.returned (.int .u32 x)) ?_
      show ((crcUp s xs : Nat) : Int) % 4294967296 = (crcUp s xs : Int)
      have := hu.out
      omega

theorem rof_any (w : World) (a : Option Addr) (c : Nat) (xs : Bs) (hx : BS w a c xs) (hl : xs.length ≤ 35184372088832) :
    Calls Tryz.prog 184 #[.slice a xs.length c] w fun e' w' => e' = .returned (.int .u32 (crcUp 0 xs : Int)) ∧ w = w' := by
  have HL := Lib.hid hl
  clear hl
  go_enter Tryz.func184, Tryz.ntmps184
  (repeat' ((fail_if_success at_builtin); first | go_values | go_skip | go_guarded | go_step | go_upon | go_back))
  (refine (rupdate_any w 0 (by omega) a c xs hx HL.out).mono ?_; rintro e1 w1 ⟨rfl, rfl⟩; dsimp only; (repeat' ((fail_if_success at_builtin); first | go_values | go_skip | go_guarded | go_step | go_upon | go_back)))
  refine bodyPost_ret (results_tmp rfl _ _ _) rfl ⟨rfl, rfl⟩
end Go.Proofs.YtbppnihcbcdglaaGreat
/- frame: a word of four bytes; the frame at a place. No condition. -/
namespace Go.Proofs.YtbppnihcbcdglaaGreat
open Go.RowKit
set_option linter.unusedVariables false
set_option linter.unusedSimpArgs false

theorem or_add (n m k : Nat) (h : n < 2 ^ k) : n ||| m * 2 ^ k = n + m * 2 ^ k := by
  have := Nat.two_pow_add_eq_or_of_lt h m
  rw [Nat.mul_comm m, Nat.or_comm, ← this, Nat.add_comm]
theorem word_bits (a b c d : Nat) (ha : a < 256) (hb : b < 256) (hc : c < 256) (hd : d < 256) :
    bits BinOp.or IntKind.u32 (bits BinOp.or IntKind.u32 (bits BinOp.or IntKind.u32 (bits BinOp.or IntKind.u32 0 (a : Int)) ((b : Int) * 256)) ((c : Int) * 65536)) ((d : Int) * 16777216) = ((a + 256 * b + 65536 * c + 16777216 * d : Nat) : Int) := by
  have e0 : bits BinOp.or IntKind.u32 0 (a : Int) = (a : Int) := by
    rw [show (0 : Int) = ((0 : Nat) : Int) from rfl, u32_or_nat 0 a (by omega) (by omega), Nat.zero_or]
  rw [e0, show ((b : Int) * 256) = ((b * 2 ^ 8 : Nat) : Int) by omega, u32_or_nat a (b * 2 ^ 8) (by omega) (by omega), or_add a b 8 (by omega),
    show ((c : Int) * 65536) = ((c * 2 ^ 16 : Nat) : Int) by omega, u32_or_nat _ (c * 2 ^ 16) (by omega) (by omega), or_add _ c 16 (by omega),
    show ((d : Int) * 16777216) = ((d * 2 ^ 24 : Nat) : Int) by omega, u32_or_nat _ (d * 2 ^ 24) (by omega) (by omega), or_add _ d 24 (by omega)]
  omega

set_option maxRecDepth 20000 in
set_option maxHeartbeats 1000000 in
theorem word_any (w : World) (a : Option Addr) (c : Nat) (xs : Bs) (hx : BS w a c xs) (hl : 4 ≤ xs.length) :
    Calls Tryz.prog 189 #[.slice a xs.length c] w fun e' w' => e' = .returned (.int .u32 (num4 xs : Int)) ∧ w = w' := by
  obtain ⟨g, o, rfl, hg, hcc⟩ := hx.at_.at (by omega)
  have hc0 := hcc 0 _ (List.getElem?_eq_getElem (by omega))
  have hc1 := hcc 1 _ (List.getElem?_eq_getElem (by omega))
  have hc2 := hcc 2 _ (List.getElem?_eq_getElem (by omega))
  have hc3 := hcc 3 _ (List.getElem?_eq_getElem (by omega))
  have hn := num4_drop (b := xs) (i := 0) (by omega)
  simp only [List.drop_zero, Nat.zero_add] at hn
  have l0 := xs[0].toNat_lt
  have l1 := xs[1].toNat_lt
  have l2 := xs[2].toNat_lt
  have l3 := xs[3].toNat_lt
  rw [B_eq] at hc0 hc1 hc2 hc3
  rw [Nat.add_zero] at hc0
  have i0 : (0 : Int) < (xs.length : Int) := by omega
  have i1 : (1 : Int) < (xs.length : Int) := by omega
  have i2 : (2 : Int) < (xs.length : Int) := by omega
  have i3 : (3 : Int) < (xs.length : Int) := by omega
  have HN := Lib.hid hn
  clear hcc hn
  go_enter Tryz.func189, Tryz.ntmps189
  (repeat' ((fail_if_success at_builtin); first | go_values | go_skip | go_guarded | go_step | go_upon | go_back))
  refine wp_loop_rounds 5 ?_; rw [rounds_succ]
  (repeat' ((fail_if_success at_builtin); first | go_values | go_skip | go_guarded | go_step | go_upon | go_back))
  rw [rounds_succ]
  (repeat' ((fail_if_success at_builtin); first | go_values | go_skip | go_guarded | go_step | go_upon | go_back))
  rw [rounds_succ]
  (repeat' ((fail_if_success at_builtin); first | go_values | go_skip | go_guarded | go_step | go_upon | go_back))
  rw [rounds_succ]
  (repeat' ((fail_if_success at_builtin); first | go_values | go_skip | go_guarded | go_step | go_upon | go_back))
  rw [rounds_succ]
  (repeat' ((fail_if_success at_builtin); first | go_values | go_skip | go_guarded | go_step | go_upon | go_back))
  refine bodyPost_ret (results_tmp rfl _ _ _) rfl ⟨?_, rfl⟩
  refine congrArg (fun x => Ending.returned (.int .u32 x)) ?_
  rw [HN.out]
  exact word_bits _ _ _ _ l0 l1 l2 l3

set_option maxRecDepth 20000 in
set_option maxHeartbeats 2000000 in
theorem next_short (w : World) (a : Option Addr) (c : Nat) (xs : Bs) (i : Nat) (hi : xs.length < i ∨ i = xs.length ∨ xs.length - i < 8) (hl : xs.length ≤ 35184372088832) (hi2 : i ≤ 35184372088832) :
    Calls Tryz.prog 118 #[.slice a xs.length c, .int .i64 (i : Int)] w fun e' w' => e' = .returned (.tuple #[.slice none 0 0, .int .i64 0, .int .i64 (nextF xs i).2.2]) ∧ w = w' := by
  have h0 : decide ((i : Int) < 0) = false := by simp
  rcases Nat.lt_or_ge xs.length i with h1 | h1
  · have e : nextF xs i = ([], 0, 1) := by unfold nextF; rw [if_pos h1]
    have c1 : decide (xs.length < i) = true := by simpa using h1
    rw [e]
    clear hi e h1
    go_enter Tryz.func118, Tryz.ntmps118
    (repeat' ((fail_if_success at_builtin); first | go_values | go_skip | go_guarded | go_step | go_upon | go_back))
    go_ret3
    exact ⟨rfl, rfl⟩
  · have c1 : decide (xs.length < i) = false := by simpa using h1
    rcases Nat.eq_or_lt_of_le h1 with h2 | h2
    · subst h2
      rw [nextF_end]
      clear hi
      go_enter Tryz.func118, Tryz.ntmps118
      (repeat' ((fail_if_success at_builtin); first | go_values | go_skip | go_guarded | go_step | go_upon | go_back))
      go_ret3
      exact ⟨rfl, rfl⟩
    · have h3 : xs.length - i < 8 := by omega
      have e : nextF xs i = ([], 0, 13) := by unfold nextF; rw [if_neg (by omega), if_neg (by omega), if_pos h3]
      have c2 : ((i : Int) == (xs.length : Int)) = false := by simp; omega
      have c3 : decide ((xs.length : Int) - (i : Int) < 8) = true := by simp; omega
      have c4 : (xs.length : Int) - (i : Int) < 8 := by omega
      rw [e]
      clear hi e h1 h2 h3
      go_enter Tryz.func118, Tryz.ntmps118
      (repeat' ((fail_if_success at_builtin); first | go_values | go_skip | go_guarded | go_step | go_upon | go_back))
      go_ret3
      exact ⟨rfl, rfl⟩

theorem run_btail {W : World} {a : Option Addr} {n c lo : Nat} (h1 : lo ≤ n) (h2 : n ≤ c) :
    (Instr.slice 27 (.slice a n c) (some (.int .i64 (lo : Int))) none none).run Tryz.prog W = .ok (.slice (midA a c lo) (n - lo) (c - lo)) W := by
  obtain ⟨i0, hi0, hz0, hz1, hz2⟩ := info_parts Tryz.info5
  have hel : Tryz.prog.elem 27 = 5 := by simp [Program.elem, Tryz.underlying27]
  rw [run_slice_l W 27 a n c (by rw [hel]; exact Tryz.underlying27) .i64 lo (by omega) (by omega), hel]
  simp [sizeOf, typeInfo, hi0, hz1, sliced, Result.andThen, midA]

theorem BS.tail {w : World} {a : Option Addr} {c : Nat} {xs : Bs} (h : BS w a c xs) {lo : Nat} (h2 : lo ≤ xs.length) : BS w (midA a c lo) (c - lo) (xs.drop lo) := by
  have := h.mid (lo := lo) (hi := xs.length) h2 (Nat.le_refl _)
  rwa [List.take_length] at this
theorem word_at {w : World} {a : Option Addr} {c : Nat} {xs : Bs} (hx : BS w a c xs) {i : Nat} (hi : i + 4 ≤ xs.length) (W : World) (hb : Below w.heap.size w W) :
    Calls Tryz.prog 189 #[.slice (midA a c i) (xs.length - i) (c - i)] W fun e' w' => e' = .returned (.int .u32 (num4 (xs.drop i) : Int)) ∧ W = w' := by
  have h := word_any W _ _ (xs.drop i) ((hx.below hb).tail (by omega)) (by simp; omega)
  rwa [List.length_drop] at h

set_option maxRecDepth 20000 in
set_option maxHeartbeats 2000000 in
theorem next_torn (w : World) (a : Option Addr) (c : Nat) (xs : Bs) (hx : BS w a c xs) (i : Nat) (hi : i + 8 ≤ xs.length) (hl : xs.length ≤ 35184372088832)
    (ht : num4 (xs.drop i) < 1 ∨ 65536 < num4 (xs.drop i) ∨ xs.length - i - 8 < num4 (xs.drop i)) :
    Calls Tryz.prog 118 #[.slice a xs.length c, .int .i64 (i : Int)] w fun e' w' => e' = .returned (.tuple #[.slice none 0 0, .int .i64 0, .int .i64 13]) ∧ w = w' := by
  have h0 : decide ((i : Int) < 0) = false := by simp
  have c1 : decide (xs.length < i) = false := by simp; omega
  have c2 : ((i : Int) == (xs.length : Int)) = false := by simp; omega
  have c3 : decide ((xs.length : Int) - (i : Int) < 8) = false := by simp; omega
  have b1 : (i : Int) + 8 ≤ (xs.length : Int) := by omega
  have b2 : (xs.length : Int) ≤ 35184372088832 := by omega
  have s1 := fun W => run_btail (W := W) (a := a) (n := xs.length) (c := c) (lo := i) (by omega) hx.le
  have hw1 := word_at hx (i := i) (by omega) w (Below.refl _ _)
  have hn := num4_lt (xs.drop i)
  have hn2 : (num4 (xs.drop i) : Int) < 4294967296 := by omega
  have hd : (((num4 (xs.drop i) : Nat) : Int) == 0) = true ∨ ((((num4 (xs.drop i) : Nat) : Int) == 0) = false ∧ decide ((65536 : Int) < (num4 (xs.drop i) : Int)) = true) ∨ ((((num4 (xs.drop i) : Nat) : Int) == 0) = false ∧ decide ((65536 : Int) < (num4 (xs.drop i) : Int)) = false ∧ decide ((xs.length : Int) - (i : Int) - 8 < (num4 (xs.drop i) : Int)) = true) := by
    simp only [beq_iff_eq, beq_eq_false_iff_ne, decide_eq_true_eq, decide_eq_false_iff_not]; omega
  clear hl hi ht hn
  rcases hd with g1 | ⟨g1, g2⟩ | ⟨g1, g2, g3⟩
  · go_enter Tryz.func118, Tryz.ntmps118
    (repeat' ((fail_if_success at_builtin); first | go_values | go_skip | go_guarded | go_step | go_upon | go_back))
    (refine (hw1).mono ?_; rintro e1 w1 ⟨rfl, rfl⟩; dsimp only)
    (repeat' ((fail_if_success at_builtin); first | go_values | go_skip | go_guarded | go_step | go_upon | go_back))
    go_ret3
    exact ⟨rfl, rfl⟩
  · go_enter Tryz.func118, Tryz.ntmps118
    (repeat' ((fail_if_success at_builtin); first | go_values | go_skip | go_guarded | go_step | go_upon | go_back))
    (refine (hw1).mono ?_; rintro e1 w1 ⟨rfl, rfl⟩; dsimp only)
    (repeat' ((fail_if_success at_builtin); first | go_values | go_skip | go_guarded | go_step | go_upon | go_back))
    go_ret3
    exact ⟨rfl, rfl⟩
  · go_enter Tryz.func118, Tryz.ntmps118
    (repeat' ((fail_if_success at_builtin); first | go_values | go_skip | go_guarded | go_step | go_upon | go_back))
    (refine (hw1).mono ?_; rintro e1 w1 ⟨rfl, rfl⟩; dsimp only)
    (repeat' ((fail_if_success at_builtin); first | go_values | go_skip | go_guarded | go_step | go_upon | go_back))
    go_ret3
    exact ⟨rfl, rfl⟩

end Go.Proofs.YtbppnihcbcdglaaGreat
namespace Go.Proofs.YtbppnihcbcdglaaGreat
open Go.RowKit
set_option linter.unusedVariables false
set_option linter.unusedSimpArgs false

theorem drop_take' (l : Bs) (i k : Nat) : (l.take (i + k)).drop i = (l.drop i).take k := by
  rw [List.drop_take]; congr 1; omega

set_option maxRecDepth 20000 in
set_option maxHeartbeats 4000000 in
theorem next_whole (w : World) (a : Option Addr) (c : Nat) (xs : Bs) (hx : BS w a c xs) (i n : Nat) (hl : xs.length ≤ 35184372088832) (hn : num4 (xs.drop i) = n)
    (h1 : 1 ≤ n) (h2 : n ≤ 65536) (h3 : i + 8 + n ≤ xs.length) (ok : Bool) (hok : (((num4 (xs.drop (i + 4)) : Nat) : Int) != ((sumOf ((xs.drop i).take 4) ((xs.drop (i + 8)).take n) : Nat) : Int)) = !ok) :
    Calls Tryz.prog 118 #[.slice a xs.length c, .int .i64 (i : Int)] w fun e' w' => e' = .returned (.tuple #[(if ok then .slice (midA a c (i + 8)) n (c - (i + 8)) else .slice none 0 0), .int .i64 (if ok then ((i + 8 + n : Nat) : Int) else 0), .int .i64 (if ok then 0 else 13)]) ∧ Below w.heap.size w w' := by
  have h0 : decide ((i : Int) < 0) = false := by simp
  have c1 : decide (xs.length < i) = false := by simp; omega
  have c2 : ((i : Int) == (xs.length : Int)) = false := by simp; omega
  have c3 : decide ((xs.length : Int) - (i : Int) < 8) = false := by simp; omega
  have b1 : (i : Int) + 8 + (n : Int) ≤ (xs.length : Int) := by omega
  have b2 : (xs.length : Int) ≤ 35184372088832 := by omega
  have b3 : (n : Int) ≤ 65536 := by omega
  have g1 : ((n : Int) == 0) = false := by simp; omega
  have g2 : decide ((65536 : Int) < (n : Int)) = false := by simp; omega
  have g3 : decide ((xs.length : Int) - (i : Int) - 8 < (n : Int)) = false := by simp; omega
  have hle := hx.le
  have s1 := fun W => run_btail (W := W) (a := a) (n := xs.length) (c := c) (lo := i) (by omega) hx.le
  have s4 := fun W => run_btail (W := W) (a := a) (n := xs.length) (c := c) (lo := i + 4) (by omega) hx.le
  have sb := fun W => run_bmid (W := W) (a := a) (n := xs.length) (c := c) (lo := i + 8) (hi := i + 8 + n) (by omega) (by omega)
  have sh := fun W => run_bmid (W := W) (a := a) (n := xs.length) (c := c) (lo := i) (hi := i + 4) (by omega) (by omega)
  rw [show i + 8 + n - (i + 8) = n by omega] at sb
  rw [show i + 4 - i = 4 by omega] at sh
  rw [show ((i + 8 : Nat) : Int) = (i : Int) + 8 by omega, show ((i + 8 + n : Nat) : Int) = (i : Int) + 8 + (n : Int) by omega] at sb
  rw [show ((i + 4 : Nat) : Int) = (i : Int) + 4 by omega] at s4 sh
  have hw1 := word_at hx (i := i) (by omega) w (Below.refl _ _)
  rw [hn] at hw1
  have HW4 := fun W hb => word_at hx (i := i + 4) (by omega) W hb
  have HOF : ∀ W, Below w.heap.size w W → Calls Tryz.prog 174 #[.slice (midA a c i) 4 (c - i)] W fun e' w' => e' = .returned (.int .u32 (crcUp 0 ((xs.drop i).take 4) : Int)) ∧ Below w.heap.size w w' := fun W hb => by
    have h := of_any W _ _ _ ((hx.below hb).mid (lo := i) (hi := i + 4) (by omega) (by omega)) (by simp; omega)
    rw [drop_take'] at h
    rw [show ((xs.drop i).take 4).length = 4 by simp; omega] at h
    exact h.mono fun e w' ⟨h1, h2⟩ => ⟨h1, hb.trans (h2.mono hb.size)⟩
  have HUP : ∀ W, Below w.heap.size w W → Calls Tryz.prog 173 #[.int .u32 (crcUp 0 ((xs.drop i).take 4) : Int), .slice (midA a c (i + 8)) n (c - (i + 8))] W fun e' w' => e' = .returned (.int .u32 (sumOf ((xs.drop i).take 4) ((xs.drop (i + 8)).take n) : Int)) ∧ Below w.heap.size w w' := fun W hb => by
    have h := update_any W (crcUp 0 ((xs.drop i).take 4)) (crcUp_lt (by omega) _) _ _ _ ((hx.below hb).mid (lo := i + 8) (hi := i + 8 + n) (by omega) (by omega)) (by simp; omega)
    rw [drop_take'] at h
    rw [show ((xs.drop (i + 8)).take n).length = n by simp; omega] at h
    exact h.mono fun e w' ⟨h1, h2⟩ => ⟨h1, hb.trans (h2.mono hb.size)⟩
  have w4 : IntKind.i64.wrap ((i : Int) + 4) = (i : Int) + 4 := IntWalk.i64_in _ (by omega)
  have z4 : (0 : Int) ≤ (i : Int) + 4 := by omega
  have HOK := Lib.hid hok
  clear hl h1 h2 h3 hn hok hle
  go_enter Tryz.func118, Tryz.ntmps118
  (repeat' ((fail_if_success at_builtin); first | go_values | go_skip | go_guarded | go_step | go_upon | go_back))
  (refine (hw1).mono ?_; rintro e1 w1 ⟨rfl, rfl⟩; dsimp only)
  (repeat' ((fail_if_success at_builtin); first | go_values | go_skip | go_guarded | go_step | go_upon | go_back))
  go_region_held3 (fun w' => Below w.heap.size w w') (first | assumption | exact Below.refl _ _ | exact Below.drew (Below.refl _ _) | exact Below.drew (by assumption) | (exact bdrewN (by assumption) _))
    (first
      | (go_at_call 189; refine (HW4 _ (by assumption)).mono ?_; rintro e1 w2 ⟨rfl, rfl⟩)
      | (go_at_call 174; refine (HOF _ (by assumption)).mono ?_; rintro e1 w2 ⟨rfl, hb2⟩)
      | (go_at_call 173; refine (HUP _ (by assumption)).mono ?_; rintro e1 w2 ⟨rfl, hb2⟩))
  have hok := HOK.out
  clear HOK HOF HUP HW4 hw1 s1 s4 sb sh w4 z4
  cases ok
  · rw [Bool.not_false] at hok
    (repeat' ((fail_if_success at_builtin); first | go_values | go_skip | go_guarded | go_step | go_upon | go_back))
    go_ret3
    exact ⟨rfl, by assumption⟩
  · rw [Bool.not_true] at hok
    (repeat' ((fail_if_success at_builtin); first | go_values | go_skip | go_guarded | go_step | go_upon | go_back))
    go_ret3
    exact ⟨rfl, by assumption⟩

/-- The frame at a place: its body in b itself, the place behind it, the error. -/
theorem next_any (w : World) (a : Option Addr) (c : Nat) (xs : Bs) (hx : BS w a c xs) (i : Nat) (hl : xs.length ≤ 35184372088832) (hi : i ≤ 35184372088832) :
    Calls Tryz.prog 118 #[.slice a xs.length c, .int .i64 (i : Int)] w fun e' w' => ∃ a' c', e' = .returned (.tuple #[.slice a' (nextF xs i).1.length c', .int .i64 ((nextF xs i).2.1 : Int), .int .i64 (nextF xs i).2.2]) ∧ BS w' a' c' (nextF xs i).1 ∧ Below w.heap.size w w' := by
  by_cases h0 : xs.length < i ∨ i = xs.length ∨ xs.length - i < 8
  · refine (next_short w a c xs i h0 hl hi).mono ?_
    rintro e w' ⟨rfl, rfl⟩
    have e1 : (nextF xs i).1 = [] ∧ (nextF xs i).2.1 = 0 := by
      unfold nextF
      by_cases h1 : xs.length < i
      · rw [if_pos h1]; exact ⟨rfl, rfl⟩
      · rw [if_neg h1]
        by_cases h2 : i = xs.length
        · rw [if_pos h2]; exact ⟨rfl, rfl⟩
        · rw [if_neg h2, if_pos (by omega)]; exact ⟨rfl, rfl⟩
    rw [e1.1, e1.2]
    exact ⟨none, 0, rfl, ⟨Nat.le_refl _, fun _ => rfl, .inl rfl⟩, Below.refl _ _⟩
  · by_cases ht : num4 (xs.drop i) < 1 ∨ 65536 < num4 (xs.drop i) ∨ xs.length - i - 8 < num4 (xs.drop i)
    · refine (next_torn w a c xs hx i (by omega) hl ht).mono ?_
      rintro e w' ⟨rfl, rfl⟩
      have e1 : nextF xs i = ([], 0, 13) := by unfold nextF; rw [if_neg (by omega), if_neg (by omega), if_neg (by omega), if_pos ht]
      rw [e1]
      exact ⟨none, 0, rfl, ⟨Nat.le_refl _, fun _ => rfl, .inl rfl⟩, Below.refl _ _⟩
    · by_cases hs : sumOf ((xs.drop i).take 4) ((xs.drop (i + 8)).take (num4 (xs.drop i))) = num4 (xs.drop (i + 4))
      · have e1 : nextF xs i = ((xs.drop (i + 8)).take (num4 (xs.drop i)), i + 8 + num4 (xs.drop i), 0) := by
          unfold nextF; rw [if_neg (by omega), if_neg (by omega), if_neg (by omega), if_neg ht, if_neg (by simp [hs])]
        refine (next_whole w a c xs hx i (num4 (xs.drop i)) hl rfl (by omega) (by omega) (by omega) true (by rw [hs]; simp)).mono ?_
        rintro e w' ⟨rfl, hb⟩
        rw [e1]
        have hlen : ((xs.drop (i + 8)).take (num4 (xs.drop i))).length = num4 (xs.drop i) := by simp; omega
        have hm := (hx.below hb).mid (lo := i + 8) (hi := i + 8 + num4 (xs.drop i)) (by omega) (by omega)
        rw [drop_take'] at hm
        refine ⟨midA a c (i + 8), c - (i + 8), ?_, hm, hb⟩
        dsimp only
        rw [hlen]; rfl
      · have e1 : nextF xs i = ([], 0, 13) := by
          unfold nextF; rw [if_neg (by omega), if_neg (by omega), if_neg (by omega), if_neg ht, if_pos hs]
        refine (next_whole w a c xs hx i (num4 (xs.drop i)) hl rfl (by omega) (by omega) (by omega) false (by simp; omega)).mono ?_
        rintro e w' ⟨rfl, hb⟩
        rw [e1]
        exact ⟨none, 0, rfl, ⟨Nat.le_refl _, fun _ => rfl, .inl rfl⟩, hb⟩

/-- frame.Next: the body in memory of its own. -/
theorem nextC_any (w : World) (a : Option Addr) (c : Nat) (xs : Bs) (hx : BS w a c xs) (i : Nat) (hl : xs.length ≤ 35184372088832) (hi : i ≤ 35184372088832) :
    Calls Tryz.prog 96 #[.slice a xs.length c, .int .i64 (i : Int)] w fun e' w' => ∃ v, e' = .returned (.tuple #[v, .int .i64 ((nextF xs i).2.1 : Int), .int .i64 (nextF xs i).2.2]) ∧ OwnB w' w.heap.size v (nextF xs i).1 ∧ Below w.heap.size w w' := by
  have hlen : (nextF xs i).1.length ≤ 35184372088832 := by
    have : (nextF xs i).1.length ≤ xs.length := by
      unfold nextF; split
      · simp
      split
      · simp
      split
      · simp
      split
      · simp
      split
      · simp
      · simp; omega
    omega
  have HL := Lib.hid hl
  have HI := Lib.hid hi
  have HLEN := Lib.hid hlen
  clear hl hi hlen
  go_enter Tryz.func96, Tryz.ntmps96
  (repeat' ((fail_if_success at_builtin); first | go_values | go_skip | go_guarded | go_step | go_upon | go_back))
  (refine (next_any w a c xs hx i HL.out HI.out).mono ?_; rintro e1 w1 ⟨a', c', rfl, hb', hB⟩; dsimp only)
  (repeat' ((fail_if_success at_builtin); first | go_values | go_skip | go_guarded | go_step | go_upon | go_back))
  (refine (clone_any w1 a' c' _ hb' HLEN.out).mono ?_; rintro e1 w2 ⟨v, rfl, ho, hB2⟩; dsimp only)
  (repeat' ((fail_if_success at_builtin); first | go_values | go_skip | go_guarded | go_step | go_upon | go_back))
  go_ret3
  exact ⟨v, rfl, ho.lower hB.size, hB.trans (hB2.mono hB.size)⟩

end Go.Proofs.YtbppnihcbcdglaaGreat
