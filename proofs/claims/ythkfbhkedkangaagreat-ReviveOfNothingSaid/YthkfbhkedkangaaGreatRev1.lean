/- revive over a disk without a file: the parts. No condition. -/
import Derived.Test.YthkfbhkedkangaaGreatDisk3
namespace Go.Proofs.YthkfbhkedkangaaGreat
open Go.RowKit
set_option linter.unusedVariables false
set_option linter.unusedSimpArgs false

/-- An opening of a disk that has no file. -/
def OP (w : World) (o : Nat) (d : Value) (n z s : Nat) : Prop := w.heap[o]? = some (.cells #[d, .map (some n), .map (some z), .pointer (some ⟨s, 0, none⟩), .int .i64 0] 71 (0, 0))
def stc (v p : Value) (nx la re to : Int) : Array Value := #[v, p, .slice none 0 0, .int .i64 nx, .int .i64 0, .int .i64 0, .int .i64 0, .int .i64 0, .int .i64 0, .bool false, .int .i64 0, .int .i64 la, .int .i64 re, .int .i64 to]
def ST (w : World) (s : Nat) (v p : Value) (nx la re to : Int) : Prop := w.heap[s]? = some (.cells (stc v p nx la re to) 69 (0, 0))
theorem OP.c {w : World} {o n z s : Nat} {d : Value} (h : OP w o d n z s) : w.cell? ⟨o, 0, none⟩ = some d ∧ w.cell? ⟨o, 1, none⟩ = some (.map (some n)) ∧ w.cell? ⟨o, 2, none⟩ = some (.map (some z)) ∧ w.cell? ⟨o, 3, none⟩ = some (.pointer (some ⟨s, 0, none⟩)) ∧ w.cell? ⟨o, 4, none⟩ = some (.int .i64 0) :=
  ⟨blk_cell h 0, blk_cell h 1, blk_cell h 2, blk_cell h 3, blk_cell h 4⟩
theorem ST.c {w : World} {s : Nat} {v p : Value} {nx la re to : Int} (h : ST w s v p nx la re to) : w.cell? ⟨s, 2, none⟩ = some (.slice none 0 0) ∧ w.cell? ⟨s, 3, none⟩ = some (.int .i64 nx) ∧ w.cell? ⟨s, 9, none⟩ = some (.bool false) ∧ w.cell? ⟨s, 10, none⟩ = some (.int .i64 0) ∧ w.cell? ⟨s, 11, none⟩ = some (.int .i64 la) ∧ w.cell? ⟨s, 12, none⟩ = some (.int .i64 re) ∧ w.cell? ⟨s, 13, none⟩ = some (.int .i64 to) :=
  ⟨blk_cell h 2, blk_cell h 3, blk_cell h 9, blk_cell h 10, blk_cell h 11, blk_cell h 12, blk_cell h 13⟩
theorem ST.f {w : World} {s : Nat} {v p : Value} {nx la re to : Int} (h : ST w s v p nx la re to) : w.frozen? ⟨s, 3, none⟩ = false ∧ w.frozen? ⟨s, 11, none⟩ = false ∧ w.frozen? ⟨s, 12, none⟩ = false ∧ w.frozen? ⟨s, 13, none⟩ = false :=
  ⟨blk_free h 3, blk_free h 11, blk_free h 12, blk_free h 13⟩
theorem OP.below {w w' : World} {o n z s k : Nat} {d : Value} (h : OP w o d n z s) (hb : Below k w w') (hk : o < k) : OP w' o d n z s := blk_below hb h hk
theorem ST.below {w w' : World} {s k : Nat} {v p : Value} {nx la re to : Int} (h : ST w s v p nx la re to) (hb : Below k w w') (hk : s < k) : ST w' s v p nx la re to := blk_below hb h hk

set_option maxRecDepth 20000 in
set_option maxHeartbeats 1000000 in
theorem must_0 (w : World) : Calls Tryz.prog 14 #[.int .i64 0] w fun e' w' => e' = .returned (.tuple #[]) ∧ w' = w := by
  go_enter Tryz.func14, Tryz.ntmps14
  (repeat' ((fail_if_success at_builtin); first | go_values | go_skip | go_guarded | go_step | go_upon | go_back))
  refine bodyPost_end (results_none rfl _ _ _) rfl ⟨rfl, rfl⟩

set_option maxRecDepth 20000 in
set_option maxHeartbeats 1000000 in
theorem must_off (w : World) : Calls Tryz.prog 14 #[.int .i64 11] w fun e' w' => e' = .panicked [{ v := .iface 45 (.int .i64 11), recovered := false }] ∧ w' = w := by
  go_enter Tryz.func14, Tryz.ntmps14
  (repeat' ((fail_if_success at_builtin); first | go_values | go_skip | go_guarded | go_step | go_upon | go_back))
  exact ⟨rfl, rfl, rfl⟩

set_option maxRecDepth 20000 in
set_option maxHeartbeats 1000000 in
theorem read_0 (w : World) (o n z s : Nat) (d : Value) (h : OP w o d n z s) (hn : EMap w (some n)) (nm : ByteArray) :
    Calls Tryz.prog 39 #[.pointer (some ⟨o, 0, none⟩), .string nm] w fun e' w' => e' = .returned (.tuple #[.slice none 0 0, .bool false]) ∧ w' = w := by
  obtain ⟨c0, c1, c2, c3, c4⟩ := h.c
  obtain ⟨g, c, hg, hg2⟩ : ∃ g c, some n = some g ∧ w.heap[g]? = some (.map #[] c) := by
    rcases hn with h1 | h1
    · cases h1
    · exact h1
  cases hg
  have hlk := run_lookup_e (P := Tryz.prog) (w := w) 52 _ _ Tryz.underlying52 Tryz.underlying9 (key := .string nm) (z := .bool false) (by simp [MapKept.IsKey]) (Tryz.zeroValue4 w) hg2 false
  clear h hg2 hn
  go_enter Tryz.func39, Tryz.ntmps39
  (repeat' ((fail_if_success at_builtin); first | go_values | go_skip | go_guarded | go_step | go_upon | go_back))
  refine bodyPost_ret (results_tmp2 rfl _ _ _) rfl ⟨rfl, rfl⟩

set_option maxRecDepth 20000 in
set_option maxHeartbeats 1000000 in
theorem manifest_0 (w : World) (o n z s : Nat) (d : Value) (h : OP w o d n z s) (hn : EMap w (some n)) :
    Calls Tryz.prog 18 #[.pointer (some ⟨o, 0, none⟩)] w fun e' w' => e' = .returned (.tuple #[]) ∧ w' = w := by
  go_enter Tryz.func18, Tryz.ntmps18
  (repeat' ((fail_if_success at_builtin); first | go_values | go_skip | go_guarded | go_step | go_upon | go_back))
  (refine (read_0 _ o n z s d h hn _).mono ?_; rintro e1 w1 ⟨rfl, rfl⟩; dsimp only; (repeat' ((fail_if_success at_builtin); first | go_values | go_skip | go_guarded | go_step | go_upon | go_back)))
  refine bodyPost_ret (results_none rfl _ _ _) rfl ⟨rfl, rfl⟩

set_option maxRecDepth 20000 in
set_option maxHeartbeats 1000000 in
theorem checkpoint_0 (w : World) (o n z s : Nat) (d v p : Value) (nx la re to : Int) (h : OP w o d n z s) (hs : ST w s v p nx la re to) :
    Calls Tryz.prog 19 #[.pointer (some ⟨o, 0, none⟩)] w fun e' w' => e' = .returned (.tuple #[]) ∧ w' = w := by
  obtain ⟨c0, c1, c2, c3, c4⟩ := h.c
  obtain ⟨d2, d3, d9, d10, d11, d12, d13⟩ := hs.c
  clear h hs
  go_enter Tryz.func19, Tryz.ntmps19
  (repeat' ((fail_if_success at_builtin); first | go_values | go_skip | go_guarded | go_step | go_upon | go_back))
  refine bodyPost_ret (results_none rfl _ _ _) rfl ⟨rfl, rfl⟩

set_option maxRecDepth 20000 in
set_option maxHeartbeats 1000000 in
theorem needed_0 (w : World) (o n z s : Nat) (d : Value) (h : OP w o d n z s) (hz : EMap w (some z)) :
    Calls Tryz.prog 46 #[.pointer (some ⟨o, 0, none⟩)] w fun e' w' => e' = .returned (.slice none 0 0) ∧ Below w.heap.size w w' := by
  obtain ⟨c0, c1, c2, c3, c4⟩ := h.c
  clear h
  go_enter Tryz.func46, Tryz.ntmps46
  (repeat' ((fail_if_success at_builtin); first | go_values | go_skip | go_guarded | go_step | go_upon | go_back))
  (refine (keysI_of _ _ hz).mono ?_; rintro e1 w2 ⟨rfl, hy, hb2⟩; dsimp only)
  (repeat' ((fail_if_success at_builtin); first | go_values | go_skip | go_guarded | go_step | go_upon | go_back))
  (refine (sorted_int _ (enters_of Tryz.func101 (by kernel_rfl) rfl) hy).mono ?_; rintro e1 w3 ⟨rfl, hb3⟩; dsimp only; (repeat' ((fail_if_success at_builtin); first | go_values | go_skip | go_guarded | go_step | go_upon | go_back)))
  refine wp_loop_rounds 1 ?_; rw [rounds_succ]
  (repeat' ((fail_if_success at_builtin); first | go_values | go_skip | go_guarded | go_step | go_upon | go_back))
  refine bodyPost_ret (results_tmp rfl _ _ _) rfl ⟨rfl, hb2.trans (hb3.mono hb2.size)⟩

set_option maxRecDepth 20000 in
set_option maxHeartbeats 1000000 in
theorem batches1_0 (w : World) (g1 g2 : Nat) (hc : w.cell? ⟨g1, 0, none⟩ = some (.slice none 0 0)) : Yields0 Tryz.prog 97 #[.pointer (some ⟨g1, 0, none⟩), .pointer (some ⟨g2, 0, none⟩)] w := by
  intro l W hW
  show Calls Tryz.prog 97 #[.func (.yield l) #[] #[], .pointer (some ⟨g1, 0, none⟩), .pointer (some ⟨g2, 0, none⟩)] W _
  have hlt : g1 < w.heap.size := World.block_lt_of_cell? w _ hc
  have hcW : W.cell? ⟨g1, 0, none⟩ = some (.slice none 0 0) := (World.cell?_of_block (hW.block g1 hlt)).trans hc
  have hlW : g1 < W.heap.size := World.block_lt_of_cell? W _ hcW
  clear hc hW
  go_enter Tryz.func97, Tryz.ntmps97
  (repeat' ((fail_if_success at_builtin); first | go_values | go_skip | go_guarded | go_step | go_upon | go_back))
  refine wp_loop_rounds 1 ?_; rw [rounds_succ]
  (repeat' ((fail_if_success at_builtin); first | go_values | go_skip | go_guarded | go_step | go_upon | go_back))
  refine bodyPost_end (results_none rfl _ _ _) rfl ⟨⟨_, rfl⟩, by (repeat' (first | (with_reducible exact Below.refl _ _) | (with_reducible assumption) | (with_reducible refine Below.drew ?_) | (with_reducible refine bdrewN ?_ _) | (with_reducible refine Below.alloc ?_ ?_ _) | (with_reducible refine Below.setCell ?_ ?_ _) | omega | (simp; done) | (simp; omega)))⟩

set_option maxRecDepth 20000 in
set_option maxHeartbeats 1000000 in
theorem mend_0 (w : World) (o b n z s n0 : Nat) (hn0 : n0 ≤ b) (v p : Value) (nx la re to : Int) (h : OP w o (.pointer (some ⟨b, 0, none⟩)) n z s) (hs : ST w s v p nx la re to) (hd : DK w b (.map none) (.slice none 0 0) (.slice none 0 0) (.slice none 0 0) 0 false) :
    Calls Tryz.prog 21 #[.pointer (some ⟨o, 0, none⟩)] w fun e' w' => e' = .returned (.tuple #[]) ∧ (∃ m, DK w' b (.map (some m)) (.slice none 0 0) (.slice none 0 0) (.slice none 0 0) 1 false) ∧ Kp w w' b n0 := by
  obtain ⟨c0, c1, c2, c3, c4⟩ := h.c
  obtain ⟨d2, d3, d9, d10, d11, d12, d13⟩ := hs.c
  clear h hs
  go_enter Tryz.func21, Tryz.ntmps21
  (repeat' ((fail_if_success at_builtin); first | go_values | go_skip | go_guarded | go_step | go_upon | go_back))
  (refine (syncNames_0 _ b n0 hn0 hd).mono ?_; rintro e1 w1 ⟨rfl, h3, hb3⟩; dsimp only; (repeat' ((fail_if_success at_builtin); first | go_values | go_skip | go_guarded | go_step | go_upon | go_back)))
  (refine (must_0 _).mono ?_; rintro e1 w2 ⟨rfl, rfl⟩; dsimp only; (repeat' ((fail_if_success at_builtin); first | go_values | go_skip | go_guarded | go_step | go_upon | go_back)))
  refine bodyPost_end (results_none rfl _ _ _) rfl ⟨rfl, h3, hb3⟩

end Go.Proofs.YthkfbhkedkangaaGreat
