/- A drawn region that only reads and whose last call panics, in a loop. No condition. -/
import Derived.Test.YtbppnihcbcdglaaGreatProg
import Derived.WalkKit
import Derived.WalkLawsBesides
import Derived.WalkSpells
import Derived.KernelRfl
import Derived.Lib.Hide
import Derived.Maps.AppendAt
import Derived.Laws.AppendOwnNone
import Derived.Deep.QuietTactic
import Derived.BigQuiet
import Derived.BigRegion
import Derived.Deep.RegionWith
import Derived.Deep.RegionHeld3
import Derived.StillTailTactics
import Derived.Test.YtbppnihcbcdglaaGreatZ1
/- Words that the walks share: bytes, owned rows, what a call keeps. No condition. -/
namespace Go.Proofs.YtbppnihcbcdglaaGreat
open Go.RowKit

def B (b : UInt8) : Value := .int .u8 (b.toNat : Int)
theorem B_eq (b : UInt8) : B b = .int .u8 (b.toNat : Int) := rfl
theorem B_one (b : UInt8) : (B b).oneCell' = true := rfl

/-- Bytes that lie at an address. -/
def Bts (w : World) (a : Option Addr) (xs : Bs) : Prop :=
  xs = [] ∨ ∃ b o, a = some ⟨b, o, none⟩ ∧ ∀ i u, xs[i]? = some u → w.cell? ⟨b, o + i, none⟩ = some (B u)

theorem Bts.nil (w : World) (a : Option Addr) : Bts w a [] := .inl rfl

theorem Bts.at {w : World} {a : Option Addr} {xs : Bs} (h : Bts w a xs) (hn : 0 < xs.length) :
    ∃ b o, a = some ⟨b, o, none⟩ ∧ b < w.heap.size ∧ ∀ i u, xs[i]? = some u → w.cell? ⟨b, o + i, none⟩ = some (B u) := by
  rcases h with rfl | ⟨b, o, rfl, h⟩
  · simp at hn
  · refine ⟨b, o, rfl, ?_, h⟩
    exact World.block_lt_of_cell? w _ (h 0 xs[0] (List.getElem?_eq_getElem hn))

theorem Bts.kept {w w' : World} {a : Option Addr} {xs : Bs} (h : Bts w a xs) (hk : ∀ b o, a = some ⟨b, o, none⟩ → b < w.heap.size → w'.heap[b]? = w.heap[b]?) : Bts w' a xs := by
  rcases h with rfl | ⟨b, o, rfl, h⟩
  · exact .inl rfl
  · refine .inr ⟨b, o, rfl, fun i u hu => ?_⟩
    have hc := h i u hu
    exact (World.cell?_of_block (hk b o rfl (World.block_lt_of_cell? w _ hc))).trans hc

theorem Bts.below {w w' : World} {a : Option Addr} {xs : Bs} (h : Bts w a xs) (hb : Below w.heap.size w w') : Bts w' a xs := h.kept fun b _ _ hlt => hb.block b hlt

/-- Bytes that a slice value '.slice a xs.length c' reads as. -/
structure BS (w : World) (a : Option Addr) (c : Nat) (xs : Bs) : Prop where
  le : xs.length ≤ c
  nil : a = none → c = 0
  at_ : Bts w a xs
theorem BS.below {w w' : World} {a : Option Addr} {c : Nat} {xs : Bs} (h : BS w a c xs) (hb : Below w.heap.size w w') : BS w' a c xs := ⟨h.le, h.nil, h.at_.below hb⟩
theorem BS.nil_ {w : World} {c : Nat} {xs : Bs} (h : BS w none c xs) : c = 0 ∧ xs = [] := by
  have h1 := h.nil rfl
  have h2 := h.le
  subst h1
  exact ⟨rfl, by cases xs with | nil => rfl | cons a b => simp at h2⟩

/-- Bytes that the call owns. -/
def OwnB (w : World) (n0 : Nat) (v : Value) (xs : Bs) : Prop := w.ownsRow n0 5 1 v xs.length (xs.map B)

theorem OwnB.nil (w : World) (n0 : Nat) : OwnB w n0 (.slice none 0 0) [] := World.ownsRow_nil _ _ _ _

theorem OwnB.shape {w : World} {n0 : Nat} {v : Value} {xs : Bs} (h : OwnB w n0 v xs) : ∃ a c, v = .slice a xs.length c ∧ BS w a c xs ∧ ∀ b o, a = some ⟨b, o, none⟩ → n0 ≤ b := by
  have h2 := h.2
  rcases h2 with ⟨rfl, h0⟩ | ⟨g, cap, cur, rfl, hg, hh, hn, hm, hs, ht⟩
  · have : xs = [] := by simpa using h0
    subst this
    exact ⟨none, 0, rfl, ⟨by simp, fun _ => rfl, .inl rfl⟩, fun b o e => by cases e⟩
  · refine ⟨some ⟨g, 0, none⟩, cap, rfl, ⟨hn, fun e => (by cases e), .inr ⟨g, 0, rfl, fun i u hu => ?_⟩⟩, fun b o e => by cases e; exact hg⟩
    have := World.ownsRow.cells (w := w) h (g := g) (by simp [Value.ownBlock]) i (B u) (by simp [hu])
    rw [Addr.add_lit] at this
    simpa using this

theorem OwnB.kept {w w' : World} {n0 : Nat} {v : Value} {xs : Bs} (h : OwnB w n0 v xs) (hk : ∀ b, v.ownBlock = some b → b < w.heap.size → w'.heap[b]? = w.heap[b]?) : OwnB w' n0 v xs := by
  obtain ⟨h1, h2⟩ := h
  refine ⟨h1, ?_⟩
  rcases h2 with h2 | ⟨g, cap, cur, rfl, hg, hh, r⟩
  · exact .inl h2
  · exact .inr ⟨g, cap, cur, rfl, hg, (hk g (by simp [Value.ownBlock]) (Array.getElem?_eq_some_iff.1 hh).1).trans hh, r⟩

theorem OwnB.lower {w : World} {n0 n1 : Nat} {v : Value} {xs : Bs} (h : OwnB w n0 v xs) (hn : n1 ≤ n0) : OwnB w n1 v xs := by
  obtain ⟨h1, h2⟩ := h
  refine ⟨h1, ?_⟩
  rcases h2 with h2 | ⟨g, cap, cur, rfl, hg, r⟩
  · exact .inl h2
  · exact .inr ⟨g, cap, cur, rfl, by omega, r⟩

theorem Tryz.info5 : (Tryz.prog.info? 5).map (fun i => (i.zero, i.size, i.bytes)) = some (some (.int .u8 0), 1, 1) := by kernel_rfl

/-- append(v, x...), v the call's own bytes. -/
theorem wp_appB {w : World} {ops : Array Oper} {rest : List Oper} {o : Oper} {a : Act} {Q : Exit → Act → World → Prop} (hgd : o.guard = none) (s x : Operand)
    (ho : o.op = .call { callee := .builtin .append, args := #[s, x], argTypes := #[27, 27] })
    (n0 : Nat) (v : Value) (xs ys : Bs) (hs : a.eval s = v) (hown : OwnB w n0 v xs) (ax : Option Addr) (c : Nat) (hx : a.eval x = .slice ax ys.length c) (hy : BS w ax c ys)
    (hl : xs.length + ys.length ≤ 100000000000000) (hbase : n0 ≤ w.heap.size)
    (h : ∀ v' w', OwnB w' n0 v' (xs ++ ys) → w.grownBy w' v.ownBlock → wpList Tryz.prog ops Q rest (a.put o.dst v') w') : wpList Tryz.prog ops Q (o :: rest) a w := by
  obtain ⟨i0, hi, hz0, hz1, hz2⟩ := info_parts Tryz.info5
  cases ax with
  | none =>
    obtain ⟨rfl, rfl⟩ := hy.nil_
    refine wpList_append_own_none hgd s x 27 ho n0 5 i0 1 Tryz.underlying27 hi v xs.length (xs.map B) hs hown hx ?_
    exact h v w (by simpa using hown) ⟨rfl, rfl, rfl, Nat.le_refl _, fun _ _ _ => rfl⟩
  | some ad =>
    refine wpList_append_own w hgd s x 27 ho n0 5 i0 (.int .u8 0) 1 1 Tryz.underlying27 hi hz0 hz1 hz2 rfl (by decide) v xs.length (xs.map B) hs hown ad ys.length c (ys.map B) hx (by simp) ?_ ?_ (by unfold maxLen; omega) (by omega) hbase ?_
    · intro j u hj
      rw [List.getElem?_map] at hj
      cases hyj : ys[j]? with
      | none => rw [hyj] at hj; cases hj
      | some b =>
        rw [hyj] at hj
        obtain rfl : B b = u := by simpa using hj
        rcases hy.at_ with rfl | ⟨g, off, e, hyy⟩
        · simp at hyj
        · cases e
          rw [Addr.add_lit]
          exact hyy j b hyj
    · intro u hu
      obtain ⟨b, _, rfl⟩ := List.mem_map.1 hu
      rfl
    · intro v' w' hown' hg _
      refine h v' w' ?_ hg
      unfold OwnB
      simpa using hown'

/-- What a call keeps: all blocks but those of S. -/
structure Fr (w w' : World) (S : Nat → Prop) : Prop where
  os : w'.os = w.os
  tape : w'.tape = w.tape
  output : w'.output = w.output
  size : w.heap.size ≤ w'.heap.size
  block : ∀ k, k < w.heap.size → ¬ S k → w'.heap[k]? = w.heap[k]?

section
variable {w w' w'' : World} {S S' : Nat → Prop}
theorem Fr.refl (w : World) (S : Nat → Prop) : Fr w w S := ⟨rfl, rfl, rfl, Nat.le_refl _, fun _ _ _ => rfl⟩
theorem Fr.mono (h : Fr w w' S) (hs : ∀ k, k < w.heap.size → S k → S' k) : Fr w w' S' := ⟨h.os, h.tape, h.output, h.size, fun k hk hn => h.block k hk (fun h' => hn (hs k hk h'))⟩
theorem Fr.trans (h : Fr w w' S) (h' : Fr w' w'' S') (hs : ∀ k, k < w.heap.size → ¬ S k → w'.heap[k]? = w.heap[k]? → ¬ S' k) : Fr w w'' S :=
  ⟨h'.os.trans h.os, h'.tape.trans h.tape, h'.output.trans h.output, Nat.le_trans h.size h'.size, fun k hk hn =>
    have e := h.block k hk hn
    (h'.block k (Nat.lt_of_lt_of_le hk h.size) (hs k hk hn e)).trans e⟩
theorem Fr.of_below {B0 : Nat} (h : Below B0 w w') : Fr w w' (fun k => B0 ≤ k) := ⟨h.os, h.tape, h.output, h.size, fun k _ hn => h.block k (Nat.lt_of_not_le hn)⟩
theorem Fr.pure (h : Below w.heap.size w w') (S : Nat → Prop) : Fr w w' S := ⟨h.os, h.tape, h.output, h.size, fun k hk _ => h.block k hk⟩
theorem Fr.then_below (h : Fr w w' S) (h' : Below w'.heap.size w' w'') : Fr w w'' S := h.trans (Fr.pure h' (fun _ => False)) (fun _ _ _ _ h => h)
theorem Fr.below {B0 : Nat} (h : Fr w w' S) (hB : B0 ≤ w.heap.size) (hs : ∀ k, k < w.heap.size → S k → B0 ≤ k) : Below B0 w w' :=
  ⟨h.os, h.tape, h.output, h.size, fun k hk => h.block k (by omega) (fun h' => by have := hs k (by omega) h'; omega)⟩
theorem Fr.blk (h : Fr w w' S) {k : Nat} {o : Obj} (hb : w.heap[k]? = some o) (hn : ¬ S k) : w'.heap[k]? = some o := (h.block k (Array.getElem?_eq_some_iff.1 hb).1 hn).trans hb
theorem Fr.alloc (h : Fr w w' S) (o : Obj) : Fr w (w'.alloc o) S := h.then_below ((Below.refl _ _).alloc (Nat.le_refl _) o)
theorem Fr.drew (h : Fr w w' S) : Fr w w'.drew S := ⟨h.os, h.tape, h.output, h.size, h.block⟩
theorem Fr.drewN (h : Fr w w' S) (n : Nat) : Fr w (w'.drewN n) S := ⟨h.os, h.tape, h.output, h.size, h.block⟩
theorem Fr.setCell (h : Fr w w' S) {p : Addr} (hp : S p.block ∨ w.heap.size ≤ p.block) (u : Value) : Fr w (w'.setCell p u) S :=
  h.trans (S' := fun k => k = p.block) ⟨rfl, rfl, rfl, by simp [World.setCell], fun k _ hn => Below.heap_setCell _ _ _ _ hn⟩ (fun k hk hn _ e => by subst e; rcases hp with hp | hp; exact hn hp; omega)
theorem Fr.grown (h : Fr w w' S) {row : Option Nat} (hg : w'.grownBy w'' row) (hr : ∀ k, row = some k → S k ∨ w.heap.size ≤ k) : Fr w w'' S :=
  h.trans (S' := fun k => row = some k) ⟨hg.os, hg.tape, hg.output, hg.size, fun k hk hn => hg.block k hk (fun e => hn e.symm)⟩ (fun k hk hn _ e => by rcases hr k e with h | h; exact hn h; omega)
end

theorem blk_lt {w : World} {k : Nat} {o : Obj} (h : w.heap[k]? = some o) : k < w.heap.size := (Array.getElem?_eq_some_iff.1 h).1
theorem blk_cell {w : World} {b : Nat} {c : Array Value} {t : TypeId} {f : Nat × Nat} (h : w.heap[b]? = some (.cells c t f)) (i : Nat) : w.cell? ⟨b, i, none⟩ = c[i]? := by simp [World.cell?, h]
theorem blk_free {w : World} {b : Nat} {c : Array Value} {t : TypeId} (h : w.heap[b]? = some (.cells c t (0, 0))) (i : Nat) : w.frozen? ⟨b, i, none⟩ = false := by simp [World.frozen?, h]
theorem blk_set {w : World} {b : Nat} {c : Array Value} {t : TypeId} {f : Nat × Nat} (h : w.heap[b]? = some (.cells c t f)) (i : Nat) (u : Value) : (w.setCell ⟨b, i, none⟩ u).heap[b]? = some (.cells (c.setIfInBounds i u) t f) := by
  simp only [World.setCell, Array.getElem?_modify, if_true, h, Option.map_some]
  rfl
theorem blk_set_other {w : World} {b b' : Nat} {o : Obj} (h : w.heap[b]? = some o) (hne : b ≠ b') (i : Nat) (u : Value) : (w.setCell ⟨b', i, none⟩ u).heap[b]? = some o := by rw [Below.heap_setCell _ _ _ _ hne]; exact h
theorem blk_alloc {w : World} {b : Nat} {o : Obj} (h : w.heap[b]? = some o) (o' : Obj) : (w.alloc o').heap[b]? = some o := by rw [Below.heap_alloc _ _ _ (blk_lt h)]; exact h
theorem blk_new (w : World) (o : Obj) : (w.alloc o).heap[w.heap.size]? = some o := heap_alloc_new w o

/-- A block of bytes, from n0 on. -/
def U8blk (w : World) (n0 k : Nat) : Prop := n0 ≤ k ∧ ∃ c f, w.heap[k]? = some (.cells c 5 f)
theorem not_U8 {w : World} {n0 k : Nat} {c : Array Value} {t : TypeId} {f : Nat × Nat} (h : w.heap[k]? = some (.cells c t f)) (ht : t ≠ 5) : ¬ U8blk w n0 k := by
  rintro ⟨_, c', f', h'⟩
  rw [h] at h'
  injection h' with h'
  injection h' with _ h'
  exact ht h'
/-- All but block b, and blocks of bytes from n0 on, is as it was. -/
def FrW (b n0 : Nat) (w w' : World) : Prop := Fr w w' (fun k => k = b ∨ U8blk w n0 k)
theorem FrW.trans {b n0 : Nat} {w w' w'' : World} (h : FrW b n0 w w') (h' : FrW b n0 w' w'') : FrW b n0 w w'' :=
  Fr.trans h h' (fun k _ hn he hs => hn (by
    rcases hs with hs | ⟨h1, c, f, h2⟩
    · exact .inl hs
    · exact .inr ⟨h1, c, f, by rw [← he]; exact h2⟩))
theorem OwnB.row {w : World} {n0 : Nat} {v : Value} {xs : Bs} (h : OwnB w n0 v xs) (k : Nat) (hk : v.ownBlock = some k) : U8blk w n0 k := by
  rcases h.2 with ⟨rfl, _⟩ | ⟨g, cap, cur, rfl, hg, hh, r⟩
  · simp [Value.ownBlock] at hk
  · have : g = k := by simpa [Value.ownBlock] using hk
    subst this
    exact ⟨hg, cur, _, hh⟩
theorem OwnB.ne {w : World} {n0 b : Nat} {v : Value} {xs : Bs} {c : Array Value} {t : TypeId} {f : Nat × Nat} (ho : OwnB w n0 v xs) (h : w.heap[b]? = some (.cells c t f)) (ht : t ≠ 5) : v.ownBlock ≠ some b :=
  fun hb => not_U8 h ht (ho.row b hb)
theorem bts_conv (w : World) (s : ByteArray) (c : Nat) (f : Nat × Nat) : Bts (w.alloc (.cells (bytesRow s c) 5 f)) (some ⟨w.heap.size, 0, none⟩) s.data.toList := by
  refine .inr ⟨_, _, rfl, fun i u hu => ?_⟩
  have hl : i < s.data.size := by
    rcases Nat.lt_or_ge i s.data.size with h | h
    · exact h
    · rw [List.getElem?_eq_none (by simpa using h)] at hu; cases hu
  rw [blk_cell (blk_new w _), Nat.zero_add, bytesRow_at s c i hl]
  have : s.data[i] = u := by rw [Array.getElem?_toList, Array.getElem?_eq_getElem hl] at hu; exact Option.some.inj hu
  rw [this]
  rfl
theorem grownCap_size (w : World) (n o : Nat) (e : TypeId) : n ≤ grownCap w n o e := grownCap_ge w n o e
theorem Bts.drew {w : World} {a : Option Addr} {xs : Bs} (h : Bts w a xs) : Bts w.drew a xs := h
theorem run_sbytes (W : World) (s : ByteArray) : (convert 9 27 (.string s)).run Tryz.prog W = .ok (.slice (some ⟨W.heap.size, 0, none⟩) s.size (grownCap W s.size 0 5))
      (W.drew.alloc (.cells (bytesRow s (grownCap W s.size 0 5)) 5 ((bytesRow s (grownCap W s.size 0 5)).size, (bytesRow s (grownCap W s.size 0 5)).size + 1))) :=
  run_bytes_of_string W 9 27 5 s Tryz.underlying9 Tryz.underlying27 Tryz.underlying5
theorem run_bnil (W : World) (a : Option Addr) (n c : Nat) : (binOp .eql 27 (.slice a n c) (.slice none 0 0)).run Tryz.prog W = .ok (.bool a.isNone) W :=
  Lib.run_eql_slice_nil W 27 5 a n c 0 0 Tryz.underlying27
theorem own_empty (w : World) (n0 : Nat) (h : n0 ≤ w.heap.size) : OwnB (w.alloc (.cells #[] 5)) n0 (.slice (some ⟨w.heap.size, 0, none⟩) 0 0) [] :=
  World.ownsRow_made w #[] 0 h (by unfold maxLen; omega) rfl
theorem bts_one {w : World} {x : Int} {u : UInt8} (h : x = u.toNat) : BS (w.alloc (.cells #[.int .u8 x] 5)) (some ⟨w.heap.size, 0, none⟩) 1 [u] := by
  subst h
  refine ⟨Nat.le_refl _, (fun h => nomatch h), .inr ⟨_, _, rfl, fun i y hy => ?_⟩⟩
  match i, hy with
  | 0, hy =>
    obtain rfl : u = y := by simpa using hy
    simp [B]
theorem FrW.before {b n0 : Nat} {w w' w'' : World} (hb : Below w.heap.size w w') (h : FrW b n0 w' w'') : FrW b n0 w w'' := FrW.trans (Fr.pure hb _) h
theorem FrW.blk {b n0 : Nat} {w w' : World} (h : FrW b n0 w w') {k : Nat} {c : Array Value} {t : TypeId} {f : Nat × Nat} (hk : w.heap[k]? = some (.cells c t f)) (hne : k ≠ b) (ht : t ≠ 5) : w'.heap[k]? = some (.cells c t f) :=
  Fr.blk h hk (fun hs => hs.elim hne (not_U8 hk ht))
theorem FrW.below {b n0 : Nat} {w w' : World} (h : FrW b n0 w w') {n : Nat} (hb : n ≤ b) (hn : n ≤ n0) (hs : n ≤ w.heap.size) : Below n w w' :=
  Fr.below h hs (fun k _ hk => by rcases hk with rfl | ⟨h1, _⟩ <;> omega)
theorem blk_new1 (w : World) (o1 o2 : Obj) : ((w.alloc o1).alloc o2).heap[w.heap.size + 1]? = some o2 := by rw [← World.size_alloc w o1]; exact blk_new _ _
theorem blk_new2 (w : World) (o1 o2 o3 : Obj) : (((w.alloc o1).alloc o2).alloc o3).heap[w.heap.size + 1 + 1]? = some o3 := by rw [← World.size_alloc w o1]; exact blk_new1 _ _ _
theorem blk_new3 (w : World) (o1 o2 o3 o4 : Obj) : ((((w.alloc o1).alloc o2).alloc o3).alloc o4).heap[w.heap.size + 1 + 1 + 1]? = some o4 := by rw [← World.size_alloc w o1]; exact blk_new2 _ _ _ _
theorem blk_grown {w w' : World} {row : Option Nat} {k : Nat} {o : Obj} (hg : w.grownBy w' row) (h : w.heap[k]? = some o) (hn : row ≠ some k) : w'.heap[k]? = some o := (hg.block k (blk_lt h) (fun e => hn e.symm)).trans h
theorem blk_below {w w' : World} {k n : Nat} {o : Obj} (hb : Below n w w') (h : w.heap[k]? = some o) (hn : k < n) : w'.heap[k]? = some o := (hb.block k hn).trans h
theorem OwnB.set {w : World} {n0 : Nat} {v : Value} {xs : Bs} (ho : OwnB w n0 v xs) {b : Nat} {c : Array Value} {t : TypeId} {f : Nat × Nat} (h : w.heap[b]? = some (.cells c t f)) (ht : t ≠ 5) (i : Nat) (u : Value) : OwnB (w.setCell ⟨b, i, none⟩ u) n0 v xs :=
  ho.kept fun k hk _ => Below.heap_setCell _ _ _ _ (fun e => ho.ne h ht (by rw [hk]; exact congrArg some e))
theorem OwnB.bs {w : World} {n0 : Nat} {a : Option Addr} {n c : Nat} {xs : Bs} (h : OwnB w n0 (.slice a n c) xs) : BS w a c xs := by
  obtain ⟨a', c', e, h1, -⟩ := h.shape
  cases e
  exact h1
/-- What the walk wants of a block of two cells. -/
theorem blk2 {w : World} {b : Nat} {x y : Value} {t : TypeId} (h : w.heap[b]? = some (.cells #[x, y] t (0, 0))) :
    w.cell? ⟨b, 0, none⟩ = some x ∧ w.cell? ⟨b, 1, none⟩ = some y ∧ w.frozen? ⟨b, 0, none⟩ = false ∧ w.frozen? ⟨b, 1, none⟩ = false :=
  ⟨blk_cell h 0, blk_cell h 1, blk_free h 0, blk_free h 1⟩
theorem blk1 {w : World} {b : Nat} {x : Value} {t : TypeId} (h : w.heap[b]? = some (.cells #[x] t (0, 0))) :
    w.cell? ⟨b, 0, none⟩ = some x ∧ w.frozen? ⟨b, 0, none⟩ = false := ⟨blk_cell h 0, blk_free h 0⟩
theorem blk3 {w : World} {b : Nat} {x y z : Value} {t : TypeId} (h : w.heap[b]? = some (.cells #[x, y, z] t (0, 0))) :
    w.cell? ⟨b, 0, none⟩ = some x ∧ w.cell? ⟨b, 1, none⟩ = some y ∧ w.cell? ⟨b, 2, none⟩ = some z ∧ w.frozen? ⟨b, 0, none⟩ = false ∧ w.frozen? ⟨b, 1, none⟩ = false ∧ w.frozen? ⟨b, 2, none⟩ = false :=
  ⟨blk_cell h 0, blk_cell h 1, blk_cell h 2, blk_free h 0, blk_free h 1, blk_free h 2⟩
theorem blk4 {w : World} {b : Nat} {x y z u : Value} {t : TypeId} (h : w.heap[b]? = some (.cells #[x, y, z, u] t (0, 0))) :
    w.cell? ⟨b, 0, none⟩ = some x ∧ w.cell? ⟨b, 1, none⟩ = some y ∧ w.cell? ⟨b, 2, none⟩ = some z ∧ w.cell? ⟨b, 3, none⟩ = some u ∧ w.frozen? ⟨b, 0, none⟩ = false ∧ w.frozen? ⟨b, 1, none⟩ = false ∧ w.frozen? ⟨b, 2, none⟩ = false ∧ w.frozen? ⟨b, 3, none⟩ = false :=
  ⟨blk_cell h 0, blk_cell h 1, blk_cell h 2, blk_cell h 3, blk_free h 0, blk_free h 1, blk_free h 2, blk_free h 3⟩
theorem BS.kept {w w' : World} {a : Option Addr} {c : Nat} {xs : Bs} (h : BS w a c xs) (hk : ∀ b o, a = some ⟨b, o, none⟩ → b < w.heap.size → w'.heap[b]? = w.heap[b]?) : BS w' a c xs := ⟨h.le, h.nil, h.at_.kept hk⟩
/-- A store into a block that holds no bytes. -/
theorem BS.set {w : World} {a : Option Addr} {c : Nat} {xs : Bs} (h : BS w a c xs) {b : Nat} {cs : Array Value} {t : TypeId} {f : Nat × Nat} (hb : w.heap[b]? = some (.cells cs t f)) (hn : ∀ v, v ∈ cs.toList → ∀ u, v ≠ B u) (i : Nat) (u : Value) : BS (w.setCell ⟨b, i, none⟩ u) a c xs := by
  refine ⟨h.le, h.nil, ?_⟩
  rcases h.at_ with h0 | ⟨g, o, rfl, hc⟩
  · exact .inl h0
  · by_cases hg : g = b
    · subst hg
      refine .inl ?_
      cases hx : xs with
      | nil => rfl
      | cons y ys =>
        have h0 := hc 0 y (by rw [hx]; rfl)
        rw [blk_cell hb] at h0
        exact absurd rfl (hn (B y) (Array.mem_toList_iff.2 (Array.mem_of_getElem? h0)) y)
    · exact .inr ⟨g, o, rfl, fun i u hu => by rw [World.cell?_setCell_other _ _ _ _ (fun e => hg (congrArg Addr.block e).symm)]; exact hc i u hu⟩
theorem box1 (w : World) (o1 : Obj) : ∃ W, Hid (W = w.alloc o1) ∧ Below w.heap.size w W ∧ W.heap[w.heap.size]? = some o1 ∧ W.heap.size = w.heap.size + 1 :=
  ⟨_, Lib.hid rfl, (Below.refl _ _).alloc (Nat.le_refl _) _, blk_new _ _, World.size_alloc _ _⟩
theorem box2 (w : World) (o1 o2 : Obj) : ∃ W, Hid (W = (w.alloc o1).alloc o2) ∧ Below w.heap.size w W ∧ W.heap[w.heap.size]? = some o1 ∧ W.heap[w.heap.size + 1]? = some o2 ∧ W.heap.size = w.heap.size + 2 :=
  ⟨_, Lib.hid rfl, ((Below.refl _ _).alloc (Nat.le_refl _) _).alloc (by simp) _, blk_alloc (blk_new _ _) _, blk_new1 _ _ _, by simp⟩
theorem box3 (w : World) (o1 o2 o3 : Obj) : ∃ W, Hid (W = ((w.alloc o1).alloc o2).alloc o3) ∧ Below w.heap.size w W ∧ W.heap[w.heap.size]? = some o1 ∧ W.heap[w.heap.size + 1]? = some o2 ∧ W.heap[w.heap.size + 1 + 1]? = some o3 ∧ W.heap.size = w.heap.size + 3 :=
  ⟨_, Lib.hid rfl, (((Below.refl _ _).alloc (Nat.le_refl _) _).alloc (by simp) _).alloc (by simp; omega) _, blk_alloc (blk_alloc (blk_new _ _) _) _, blk_alloc (blk_new1 _ _ _) _, blk_new2 _ _ _ _, by simp⟩
theorem box4 (w : World) (o1 o2 o3 o4 : Obj) : ∃ W, Hid (W = (((w.alloc o1).alloc o2).alloc o3).alloc o4) ∧ Below w.heap.size w W ∧ W.heap[w.heap.size]? = some o1 ∧ W.heap[w.heap.size + 1]? = some o2 ∧ W.heap[w.heap.size + 1 + 1]? = some o3 ∧ W.heap[w.heap.size + 1 + 1 + 1]? = some o4 ∧ W.heap.size = w.heap.size + 4 :=
  ⟨_, Lib.hid rfl, ((((Below.refl _ _).alloc (Nat.le_refl _) _).alloc (by simp) _).alloc (by simp; omega) _).alloc (by simp; omega) _, blk_alloc (blk_alloc (blk_alloc (blk_new _ _) _) _) _, blk_alloc (blk_alloc (blk_new1 _ _ _) _) _, blk_alloc (blk_new2 _ _ _ _) _, blk_new3 _ _ _ _ _, by simp⟩
/-- Draws alone. -/
def Dr (w w' : World) : Prop := ∃ n, w.drewN n = w'
theorem Dr.refl (w : World) : Dr w w := ⟨0, rfl⟩
theorem Dr.drewN {w w' : World} (h : Dr w w') (m : Nat) : Dr w (w'.drewN m) := by
  obtain ⟨n, rfl⟩ := h
  exact ⟨n + m, by simp [World.drewN, Nat.add_assoc]⟩
theorem Dr.drew {w w' : World} (h : Dr w w') : Dr w w'.drew := h.drewN 1
theorem Dr.of (w : World) (n : Nat) : Dr w (w.drewN n) := ⟨n, rfl⟩
theorem Dr.trans {w w' w'' : World} (h : Dr w w') (h' : Dr w' w'') : Dr w w'' := by
  obtain ⟨n, rfl⟩ := h'
  exact h.drewN n
theorem bdrewN {B0 : Nat} {a w : World} (h : Below B0 a w) (n : Nat) : Below B0 a (w.drewN n) := ⟨h.os, h.tape, h.output, h.size, h.block⟩
end Go.Proofs.YtbppnihcbcdglaaGreat
/- A region that draws its order, whose operations only read, and whose last call panics wherever its argument is false. No condition. -/
namespace Go.Proofs.YtbppnihcbcdglaaGreat
open Go.RowKit
set_option linter.unusedVariables false
variable {P : Program} {ops : Array Oper} {C : World → Prop} {p d : Nat} {o : Oper} {x : Operand} {Q' : Exit → Act → World → Prop} {md : Region.Mode}

/-- The call's place taken by a move of its argument. -/
def dummyAt (ops : Array Oper) (p : Nat) (o : Oper) (x : Operand) : Array Oper := ops.setIfInBounds p { o with op := .move x }
theorem dummy_get (hop : ops[p]? = some o) (j : Nat) : (dummyAt ops p o x)[j]? = if j = p then some { o with op := .move x } else ops[j]? := by
  unfold dummyAt
  by_cases e : j = p
  · subst e
    rw [if_pos rfl, Array.getElem?_setIfInBounds_self_of_lt (Array.getElem?_eq_some_iff.1 hop).1]
  · rw [if_neg e, Array.getElem?_setIfInBounds_ne (fun h => e h.symm)]
theorem dummy_ready (hop : ops[p]? = some o) (listed : Array Bool) : Region.ready md (dummyAt ops p o x) listed = Region.ready md ops listed := by
  unfold Region.ready
  rw [show (dummyAt ops p o x).size = ops.size by simp [dummyAt]]
  congr 1
  funext i
  rw [dummy_get hop]
  by_cases e : i = p
  · subst e; rw [if_pos rfl, hop]; rfl
  · rw [if_neg e]
theorem dummy_yielded (hop : ops[p]? = some o) (tmps : Array Value) : yielded (dummyAt ops p o x) tmps = yielded ops tmps := by
  funext j
  unfold yielded
  rw [dummy_get hop]
  by_cases e : j = p
  · subst e; rw [if_pos rfl, hop]; rfl
  · rw [if_neg e]
theorem put_other {a : Act} {t : Option Nat} {v : Value} (h : t ≠ some d) : (a.put t v).tmps[d]? = a.tmps[d]? := by
  cases t with
  | none => rfl
  | some t => exact Array.getElem?_setIfInBounds_ne (fun e => h (by rw [e]))
/-- Behind the dummy its slot stays. -/
theorem dummy_end (hop : ops[p]? = some o) (hd : ∀ j oj, ops[j]? = some oj → j ≠ p → oj.dst ≠ some d) (u : Value) : ∀ (fuel : Nat) (listed : Array Bool) (a : Act), listed.getD p true = true →
    wpAnyQ P md (dummyAt ops p o x) C (fun a' => a'.tmps[d]? = some u) fuel listed a → a.tmps[d]? = some u
  | 0, _, _, _, h => h.2
  | fuel + 1, listed, a, hl, h => by
    by_cases hr : Region.ready md (dummyAt ops p o x) listed = []
    · exact h.1 hr
    · obtain ⟨i, hi⟩ := List.exists_mem_of_ne_nil _ hr
      have h1 := h.2 i hi
      rw [dummy_ready hop] at hi
      obtain ⟨hun, oi, hoi, -⟩ := mem_ready.1 hi
      have hip : i ≠ p := fun e => by rw [e, hl] at hun; cases hun
      have hl2 : (listed.setIfInBounds i true).getD p true = true := by rw [getD_set_ne true hip]; exact hl
      unfold qOp at h1
      rw [dummy_get hop, if_neg hip, hoi] at h1
      dsimp only at h1
      split at h1
      · obtain ⟨v, -, h2⟩ := h1
        have := dummy_end hop hd u fuel _ _ hl2 h2
        rwa [put_other (hd i oi hoi hip)] at this
      · have := dummy_end hop hd u fuel _ _ hl2 h1
        rwa [put_other (hd i oi hoi hip)] at this
/-- The frame's defers, and its slots below m, are as they were. -/
def Keep (m : Nat) (a0 a : Act) : Prop := a.defers = a0.defers ∧ ∀ i, i < m → a.tmps[i]? = a0.tmps[i]?
theorem Keep.put {m : Nat} {a0 a : Act} (h : Keep m a0 a) {t : Option Nat} {v : Value} (ht : ∀ t', t = some t' → m ≤ t') : Keep m a0 (a.put t v) := by
  cases t with
  | none => exact h
  | some t => exact ⟨h.1, fun i hi => (Array.getElem?_setIfInBounds_ne (by have := ht t rfl; omega)).trans (h.2 i hi)⟩
theorem dummy_any {m : Nat} {a0 : Act} (hmt : ∀ (j : Nat) (oj : Oper), ops[j]? = some oj → ∀ t, oj.dst = some t → m ≤ t) (hop : ops[p]? = some o) (hg : o.guard = none) (hod : o.dst = some d) (hd : ∀ j oj, ops[j]? = some oj → j ≠ p → oj.dst ≠ some d)
    (hpan : ∀ (a : Act) (w : World) (K : Act → World → Prop), Keep m a0 a → C w → a.eval x = .bool false → o.wp P a w K Q') : ∀ (fuel : Nat) (listed : Array Bool) (a : Act) (w : World), Keep m a0 a → C w → listed.getD p true = false → a.tmps[d]? ≠ some (.bool false) →
    wpAnyQ P md (dummyAt ops p o x) C (fun a' => a'.tmps[d]? = some (.bool false)) fuel listed a → wpAny P md ops Q' fuel listed a w
  | 0, _, _, _, _, _, _, hn, h => absurd h.2 hn
  | fuel + 1, listed, a, w, hkp, hw, hl, hn, h => by
    refine ⟨fun h0 => absurd (h.1 (by rw [dummy_ready hop]; exact h0)) hn, fun i hi => ?_⟩
    have h1 := h.2 i (by rw [dummy_ready hop]; exact hi)
    obtain ⟨hun, oi, hoi, -⟩ := mem_ready.1 hi
    by_cases hip : i = p
    · subst hip
      unfold qOp at h1
      rw [dummy_get hop, if_pos rfl] at h1
      dsimp only at h1
      rw [if_pos (by unfold Region.wanted; rw [hg])] at h1
      obtain ⟨v, hv, h2⟩ := h1
      have hv1 := hv w hw
      have e1 : v = a.eval x := by
        unfold Oper.quietAt at hv1
        simp [go_sem, execOp, Oper.quietUpon] at hv1
        exact hv1.symm.trans (by unfold Act.eval; cases x <;> simp [Array.getD_eq_getD_getElem?])
      have hlt : i < listed.size := by
        rcases Nat.lt_or_ge i listed.size with h' | h'
        · exact h'
        · rw [Array.getD_eq_getD_getElem?, Array.getElem?_eq_none h'] at hl; cases hl
      have h3 := dummy_end hop hd (.bool false) fuel _ _ (by simp [hlt]) h2
      rw [hod] at h3
      have e2 : v = .bool false := by
        have h4 : (a.tmps.setIfInBounds d v)[d]? = some (.bool false) := h3
        rw [Array.getElem?_setIfInBounds] at h4
        rw [if_pos rfl] at h4
        split at h4
        · exact Option.some.inj h4
        · cases h4
      unfold wpOp
      rw [hop]
      dsimp only
      rw [if_pos (by unfold Region.wanted; rw [hg])]
      exact .inl (hpan a w _ hkp hw (e1.symm.trans e2))
    · have hl2 : (listed.setIfInBounds i true).getD p true = false := by rw [getD_set_ne true hip]; exact hl
      unfold qOp at h1
      rw [dummy_get hop, if_neg hip, hoi, dummy_yielded hop] at h1
      dsimp only at h1
      unfold wpOp
      rw [hoi]
      dsimp only
      split
      · rename_i hwt
        rw [if_pos hwt] at h1
        obtain ⟨v, hv, h2⟩ := h1
        refine .inl (Oper.wp_of_quiet (C := C) (K := fun a' => a'.tmps[d]? = a.tmps[d]? ∧ Keep m a0 a' ∧ wpAnyQ P md (dummyAt ops p o x) C (fun a' => a'.tmps[d]? = some (.bool false)) fuel (listed.setIfInBounds i true) a') hw ?_ ⟨v, hv, put_other (hd i oi hoi hip), hkp.put (hmt i oi hoi), h2⟩)
        rintro a' w' hw' ⟨he, hk5, h5⟩
        exact dummy_any hmt hop hg hod hd hpan fuel _ a' w' hk5 hw' hl2 (by rw [he]; exact hn) h5
      · rename_i hwt
        rw [if_neg hwt] at h1
        exact dummy_any hmt hop hg hod hd hpan fuel _ _ w (hkp.put (hmt i oi hoi)) hw hl2 (by rw [put_other (hd i oi hoi hip)]; exact hn) h1
theorem wp_region_quiet_panic {id : Nat} {a : Act} {w : World} {l l' : List Oper} (m p d : Nat) (o : Oper) (x : Operand) (hm : P.follows .mixedOrders = true) (hmt : ∀ (j : Nat) (oj : Oper), l.toArray[j]? = some oj → ∀ t, oj.dst = some t → m ≤ t) (hl' : dummyAt l.toArray p o x = l'.toArray) (hB : Region.lexB .any l'.toArray = true)
    (hop : l.toArray[p]? = some o) (hg : o.guard = none) (hod : o.dst = some d) (hd : ∀ j oj, l.toArray[j]? = some oj → j ≠ p → oj.dst ≠ some d) (hn : a.tmps[d]? ≠ some (.bool false)) (hpl : p < l.length)
    (hpan : ∀ (a' : Act) (w' : World) (K : Act → World → Prop), Keep m a a' → (∃ n, w' = w.drewN n) → a'.eval x = .bool false → o.wp P a' w' K Q')
    (h : wpQuiet P l'.toArray (fun w' => ∃ n, w' = w.drewN n) (fun a' => a'.tmps[d]? = some (.bool false)) l' a) : (Code.region id l.toArray true).wp P Q' a w := by
  simp only [Region.lexB, Bool.and_eq_true] at hB
  have hsz : l'.length = l.length := by have := congrArg Array.size hl'; simpa [dummyAt] using this.symm
  refine wp_region_any hm (dummy_any (C := fun w' => ∃ n, w' = w.drewN n) (x := x) hmt hop hg hod hd hpan _ _ a _ ⟨rfl, fun _ _ => rfl⟩ ⟨1, rfl⟩ (by simp [hpl]) hn ?_)
  have := wpAnyQ_lex (C := fun w' => ∃ n, w' = w.drewN n) (P := P) (md := .any) (Q := fun a' => a'.tmps[d]? = some (.bool false)) hB.1 l' 0 (Array.replicate l'.length false) a (by simp) (by simpa using hB.2) h
  rw [hl']
  simpa [hsz] using this
/-- The same, as a walk meets it. -/
theorem wp_region_qpan {id : Nat} {a : Act} {w : World} {l : List Oper} (m p d : Nat) (o : Oper) (x : Operand) (hm : P.follows .mixedOrders = true) (hB : Region.lexB .any (l.set p { o with op := .move x }).toArray = true)
    (hop : l[p]? = some o) (hg : o.guard = none) (hod : o.dst = some d) (hdB : (l.zipIdx.all fun q => (q.2 == p || !(q.1.dst == some d)) && (q.1.dst.all fun t => decide (m ≤ t))) = true) (hn : a.tmps[d]? = some undef)
    (hpan : ∀ (a' : Act) (w' : World) (K : Act → World → Prop), Keep m a a' → (∃ n, w' = w.drewN n) → a'.eval x = .bool false → o.wp P a' w' K Q')
    (h : wpQuiet P (l.set p { o with op := .move x }).toArray (fun w' => ∃ n, w' = w.drewN n) (fun a' => a'.tmps[d]? = some (.bool false)) (l.set p { o with op := .move x }) a) : (Code.region id l.toArray true).wp P Q' a w := by
  rw [List.all_eq_true] at hdB
  have key : ∀ j oj, l.toArray[j]? = some oj → ((j == p || !(oj.dst == some d)) && (oj.dst.all fun t => decide (m ≤ t))) = true := fun j oj hj => by
    have hj' : l[j]? = some oj := by simpa using hj
    exact hdB (oj, j) (List.mem_iff_getElem?.2 ⟨j, by rw [List.getElem?_zipIdx, hj']; simp⟩)
  refine wp_region_quiet_panic (l' := l.set p { o with op := .move x }) m p d o x hm (fun j oj hj t ht => ?_) (by simp [dummyAt]) hB (by simpa using hop) hg hod (fun j oj hj hne he => ?_) (by rw [hn]; simp [undef]) (by
    rcases Nat.lt_or_ge p l.length with h' | h'
    · exact h'
    · rw [List.getElem?_eq_none h'] at hop; cases hop) hpan h
  · have := key j oj hj
    rw [ht] at this
    simp at this
    exact this.2
  · have := key j oj hj
    rw [he] at this
    simp at this
    exact hne this.1
end Go.Proofs.YtbppnihcbcdglaaGreat
namespace Go.Proofs.YtbppnihcbcdglaaGreat
open Go.RowKit
set_option linter.unusedVariables false
variable {P : Program} {ops : Array Oper} {C : World → Prop} {p d : Nat} {o : Oper} {x : Operand} {Q' : Exit → Act → World → Prop} {md : Region.Mode}
/-- The same, where the slot holds another value. -/
theorem wp_region_qpanx {id : Nat} {a : Act} {w : World} {l : List Oper} (m p d : Nat) (o : Oper) (x : Operand) (hm : P.follows .mixedOrders = true) (hB : Region.lexB .any (l.set p { o with op := .move x }).toArray = true)
    (hop : l[p]? = some o) (hg : o.guard = none) (hod : o.dst = some d) (hdB : (l.zipIdx.all fun q => (q.2 == p || !(q.1.dst == some d)) && (q.1.dst.all fun t => decide (m ≤ t))) = true) (hn : a.tmps[d]? ≠ some (.bool false))
    (hpan : ∀ (a' : Act) (w' : World) (K : Act → World → Prop), Keep m a a' → (∃ n, w' = w.drewN n) → a'.eval x = .bool false → o.wp P a' w' K Q')
    (h : wpQuiet P (l.set p { o with op := .move x }).toArray (fun w' => ∃ n, w' = w.drewN n) (fun a' => a'.tmps[d]? = some (.bool false)) (l.set p { o with op := .move x }) a) : (Code.region id l.toArray true).wp P Q' a w := by
  rw [List.all_eq_true] at hdB
  have key : ∀ j oj, l.toArray[j]? = some oj → ((j == p || !(oj.dst == some d)) && (oj.dst.all fun t => decide (m ≤ t))) = true := fun j oj hj => by
    have hj' : l[j]? = some oj := by simpa using hj
    exact hdB (oj, j) (List.mem_iff_getElem?.2 ⟨j, by rw [List.getElem?_zipIdx, hj']; simp⟩)
  refine wp_region_quiet_panic (l' := l.set p { o with op := .move x }) m p d o x hm (fun j oj hj t ht => ?_) (by simp [dummyAt]) hB (by simpa using hop) hg hod (fun j oj hj hne he => ?_) hn (by
    rcases Nat.lt_or_ge p l.length with h' | h'
    · exact h'
    · rw [List.getElem?_eq_none h'] at hop; cases hop) hpan h
  · have := key j oj hj
    rw [ht] at this
    simp at this
    exact this.2
  · have := key j oj hj
    rw [he] at this
    simp at this
    exact hne this.1
end Go.Proofs.YtbppnihcbcdglaaGreat
