/- proc: the shapes of operations, walked. No condition. -/
import Derived.Outline
import Derived.Laws.EntriesVeiled
import Derived.Test.YtbppnihcbcdglaaGreatZ9
/- proc: the shapes of operations. No condition. -/
namespace Go.Proofs.YtbppnihcbcdglaaGreat
open Go.RowKit
set_option linter.unusedVariables false
set_option linter.unusedSimpArgs false

def fnV (k : Nat) : Value := .func (.func k) #[] #[]
/-- Where a field stands, and what may stand there: the program's functions. -/
def Fd.atF : Fd → Nat
  | .ra => 241 | .rb => 243 | .rc => 244 | .arg => 245 | .how => 245 | .many => 245 | .skip => 241
def Fd.mayF : Fd → Nat
  | .ra => 242 | .rb => 242 | .rc => 242 | .arg => 246 | .how => 247 | .many => 248 | .skip => 249
def fdC (f : Fd) : List Value := [fnV f.atF, fnV f.mayF, .bool f.one]
def FB (w : World) (g : Nat) (f : Fd) : Prop := w.heap[g]? = some (.cells #[fnV f.atF, fnV f.mayF, .bool f.one] 271 (0, 0))
/-- The shapes that are laid so far. -/
def Shp (w : World) (n0 : Nat) (L : Array Value) (D : List Nat) : Prop :=
  L.size = 34 ∧ ∀ op, op < 17 →
    (op ∈ D → ∃ g, n0 ≤ g ∧ L[2 * op]? = some (.slice (some ⟨g, 0, none⟩) (fds op).length (fds op).length) ∧ L[2 * op + 1]? = some (.bool (hasV op)) ∧ w.heap[g]? = some (.cells ((fds op).flatMap fdC).toArray 271 (0, 0))) ∧
    (op ∉ D → L[2 * op]? = some (.slice none 0 0) ∧ L[2 * op + 1]? = some (.bool false))

theorem Shp.step {w : World} {n0 l : Nat} {L : Array Value} {D : List Nat} (h : Shp w n0 L D) (hl : w.heap[l]? = some (.cells L 266 (0, 0))) (hn : n0 ≤ w.heap.size) (op : Nat) (ho : op < 17) (C : Array Value) (hC : C = ((fds op).flatMap fdC).toArray) (k : Nat) (hk : k = (fds op).length) (v : Bool) (hv : v = hasV op) (i1 i2 : Nat) (h1 : i1 = 2 * op) (h2 : i2 = 2 * op + 1) :
    ∃ L', Shp (((w.alloc (.cells C 271)).setCell ⟨l, i1, none⟩ (.slice (some ⟨w.heap.size, 0, none⟩) k k)).setCell ⟨l, i2, none⟩ (.bool v)) n0 L' (op :: D) ∧
      (((w.alloc (.cells C 271)).setCell ⟨l, i1, none⟩ (.slice (some ⟨w.heap.size, 0, none⟩) k k)).setCell ⟨l, i2, none⟩ (.bool v)).heap[l]? = some (.cells L' 266 (0, 0)) := by
  subst hC hk hv h1 h2
  have hlt := blk_lt hl
  have hl1 : (w.alloc (.cells ((fds op).flatMap fdC).toArray 271)).heap[l]? = _ := blk_alloc hl _
  have hl2 := blk_set (blk_set hl1 (2 * op) (.slice (some ⟨w.heap.size, 0, none⟩) (fds op).length (fds op).length)) (2 * op + 1) (.bool (hasV op))
  refine ⟨_, ⟨by simp [h.1], fun o hoo => ⟨fun hm => ?_, fun hm => ?_⟩⟩, hl2⟩
  · by_cases he : o = op
    · subst he
      refine ⟨w.heap.size, hn, ?_, ?_, ?_⟩
      · rw [Array.getElem?_setIfInBounds_ne (by omega)]
        exact Array.getElem?_setIfInBounds_self_of_lt (by rw [h.1]; omega)
      · exact Array.getElem?_setIfInBounds_self_of_lt (by simp [h.1]; omega)
      · exact blk_set_other (blk_set_other (blk_new w _) (by omega) _ _) (by omega) _ _
    · have hm' : o ∈ D := by simpa [he] using hm
      obtain ⟨g, g1, g2, g3, g4⟩ := (h.2 o hoo).1 hm'
      have hgl : g ≠ l := by
        rintro rfl
        rw [hl] at g4
        injection g4 with g4
        injection g4 with _ g5
        exact absurd g5 (by decide)
      refine ⟨g, g1, ?_, ?_, ?_⟩
      · rw [Array.getElem?_setIfInBounds_ne (by omega), Array.getElem?_setIfInBounds_ne (by omega)]; exact g2
      · rw [Array.getElem?_setIfInBounds_ne (by omega), Array.getElem?_setIfInBounds_ne (by omega)]; exact g3
      · exact blk_set_other (blk_set_other (blk_alloc g4 _) hgl _ _) hgl _ _
  · have he : o ≠ op := fun e => hm (by simp [e])
    have hm' : o ∉ D := fun e => hm (by simp [e])
    obtain ⟨g2, g3⟩ := (h.2 o hoo).2 hm'
    exact ⟨by rw [Array.getElem?_setIfInBounds_ne (by omega), Array.getElem?_setIfInBounds_ne (by omega)]; exact g2, by rw [Array.getElem?_setIfInBounds_ne (by omega), Array.getElem?_setIfInBounds_ne (by omega)]; exact g3⟩

/-- What the walk holds: the seven fields' blocks, the shapes' block. -/
structure SW (w0 w : World) (n : Nat) (D : List Nat) : Prop where
  f1 : FB w (n + 1) .ra
  f2 : FB w (n + 1 + 1) .rb
  f3 : FB w (n + 1 + 1 + 1) .rc
  f4 : FB w (n + 1 + 1 + 1 + 1) .arg
  f5 : FB w (n + 1 + 1 + 1 + 1 + 1) .how
  f6 : FB w (n + 1 + 1 + 1 + 1 + 1 + 1) .many
  f7 : FB w (n + 1 + 1 + 1 + 1 + 1 + 1 + 1) .skip
  hl : ∃ L, w.heap[n + 1 + 1 + 1 + 1 + 1 + 1 + 1 + 1]? = some (.cells L 266 (0, 0)) ∧ Shp w n L D
  r0 : ∃ Z, Z.size = 34 ∧ w.heap[n]? = some (.cells Z 266 (0, 0))
  below : Below n w0 w
  size : n + 9 ≤ w.heap.size
theorem SW.step {w0 w : World} {n : Nat} {D : List Nat} (h : SW w0 w n D) (op : Nat) (ho : op < 17) (C : Array Value) (hC : C = ((fds op).flatMap fdC).toArray) (k : Nat) (hk : k = (fds op).length) (v : Bool) (hv : v = hasV op) (i1 i2 : Nat) (h1 : i1 = 2 * op) (h2 : i2 = 2 * op + 1) :
    SW w0 (((w.alloc (.cells C 271)).setCell ⟨n + 1 + 1 + 1 + 1 + 1 + 1 + 1 + 1, i1, none⟩ (.slice (some ⟨w.heap.size, 0, none⟩) k k)).setCell ⟨n + 1 + 1 + 1 + 1 + 1 + 1 + 1 + 1, i2, none⟩ (.bool v)) n (op :: D) := by
  obtain ⟨L, hl, hs⟩ := h.hl
  have hsz := h.size
  obtain ⟨L', e1, e2⟩ := hs.step hl (by omega) op ho C hC k hk v hv i1 i2 h1 h2
  have kp : ∀ j o, j ≠ n + 1 + 1 + 1 + 1 + 1 + 1 + 1 + 1 → w.heap[j]? = some o → (((w.alloc (.cells C 271)).setCell ⟨n + 1 + 1 + 1 + 1 + 1 + 1 + 1 + 1, i1, none⟩ (.slice (some ⟨w.heap.size, 0, none⟩) k k)).setCell ⟨n + 1 + 1 + 1 + 1 + 1 + 1 + 1 + 1, i2, none⟩ (.bool v)).heap[j]? = some o :=
    fun j o hj ho => blk_set_other (blk_set_other (blk_alloc ho _) hj _ _) hj _ _
  obtain ⟨Z, hz1, hz2⟩ := h.r0
  exact ⟨kp _ _ (by omega) h.f1, kp _ _ (by omega) h.f2, kp _ _ (by omega) h.f3, kp _ _ (by omega) h.f4, kp _ _ (by omega) h.f5, kp _ _ (by omega) h.f6, kp _ _ (by omega) h.f7, ⟨L', e2, e1⟩, ⟨Z, hz1, kp _ _ (by omega) hz2⟩, ((h.below.alloc (by omega) _).setCell (by show n ≤ n + 1 + 1 + 1 + 1 + 1 + 1 + 1 + 1; omega) _).setCell (by show n ≤ n + 1 + 1 + 1 + 1 + 1 + 1 + 1 + 1; omega) _, by simp; omega⟩
theorem SW.pure {w0 w w' : World} {n : Nat} {D : List Nat} (h : SW w0 w n D) (hb : Below w.heap.size w w') : SW w0 w' n D := by
  obtain ⟨L, hl, hs⟩ := h.hl
  have hsz := h.size
  obtain ⟨Z, hz1, hz2⟩ := h.r0
  have kp : ∀ j o, w.heap[j]? = some o → w'.heap[j]? = some o := fun j o ho => blk_below hb ho (blk_lt ho)
  refine ⟨kp _ _ h.f1, kp _ _ h.f2, kp _ _ h.f3, kp _ _ h.f4, kp _ _ h.f5, kp _ _ h.f6, kp _ _ h.f7, ⟨L, kp _ _ hl, hs.1, fun op ho => ⟨fun hm => ?_, (hs.2 op ho).2⟩⟩, ⟨Z, hz1, kp _ _ hz2⟩, h.below.trans (hb.mono (by omega)), by have := hb.size; omega⟩
  obtain ⟨g, g1, g2, g3, g4⟩ := (hs.2 op ho).1 hm
  exact ⟨g, g1, g2, g3, kp _ _ g4⟩

theorem Shp.one {w : World} {n0 : Nat} {L : Array Value} {D : List Nat} (h : Shp w n0 L D) : L.all (·.oneCell') = true := by
  rw [Array.all_eq_true]
  intro i hi
  have h34 := h.1
  obtain ⟨o, ho, hio⟩ : ∃ o, o < 17 ∧ (i = 2 * o ∨ i = 2 * o + 1) := ⟨i / 2, by omega, by omega⟩
  have hget : L[i]? = some L[i] := Array.getElem?_eq_getElem hi
  by_cases hD : o ∈ D
  · obtain ⟨g, _, g2, g3, _⟩ := (h.2 o ho).1 hD
    rcases hio with rfl | rfl
    · rw [g2] at hget; injection hget with hget; rw [← hget]; rfl
    · rw [g3] at hget; injection hget with hget; rw [← hget]; rfl
  · obtain ⟨g2, g3⟩ := (h.2 o ho).2 hD
    rcases hio with rfl | rfl
    · rw [g2] at hget; injection hget with hget; rw [← hget]; rfl
    · rw [g3] at hget; injection hget with hget; rw [← hget]; rfl
/-- A store into a block of another type. -/
theorem Shp.row {w : World} {n0 l : Nat} {L Z : Array Value} {D : List Nat} (h : Shp w n0 L D) (hl : w.heap[l]? = some (.cells Z 266 (0, 0))) (C : Array Value) : Shp (w.setRow l C) n0 L D := by
  refine ⟨h.1, fun o ho => ⟨fun hm => ?_, (h.2 o ho).2⟩⟩
  obtain ⟨g, g1, g2, g3, g4⟩ := (h.2 o ho).1 hm
  have hgl : g ≠ l := by
    rintro rfl
    rw [hl] at g4
    injection g4 with g4
    injection g4 with _ g5
    exact absurd g5 (by decide)
  exact ⟨g, g1, g2, g3, (setRow_other _ _ _ _ hgl).trans g4⟩
theorem Shp.pure {w w' : World} {n0 : Nat} {L : Array Value} {D : List Nat} (h : Shp w n0 L D) (hb : Below w.heap.size w w') : Shp w' n0 L D := by
  refine ⟨h.1, fun o ho => ⟨fun hm => ?_, (h.2 o ho).2⟩⟩
  obtain ⟨g, g1, g2, g3, g4⟩ := (h.2 o ho).1 hm
  exact ⟨g, g1, g2, g3, blk_below hb g4 (blk_lt g4)⟩

end Go.Proofs.YtbppnihcbcdglaaGreat
namespace Go.Proofs.YtbppnihcbcdglaaGreat
open Go.RowKit
set_option linter.unusedVariables false
set_option linter.unusedSimpArgs false

theorem SW.wp {w0 w : World} {n : Nat} {D : List Nat} (h : SW w0 w n D) {code : Code} {Q : Exit → Act → World → Prop} {a : Act} (op : Nat) (ho : op < 17) {C : Array Value} (hC : C = ((fds op).flatMap fdC).toArray) {k : Nat} (hk : k = (fds op).length) {v : Bool} (hv : v = hasV op) {i1 i2 : Nat} (h1 : i1 = 2 * op) (h2 : i2 = 2 * op + 1)
    (K : ∀ w', SW w0 w' n (op :: D) → (∀ j o, j ≠ n + 1 + 1 + 1 + 1 + 1 + 1 + 1 + 1 → w.heap[j]? = some o → w'.heap[j]? = some o) → code.wp Tryz.prog Q a w') :
    code.wp Tryz.prog Q a (((w.alloc (.cells C 271)).setCell ⟨n + 1 + 1 + 1 + 1 + 1 + 1 + 1 + 1, i1, none⟩ (.slice (some ⟨w.heap.size, 0, none⟩) k k)).setCell ⟨n + 1 + 1 + 1 + 1 + 1 + 1 + 1 + 1, i2, none⟩ (.bool v)) :=
  K _ (h.step op ho C hC k hk v hv i1 i2 h1 h2) (fun j o hj ho => blk_set_other (blk_set_other (blk_alloc ho _) hj _ _) hj _ _)

theorem SW.at {w0 w : World} {n : Nat} {D : List Nat} (h : SW w0 w n D) (op : Nat) (ho : op < 17) (hD : op ∉ D) {i1 i2 : Nat} (h1 : 2 * op = i1) (h2 : 2 * op + 1 = i2) :
    (∀ o, (w.alloc o).cell? ⟨n + 1 + 1 + 1 + 1 + 1 + 1 + 1 + 1, i1, none⟩ = some (.slice none 0 0)) ∧ (∀ o, (w.alloc o).cell? ⟨n + 1 + 1 + 1 + 1 + 1 + 1 + 1 + 1, i2, none⟩ = some (.bool false)) ∧
    (∀ o, (w.alloc o).frozen? ⟨n + 1 + 1 + 1 + 1 + 1 + 1 + 1 + 1, i1, none⟩ = false) ∧ (∀ o, (w.alloc o).frozen? ⟨n + 1 + 1 + 1 + 1 + 1 + 1 + 1 + 1, i2, none⟩ = false) := by
  subst h1 h2
  obtain ⟨L, hl, hs⟩ := h.hl
  obtain ⟨g2, g3⟩ := (hs.2 op ho).2 hD
  exact ⟨fun o => (blk_cell (blk_alloc hl o) _).trans g2, fun o => (blk_cell (blk_alloc hl o) _).trans g3, fun o => blk_free (blk_alloc hl o) _, fun o => blk_free (blk_alloc hl o) _⟩
theorem FB.c {w : World} {g : Nat} {f : Fd} (h : FB w g f) : w.cell? ⟨g, 0, none⟩ = some (fnV f.atF) ∧ w.cell? ⟨g, 1, none⟩ = some (fnV f.mayF) ∧ w.cell? ⟨g, 2, none⟩ = some (.bool f.one) := ⟨blk_cell h 0, blk_cell h 1, blk_cell h 2⟩

/-- The seven fields and the shapes' block are laid. -/
theorem sw_start (w : World) : SW w (((((((((w.alloc (.cells #[.slice none 0 0, .bool false, .slice none 0 0, .bool false, .slice none 0 0, .bool false, .slice none 0 0, .bool false, .slice none 0 0, .bool false, .slice none 0 0, .bool false, .slice none 0 0, .bool false, .slice none 0 0, .bool false, .slice none 0 0, .bool false, .slice none 0 0, .bool false, .slice none 0 0, .bool false, .slice none 0 0, .bool false, .slice none 0 0, .bool false, .slice none 0 0, .bool false, .slice none 0 0, .bool false, .slice none 0 0, .bool false, .slice none 0 0, .bool false] 266)).alloc (.cells #[.func (.func 241) #[] #[], .func (.func 242) #[] #[], .bool true] 271)).alloc (.cells #[.func (.func 243) #[] #[], .func (.func 242) #[] #[], .bool true] 271)).alloc (.cells #[.func (.func 244) #[] #[], .func (.func 242) #[] #[], .bool true] 271)).alloc (.cells #[.func (.func 245) #[] #[], .func (.func 246) #[] #[], .bool false] 271)).alloc (.cells #[.func (.func 245) #[] #[], .func (.func 247) #[] #[], .bool false] 271)).alloc (.cells #[.func (.func 245) #[] #[], .func (.func 248) #[] #[], .bool false] 271)).alloc (.cells #[.func (.func 241) #[] #[], .func (.func 249) #[] #[], .bool false] 271)).alloc (.cells #[.slice none 0 0, .bool false, .slice none 0 0, .bool false, .slice none 0 0, .bool false, .slice none 0 0, .bool false, .slice none 0 0, .bool false, .slice none 0 0, .bool false, .slice none 0 0, .bool false, .slice none 0 0, .bool false, .slice none 0 0, .bool false, .slice none 0 0, .bool false, .slice none 0 0, .bool false, .slice none 0 0, .bool false, .slice none 0 0, .bool false, .slice none 0 0, .bool false, .slice none 0 0, .bool false, .slice none 0 0, .bool false, .slice none 0 0, .bool false] 266)) w.heap.size [] := by
  have b0 : Below w.heap.size w (w.alloc (.cells #[.slice none 0 0, .bool false, .slice none 0 0, .bool false, .slice none 0 0, .bool false, .slice none 0 0, .bool false, .slice none 0 0, .bool false, .slice none 0 0, .bool false, .slice none 0 0, .bool false, .slice none 0 0, .bool false, .slice none 0 0, .bool false, .slice none 0 0, .bool false, .slice none 0 0, .bool false, .slice none 0 0, .bool false, .slice none 0 0, .bool false, .slice none 0 0, .bool false, .slice none 0 0, .bool false, .slice none 0 0, .bool false, .slice none 0 0, .bool false] 266)) := (Below.refl _ _).alloc (Nat.le_refl _) _
  have e0 : (w.alloc (.cells #[.slice none 0 0, .bool false, .slice none 0 0, .bool false, .slice none 0 0, .bool false, .slice none 0 0, .bool false, .slice none 0 0, .bool false, .slice none 0 0, .bool false, .slice none 0 0, .bool false, .slice none 0 0, .bool false, .slice none 0 0, .bool false, .slice none 0 0, .bool false, .slice none 0 0, .bool false, .slice none 0 0, .bool false, .slice none 0 0, .bool false, .slice none 0 0, .bool false, .slice none 0 0, .bool false, .slice none 0 0, .bool false, .slice none 0 0, .bool false] 266)).heap.size = w.heap.size + 1 := World.size_alloc _ _
  have z0 : (w.alloc (.cells #[.slice none 0 0, .bool false, .slice none 0 0, .bool false, .slice none 0 0, .bool false, .slice none 0 0, .bool false, .slice none 0 0, .bool false, .slice none 0 0, .bool false, .slice none 0 0, .bool false, .slice none 0 0, .bool false, .slice none 0 0, .bool false, .slice none 0 0, .bool false, .slice none 0 0, .bool false, .slice none 0 0, .bool false, .slice none 0 0, .bool false, .slice none 0 0, .bool false, .slice none 0 0, .bool false, .slice none 0 0, .bool false, .slice none 0 0, .bool false] 266)).heap[w.heap.size]? = some (.cells #[.slice none 0 0, .bool false, .slice none 0 0, .bool false, .slice none 0 0, .bool false, .slice none 0 0, .bool false, .slice none 0 0, .bool false, .slice none 0 0, .bool false, .slice none 0 0, .bool false, .slice none 0 0, .bool false, .slice none 0 0, .bool false, .slice none 0 0, .bool false, .slice none 0 0, .bool false, .slice none 0 0, .bool false, .slice none 0 0, .bool false, .slice none 0 0, .bool false, .slice none 0 0, .bool false, .slice none 0 0, .bool false, .slice none 0 0, .bool false] 266 (0, 0)) := blk_new _ _
  generalize (w.alloc (.cells #[.slice none 0 0, .bool false, .slice none 0 0, .bool false, .slice none 0 0, .bool false, .slice none 0 0, .bool false, .slice none 0 0, .bool false, .slice none 0 0, .bool false, .slice none 0 0, .bool false, .slice none 0 0, .bool false, .slice none 0 0, .bool false, .slice none 0 0, .bool false, .slice none 0 0, .bool false, .slice none 0 0, .bool false, .slice none 0 0, .bool false, .slice none 0 0, .bool false, .slice none 0 0, .bool false, .slice none 0 0, .bool false, .slice none 0 0, .bool false] 266)) = A0 at b0 e0 z0 ⊢
  have n1 : FB (A0.alloc (.cells #[.func (.func 241) #[] #[], .func (.func 242) #[] #[], .bool true] 271)) (w.heap.size + 1) .ra := by have := blk_new A0 (.cells #[.func (.func 241) #[] #[], .func (.func 242) #[] #[], .bool true] 271); rw [e0] at this; exact this
  replace z0 : (A0.alloc (.cells #[.func (.func 241) #[] #[], .func (.func 242) #[] #[], .bool true] 271)).heap[w.heap.size]? = _ := blk_alloc z0 _
  have b1 : Below w.heap.size w (A0.alloc (.cells #[.func (.func 241) #[] #[], .func (.func 242) #[] #[], .bool true] 271)) := b0.alloc (by omega) _
  have e1 : (A0.alloc (.cells #[.func (.func 241) #[] #[], .func (.func 242) #[] #[], .bool true] 271)).heap.size = w.heap.size + 1 + 1 := by rw [World.size_alloc, e0]
  generalize A0.alloc (.cells #[.func (.func 241) #[] #[], .func (.func 242) #[] #[], .bool true] 271) = A1 at b1 e1 z0 n1 ⊢
  have n2 : FB (A1.alloc (.cells #[.func (.func 243) #[] #[], .func (.func 242) #[] #[], .bool true] 271)) (w.heap.size + 1 + 1) .rb := by have := blk_new A1 (.cells #[.func (.func 243) #[] #[], .func (.func 242) #[] #[], .bool true] 271); rw [e1] at this; exact this
  replace n1 : FB (A1.alloc (.cells #[.func (.func 243) #[] #[], .func (.func 242) #[] #[], .bool true] 271)) _ _ := blk_alloc n1 _
  replace z0 : (A1.alloc (.cells #[.func (.func 243) #[] #[], .func (.func 242) #[] #[], .bool true] 271)).heap[w.heap.size]? = _ := blk_alloc z0 _
  have b2 : Below w.heap.size w (A1.alloc (.cells #[.func (.func 243) #[] #[], .func (.func 242) #[] #[], .bool true] 271)) := b1.alloc (by omega) _
  have e2 : (A1.alloc (.cells #[.func (.func 243) #[] #[], .func (.func 242) #[] #[], .bool true] 271)).heap.size = w.heap.size + 1 + 1 + 1 := by rw [World.size_alloc, e1]
  generalize A1.alloc (.cells #[.func (.func 243) #[] #[], .func (.func 242) #[] #[], .bool true] 271) = A2 at b2 e2 z0 n1 n2 ⊢
  have n3 : FB (A2.alloc (.cells #[.func (.func 244) #[] #[], .func (.func 242) #[] #[], .bool true] 271)) (w.heap.size + 1 + 1 + 1) .rc := by have := blk_new A2 (.cells #[.func (.func 244) #[] #[], .func (.func 242) #[] #[], .bool true] 271); rw [e2] at this; exact this
  replace n1 : FB (A2.alloc (.cells #[.func (.func 244) #[] #[], .func (.func 242) #[] #[], .bool true] 271)) _ _ := blk_alloc n1 _
  replace n2 : FB (A2.alloc (.cells #[.func (.func 244) #[] #[], .func (.func 242) #[] #[], .bool true] 271)) _ _ := blk_alloc n2 _
  replace z0 : (A2.alloc (.cells #[.func (.func 244) #[] #[], .func (.func 242) #[] #[], .bool true] 271)).heap[w.heap.size]? = _ := blk_alloc z0 _
  have b3 : Below w.heap.size w (A2.alloc (.cells #[.func (.func 244) #[] #[], .func (.func 242) #[] #[], .bool true] 271)) := b2.alloc (by omega) _
  have e3 : (A2.alloc (.cells #[.func (.func 244) #[] #[], .func (.func 242) #[] #[], .bool true] 271)).heap.size = w.heap.size + 1 + 1 + 1 + 1 := by rw [World.size_alloc, e2]
  generalize A2.alloc (.cells #[.func (.func 244) #[] #[], .func (.func 242) #[] #[], .bool true] 271) = A3 at b3 e3 z0 n1 n2 n3 ⊢
  have n4 : FB (A3.alloc (.cells #[.func (.func 245) #[] #[], .func (.func 246) #[] #[], .bool false] 271)) (w.heap.size + 1 + 1 + 1 + 1) .arg := by have := blk_new A3 (.cells #[.func (.func 245) #[] #[], .func (.func 246) #[] #[], .bool false] 271); rw [e3] at this; exact this
  replace n1 : FB (A3.alloc (.cells #[.func (.func 245) #[] #[], .func (.func 246) #[] #[], .bool false] 271)) _ _ := blk_alloc n1 _
  replace n2 : FB (A3.alloc (.cells #[.func (.func 245) #[] #[], .func (.func 246) #[] #[], .bool false] 271)) _ _ := blk_alloc n2 _
  replace n3 : FB (A3.alloc (.cells #[.func (.func 245) #[] #[], .func (.func 246) #[] #[], .bool false] 271)) _ _ := blk_alloc n3 _
  replace z0 : (A3.alloc (.cells #[.func (.func 245) #[] #[], .func (.func 246) #[] #[], .bool false] 271)).heap[w.heap.size]? = _ := blk_alloc z0 _
  have b4 : Below w.heap.size w (A3.alloc (.cells #[.func (.func 245) #[] #[], .func (.func 246) #[] #[], .bool false] 271)) := b3.alloc (by omega) _
  have e4 : (A3.alloc (.cells #[.func (.func 245) #[] #[], .func (.func 246) #[] #[], .bool false] 271)).heap.size = w.heap.size + 1 + 1 + 1 + 1 + 1 := by rw [World.size_alloc, e3]
  generalize A3.alloc (.cells #[.func (.func 245) #[] #[], .func (.func 246) #[] #[], .bool false] 271) = A4 at b4 e4 z0 n1 n2 n3 n4 ⊢
  have n5 : FB (A4.alloc (.cells #[.func (.func 245) #[] #[], .func (.func 247) #[] #[], .bool false] 271)) (w.heap.size + 1 + 1 + 1 + 1 + 1) .how := by have := blk_new A4 (.cells #[.func (.func 245) #[] #[], .func (.func 247) #[] #[], .bool false] 271); rw [e4] at this; exact this
  replace n1 : FB (A4.alloc (.cells #[.func (.func 245) #[] #[], .func (.func 247) #[] #[], .bool false] 271)) _ _ := blk_alloc n1 _
  replace n2 : FB (A4.alloc (.cells #[.func (.func 245) #[] #[], .func (.func 247) #[] #[], .bool false] 271)) _ _ := blk_alloc n2 _
  replace n3 : FB (A4.alloc (.cells #[.func (.func 245) #[] #[], .func (.func 247) #[] #[], .bool false] 271)) _ _ := blk_alloc n3 _
  replace n4 : FB (A4.alloc (.cells #[.func (.func 245) #[] #[], .func (.func 247) #[] #[], .bool false] 271)) _ _ := blk_alloc n4 _
  replace z0 : (A4.alloc (.cells #[.func (.func 245) #[] #[], .func (.func 247) #[] #[], .bool false] 271)).heap[w.heap.size]? = _ := blk_alloc z0 _
  have b5 : Below w.heap.size w (A4.alloc (.cells #[.func (.func 245) #[] #[], .func (.func 247) #[] #[], .bool false] 271)) := b4.alloc (by omega) _
  have e5 : (A4.alloc (.cells #[.func (.func 245) #[] #[], .func (.func 247) #[] #[], .bool false] 271)).heap.size = w.heap.size + 1 + 1 + 1 + 1 + 1 + 1 := by rw [World.size_alloc, e4]
  generalize A4.alloc (.cells #[.func (.func 245) #[] #[], .func (.func 247) #[] #[], .bool false] 271) = A5 at b5 e5 z0 n1 n2 n3 n4 n5 ⊢
  have n6 : FB (A5.alloc (.cells #[.func (.func 245) #[] #[], .func (.func 248) #[] #[], .bool false] 271)) (w.heap.size + 1 + 1 + 1 + 1 + 1 + 1) .many := by have := blk_new A5 (.cells #[.func (.func 245) #[] #[], .func (.func 248) #[] #[], .bool false] 271); rw [e5] at this; exact this
  replace n1 : FB (A5.alloc (.cells #[.func (.func 245) #[] #[], .func (.func 248) #[] #[], .bool false] 271)) _ _ := blk_alloc n1 _
  replace n2 : FB (A5.alloc (.cells #[.func (.func 245) #[] #[], .func (.func 248) #[] #[], .bool false] 271)) _ _ := blk_alloc n2 _
  replace n3 : FB (A5.alloc (.cells #[.func (.func 245) #[] #[], .func (.func 248) #[] #[], .bool false] 271)) _ _ := blk_alloc n3 _
  replace n4 : FB (A5.alloc (.cells #[.func (.func 245) #[] #[], .func (.func 248) #[] #[], .bool false] 271)) _ _ := blk_alloc n4 _
  replace n5 : FB (A5.alloc (.cells #[.func (.func 245) #[] #[], .func (.func 248) #[] #[], .bool false] 271)) _ _ := blk_alloc n5 _
  replace z0 : (A5.alloc (.cells #[.func (.func 245) #[] #[], .func (.func 248) #[] #[], .bool false] 271)).heap[w.heap.size]? = _ := blk_alloc z0 _
  have b6 : Below w.heap.size w (A5.alloc (.cells #[.func (.func 245) #[] #[], .func (.func 248) #[] #[], .bool false] 271)) := b5.alloc (by omega) _
  have e6 : (A5.alloc (.cells #[.func (.func 245) #[] #[], .func (.func 248) #[] #[], .bool false] 271)).heap.size = w.heap.size + 1 + 1 + 1 + 1 + 1 + 1 + 1 := by rw [World.size_alloc, e5]
  generalize A5.alloc (.cells #[.func (.func 245) #[] #[], .func (.func 248) #[] #[], .bool false] 271) = A6 at b6 e6 z0 n1 n2 n3 n4 n5 n6 ⊢
  have n7 : FB (A6.alloc (.cells #[.func (.func 241) #[] #[], .func (.func 249) #[] #[], .bool false] 271)) (w.heap.size + 1 + 1 + 1 + 1 + 1 + 1 + 1) .skip := by have := blk_new A6 (.cells #[.func (.func 241) #[] #[], .func (.func 249) #[] #[], .bool false] 271); rw [e6] at this; exact this
  replace n1 : FB (A6.alloc (.cells #[.func (.func 241) #[] #[], .func (.func 249) #[] #[], .bool false] 271)) _ _ := blk_alloc n1 _
  replace n2 : FB (A6.alloc (.cells #[.func (.func 241) #[] #[], .func (.func 249) #[] #[], .bool false] 271)) _ _ := blk_alloc n2 _
  replace n3 : FB (A6.alloc (.cells #[.func (.func 241) #[] #[], .func (.func 249) #[] #[], .bool false] 271)) _ _ := blk_alloc n3 _
  replace n4 : FB (A6.alloc (.cells #[.func (.func 241) #[] #[], .func (.func 249) #[] #[], .bool false] 271)) _ _ := blk_alloc n4 _
  replace n5 : FB (A6.alloc (.cells #[.func (.func 241) #[] #[], .func (.func 249) #[] #[], .bool false] 271)) _ _ := blk_alloc n5 _
  replace n6 : FB (A6.alloc (.cells #[.func (.func 241) #[] #[], .func (.func 249) #[] #[], .bool false] 271)) _ _ := blk_alloc n6 _
  replace z0 : (A6.alloc (.cells #[.func (.func 241) #[] #[], .func (.func 249) #[] #[], .bool false] 271)).heap[w.heap.size]? = _ := blk_alloc z0 _
  have b7 : Below w.heap.size w (A6.alloc (.cells #[.func (.func 241) #[] #[], .func (.func 249) #[] #[], .bool false] 271)) := b6.alloc (by omega) _
  have e7 : (A6.alloc (.cells #[.func (.func 241) #[] #[], .func (.func 249) #[] #[], .bool false] 271)).heap.size = w.heap.size + 1 + 1 + 1 + 1 + 1 + 1 + 1 + 1 := by rw [World.size_alloc, e6]
  generalize A6.alloc (.cells #[.func (.func 241) #[] #[], .func (.func 249) #[] #[], .bool false] 271) = A7 at b7 e7 z0 n1 n2 n3 n4 n5 n6 n7 ⊢
  have hl : (A7.alloc (.cells #[.slice none 0 0, .bool false, .slice none 0 0, .bool false, .slice none 0 0, .bool false, .slice none 0 0, .bool false, .slice none 0 0, .bool false, .slice none 0 0, .bool false, .slice none 0 0, .bool false, .slice none 0 0, .bool false, .slice none 0 0, .bool false, .slice none 0 0, .bool false, .slice none 0 0, .bool false, .slice none 0 0, .bool false, .slice none 0 0, .bool false, .slice none 0 0, .bool false, .slice none 0 0, .bool false, .slice none 0 0, .bool false, .slice none 0 0, .bool false] 266)).heap[w.heap.size + 1 + 1 + 1 + 1 + 1 + 1 + 1 + 1]? = some (.cells #[.slice none 0 0, .bool false, .slice none 0 0, .bool false, .slice none 0 0, .bool false, .slice none 0 0, .bool false, .slice none 0 0, .bool false, .slice none 0 0, .bool false, .slice none 0 0, .bool false, .slice none 0 0, .bool false, .slice none 0 0, .bool false, .slice none 0 0, .bool false, .slice none 0 0, .bool false, .slice none 0 0, .bool false, .slice none 0 0, .bool false, .slice none 0 0, .bool false, .slice none 0 0, .bool false, .slice none 0 0, .bool false, .slice none 0 0, .bool false] 266 (0, 0)) := by have := blk_new A7 (.cells #[.slice none 0 0, .bool false, .slice none 0 0, .bool false, .slice none 0 0, .bool false, .slice none 0 0, .bool false, .slice none 0 0, .bool false, .slice none 0 0, .bool false, .slice none 0 0, .bool false, .slice none 0 0, .bool false, .slice none 0 0, .bool false, .slice none 0 0, .bool false, .slice none 0 0, .bool false, .slice none 0 0, .bool false, .slice none 0 0, .bool false, .slice none 0 0, .bool false, .slice none 0 0, .bool false, .slice none 0 0, .bool false, .slice none 0 0, .bool false] 266); rw [e7] at this; exact this
  refine ⟨blk_alloc n1 _, blk_alloc n2 _, blk_alloc n3 _, blk_alloc n4 _, blk_alloc n5 _, blk_alloc n6 _, blk_alloc n7 _, ⟨_, hl, rfl, fun op ho => ⟨fun hm => absurd hm (by simp), fun _ => ?_⟩⟩, ⟨_, rfl, blk_alloc z0 _⟩, b7.alloc (by omega) _, by rw [World.size_alloc, e7]; omega⟩
  rcases op with _ | _ | _ | _ | _ | _ | _ | _ | _ | _ | _ | _ | _ | _ | _ | _ | _ | op
  all_goals first | exact ⟨rfl, rfl⟩ | omega
theorem SW.wp0 {w : World} {code : Code} {Q : Exit → Act → World → Prop} {a : Act} (K : ∀ w', SW w w' w.heap.size [] → code.wp Tryz.prog Q a w') : code.wp Tryz.prog Q a (((((((((w.alloc (.cells #[.slice none 0 0, .bool false, .slice none 0 0, .bool false, .slice none 0 0, .bool false, .slice none 0 0, .bool false, .slice none 0 0, .bool false, .slice none 0 0, .bool false, .slice none 0 0, .bool false, .slice none 0 0, .bool false, .slice none 0 0, .bool false, .slice none 0 0, .bool false, .slice none 0 0, .bool false, .slice none 0 0, .bool false, .slice none 0 0, .bool false, .slice none 0 0, .bool false, .slice none 0 0, .bool false, .slice none 0 0, .bool false, .slice none 0 0, .bool false] 266)).alloc (.cells #[.func (.func 241) #[] #[], .func (.func 242) #[] #[], .bool true] 271)).alloc (.cells #[.func (.func 243) #[] #[], .func (.func 242) #[] #[], .bool true] 271)).alloc (.cells #[.func (.func 244) #[] #[], .func (.func 242) #[] #[], .bool true] 271)).alloc (.cells #[.func (.func 245) #[] #[], .func (.func 246) #[] #[], .bool false] 271)).alloc (.cells #[.func (.func 245) #[] #[], .func (.func 247) #[] #[], .bool false] 271)).alloc (.cells #[.func (.func 245) #[] #[], .func (.func 248) #[] #[], .bool false] 271)).alloc (.cells #[.func (.func 241) #[] #[], .func (.func 249) #[] #[], .bool false] 271)).alloc (.cells #[.slice none 0 0, .bool false, .slice none 0 0, .bool false, .slice none 0 0, .bool false, .slice none 0 0, .bool false, .slice none 0 0, .bool false, .slice none 0 0, .bool false, .slice none 0 0, .bool false, .slice none 0 0, .bool false, .slice none 0 0, .bool false, .slice none 0 0, .bool false, .slice none 0 0, .bool false, .slice none 0 0, .bool false, .slice none 0 0, .bool false, .slice none 0 0, .bool false, .slice none 0 0, .bool false, .slice none 0 0, .bool false, .slice none 0 0, .bool false] 266)) := K _ (sw_start w)
theorem SW.wpI {w0 w : World} {n : Nat} {D : List Nat} (h : SW w0 w n D) {code : Code} {Q : Exit → Act → World → Prop} {a : Act} {o : Obj} (K : ∀ w', SW w0 w' n D → n + 9 ≤ w.heap.size → w'.heap[w.heap.size]? = some o → code.wp Tryz.prog Q a w') : code.wp Tryz.prog Q a (w.alloc o) :=
  K _ (h.pure ((Below.refl _ _).alloc (Nat.le_refl _) _)) h.size (blk_new _ _)

end Go.Proofs.YtbppnihcbcdglaaGreat
