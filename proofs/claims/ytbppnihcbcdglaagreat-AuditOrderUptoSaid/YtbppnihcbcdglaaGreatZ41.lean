/- frame.Scan: what it hands on. No condition. -/
import Derived.RangeFuncFrom
import Derived.RangeFuncLeaves
import Derived.RangeFuncBound
import Derived.RangeFuncCalls
import Derived.OwnWalkIn
import Derived.TacticsInMore
import Derived.LoopNIn
import Derived.LoopIn
import Derived.Test.YtbppnihcbcdglaaGreatZ1
import Derived.Test.YtbppnihcbcdglaaGreatZ2
import Derived.Test.YtbppnihcbcdglaaGreatZ9
import Derived.Test.YtbppnihcbcdglaaGreatZ25
/- A range over a function whose rounds are told what lies in memory of what they are handed. No condition. -/
namespace Go.Proofs.YtbppnihcbcdglaaGreat
open Go.RowKit
set_option linter.unusedVariables false

/-- What lies below N, and all cells but those of the types TW, are as they were. -/
structure Keeps (TW : List TypeId) (N : Nat) (A B : World) : Prop where
  os : B.os = A.os
  tape : B.tape = A.tape
  output : B.output = A.output
  size : A.heap.size ≤ B.heap.size
  low : ∀ (k : Nat) (ob : Obj), A.heap[k]? = some ob → k < N → B.heap[k]? = some ob
  same : ∀ (k : Nat) (c : Array Value) (t : TypeId) (f : Nat × Nat), A.heap[k]? = some (.cells c t f) → t ∉ TW → B.heap[k]? = some (.cells c t f)
theorem Keeps.of_below {TW : List TypeId} {N : Nat} {A B : World} (h : Below A.heap.size A B) : Keeps TW N A B := ⟨h.os, h.tape, h.output, h.size, fun k ob hk _ => blk_below h hk (blk_lt hk), fun k c t f hk _ => blk_below h hk (blk_lt hk)⟩
theorem Keeps.put {TW : List TypeId} {N : Nat} {A : World} {l : Nat} {o : Obj} (o' : Obj) (hl : A.heap[l]? = some o) (ho : o.isCells = false) (hN : N ≤ l) : Keeps TW N A (A.putObj l o') :=
  ⟨rfl, rfl, rfl, by simp, fun k ob hk hc => (World.putObj_heap_other (by omega)).trans hk, fun k c t f hk _ => by
    by_cases e : k = l
    · subst e
      rw [hl] at hk
      cases hk
      cases ho
    · exact (World.putObj_heap_other e).trans hk⟩
theorem Keeps.set {TW : List TypeId} {N : Nat} {A : World} {b : Nat} {c : Array Value} {t : TypeId} {f : Nat × Nat} (hb : A.heap[b]? = some (.cells c t f)) (ht : t ∈ TW) (hN : N ≤ b) (i : Nat) (u : Value) : Keeps TW N A (A.setCell ⟨b, i, none⟩ u) :=
  ⟨rfl, rfl, rfl, by simp, fun k ob hk hc => blk_set_other hk (by omega) i u, fun k c' t' f' hk hn => by
    by_cases e : k = b
    · subst e
      rw [hb] at hk
      cases hk
      exact absurd ht hn
    · exact blk_set_other hk e i u⟩
theorem Keeps.trans {TW : List TypeId} {N : Nat} {A B C : World} (h : Keeps TW N A B) (h' : Keeps TW N B C) : Keeps TW N A C := ⟨h'.os.trans h.os, h'.tape.trans h.tape, h'.output.trans h.output, Nat.le_trans h.size h'.size, fun k ob hk hc => h'.low k ob (h.low k ob hk hc) hc, fun k c t f hk hn => h'.same k c t f (h.same k c t f hk hn) hn⟩
/-- What a round that goes on keeps: the cells that it may not write. -/
def KpW (Wr : Nat → TypeId → Prop) (W W' : World) : Prop := ∀ (k : Nat) (c : Array Value) (t : TypeId) (f : Nat × Nat), W.heap[k]? = some (.cells c t f) → ¬ Wr k t → W'.heap[k]? = some (.cells c t f)
theorem KpW.refl (Wr : Nat → TypeId → Prop) (A : World) : KpW Wr A A := fun _ _ _ _ h _ => h
theorem KpW.trans {Wr : Nat → TypeId → Prop} {A B C : World} (h : KpW Wr A B) (h' : KpW Wr B C) : KpW Wr A C := fun k c t f hk hn => h' k c t f (h k c t f hk hn) hn
theorem KpW.of_below {Wr : Nat → TypeId → Prop} {A B : World} (h : Below A.heap.size A B) : KpW Wr A B := fun k c t f hk _ => blk_below h hk (blk_lt hk)
theorem KpW.set {Wr : Nat → TypeId → Prop} {A : World} {b : Nat} (hb : ∀ c t f, A.heap[b]? = some (.cells c t f) → Wr b t) (i : Nat) (u : Value) : KpW Wr A (A.setCell ⟨b, i, none⟩ u) := fun k c t f hk hn => by
  by_cases e : k = b
  · subst e; exact absurd (hb c t f hk) hn
  · exact blk_set_other hk e i u
theorem KpW.put {Wr : Nat → TypeId → Prop} {A : World} {l : Nat} {o : Obj} (o' : Obj) (hl : A.heap[l]? = some o) (ho : o.isCells = false) : KpW Wr A (A.putObj l o') := fun k c t f hk _ => by
  by_cases e : k = l
  · subst e
    rw [hl] at hk
    cases hk
    cases ho
  · exact (World.putObj_heap_other e).trans hk
theorem KpW.mono {Wr Wr' : Nat → TypeId → Prop} {A B : World} (h : KpW Wr A B) (hw : ∀ k t, Wr k t → Wr' k t) : KpW Wr' A B := fun k c t f hk hn => h k c t f hk (fun h => hn (hw _ _ h))
/-- A block that lay ahead of the iterator, or was made behind it and ahead of the range, or whose type is none of the iterator's. -/
def Mine (T : List TypeId) (N s0 m k : Nat) (t : TypeId) : Prop := k < N ∨ s0 ≤ k ∧ k < m ∨ t ∉ T
theorem Mine.grow {T : List TypeId} {N s0 m m' k : Nat} {t : TypeId} (h : Mine T N s0 m k t) (hm : m ≤ m') : Mine T N s0 m' k t := h.imp id (Or.imp (fun h => ⟨h.1, by omega⟩) id)
theorem Mine.fewer {T T' : List TypeId} {N s0 m k : Nat} {t : TypeId} (h : Mine T N s0 m k t) (hT : ∀ t ∈ T', t ∈ T) : Mine T' N s0 m k t := h.imp id (Or.imp id (fun h h' => h (hT _ h')))
theorem RoundIn.nest {m m' l l' : Nat} {P : Program} {f : FuncId} {tmps : Array Value} {assign body : Code} {w : World} {R : Ending → World → Prop}
    (h : RoundIn Fence.wide m P l f tmps assign body w R) : RoundIn (Fence.wide.inRound l') m' P l f tmps assign body w R := ⟨h.1, fun c cs _ => h.2 c cs (fun d hd => by cases hd)⟩

theorem Keeps.lower {TW TW' : List TypeId} {N M : Nat} {A B : World} (h : Keeps TW N A B) (hm : M ≤ N) (ht : ∀ t ∈ TW, t ∈ TW') : Keeps TW' M A B := ⟨h.os, h.tape, h.output, h.size, fun k ob hk hc => h.low k ob hk (by omega), fun k c t f hk hn => h.same k c t f hk (fun h => hn (ht _ h))⟩
/-- What is no cells and lies from N on is as it was. -/
structure KpN (N : Nat) (A B : World) : Prop where
  size : A.heap.size ≤ B.heap.size
  same : ∀ (k : Nat) (ob : Obj), A.heap[k]? = some ob → ob.isCells = false → N ≤ k → B.heap[k]? = some ob
theorem KpN.refl (N : Nat) (A : World) : KpN N A A := ⟨Nat.le_refl _, fun _ _ h _ _ => h⟩
theorem KpN.trans {N : Nat} {A B C : World} (h : KpN N A B) (h' : KpN N B C) : KpN N A C := ⟨Nat.le_trans h.size h'.size, fun k ob hk hc hn => h'.same k ob (h.same k ob hk hc hn) hc hn⟩
theorem KpN.raise {N M : Nat} {A B : World} (h : KpN N A B) (hm : N ≤ M) : KpN M A B := ⟨h.size, fun k ob hk hc hn => h.same k ob hk hc (by omega)⟩
theorem KpN.of_others {N : Nat} {A B : World} (h : KeepsOthers A B) : KpN N A B := ⟨h.size, fun k ob hk hc _ => h.same k ob hk hc⟩
theorem KpN.of_below {N : Nat} {A B : World} (h : Below A.heap.size A B) : KpN N A B := ⟨h.size, fun k ob hk _ _ => blk_below h hk (blk_lt hk)⟩
theorem KpN.put {N : Nat} {A : World} {l : Nat} (o' : Obj) (hl : l < N) : KpN N A (A.putObj l o') :=
  ⟨by simp, fun k ob hk _ hn => (World.putObj_heap_other (by omega)).trans hk⟩

/-- The iterator's word: of whatever loop over it. -/
def SeqG (P : Program) (n : Nat) (gf : Nat) (lb : Array Value) {α : Type} (encs : α → Array Value) (T TW : List TypeId) (N s0 : Nat) (G : α → World → Prop) (Sd Sx : List α → Prop) (w : World) : Prop :=
  ∀ (l : Nat) (J Jx : List α → World → Prop) (Wr : Nat → TypeId → Prop) (W : World), Below w.heap.size w W → (∀ k t, Wr k t → Mine T N s0 W.heap.size k t) →
    (∀ s A B, J s A → Keeps TW W.heap.size A B → J s B) → (∀ s A B, Jx s A → Keeps TW W.heap.size A B → Jx s B) →
    (∀ pre x W1, J pre W1 → G x W1 → YieldAt Fence.wide (n - 1) P l (encs x) W1 fun e W' => (e = .returned (.bool true) ∧ J (pre ++ [x]) W' ∧ KpW Wr W1 W' ∧ KpN W.heap.size W1 W') ∨ (e = .returned (.bool false) ∧ Jx (pre ++ [x]) W' ∧ KpN W.heap.size W1 W')) →
    J [] W →
    CallsIn Fence.wide n P gf (#[.func (.yield l) #[] #[]] ++ lb) W fun e W' => (∃ v, e = .returned v) ∧ ((∃ xs, Sd xs ∧ J xs W') ∨ (∃ pre, Sx pre ∧ Jx pre W'))

/-- How a round's body may be left. -/
def BodyPost {α : Type} (N : Nat) (Wr : Nat → TypeId → Prop) (I : List α → World → Prop) (Ix : Code → List α → World → Prop) (xs : List α) (W : World) : Exit → Act → World → Prop
  | .normal, _, W' => KpN N W W' ∧ KpW Wr W W' ∧ I xs W'
  | .ret, _, W' => KpN N W W' ∧ Ix .ret xs W'
  | .exit id, _, W' => KpN N W W' ∧ Ix (.exit id) xs W'
  | .goto t, _, W' => KpN N W W' ∧ Ix (.goto t) xs W'
  | .panic _, _, _ => False
  | .outgrown, _, _ => False

theorem range_law {P : Program} {n : Nat} {α : Type} {g : Operand} {ps : Array Tmp} {assign body : Code} {Q : Exit → Act → World → Prop} {a : Act} {w : World} {gf : Nat} {lb : Array Value}
    (hg : a.eval g = .func (.func gf) #[] lb) (eg : ∀ args w, (callFunc gf args).run P w = .ok (.enter gf args) w) {encs : α → Array Value} {T TW : List TypeId} {N s0 : Nat} {G : α → World → Prop} {Sd Sx : List α → Prop} {w0 : World}
    (hseq : SeqG P (n - 1) gf lb encs T TW N s0 G Sd Sx w0) (Wr : Nat → TypeId → Prop) (hWr : ∀ k t, Wr k t → Mine T N s0 w.heap.size k t) (hb0 : Below w0.heap.size w0 w) (hps : ∀ x, (encs x).size = ps.size)
    (I : List α → World → Prop) (Ix : Code → List α → World → Prop) (hI : ∀ s A B, I s A → Keeps TW w.heap.size A B → I s B) (hIx : ∀ c s A B, Ix c s A → Keeps TW w.heap.size A B → Ix c s B)
    (hG : ∀ x A B, G x A → Keeps TW w.heap.size A B → G x B) (h0 : I [] w) (a₁ : α → Act)
    (hassign : ∀ (l : Nat) (x : α) (W : World) (K : Act → World → Prop), K (a₁ x) W → assign.wpIn (Fence.wide.inRound l) (n - 1 - 1) P (Exit.then K (fun _ _ _ => False)) { tmps := (ps.zip (encs x)).foldl (fun t (p, v) => t.setIfInBounds p v) a.tmps, defers := [] } W)
    (hbody : ∀ (l : Nat) (pre : List α) (x : α) (W : World), I pre W → G x W → w.heap.size ≤ W.heap.size → body.wpIn (Fence.wide.inRound l) (n - 1 - 1) P (BodyPost w.heap.size Wr I Ix (pre ++ [x]) W) (a₁ x) W)
    (hdone : ∀ (D : Nat) (xs : List α) (W : World), w.heap.size ≤ D → Sd xs → I xs W → W.heap[D]? = some (.deferred (some [])) → Q .normal { a with defers := { target := .collected D, args := #[] } :: a.defers } W)
    (hstop : ∀ (D : Nat) (c : Code) (pre : List α) (W : World), w.heap.size ≤ D → Sx pre → Ix c pre W → W.heap[D]? = some (.deferred (some [])) → c.wpIn Fence.wide n P Q { a with defers := { target := .collected D, args := #[] } :: a.defers } W) :
    (Code.rangeFunc g ps assign body).wpIn Fence.wide n P Q a w := by
  refine wpIn_rangeFunc fun fn _ => ?_
  let lp : LoopState → Option Code → Obj := fun st pe => .loop { state := st, pending := pe, fn := fn, tmps := a.tmps, params := ps, assign := assign, body := body, defers := w.heap.size }
  let wl : World := (w.alloc (.deferred (some []))).alloc (lp .ready none)
  have hwl : Below w.heap.size w wl := ((Below.refl _ w).alloc (Nat.le_refl _) _).alloc (by simp) _
  have hsz : wl.heap.size = w.heap.size + 2 := by simp [wl]
  have hD0 : wl.heap[w.heap.size]? = some (.deferred (some [])) := blk_alloc (blk_new _ _) _
  have hL0 : wl.heap[w.heap.size + 1]? = some (lp .ready none) := blk_new1 _ _ _
  refine ⟨w.heap.size + 1, [{ target := .collected w.heap.size, args := #[] }], wl, { target := .fn (.func gf) lb, args := #[.func (.yield (w.heap.size + 1)) #[] #[]] }, wl, gf, #[.func (.yield (w.heap.size + 1)) #[] #[]] ++ lb, wl, ?_, ?_, ?_, ?_, fun h => (by cases h), ?_⟩
  · exact run_enterLoop_outer _ _ _ _ _
  · simp only [resolve, hg]; simp [go_sem]
  · intro f' _; trivial
  · simp [invoke, go_sem, eg]
  -- the record, and the deferred calls' block, beside the caller's word
  refine (hseq (w.heap.size + 1)
    (fun pre W => I pre W ∧ W.heap[w.heap.size + 1]? = some (lp .ready none) ∧ W.heap[w.heap.size]? = some (.deferred (some [])))
    (fun pre W => ∃ c, Ix c pre W ∧ W.heap[w.heap.size + 1]? = some (lp .done (some c)) ∧ W.heap[w.heap.size]? = some (.deferred (some [])))
    Wr wl (hb0.trans (hwl.mono hb0.size)) (fun k t h => (hWr k t h).grow (by omega))
    (fun s A B ⟨i1, i2, i3⟩ hb => ⟨hI s A B i1 (hb.lower (by omega) (fun _ h => h)), hb.low _ _ i2 (by omega), hb.low _ _ i3 (by omega)⟩)
    (fun s A B ⟨c, i1, i2, i3⟩ hb => ⟨c, hIx c s A B i1 (hb.lower (by omega) (fun _ h => h)), hb.low _ _ i2 (by omega), hb.low _ _ i3 (by omega)⟩)
    ?_ ⟨hI [] w wl h0 (.of_below hwl), hL0, hD0⟩).mono ?_
  · -- a round
    rintro pre x W ⟨hi, hl, hd⟩ hgx
    have hlW := blk_lt hl
    refine ⟨fn, _, assign, body, run_yield hl (hps x), roundIn_of_wpIn trivial (hassign _ x W _ ⟨_, run_beginRound hl rfl, ?_⟩)⟩
    have hkb : Keeps TW w.heap.size W (W.putObj (w.heap.size + 1) (lp .busy none)) := Keeps.put _ hl rfl (by omega)
    have hl2 : (W.putObj (w.heap.size + 1) (lp .busy none)).heap[w.heap.size + 1]? = some (lp .busy none) := World.putObj_heap_same hlW
    have hd2 : (W.putObj (w.heap.size + 1) (lp .busy none)).heap[w.heap.size]? = some (.deferred (some [])) := (World.putObj_heap_other (by omega)).trans hd
    refine wpIn_mono (hbody _ pre x _ (hI pre W _ hi hkb) (hG x W _ hgx hkb) (by simp; omega)) ?_
    have out : ∀ (jump : Option Code) (V : World), KpN w.heap.size (W.putObj (w.heap.size + 1) (lp .busy none)) V →
        (Instr.endRound (w.heap.size + 1) jump).run P V = .ok (.bool jump.isNone) (V.putObj (w.heap.size + 1) (lp (if jump.isNone then .ready else .done) jump)) ∧
        Keeps TW w.heap.size V (V.putObj (w.heap.size + 1) (lp (if jump.isNone then .ready else .done) jump)) ∧
        (V.putObj (w.heap.size + 1) (lp (if jump.isNone then .ready else .done) jump)).heap[w.heap.size + 1]? = some (lp (if jump.isNone then .ready else .done) jump) ∧
        (V.putObj (w.heap.size + 1) (lp (if jump.isNone then .ready else .done) jump)).heap[w.heap.size]? = some (.deferred (some [])) := by
      intro jump V hk
      have hl3 := hk.same _ _ hl2 rfl (by omega)
      exact ⟨run_endRound jump hl3, Keeps.put _ hl3 rfl (by omega), World.putObj_heap_same (blk_lt hl3), (World.putObj_heap_other (by omega)).trans (hk.same _ _ hd2 rfl (Nat.le_refl _))⟩
    have all : ∀ (V V' : World) (o' : Obj), KpN w.heap.size (W.putObj (w.heap.size + 1) (lp .busy none)) V → V' = V.putObj (w.heap.size + 1) o' → KpN wl.heap.size W V' := fun V V' o' hk e =>
      e ▸ ((KpN.put _ (by omega)).trans (hk.raise (by omega))).trans (KpN.put _ (by omega))
    rintro e b V hp
    cases e with
    | normal =>
      obtain ⟨hk, hkp, hi'⟩ := hp
      obtain ⟨r1, r2, r3, r4⟩ := out none V hk
      exact ⟨_, _, r1, .inl ⟨rfl, ⟨hI _ _ _ hi' r2, r3, r4⟩, ((KpW.put _ hl rfl).trans hkp).trans (KpW.put _ (hk.same _ _ hl2 rfl (by omega)) rfl), all _ _ _ hk rfl⟩⟩
    | ret =>
      obtain ⟨hk, hi'⟩ := hp
      obtain ⟨r1, r2, r3, r4⟩ := out (some .ret) V hk
      exact ⟨_, _, r1, .inr ⟨rfl, ⟨.ret, hIx _ _ _ _ hi' r2, r3, r4⟩, all _ _ _ hk rfl⟩⟩
    | exit id =>
      obtain ⟨hk, hi'⟩ := hp
      obtain ⟨r1, r2, r3, r4⟩ := out (some (.exit id)) V hk
      exact ⟨_, _, r1, .inr ⟨rfl, ⟨.exit id, hIx _ _ _ _ hi' r2, r3, r4⟩, all _ _ _ hk rfl⟩⟩
    | goto t =>
      obtain ⟨hk, hi'⟩ := hp
      obtain ⟨r1, r2, r3, r4⟩ := out (some (.goto t)) V hk
      exact ⟨_, _, r1, .inr ⟨rfl, ⟨.goto t, hIx _ _ _ _ hi' r2, r3, r4⟩, all _ _ _ hk rfl⟩⟩
    | panic ch => exact hp.elim
    | outgrown => exact hp.elim
  · -- the iterator has ended
    rintro e V ⟨⟨v, rfl⟩, h | h⟩
    · obtain ⟨xs, hS, hi, hl, hd⟩ := h
      have hk : Keeps TW w.heap.size V (V.putObj (w.heap.size + 1) (lp .exhausted none)) := Keeps.put _ hl rfl (by omega)
      exact ⟨none, _, run_endLoop hl (by simp), hdone _ xs _ (Nat.le_refl _) hS (hI _ _ _ hi hk) ((World.putObj_heap_other (by omega)).trans hd)⟩
    · obtain ⟨pre, hS, c, hi, hl, hd⟩ := h
      have hk : Keeps TW w.heap.size V (V.putObj (w.heap.size + 1) (lp .exhausted (some c))) := Keeps.put _ hl rfl (by omega)
      exact ⟨some c, _, run_endLoop hl (by simp), hstop _ c pre _ (Nat.le_refl _) hS (hIx _ _ _ _ hi hk) ((World.putObj_heap_other (by omega)).trans hd)⟩
end Go.Proofs.YtbppnihcbcdglaaGreat
namespace Go.Proofs.YtbppnihcbcdglaaGreat
open Go.RowKit
set_option linter.unusedVariables false
set_option linter.unusedSimpArgs false
attribute [local go_sem] Oper.semAt_some

/-- A frame that is handed on: its place, its body, where that lies. -/
structure FE where
  i : Nat
  xs : Bs
  a : Option Addr
  c : Nat
def FE.val (x : FE) : Nat × Bs := (x.i, x.xs)
def FE.encs (x : FE) : Array Value := #[.int .i64 (x.i : Int), .slice x.a x.xs.length x.c]
/-- What a round is told. -/
def FE.G (L : Nat) (x : FE) (w : World) : Prop := BS w x.a x.c x.xs ∧ TyB w x.a ∧ x.xs.length ≤ 65536 ∧ 1 ≤ x.xs.length ∧ x.i + 8 + x.xs.length ≤ L

theorem OwnB.ty {w : World} {n0 : Nat} {a : Option Addr} {n c : Nat} {xs : Bs} (h : OwnB w n0 (.slice a n c) xs) : TyB w a := fun g o e => by
  subst e
  have := h.2
  rcases this with ⟨h1, _⟩ | ⟨g', cap, cur, h1, hg, hh, r⟩
  · cases h1
  · cases h1
    exact ⟨_, _, hh⟩

theorem BS.kpw {W W' : World} {a : Option Addr} {c : Nat} {xs : Bs} (h : BS W a c xs) (ht : TyB W a) {Wr : Nat → TypeId → Prop} (hk : KpW Wr W W') (hn : ∀ g o, a = some ⟨g, o, none⟩ → ¬ Wr g 5) : BS W' a c xs ∧ TyB W' a := by
  refine ⟨h.kept fun g o e _ => ?_, fun g o e => ?_⟩
  · obtain ⟨cur, f, hg⟩ := ht g o e
    exact (hk g _ _ _ hg (hn g o e)).trans hg.symm
  · obtain ⟨cur, f, hg⟩ := ht g o e
    exact ⟨cur, f, hk g _ _ _ hg (hn g o e)⟩
theorem FE.G.keeps {L N : Nat} {x : FE} {A B : World} (h : FE.G L x A) (hk : Keeps [] N A B) : FE.G L x B := by
  obtain ⟨h1, h2, h3⟩ := h
  have h4 := h1.kpw h2 (Wr := fun _ _ => False) (fun k c t f hk1 _ => hk.same k _ _ _ hk1 (by simp)) (fun _ _ _ h => h)
  exact ⟨h4.1, h4.2, h3⟩
set_option maxRecDepth 20000 in
set_option maxHeartbeats 2000000 in
theorem fscan1 (n : Nat) (B : Nat) (b : Bs) (a : Option Addr) (c : Nat) (w : World) (N s0 : Nat) (hBw : w.heap[B]? = some (.cells #[.slice a b.length c] 27 (0, 0))) (hbs : BS w a c b) (hty : TyB w a) (hl : b.length ≤ 17592186044416) (hWB : N ≤ B ∧ B < s0) (hWa : ∀ g o, a = some ⟨g, o, none⟩ → N ≤ g ∧ g < s0) :
    SeqG Tryz.prog n 117 #[.pointer (some ⟨B, 0, none⟩)] FE.encs [5, 27] [] N s0 (FE.G b.length) (fun xs => xs.map FE.val = frames b (b.length + 1) 0) (fun pre => ∃ pre0 x, pre = pre0 ++ [x] ∧ pre.map FE.val <+: frames b (b.length + 1) 0) w := by
  have hdp : ∀ k : Nat, Fence.wide.depth.isSome = true → 1 ≤ k := fun k h => by cases h
  intro l J Jx Wr W hW hWr hJ hJx hY h0
  have hWB' : ¬ Wr B 27 := fun h => by rcases hWr _ _ h with h | h | h <;> first | omega | exact h (by decide)
  have hWa' : ∀ g o, a = some ⟨g, o, none⟩ → ¬ Wr g 5 := fun g o e h => by have := hWa g o e; rcases hWr _ _ h with h | h | h <;> first | omega | exact h (by decide)
  have hBW := blk_below hW hBw (blk_lt hBw)
  have hbW := hbs.below hW
  have htW := hty.below hW
  have HL := Lib.hid hl
  have HWB := Lib.hid hWB'
  have HWA := Lib.hid hWa'
  have HJ := Lib.hid hJ
  have HJx := Lib.hid hJx
  have HY := Lib.hid hY
  clear hBw hbs hty hl hWB hWa hWB' hWa' hWr hJ hJx hY hW
  refine callsIn_of_wp Tryz.func117 rfl trivial ?_ rfl
  simp only [Tryz.ntmps117, List.size_toArray, List.length_cons, List.length_nil, Nat.reduceAdd, Nat.reduceSub, Array.replicate_succ, Array.replicate_zero, List.push_toArray, List.append_toArray, List.nil_append, List.cons_append]
  gi_wp2
  gi_loopw [3] (fun p wr => ∃ (pre : List FE) (i : Nat), p = .int .i64 (i : Int) ∧ i ≤ b.length ∧ frames b (b.length + 1) 0 = pre.map FE.val ++ frames b (b.length + 1) i ∧ J pre wr ∧ wr.heap[B]? = some (.cells #[.slice a b.length c] 27 (0, 0)) ∧ BS wr a c b ∧ TyB wr a) (fun p _ => b.length - (intOf p).toNat)
  case atStart => exact ⟨[], 0, rfl, Nat.zero_le _, rfl, h0, hBW, hbW, htW⟩
  case round =>
    obtain ⟨pre, i, rfl, hi, hfr, hJr, hBr, hbr, htr⟩ := hrel
    have HFR := Lib.hid hfr
    have HJR := Lib.hid hJr
    have HI := Lib.hid hi
    clear hfr hJr h0 hBW hbW htW hi
    have q0 : wr.cell? ⟨B, 0, none⟩ = some (.slice a b.length c) := blk_cell hBr 0
    obtain ⟨body, j, e, hn⟩ : ∃ body j e, nextF b i = (body, j, e) := ⟨_, _, _, rfl⟩
    have HN := Lib.hid hn
    clear hn
    by_cases hE : e = 0
    · subst hE
      gi_wp2_with (refine ⟨trivial, hdp _, ?_⟩; gi_at_call 118; refine (callsIn_wide.2 (next_any wr a c b hbr i (by have := HL.out; omega) (by have := HL.out; have := HI.out; omega))).mono ?_; rintro e1 w4 ⟨a4, c4, rfl, hB4, hb4⟩; rw [HN.out] at hB4 ⊢; dsimp only at hB4 ⊢)
      have HOK := Lib.hid (nextF_ok HN.out)
      have FS : Hid (∀ x : FE, frames b (b.length + 1) i = ((i, body) :: frames b (b.length + 1) j)) := Lib.hid (fun _ => by
        have h1 := HOK.out.1
        have h2 := HOK.out.2.1
        have e9 : frames b (b.length + 1) i = (i, (nextF b i).1) :: frames b b.length (nextF b i).2.1 := by
          show (if (nextF b i).2.2 ≠ 0 then [] else (i, (nextF b i).1) :: frames b b.length (nextF b i).2.1) = _
          rw [if_neg (by rw [HN.out]; simp)]
        rw [e9, HN.out]
        congr 1
        exact frames_more b _ _ _ (by dsimp only; omega) (by dsimp only; omega))
      have FE9 : Hid (∀ a' c', frames b (b.length + 1) 0 = (pre ++ [(⟨i, body, a', c'⟩ : FE)]).map FE.val ++ frames b (b.length + 1) j) := Lib.hid (fun a' c' => by
        rw [HFR.out, FS.out ⟨i, body, none, 0⟩]; simp [FE.val])
      gi_wp2_with (refine ⟨trivial, hdp _, ?_⟩; gi_at_call 65; refine (callsIn_wide.2 (clone_any w4 a4 c4 body hB4 (by have := HOK.out.2.2.2.1; omega))).mono ?_; rintro e1 w5 ⟨v, rfl, ho, hb5⟩; obtain ⟨a5, c5, rfl, hB5, -⟩ := ho.shape; have hb45 := hb4.trans (hb5.mono hb4.size); obtain ⟨fn, tmps, assign, bd, hy, hR⟩ := HY.out pre ⟨i, body, a5, c5⟩ w5 (HJ.out _ _ _ HJR.out (.of_below hb45)) ⟨hB5, ho.ty, HOK.out.2.2.2.1, HOK.out.2.2.1, by show i + 8 + body.length ≤ b.length; have := HOK.out.1; have := HOK.out.2.1; omega⟩; dsimp only [FE.encs] at hy)
      refine ⟨hdp _, ?_⟩
      refine hR.mono ?_
      rintro e6 W6 (⟨rfl, hJ6, hk6, -⟩ | ⟨rfl, hJx6, -⟩)
      · have hB6 : W6.heap[B]? = some (.cells #[.slice a b.length c] 27 (0, 0)) := hk6 _ _ _ _ (blk_below hb45 hBr (blk_lt hBr)) HWB.out
        have hbt6 := (hbr.below hb45).kpw (htr.below hb45) hk6 HWA.out
        have HJ6 := Lib.hid hJ6
        clear hJ6 hk6 hR hy hBr hbr htr q0 hB5 hB4 hb45 hb4 hb5 ho
        gi_wp2
        go_roundw
        case rel => exact ⟨pre ++ [⟨i, body, a5, c5⟩], j, rfl, HOK.out.2.1, FE9.out _ _, HJ6.out, hB6, hbt6.1, hbt6.2⟩
        case measure => have := HOK.out.1; have := HOK.out.2.1; simp [intOf]; omega
      · clear hR hy hBr hbr htr q0 hB5 hB4 hb45 hb4 hb5 ho
        have HJx6 := Lib.hid hJx6
        clear hJx6
        gi_wp2
        refine bodyPost_ret (results_none rfl _ _ _) rfl ?_
        exact ⟨⟨_, rfl⟩, .inr ⟨pre ++ [⟨i, body, a5, c5⟩], ⟨pre, _, rfl, ⟨_, (FE9.out _ _).symm⟩⟩, HJx6.out⟩⟩
    · have e0 : (e != 0) = true := by simpa using hE
      gi_wp2_with (refine ⟨trivial, hdp _, ?_⟩; gi_at_call 118; refine (callsIn_wide.2 (next_any wr a c b hbr i (by have := HL.out; omega) (by have := HL.out; have := HI.out; omega))).mono ?_; rintro e1 w4 ⟨a4, c4, rfl, hB4, hb4⟩; rw [HN.out] at hB4 ⊢; dsimp only at hB4 ⊢)
      have FN : Hid (frames b (b.length + 1) i = []) := Lib.hid (by
        show (if (nextF b i).2.2 ≠ 0 then [] else (i, (nextF b i).1) :: frames b b.length (nextF b i).2.1) = _
        rw [if_pos (by rw [HN.out]; exact hE)])
      have HJ4 := Lib.hid (HJ.out _ _ _ HJR.out (.of_below hb4))
      clear hBr hbr htr q0 hB4 hb4
      refine ⟨trivial, ?_⟩
      gi_wp2
      refine ⟨fun _ h => (by cases h), ?_⟩
      gi_wp2
      refine bodyPost_ret (results_none rfl _ _ _) rfl ?_
      exact ⟨⟨_, rfl⟩, .inl ⟨pre, by rw [HFR.out, FN.out, List.append_nil], HJ4.out⟩⟩
end Go.Proofs.YtbppnihcbcdglaaGreat
