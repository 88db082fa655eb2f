/- A range over a function that hands on nothing: what lay before lies as it lay. No condition. -/
import Derived.Test.YthkfbhkedkangaaGreatBase
import Derived.RangeFuncFrom
import Derived.RangeFuncLeaves
import Derived.OwnWalkIn
import Derived.TacticsInMore
import Derived.LoopNIn
import Derived.LoopIn
namespace Go.Proofs.YthkfbhkedkangaaGreat
open Go.RowKit
set_option linter.unusedVariables false

theorem grown_of_below {W W' : World} (h : Below W.heap.size W W') : W.grownBy W' none :=
  ⟨h.os, h.tape, h.output, h.size, fun k hk _ => h.block k hk⟩

/-- The function value hands on nothing. -/
def Yields0 (P : Program) (gf : Nat) (lb : Array Value) (w : World) : Prop :=
  ∀ (l : Nat) (W : World), Below w.heap.size w W → Calls P gf (#[.func (.yield l) #[] #[]] ++ lb) W fun e W' => (∃ v, e = .returned v) ∧ Below W.heap.size W W'

theorem Yields0.later {P : Program} {gf : Nat} {lb : Array Value} {w w' : World} (h : Yields0 P gf lb w) (hb : Below w.heap.size w w') : Yields0 P gf lb w' :=
  fun l W hW => h l W (hb.trans (hW.mono hb.size))

theorem wpIn_rangeFunc_none {P : Program} {n : Nat} {g : Operand} {ps : Array Tmp} {assign body : Code} {Q : Exit → Act → World → Prop} {a : Act} {w : World}
    (h1 : 1 ≤ n) {gf : Nat} {lb : Array Value} (hg : a.eval g = .func (.func gf) #[] lb) (eg : ∀ args w, (callFunc gf args).run P w = .ok (.enter gf args) w)
    (hps : ps.size = 1) (hy : Yields0 P gf lb w)
    (hdone : ∀ (D : Nat) (W : World), w.heap.size ≤ D → Below w.heap.size w W → W.heap[D]? = some (.deferred (some [])) → Q .normal { a with defers := { target := .collected D, args := #[] } :: a.defers } W) :
    (Code.rangeFunc g ps assign body).wpIn Fence.wide n P Q a w := by
  refine wpIn_rangeFunc_ownF (α := Empty) (F := Fence.wide) rfl h1 hg trivial eg (encs := fun x => x.elim) (Kp := Below w.heap.size) (S := fun _ => True) (Sp := fun _ => False) (N := 0) (w0 := w)
    ?_ (fun h k => h.trans k) (fun W l o o' hl h hc hw => belowK_b (w := w) (Nat.le_refl _) W l o o' hl h hc hw) (Below.refl _ _) (fun x => x.elim)
    (fun _ W => Below w.heap.size w W) (fun _ _ _ => False) (ownFrom_below (Nat.le_refl _) (Nat.le_refl _)) (fun _ _ _ _ _ h => h.elim) (Below.refl _ _) (fun x => x.elim) (fun _ x => x.elim) (fun _ _ x => x.elim)
    (fun D xs W hD _ hI hK => hdone D W hD hI hK) (fun _ _ _ _ _ h => h.elim)
  intro l J Jx W hW hJ hJx hY h0
  refine (callsIn_wide.2 (hy l W hW)).mono ?_
  rintro e W' ⟨hv, hb⟩
  exact ⟨hv, .inl ⟨[], trivial, hJ [] W W' none h0 (grown_of_below hb) (fun r e => by cases e)⟩⟩

end Go.Proofs.YthkfbhkedkangaaGreat
