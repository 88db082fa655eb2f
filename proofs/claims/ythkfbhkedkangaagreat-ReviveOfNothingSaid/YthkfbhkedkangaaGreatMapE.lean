/- Maps without an entry: look-up, range, the next step. No condition. -/
import Derived.Test.YthkfbhkedkangaaGreatRfN
import Derived.Maps.Range
import Derived.Carry
namespace Go.Proofs.YthkfbhkedkangaaGreat
open Go.RowKit
set_option linter.unusedVariables false
variable {P : Program} {w : World}

theorem run_range_e (t k e : TypeId) (ht : P.underlying t = some (.map k e)) {b : Nat} {es : Array MapEntry} {c : Nat} (hb : w.heap[b]? = some (.map es c)) :
    (Instr.range t (.map (some b))).run P w = .ok (.pointer (some ⟨w.heap.size, 0, none⟩)) (w.alloc (.mapIter (some b) c #[] c)) := by
  simp [Instr.range, run_underlying ht, MapKept.run_getObj_map hb, Result.andThen]

theorem run_range_n (t k e : TypeId) (ht : P.underlying t = some (.map k e)) :
    (Instr.range t (.map none)).run P w = .ok (.pointer (some ⟨w.heap.size, 0, none⟩)) (w.alloc (.mapIter none 0 #[] 0)) := by
  simp [Instr.range, run_underlying ht]

theorem run_next_e (ty : TypeId) {b r : Nat} {c s l : Nat} (hb : w.heap[b]? = some (.map #[] c)) (hi : w.heap[r]? = some (.mapIter (some b) s #[] l)) :
    (Instr.next (.pointer (some ⟨r, 0, none⟩)) false ty).run P w = .ok (.tuple #[.bool false]) w := by
  simp [Instr.next, getObj, Sem.run_bind, Sem.run, hi, hb, Result.andThen]
  rw [if_pos (by decide)]
  rfl

theorem run_next_n (ty : TypeId) {r : Nat} {s l : Nat} (hi : w.heap[r]? = some (.mapIter none s #[] l)) :
    (Instr.next (.pointer (some ⟨r, 0, none⟩)) false ty).run P w = .ok (.tuple #[.bool false]) w := by
  simp [Instr.next, getObj, Sem.run_bind, Sem.run, hi, Result.andThen]

theorem run_lookup_e (t k e : TypeId) (ht : P.underlying t = some (.map k e)) {d : TypeDesc} (hk : P.underlying k = some d) {key z : Value} (hkey : MapKept.IsKey d key) (hz : (zeroValue e).run P w = .ok z w) {b c : Nat} (hb : w.heap[b]? = some (.map #[] c)) (ok : Bool) :
    (Instr.lookup t (.map (some b)) key ok).run P w = .ok (if ok then .tuple #[z, .bool false] else z) w := by
  have h1 := MapKept.run_checkKey (P := P) (w := w) hk hkey true 9999
  have h2 : (Instr.findKey k key []).run P w = .ok none w := MapKept.run_findKey hk rfl
  simp [Instr.lookup, run_underlying ht, MapKept.run_getObj_map hb, h1, h2, hz, Result.andThen]

theorem run_lookup_n (t k e : TypeId) (ht : P.underlying t = some (.map k e)) {d : TypeDesc} (hk : P.underlying k = some d) {key z : Value} (hkey : MapKept.IsKey d key) (hz : (zeroValue e).run P w = .ok z w) (ok : Bool) :
    (Instr.lookup t (.map none) key ok).run P w = .ok (if ok then .tuple #[z, .bool false] else z) w := by
  have h1 := MapKept.run_checkKey (P := P) (w := w) hk hkey true 9999
  have h2 : (Instr.findKey k key []).run P w = .ok none w := MapKept.run_findKey hk rfl
  simp [Instr.lookup, run_underlying ht, h1, h2, hz, Result.andThen]

end Go.Proofs.YthkfbhkedkangaaGreat
