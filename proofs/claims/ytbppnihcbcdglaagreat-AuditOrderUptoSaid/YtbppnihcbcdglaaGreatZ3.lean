/- Laws for make and copy on bytes of the call's own. -/
import Derived.Laws.CopyOwn
import Derived.Test.YtbppnihcbcdglaaGreatZ2
namespace Go.Proofs.YtbppnihcbcdglaaGreat
open Go.RowKit
set_option linter.unusedVariables false
set_option linter.unusedSimpArgs false

/-- make([]byte, n), then copy(.., ys), n = len(ys): the call's own copy. -/
theorem wp_makeB {w : World} {ops : Array Oper} {rest : List Oper} {o : Oper} {a : Act} {Q : Exit → Act → World → Prop} (hgd : o.guard = none) (l c : Operand) (ho : o.op = Op.makeSlice 27 l c)
    (n0 n : Nat) (hl : a.eval l = .int .i64 (n : Int)) (hc : a.eval c = .int .i64 (n : Int)) (hn : n ≤ 100000000000000) (hb : n0 ≤ w.heap.size)
    (h : ∀ w', OwnB w' n0 (.slice (some ⟨w.heap.size, 0, none⟩) n n) (List.replicate n 0) → w.grownBy w' none → wpList Tryz.prog ops Q rest (a.put o.dst (.slice (some ⟨w.heap.size, 0, none⟩) n n)) w') : wpList Tryz.prog ops Q (o :: rest) a w := by
  obtain ⟨i0, hi, hz0, hz1, hz2⟩ := info_parts Tryz.info5
  refine wpList_make_full w hgd l c 27 ho n0 5 i0 (.int .u8 0) 1 Tryz.underlying27 hi hz0 hz1 .i64 .i64 _ _ n hl hc rfl rfl (by rw [hz2]; omega) (by unfold maxLen; omega) hb ?_
  intro w' hown hg
  refine h w' ?_ hg
  have e : (madeCells (Value.int .u8 0).cells (n * 1)).toList = (List.replicate n (0 : UInt8)).map B := by
    rw [Nat.mul_one, List.map_replicate]; exact toList_madeCells_one (.int .u8 0) n
  rw [e] at hown
  unfold OwnB
  rw [List.length_replicate]
  exact hown

theorem wp_copyB {w : World} {ops : Array Oper} {rest : List Oper} {o : Oper} {a : Act} {Q : Exit → Act → World → Prop} (hgd : o.guard = none) (d s : Operand)
    (ho : o.op = .call { callee := .builtin .copy, args := #[d, s], argTypes := #[27, 27] }) (n0 g n : Nat) (xs ys : Bs) (hd : a.eval d = .slice (some ⟨g, 0, none⟩) n n) (hown : OwnB w n0 (.slice (some ⟨g, 0, none⟩) n n) xs)
    (hx : xs.length = n) (hy0 : ys.length = n) (ax : Option Addr) (c : Nat) (hs : a.eval s = .slice ax ys.length c) (hy : BS w ax c ys)
    (h : ∀ w', OwnB w' n0 (.slice (some ⟨g, 0, none⟩) n n) ys → Below n0 w w' → wpList Tryz.prog ops Q rest (a.put o.dst (goInt ys.length)) w') : wpList Tryz.prog ops Q (o :: rest) a w := by
  obtain ⟨hl, ⟨h1, _⟩ | ⟨g', cap, cur, hv, hg, hh, hn, hm, hsz, ht⟩⟩ := hown
  · cases h1
  · simp only [Value.slice.injEq, Option.some.injEq, Addr.mk.injEq, and_true, true_and] at hv
    obtain ⟨rfl, -, rfl⟩ := hv
    rw [hx] at ht hn
    have hcl : cur.toList.length = n := by simpa using hsz
    have hlen : (ys.map B).length = n := by simp [hy0]
    refine wpList_copy_splice hgd d s 27 27 ho 5 Tryz.underlying27 (by kernel_rfl) _ ax n n ys.length c hd hs g 0 cur.toList 5 (by simpa using hh) (ys.map B) (by rw [hlen, hy0]; exact (Nat.min_self n).symm) ?_ (by rw [hlen, hcl]; omega) ?_ n0 w (Below.refl _ _) hg ?_
    · intro hp
      refine ⟨rfl, ?_⟩
      rcases hy.at_ with rfl | ⟨b, o, rfl, hc⟩
      · simp at hp
      · refine ⟨_, rfl, fun j v hj => ?_⟩
        rw [List.getElem?_map] at hj
        cases hyj : ys[j]? with
        | none => rw [hyj] at hj; cases hj
        | some u =>
          rw [hyj] at hj
          obtain rfl : B u = v := by simpa using hj
          rw [Addr.add_lit]
          exact hc j u hyj
    · intro u hu
      obtain ⟨b, _, rfl⟩ := List.mem_map.1 hu
      rfl
    · intro w' hg' hb
      have e : splice cur.toList 0 (ys.map B) = ys.map B := by simp [splice, hcl, hy0]
      rw [e] at hg'
      have hg2 := hg'.out
      rw [show goInt (ys.map B).length = goInt ys.length by simp]
      refine h w' ⟨by simp, .inr ⟨g, n, _, by rw [hy0], hg, hg2, by omega, hm, by simp [hy0], ?_⟩⟩ hb
      rw [List.take_of_length_le]
      simp
/-- string(b) -/
theorem run_bstr {W : World} {a : Option Addr} {c : Nat} {xs : Bs} (h : BS W a c xs) : (convert 27 9 (.slice a xs.length c)).run Tryz.prog W = .ok (.string ⟨xs.toArray⟩) W := by
  cases a with
  | none =>
    obtain ⟨rfl, rfl⟩ := h.nil_
    rw [run_convert_bytes_string W 27 9 5 none _ _ Tryz.underlying27 Tryz.underlying5 Tryz.underlying9]
    rfl
  | some ad =>
    refine run_convert_bytes_back W 27 9 5 ad c xs Tryz.underlying27 Tryz.underlying5 Tryz.underlying9 fun j hj => ?_
    rcases h.at_ with rfl | ⟨b, o, e, hc⟩
    · simp at hj
    · cases e
      rw [Addr.add_lit]
      exact hc j _ (List.getElem?_eq_getElem hj)

/-- Where a piece of a slice begins. -/
def midA (a : Option Addr) (c lo : Nat) : Option Addr := if c = lo then a else a.map (·.add lo)
theorem BS.mid {W : World} {a : Option Addr} {c : Nat} {xs : Bs} (h : BS W a c xs) {lo hi : Nat} (h1 : lo ≤ hi) (h2 : hi ≤ xs.length) : BS W (midA a c lo) (c - lo) ((xs.take hi).drop lo) := by
  have hl : ((xs.take hi).drop lo).length = hi - lo := by simp; omega
  refine ⟨by rw [hl]; have := h.le; omega, ?_, ?_⟩
  · intro e
    unfold midA at e
    split at e
    · omega
    · have := h.nil (by simpa using e); omega
  · by_cases h3 : lo = hi
    · exact .inl (List.eq_nil_of_length_eq_zero (by omega))
    · rcases h.at_ with rfl | ⟨b, o, rfl, hc⟩
      · exact .inl (by simp)
      · refine .inr ⟨b, o + lo, ?_, fun i u hu => ?_⟩
        · unfold midA
          rw [if_neg (by have := h.le; omega)]
          simp [Addr.add_lit]
        · rw [List.getElem?_drop, List.getElem?_take] at hu
          split at hu
          · rw [Nat.add_assoc]; exact hc _ _ hu
          · cases hu
theorem run_bmid {W : World} {a : Option Addr} {n c lo hi : Nat} (h1 : lo ≤ hi) (h2 : hi ≤ c) :
    (Instr.slice 27 (.slice a n c) (some (.int .i64 (lo : Int))) (some (.int .i64 (hi : Int))) none).run Tryz.prog W = .ok (.slice (midA a c lo) (hi - lo) (c - lo)) W := by
  obtain ⟨i0, hi0, hz0, hz1, hz2⟩ := info_parts Tryz.info5
  have hel : Tryz.prog.elem 27 = 5 := by simp [Program.elem, Tryz.underlying27]
  rw [run_slice_lh W 27 a n c (by rw [hel]; exact Tryz.underlying27) .i64 .i64 lo hi (by omega) (by omega) (by omega), hel]
  simp [sizeOf, typeInfo, hi0, hz1, sliced, Result.andThen, midA]
end Go.Proofs.YtbppnihcbcdglaaGreat
