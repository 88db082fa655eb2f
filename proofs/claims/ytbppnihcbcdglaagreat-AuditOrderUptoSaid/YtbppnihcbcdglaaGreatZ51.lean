/- treadlelaw20's known. No condition. -/
import Derived.Laws.StructEq
import Derived.Sort.Walk0
import Derived.Test.YtbppnihcbcdglaaGreatZ39
import Derived.Test.YtbppnihcbcdglaaGreatZ50
/- treadlelaw20's same. No condition. -/
namespace Go.Proofs.YtbppnihcbcdglaaGreat
open Go.RowKit
set_option linter.unusedVariables false
set_option linter.unusedSimpArgs false

/-- A report's rows, where they lie. -/
structure RepR (w : World) (r : Rp) (sv nv lv ov : Value) : Prop where
  s : ∃ a c, sv = .slice a r.segs.length c ∧ RowT w 61 a (r.segs.flatMap segRow)
  n : ∃ a c, nv = .slice a r.needed.length c ∧ RowT w 9 a (r.needed.map encS)
  l : ∃ a c, lv = .slice a r.left.length c ∧ RowT w 9 a (r.left.map encS)
  o : ∃ a c, ov = .slice a r.others.length c ∧ RowT w 9 a (r.others.map encS)
theorem RepV.rows {w : World} {n0 : Nat} {r : Rp} {sv nv lv ov : Value} (h : RepV w n0 r sv nv lv ov) : RepR w r sv nv lv ov := by
  obtain ⟨sa, sc, rfl, -, -, hs, -⟩ := own_rowT h.so
  obtain ⟨na, nc, rfl, -, -, hn, -⟩ := own_rowT h.no
  obtain ⟨la, lc, rfl, -, -, hl, -⟩ := own_rowT h.lo
  obtain ⟨oa, oc, rfl, -, -, ho, -⟩ := own_rowT h.oo
  exact ⟨⟨_, _, rfl, hs⟩, ⟨_, _, rfl, hn⟩, ⟨_, _, rfl, hl⟩, ⟨_, _, rfl, ho⟩⟩
theorem RepR.below {w w' : World} {r : Rp} {sv nv lv ov : Value} (h : RepR w r sv nv lv ov) (hb : Below w.heap.size w w') : RepR w' r sv nv lv ov := by
  obtain ⟨⟨sa, sc, e1, hs⟩, ⟨na, nc, e2, hn⟩, ⟨la, lc, e3, hl⟩, ⟨oa, oc, e4, ho⟩⟩ := h
  exact ⟨⟨sa, sc, e1, hs.below hb⟩, ⟨na, nc, e2, hn.below hb⟩, ⟨la, lc, e3, hl.below hb⟩, ⟨oa, oc, e4, ho.below hb⟩⟩
set_option maxRecDepth 20000 in
set_option maxHeartbeats 4000000 in
/-- Two reports that are alike are the same: the laws want no more. -/
theorem same_cps (w : World) (r : Rp) (sv nv lv ov sv2 nv2 lv2 ov2 : Value) (h1 : RepR w r sv nv lv ov) (h2 : RepR w r sv2 nv2 lv2 ov2) (hs : r.segs.length ≤ 1000000) (hn : r.needed.length ≤ 1000000) (hl : r.left.length ≤ 1000000) (ho : r.others.length ≤ 1000000) (Q : Ending → World → Prop)
    (hQ : ∀ w', Below w.heap.size w w' → Q (.returned (.bool true)) w') :
    Calls Tryz.prog 25 #[.agg (RPc r sv nv lv ov), .agg (RPc r sv2 nv2 lv2 ov2)] w Q := by
  unfold RPc
  obtain ⟨⟨sa, sc, rfl, s1⟩, ⟨na, nc, rfl, n1⟩, ⟨la, lc, rfl, l1⟩, ⟨oa, oc, rfl, o1⟩⟩ := h1
  obtain ⟨⟨sa2, sc2, rfl, s2⟩, ⟨na2, nc2, rfl, n2⟩, ⟨la2, lc2, rfl, l2⟩, ⟨oa2, oc2, rfl, o2⟩⟩ := h2
  have HQ := Lib.hid hQ
  have HR := Lib.hid (And.intro s1 (And.intro n1 (And.intro l1 o1)))
  have HR2 := Lib.hid (And.intro s2 (And.intro n2 (And.intro l2 o2)))
  have HN := Lib.hid (And.intro hs (And.intro hn (And.intro hl ho)))
  clear hQ s1 n1 l1 o1 s2 n2 l2 o2 hs hn hl ho
  have b1 := blk_new1 w (.cells #[.int .i64 r.err, .int .i64 r.base, .int .i64 r.last, .int .i64 r.rep, .int .i64 r.torn, .bool r.has, .int .i64 r.man.number, .int .i64 r.man.file, .int .i64 r.man.mark, .int .i64 r.man.prev, .int .i64 r.man.pmark, .slice sa r.segs.length sc, .slice na r.needed.length nc, .slice la r.left.length lc, .slice oa r.others.length oc] 50) (.cells #[.int .i64 r.err, .int .i64 r.base, .int .i64 r.last, .int .i64 r.rep, .int .i64 r.torn, .bool r.has, .int .i64 r.man.number, .int .i64 r.man.file, .int .i64 r.man.mark, .int .i64 r.man.prev, .int .i64 r.man.pmark, .slice sa2 r.segs.length sc2, .slice na2 r.needed.length nc2, .slice la2 r.left.length lc2, .slice oa2 r.others.length oc2] 50)
  have b0 := blk_alloc (blk_new w (.cells #[.int .i64 r.err, .int .i64 r.base, .int .i64 r.last, .int .i64 r.rep, .int .i64 r.torn, .bool r.has, .int .i64 r.man.number, .int .i64 r.man.file, .int .i64 r.man.mark, .int .i64 r.man.prev, .int .i64 r.man.pmark, .slice sa r.segs.length sc, .slice na r.needed.length nc, .slice la r.left.length lc, .slice oa r.others.length oc] 50)) (.cells #[.int .i64 r.err, .int .i64 r.base, .int .i64 r.last, .int .i64 r.rep, .int .i64 r.torn, .bool r.has, .int .i64 r.man.number, .int .i64 r.man.file, .int .i64 r.man.mark, .int .i64 r.man.prev, .int .i64 r.man.pmark, .slice sa2 r.segs.length sc2, .slice na2 r.needed.length nc2, .slice la2 r.left.length lc2, .slice oa2 r.others.length oc2] 50)
  have hb : Below w.heap.size w ((w.alloc (.cells #[.int .i64 r.err, .int .i64 r.base, .int .i64 r.last, .int .i64 r.rep, .int .i64 r.torn, .bool r.has, .int .i64 r.man.number, .int .i64 r.man.file, .int .i64 r.man.mark, .int .i64 r.man.prev, .int .i64 r.man.pmark, .slice sa r.segs.length sc, .slice na r.needed.length nc, .slice la r.left.length lc, .slice oa r.others.length oc] 50)).alloc (.cells #[.int .i64 r.err, .int .i64 r.base, .int .i64 r.last, .int .i64 r.rep, .int .i64 r.torn, .bool r.has, .int .i64 r.man.number, .int .i64 r.man.file, .int .i64 r.man.mark, .int .i64 r.man.prev, .int .i64 r.man.pmark, .slice sa2 r.segs.length sc2, .slice na2 r.needed.length nc2, .slice la2 r.left.length lc2, .slice oa2 r.others.length oc2] 50)) := ((Below.refl _ w).alloc (Nat.le_refl _) _).alloc (by simp) _
  go_enter Tryz.func25, Tryz.ntmps25
  (repeat' ((fail_if_success (with_reducible (show Code.wp _ (Code.region 1 _ _) _ _ _))); (fail_if_success at_builtin); first | go_values | go_skip | go_guarded | go_step | go_upon | go_back))
  generalize ((w.alloc (.cells #[.int .i64 r.err, .int .i64 r.base, .int .i64 r.last, .int .i64 r.rep, .int .i64 r.torn, .bool r.has, .int .i64 r.man.number, .int .i64 r.man.file, .int .i64 r.man.mark, .int .i64 r.man.prev, .int .i64 r.man.pmark, .slice sa r.segs.length sc, .slice na r.needed.length nc, .slice la r.left.length lc, .slice oa r.others.length oc] 50)).alloc (.cells #[.int .i64 r.err, .int .i64 r.base, .int .i64 r.last, .int .i64 r.rep, .int .i64 r.torn, .bool r.has, .int .i64 r.man.number, .int .i64 r.man.file, .int .i64 r.man.mark, .int .i64 r.man.prev, .int .i64 r.man.pmark, .slice sa2 r.segs.length sc2, .slice na2 r.needed.length nc2, .slice la2 r.left.length lc2, .slice oa2 r.others.length oc2] 50)) = w2 at b0 b1 hb ⊢
  have p := fun i => blk_cell b0 i
  have q := fun i => blk_cell b1 i
  have p0 := p 0; have p1 := p 1; have p2 := p 2; have p3 := p 3; have p4 := p 4; have p5 := p 5; have p6 := p 6; have p7 := p 7; have p8 := p 8; have p9 := p 9; have p10 := p 10; have p11 := p 11; have p12 := p 12; have p13 := p 13; have p14 := p 14
  have q0 := q 0; have q1 := q 1; have q2 := q 2; have q3 := q 3; have q4 := q 4; have q5 := q 5; have q6 := q 6; have q7 := q 7; have q8 := q 8; have q9 := q 9; have q10 := q 10; have q11 := q 11; have q12 := q 12; have q13 := q 13; have q14 := q 14
  simp only [List.getElem?_toArray, List.getElem?_cons_zero, List.getElem?_cons_succ] at p0 p1 p2 p3 p4 p5 p6 p7 p8 p9 p10 p11 p12 p13 p14 q0 q1 q2 q3 q4 q5 q6 q7 q8 q9 q10 q11 q12 q13 q14
  clear p q
  (repeat' ((fail_if_success at_builtin); first | go_values | go_skip | go_guarded | go_step | go_upon | go_back))
  refine segments_cps w2 sa sa2 sc sc2 r.segs r.segs (HR.out.1.below hb) (HR2.out.1.below hb) HN.out.1 HN.out.1 _ ?_
  intro w3 hx
  replace hb := hb.trans (hx.mono hb.size)
  replace b0 := blk_below hx b0 (blk_lt b0)
  replace b1 := blk_below hx b1 (blk_lt b1)
  rw [decide_eq_true (rfl : r.segs = r.segs)]
  dsimp only
  clear hx p0 p1 p2 p3 p4 p5 p6 p7 p8 p9 p10 p11 p12 p13 p14 q0 q1 q2 q3 q4 q5 q6 q7 q8 q9 q10 q11 q12 q13 q14
  have p12 := blk_cell b0 12; have p13 := blk_cell b0 13; have p14 := blk_cell b0 14
  have q12 := blk_cell b1 12; have q13 := blk_cell b1 13; have q14 := blk_cell b1 14
  simp only [List.getElem?_toArray, List.getElem?_cons_zero, List.getElem?_cons_succ] at p12 p13 p14 q12 q13 q14
  (repeat' ((fail_if_success at_builtin); first | go_values | go_skip | go_guarded | go_step | go_upon | go_back))
  refine texts_cps w3 na na2 nc nc2 r.needed r.needed (HR.out.2.1.below hb) (HR2.out.2.1.below hb) HN.out.2.1 HN.out.2.1 _ ?_
  intro w4 hx
  replace hb := hb.trans (hx.mono hb.size)
  replace b0 := blk_below hx b0 (blk_lt b0)
  replace b1 := blk_below hx b1 (blk_lt b1)
  rw [decide_eq_true (rfl : r.needed = r.needed)]
  dsimp only
  clear hx p12 p13 p14 q12 q13 q14
  have p12 := blk_cell b0 12; have p13 := blk_cell b0 13; have p14 := blk_cell b0 14
  have q12 := blk_cell b1 12; have q13 := blk_cell b1 13; have q14 := blk_cell b1 14
  simp only [List.getElem?_toArray, List.getElem?_cons_zero, List.getElem?_cons_succ] at p12 p13 p14 q12 q13 q14
  (repeat' ((fail_if_success at_builtin); first | go_values | go_skip | go_guarded | go_step | go_upon | go_back))
  refine texts_cps w4 la la2 lc lc2 r.left r.left (HR.out.2.2.1.below hb) (HR2.out.2.2.1.below hb) HN.out.2.2.1 HN.out.2.2.1 _ ?_
  intro w5 hx
  replace hb := hb.trans (hx.mono hb.size)
  replace b0 := blk_below hx b0 (blk_lt b0)
  replace b1 := blk_below hx b1 (blk_lt b1)
  rw [decide_eq_true (rfl : r.left = r.left)]
  dsimp only
  clear hx p12 p13 p14 q12 q13 q14
  have p12 := blk_cell b0 12; have p13 := blk_cell b0 13; have p14 := blk_cell b0 14
  have q12 := blk_cell b1 12; have q13 := blk_cell b1 13; have q14 := blk_cell b1 14
  simp only [List.getElem?_toArray, List.getElem?_cons_zero, List.getElem?_cons_succ] at p12 p13 p14 q12 q13 q14
  (repeat' ((fail_if_success at_builtin); first | go_values | go_skip | go_guarded | go_step | go_upon | go_back))
  refine texts_cps w5 oa oa2 oc oc2 r.others r.others (HR.out.2.2.2.below hb) (HR2.out.2.2.2.below hb) HN.out.2.2.2 HN.out.2.2.2 _ ?_
  intro w6 hx
  replace hb := hb.trans (hx.mono hb.size)
  replace b0 := blk_below hx b0 (blk_lt b0)
  replace b1 := blk_below hx b1 (blk_lt b1)
  rw [decide_eq_true (rfl : r.others = r.others)]
  dsimp only
  clear hx p12 p13 p14 q12 q13 q14
  have p12 := blk_cell b0 12; have p13 := blk_cell b0 13; have p14 := blk_cell b0 14
  have q12 := blk_cell b1 12; have q13 := blk_cell b1 13; have q14 := blk_cell b1 14
  simp only [List.getElem?_toArray, List.getElem?_cons_zero, List.getElem?_cons_succ] at p12 p13 p14 q12 q13 q14
  (repeat' ((fail_if_success at_builtin); first | go_values | go_skip | go_guarded | go_step | go_upon | go_back))
  exact HQ.out _ hb
end Go.Proofs.YtbppnihcbcdglaaGreat
namespace Go.Proofs.YtbppnihcbcdglaaGreat
open Go.RowKit
set_option linter.unusedVariables false
set_option linter.unusedSimpArgs false

def knownMs : List FBm := [⟨([120], []), none, 0⟩, ⟨(manW, []), none, 0⟩, ⟨(log2, []), none, 0⟩]
set_option maxRecDepth 20000 in
set_option maxHeartbeats 4000000 in
theorem known_cps (w : World) (Q : Ending → World → Prop) (hQ : ∀ w', Below w.heap.size w w' → Q (.returned (.bool true)) w') :
    Calls Tryz.prog 28 #[] w Q := by
  have HQ := Lib.hid hQ
  clear hQ
  go_enter Tryz.func28, Tryz.ntmps28
  (repeat' ((fail_if_success at_builtin); first | go_values | go_skip | go_guarded | go_step | go_upon | go_back))
  have n0 := blk_new w (.cells #[.string ⟨#[120]⟩, .slice none 0 0, .string ⟨#[109, 97, 110, 105, 102, 101, 115, 116, 46, 110, 101, 119]⟩, .slice none 0 0, .string ⟨#[108, 111, 103, 45, 48, 48, 48, 48, 48, 48, 48, 48, 48, 48, 48, 50]⟩, .slice none 0 0] 55)
  have hb : Below w.heap.size w (w.alloc (.cells #[.string ⟨#[120]⟩, .slice none 0 0, .string ⟨#[109, 97, 110, 105, 102, 101, 115, 116, 46, 110, 101, 119]⟩, .slice none 0 0, .string ⟨#[108, 111, 103, 45, 48, 48, 48, 48, 48, 48, 48, 48, 48, 48, 48, 50]⟩, .slice none 0 0] 55)) := (Below.refl _ w).alloc (Nat.le_refl _) _
  generalize w.alloc (.cells #[.string ⟨#[120]⟩, .slice none 0 0, .string ⟨#[109, 97, 110, 105, 102, 101, 115, 116, 46, 110, 101, 119]⟩, .slice none 0 0, .string ⟨#[108, 111, 103, 45, 48, 48, 48, 48, 48, 48, 48, 48, 48, 48, 48, 50]⟩, .slice none 0 0] 55) = w1 at n0 hb ⊢
  have hBS : ∀ W : World, BS W none 0 [] := fun W => ⟨Nat.le_refl _, fun _ => rfl, Or.inl rfl⟩
  have hF : Files w1 (some ⟨w.heap.size, 0, none⟩) 3 knownMs := ⟨RowT.c (t := 55) (Or.inr ⟨_, _, _, _, rfl, n0, fun i v hi => by
      rw [Nat.zero_add]; simpa [knownMs, FBm.row, encS, manW, log2] using hi⟩), Nat.le_refl _, (fun h => by cases h), fun m hm => by
      simp only [knownMs, List.mem_cons, List.not_mem_nil, or_false] at hm
      rcases hm with rfl | rfl | rfl <;> exact hBS _⟩
  refine alook_cps w1 (some ⟨w.heap.size, 0, none⟩) 3 knownMs hF (by decide) (by decide) (by decide) _ ?_
  intro sv nv lv ov w2 hV hb2
  have hk := look_known
  rw [show lookF knownFs = lookF (knownMs.map FBm.f) from rfl] at hk
  obtain ⟨r, hr⟩ : ∃ r, lookF (knownMs.map FBm.f) = r := ⟨_, rfl⟩
  rw [hr] at hV hk ⊢
  obtain ⟨e0, e5, en, el, eo⟩ := hk
  obtain ⟨⟨sa, sc, rfl, -⟩, ⟨na, nc, rfl, -⟩, ⟨la, lc, rfl, l1⟩, ⟨oa, oc, rfl, o1⟩⟩ := hV.rows
  unfold RPc
  rw [e0, e5, en, el, eo] at *
  have HB := Lib.hid (hb.trans (hb2.mono hb.size))
  clear hb hb2 hBS hF n0 hV
  dsimp only [List.length_nil, List.length_cons]
  have b0 := blk_new w2 (.cells #[.int .i64 20, .int .i64 r.base, .int .i64 r.last, .int .i64 r.rep, .int .i64 r.torn, .bool false, .int .i64 r.man.number, .int .i64 r.man.file, .int .i64 r.man.mark, .int .i64 r.man.prev, .int .i64 r.man.pmark, .slice sa r.segs.length sc, .slice na 0 nc, .slice la 2 lc, .slice oa 1 oc] 50)
  (repeat' ((fail_if_success (with_reducible (show Code.wp _ (Code.region 2 _ _) _ _ _))); (fail_if_success at_builtin); first | go_values | go_skip | go_guarded | go_step | go_upon | go_back))
  have hb3 : Below w2.heap.size w2 (w2.alloc (.cells #[.int .i64 20, .int .i64 r.base, .int .i64 r.last, .int .i64 r.rep, .int .i64 r.torn, .bool false, .int .i64 r.man.number, .int .i64 r.man.file, .int .i64 r.man.mark, .int .i64 r.man.prev, .int .i64 r.man.pmark, .slice sa r.segs.length sc, .slice na 0 nc, .slice la 2 lc, .slice oa 1 oc] 50)) := (Below.refl _ _).alloc (Nat.le_refl _) _
  generalize (w2.alloc (.cells #[.int .i64 20, .int .i64 r.base, .int .i64 r.last, .int .i64 r.rep, .int .i64 r.torn, .bool false, .int .i64 r.man.number, .int .i64 r.man.file, .int .i64 r.man.mark, .int .i64 r.man.prev, .int .i64 r.man.pmark, .slice sa r.segs.length sc, .slice na 0 nc, .slice la 2 lc, .slice oa 1 oc] 50)) = w3 at b0 hb3 ⊢
  have HB3 := Lib.hid (HB.out.trans (hb3.mono (by have := HB.out.size; omega)))
  replace l1 := l1.below hb3
  replace o1 := o1.below hb3
  have q0 := blk_cell b0 0; have q5 := blk_cell b0 5; have q12 := blk_cell b0 12; have q13 := blk_cell b0 13; have q14 := blk_cell b0 14
  simp only [List.getElem?_toArray, List.getElem?_cons_zero, List.getElem?_cons_succ] at q0 q5 q12 q13 q14
  clear hb3
  (repeat' ((fail_if_success at_builtin); first | go_values | go_skip | go_guarded | go_step | go_upon | go_back))
  have n4 := blk_new w3 (.cells #[.string ⟨#[108, 111, 103, 45, 48, 48, 48, 48, 48, 48, 48, 48, 48, 48, 48, 50]⟩, .string ⟨#[109, 97, 110, 105, 102, 101, 115, 116, 46, 110, 101, 119]⟩] 9)
  have hb4 : Below w3.heap.size w3 (w3.alloc (.cells #[.string ⟨#[108, 111, 103, 45, 48, 48, 48, 48, 48, 48, 48, 48, 48, 48, 48, 50]⟩, .string ⟨#[109, 97, 110, 105, 102, 101, 115, 116, 46, 110, 101, 119]⟩] 9)) := (Below.refl _ _).alloc (Nat.le_refl _) _
  generalize w3.alloc (.cells #[.string ⟨#[108, 111, 103, 45, 48, 48, 48, 48, 48, 48, 48, 48, 48, 48, 48, 50]⟩, .string ⟨#[109, 97, 110, 105, 102, 101, 115, 116, 46, 110, 101, 119]⟩] 9) = w4 at n4 hb4 ⊢
  have HB4 := Lib.hid (HB3.out.trans (hb4.mono HB3.out.size))
  have b4 := blk_below hb4 b0 (blk_lt b0)
  refine texts_cps w4 la (some ⟨w3.heap.size, 0, none⟩) lc 2 [log2, manW] [log2, manW] (l1.below hb4) (Or.inr ⟨_, _, _, _, rfl, n4, fun i v hi => by
      rw [Nat.zero_add]; simpa [encS, manW, log2] using hi⟩) (by decide) (by decide) _ ?_
  intro w5 hb5
  replace o1 := (o1.below hb4).below hb5
  have HB5 := Lib.hid (HB4.out.trans (hb5.mono HB4.out.size))
  have b5 := blk_below hb5 b4 (blk_lt b4)
  rw [decide_eq_true (rfl : [log2, manW] = [log2, manW])]
  dsimp only
  clear hb4 hb5 n4 b4 b0 q0 q5 q12 q13 q14
  have q14 := blk_cell b5 14
  simp only [List.getElem?_toArray, List.getElem?_cons_zero, List.getElem?_cons_succ] at q14
  (repeat' ((fail_if_success at_builtin); first | go_values | go_skip | go_guarded | go_step | go_upon | go_back))
  have n6 := blk_new w5 (.cells #[.string ⟨#[120]⟩] 9)
  have hb6 : Below w5.heap.size w5 (w5.alloc (.cells #[.string ⟨#[120]⟩] 9)) := (Below.refl _ _).alloc (Nat.le_refl _) _
  generalize w5.alloc (.cells #[.string ⟨#[120]⟩] 9) = w6 at n6 hb6 ⊢
  have HB6 := Lib.hid (HB5.out.trans (hb6.mono HB5.out.size))
  refine texts_cps w6 oa (some ⟨w5.heap.size, 0, none⟩) oc 1 [[120]] [[120]] (o1.below hb6) (Or.inr ⟨_, _, _, _, rfl, n6, fun i v hi => by
      rw [Nat.zero_add]; simpa [encS] using hi⟩) (by decide) (by decide) _ ?_
  intro w7 hb7
  rw [decide_eq_true (rfl : ([[120]] : List Bs) = [[120]])]
  dsimp only
  (repeat' ((fail_if_success at_builtin); first | go_values | go_skip | go_guarded | go_step | go_upon | go_back))
  exact HQ.out _ (HB6.out.trans (hb7.mono HB6.out.size))
end Go.Proofs.YtbppnihcbcdglaaGreat
