/- manifest.Decode's closures, one by one. No condition. -/
import Derived.Laws.EntriesVeiled
import Derived.Test.YtbppnihcbcdglaaGreatZ1
import Derived.Test.YtbppnihcbcdglaaGreatZ7
import Derived.Test.YtbppnihcbcdglaaGreatZ19
import Derived.Test.YtbppnihcbcdglaaGreatZ25
import Derived.Test.YtbppnihcbcdglaaGreatZ26
/- manifest.Decode's closures. No condition. -/
namespace Go.Proofs.YtbppnihcbcdglaaGreat
open Go.RowKit
set_option linter.unusedVariables false
set_option linter.unusedSimpArgs false

set_option maxRecDepth 20000 in
set_option maxHeartbeats 2000000 in
theorem form_any (w : World) (b : Bool) : Calls Tryz.prog 209 #[.bool b] w fun e w' => e = .returned (.int .i64 (if b then 0 else 3)) ∧ w = w' := by
  cases b with
  | true =>
    go_enter Tryz.func209, Tryz.ntmps209
    (repeat' ((fail_if_success at_builtin); first | go_values | go_skip | go_guarded | go_step | go_upon | go_back))
    refine bodyPost_ret (results_tmp rfl _ _ _) rfl ⟨rfl, rfl⟩
  | false =>
    go_enter Tryz.func209, Tryz.ntmps209
    (repeat' ((fail_if_success at_builtin); first | go_values | go_skip | go_guarded | go_step | go_upon | go_back))
    refine bodyPost_ret (results_tmp rfl _ _ _) rfl ⟨rfl, rfl⟩

set_option maxRecDepth 20000 in
set_option maxHeartbeats 4000000 in
theorem numbers_any (w : World) (g : Nat) : Calls Tryz.prog 214 #[.pointer (some ⟨g, 0, none⟩)] w fun e w' => ∃ k, w.heap.size ≤ k ∧ e = .returned (.slice (some ⟨k, 0, none⟩) 5 5) ∧ w'.heap[k]? = some (.cells #[.pointer (some ⟨g, 0, none⟩), .pointer (some ⟨g, 1, none⟩), .pointer (some ⟨g, 2, none⟩), .pointer (some ⟨g, 3, none⟩), .pointer (some ⟨g, 4, none⟩)] 272 (0, 0)) ∧ Below w.heap.size w w' := by
  go_enter Tryz.func214, Tryz.ntmps214
  (repeat' ((fail_if_success at_builtin); first | go_values | go_skip | go_guarded | go_step | go_upon | go_back))
  go_region
  (repeat' ((fail_if_success at_builtin); first | go_values | go_skip | go_guarded | go_step | go_upon | go_back))
  refine bodyPost_ret (results_tmp rfl _ _ _) rfl ?_
  exact ⟨_, Nat.le_refl _, rfl, blk_new _ _, ((Below.refl _ w).alloc (Nat.le_refl _) _).drew⟩

/-- What manifest.Decode's closures look at. -/
structure MX (w : World) (n0 x b g f k h z : Nat) (zc : Array Value) (r : RS) (m : Mf) (s : Bs) : Prop where
  nb : n0 ≤ b
  ng : n0 ≤ g
  nh : n0 ≤ h
  hx : w.heap[x]? = some (.cells #[.pointer (some ⟨b, 0, none⟩)] 99 (0, 0))
  hm : w.heap[g]? = some (.cells m.cells 46 (0, 0))
  hf : w.heap[f]? = some (.cells #[.func (.func 209) #[] #[]] 307 (0, 0))
  hk : w.heap[k]? = some (.cells #[.func (.func 210) #[] #[.pointer (some ⟨x, 0, none⟩)]] 103 (0, 0))
  hh : w.heap[h]? = some (.cells #[.string ⟨s.toArray⟩] 9 (0, 0))
  hz : w.heap[z]? = some (.cells zc 103 (0, 0))
  rd : Rd w b r
theorem MX.pure {w w' : World} {n0 x b g f k h z : Nat} {zc : Array Value} {r : RS} {m : Mf} {s : Bs} (H : MX w n0 x b g f k h z zc r m s) (hb : Below w.heap.size w w') : MX w' n0 x b g f k h z zc r m s :=
  ⟨H.nb, H.ng, H.nh, blk_below hb H.hx (blk_lt H.hx), blk_below hb H.hm (blk_lt H.hm), blk_below hb H.hf (blk_lt H.hf), blk_below hb H.hk (blk_lt H.hk), blk_below hb H.hh (blk_lt H.hh), blk_below hb H.hz (blk_lt H.hz), Rd.pure H.rd hb⟩
theorem MX.step {w w' : World} {n0 x b g f k h z : Nat} {zc : Array Value} {r r' : RS} {m : Mf} {s : Bs} (H : MX w n0 x b g f k h z zc r m s) (hr : Rd w' b r') (hF : Fr w w' (fun k => k = b)) : MX w' n0 x b g f k h z zc r' m s ∧ Below n0 w w' := by
  have key : ∀ (j : Nat) (c : Array Value) (t : TypeId), w.heap[j]? = some (.cells c t (0, 0)) → t ≠ 207 → w'.heap[j]? = some (.cells c t (0, 0)) := fun j c t hj ht => (hF.block j (blk_lt hj) (fun e => Rd.ne H.rd hj ht e)).trans hj
  refine ⟨⟨H.nb, H.ng, H.nh, key _ _ _ H.hx (by decide), key _ _ _ H.hm (by decide), key _ _ _ H.hf (by decide), key _ _ _ H.hk (by decide), key _ _ _ H.hh (by decide), key _ _ _ H.hz (by decide), hr⟩, ⟨hF.os, hF.tape, hF.output, hF.size, fun j hj => ?_⟩⟩
  by_cases e : j < w.heap.size
  · exact hF.block j e (by have := H.nb; omega)
  · have := Rd.lt H.rd; have := H.nb; omega
/-- The head is stored. -/
theorem MX.head {w : World} {n0 x b g f k h z : Nat} {zc : Array Value} {r : RS} {m : Mf} {s : Bs} (H : MX w n0 x b g f k h z zc r m s) (s' : Bs) : MX (w.setCell ⟨h, 0, none⟩ (.string ⟨s'.toArray⟩)) n0 x b g f k h z zc r m s' ∧ Below n0 w (w.setCell ⟨h, 0, none⟩ (.string ⟨s'.toArray⟩)) := by
  have ne : ∀ (j : Nat) (c : Array Value) (t : TypeId), w.heap[j]? = some (.cells c t (0, 0)) → t ≠ 9 → j ≠ h := fun j c t hj ht => blk_ne hj H.hh ht
  refine ⟨⟨H.nb, H.ng, H.nh, blk_set_other H.hx (ne _ _ _ H.hx (by decide)) _ _, blk_set_other H.hm (ne _ _ _ H.hm (by decide)) _ _, blk_set_other H.hf (ne _ _ _ H.hf (by decide)) _ _, blk_set_other H.hk (ne _ _ _ H.hk (by decide)) _ _, blk_set H.hh 0 _, blk_set_other H.hz (ne _ _ _ H.hz (by decide)) _ _, Rd.setO H.rd H.hh ?_ (Rd.ne H.rd H.hh (by decide)).symm 0 _⟩, (Below.refl _ _).setCell (p := ⟨h, 0, none⟩) H.nh _⟩
  intro v hv u
  obtain rfl : v = _ := by simpa using hv
  simp [B]
def Mf.set (m : Mf) : Nat → Int → Mf
  | 0, v => { m with number := v }
  | 1, v => { m with file := v }
  | 2, v => { m with mark := v }
  | 3, v => { m with prev := v }
  | _, v => { m with pmark := v }
/-- A number is stored. -/
theorem MX.num {w : World} {n0 x b g f k h z : Nat} {zc : Array Value} {r : RS} {m : Mf} {s : Bs} (H : MX w n0 x b g f k h z zc r m s) (i : Nat) (hi : i < 5) (v : Int) : MX (w.setCell ⟨g, i, none⟩ (.int .i64 v)) n0 x b g f k h z zc r (m.set i v) s ∧ Below n0 w (w.setCell ⟨g, i, none⟩ (.int .i64 v)) := by
  have ne : ∀ (j : Nat) (c : Array Value) (t : TypeId), w.heap[j]? = some (.cells c t (0, 0)) → t ≠ 46 → j ≠ g := fun j c t hj ht => blk_ne hj H.hm ht
  refine ⟨⟨H.nb, H.ng, H.nh, blk_set_other H.hx (ne _ _ _ H.hx (by decide)) _ _, (blk_set H.hm i _).trans ?_, blk_set_other H.hf (ne _ _ _ H.hf (by decide)) _ _, blk_set_other H.hk (ne _ _ _ H.hk (by decide)) _ _, blk_set_other H.hh (ne _ _ _ H.hh (by decide)) _ _, blk_set_other H.hz (ne _ _ _ H.hz (by decide)) _ _, Rd.setO H.rd H.hm ?_ (Rd.ne H.rd H.hm (by decide)).symm i _⟩, (Below.refl _ _).setCell (p := ⟨g, i, none⟩) H.ng _⟩
  · match i, hi with
    | 0, _ => rfl
    | 1, _ => rfl
    | 2, _ => rfl
    | 3, _ => rfl
    | 4, _ => rfl
  · intro v hv u
    simp only [Mf.cells, List.mem_cons, List.not_mem_nil, or_false] at hv
    rcases hv with rfl | rfl | rfl | rfl | rfl <;> simp [B]
theorem err_any (w : World) (b : Nat) (r : RS) (h : Rd w b r) :
    Calls Tryz.prog 120 #[.pointer (some ⟨b, 0, none⟩)] w fun e' w' => (∃ v, e' = .returned (.tuple #[.int .i64 r.e, v])) ∧ Below w.heap.size w w' := by
  by_cases h0 : r.e = 0
  · refine (err_no w b r h h0).mono ?_
    rintro e w' ⟨rfl, n, rfl⟩
    exact ⟨⟨_, by rw [h0]⟩, bdrewN (Below.refl _ _) n⟩
  · refine (err_yes w b r h h0).mono ?_
    rintro e w' ⟨rfl, n, rfl⟩
    exact ⟨⟨_, rfl⟩, bdrewN (Below.refl _ _) n⟩
set_option maxRecDepth 20000 in
set_option maxHeartbeats 2000000 in
theorem taken_any (w : World) (x b : Nat) (r : RS) (hx : w.heap[x]? = some (.cells #[.pointer (some ⟨b, 0, none⟩)] 99 (0, 0))) (hr : Rd w b r) :
    Calls Tryz.prog 210 #[.pointer (some ⟨x, 0, none⟩)] w fun e' w' => e' = .returned (.int .i64 r.e) ∧ Below w.heap.size w w' := by
  have q := blk1 hx
  go_enter Tryz.func210, Tryz.ntmps210
  (repeat' ((fail_if_success at_builtin); first | go_values | go_skip | go_guarded | go_step | go_upon | go_back))
  (refine (err_any w b r hr).mono ?_; rintro e1 w1 ⟨⟨v, rfl⟩, hb⟩; dsimp only)
  (repeat' ((fail_if_success at_builtin); first | go_values | go_skip | go_guarded | go_step | go_upon | go_back))
  refine bodyPost_ret (results_tmp rfl _ _ _) rfl ⟨rfl, hb⟩
end Go.Proofs.YtbppnihcbcdglaaGreat
namespace Go.Proofs.YtbppnihcbcdglaaGreat
open Go.RowKit
set_option linter.unusedVariables false
set_option linter.unusedSimpArgs false

set_option maxRecDepth 20000 in
set_option maxHeartbeats 2000000 in
theorem head_any (w : World) {n0 x b g f k h z : Nat} {zc : Array Value} {r : RS} {m : Mf} {s : Bs} (H : MX w n0 x b g f k h z zc r m s) :
    Calls Tryz.prog 211 #[.pointer (some ⟨x, 0, none⟩), .pointer (some ⟨h, 0, none⟩), .pointer (some ⟨k, 0, none⟩)] w fun e' w' => e' = .returned (.int .i64 (r.text 8).2.e) ∧ MX w' n0 x b g f k h z zc (r.text 8).2 m (r.text 8).1 ∧ Below n0 w w' := by
  have q := blk1 H.hx
  have HH := Lib.hid H
  clear H
  go_enter Tryz.func211, Tryz.ntmps211
  (repeat' ((fail_if_success at_builtin); first | go_values | go_skip | go_guarded | go_step | go_upon | go_back))
  (refine (text_any w b r HH.out.rd 8 (by omega)).mono ?_; rintro e1 w1 ⟨rfl, hR, hF⟩; dsimp only)
  obtain ⟨hM1, hb1⟩ := HH.out.step hR hF
  obtain ⟨hM2, hb2⟩ := hM1.head (r.text 8).1
  have q1 := blk1 hM1.hh
  have q2 := blk1 hM2.hk
  have HB2 := Lib.hid (hb1.trans hb2)
  have HM2 := Lib.hid hM2
  clear hM1 hb1 hM2 hb2 q hR hF
  (repeat' ((fail_if_success at_builtin); first | go_values | go_skip | go_guarded | go_step | go_upon | go_back))
  (refine (taken_any _ x b _ HM2.out.hx HM2.out.rd).mono ?_; rintro e1 w3 ⟨rfl, hb3⟩; dsimp only)
  have HM3 := Lib.hid (HM2.out.pure hb3)
  have HB3 := Lib.hid (HB2.out.trans (hb3.mono (by have := HM2.out.nb; have := Rd.lt HM2.out.rd; omega)))
  clear hb3 q1 q2
  (repeat' ((fail_if_success at_builtin); first | go_values | go_skip | go_guarded | go_step | go_upon | go_back))
  refine bodyPost_ret (results_tmp rfl _ _ _) rfl ⟨rfl, HM3.out, HB3.out⟩

set_option maxRecDepth 20000 in
set_option maxHeartbeats 2000000 in
theorem same_any (w : World) {n0 x b g f k h z : Nat} {zc : Array Value} {r : RS} {m : Mf} {s : Bs} (H : MX w n0 x b g f k h z zc r m s) :
    Calls Tryz.prog 212 #[.pointer (some ⟨f, 0, none⟩), .pointer (some ⟨h, 0, none⟩)] w fun e' w' => e' = .returned (.int .i64 (if s = manN then 0 else 3)) ∧ w = w' := by
  have q1 := blk1 H.hf
  have q2 := blk1 H.hh
  clear H
  go_enter Tryz.func212, Tryz.ntmps212
  (repeat' ((fail_if_success at_builtin); first | go_values | go_skip | go_guarded | go_step | go_upon | go_back))
  (refine (form_any w (s == [109, 97, 110, 105, 102, 101, 115, 116])).mono ?_; rintro e1 w1 ⟨rfl, rfl⟩; dsimp only)
  (repeat' ((fail_if_success at_builtin); first | go_values | go_skip | go_guarded | go_step | go_upon | go_back))
  refine bodyPost_ret (results_tmp rfl _ _ _) rfl ?_
  refine ⟨congrArg (fun v => Ending.returned (.int .i64 v)) ?_, rfl⟩
  by_cases h : s = manN
  · rw [if_pos h, h]; rfl
  · rw [if_neg h, if_neg (by simpa [manN] using h)]

set_option maxRecDepth 20000 in
set_option maxHeartbeats 4000000 in
theorem nums_any (w : World) {n0 x b g f k h z : Nat} {zc : Array Value} {r : RS} {m : Mf} {s : Bs} (H : MX w n0 x b g f k h z zc r m s) :
    Calls Tryz.prog 213 #[.pointer (some ⟨g, 0, none⟩), .pointer (some ⟨x, 0, none⟩), .pointer (some ⟨k, 0, none⟩)] w fun e' w' =>
      e' = .returned (.int .i64 r.number.2.number.2.number.2.number.2.number.2.e) ∧ MX w' n0 x b g f k h z zc r.number.2.number.2.number.2.number.2.number.2 ⟨r.number.1, r.number.2.number.1, r.number.2.number.2.number.1, r.number.2.number.2.number.2.number.1, r.number.2.number.2.number.2.number.2.number.1⟩ s ∧ Below n0 w w' := by
  have HH := Lib.hid H
  clear H
  go_enter Tryz.func213, Tryz.ntmps213
  (repeat' ((fail_if_success at_builtin); first | go_values | go_skip | go_guarded | go_step | go_upon | go_back))
  (refine (numbers_any w g).mono ?_; rintro e1 w1 ⟨sk, hsk, rfl, hS, hb1⟩; dsimp only)
  have HM := Lib.hid (HH.out.pure hb1)
  have HH0 := HH
  clear HH
  (repeat' ((fail_if_success at_builtin); first | go_values | go_skip | go_guarded | go_step | go_upon | go_back))
  have HB := Lib.hid (hb1.mono (Nat.le_of_lt (Nat.lt_of_le_of_lt HH0.out.nb (Rd.lt HH0.out.rd))))
  have ht : sk ≠ b ∧ sk ≠ g := ⟨Rd.ne HM.out.rd hS (by decide), blk_ne hS HM.out.hm (by decide)⟩
  clear hb1
  refine wp_loop_rounds 6 ?_
  (rw [rounds_succ]; have q := (blk1 HM.out.hx).1; have qs := blk_cell hS 0; simp only [List.getElem?_toArray, List.getElem?_cons_zero, List.getElem?_cons_succ] at qs; (repeat' ((fail_if_success at_builtin); first | go_values | go_skip | go_guarded | go_step | go_upon | go_back)); (refine (number_any _ b _ HM.out.rd).mono ?_; rintro e1 w2 ⟨rfl, hR, hF⟩; dsimp only); obtain ⟨hM2, hb2⟩ := HM.out.step hR hF; have fz := blk_free hM2.hm 0; have cz : w2.cell? ⟨g, 0, none⟩ = some (.int .i64 (m.number)) := blk_cell hM2.hm 0; obtain ⟨hM3, hb3⟩ := hM2.num 0 (by omega) (((r).number.1 : Nat) : Int); have hS3 := blk_set_other ((hF.block sk (blk_lt hS) ht.1).trans hS) ht.2 0 (.int .i64 (((r).number.1 : Nat) : Int)); have HM3 := Lib.hid hM3; have HB3 := Lib.hid ((HB.out.trans hb2).trans hb3); clear HM HB q qs hS hM2 hM3 hb2 hb3 hR hF; (repeat' ((fail_if_success at_builtin); first | go_values | go_skip | go_guarded | go_step | go_upon | go_back)); clear fz cz; generalize w2.setCell ⟨g, 0, none⟩ (.int .i64 (((r).number.1 : Nat) : Int)) = w3 at hS3 HM3 HB3 ⊢; have HM := HM3; have HB := HB3; have hS := hS3; clear HM3 HB3 hS3)
  (rw [rounds_succ]; have q := (blk1 HM.out.hx).1; have qs := blk_cell hS 1; simp only [List.getElem?_toArray, List.getElem?_cons_zero, List.getElem?_cons_succ] at qs; (repeat' ((fail_if_success at_builtin); first | go_values | go_skip | go_guarded | go_step | go_upon | go_back)); (refine (number_any _ b _ HM.out.rd).mono ?_; rintro e1 w2 ⟨rfl, hR, hF⟩; dsimp only); obtain ⟨hM2, hb2⟩ := HM.out.step hR hF; have fz := blk_free hM2.hm 1; have cz : w2.cell? ⟨g, 1, none⟩ = some (.int .i64 (m.file)) := blk_cell hM2.hm 1; obtain ⟨hM3, hb3⟩ := hM2.num 1 (by omega) (((r.number.2).number.1 : Nat) : Int); have hS3 := blk_set_other ((hF.block sk (blk_lt hS) ht.1).trans hS) ht.2 1 (.int .i64 (((r.number.2).number.1 : Nat) : Int)); have HM3 := Lib.hid hM3; have HB3 := Lib.hid ((HB.out.trans hb2).trans hb3); clear HM HB q qs hS hM2 hM3 hb2 hb3 hR hF; (repeat' ((fail_if_success at_builtin); first | go_values | go_skip | go_guarded | go_step | go_upon | go_back)); clear fz cz; generalize w2.setCell ⟨g, 1, none⟩ (.int .i64 (((r.number.2).number.1 : Nat) : Int)) = w3 at hS3 HM3 HB3 ⊢; have HM := HM3; have HB := HB3; have hS := hS3; clear HM3 HB3 hS3)
  (rw [rounds_succ]; have q := (blk1 HM.out.hx).1; have qs := blk_cell hS 2; simp only [List.getElem?_toArray, List.getElem?_cons_zero, List.getElem?_cons_succ] at qs; (repeat' ((fail_if_success at_builtin); first | go_values | go_skip | go_guarded | go_step | go_upon | go_back)); (refine (number_any _ b _ HM.out.rd).mono ?_; rintro e1 w2 ⟨rfl, hR, hF⟩; dsimp only); obtain ⟨hM2, hb2⟩ := HM.out.step hR hF; have fz := blk_free hM2.hm 2; have cz : w2.cell? ⟨g, 2, none⟩ = some (.int .i64 (m.mark)) := blk_cell hM2.hm 2; obtain ⟨hM3, hb3⟩ := hM2.num 2 (by omega) (((r.number.2.number.2).number.1 : Nat) : Int); have hS3 := blk_set_other ((hF.block sk (blk_lt hS) ht.1).trans hS) ht.2 2 (.int .i64 (((r.number.2.number.2).number.1 : Nat) : Int)); have HM3 := Lib.hid hM3; have HB3 := Lib.hid ((HB.out.trans hb2).trans hb3); clear HM HB q qs hS hM2 hM3 hb2 hb3 hR hF; (repeat' ((fail_if_success at_builtin); first | go_values | go_skip | go_guarded | go_step | go_upon | go_back)); clear fz cz; generalize w2.setCell ⟨g, 2, none⟩ (.int .i64 (((r.number.2.number.2).number.1 : Nat) : Int)) = w3 at hS3 HM3 HB3 ⊢; have HM := HM3; have HB := HB3; have hS := hS3; clear HM3 HB3 hS3)
  (rw [rounds_succ]; have q := (blk1 HM.out.hx).1; have qs := blk_cell hS 3; simp only [List.getElem?_toArray, List.getElem?_cons_zero, List.getElem?_cons_succ] at qs; (repeat' ((fail_if_success at_builtin); first | go_values | go_skip | go_guarded | go_step | go_upon | go_back)); (refine (number_any _ b _ HM.out.rd).mono ?_; rintro e1 w2 ⟨rfl, hR, hF⟩; dsimp only); obtain ⟨hM2, hb2⟩ := HM.out.step hR hF; have fz := blk_free hM2.hm 3; have cz : w2.cell? ⟨g, 3, none⟩ = some (.int .i64 (m.prev)) := blk_cell hM2.hm 3; obtain ⟨hM3, hb3⟩ := hM2.num 3 (by omega) (((r.number.2.number.2.number.2).number.1 : Nat) : Int); have hS3 := blk_set_other ((hF.block sk (blk_lt hS) ht.1).trans hS) ht.2 3 (.int .i64 (((r.number.2.number.2.number.2).number.1 : Nat) : Int)); have HM3 := Lib.hid hM3; have HB3 := Lib.hid ((HB.out.trans hb2).trans hb3); clear HM HB q qs hS hM2 hM3 hb2 hb3 hR hF; (repeat' ((fail_if_success at_builtin); first | go_values | go_skip | go_guarded | go_step | go_upon | go_back)); clear fz cz; generalize w2.setCell ⟨g, 3, none⟩ (.int .i64 (((r.number.2.number.2.number.2).number.1 : Nat) : Int)) = w3 at hS3 HM3 HB3 ⊢; have HM := HM3; have HB := HB3; have hS := hS3; clear HM3 HB3 hS3)
  (rw [rounds_succ]; have q := (blk1 HM.out.hx).1; have qs := blk_cell hS 4; simp only [List.getElem?_toArray, List.getElem?_cons_zero, List.getElem?_cons_succ] at qs; (repeat' ((fail_if_success at_builtin); first | go_values | go_skip | go_guarded | go_step | go_upon | go_back)); (refine (number_any _ b _ HM.out.rd).mono ?_; rintro e1 w2 ⟨rfl, hR, hF⟩; dsimp only); obtain ⟨hM2, hb2⟩ := HM.out.step hR hF; have fz := blk_free hM2.hm 4; have cz : w2.cell? ⟨g, 4, none⟩ = some (.int .i64 (m.pmark)) := blk_cell hM2.hm 4; obtain ⟨hM3, hb3⟩ := hM2.num 4 (by omega) (((r.number.2.number.2.number.2.number.2).number.1 : Nat) : Int); have hS3 := blk_set_other ((hF.block sk (blk_lt hS) ht.1).trans hS) ht.2 4 (.int .i64 (((r.number.2.number.2.number.2.number.2).number.1 : Nat) : Int)); have HM3 := Lib.hid hM3; have HB3 := Lib.hid ((HB.out.trans hb2).trans hb3); clear HM HB q qs hS hM2 hM3 hb2 hb3 hR hF; (repeat' ((fail_if_success at_builtin); first | go_values | go_skip | go_guarded | go_step | go_upon | go_back)); clear fz cz; generalize w2.setCell ⟨g, 4, none⟩ (.int .i64 (((r.number.2.number.2.number.2.number.2).number.1 : Nat) : Int)) = w3 at hS3 HM3 HB3 ⊢; have HM := HM3; have HB := HB3; have hS := hS3; clear HM3 HB3 hS3)
  rw [rounds_succ]
  have q := (blk1 HM.out.hx).1
  have qk := (blk1 HM.out.hk).1
  (repeat' ((fail_if_success at_builtin); first | go_values | go_skip | go_guarded | go_step | go_upon | go_back))
  (refine (taken_any _ x b _ HM.out.hx HM.out.rd).mono ?_; rintro e1 w3 ⟨rfl, hb3⟩; dsimp only)
  have HM3 := Lib.hid (HM.out.pure hb3)
  have HB3 := Lib.hid (HB.out.trans (hb3.mono (by have := HM.out.nb; have := Rd.lt HM.out.rd; omega)))
  clear hb3 q qk HM HB hS
  (repeat' ((fail_if_success at_builtin); first | go_values | go_skip | go_guarded | go_step | go_upon | go_back))
  refine bodyPost_ret (results_tmp rfl _ _ _) rfl ⟨rfl, HM3.out, HB3.out⟩
theorem mayX (w : World) (m : Mf) : Calls Tryz.prog 216 #[.agg #[.int .i64 m.number, .int .i64 m.file, .int .i64 m.mark, .int .i64 m.prev, .int .i64 m.pmark]] w fun e w' => e = .returned (.bool (mayM m)) ∧ Below w.heap.size w w' := mayM_any w m
set_option maxRecDepth 20000 in
set_option maxHeartbeats 4000000 in
theorem valid_any (w : World) {n0 x b g f k h z : Nat} {zc : Array Value} {r : RS} {m : Mf} {s : Bs} (H : MX w n0 x b g f k h z zc r m s) :
    Calls Tryz.prog 215 #[.pointer (some ⟨f, 0, none⟩), .pointer (some ⟨g, 0, none⟩)] w fun e' w' => e' = .returned (.int .i64 (if mayM m then 0 else 3)) ∧ Below w.heap.size w w' := by
  have q1 := (blk1 H.hf).1
  have c0 := blk_cell H.hm 0
  have c1 := blk_cell H.hm 1
  have c2 := blk_cell H.hm 2
  have c3 := blk_cell H.hm 3
  have c4 := blk_cell H.hm 4
  simp only [Mf.cells, List.getElem?_toArray, List.getElem?_cons_zero, List.getElem?_cons_succ] at c0 c1 c2 c3 c4
  have l1 := blk_lt H.hf
  have l2 := blk_lt H.hm
  have HS : ∀ w', Below w.heap.size w w' → (Below w.heap.size w w' ∧ w'.cell? ⟨f, 0, none⟩ = some (.func (.func 209) #[] #[]) ∧ w'.cell? ⟨g, 0, none⟩ = some (.int .i64 m.number) ∧ w'.cell? ⟨g, 1, none⟩ = some (.int .i64 m.file) ∧ w'.cell? ⟨g, 2, none⟩ = some (.int .i64 m.mark) ∧ w'.cell? ⟨g, 3, none⟩ = some (.int .i64 m.prev) ∧ w'.cell? ⟨g, 4, none⟩ = some (.int .i64 m.pmark)) := fun w' hb =>
    ⟨hb, (hb.cell (p := ⟨f, 0, none⟩) l1).trans q1, (hb.cell (p := ⟨g, 0, none⟩) l2).trans c0, (hb.cell (p := ⟨g, 1, none⟩) l2).trans c1, (hb.cell (p := ⟨g, 2, none⟩) l2).trans c2, (hb.cell (p := ⟨g, 3, none⟩) l2).trans c3, (hb.cell (p := ⟨g, 4, none⟩) l2).trans c4⟩
  clear H
  have HM : Hid (∀ w', Below w.heap.size w w' → Calls Tryz.prog 216 #[.agg #[.int .i64 m.number, .int .i64 m.file, .int .i64 m.mark, .int .i64 m.prev, .int .i64 m.pmark]] w' fun e w'' => e = .returned (.bool (mayM m)) ∧ Below w.heap.size w w'') := Lib.hid (fun w' hb => (mayX w' m).mono fun e w'' h => ⟨h.1, hb.trans (h.2.mono hb.size)⟩)
  obtain ⟨vv, hvv⟩ : ∃ vv : Int, vv = (if mayM m then 0 else 3) := ⟨_, rfl⟩
  obtain ⟨bb, hbb⟩ : ∃ bb : Bool, bb = mayM m := ⟨_, rfl⟩
  rw [← hbb] at hvv HM ⊢
  rw [← hvv]
  have HF : Hid (∀ w', Calls Tryz.prog 209 #[.bool bb] w' fun e w'' => e = .returned (.int .i64 vv) ∧ w' = w'') := Lib.hid (fun w' => by rw [hvv]; exact form_any w' bb)
  clear hvv hbb
  go_enter Tryz.func215, Tryz.ntmps215
  (repeat' ((fail_if_success at_builtin); first | go_values | go_skip | go_guarded | go_step | go_upon | go_back))
  go_region_held3 (fun w' => Below w.heap.size w w' ∧ w'.cell? ⟨f, 0, none⟩ = some (.func (.func 209) #[] #[]) ∧ w'.cell? ⟨g, 0, none⟩ = some (.int .i64 m.number) ∧ w'.cell? ⟨g, 1, none⟩ = some (.int .i64 m.file) ∧ w'.cell? ⟨g, 2, none⟩ = some (.int .i64 m.mark) ∧ w'.cell? ⟨g, 3, none⟩ = some (.int .i64 m.prev) ∧ w'.cell? ⟨g, 4, none⟩ = some (.int .i64 m.pmark)) (first | exact HS _ (by assumption) | exact HS _ (Below.refl _ _) | exact HS _ (Below.drew (Below.refl _ _)) | exact HS _ (Below.drew (by assumption)) | exact HS _ (bdrewN (by assumption) _) | exact HS _ (bdrewN (Below.refl _ _) _)) (first
    | (go_at_call 209; refine (HF.out _).mono ?_; rintro e1 w6 ⟨rfl, rfl⟩)
    | (go_at_call 216; refine (HM.out _ (by first | assumption | exact Below.refl _ _ | exact Below.drew (Below.refl _ _) | exact Below.drew (by assumption) | exact bdrewN (by assumption) _ | exact bdrewN (Below.refl _ _) _)).mono ?_; rintro e1 w5 ⟨rfl, hb5⟩))
  (repeat' ((fail_if_success at_builtin); first | go_values | go_skip | go_guarded | go_step | go_upon | go_back))
  refine bodyPost_ret (results_tmp rfl _ _ _) rfl ⟨rfl, by assumption⟩
end Go.Proofs.YtbppnihcbcdglaaGreat
