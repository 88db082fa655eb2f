/- treadlelaw20.AuditMeans. No condition. -/
import Derived.BigQuiet
import Derived.Test.YtbppnihcbcdglaaGreatZ39
import Derived.Test.YtbppnihcbcdglaaGreatZ50
import Derived.Test.YtbppnihcbcdglaaGreatZ51
namespace Go.Proofs.YtbppnihcbcdglaaGreat
open Go.RowKit
set_option linter.unusedVariables false
set_option linter.unusedSimpArgs false

set_option maxRecDepth 20000 in
set_option maxHeartbeats 8000000 in
theorem means_cps (w : World) (fa : Option Addr) (fc : Nat) (ms : List FBm) (hF : Files w fa fc ms) (Q : Ending → World → Prop) (hQ : ∀ w', Below w.heap.size w w' → Q (.returned (.bool true)) w') :
    Calls Tryz.prog 7 #[.slice fa ms.length fc] w Q := by
  have HF := Lib.hid hF
  have HQ := Lib.hid hQ
  clear hF hQ
  go_enter Tryz.func7, Tryz.ntmps7
  (repeat' ((fail_if_success at_builtin); first | go_values | go_skip | go_guarded | go_step | go_upon | go_back))
  refine long_cps w fa fc ms HF.out _ ?_
  intro b hb
  cases b with
  | true =>
    dsimp only
    (repeat' ((fail_if_success at_builtin); first | go_values | go_skip | go_guarded | go_step | go_upon | go_back))
    exact HQ.out _ (Below.refl _ _)
  | false =>
    have HNL := Lib.hid (hb rfl)
    clear hb
    dsimp only
    (repeat' ((fail_if_success at_builtin); first | go_values | go_skip | go_guarded | go_step | go_upon | go_back))
    refine alook_cps w fa fc ms HF.out (by have := HNL.out.1; omega) (fun m hm => by have := (HNL.out.2 m hm).2; omega) (fun m hm => by have := (HNL.out.2 m hm).1; omega) _ ?_
    intro sv nv lv ov w2 hV hb2
    have HF2 := Lib.hid (HF.out.below hb2)
    have hsh := look_short (ms.map FBm.f)
    have hri := look_rise (ms.map FBm.f)
    have hbad := look_bad (fs := ms.map FBm.f)
    have hme := look_means (fs := ms.map FBm.f)
    have hmi := look_mid (fs := ms.map FBm.f)
    have hsg := look_segs (fs := ms.map FBm.f)
    have hcut := look_torn (fs := ms.map FBm.f)
    obtain ⟨r, hr⟩ : ∃ r, lookF (ms.map FBm.f) = r := ⟨_, rfl⟩
    rw [hr] at hV hsh hri hbad hme hmi hsg hcut ⊢
    have HMID := Lib.hid hmi
    rw [List.length_map] at hsh
    have HRISE := Lib.hid hri
    have HBAD := Lib.hid hbad
    have HME := Lib.hid hme
    have HSG := Lib.hid hsg
    have HCUT := Lib.hid hcut
    have HLEN : Hid (r.segs.length ≤ 200 ∧ r.needed.length ≤ 200 ∧ r.left.length ≤ 200 ∧ r.others.length ≤ 200) := Lib.hid (by have := HNL.out.1; omega)
    have HV := Lib.hid hV.rows
    obtain ⟨⟨sa, sc, rfl, hrs⟩, ⟨na, nc, rfl, hrn⟩, ⟨la, lc, rfl, hrl⟩, ⟨oa, oc, rfl, hro⟩⟩ := hV.rows
    unfold RPc
    dsimp only
    clear hr hV hsh hri hbad hme hmi hsg hcut
    have b0 := blk_new w2 (.cells #[.int .i64 r.err, .int .i64 r.base, .int .i64 r.last, .int .i64 r.rep, .int .i64 r.torn, .bool r.has, .int .i64 r.man.number, .int .i64 r.man.file, .int .i64 r.man.mark, .int .i64 r.man.prev, .int .i64 r.man.pmark, .slice sa r.segs.length sc, .slice na r.needed.length nc, .slice la r.left.length lc, .slice oa r.others.length oc] 50)
    have hb3 : Below w2.heap.size w2 (w2.alloc (.cells #[.int .i64 r.err, .int .i64 r.base, .int .i64 r.last, .int .i64 r.rep, .int .i64 r.torn, .bool r.has, .int .i64 r.man.number, .int .i64 r.man.file, .int .i64 r.man.mark, .int .i64 r.man.prev, .int .i64 r.man.pmark, .slice sa r.segs.length sc, .slice na r.needed.length nc, .slice la r.left.length lc, .slice oa r.others.length oc] 50)) := (Below.refl _ _).alloc (Nat.le_refl _) _
    (repeat' ((fail_if_success (with_reducible (show Code.wp _ (Code.region 4 _ _) _ _ _))); (fail_if_success at_builtin); first | go_values | go_skip | go_guarded | go_step | go_upon | go_back))
    generalize w2.alloc (.cells #[.int .i64 r.err, .int .i64 r.base, .int .i64 r.last, .int .i64 r.rep, .int .i64 r.torn, .bool r.has, .int .i64 r.man.number, .int .i64 r.man.file, .int .i64 r.man.mark, .int .i64 r.man.prev, .int .i64 r.man.pmark, .slice sa r.segs.length sc, .slice na r.needed.length nc, .slice la r.left.length lc, .slice oa r.others.length oc] 50) = w3 at b0 hb3 ⊢
    obtain ⟨R, hR⟩ : ∃ R, w2.heap.size = R := ⟨_, rfl⟩
    have hW3 := hb2.trans (hb3.mono hb2.size)
    have HR2 := Lib.hid hR
    have HW2 := Lib.hid hb2
    have hb23 := hb3
    rw [hR] at b0 hb23 ⊢
    have HB23 := Lib.hid hb23
    have HB0 := Lib.hid b0
    have HHS := Lib.hid (hrs.below hb3)
    have HHN := Lib.hid (hrn.below hb3)
    have HHL := Lib.hid (hrl.below hb3)
    have HHO := Lib.hid (hro.below hb3)
    have HV3 := Lib.hid (HV.out.below hb3)
    have HF3 := Lib.hid (HF2.out.below hb3)
    have HW3 := Lib.hid hW3
    have HR : Hid (w.heap.size ≤ R) := Lib.hid (by rw [← hR]; exact hb2.size)
    clear hrs hrn hrl hro hb2 hb3 hb23 b0 hW3 HF hR
    (repeat' ((fail_if_success at_builtin); first | go_values | go_skip | go_guarded | go_step | go_upon | go_back))
    go_loopw [4] (fun c wr => ∃ j k : Nat, c = .int .i64 j ∧ Hid (j = k + 1) ∧ Below w3.heap.size w3 wr) (fun c _ => r.left.length - (intOf c).toNat)
    case atStart => exact ⟨1, 0, rfl, Lib.hid rfl, Below.refl _ _⟩
    case round =>
      obtain ⟨j, k, rfl, HJ, hb⟩ := hrel
      have HBr := Lib.hid hb
      have b0 := blk_below hb HB0.out (blk_lt HB0.out)
      have hlI : (r.left.length : Int) ≤ 1000000 := by have := HLEN.out; omega
      have q13 := blk_cell b0 13
      simp only [List.getElem?_toArray, List.getElem?_cons_zero, List.getElem?_cons_succ] at q13
      clear b0
      by_cases hlt : j < r.left.length
      · as_aux_lemma =>
          have hlt' : (j : Int) < (r.left.length : Int) := by omega
          have hkt : (k : Int) < (r.left.length : Int) := by have := HJ.out; omega
          obtain ⟨x, hx⟩ : ∃ x, r.left[j]? = some x := ⟨_, List.getElem?_eq_getElem hlt⟩
          obtain ⟨y, hy⟩ : ∃ y, r.left[k]? = some y := ⟨_, List.getElem?_eq_getElem (by have := HJ.out; omega)⟩
          obtain ⟨g, o, rfl, kk⟩ := row_str (HHL.out.below hb) hlt
          have q1 := kk _ _ hx
          have q2 := kk _ _ hy
          have t3 : (Op.bytesLess x y || x == y) = false := rise_at HRISE.out.1 hx hy (by have := HJ.out; omega)
          have hwk : IntKind.i64.wrap ((j : Int) - 1) = (k : Int) := by rw [IntWalk.i64_in _ (by omega)]; have := HJ.out; omega
          have HLT := Lib.hid hlt
          clear kk hx hy hb hlt
          (repeat' ((fail_if_success (with_reducible (show Code.wp _ (Code.region 7 _ _) _ _ _))); (fail_if_success at_builtin); first | go_values | go_skip | go_guarded | go_step | go_upon | go_back))
          go_region
          (repeat' ((fail_if_success at_builtin); first | go_values | go_skip | go_guarded | go_step | go_upon | go_back))
          go_roundw
          case rel => exact ⟨j + 1, j, by go_num, Lib.hid rfl, HBr.out.drew⟩
          case measure => have := HLT.out; simp [intOf]; omega
      · as_aux_lemma =>
          have hlt' : decide ((j : Int) < (r.left.length : Int)) = false := decide_eq_false (by omega)
          have hlt2 : decide (j < r.left.length) = false := decide_eq_false hlt
          clear hb hlt HJ
          (repeat' ((fail_if_success at_builtin); first | go_values | go_skip | go_guarded | go_step | go_upon | go_back))
          go_loopw [5] (fun c wr => ∃ j k : Nat, c = .int .i64 j ∧ Hid (j = k + 1) ∧ Below w3.heap.size w3 wr) (fun c _ => r.others.length - (intOf c).toNat)
          case atStart => exact ⟨1, 0, rfl, Lib.hid rfl, HBr.out⟩
          case round =>
            obtain ⟨j, k, rfl, HJ, hb⟩ := hrel
            have HBr := Lib.hid hb
            have b0 := blk_below hb HB0.out (blk_lt HB0.out)
            have hlI : (r.others.length : Int) ≤ 1000000 := by have := HLEN.out; omega
            have q14 := blk_cell b0 14
            simp only [List.getElem?_toArray, List.getElem?_cons_zero, List.getElem?_cons_succ] at q14
            clear b0
            by_cases hlt : j < r.others.length
            · as_aux_lemma =>
                have hlt' : (j : Int) < (r.others.length : Int) := by omega
                have hkt : (k : Int) < (r.others.length : Int) := by have := HJ.out; omega
                obtain ⟨x, hx⟩ : ∃ x, r.others[j]? = some x := ⟨_, List.getElem?_eq_getElem hlt⟩
                obtain ⟨y, hy⟩ : ∃ y, r.others[k]? = some y := ⟨_, List.getElem?_eq_getElem (by have := HJ.out; omega)⟩
                obtain ⟨g, o, rfl, kk⟩ := row_str (HHO.out.below hb) hlt
                have q1 := kk _ _ hx
                have q2 := kk _ _ hy
                have t3 : (Op.bytesLess x y || x == y) = false := rise_at HRISE.out.2 hx hy (by have := HJ.out; omega)
                have hwk : IntKind.i64.wrap ((j : Int) - 1) = (k : Int) := by rw [IntWalk.i64_in _ (by omega)]; have := HJ.out; omega
                have HLT := Lib.hid hlt
                clear kk hx hy hb hlt
                (repeat' ((fail_if_success (with_reducible (show Code.wp _ (Code.region 12 _ _) _ _ _))); (fail_if_success at_builtin); first | go_values | go_skip | go_guarded | go_step | go_upon | go_back))
                go_region
                (repeat' ((fail_if_success at_builtin); first | go_values | go_skip | go_guarded | go_step | go_upon | go_back))
                go_roundw
                case rel => exact ⟨j + 1, j, by go_num, Lib.hid rfl, HBr.out.drew⟩
                case measure => have := HLT.out; simp [intOf]; omega
            · as_aux_lemma =>
                have hlt' : decide ((j : Int) < (r.others.length : Int)) = false := decide_eq_false (by omega)
                have hlt2 : decide (j < r.others.length) = false := decide_eq_false hlt
                clear hb hlt HJ
                have HBX := HBr
                clear hlI
                have b0 := blk_below HBX.out HB0.out (blk_lt HB0.out)
                have c0 := blk_cell b0 0
                have c1 := blk_cell b0 1
                have c2 := blk_cell b0 2
                have c3 := blk_cell b0 3
                have c4 := blk_cell b0 4
                have c5 := blk_cell b0 5
                have c11 := blk_cell b0 11
                simp only [List.getElem?_toArray, List.getElem?_cons_zero, List.getElem?_cons_succ] at c0 c1 c2 c3 c4 c5 c11
                clear b0
                by_cases he : r.err = 0
                · as_aux_lemma =>
                    have hm := HME.out he
                    have hmid := HMID.out he
                    have HE := Lib.hid he
                    have g1 : decide (r.base < 0) = false := decide_eq_false (by omega)
                    have g2 : decide (r.last < r.base) = false := decide_eq_false (by omega)
                    have hw : IntKind.i64.wrap (r.last - r.base) = r.rep := by rw [IntWalk.i64_in _ (by unfold Mid at hmid; omega)]; exact hm.2.2.1.symm
                    have g4 : decide (r.torn < 0) = false := decide_eq_false (by omega)
                    rw [he] at c0
                    have HM := Lib.hid hm
                    clear hmid hm he
                    have n1 := blk_new wr (.cells #[.int .i64 r.base, .int .i64 r.last, .int .i64 r.rep, .int .i64 r.torn] 44)
                    have hb5 : Below wr.heap.size wr (wr.alloc (.cells #[.int .i64 r.base, .int .i64 r.last, .int .i64 r.rep, .int .i64 r.torn] 44)) := (Below.refl _ _).alloc (Nat.le_refl _) _
                    (repeat' ((fail_if_success (with_reducible (show Code.wp _ (Code.region 17 _ _) _ _ _))); (fail_if_success at_builtin); first | go_values | go_skip | go_guarded | go_step | go_upon | go_back))
                    generalize wr.alloc (.cells #[.int .i64 r.base, .int .i64 r.last, .int .i64 r.rep, .int .i64 r.torn] 44) = w5 at n1 hb5 ⊢
                    have HX5 := Lib.hid (HBX.out.trans (hb5.mono HBX.out.size))
                    have hOR : R < wr.heap.size := Nat.lt_of_lt_of_le (blk_lt HB0.out) HBX.out.size
                    obtain ⟨O5, hO5⟩ : ∃ O5, wr.heap.size = O5 := ⟨_, rfl⟩
                    rw [hO5] at n1 hOR ⊢
                    have HO5 := Lib.hid n1
                    clear n1 hb5 hO5 c0 c1 c2 c3 c4 c5 c11
                    have b0 := blk_below HX5.out HB0.out (blk_lt HB0.out)
                    have c4 := blk_cell b0 4
                    have c5 := blk_cell b0 5
                    have c11 := blk_cell b0 11
                    simp only [List.getElem?_toArray, List.getElem?_cons_zero, List.getElem?_cons_succ] at c4 c5 c11
                    have p0 := blk_cell HO5.out 0
                    have p1 := blk_cell HO5.out 1
                    have p2 := blk_cell HO5.out 2
                    have p3 := blk_cell HO5.out 3
                    simp only [List.getElem?_toArray, List.getElem?_cons_zero, List.getElem?_cons_succ] at p0 p1 p2 p3
                    clear b0
                    by_cases ht : r.torn = 0
                    · as_aux_lemma =>
                        have HT := Lib.hid ht
                        have g5 : decide (0 < r.torn) = false := decide_eq_false (by omega)
                        clear ht
                        cases hh : r.has with
                        | true =>
                          as_aux_lemma =>
                            rw [hh] at c5
                            clear hh
                            (repeat' ((fail_if_success at_builtin); first | go_values | go_skip | go_guarded | go_step | go_upon | go_back))
                            go_loopw [7] (fun c wr => ∃ j : Nat, c = .int .i64 j ∧ Below w3.heap.size w3 wr ∧ Hid (wr.heap[O5]? = some (.cells #[.int .i64 r.base, .int .i64 r.last, .int .i64 r.rep, .int .i64 r.torn] 44))) (fun c _ => r.segs.length - (intOf c).toNat)
                            case atStart => exact ⟨0, rfl, HX5.out, HO5⟩
                            case round =>
                              obtain ⟨j, rfl, hb, HO⟩ := hrel
                              have HBr := Lib.hid hb
                              have b0 := blk_below hb HB0.out (blk_lt HB0.out)
                              have hlI : (r.segs.length : Int) ≤ 1000000 := by have := HLEN.out; omega
                              have c11 := blk_cell b0 11
                              simp only [List.getElem?_toArray, List.getElem?_cons_zero, List.getElem?_cons_succ] at c11
                              clear b0
                              by_cases hlt : j < r.segs.length
                              · as_aux_lemma =>
                                  have hlt' : (j : Int) < (r.segs.length : Int) := by omega
                                  obtain ⟨x, hx⟩ : ∃ x, r.segs[j]? = some x := ⟨_, List.getElem?_eq_getElem hlt⟩
                                  obtain ⟨g, o, rfl, kk⟩ := row_seg (HHS.out.below hb) hlt
                                  obtain ⟨q1, q1b⟩ := kk _ _ hx
                                  have hs1 := HSG.out HE.out
                                  have t1 : decide (x.1 < 1) = false := decide_eq_false (by have := (hs1.1 _ _ hx).1; omega)
                                  have t2 : decide (x.2 < 0) = false := decide_eq_false (by have := (hs1.1 _ _ hx).2; omega)
                                  have HLT := Lib.hid hlt
                                  by_cases hj : j = 0
                                  · have t4 : decide ((0 : Int) < (j : Int)) = false := decide_eq_false (by omega)
                                    have t5 : decide (0 < j) = false := decide_eq_false (by omega)
                                    clear kk hx hs1 hb hlt hj
                                    (repeat' ((fail_if_success at_builtin); first | go_values | go_skip | go_guarded | go_step | go_upon | go_back))
                                    go_quiet (fail)
                                    (repeat' ((fail_if_success at_builtin); first | go_values | go_skip | go_guarded | go_step | go_upon | go_back))
                                    go_roundw
                                    case rel => exact ⟨j + 1, by go_num, bdrewN HBr.out _, HO⟩
                                    case measure => have := HLT.out; simp [intOf]; omega
                                  · obtain ⟨k, hk⟩ : ∃ k, k + 1 = j := ⟨j - 1, by omega⟩
                                    obtain ⟨y, hy⟩ : ∃ y, r.segs[k]? = some y := ⟨_, List.getElem?_eq_getElem (by omega)⟩
                                    obtain ⟨q2, q2b⟩ := kk _ _ hy
                                    have t3 : decide (x.1 ≤ y.1) = false := decide_eq_false (by have := hs1.2 _ _ _ _ hx hy (by omega); omega)
                                    have t4 : decide ((0 : Int) < (j : Int)) = true := decide_eq_true (by omega)
                                    have t5 : decide (0 < j) = true := decide_eq_true (by omega)
                                    have hwk : IntKind.i64.wrap ((j : Int) - 1) = (k : Int) := by rw [IntWalk.i64_in _ (by omega)]; omega
                                    have hkt : (k : Int) < (r.segs.length : Int) := by omega
                                    clear kk hx hy hs1 hb hlt hj hk
                                    (repeat' ((fail_if_success at_builtin); first | go_values | go_skip | go_guarded | go_step | go_upon | go_back))
                                    go_quiet (fail)
                                    (repeat' ((fail_if_success at_builtin); first | go_values | go_skip | go_guarded | go_step | go_upon | go_back))
                                    go_roundw
                                    case rel => exact ⟨j + 1, by go_num, bdrewN HBr.out _, HO⟩
                                    case measure => have := HLT.out; simp [intOf]; omega
                              · as_aux_lemma =>
                                  have hlt' : decide ((j : Int) < (r.segs.length : Int)) = false := decide_eq_false (by omega)
                                  have hlt2 : decide (j < r.segs.length) = false := decide_eq_false hlt
                                  clear hb hlt
                                  have p3 := blk_cell HO.out 3
                                  simp only [List.getElem?_toArray, List.getElem?_cons_zero, List.getElem?_cons_succ] at p3
                                  rw [HT.out] at p3
                                  (repeat' ((fail_if_success at_builtin); first | go_values | go_skip | go_guarded | go_step | go_upon | go_back))
                                  refine known_cps wr _ ?_
                                  intro w9 hb9
                                  dsimp only
                                  (repeat' ((fail_if_success at_builtin); first | go_values | go_skip | go_guarded | go_step | go_upon | go_back))
                                  exact HQ.out _ (HW3.out.trans ((HBr.out.trans (hb9.mono HBr.out.size)).mono HW3.out.size))
                        | false =>
                          as_aux_lemma =>
                            have g7 : (r.base != 0) = false := by rw [HM.out.2.2.2.2.2.1 hh]; rfl
                            rw [hh] at c5
                            clear hh
                            (repeat' ((fail_if_success at_builtin); first | go_values | go_skip | go_guarded | go_step | go_upon | go_back))
                            go_loopw [7] (fun c wr => ∃ j : Nat, c = .int .i64 j ∧ Below w3.heap.size w3 wr ∧ Hid (wr.heap[O5]? = some (.cells #[.int .i64 r.base, .int .i64 r.last, .int .i64 r.rep, .int .i64 r.torn] 44))) (fun c _ => r.segs.length - (intOf c).toNat)
                            case atStart => exact ⟨0, rfl, HX5.out, HO5⟩
                            case round =>
                              obtain ⟨j, rfl, hb, HO⟩ := hrel
                              have HBr := Lib.hid hb
                              have b0 := blk_below hb HB0.out (blk_lt HB0.out)
                              have hlI : (r.segs.length : Int) ≤ 1000000 := by have := HLEN.out; omega
                              have c11 := blk_cell b0 11
                              simp only [List.getElem?_toArray, List.getElem?_cons_zero, List.getElem?_cons_succ] at c11
                              clear b0
                              by_cases hlt : j < r.segs.length
                              · as_aux_lemma =>
                                  have hlt' : (j : Int) < (r.segs.length : Int) := by omega
                                  obtain ⟨x, hx⟩ : ∃ x, r.segs[j]? = some x := ⟨_, List.getElem?_eq_getElem hlt⟩
                                  obtain ⟨g, o, rfl, kk⟩ := row_seg (HHS.out.below hb) hlt
                                  obtain ⟨q1, q1b⟩ := kk _ _ hx
                                  have hs1 := HSG.out HE.out
                                  have t1 : decide (x.1 < 1) = false := decide_eq_false (by have := (hs1.1 _ _ hx).1; omega)
                                  have t2 : decide (x.2 < 0) = false := decide_eq_false (by have := (hs1.1 _ _ hx).2; omega)
                                  have HLT := Lib.hid hlt
                                  by_cases hj : j = 0
                                  · have t4 : decide ((0 : Int) < (j : Int)) = false := decide_eq_false (by omega)
                                    have t5 : decide (0 < j) = false := decide_eq_false (by omega)
                                    clear kk hx hs1 hb hlt hj
                                    (repeat' ((fail_if_success at_builtin); first | go_values | go_skip | go_guarded | go_step | go_upon | go_back))
                                    go_quiet (fail)
                                    (repeat' ((fail_if_success at_builtin); first | go_values | go_skip | go_guarded | go_step | go_upon | go_back))
                                    go_roundw
                                    case rel => exact ⟨j + 1, by go_num, bdrewN HBr.out _, HO⟩
                                    case measure => have := HLT.out; simp [intOf]; omega
                                  · obtain ⟨k, hk⟩ : ∃ k, k + 1 = j := ⟨j - 1, by omega⟩
                                    obtain ⟨y, hy⟩ : ∃ y, r.segs[k]? = some y := ⟨_, List.getElem?_eq_getElem (by omega)⟩
                                    obtain ⟨q2, q2b⟩ := kk _ _ hy
                                    have t3 : decide (x.1 ≤ y.1) = false := decide_eq_false (by have := hs1.2 _ _ _ _ hx hy (by omega); omega)
                                    have t4 : decide ((0 : Int) < (j : Int)) = true := decide_eq_true (by omega)
                                    have t5 : decide (0 < j) = true := decide_eq_true (by omega)
                                    have hwk : IntKind.i64.wrap ((j : Int) - 1) = (k : Int) := by rw [IntWalk.i64_in _ (by omega)]; omega
                                    have hkt : (k : Int) < (r.segs.length : Int) := by omega
                                    clear kk hx hy hs1 hb hlt hj hk
                                    (repeat' ((fail_if_success at_builtin); first | go_values | go_skip | go_guarded | go_step | go_upon | go_back))
                                    go_quiet (fail)
                                    (repeat' ((fail_if_success at_builtin); first | go_values | go_skip | go_guarded | go_step | go_upon | go_back))
                                    go_roundw
                                    case rel => exact ⟨j + 1, by go_num, bdrewN HBr.out _, HO⟩
                                    case measure => have := HLT.out; simp [intOf]; omega
                              · as_aux_lemma =>
                                  have hlt' : decide ((j : Int) < (r.segs.length : Int)) = false := decide_eq_false (by omega)
                                  have hlt2 : decide (j < r.segs.length) = false := decide_eq_false hlt
                                  clear hb hlt
                                  have p3 := blk_cell HO.out 3
                                  simp only [List.getElem?_toArray, List.getElem?_cons_zero, List.getElem?_cons_succ] at p3
                                  rw [HT.out] at p3
                                  (repeat' ((fail_if_success at_builtin); first | go_values | go_skip | go_guarded | go_step | go_upon | go_back))
                                  refine known_cps wr _ ?_
                                  intro w9 hb9
                                  dsimp only
                                  (repeat' ((fail_if_success at_builtin); first | go_values | go_skip | go_guarded | go_step | go_upon | go_back))
                                  exact HQ.out _ (HW3.out.trans ((HBr.out.trans (hb9.mono HBr.out.size)).mono HW3.out.size))
                    · as_aux_lemma =>
                        have HT := Lib.hid ht
                        have g5 : decide (0 < r.torn) = true := decide_eq_true (by have := HM.out; omega)
                        have g6 : ((r.segs.length : Int) == 0) = false := by
                          have := List.length_pos_iff.2 (HM.out.2.2.2.2.1 (by have := HT.out; have := HM.out; omega))
                          rw [beq_eq_false_iff_ne]; omega
                        clear ht
                        cases hh : r.has with
                        | true =>
                          as_aux_lemma =>
                            rw [hh] at c5
                            clear hh
                            (repeat' ((fail_if_success at_builtin); first | go_values | go_skip | go_guarded | go_step | go_upon | go_back))
                            go_loopw [7] (fun c wr => ∃ j : Nat, c = .int .i64 j ∧ Below w3.heap.size w3 wr ∧ Hid (wr.heap[O5]? = some (.cells #[.int .i64 r.base, .int .i64 r.last, .int .i64 r.rep, .int .i64 r.torn] 44))) (fun c _ => r.segs.length - (intOf c).toNat)
                            case atStart => exact ⟨0, rfl, HX5.out, HO5⟩
                            case round =>
                              obtain ⟨j, rfl, hb, HO⟩ := hrel
                              have HBr := Lib.hid hb
                              have b0 := blk_below hb HB0.out (blk_lt HB0.out)
                              have hlI : (r.segs.length : Int) ≤ 1000000 := by have := HLEN.out; omega
                              have c11 := blk_cell b0 11
                              simp only [List.getElem?_toArray, List.getElem?_cons_zero, List.getElem?_cons_succ] at c11
                              clear b0
                              by_cases hlt : j < r.segs.length
                              · as_aux_lemma =>
                                  have hlt' : (j : Int) < (r.segs.length : Int) := by omega
                                  obtain ⟨x, hx⟩ : ∃ x, r.segs[j]? = some x := ⟨_, List.getElem?_eq_getElem hlt⟩
                                  obtain ⟨g, o, rfl, kk⟩ := row_seg (HHS.out.below hb) hlt
                                  obtain ⟨q1, q1b⟩ := kk _ _ hx
                                  have hs1 := HSG.out HE.out
                                  have t1 : decide (x.1 < 1) = false := decide_eq_false (by have := (hs1.1 _ _ hx).1; omega)
                                  have t2 : decide (x.2 < 0) = false := decide_eq_false (by have := (hs1.1 _ _ hx).2; omega)
                                  have HLT := Lib.hid hlt
                                  by_cases hj : j = 0
                                  · have t4 : decide ((0 : Int) < (j : Int)) = false := decide_eq_false (by omega)
                                    have t5 : decide (0 < j) = false := decide_eq_false (by omega)
                                    clear kk hx hs1 hb hlt hj
                                    (repeat' ((fail_if_success at_builtin); first | go_values | go_skip | go_guarded | go_step | go_upon | go_back))
                                    go_quiet (fail)
                                    (repeat' ((fail_if_success at_builtin); first | go_values | go_skip | go_guarded | go_step | go_upon | go_back))
                                    go_roundw
                                    case rel => exact ⟨j + 1, by go_num, bdrewN HBr.out _, HO⟩
                                    case measure => have := HLT.out; simp [intOf]; omega
                                  · obtain ⟨k, hk⟩ : ∃ k, k + 1 = j := ⟨j - 1, by omega⟩
                                    obtain ⟨y, hy⟩ : ∃ y, r.segs[k]? = some y := ⟨_, List.getElem?_eq_getElem (by omega)⟩
                                    obtain ⟨q2, q2b⟩ := kk _ _ hy
                                    have t3 : decide (x.1 ≤ y.1) = false := decide_eq_false (by have := hs1.2 _ _ _ _ hx hy (by omega); omega)
                                    have t4 : decide ((0 : Int) < (j : Int)) = true := decide_eq_true (by omega)
                                    have t5 : decide (0 < j) = true := decide_eq_true (by omega)
                                    have hwk : IntKind.i64.wrap ((j : Int) - 1) = (k : Int) := by rw [IntWalk.i64_in _ (by omega)]; omega
                                    have hkt : (k : Int) < (r.segs.length : Int) := by omega
                                    clear kk hx hy hs1 hb hlt hj hk
                                    (repeat' ((fail_if_success at_builtin); first | go_values | go_skip | go_guarded | go_step | go_upon | go_back))
                                    go_quiet (fail)
                                    (repeat' ((fail_if_success at_builtin); first | go_values | go_skip | go_guarded | go_step | go_upon | go_back))
                                    go_roundw
                                    case rel => exact ⟨j + 1, by go_num, bdrewN HBr.out _, HO⟩
                                    case measure => have := HLT.out; simp [intOf]; omega
                              · as_aux_lemma =>
                                  have hlt' : decide ((j : Int) < (r.segs.length : Int)) = false := decide_eq_false (by omega)
                                  have hlt2 : decide (j < r.segs.length) = false := decide_eq_false hlt
                                  clear hb hlt
                                  have p3 := blk_cell HO.out 3
                                  simp only [List.getElem?_toArray, List.getElem?_cons_zero, List.getElem?_cons_succ] at p3
                                  have g8 : (r.torn == 0) = false := beq_eq_false_iff_ne.2 HT.out
                                  obtain ⟨nm, e, kn, ks, f, hkn, hnm, hks, hsk, hall, hlook⟩ := HCUT.out HE.out HT.out
                                  have HK := Lib.hid (And.intro hkn (And.intro hnm (And.intro hks hsk)))
                                  have HALL := Lib.hid hall
                                  have HLOOK := Lib.hid hlook
                                  have HFr := Lib.hid (HF3.out.below HBr.out)
                                  have hbA : Below wr.heap.size wr (wr.alloc (.cells #[] 55)) := (Below.refl _ _).alloc (Nat.le_refl _) _
                                  have hownA : (wr.alloc (.cells #[] 55)).ownsRow wr.heap.size 55 2 (.slice (some ⟨wr.heap.size, 0, none⟩) 0 0) 0 [] := World.ownsRow_made wr #[] 0 (Nat.le_refl _) (by unfold maxLen; omega) rfl
                                  have HA := Lib.hid hbA
                                  have HOA := Lib.hid hownA
                                  clear hkn hnm hks hsk hall hlook hbA hownA
                                  (repeat' ((fail_if_success at_builtin); first | go_values | go_skip | go_guarded | go_step | go_upon | go_back))
                                  refine wp_appF rfl _ _ rfl wr.heap.size _ 0 [] rfl HOA.out fa fc ms rfl (HFr.out.below HA.out).row HFr.out.nil2 (by have := HNL.out.1; omega) (by simp) ?_
                                  intro v' w6 hown' hg'
                                  have hb6 : Below wr.heap.size wr w6 := HA.out.grown hg' (by simp) (fun k hk => (HOA.out.lt k hk).1)
                                  obtain ⟨a6, cc6, rfl, hc6, hn6, hR6⟩ := own_rowF (ms := ms) hown' (by simp) (by simp)
                                  obtain ⟨wA, hwA⟩ : ∃ x, x = wr := ⟨_, rfl⟩
                                  subst hwA
                                  have HB6 := Lib.hid hb6
                                  have HR6 := Lib.hid hR6
                                  have HC6 := Lib.hid (And.intro hc6 hn6)
                                  have HBA := HBr
                                  have HB36 := Lib.hid (HBA.out.trans (hb6.mono HBA.out.size))
                                  have b0 := blk_below HB36.out HB0.out (blk_lt HB0.out)
                                  have HOA6 : Hid (wA.heap[O5]? = some (.cells #[.int .i64 r.base, .int .i64 r.last, .int .i64 r.rep, .int .i64 r.torn] 44)) := HO
                                  have c12 := blk_cell b0 12
                                  simp only [List.getElem?_toArray, List.getElem?_cons_zero, List.getElem?_cons_succ] at c12
                                  obtain ⟨g2, o2, rfl, kk2⟩ := row_str (HHN.out.below HB36.out) (j := kn) (by have := HK.out.1; omega)
                                  have qn := kk2 _ _ HK.out.2.1
                                  have hwn : IntKind.i64.wrap ((r.needed.length : Int) - 1) = (kn : Int) := by rw [IntWalk.i64_in _ (by have := HLEN.out; omega)]; have := HK.out.1; omega
                                  have hkn : (kn : Int) < (r.needed.length : Int) := by have := HK.out.1; omega
                                  clear kk2 b0 hown' hg' hb6 hR6 hc6 hn6
                                  (repeat' ((fail_if_success at_builtin); first | go_values | go_skip | go_guarded | go_step | go_upon | go_back))
                                  clear qn hwn hkn c12
                                  go_loopw [10] (fun c wr => ∃ j : Nat, c = .int .i64 j ∧ j ≤ ms.length ∧ Below wA.heap.size wA wr ∧ Hid (RowF wr wA.heap.size a6 (cutL nm e ms j))) (fun c _ => ms.length - (intOf c).toNat)
                                  case atStart => exact ⟨0, rfl, Nat.zero_le _, HB6.out, by rw [cutL_zero]; exact HR6⟩
                                  case round =>
                                    obtain ⟨j, rfl, hj, hb, HRF⟩ := hrel
                                    have HBj := Lib.hid hb
                                    have hlI : (ms.length : Int) ≤ 200 := by have := HNL.out.1; omega
                                    have hl2 : (r.segs.length : Int) ≤ 200 := by have := HLEN.out; omega
                                    by_cases hlt : j < ms.length
                                    · as_aux_lemma =>
                                        have hlt' : (j : Int) < (ms.length : Int) := by omega
                                        obtain ⟨m, hm⟩ : ∃ m, ms[j]? = some m := ⟨_, List.getElem?_eq_getElem hlt⟩
                                        obtain ⟨g, o, rfl, hgn, hgl, kk⟩ := HRF.out.at (j := j) (by rw [cutL_len]; exact hlt)
                                        obtain ⟨q1, q2, q3, q4⟩ := kk j m (cutL_at hm)
                                        have HMJ := Lib.hid hm
                                        have HLT := Lib.hid hlt
                                        have HG := Lib.hid hgn
                                        obtain ⟨⟨nj, d⟩, da, dc⟩ := m
                                        dsimp only at q1 q2 HMJ
                                        clear kk hm hgn hgl
                                        by_cases hn : nj = nm
                                        · subst hn
                                          have hmem : (⟨(nj, d), da, dc⟩ : FBm) ∈ ms := List.mem_of_getElem? HMJ.out
                                          have hal := HALL.out (nj, d) (List.mem_map.2 ⟨_, hmem, rfl⟩) rfl
                                          have hbs := (HFr.out.bs _ hmem).le
                                          dsimp only at hal hbs
                                          have HAL := Lib.hid hal
                                          have hw2 : IntKind.i64.wrap ((d.length : Int) - r.torn) = (e : Int) := by rw [IntWalk.i64_in _ (by have := (HNL.out.2 _ hmem).1; dsimp only at this; have := HM.out; omega)]; exact hal.2
                                          have p3 := blk_cell (blk_below HBj.out HOA6.out (blk_lt HOA6.out)) 3
                                          have HBJ3 := Lib.hid (HBA.out.trans (HBj.out.mono HBA.out.size))
                                          have b0 := blk_below HBJ3.out HB0.out (blk_lt HB0.out)
                                          have c11 := blk_cell b0 11
                                          simp only [List.getElem?_toArray, List.getElem?_cons_zero, List.getElem?_cons_succ] at c11
                                          simp only [List.getElem?_toArray, List.getElem?_cons_zero, List.getElem?_cons_succ] at p3
                                          obtain ⟨g3, o3, rfl, kk3⟩ := row_seg (HHS.out.below HBJ3.out) (j := ks) (by have := HK.out.2.2.1; omega)
                                          obtain ⟨q5, q6⟩ := kk3 _ _ HK.out.2.2.2
                                          dsimp only at q5 q6
                                          have hws : IntKind.i64.wrap ((r.segs.length : Int) - 1) = (ks : Int) := by rw [IntWalk.i64_in _ (by omega)]; have := HK.out.2.2.1; omega
                                          have hks : (ks : Int) < (r.segs.length : Int) := by have := HK.out.2.2.1; omega
                                          have hed : (e : Int) ≤ (dc : Int) := by omega
                                          have hed2 : e ≤ dc := by omega
                                          clear kk3 b0 hal hbs hmem hb hlt hj
                                          (repeat' ((fail_if_success (with_reducible (show Code.wp _ (Code.region 32 _ _) _ _ _))); (fail_if_success at_builtin); first | go_values | go_skip | go_guarded | go_step | go_upon | go_back))
                                          go_region
                                          (repeat' ((fail_if_success at_builtin); first | go_values | go_skip | go_guarded | go_step | go_upon | go_back))
                                          go_roundw
                                          case rel =>
                                            refine ⟨j + 1, by go_num, by have := HLT.out; omega, (HBj.out.setCell (p := ⟨g, o + j * 2 + 1, none⟩) HG.out _).drew, Lib.hid ?_⟩
                                            have hp := HRF.out.put1 (cutL_at HMJ.out) ⟨(nj, d.take e), da, dc⟩ rfl
                                            dsimp only at hp
                                            rw [List.length_take, Nat.min_eq_left HAL.out.1] at hp
                                            rw [cutL_succ HMJ.out, show FBm.cut nj e ⟨(nj, d), da, dc⟩ = ⟨(nj, d.take e), da, dc⟩ from if_pos rfl]
                                            exact hp
                                          case measure => have := HLT.out; simp [intOf]; omega
                                        · have t1 : (nj == nm) = false := by simpa using hn
                                          clear hb hlt hj
                                          (repeat' ((fail_if_success at_builtin); first | go_values | go_skip | go_guarded | go_step | go_upon | go_back))
                                          go_roundw
                                          case rel => exact ⟨j + 1, by go_num, by have := HLT.out; omega, HBj.out, by rw [cutL_same HMJ.out hn]; exact HRF⟩
                                          case measure => have := HLT.out; simp [intOf]; omega
                                    · as_aux_lemma =>
                                        have hje : j = ms.length := by omega
                                        subst hje
                                        have hlt' : decide ((ms.length : Int) < (ms.length : Int)) = false := by simp
                                        have hlt2 : decide (ms.length < ms.length) = false := by simp
                                        have HRZ : Hid (RowF wr wA.heap.size a6 (ms.map (FBm.cut nm e))) := Lib.hid (by rw [← cutL_all]; exact HRF.out)
                                        have HB3r := Lib.hid (HBA.out.trans (HBj.out.mono HBA.out.size))
                                        have b0 := blk_below HB3r.out HB0.out (blk_lt HB0.out)
                                        have f4 := blk_free b0 4
                                        have b1 := blk_set b0 4 (.int .i64 0)
                                        have c4 := blk_cell b0 4
                                        simp only [List.getElem?_toArray, List.getElem?_cons_zero, List.getElem?_cons_succ] at c4
                                        simp only [List.setIfInBounds_toArray, List.set_cons_succ, List.set_cons_zero] at b1
                                        have hRA : R < wA.heap.size := Nat.lt_of_lt_of_le (blk_lt HB0.out) HBA.out.size
                                        have HRZ8 := Lib.hid (HRZ.out.other hRA 4 (.int .i64 0))
                                        have HB28 := Lib.hid ((HB23.out.trans (HB3r.out.mono (by have := blk_lt HB0.out; omega))).setCell (p := ⟨R, 4, none⟩) (Nat.le_refl R) (.int .i64 0))
                                        clear hj hb hlt b0 hRA HRF HBj HRZ
                                        (repeat' ((fail_if_success (with_reducible (show Code.wp _ (Code.region 37 _ _) _ _ _))); (fail_if_success at_builtin); first | go_values | go_skip | go_guarded | go_step | go_upon | go_back))
                                        clear c4 f4
                                        generalize wr.setCell ⟨R, 4, none⟩ (.int .i64 0) = w8 at b1 HRZ8 HB28 ⊢
                                        have hFZ : Files w8 a6 cc6 (ms.map (FBm.cut nm e)) := HRZ8.out.files (w0 := w8) (by rw [List.length_map]; exact HC6.out.1) HC6.out.2 (fun m hm => by
                                          obtain ⟨m0, hm0, rfl⟩ := List.mem_map.1 hm
                                          have hb0 := (HF2.out.bs m0 hm0).below (show Below w2.heap.size w2 w8 by rw [HR2.out]; exact HB28.out)
                                          unfold FBm.cut
                                          split
                                          · exact hb0.cut e
                                          · exact hb0)
                                        have hRV : RepR w8 { r with torn := 0 } (.slice sa r.segs.length sc) (.slice (some ⟨g2, o2, none⟩) r.needed.length nc) (.slice la r.left.length lc) (.slice oa r.others.length oc) := by
                                          have h := HV.out.below (show Below w2.heap.size w2 w8 by rw [HR2.out]; exact HB28.out)
                                          exact ⟨h.s, h.n, h.l, h.o⟩
                                        have HLK : Hid (∀ w', Below w8.heap.size w8 w' → ∀ Q' : Ending → World → Prop, (∀ sv nv lv ov w'', RepR w'' { r with torn := 0 } sv nv lv ov → Below w8.heap.size w8 w'' → Q' (.returned (.agg (RPc { r with torn := 0 } sv nv lv ov))) w'') → Calls Tryz.prog 24 #[.slice a6 ms.length cc6] w' Q') := Lib.hid (fun w' hw' Q' hQ' => by
                                          have h := alook_cps w' a6 cc6 (ms.map (FBm.cut nm e)) (hFZ.below hw') (by rw [List.length_map]; have := HNL.out.1; omega) (fun m hm => by
                                            obtain ⟨m0, hm0, rfl⟩ := List.mem_map.1 hm
                                            have := (HNL.out.2 m0 hm0).2
                                            unfold FBm.cut
                                            split <;> (try dsimp only) <;> omega) (fun m hm => by
                                            obtain ⟨m0, hm0, rfl⟩ := List.mem_map.1 hm
                                            have := (HNL.out.2 m0 hm0).1
                                            unfold FBm.cut
                                            split
                                            · dsimp only; rw [List.length_take]; omega
                                            · omega) Q' (fun sv nv lv ov w'' hv hb => by
                                              rw [cut_fs, HLOOK.out] at hv ⊢
                                              exact hQ' sv nv lv ov w'' hv.rows (hw'.trans (hb.mono hw'.size)))
                                          rw [List.length_map] at h
                                          exact h)
                                        have HSM : Hid (∀ w' sv nv lv ov, Below w8.heap.size w8 w' → RepR w' { r with torn := 0 } sv nv lv ov → ∀ Q' : Ending → World → Prop, (∀ w'', Below w8.heap.size w8 w'' → Q' (.returned (.bool true)) w'') → Calls Tryz.prog 25 #[.agg (RPc { r with torn := 0 } sv nv lv ov), .agg #[.int .i64 r.err, .int .i64 r.base, .int .i64 r.last, .int .i64 r.rep, .int .i64 0, .bool r.has, .int .i64 r.man.number, .int .i64 r.man.file, .int .i64 r.man.mark, .int .i64 r.man.prev, .int .i64 r.man.pmark, .slice sa r.segs.length sc, .slice (some ⟨g2, o2, none⟩) r.needed.length nc, .slice la r.left.length lc, .slice oa r.others.length oc]] w' Q') := Lib.hid (fun w' sv nv lv ov hw' hv Q' hQ' =>
                                          same_cps w' { r with torn := 0 } sv nv lv ov (.slice sa r.segs.length sc) (.slice (some ⟨g2, o2, none⟩) r.needed.length nc) (.slice la r.left.length lc) (.slice oa r.others.length oc) hv (hRV.below hw') (by have := HLEN.out; dsimp only; omega) (by have := HLEN.out; dsimp only; omega) (by have := HLEN.out; dsimp only; omega) (by have := HLEN.out; dsimp only; omega) Q' (fun w'' hb => hQ' w'' (hw'.trans (hb.mono hw'.size))))
                                        have HKN : Hid (∀ w', Below w8.heap.size w8 w' → ∀ Q' : Ending → World → Prop, (∀ w'', Below w8.heap.size w8 w'' → Q' (.returned (.bool true)) w'') → Calls Tryz.prog 28 #[] w' Q') := Lib.hid (fun w' hw' Q' hQ' => known_cps w' Q' (fun w'' hb => hQ' w'' (hw'.trans (hb.mono hw'.size))))
                                        have l8 := blk_lt b1
                                        have HFIN : Hid (∀ w', Below w8.heap.size w8 w' → Below w.heap.size w w') := Lib.hid (fun w' hw' => HW2.out.trans ((HB28.out.mono HR.out).trans (hw'.mono (by have := HW2.out.size; have := HB28.out.size; omega))))
                                        have c0 := blk_cell b1 0
                                        have c1 := blk_cell b1 1
                                        have c2 := blk_cell b1 2
                                        have c3 := blk_cell b1 3
                                        have c4 := blk_cell b1 4
                                        have c5 := blk_cell b1 5
                                        have c6 := blk_cell b1 6
                                        have c7 := blk_cell b1 7
                                        have c8 := blk_cell b1 8
                                        have c9 := blk_cell b1 9
                                        have c10 := blk_cell b1 10
                                        have c11 := blk_cell b1 11
                                        have c12 := blk_cell b1 12
                                        have c13 := blk_cell b1 13
                                        have c14 := blk_cell b1 14
                                        simp only [List.getElem?_toArray, List.getElem?_cons_zero, List.getElem?_cons_succ] at c0 c1 c2 c3 c4 c5 c6 c7 c8 c9 c10 c11 c12 c13 c14
                                        have HS : ∀ w', Below w8.heap.size w8 w' → (Below w8.heap.size w8 w' ∧ w'.cell? ⟨R, 0, none⟩ = some (.int .i64 r.err) ∧ w'.cell? ⟨R, 1, none⟩ = some (.int .i64 r.base) ∧ w'.cell? ⟨R, 2, none⟩ = some (.int .i64 r.last) ∧ w'.cell? ⟨R, 3, none⟩ = some (.int .i64 r.rep) ∧ w'.cell? ⟨R, 4, none⟩ = some (.int .i64 0) ∧ w'.cell? ⟨R, 5, none⟩ = some (.bool r.has) ∧ w'.cell? ⟨R, 6, none⟩ = some (.int .i64 r.man.number) ∧ w'.cell? ⟨R, 7, none⟩ = some (.int .i64 r.man.file) ∧ w'.cell? ⟨R, 8, none⟩ = some (.int .i64 r.man.mark) ∧ w'.cell? ⟨R, 9, none⟩ = some (.int .i64 r.man.prev) ∧ w'.cell? ⟨R, 10, none⟩ = some (.int .i64 r.man.pmark) ∧ w'.cell? ⟨R, 11, none⟩ = some (.slice sa r.segs.length sc) ∧ w'.cell? ⟨R, 12, none⟩ = some (.slice (some ⟨g2, o2, none⟩) r.needed.length nc) ∧ w'.cell? ⟨R, 13, none⟩ = some (.slice la r.left.length lc) ∧ w'.cell? ⟨R, 14, none⟩ = some (.slice oa r.others.length oc)) := fun w' hb =>
                                          ⟨hb, (hb.cell (p := ⟨R, 0, none⟩) l8).trans c0, (hb.cell (p := ⟨R, 1, none⟩) l8).trans c1, (hb.cell (p := ⟨R, 2, none⟩) l8).trans c2, (hb.cell (p := ⟨R, 3, none⟩) l8).trans c3, (hb.cell (p := ⟨R, 4, none⟩) l8).trans c4, (hb.cell (p := ⟨R, 5, none⟩) l8).trans c5, (hb.cell (p := ⟨R, 6, none⟩) l8).trans c6, (hb.cell (p := ⟨R, 7, none⟩) l8).trans c7, (hb.cell (p := ⟨R, 8, none⟩) l8).trans c8, (hb.cell (p := ⟨R, 9, none⟩) l8).trans c9, (hb.cell (p := ⟨R, 10, none⟩) l8).trans c10, (hb.cell (p := ⟨R, 11, none⟩) l8).trans c11, (hb.cell (p := ⟨R, 12, none⟩) l8).trans c12, (hb.cell (p := ⟨R, 13, none⟩) l8).trans c13, (hb.cell (p := ⟨R, 14, none⟩) l8).trans c14⟩
                                        clear hFZ hRV b1
                                        go_region_held3 (fun w' => Below w8.heap.size w8 w' ∧ w'.cell? ⟨R, 0, none⟩ = some (.int .i64 r.err) ∧ w'.cell? ⟨R, 1, none⟩ = some (.int .i64 r.base) ∧ w'.cell? ⟨R, 2, none⟩ = some (.int .i64 r.last) ∧ w'.cell? ⟨R, 3, none⟩ = some (.int .i64 r.rep) ∧ w'.cell? ⟨R, 4, none⟩ = some (.int .i64 0) ∧ w'.cell? ⟨R, 5, none⟩ = some (.bool r.has) ∧ w'.cell? ⟨R, 6, none⟩ = some (.int .i64 r.man.number) ∧ w'.cell? ⟨R, 7, none⟩ = some (.int .i64 r.man.file) ∧ w'.cell? ⟨R, 8, none⟩ = some (.int .i64 r.man.mark) ∧ w'.cell? ⟨R, 9, none⟩ = some (.int .i64 r.man.prev) ∧ w'.cell? ⟨R, 10, none⟩ = some (.int .i64 r.man.pmark) ∧ w'.cell? ⟨R, 11, none⟩ = some (.slice sa r.segs.length sc) ∧ w'.cell? ⟨R, 12, none⟩ = some (.slice (some ⟨g2, o2, none⟩) r.needed.length nc) ∧ w'.cell? ⟨R, 13, none⟩ = some (.slice la r.left.length lc) ∧ w'.cell? ⟨R, 14, none⟩ = some (.slice oa r.others.length oc)) (first | exact HS _ (by assumption) | exact HS _ (Below.refl _ _) | exact HS _ (Below.drew (Below.refl _ _)) | exact HS _ (Below.drew (by assumption)) | exact HS _ (bdrewN (by assumption) _) | exact HS _ (bdrewN (Below.refl _ _) _)) (first
                                          | (go_at_call 24; refine HLK.out _ (by first | assumption | exact Below.refl _ _ | exact Below.drew (Below.refl _ _) | exact Below.drew (by assumption) | exact bdrewN (by assumption) _ | exact bdrewN (Below.refl _ _) _) _ ?_; intro sv9 nv9 lv9 ov9 w9 hV9 hb9)
                                          | (go_at_call 25; refine HSM.out _ _ _ _ _ (by first | assumption | exact Below.refl _ _ | exact Below.drew (by assumption) | exact bdrewN (by assumption) _) (by first | assumption | exact RepR.below (by assumption) (Below.drew (Below.refl _ _)) | exact RepR.below (by assumption) (bdrewN (Below.refl _ _) _)) _ ?_; intro w10 hb10)
                                          | (go_at_call 28; refine HKN.out _ (by first | assumption | exact Below.refl _ _ | exact Below.drew (by assumption) | exact bdrewN (by assumption) _) _ ?_; intro w11 hb11))
                                        (repeat' ((fail_if_success at_builtin); first | go_values | go_skip | go_guarded | go_step | go_upon | go_back))
                                        exact HQ.out _ (HFIN.out _ (by assumption))
                        | false =>
                          as_aux_lemma =>
                            have g7 : (r.base != 0) = false := by rw [HM.out.2.2.2.2.2.1 hh]; rfl
                            rw [hh] at c5
                            clear hh
                            (repeat' ((fail_if_success at_builtin); first | go_values | go_skip | go_guarded | go_step | go_upon | go_back))
                            go_loopw [7] (fun c wr => ∃ j : Nat, c = .int .i64 j ∧ Below w3.heap.size w3 wr ∧ Hid (wr.heap[O5]? = some (.cells #[.int .i64 r.base, .int .i64 r.last, .int .i64 r.rep, .int .i64 r.torn] 44))) (fun c _ => r.segs.length - (intOf c).toNat)
                            case atStart => exact ⟨0, rfl, HX5.out, HO5⟩
                            case round =>
                              obtain ⟨j, rfl, hb, HO⟩ := hrel
                              have HBr := Lib.hid hb
                              have b0 := blk_below hb HB0.out (blk_lt HB0.out)
                              have hlI : (r.segs.length : Int) ≤ 1000000 := by have := HLEN.out; omega
                              have c11 := blk_cell b0 11
                              simp only [List.getElem?_toArray, List.getElem?_cons_zero, List.getElem?_cons_succ] at c11
                              clear b0
                              by_cases hlt : j < r.segs.length
                              · as_aux_lemma =>
                                  have hlt' : (j : Int) < (r.segs.length : Int) := by omega
                                  obtain ⟨x, hx⟩ : ∃ x, r.segs[j]? = some x := ⟨_, List.getElem?_eq_getElem hlt⟩
                                  obtain ⟨g, o, rfl, kk⟩ := row_seg (HHS.out.below hb) hlt
                                  obtain ⟨q1, q1b⟩ := kk _ _ hx
                                  have hs1 := HSG.out HE.out
                                  have t1 : decide (x.1 < 1) = false := decide_eq_false (by have := (hs1.1 _ _ hx).1; omega)
                                  have t2 : decide (x.2 < 0) = false := decide_eq_false (by have := (hs1.1 _ _ hx).2; omega)
                                  have HLT := Lib.hid hlt
                                  by_cases hj : j = 0
                                  · have t4 : decide ((0 : Int) < (j : Int)) = false := decide_eq_false (by omega)
                                    have t5 : decide (0 < j) = false := decide_eq_false (by omega)
                                    clear kk hx hs1 hb hlt hj
                                    (repeat' ((fail_if_success at_builtin); first | go_values | go_skip | go_guarded | go_step | go_upon | go_back))
                                    go_quiet (fail)
                                    (repeat' ((fail_if_success at_builtin); first | go_values | go_skip | go_guarded | go_step | go_upon | go_back))
                                    go_roundw
                                    case rel => exact ⟨j + 1, by go_num, bdrewN HBr.out _, HO⟩
                                    case measure => have := HLT.out; simp [intOf]; omega
                                  · obtain ⟨k, hk⟩ : ∃ k, k + 1 = j := ⟨j - 1, by omega⟩
                                    obtain ⟨y, hy⟩ : ∃ y, r.segs[k]? = some y := ⟨_, List.getElem?_eq_getElem (by omega)⟩
                                    obtain ⟨q2, q2b⟩ := kk _ _ hy
                                    have t3 : decide (x.1 ≤ y.1) = false := decide_eq_false (by have := hs1.2 _ _ _ _ hx hy (by omega); omega)
                                    have t4 : decide ((0 : Int) < (j : Int)) = true := decide_eq_true (by omega)
                                    have t5 : decide (0 < j) = true := decide_eq_true (by omega)
                                    have hwk : IntKind.i64.wrap ((j : Int) - 1) = (k : Int) := by rw [IntWalk.i64_in _ (by omega)]; omega
                                    have hkt : (k : Int) < (r.segs.length : Int) := by omega
                                    clear kk hx hy hs1 hb hlt hj hk
                                    (repeat' ((fail_if_success at_builtin); first | go_values | go_skip | go_guarded | go_step | go_upon | go_back))
                                    go_quiet (fail)
                                    (repeat' ((fail_if_success at_builtin); first | go_values | go_skip | go_guarded | go_step | go_upon | go_back))
                                    go_roundw
                                    case rel => exact ⟨j + 1, by go_num, bdrewN HBr.out _, HO⟩
                                    case measure => have := HLT.out; simp [intOf]; omega
                              · as_aux_lemma =>
                                  have hlt' : decide ((j : Int) < (r.segs.length : Int)) = false := decide_eq_false (by omega)
                                  have hlt2 : decide (j < r.segs.length) = false := decide_eq_false hlt
                                  clear hb hlt
                                  have p3 := blk_cell HO.out 3
                                  simp only [List.getElem?_toArray, List.getElem?_cons_zero, List.getElem?_cons_succ] at p3
                                  have g8 : (r.torn == 0) = false := beq_eq_false_iff_ne.2 HT.out
                                  obtain ⟨nm, e, kn, ks, f, hkn, hnm, hks, hsk, hall, hlook⟩ := HCUT.out HE.out HT.out
                                  have HK := Lib.hid (And.intro hkn (And.intro hnm (And.intro hks hsk)))
                                  have HALL := Lib.hid hall
                                  have HLOOK := Lib.hid hlook
                                  have HFr := Lib.hid (HF3.out.below HBr.out)
                                  have hbA : Below wr.heap.size wr (wr.alloc (.cells #[] 55)) := (Below.refl _ _).alloc (Nat.le_refl _) _
                                  have hownA : (wr.alloc (.cells #[] 55)).ownsRow wr.heap.size 55 2 (.slice (some ⟨wr.heap.size, 0, none⟩) 0 0) 0 [] := World.ownsRow_made wr #[] 0 (Nat.le_refl _) (by unfold maxLen; omega) rfl
                                  have HA := Lib.hid hbA
                                  have HOA := Lib.hid hownA
                                  clear hkn hnm hks hsk hall hlook hbA hownA
                                  (repeat' ((fail_if_success at_builtin); first | go_values | go_skip | go_guarded | go_step | go_upon | go_back))
                                  refine wp_appF rfl _ _ rfl wr.heap.size _ 0 [] rfl HOA.out fa fc ms rfl (HFr.out.below HA.out).row HFr.out.nil2 (by have := HNL.out.1; omega) (by simp) ?_
                                  intro v' w6 hown' hg'
                                  have hb6 : Below wr.heap.size wr w6 := HA.out.grown hg' (by simp) (fun k hk => (HOA.out.lt k hk).1)
                                  obtain ⟨a6, cc6, rfl, hc6, hn6, hR6⟩ := own_rowF (ms := ms) hown' (by simp) (by simp)
                                  obtain ⟨wA, hwA⟩ : ∃ x, x = wr := ⟨_, rfl⟩
                                  subst hwA
                                  have HB6 := Lib.hid hb6
                                  have HR6 := Lib.hid hR6
                                  have HC6 := Lib.hid (And.intro hc6 hn6)
                                  have HBA := HBr
                                  have HB36 := Lib.hid (HBA.out.trans (hb6.mono HBA.out.size))
                                  have b0 := blk_below HB36.out HB0.out (blk_lt HB0.out)
                                  have HOA6 : Hid (wA.heap[O5]? = some (.cells #[.int .i64 r.base, .int .i64 r.last, .int .i64 r.rep, .int .i64 r.torn] 44)) := HO
                                  have c12 := blk_cell b0 12
                                  simp only [List.getElem?_toArray, List.getElem?_cons_zero, List.getElem?_cons_succ] at c12
                                  obtain ⟨g2, o2, rfl, kk2⟩ := row_str (HHN.out.below HB36.out) (j := kn) (by have := HK.out.1; omega)
                                  have qn := kk2 _ _ HK.out.2.1
                                  have hwn : IntKind.i64.wrap ((r.needed.length : Int) - 1) = (kn : Int) := by rw [IntWalk.i64_in _ (by have := HLEN.out; omega)]; have := HK.out.1; omega
                                  have hkn : (kn : Int) < (r.needed.length : Int) := by have := HK.out.1; omega
                                  clear kk2 b0 hown' hg' hb6 hR6 hc6 hn6
                                  (repeat' ((fail_if_success at_builtin); first | go_values | go_skip | go_guarded | go_step | go_upon | go_back))
                                  clear qn hwn hkn c12
                                  go_loopw [10] (fun c wr => ∃ j : Nat, c = .int .i64 j ∧ j ≤ ms.length ∧ Below wA.heap.size wA wr ∧ Hid (RowF wr wA.heap.size a6 (cutL nm e ms j))) (fun c _ => ms.length - (intOf c).toNat)
                                  case atStart => exact ⟨0, rfl, Nat.zero_le _, HB6.out, by rw [cutL_zero]; exact HR6⟩
                                  case round =>
                                    obtain ⟨j, rfl, hj, hb, HRF⟩ := hrel
                                    have HBj := Lib.hid hb
                                    have hlI : (ms.length : Int) ≤ 200 := by have := HNL.out.1; omega
                                    have hl2 : (r.segs.length : Int) ≤ 200 := by have := HLEN.out; omega
                                    by_cases hlt : j < ms.length
                                    · as_aux_lemma =>
                                        have hlt' : (j : Int) < (ms.length : Int) := by omega
                                        obtain ⟨m, hm⟩ : ∃ m, ms[j]? = some m := ⟨_, List.getElem?_eq_getElem hlt⟩
                                        obtain ⟨g, o, rfl, hgn, hgl, kk⟩ := HRF.out.at (j := j) (by rw [cutL_len]; exact hlt)
                                        obtain ⟨q1, q2, q3, q4⟩ := kk j m (cutL_at hm)
                                        have HMJ := Lib.hid hm
                                        have HLT := Lib.hid hlt
                                        have HG := Lib.hid hgn
                                        obtain ⟨⟨nj, d⟩, da, dc⟩ := m
                                        dsimp only at q1 q2 HMJ
                                        clear kk hm hgn hgl
                                        by_cases hn : nj = nm
                                        · subst hn
                                          have hmem : (⟨(nj, d), da, dc⟩ : FBm) ∈ ms := List.mem_of_getElem? HMJ.out
                                          have hal := HALL.out (nj, d) (List.mem_map.2 ⟨_, hmem, rfl⟩) rfl
                                          have hbs := (HFr.out.bs _ hmem).le
                                          dsimp only at hal hbs
                                          have HAL := Lib.hid hal
                                          have hw2 : IntKind.i64.wrap ((d.length : Int) - r.torn) = (e : Int) := by rw [IntWalk.i64_in _ (by have := (HNL.out.2 _ hmem).1; dsimp only at this; have := HM.out; omega)]; exact hal.2
                                          have p3 := blk_cell (blk_below HBj.out HOA6.out (blk_lt HOA6.out)) 3
                                          have HBJ3 := Lib.hid (HBA.out.trans (HBj.out.mono HBA.out.size))
                                          have b0 := blk_below HBJ3.out HB0.out (blk_lt HB0.out)
                                          have c11 := blk_cell b0 11
                                          simp only [List.getElem?_toArray, List.getElem?_cons_zero, List.getElem?_cons_succ] at c11
                                          simp only [List.getElem?_toArray, List.getElem?_cons_zero, List.getElem?_cons_succ] at p3
                                          obtain ⟨g3, o3, rfl, kk3⟩ := row_seg (HHS.out.below HBJ3.out) (j := ks) (by have := HK.out.2.2.1; omega)
                                          obtain ⟨q5, q6⟩ := kk3 _ _ HK.out.2.2.2
                                          dsimp only at q5 q6
                                          have hws : IntKind.i64.wrap ((r.segs.length : Int) - 1) = (ks : Int) := by rw [IntWalk.i64_in _ (by omega)]; have := HK.out.2.2.1; omega
                                          have hks : (ks : Int) < (r.segs.length : Int) := by have := HK.out.2.2.1; omega
                                          have hed : (e : Int) ≤ (dc : Int) := by omega
                                          have hed2 : e ≤ dc := by omega
                                          clear kk3 b0 hal hbs hmem hb hlt hj
                                          (repeat' ((fail_if_success (with_reducible (show Code.wp _ (Code.region 32 _ _) _ _ _))); (fail_if_success at_builtin); first | go_values | go_skip | go_guarded | go_step | go_upon | go_back))
                                          go_region
                                          (repeat' ((fail_if_success at_builtin); first | go_values | go_skip | go_guarded | go_step | go_upon | go_back))
                                          go_roundw
                                          case rel =>
                                            refine ⟨j + 1, by go_num, by have := HLT.out; omega, (HBj.out.setCell (p := ⟨g, o + j * 2 + 1, none⟩) HG.out _).drew, Lib.hid ?_⟩
                                            have hp := HRF.out.put1 (cutL_at HMJ.out) ⟨(nj, d.take e), da, dc⟩ rfl
                                            dsimp only at hp
                                            rw [List.length_take, Nat.min_eq_left HAL.out.1] at hp
                                            rw [cutL_succ HMJ.out, show FBm.cut nj e ⟨(nj, d), da, dc⟩ = ⟨(nj, d.take e), da, dc⟩ from if_pos rfl]
                                            exact hp
                                          case measure => have := HLT.out; simp [intOf]; omega
                                        · have t1 : (nj == nm) = false := by simpa using hn
                                          clear hb hlt hj
                                          (repeat' ((fail_if_success at_builtin); first | go_values | go_skip | go_guarded | go_step | go_upon | go_back))
                                          go_roundw
                                          case rel => exact ⟨j + 1, by go_num, by have := HLT.out; omega, HBj.out, by rw [cutL_same HMJ.out hn]; exact HRF⟩
                                          case measure => have := HLT.out; simp [intOf]; omega
                                    · as_aux_lemma =>
                                        have hje : j = ms.length := by omega
                                        subst hje
                                        have hlt' : decide ((ms.length : Int) < (ms.length : Int)) = false := by simp
                                        have hlt2 : decide (ms.length < ms.length) = false := by simp
                                        have HRZ : Hid (RowF wr wA.heap.size a6 (ms.map (FBm.cut nm e))) := Lib.hid (by rw [← cutL_all]; exact HRF.out)
                                        have HB3r := Lib.hid (HBA.out.trans (HBj.out.mono HBA.out.size))
                                        have b0 := blk_below HB3r.out HB0.out (blk_lt HB0.out)
                                        have f4 := blk_free b0 4
                                        have b1 := blk_set b0 4 (.int .i64 0)
                                        have c4 := blk_cell b0 4
                                        simp only [List.getElem?_toArray, List.getElem?_cons_zero, List.getElem?_cons_succ] at c4
                                        simp only [List.setIfInBounds_toArray, List.set_cons_succ, List.set_cons_zero] at b1
                                        have hRA : R < wA.heap.size := Nat.lt_of_lt_of_le (blk_lt HB0.out) HBA.out.size
                                        have HRZ8 := Lib.hid (HRZ.out.other hRA 4 (.int .i64 0))
                                        have HB28 := Lib.hid ((HB23.out.trans (HB3r.out.mono (by have := blk_lt HB0.out; omega))).setCell (p := ⟨R, 4, none⟩) (Nat.le_refl R) (.int .i64 0))
                                        clear hj hb hlt b0 hRA HRF HBj HRZ
                                        (repeat' ((fail_if_success (with_reducible (show Code.wp _ (Code.region 37 _ _) _ _ _))); (fail_if_success at_builtin); first | go_values | go_skip | go_guarded | go_step | go_upon | go_back))
                                        clear c4 f4
                                        generalize wr.setCell ⟨R, 4, none⟩ (.int .i64 0) = w8 at b1 HRZ8 HB28 ⊢
                                        have hFZ : Files w8 a6 cc6 (ms.map (FBm.cut nm e)) := HRZ8.out.files (w0 := w8) (by rw [List.length_map]; exact HC6.out.1) HC6.out.2 (fun m hm => by
                                          obtain ⟨m0, hm0, rfl⟩ := List.mem_map.1 hm
                                          have hb0 := (HF2.out.bs m0 hm0).below (show Below w2.heap.size w2 w8 by rw [HR2.out]; exact HB28.out)
                                          unfold FBm.cut
                                          split
                                          · exact hb0.cut e
                                          · exact hb0)
                                        have hRV : RepR w8 { r with torn := 0 } (.slice sa r.segs.length sc) (.slice (some ⟨g2, o2, none⟩) r.needed.length nc) (.slice la r.left.length lc) (.slice oa r.others.length oc) := by
                                          have h := HV.out.below (show Below w2.heap.size w2 w8 by rw [HR2.out]; exact HB28.out)
                                          exact ⟨h.s, h.n, h.l, h.o⟩
                                        have HLK : Hid (∀ w', Below w8.heap.size w8 w' → ∀ Q' : Ending → World → Prop, (∀ sv nv lv ov w'', RepR w'' { r with torn := 0 } sv nv lv ov → Below w8.heap.size w8 w'' → Q' (.returned (.agg (RPc { r with torn := 0 } sv nv lv ov))) w'') → Calls Tryz.prog 24 #[.slice a6 ms.length cc6] w' Q') := Lib.hid (fun w' hw' Q' hQ' => by
                                          have h := alook_cps w' a6 cc6 (ms.map (FBm.cut nm e)) (hFZ.below hw') (by rw [List.length_map]; have := HNL.out.1; omega) (fun m hm => by
                                            obtain ⟨m0, hm0, rfl⟩ := List.mem_map.1 hm
                                            have := (HNL.out.2 m0 hm0).2
                                            unfold FBm.cut
                                            split <;> (try dsimp only) <;> omega) (fun m hm => by
                                            obtain ⟨m0, hm0, rfl⟩ := List.mem_map.1 hm
                                            have := (HNL.out.2 m0 hm0).1
                                            unfold FBm.cut
                                            split
                                            · dsimp only; rw [List.length_take]; omega
                                            · omega) Q' (fun sv nv lv ov w'' hv hb => by
                                              rw [cut_fs, HLOOK.out] at hv ⊢
                                              exact hQ' sv nv lv ov w'' hv.rows (hw'.trans (hb.mono hw'.size)))
                                          rw [List.length_map] at h
                                          exact h)
                                        have HSM : Hid (∀ w' sv nv lv ov, Below w8.heap.size w8 w' → RepR w' { r with torn := 0 } sv nv lv ov → ∀ Q' : Ending → World → Prop, (∀ w'', Below w8.heap.size w8 w'' → Q' (.returned (.bool true)) w'') → Calls Tryz.prog 25 #[.agg (RPc { r with torn := 0 } sv nv lv ov), .agg #[.int .i64 r.err, .int .i64 r.base, .int .i64 r.last, .int .i64 r.rep, .int .i64 0, .bool r.has, .int .i64 r.man.number, .int .i64 r.man.file, .int .i64 r.man.mark, .int .i64 r.man.prev, .int .i64 r.man.pmark, .slice sa r.segs.length sc, .slice (some ⟨g2, o2, none⟩) r.needed.length nc, .slice la r.left.length lc, .slice oa r.others.length oc]] w' Q') := Lib.hid (fun w' sv nv lv ov hw' hv Q' hQ' =>
                                          same_cps w' { r with torn := 0 } sv nv lv ov (.slice sa r.segs.length sc) (.slice (some ⟨g2, o2, none⟩) r.needed.length nc) (.slice la r.left.length lc) (.slice oa r.others.length oc) hv (hRV.below hw') (by have := HLEN.out; dsimp only; omega) (by have := HLEN.out; dsimp only; omega) (by have := HLEN.out; dsimp only; omega) (by have := HLEN.out; dsimp only; omega) Q' (fun w'' hb => hQ' w'' (hw'.trans (hb.mono hw'.size))))
                                        have HKN : Hid (∀ w', Below w8.heap.size w8 w' → ∀ Q' : Ending → World → Prop, (∀ w'', Below w8.heap.size w8 w'' → Q' (.returned (.bool true)) w'') → Calls Tryz.prog 28 #[] w' Q') := Lib.hid (fun w' hw' Q' hQ' => known_cps w' Q' (fun w'' hb => hQ' w'' (hw'.trans (hb.mono hw'.size))))
                                        have l8 := blk_lt b1
                                        have HFIN : Hid (∀ w', Below w8.heap.size w8 w' → Below w.heap.size w w') := Lib.hid (fun w' hw' => HW2.out.trans ((HB28.out.mono HR.out).trans (hw'.mono (by have := HW2.out.size; have := HB28.out.size; omega))))
                                        have c0 := blk_cell b1 0
                                        have c1 := blk_cell b1 1
                                        have c2 := blk_cell b1 2
                                        have c3 := blk_cell b1 3
                                        have c4 := blk_cell b1 4
                                        have c5 := blk_cell b1 5
                                        have c6 := blk_cell b1 6
                                        have c7 := blk_cell b1 7
                                        have c8 := blk_cell b1 8
                                        have c9 := blk_cell b1 9
                                        have c10 := blk_cell b1 10
                                        have c11 := blk_cell b1 11
                                        have c12 := blk_cell b1 12
                                        have c13 := blk_cell b1 13
                                        have c14 := blk_cell b1 14
                                        simp only [List.getElem?_toArray, List.getElem?_cons_zero, List.getElem?_cons_succ] at c0 c1 c2 c3 c4 c5 c6 c7 c8 c9 c10 c11 c12 c13 c14
                                        have HS : ∀ w', Below w8.heap.size w8 w' → (Below w8.heap.size w8 w' ∧ w'.cell? ⟨R, 0, none⟩ = some (.int .i64 r.err) ∧ w'.cell? ⟨R, 1, none⟩ = some (.int .i64 r.base) ∧ w'.cell? ⟨R, 2, none⟩ = some (.int .i64 r.last) ∧ w'.cell? ⟨R, 3, none⟩ = some (.int .i64 r.rep) ∧ w'.cell? ⟨R, 4, none⟩ = some (.int .i64 0) ∧ w'.cell? ⟨R, 5, none⟩ = some (.bool r.has) ∧ w'.cell? ⟨R, 6, none⟩ = some (.int .i64 r.man.number) ∧ w'.cell? ⟨R, 7, none⟩ = some (.int .i64 r.man.file) ∧ w'.cell? ⟨R, 8, none⟩ = some (.int .i64 r.man.mark) ∧ w'.cell? ⟨R, 9, none⟩ = some (.int .i64 r.man.prev) ∧ w'.cell? ⟨R, 10, none⟩ = some (.int .i64 r.man.pmark) ∧ w'.cell? ⟨R, 11, none⟩ = some (.slice sa r.segs.length sc) ∧ w'.cell? ⟨R, 12, none⟩ = some (.slice (some ⟨g2, o2, none⟩) r.needed.length nc) ∧ w'.cell? ⟨R, 13, none⟩ = some (.slice la r.left.length lc) ∧ w'.cell? ⟨R, 14, none⟩ = some (.slice oa r.others.length oc)) := fun w' hb =>
                                          ⟨hb, (hb.cell (p := ⟨R, 0, none⟩) l8).trans c0, (hb.cell (p := ⟨R, 1, none⟩) l8).trans c1, (hb.cell (p := ⟨R, 2, none⟩) l8).trans c2, (hb.cell (p := ⟨R, 3, none⟩) l8).trans c3, (hb.cell (p := ⟨R, 4, none⟩) l8).trans c4, (hb.cell (p := ⟨R, 5, none⟩) l8).trans c5, (hb.cell (p := ⟨R, 6, none⟩) l8).trans c6, (hb.cell (p := ⟨R, 7, none⟩) l8).trans c7, (hb.cell (p := ⟨R, 8, none⟩) l8).trans c8, (hb.cell (p := ⟨R, 9, none⟩) l8).trans c9, (hb.cell (p := ⟨R, 10, none⟩) l8).trans c10, (hb.cell (p := ⟨R, 11, none⟩) l8).trans c11, (hb.cell (p := ⟨R, 12, none⟩) l8).trans c12, (hb.cell (p := ⟨R, 13, none⟩) l8).trans c13, (hb.cell (p := ⟨R, 14, none⟩) l8).trans c14⟩
                                        clear hFZ hRV b1
                                        go_region_held3 (fun w' => Below w8.heap.size w8 w' ∧ w'.cell? ⟨R, 0, none⟩ = some (.int .i64 r.err) ∧ w'.cell? ⟨R, 1, none⟩ = some (.int .i64 r.base) ∧ w'.cell? ⟨R, 2, none⟩ = some (.int .i64 r.last) ∧ w'.cell? ⟨R, 3, none⟩ = some (.int .i64 r.rep) ∧ w'.cell? ⟨R, 4, none⟩ = some (.int .i64 0) ∧ w'.cell? ⟨R, 5, none⟩ = some (.bool r.has) ∧ w'.cell? ⟨R, 6, none⟩ = some (.int .i64 r.man.number) ∧ w'.cell? ⟨R, 7, none⟩ = some (.int .i64 r.man.file) ∧ w'.cell? ⟨R, 8, none⟩ = some (.int .i64 r.man.mark) ∧ w'.cell? ⟨R, 9, none⟩ = some (.int .i64 r.man.prev) ∧ w'.cell? ⟨R, 10, none⟩ = some (.int .i64 r.man.pmark) ∧ w'.cell? ⟨R, 11, none⟩ = some (.slice sa r.segs.length sc) ∧ w'.cell? ⟨R, 12, none⟩ = some (.slice (some ⟨g2, o2, none⟩) r.needed.length nc) ∧ w'.cell? ⟨R, 13, none⟩ = some (.slice la r.left.length lc) ∧ w'.cell? ⟨R, 14, none⟩ = some (.slice oa r.others.length oc)) (first | exact HS _ (by assumption) | exact HS _ (Below.refl _ _) | exact HS _ (Below.drew (Below.refl _ _)) | exact HS _ (Below.drew (by assumption)) | exact HS _ (bdrewN (by assumption) _) | exact HS _ (bdrewN (Below.refl _ _) _)) (first
                                          | (go_at_call 24; refine HLK.out _ (by first | assumption | exact Below.refl _ _ | exact Below.drew (Below.refl _ _) | exact Below.drew (by assumption) | exact bdrewN (by assumption) _ | exact bdrewN (Below.refl _ _) _) _ ?_; intro sv9 nv9 lv9 ov9 w9 hV9 hb9)
                                          | (go_at_call 25; refine HSM.out _ _ _ _ _ (by first | assumption | exact Below.refl _ _ | exact Below.drew (by assumption) | exact bdrewN (by assumption) _) (by first | assumption | exact RepR.below (by assumption) (Below.drew (Below.refl _ _)) | exact RepR.below (by assumption) (bdrewN (Below.refl _ _) _)) _ ?_; intro w10 hb10)
                                          | (go_at_call 28; refine HKN.out _ (by first | assumption | exact Below.refl _ _ | exact Below.drew (by assumption) | exact bdrewN (by assumption) _) _ ?_; intro w11 hb11))
                                        (repeat' ((fail_if_success at_builtin); first | go_values | go_skip | go_guarded | go_step | go_upon | go_back))
                                        exact HQ.out _ (HFIN.out _ (by assumption))
                · obtain ⟨h1, e1, e2, e3, e4, e5⟩ := HBAD.out he
                  rw [e1] at c1
                  rw [e2] at c2
                  rw [e3] at c3
                  rw [e4] at c4
                  rw [e5, List.length_nil] at c11
                  clear he e1 e2 e3 e4 e5
                  rcases h1 with h1 | h1
                  · rw [h1] at c0
                    clear h1
                    (repeat' ((fail_if_success at_builtin); first | go_values | go_skip | go_guarded | go_step | go_upon | go_back))
                    refine known_cps wr _ ?_
                    intro w9 hb9
                    dsimp only
                    (repeat' ((fail_if_success at_builtin); first | go_values | go_skip | go_guarded | go_step | go_upon | go_back))
                    exact HQ.out _ (HW3.out.trans ((HBX.out.trans (hb9.mono HBX.out.size)).mono HW3.out.size))
                  · rw [h1] at c0
                    clear h1
                    (repeat' ((fail_if_success at_builtin); first | go_values | go_skip | go_guarded | go_step | go_upon | go_back))
                    refine known_cps wr _ ?_
                    intro w9 hb9
                    dsimp only
                    (repeat' ((fail_if_success at_builtin); first | go_values | go_skip | go_guarded | go_step | go_upon | go_back))
                    exact HQ.out _ (HW3.out.trans ((HBX.out.trans (hb9.mono HBX.out.size)).mono HW3.out.size))
end Go.Proofs.YtbppnihcbcdglaaGreat
