/- treadlelaw20.AuditOrder. No condition. -/
import Derived.Test.YtbppnihcbcdglaaGreatZ50
import Derived.Test.YtbppnihcbcdglaaGreatZ51
import Derived.Test.YtbppnihcbcdglaaGreatY1
import Derived.BigQuiet
import Derived.Deep.CutBlock
import Derived.Deep.DeepCutAuto
import Derived.Laws.StructEq
namespace Go.Proofs.YtbppnihcbcdglaaGreat
open Go.RowKit
set_option linter.unusedVariables false
set_option linter.unusedSimpArgs false

set_option maxRecDepth 20000 in
set_option maxHeartbeats 8000000 in
theorem order_cps (w : World) (fa : Option Addr) (fc : Nat) (ms : List FBm) (ta : Option Addr) (tc : Nat) (turn : List Int) (oa : Option Addr) (oc : Nat) (oth : Bs) (hF : Files w fa fc ms) (hT : IntsC w ta turn) (hO : BS w oa oc oth)
    (Q : Ending → World → Prop) (hQ : ∀ w', Below w.heap.size w w' → Q (.returned (.bool true)) w') :
    Calls Tryz.prog 6 #[.slice fa ms.length fc, .slice ta turn.length tc, .slice oa oth.length oc] w Q := by
  have HF := Lib.hid hF
  have HT := Lib.hid hT
  have HO := Lib.hid hO
  have HQ := Lib.hid hQ
  clear hF hT hO hQ
  by_cases ho : 2097152 < oth.length
  · have t0 : decide ((2097152 : Int) < (oth.length : Int)) = true := decide_eq_true (by omega)
    clear ho
    go_enter Tryz.func6, Tryz.ntmps6
    (repeat' ((fail_if_success at_builtin); first | go_values | go_skip | go_guarded | go_step | go_upon | go_back))
    refine long_cps w fa fc ms HF.out _ ?_
    intro b hb
    cases b with
    | true =>
      dsimp only
      (repeat' ((fail_if_success at_builtin); first | go_values | go_skip | go_guarded | go_step | go_upon | go_back))
      exact HQ.out _ (Below.refl _ _)
    | false =>
      dsimp only
      (repeat' ((fail_if_success at_builtin); first | go_values | go_skip | go_guarded | go_step | go_upon | go_back))
      exact HQ.out _ (Below.refl _ _)
  · have t0 : decide ((2097152 : Int) < (oth.length : Int)) = false := decide_eq_false (by omega)
    have HOL : Hid (oth.length ≤ 2097152) := Lib.hid (by omega)
    clear ho
    go_enter Tryz.func6, Tryz.ntmps6
    (repeat' ((fail_if_success at_builtin); first | go_values | go_skip | go_guarded | go_step | go_upon | go_back))
    refine long_cps w fa fc ms HF.out _ ?_
    intro b hb
    cases b with
    | true =>
      dsimp only
      (repeat' ((fail_if_success at_builtin); first | go_values | go_skip | go_guarded | go_step | go_upon | go_back))
      exact HQ.out _ (Below.refl _ _)
    | false =>
      have HNL := Lib.hid (hb rfl)
      clear hb
      dsimp only
      (repeat' ((fail_if_success at_builtin); first | go_values | go_skip | go_guarded | go_step | go_upon | go_back))
      refine alook_cps w fa fc ms HF.out (by have := HNL.out.1; omega) (fun m hm => by have := (HNL.out.2 m hm).2; omega) (fun m hm => by have := (HNL.out.2 m hm).1; omega) _ ?_
      intro sv nv lv ov w2 hV hb2
      have HF2 := Lib.hid (HF.out.below hb2)
      have HT2 := Lib.hid (HT.out.below hb2)
      have HO2 := Lib.hid (HO.out.below hb2)
      have HW2 := Lib.hid hb2
      have hsh := look_short (ms.map FBm.f)
      obtain ⟨r, hr⟩ : ∃ r, lookF (ms.map FBm.f) = r := ⟨_, rfl⟩
      rw [hr] at hV hsh ⊢
      rw [List.length_map] at hsh
      have HLK := Lib.hid hr
      have HLEN : Hid (r.segs.length ≤ 200 ∧ r.needed.length ≤ 200 ∧ r.left.length ≤ 200 ∧ r.others.length ≤ 200) := Lib.hid (by have := HNL.out.1; omega)
      have HV := Lib.hid hV.rows
      obtain ⟨⟨sa, sc, rfl, hrs⟩, ⟨na, nc, rfl, hrn⟩, ⟨la, lc, rfl, hrl⟩, ⟨ra, rc, rfl, hro⟩⟩ := hV.rows
      unfold RPc
      dsimp only
      clear hr hV hsh
      have b0 := blk_new w2 (.cells #[.int .i64 r.err, .int .i64 r.base, .int .i64 r.last, .int .i64 r.rep, .int .i64 r.torn, .bool r.has, .int .i64 r.man.number, .int .i64 r.man.file, .int .i64 r.man.mark, .int .i64 r.man.prev, .int .i64 r.man.pmark, .slice sa r.segs.length sc, .slice na r.needed.length nc, .slice la r.left.length lc, .slice ra r.others.length rc] 50)
      have hb3 : Below w2.heap.size w2 (w2.alloc (.cells #[.int .i64 r.err, .int .i64 r.base, .int .i64 r.last, .int .i64 r.rep, .int .i64 r.torn, .bool r.has, .int .i64 r.man.number, .int .i64 r.man.file, .int .i64 r.man.mark, .int .i64 r.man.prev, .int .i64 r.man.pmark, .slice sa r.segs.length sc, .slice na r.needed.length nc, .slice la r.left.length lc, .slice ra r.others.length rc] 50)) := (Below.refl _ _).alloc (Nat.le_refl _) _
      (repeat' ((fail_if_success (with_reducible (show Code.wp _ (Code.region 4 _ _) _ _ _))); (fail_if_success at_builtin); first | go_values | go_skip | go_guarded | go_step | go_upon | go_back))
      generalize w2.alloc (.cells #[.int .i64 r.err, .int .i64 r.base, .int .i64 r.last, .int .i64 r.rep, .int .i64 r.torn, .bool r.has, .int .i64 r.man.number, .int .i64 r.man.file, .int .i64 r.man.mark, .int .i64 r.man.prev, .int .i64 r.man.pmark, .slice sa r.segs.length sc, .slice na r.needed.length nc, .slice la r.left.length lc, .slice ra r.others.length rc] 50) = w3 at b0 hb3 ⊢
      obtain ⟨R, hR⟩ : ∃ R, w2.heap.size = R := ⟨_, rfl⟩
      have HR2 := Lib.hid hR
      have hb23 := hb3
      rw [hR] at b0 hb23 ⊢
      have HB23 := Lib.hid hb23
      have HB0 := Lib.hid b0
      have HHN := Lib.hid (hrn.below hb3)
      have HHL := Lib.hid (hrl.below hb3)
      have HHO := Lib.hid (hro.below hb3)
      have HF3 := Lib.hid (HF2.out.below hb3)
      have HT3 := Lib.hid (HT2.out.below hb3)
      have HO3 := Lib.hid (HO2.out.below hb3)
      have HR : Hid (w.heap.size ≤ R) := Lib.hid (by rw [← hR]; exact hb2.size)
      have hbA : Below w3.heap.size w3 (w3.alloc (.cells #[] 55)) := (Below.refl _ _).alloc (Nat.le_refl _) _
      have hownA : (w3.alloc (.cells #[] 55)).ownsRow w3.heap.size 55 2 (.slice (some ⟨w3.heap.size, 0, none⟩) 0 0) 0 [] := World.ownsRow_made w3 #[] 0 (Nat.le_refl _) (by unfold maxLen; omega) rfl
      have HA := Lib.hid hbA
      have HOA := Lib.hid hownA
      clear hrs hrn hrl hro hb2 hb3 hb23 b0 hR hbA hownA
      (repeat' ((fail_if_success at_builtin); first | go_values | go_skip | go_guarded | go_step | go_upon | go_back))
      refine wp_appF rfl _ _ rfl w3.heap.size _ 0 [] rfl HOA.out fa fc ms rfl (HF3.out.below HA.out).row HF3.out.nil2 (by have := HNL.out.1; omega) (by simp) ?_
      intro v' w6 hown' hg'
      have hb6 : Below w3.heap.size w3 w6 := HA.out.grown hg' (by simp) (fun k hk => (HOA.out.lt k hk).1)
      obtain ⟨a6, cc6, rfl, hc6, hn6, hR6⟩ := own_rowF (ms := ms) hown' (by simp) (by simp)
      have HB6 := Lib.hid hb6
      have HR6 := Lib.hid hR6
      have HC6 := Lib.hid (And.intro hc6 hn6)
      clear hown' hg' hb6 hR6 hc6 hn6
      go_upto_block 0 with fail
      go_cut [9, 10, 11] (fun s9 s10 s11 wc => Below w3.heap.size w3 wc ∧ Hid (∃ ms1 : List FBm, ms1.Perm ms ∧ RowF wc w3.heap.size a6 ms1))
      case first =>
        as_aux_lemma =>
          (repeat' ((fail_if_success at_builtin); first | go_values | go_skip | go_guarded | go_step | go_upon | go_back))
          go_loopw [9] (fun c wr => ∃ j : Nat, c = .int .i64 j ∧ j ≤ ms.length ∧ Below w3.heap.size w3 wr ∧ Hid (∃ ms1 : List FBm, ms1.Perm ms ∧ RowF wr w3.heap.size a6 ms1)) (fun c _ => ms.length - (intOf c).toNat)
          case atStart => exact ⟨0, rfl, Nat.zero_le _, HB6.out, Lib.hid ⟨ms, List.Perm.refl _, HR6.out⟩⟩
          case round =>
            obtain ⟨j, rfl, hj, hb, HPR⟩ := hrel
            obtain ⟨ms1, hp, hRF⟩ := HPR.out
            have HBj := Lib.hid hb
            have hlI : (ms.length : Int) ≤ 200 := by have := HNL.out.1; omega
            have HP := Lib.hid hp
            have HRF := Lib.hid hRF
            have HL1 : Hid (ms1.length = ms.length) := Lib.hid hp.length_eq
            clear hp hRF HPR
            by_cases hlt : j < ms.length
            · by_cases hl2 : j < turn.length
              · as_aux_lemma =>
                  have hlt' : (j : Int) < (ms.length : Int) := by omega
                  have hlt2 : (j : Int) < (turn.length : Int) := by omega
                  have n1 : decide ((j : Int) < (turn.length : Int)) = true := decide_eq_true hlt2
                  have n2 : decide (j < turn.length) = true := decide_eq_true hl2
                  have n3 : decide (j < ms.length) = true := decide_eq_true hlt
                  have hne0 : ¬ (ms.length = 0) := by omega
                  have hne1 : ms ≠ [] := fun e => by rw [e] at hlt; cases hlt
                  obtain ⟨z, hz⟩ : ∃ z, turn[j]? = some z := ⟨_, List.getElem?_eq_getElem hl2⟩
                  obtain ⟨gt, ot, rfl, kt⟩ := (HT3.out.below hb).at hl2
                  have qt := kt _ _ hz
                  obtain ⟨m, hm⟩ : ∃ m, ms1[j]? = some m := ⟨_, List.getElem?_eq_getElem (by have := HL1.out; omega)⟩
                  obtain ⟨g, o, rfl, hgn, hgl, kk⟩ := HRF.out.at (j := j) (by have := HL1.out; omega)
                  obtain ⟨q1, q2, q3, q4⟩ := kk j m hm
                  have HG := Lib.hid hgn
                  have HMJ := Lib.hid hm
                  have HLT := Lib.hid hlt
                  have hmod := mod_idx z (n := ms.length) (by omega)
                  have hb1 : Below wr.heap.size wr (wr.alloc (.cells #[.string ⟨m.f.1.toArray⟩, .slice m.a m.f.2.length m.c] 55)) := (Below.refl _ _).alloc (Nat.le_refl _) _
                  have bx := blk_new wr (.cells #[.string ⟨m.f.1.toArray⟩, .slice m.a m.f.2.length m.c] 55)
                  by_cases hn : z.tmod (ms.length : Int) < 0
                  · as_aux_lemma =>
                      have t1 : decide (z.tmod (ms.length : Int) < 0) = true := decide_eq_true hn
                      obtain ⟨q, hq, hqe⟩ := hmod.1 hn
                      have hw : IntKind.i64.wrap (z.tmod (ms.length : Int) + (ms.length : Int)) = (q : Int) := by rw [hqe]; exact IntWalk.i64_in _ (by omega)
                      have hqI : (q : Int) < (ms.length : Int) := by omega
                      obtain ⟨mq, hmq⟩ : ∃ mq, ms1[q]? = some mq := ⟨_, List.getElem?_eq_getElem (by have := HL1.out; omega)⟩
                      have HMQ := Lib.hid hmq
                      have HQ2 := Lib.hid hq
                      clear kt hz hmod kk hm hmq hgn hlt hl2 hj hn hqe
                      (repeat' ((fail_if_success (with_reducible (show Code.wp _ (Code.region 12 _ _) _ _ _))); (fail_if_success at_builtin); first | go_values | go_skip | go_guarded | go_step | go_upon | go_back))
                      obtain ⟨X, hX⟩ : ∃ X, wr.heap.size = X := ⟨_, rfl⟩
                      have hRx := HRF.out.below hb1
                      generalize wr.alloc (.cells #[.string ⟨m.f.1.toArray⟩, .slice m.a m.f.2.length m.c] 55) = wx at hb1 bx hRx ⊢
                      rw [hX] at bx ⊢
                      have hgX : g ≠ X := by omega
                      have hsx := hb1.size
                      obtain ⟨g', o', ee, hg2, -, kx⟩ := hRx.at (j := j) (by have := HL1.out; have := HLT.out; omega)
                      cases ee
                      obtain ⟨q1, q2, q3, q4⟩ := kx j m HMJ.out
                      obtain ⟨s1, s2, -, -⟩ := kx q mq HMQ.out
                      have hRy : RowF ((wx.setCell ⟨g, o + j * 2, none⟩ (.string ⟨mq.f.1.toArray⟩)).setCell ⟨g, o + j * 2 + 1, none⟩ (.slice mq.a mq.f.2.length mq.c)) w3.heap.size (some ⟨g, o, none⟩) (ms1.set j mq) := hRx.put (by have := HL1.out; have := HLT.out; omega) mq
                      have by2 := blk_set_other (blk_set_other bx (Ne.symm hgX) (o + j * 2) (.string ⟨mq.f.1.toArray⟩)) (Ne.symm hgX) (o + j * 2 + 1) (.slice mq.a mq.f.2.length mq.c)
                      have hBy : Below w3.heap.size w3 ((wx.setCell ⟨g, o + j * 2, none⟩ (.string ⟨mq.f.1.toArray⟩)).setCell ⟨g, o + j * 2 + 1, none⟩ (.slice mq.a mq.f.2.length mq.c)) := ((HBj.out.trans (hb1.mono HBj.out.size)).setCell (p := ⟨g, o + j * 2, none⟩) HG.out _).setCell (p := ⟨g, o + j * 2 + 1, none⟩) HG.out _
                      have HRY := Lib.hid hRy
                      have HBY := Lib.hid hBy
                      have HXY := Lib.hid by2
                      clear hRy hBy by2 hRx bx hb1 kx hX hgX hsx hg2
                      (repeat' ((fail_if_success (with_reducible (show Code.wp _ (Code.region 13 _ _) _ _ _))); (fail_if_success at_builtin); first | go_values | go_skip | go_guarded | go_step | go_upon | go_back))
                      generalize ((wx.setCell ⟨g, o + j * 2, none⟩ (.string ⟨mq.f.1.toArray⟩)).setCell ⟨g, o + j * 2 + 1, none⟩ (.slice mq.a mq.f.2.length mq.c)) = wy at HRY HBY HXY ⊢
                      clear q1 q2 q3 q4 s1 s2
                      have x0 := blk_cell HXY.out 0
                      have x1 := blk_cell HXY.out 1
                      simp only [List.getElem?_toArray, List.getElem?_cons_zero, List.getElem?_cons_succ] at x0 x1
                      have hlq : q < (ms1.set j mq).length := by rw [List.length_set]; have := HL1.out; have := HQ2.out; omega
                      obtain ⟨g', o', ee, -, -, ky⟩ := HRY.out.at (j := q) hlq
                      cases ee
                      obtain ⟨me, hme⟩ : ∃ me, (ms1.set j mq)[q]? = some me := ⟨_, List.getElem?_eq_getElem hlq⟩
                      obtain ⟨s1, s2, s3, s4⟩ := ky q me hme
                      have hRz : RowF ((wy.setCell ⟨g, o + q * 2, none⟩ (.string ⟨m.f.1.toArray⟩)).setCell ⟨g, o + q * 2 + 1, none⟩ (.slice m.a m.f.2.length m.c)) w3.heap.size (some ⟨g, o, none⟩) ((ms1.set j mq).set q m) := HRY.out.put hlq m
                      have HRZ := Lib.hid hRz
                      clear ky hlq hRz hme
                      (repeat' ((fail_if_success at_builtin); first | go_values | go_skip | go_guarded | go_step | go_upon | go_back))
                      go_roundw
                      case rel => exact ⟨j + 1, by go_num, by have := HLT.out; omega, (HBY.out.setCell (p := ⟨g, o + q * 2, none⟩) HG.out _).setCell (p := ⟨g, o + q * 2 + 1, none⟩) HG.out _, Lib.hid ⟨_, (swap_perm HMJ.out HMQ.out).trans HP.out, HRZ.out⟩⟩
                      case measure => have := HLT.out; simp [intOf]; omega
                  · as_aux_lemma =>
                      have t1 : decide (z.tmod (ms.length : Int) < 0) = false := decide_eq_false hn
                      obtain ⟨q, hq, hqe⟩ := hmod.2 hn
                      have HQE := Lib.hid hqe
                      have hqI : (q : Int) < (ms.length : Int) := by omega
                      obtain ⟨mq, hmq⟩ : ∃ mq, ms1[q]? = some mq := ⟨_, List.getElem?_eq_getElem (by have := HL1.out; omega)⟩
                      have HMQ := Lib.hid hmq
                      have HQ2 := Lib.hid hq
                      clear kt hz hmod kk hm hmq hgn hlt hl2 hj hn hqe
                      (repeat' ((fail_if_success (with_reducible (show Code.wp _ (Code.region 12 _ _) _ _ _))); (fail_if_success at_builtin); first | go_values | go_skip | go_guarded | go_step | go_upon | go_back))
                      rw [HQE.out]
                      obtain ⟨X, hX⟩ : ∃ X, wr.heap.size = X := ⟨_, rfl⟩
                      have hRx := HRF.out.below hb1
                      generalize wr.alloc (.cells #[.string ⟨m.f.1.toArray⟩, .slice m.a m.f.2.length m.c] 55) = wx at hb1 bx hRx ⊢
                      rw [hX] at bx ⊢
                      have hgX : g ≠ X := by omega
                      have hsx := hb1.size
                      obtain ⟨g', o', ee, hg2, -, kx⟩ := hRx.at (j := j) (by have := HL1.out; have := HLT.out; omega)
                      cases ee
                      obtain ⟨q1, q2, q3, q4⟩ := kx j m HMJ.out
                      obtain ⟨s1, s2, -, -⟩ := kx q mq HMQ.out
                      have hRy : RowF ((wx.setCell ⟨g, o + j * 2, none⟩ (.string ⟨mq.f.1.toArray⟩)).setCell ⟨g, o + j * 2 + 1, none⟩ (.slice mq.a mq.f.2.length mq.c)) w3.heap.size (some ⟨g, o, none⟩) (ms1.set j mq) := hRx.put (by have := HL1.out; have := HLT.out; omega) mq
                      have by2 := blk_set_other (blk_set_other bx (Ne.symm hgX) (o + j * 2) (.string ⟨mq.f.1.toArray⟩)) (Ne.symm hgX) (o + j * 2 + 1) (.slice mq.a mq.f.2.length mq.c)
                      have hBy : Below w3.heap.size w3 ((wx.setCell ⟨g, o + j * 2, none⟩ (.string ⟨mq.f.1.toArray⟩)).setCell ⟨g, o + j * 2 + 1, none⟩ (.slice mq.a mq.f.2.length mq.c)) := ((HBj.out.trans (hb1.mono HBj.out.size)).setCell (p := ⟨g, o + j * 2, none⟩) HG.out _).setCell (p := ⟨g, o + j * 2 + 1, none⟩) HG.out _
                      have HRY := Lib.hid hRy
                      have HBY := Lib.hid hBy
                      have HXY := Lib.hid by2
                      clear hRy hBy by2 hRx bx hb1 kx hX hgX hsx hg2
                      (repeat' ((fail_if_success (with_reducible (show Code.wp _ (Code.region 13 _ _) _ _ _))); (fail_if_success at_builtin); first | go_values | go_skip | go_guarded | go_step | go_upon | go_back))
                      generalize ((wx.setCell ⟨g, o + j * 2, none⟩ (.string ⟨mq.f.1.toArray⟩)).setCell ⟨g, o + j * 2 + 1, none⟩ (.slice mq.a mq.f.2.length mq.c)) = wy at HRY HBY HXY ⊢
                      clear q1 q2 q3 q4 s1 s2
                      have x0 := blk_cell HXY.out 0
                      have x1 := blk_cell HXY.out 1
                      simp only [List.getElem?_toArray, List.getElem?_cons_zero, List.getElem?_cons_succ] at x0 x1
                      have hlq : q < (ms1.set j mq).length := by rw [List.length_set]; have := HL1.out; have := HQ2.out; omega
                      obtain ⟨g', o', ee, -, -, ky⟩ := HRY.out.at (j := q) hlq
                      cases ee
                      obtain ⟨me, hme⟩ : ∃ me, (ms1.set j mq)[q]? = some me := ⟨_, List.getElem?_eq_getElem hlq⟩
                      obtain ⟨s1, s2, s3, s4⟩ := ky q me hme
                      have hRz : RowF ((wy.setCell ⟨g, o + q * 2, none⟩ (.string ⟨m.f.1.toArray⟩)).setCell ⟨g, o + q * 2 + 1, none⟩ (.slice m.a m.f.2.length m.c)) w3.heap.size (some ⟨g, o, none⟩) ((ms1.set j mq).set q m) := HRY.out.put hlq m
                      have HRZ := Lib.hid hRz
                      clear ky hlq hRz hme
                      (repeat' ((fail_if_success at_builtin); first | go_values | go_skip | go_guarded | go_step | go_upon | go_back))
                      go_roundw
                      case rel => exact ⟨j + 1, by go_num, by have := HLT.out; omega, (HBY.out.setCell (p := ⟨g, o + q * 2, none⟩) HG.out _).setCell (p := ⟨g, o + q * 2 + 1, none⟩) HG.out _, Lib.hid ⟨_, (swap_perm HMJ.out HMQ.out).trans HP.out, HRZ.out⟩⟩
                      case measure => have := HLT.out; simp [intOf]; omega
              · as_aux_lemma =>
                  have hlt' : (j : Int) < (ms.length : Int) := by omega
                  have n1 : decide ((j : Int) < (turn.length : Int)) = false := decide_eq_false (by omega)
                  have n2 : decide (j < turn.length) = false := decide_eq_false hl2
                  have n3 : decide (j < ms.length) = true := decide_eq_true hlt
                  clear hb hlt hl2 hj
                  (repeat' ((fail_if_success at_builtin); first | go_values | go_skip | go_guarded | go_step | go_upon | go_back))
                  go_meet
                  case rel => exact ⟨HBj.out, Lib.hid ⟨ms1, HP.out, HRF.out⟩⟩
            · as_aux_lemma =>
                have hje : j = ms.length := by omega
                subst hje
                have hlt' : decide ((ms.length : Int) < (ms.length : Int)) = false := by simp
                have hlt2 : decide (ms.length < ms.length) = false := by simp
                clear hb hlt hj
                (repeat' ((fail_if_success at_builtin); first | go_values | go_skip | go_guarded | go_step | go_upon | go_back))
                go_meet
                case rel => exact ⟨HBj.out, Lib.hid ⟨ms1, HP.out, HRF.out⟩⟩
      case rest =>
        obtain ⟨hbc, hmc⟩ := hcut
        obtain ⟨ms1, hp, hRF⟩ := hmc.out
        obtain ⟨w7, hw7⟩ : ∃ x, x = wc := ⟨_, rfl⟩
        subst hw7
        have HB7 := Lib.hid hbc
        have HP := Lib.hid hp
        have HR1 := Lib.hid hRF
        have HL1 : Hid (ms1.length = ms.length) := Lib.hid hp.length_eq
        have HF1 : Hid (Files w7 a6 cc6 ms1) := Lib.hid (hRF.files (w0 := w7) (by rw [hp.length_eq]; exact HC6.out.1) HC6.out.2 (fun m hm => (HF3.out.bs m (hp.mem_iff.1 hm)).below hbc))
        have HSML : Hid (∀ m ∈ ms1, m.f.2.length ≤ 2097152 ∧ m.f.1.length ≤ 1000) := Lib.hid (fun m hm => HNL.out.2 m (hp.mem_iff.1 hm))
        have HLK1 : Hid (lookF (ms1.map FBm.f) = r) := Lib.hid ((look_perm (hp.symm.map FBm.f)).trans HLK.out)
        have HRV : Hid (∀ w', Below R w2 w' → RepR w' r (.slice sa r.segs.length sc) (.slice na r.needed.length nc) (.slice la r.left.length lc) (.slice ra r.others.length rc)) := Lib.hid (fun w' hw' => HV.out.below (by rw [HR2.out]; exact hw'))
        have HB27 : Hid (Below R w2 w7) := Lib.hid (HB23.out.trans (hbc.mono (by have := blk_lt HB0.out; omega)))
        have HB07 := Lib.hid (blk_below hbc HB0.out (blk_lt HB0.out))
        clear hbc hmc hp hRF
        have HLA : Hid (∀ w', Below w7.heap.size w7 w' → ∀ Q' : Ending → World → Prop, (∀ sv nv lv ov w'', RepR w'' r sv nv lv ov → Below w7.heap.size w7 w'' → Q' (.returned (.agg (RPc r sv nv lv ov))) w'') → Calls Tryz.prog 24 #[.slice a6 ms.length cc6] w' Q') := Lib.hid (fun w' hw' Q' hQ' => by
          have h := alook_cps w' a6 cc6 ms1 (HF1.out.below hw') (by rw [HL1.out]; have := HNL.out.1; omega) (fun m hm => by have := (HSML.out m hm).2; omega) (fun m hm => by have := (HSML.out m hm).1; omega) Q' (fun sv nv lv ov w'' hv hb => by
            rw [HLK1.out] at hv ⊢
            exact hQ' sv nv lv ov w'' hv.rows (hw'.trans (hb.mono hw'.size)))
          rw [HL1.out] at h
          exact h)
        have HSM : Hid (∀ w' sv nv lv ov, Below w7.heap.size w7 w' → RepR w' r sv nv lv ov → ∀ Q' : Ending → World → Prop, (∀ w'', Below w7.heap.size w7 w'' → Q' (.returned (.bool true)) w'') → Calls Tryz.prog 25 #[.agg (RPc r sv nv lv ov), .agg #[.int .i64 r.err, .int .i64 r.base, .int .i64 r.last, .int .i64 r.rep, .int .i64 r.torn, .bool r.has, .int .i64 r.man.number, .int .i64 r.man.file, .int .i64 r.man.mark, .int .i64 r.man.prev, .int .i64 r.man.pmark, .slice sa r.segs.length sc, .slice na r.needed.length nc, .slice la r.left.length lc, .slice ra r.others.length rc]] w' Q') := Lib.hid (fun w' sv nv lv ov hw' hv Q' hQ' =>
          same_cps w' r sv nv lv ov (.slice sa r.segs.length sc) (.slice na r.needed.length nc) (.slice la r.left.length lc) (.slice ra r.others.length rc) hv (HRV.out w' (HB27.out.trans (hw'.mono (by have := blk_lt HB07.out; omega)))) (by have := HLEN.out; omega) (by have := HLEN.out; omega) (by have := HLEN.out; omega) (by have := HLEN.out; omega) Q' (fun w'' hb => hQ' w'' (hw'.trans (hb.mono hw'.size))))
        have l7 := blk_lt HB07.out
        have c0 := blk_cell HB07.out 0
        have c1 := blk_cell HB07.out 1
        have c2 := blk_cell HB07.out 2
        have c3 := blk_cell HB07.out 3
        have c4 := blk_cell HB07.out 4
        have c5 := blk_cell HB07.out 5
        have c6 := blk_cell HB07.out 6
        have c7 := blk_cell HB07.out 7
        have c8 := blk_cell HB07.out 8
        have c9 := blk_cell HB07.out 9
        have c10 := blk_cell HB07.out 10
        have c11 := blk_cell HB07.out 11
        have c12 := blk_cell HB07.out 12
        have c13 := blk_cell HB07.out 13
        have c14 := blk_cell HB07.out 14
        simp only [List.getElem?_toArray, List.getElem?_cons_zero, List.getElem?_cons_succ] at c0 c1 c2 c3 c4 c5 c6 c7 c8 c9 c10 c11 c12 c13 c14
        have HS : ∀ w', Below w7.heap.size w7 w' → (Below w7.heap.size w7 w' ∧ w'.cell? ⟨R, 0, none⟩ = some (.int .i64 r.err) ∧ w'.cell? ⟨R, 1, none⟩ = some (.int .i64 r.base) ∧ w'.cell? ⟨R, 2, none⟩ = some (.int .i64 r.last) ∧ w'.cell? ⟨R, 3, none⟩ = some (.int .i64 r.rep) ∧ w'.cell? ⟨R, 4, none⟩ = some (.int .i64 r.torn) ∧ w'.cell? ⟨R, 5, none⟩ = some (.bool r.has) ∧ w'.cell? ⟨R, 6, none⟩ = some (.int .i64 r.man.number) ∧ w'.cell? ⟨R, 7, none⟩ = some (.int .i64 r.man.file) ∧ w'.cell? ⟨R, 8, none⟩ = some (.int .i64 r.man.mark) ∧ w'.cell? ⟨R, 9, none⟩ = some (.int .i64 r.man.prev) ∧ w'.cell? ⟨R, 10, none⟩ = some (.int .i64 r.man.pmark) ∧ w'.cell? ⟨R, 11, none⟩ = some (.slice sa r.segs.length sc) ∧ w'.cell? ⟨R, 12, none⟩ = some (.slice na r.needed.length nc) ∧ w'.cell? ⟨R, 13, none⟩ = some (.slice la r.left.length lc) ∧ w'.cell? ⟨R, 14, none⟩ = some (.slice ra r.others.length rc)) := fun w' hb =>
          ⟨hb, (hb.cell (p := ⟨R, 0, none⟩) l7).trans c0, (hb.cell (p := ⟨R, 1, none⟩) l7).trans c1, (hb.cell (p := ⟨R, 2, none⟩) l7).trans c2, (hb.cell (p := ⟨R, 3, none⟩) l7).trans c3, (hb.cell (p := ⟨R, 4, none⟩) l7).trans c4, (hb.cell (p := ⟨R, 5, none⟩) l7).trans c5, (hb.cell (p := ⟨R, 6, none⟩) l7).trans c6, (hb.cell (p := ⟨R, 7, none⟩) l7).trans c7, (hb.cell (p := ⟨R, 8, none⟩) l7).trans c8, (hb.cell (p := ⟨R, 9, none⟩) l7).trans c9, (hb.cell (p := ⟨R, 10, none⟩) l7).trans c10, (hb.cell (p := ⟨R, 11, none⟩) l7).trans c11, (hb.cell (p := ⟨R, 12, none⟩) l7).trans c12, (hb.cell (p := ⟨R, 13, none⟩) l7).trans c13, (hb.cell (p := ⟨R, 14, none⟩) l7).trans c14⟩
        go_upto_region 14 with fail
        go_cut [79] (fun s79 wx => s79 = .bool (r.err == 1) ∧ Below w7.heap.size w7 wx)
        case first =>
          as_aux_lemma =>
            obtain ⟨bb, hbb⟩ : ∃ bb, (r.err == 1) = bb := ⟨_, rfl⟩
            go_region_held3 (fun w' => Below w7.heap.size w7 w' ∧ w'.cell? ⟨R, 0, none⟩ = some (.int .i64 r.err) ∧ w'.cell? ⟨R, 1, none⟩ = some (.int .i64 r.base) ∧ w'.cell? ⟨R, 2, none⟩ = some (.int .i64 r.last) ∧ w'.cell? ⟨R, 3, none⟩ = some (.int .i64 r.rep) ∧ w'.cell? ⟨R, 4, none⟩ = some (.int .i64 r.torn) ∧ w'.cell? ⟨R, 5, none⟩ = some (.bool r.has) ∧ w'.cell? ⟨R, 6, none⟩ = some (.int .i64 r.man.number) ∧ w'.cell? ⟨R, 7, none⟩ = some (.int .i64 r.man.file) ∧ w'.cell? ⟨R, 8, none⟩ = some (.int .i64 r.man.mark) ∧ w'.cell? ⟨R, 9, none⟩ = some (.int .i64 r.man.prev) ∧ w'.cell? ⟨R, 10, none⟩ = some (.int .i64 r.man.pmark) ∧ w'.cell? ⟨R, 11, none⟩ = some (.slice sa r.segs.length sc) ∧ w'.cell? ⟨R, 12, none⟩ = some (.slice na r.needed.length nc) ∧ w'.cell? ⟨R, 13, none⟩ = some (.slice la r.left.length lc) ∧ w'.cell? ⟨R, 14, none⟩ = some (.slice ra r.others.length rc)) (first | exact HS _ (by assumption) | exact HS _ (Below.refl _ _) | exact HS _ (Below.drew (Below.refl _ _)) | exact HS _ (Below.drew (by assumption)) | exact HS _ (bdrewN (by assumption) _) | exact HS _ (bdrewN (Below.refl _ _) _)) (first
              | (go_at_call 24; refine HLA.out _ (by first | assumption | exact Below.refl _ _ | exact Below.drew (Below.refl _ _) | exact Below.drew (by assumption) | exact bdrewN (by assumption) _ | exact bdrewN (Below.refl _ _) _) _ ?_; intro sv9 nv9 lv9 ov9 w9 hV9 hb9)
              | (go_at_call 25; refine HSM.out _ _ _ _ _ (by first | assumption | exact Below.refl _ _ | exact Below.drew (Below.refl _ _) | exact Below.drew (by assumption) | exact bdrewN (by assumption) _ | exact bdrewN (Below.refl _ _) _) (by first | assumption | exact RepR.below (by assumption) (Below.drew (Below.refl _ _)) | exact RepR.below (by assumption) (bdrewN (Below.refl _ _) _)) _ ?_; intro w10 hb10))
            (repeat' ((fail_if_success at_builtin); first | go_values | go_skip | go_guarded | go_step | go_upon | go_back))
            go_meet
            case rel => exact ⟨by rw [hbb], by assumption⟩
        case rest =>
          obtain ⟨he79, hb7⟩ := hcut
          subst he79
          obtain ⟨w8, hw8⟩ : ∃ x, x = wc := ⟨_, rfl⟩
          subst hw8
          have HB78 := Lib.hid hb7
          have HB38 := Lib.hid (HB7.out.trans (hb7.mono HB7.out.size))
          have HB08 := Lib.hid (blk_below hb7 HB07.out (blk_lt HB07.out))
          have HF8 := Lib.hid (HF1.out.below hb7)
          clear hb7 HS l7 c0 c1 c2 c3 c4 c5 c6 c7 c8 c9 c10 c11 c12 c13 c14
          have c0 := blk_cell HB08.out 0
          have c11 := blk_cell HB08.out 11
          have c12 := blk_cell HB08.out 12
          have c13 := blk_cell HB08.out 13
          have c14 := blk_cell HB08.out 14
          simp only [List.getElem?_toArray, List.getElem?_cons_zero, List.getElem?_cons_succ] at c0 c11 c12 c13 c14
          by_cases he1 : r.err = 1
          · as_aux_lemma =>
              have t1 : (r.err == 1) = true := by rw [he1]; rfl
              have ha : r = Rp.arg := by rw [← HLK.out]; exact look_arg (by rw [HLK.out]; exact he1)
              have l1 : r.needed.length = 0 := by rw [ha]; rfl
              have l2 : r.left.length = 0 := by rw [ha]; rfl
              have l3 : r.others.length = 0 := by rw [ha]; rfl
              have l4 : r.segs.length = 0 := by rw [ha]; rfl
              rw [l1] at c12
              rw [l2] at c13
              rw [l3] at c14
              rw [l4] at c11
              rw [he1] at c0
              clear ha l1 l2 l3 l4 he1
              (repeat' ((fail_if_success at_builtin); first | go_values | go_skip | go_guarded | go_step | go_upon | go_back))
              refine known_cps w8 _ ?_
              intro w9 hb9
              dsimp only
              (repeat' ((fail_if_success at_builtin); first | go_values | go_skip | go_guarded | go_step | go_upon | go_back))
              exact HQ.out _ (HW2.out.trans ((HB27.out.trans ((HB78.out.trans (hb9.mono HB78.out.size)).mono (by have := blk_lt HB07.out; omega))).mono HR.out))
          · as_aux_lemma =>
              have t1 : (r.err == 1) = false := beq_eq_false_iff_ne.2 he1
              have hof := order_facts (fs := ms1.map FBm.f) (by rw [HLK1.out]; exact he1) oth
              have hct := (look_count (fs := ms1.map FBm.f) (by rw [HLK1.out]; exact he1)).2.2.1
              rw [HLK1.out] at hof hct
              rw [List.length_map, HL1.out] at hct
              have HOF := Lib.hid hof
              have hw1 : IntKind.i64.wrap ((r.needed.length : Int) + (r.left.length : Int)) = (r.needed.length : Int) + (r.left.length : Int) := IntWalk.i64_in _ (by have := HLEN.out; omega)
              have hw2 : IntKind.i64.wrap ((r.needed.length : Int) + (r.left.length : Int) + (r.others.length : Int)) = (r.needed.length : Int) + (r.left.length : Int) + (r.others.length : Int) := IntWalk.i64_in _ (by have := HLEN.out; omega)
              have hsum : ((r.needed.length : Int) + (r.left.length : Int) + (r.others.length : Int) != (ms.length : Int)) = false := by
                rw [show (r.needed.length : Int) + (r.left.length : Int) + (r.others.length : Int) = (ms.length : Int) by omega]; simp
              have HGL : Hid (∀ g o, a6 = some ⟨g, o, none⟩ → ms1 ≠ [] → g < w8.heap.size) := Lib.hid (fun g o e hne => by
                have hs := HB78.out.size
                rcases HR1.out with h | ⟨g', o', cur, e', -, hh, -⟩
                · exact absurd h hne
                · rw [e] at e'; cases e'; have := blk_lt hh; omega)
              have HR8 := Lib.hid (HR1.out.below HB78.out)
              clear hof hct he1
              rw [t1]
              (repeat' ((fail_if_success at_builtin); first | go_values | go_skip | go_guarded | go_step | go_upon | go_back))
              clear hw1 hw2 hsum c0 c11 c12 c13 c14 t1
              go_loopw [12, 13] (fun fv c wr => ∃ j : Nat, c = .int .i64 j ∧ j ≤ ms.length ∧ Below w3.heap.size w3 wr ∧ w8.heap.size ≤ wr.heap.size ∧ Hid (RowF wr w3.heap.size a6 (mapL (updM r.needed oth oa oc) ms1 j)) ∧ Hid (wr.ownsRow w8.heap.size 55 2 fv ((fewL r.needed r.others oth oa oc ms1 j)).length (((fewL r.needed r.others oth oa oc ms1 j)).flatMap FBm.row))) (fun _ c _ => ms.length - (intOf c).toNat)
              case atStart => exact ⟨0, rfl, Nat.zero_le _, HB38.out, Nat.le_refl _, Lib.hid (by rw [mapL_zero]; exact HR8.out), Lib.hid (World.ownsRow_nil _ _ _ _)⟩
              case round =>
                obtain ⟨j, rfl, hj, hb, hsz, HRF, HOF2⟩ := hrel
                obtain ⟨wo, hwo⟩ : ∃ x, x = wr := ⟨_, rfl⟩
                subst hwo
                have HBo := Lib.hid hb
                have HSZ := Lib.hid hsz
                have hlI : (ms.length : Int) ≤ 200 := by have := HNL.out.1; omega
                by_cases hlt : j < ms.length
                · as_aux_lemma =>
                    have hlt' : (j : Int) < (ms.length : Int) := by omega
                    obtain ⟨m, hm⟩ : ∃ m, ms1[j]? = some m := ⟨_, List.getElem?_eq_getElem (by have := HL1.out; omega)⟩
                    have HMJ := Lib.hid hm
                    have HLT := Lib.hid hlt
                    clear hm hb hsz hlt hj
                    (repeat' ((fail_if_success at_builtin); first | go_values | go_skip | go_guarded | go_step | go_upon | go_back))
                    go_loopw [14, 15] (fun nb c wr => ∃ k : Nat, nb = .bool (inB (r.needed.take k) m.f.1) ∧ c = .int .i64 k ∧ k ≤ r.needed.length ∧ Below wo.heap.size wo wr) (fun _ c _ => r.needed.length - (intOf c).toNat)
                    case atStart => exact ⟨0, rfl, rfl, Nat.zero_le _, Below.refl _ _⟩
                    case round =>
                      obtain ⟨k, rfl, rfl, hk, hb⟩ := hrel
                      have HBi := Lib.hid hb
                      have HB3i := Lib.hid (HBo.out.trans (hb.mono HBo.out.size))
                      have hnI : (r.needed.length : Int) ≤ 200 := by have := HLEN.out; omega
                      have b0 := blk_below HB3i.out HB0.out (blk_lt HB0.out)
                      have c12 := blk_cell b0 12
                      simp only [List.getElem?_toArray, List.getElem?_cons_zero, List.getElem?_cons_succ] at c12
                      obtain ⟨bv, hbv⟩ : ∃ bv, inB (r.needed.take k) m.f.1 = bv := ⟨_, rfl⟩
                      rw [hbv]
                      have HBV := Lib.hid hbv
                      clear hbv b0
                      obtain ⟨g, o, rfl, hgn, hgl, kk⟩ := (HRF.out.below hb).at (j := j) (by rw [mapL_len]; have := HL1.out; have := HLT.out; omega)
                      obtain ⟨q1, q2, q3, q4⟩ := kk j m (mapL_at HMJ.out)
                      have HG := Lib.hid hgn
                      clear kk hgl hgn
                      by_cases hkl : k < r.needed.length
                      · as_aux_lemma =>
                          have hkl' : (k : Int) < (r.needed.length : Int) := by omega
                          obtain ⟨x, hx⟩ : ∃ x, r.needed[k]? = some x := ⟨_, List.getElem?_eq_getElem hkl⟩
                          obtain ⟨g2, o2, rfl, k2⟩ := row_str (HHN.out.below HB3i.out) hkl
                          have qx := k2 _ _ hx
                          have HX := Lib.hid hx
                          have HKL := Lib.hid hkl
                          clear k2 hx hkl hb hk
                          cases bv with
                          | true =>
                            as_aux_lemma =>
                              (repeat' ((fail_if_success at_builtin); first | go_values | go_skip | go_guarded | go_step | go_upon | go_back))
                              go_quiet (fail)
                              (repeat' ((fail_if_success at_builtin); first | go_values | go_skip | go_guarded | go_step | go_upon | go_back))
                              go_roundw
                              case rel => exact ⟨k + 1, by rw [inB_succ HX.out, HBV.out]; rfl, by go_num, HKL.out, bdrewN HBi.out _⟩
                              case measure => have := HKL.out; simp [intOf]; omega
                          | false =>
                            as_aux_lemma =>
                              (repeat' ((fail_if_success at_builtin); first | go_values | go_skip | go_guarded | go_step | go_upon | go_back))
                              go_quiet (fail)
                              (repeat' ((fail_if_success at_builtin); first | go_values | go_skip | go_guarded | go_step | go_upon | go_back))
                              go_roundw
                              case rel => exact ⟨k + 1, by rw [inB_succ HX.out, HBV.out]; rfl, by go_num, HKL.out, bdrewN HBi.out _⟩
                              case measure => have := HKL.out; simp [intOf]; omega
                      · as_aux_lemma =>
                          have hke : k = r.needed.length := by omega
                          subst hke
                          have hlt' : decide ((r.needed.length : Int) < (r.needed.length : Int)) = false := by simp
                          have hlt2 : decide (r.needed.length < r.needed.length) = false := by simp
                          have HNB : Hid (inB r.needed m.f.1 = bv) := Lib.hid (by have := HBV.out; rw [List.take_length] at this; exact this)
                          obtain ⟨wi, hwi⟩ : ∃ x, x = wr := ⟨_, rfl⟩
                          subst hwi
                          have HOI : Hid (wi.ownsRow w8.heap.size 55 2 u12 ((fewL r.needed r.others oth oa oc ms1 j)).length (((fewL r.needed r.others oth oa oc ms1 j)).flatMap FBm.row)) := Lib.hid (own_low HOF2.out (fun k _ hk => hb.block k hk))
                          have HRI := Lib.hid (HRF.out.below hb)
                          have HSI : Hid (w8.heap.size ≤ wi.heap.size) := Lib.hid (Nat.le_trans HSZ.out hb.size)
                          clear hkl hb hk
                          cases bv with
                          | true =>
                            as_aux_lemma =>
                              have hu : (updM r.needed oth oa oc) m = m := if_pos HNB.out
                              have hfe : (fewL r.needed r.others oth oa oc ms1 (j + 1)) = (fewL r.needed r.others oth oa oc ms1 j) ++ [m] := by rw [fewL_succ HMJ.out, if_pos (by unfold keepM keepB; rw [HNB.out]; rfl), hu]
                              have hse : mapL (updM r.needed oth oa oc) ms1 (j + 1) = mapL (updM r.needed oth oa oc) ms1 j := mapL_same HMJ.out hu
                              have HFE := Lib.hid (And.intro hfe hse)
                              clear hu hfe hse
                              have hbx : Below wi.heap.size wi (wi.alloc (.cells #[.string ⟨m.f.1.toArray⟩, .slice m.a m.f.2.length m.c] 55)) := (Below.refl _ _).alloc (Nat.le_refl _) _
                              have hox : (wi.alloc (.cells #[.string ⟨m.f.1.toArray⟩, .slice m.a m.f.2.length m.c] 55)).ownsRow w8.heap.size 55 2 u12 ((fewL r.needed r.others oth oa oc ms1 j)).length (((fewL r.needed r.others oth oa oc ms1 j)).flatMap FBm.row) := own_low HOI.out (fun k _ hk => hbx.block k hk)
                              have hrx : RowC (wi.alloc (.cells #[.string ⟨m.f.1.toArray⟩, .slice m.a m.f.2.length m.c] 55)) (some ⟨wi.heap.size, 0, none⟩) ([m].flatMap FBm.row) := RowT.c (t := 55) (.inr ⟨_, 0, _, _, rfl, blk_new wi _, fun i u hu => by rw [Nat.zero_add]; simpa [FBm.row, encS] using hu⟩)
                              have hRx := HRI.out.below hbx
                              have HBX := Lib.hid hbx
                              have HOX := Lib.hid hox
                              have HRX := Lib.hid hrx
                              have HRRX := Lib.hid hRx
                              have HLF : Hid (((fewL r.needed r.others oth oa oc ms1 j)).length ≤ 200) := Lib.hid (by have := few_len r.needed r.others oth oa oc ms1 j; have := HL1.out; have := HNL.out.1; omega)
                              clear hbx hox hrx hRx
                              (repeat' ((fail_if_success at_builtin); first | go_values | go_skip | go_guarded | go_step | go_upon | go_back))
                              refine wp_appF rfl _ _ rfl w8.heap.size _ ((fewL r.needed r.others oth oa oc ms1 j)).length (((fewL r.needed r.others oth oa oc ms1 j)).flatMap FBm.row) rfl HOX.out (some ⟨wi.heap.size, 0, none⟩) 1 [m] rfl HRX.out (fun e => by cases e) (by have := HLF.out; show _ + 1 ≤ _; omega) (Nat.le_trans HSI.out HBX.out.size) ?_
                              intro v' w9 hown' hg'
                              have HO9 := Lib.hid hown'
                              have HG9 := Lib.hid hg'
                              clear hown' hg'
                              (repeat' ((fail_if_success at_builtin); first | go_values | go_skip | go_guarded | go_step | go_upon | go_back))
                              go_roundw
                              case rel =>
                                refine ⟨j + 1, by go_num, HLT.out, ?_, Nat.le_trans (Nat.le_trans HSI.out HBX.out.size) HG9.out.size, Lib.hid ?_, Lib.hid ?_⟩
                                · exact (HB3i.out.trans (HBX.out.mono HB3i.out.size)).grown HG9.out (by have := HB3i.out.size; have := HBX.out.size; omega) (fun k e => by have := own_ge HOX.out e; have := HB38.out.size; omega)
                                · rw [HFE.out.2]
                                  exact HRRX.out.grown (fun g o e hne => HGL.out g o e (fun h0 => hne (by rw [h0]; simp [mapL]))) HOX.out HG9.out
                                · rw [HFE.out.1, List.length_append, List.flatMap_append]
                                  exact HO9.out
                              case measure => have := HLT.out; simp [intOf]; omega
                          | false =>
                            as_aux_lemma =>
                              have hu : (updM r.needed oth oa oc) m = ⟨(m.f.1, oth), oa, oc⟩ := if_neg (by rw [HNB.out]; simp)
                              have hse : mapL (updM r.needed oth oa oc) ms1 (j + 1) = (mapL (updM r.needed oth oa oc) ms1 j).set j ⟨(m.f.1, oth), oa, oc⟩ := by rw [mapL_succ HMJ.out, hu]
                              have hRs : RowF (wi.setCell ⟨g, o + j * 2 + 1, none⟩ (.slice oa oth.length oc)) w3.heap.size (some ⟨g, o, none⟩) (mapL (updM r.needed oth oa oc) ms1 (j + 1)) := by rw [hse]; exact HRI.out.put1 (mapL_at HMJ.out) ⟨(m.f.1, oth), oa, oc⟩ rfl
                              have hgk : g < w8.heap.size := HGL.out g o rfl (fun h0 => by have := HMJ.out; rw [h0] at this; cases this)
                              have hOs : (wi.setCell ⟨g, o + j * 2 + 1, none⟩ (.slice oa oth.length oc)).ownsRow w8.heap.size 55 2 u12 ((fewL r.needed r.others oth oa oc ms1 j)).length (((fewL r.needed r.others oth oa oc ms1 j)).flatMap FBm.row) := own_low HOI.out (fun k hk _ => Below.heap_setCell _ _ _ _ (show k ≠ g by omega))
                              have hBs : Below w3.heap.size w3 (wi.setCell ⟨g, o + j * 2 + 1, none⟩ (.slice oa oth.length oc)) := HB3i.out.setCell (p := ⟨g, o + j * 2 + 1, none⟩) HG.out _
                              have hSs : w8.heap.size ≤ (wi.setCell ⟨g, o + j * 2 + 1, none⟩ (.slice oa oth.length oc)).heap.size := by rw [World.size_setCell]; exact HSI.out
                              have HU := Lib.hid hu
                              clear hu hse
                              (repeat' ((fail_if_success (with_reducible (show Code.wp _ (Code.region 30 _ _) _ _ _))); (fail_if_success at_builtin); first | go_values | go_skip | go_guarded | go_step | go_upon | go_back))
                              generalize wi.setCell ⟨g, o + j * 2 + 1, none⟩ (.slice oa oth.length oc) = ws at hRs hOs hBs hSs ⊢
                              have HRS := Lib.hid hRs
                              have HOS := Lib.hid hOs
                              have HBS := Lib.hid hBs
                              have HSS := Lib.hid hSs
                              clear hRs hOs hBs hSs q1 q2 q3 q4 c12 hlt' hlt2
                              (repeat' ((fail_if_success at_builtin); first | go_values | go_skip | go_guarded | go_step | go_upon | go_back))
                              go_loopw [14, 16] (fun nb c wr => ∃ k : Nat, nb = .bool (inB (r.others.take k) m.f.1) ∧ c = .int .i64 k ∧ k ≤ r.others.length ∧ Below ws.heap.size ws wr) (fun _ c _ => r.others.length - (intOf c).toNat)
                              case atStart => exact ⟨0, rfl, rfl, Nat.zero_le _, Below.refl _ _⟩
                              case round =>
                                obtain ⟨k, rfl, rfl, hk, hb⟩ := hrel
                                have HBj := Lib.hid hb
                                have HB3j := Lib.hid (HBS.out.trans (hb.mono HBS.out.size))
                                have hnI : (r.others.length : Int) ≤ 200 := by have := HLEN.out; omega
                                have b0 := blk_below HB3j.out HB0.out (blk_lt HB0.out)
                                have c14 := blk_cell b0 14
                                simp only [List.getElem?_toArray, List.getElem?_cons_zero, List.getElem?_cons_succ] at c14
                                obtain ⟨bv, hbv⟩ : ∃ bv, inB (r.others.take k) m.f.1 = bv := ⟨_, rfl⟩
                                rw [hbv]
                                have HBV2 := Lib.hid hbv
                                clear hbv b0
                                obtain ⟨g', o', ee, -, -, kk⟩ := (HRS.out.below hb).at (j := j) (by rw [mapL_len]; have := HL1.out; have := HLT.out; omega)
                                cases ee
                                obtain ⟨q1, q2, q3, q4⟩ := kk j ⟨(m.f.1, oth), oa, oc⟩ (by rw [mapL_succ HMJ.out, HU.out, List.getElem?_set_self (by rw [mapL_len]; have := HL1.out; have := HLT.out; omega)])
                                dsimp only at q1 q2
                                clear kk
                                by_cases hkl : k < r.others.length
                                · as_aux_lemma =>
                                    have hkl' : (k : Int) < (r.others.length : Int) := by omega
                                    obtain ⟨x, hx⟩ : ∃ x, r.others[k]? = some x := ⟨_, List.getElem?_eq_getElem hkl⟩
                                    obtain ⟨g2, o2, rfl, k2⟩ := row_str (HHO.out.below HB3j.out) hkl
                                    have qx := k2 _ _ hx
                                    have HX := Lib.hid hx
                                    have HKL := Lib.hid hkl
                                    clear k2 hx hkl hb hk
                                    by_cases hxn : x = m.f.1
                                    · have tx : (x == m.f.1) = true := by simp [hxn]
                                      have HTX := Lib.hid tx
                                      clear hxn
                                      (repeat' ((fail_if_success (with_reducible (show Code.wp _ (Code.region 33 _ _) _ _ _))); (fail_if_success at_builtin); first | go_values | go_skip | go_guarded | go_step | go_upon | go_back))
                                      go_region
                                      (repeat' ((fail_if_success at_builtin); first | go_values | go_skip | go_guarded | go_step | go_upon | go_back))
                                      go_roundw
                                      case rel => exact ⟨k + 1, by rw [inB_succ HX.out, HTX.out, Bool.or_true], by go_num, HKL.out, HBj.out.drew⟩
                                      case measure => have := HKL.out; simp [intOf]; omega
                                    · have tx : (x == m.f.1) = false := by simpa using hxn
                                      have HTX := Lib.hid tx
                                      clear hxn
                                      (repeat' ((fail_if_success (with_reducible (show Code.wp _ (Code.region 33 _ _) _ _ _))); (fail_if_success at_builtin); first | go_values | go_skip | go_guarded | go_step | go_upon | go_back))
                                      go_region
                                      (repeat' ((fail_if_success at_builtin); first | go_values | go_skip | go_guarded | go_step | go_upon | go_back))
                                      go_roundw
                                      case rel => exact ⟨k + 1, by rw [inB_succ HX.out, HTX.out, HBV2.out, Bool.or_false], by go_num, HKL.out, HBj.out.drew⟩
                                      case measure => have := HKL.out; simp [intOf]; omega
                                · as_aux_lemma =>
                                    have hke : k = r.others.length := by omega
                                    subst hke
                                    have hlt' : decide ((r.others.length : Int) < (r.others.length : Int)) = false := by simp
                                    have hlt2 : decide (r.others.length < r.others.length) = false := by simp
                                    have HOB : Hid (inB r.others m.f.1 = bv) := Lib.hid (by have := HBV2.out; rw [List.take_length] at this; exact this)
                                    obtain ⟨wj, hwj⟩ : ∃ x, x = wr := ⟨_, rfl⟩
                                    subst hwj
                                    have HOJ : Hid (wj.ownsRow w8.heap.size 55 2 u12 ((fewL r.needed r.others oth oa oc ms1 j)).length (((fewL r.needed r.others oth oa oc ms1 j)).flatMap FBm.row)) := Lib.hid (own_low HOS.out (fun k _ hk => hb.block k hk))
                                    have HRJ := Lib.hid (HRS.out.below hb)
                                    have HSJ : Hid (w8.heap.size ≤ wj.heap.size) := Lib.hid (Nat.le_trans HSS.out hb.size)
                                    clear hkl hb hk
                                    cases bv with
                                    | true =>
                                      as_aux_lemma =>
                                        have hfe : (fewL r.needed r.others oth oa oc ms1 (j + 1)) = (fewL r.needed r.others oth oa oc ms1 j) := by rw [fewL_succ HMJ.out, if_neg (by unfold keepM keepB; rw [HNB.out, HOB.out]; simp), List.append_nil]
                                        have HFE := Lib.hid hfe
                                        clear hfe
                                        (repeat' ((fail_if_success at_builtin); first | go_values | go_skip | go_guarded | go_step | go_upon | go_back))
                                        go_roundw
                                        case rel =>
                                          exact ⟨j + 1, by go_num, HLT.out, HB3j.out, HSJ.out, HRJ, by rw [HFE.out]; exact HOJ⟩
                                        case measure => have := HLT.out; simp [intOf]; omega
                                    | false =>
                                      as_aux_lemma =>
                                        have hfe : (fewL r.needed r.others oth oa oc ms1 (j + 1)) = (fewL r.needed r.others oth oa oc ms1 j) ++ [⟨(m.f.1, oth), oa, oc⟩] := by rw [fewL_succ HMJ.out, if_pos (by unfold keepM keepB; rw [HOB.out]; simp), HU.out]
                                        have HFE := Lib.hid (And.intro hfe (rfl : mapL (updM r.needed oth oa oc) ms1 (j + 1) = mapL (updM r.needed oth oa oc) ms1 (j + 1)))
                                        clear hfe
                                        have hbx : Below wj.heap.size wj (wj.alloc (.cells #[.string ⟨m.f.1.toArray⟩, .slice oa oth.length oc] 55)) := (Below.refl _ _).alloc (Nat.le_refl _) _
                                        have hox : (wj.alloc (.cells #[.string ⟨m.f.1.toArray⟩, .slice oa oth.length oc] 55)).ownsRow w8.heap.size 55 2 u12 ((fewL r.needed r.others oth oa oc ms1 j)).length (((fewL r.needed r.others oth oa oc ms1 j)).flatMap FBm.row) := own_low HOJ.out (fun k _ hk => hbx.block k hk)
                                        have hrx : RowC (wj.alloc (.cells #[.string ⟨m.f.1.toArray⟩, .slice oa oth.length oc] 55)) (some ⟨wj.heap.size, 0, none⟩) ([(⟨(m.f.1, oth), oa, oc⟩ : FBm)].flatMap FBm.row) := RowT.c (t := 55) (.inr ⟨_, 0, _, _, rfl, blk_new wj _, fun i u hu => by rw [Nat.zero_add]; simpa [FBm.row, encS] using hu⟩)
                                        have hRx := HRJ.out.below hbx
                                        have HBX := Lib.hid hbx
                                        have HOX := Lib.hid hox
                                        have HRX := Lib.hid hrx
                                        have HRRX := Lib.hid hRx
                                        have HLF : Hid (((fewL r.needed r.others oth oa oc ms1 j)).length ≤ 200) := Lib.hid (by have := few_len r.needed r.others oth oa oc ms1 j; have := HL1.out; have := HNL.out.1; omega)
                                        clear hbx hox hrx hRx
                                        (repeat' ((fail_if_success at_builtin); first | go_values | go_skip | go_guarded | go_step | go_upon | go_back))
                                        refine wp_appF rfl _ _ rfl w8.heap.size _ ((fewL r.needed r.others oth oa oc ms1 j)).length (((fewL r.needed r.others oth oa oc ms1 j)).flatMap FBm.row) rfl HOX.out (some ⟨wj.heap.size, 0, none⟩) 1 [(⟨(m.f.1, oth), oa, oc⟩ : FBm)] rfl HRX.out (fun e => by cases e) (by have := HLF.out; show _ + 1 ≤ _; omega) (Nat.le_trans HSJ.out HBX.out.size) ?_
                                        intro v' w9 hown' hg'
                                        have HO9 := Lib.hid hown'
                                        have HG9 := Lib.hid hg'
                                        clear hown' hg'
                                        (repeat' ((fail_if_success at_builtin); first | go_values | go_skip | go_guarded | go_step | go_upon | go_back))
                                        go_roundw
                                        case rel =>
                                          refine ⟨j + 1, by go_num, HLT.out, ?_, Nat.le_trans (Nat.le_trans HSJ.out HBX.out.size) HG9.out.size, Lib.hid ?_, Lib.hid ?_⟩
                                          · exact (HB3j.out.trans (HBX.out.mono HB3j.out.size)).grown HG9.out (by have := HB3j.out.size; have := HBX.out.size; omega) (fun k e => by have := own_ge HOX.out e; have := HB38.out.size; omega)
                                          · rw [HFE.out.2]
                                            exact HRRX.out.grown (fun g o e hne => HGL.out g o e (fun h0 => hne (by rw [h0]; simp [mapL]))) HOX.out HG9.out
                                          · rw [HFE.out.1, List.length_append, List.flatMap_append]
                                            exact HO9.out
                                        case measure => have := HLT.out; simp [intOf]; omega
                · as_aux_lemma =>
                    have hje : j = ms.length := by omega
                    subst hje
                    have hlt' : decide ((ms.length : Int) < (ms.length : Int)) = false := by simp
                    have hlt2 : decide (ms.length < ms.length) = false := by simp
                    obtain ⟨a9, c9, rfl, hc9, hn9, hR9⟩ := own_rowF (ms := (fewL r.needed r.others oth oa oc ms1 ms.length)) HOF2.out rfl rfl
                    have hFZ9 : Files wo a9 c9 (fewL r.needed r.others oth oa oc ms1 ms.length) := hR9.files (w0 := wo) hc9 hn9 (fun m hm => by
                      obtain ⟨m0, h0, rfl⟩ := few_mem hm
                      exact upd_ok ((HF3.out.bs m0 (HP.out.mem_iff.1 h0)).below hb) (HO3.out.below hb))
                    have HFZ9 := Lib.hid hFZ9
                    have HRZ : Hid (RowF wo w3.heap.size a6 (ms1.map (updM r.needed oth oa oc))) := Lib.hid (by have := HRF.out; rw [← HL1.out, mapL_all] at this; exact this)
                    have HOZ := HOF2
                    clear hlt hj hb hsz hc9 hn9 hR9 hFZ9 HOF2 HRF
                    (repeat' ((fail_if_success at_builtin); first | go_values | go_skip | go_guarded | go_step | go_upon | go_back))
                    refine alook_cps wo a9 c9 (fewL r.needed r.others oth oa oc ms1 ms.length) HFZ9.out (by have := few_len r.needed r.others oth oa oc ms1 ms.length; have := HL1.out; have := HNL.out.1; omega) (fun m hm => by
                      obtain ⟨m0, h0, rfl⟩ := few_mem hm
                      have := (upd_small (need := r.needed) (oa := oa) (oc := oc) (HSML.out m0 h0) HOL.out).2
                      omega) (fun m hm => by
                      obtain ⟨m0, h0, rfl⟩ := few_mem hm
                      have := (upd_small (need := r.needed) (oa := oa) (oc := oc) (HSML.out m0 h0) HOL.out).1
                      omega) _ ?_
                    intro sv2 nv2 lv2 ov2 w9 hV2 hb9
                    have hfs := HOF.out.2
                    dsimp only at hfs
                    rw [← few_fs r.needed r.others oth oa oc ms1, HL1.out] at hfs
                    obtain ⟨rs, hrs⟩ : ∃ rs, lookF (((fewL r.needed r.others oth oa oc ms1 ms.length)).map FBm.f) = rs := ⟨_, rfl⟩
                    rw [hrs] at hV2 hfs ⊢
                    obtain ⟨e1, e2, e3, e4, e5, e6, e7, e8⟩ := hfs
                    obtain ⟨⟨sa2, sc2, rfl, -⟩, ⟨na2, nc2, rfl, hrn2⟩, ⟨la2, lc2, rfl, hrl2⟩, ⟨oa2, oc2, rfl, -⟩⟩ := hV2.rows
                    unfold RPc
                    rw [e7] at hrn2
                    rw [e8] at hrl2
                    rw [e1, e2, e3, e4, e5, e6, e7, e8]
                    dsimp only [List.length_nil]
                    clear hrs hV2 e1 e2 e3 e4 e5 e6 e7 e8
                    have bS := blk_new w9 (.cells #[.int .i64 r.err, .int .i64 r.base, .int .i64 r.last, .int .i64 r.rep, .int .i64 r.torn, .bool rs.has, .int .i64 rs.man.number, .int .i64 rs.man.file, .int .i64 rs.man.mark, .int .i64 rs.man.prev, .int .i64 rs.man.pmark, .slice sa2 rs.segs.length sc2, .slice na2 r.needed.length nc2, .slice la2 r.left.length lc2, .slice oa2 0 oc2] 50)
                    have hbz : Below w9.heap.size w9 (w9.alloc (.cells #[.int .i64 r.err, .int .i64 r.base, .int .i64 r.last, .int .i64 r.rep, .int .i64 r.torn, .bool rs.has, .int .i64 rs.man.number, .int .i64 rs.man.file, .int .i64 rs.man.mark, .int .i64 rs.man.prev, .int .i64 rs.man.pmark, .slice sa2 rs.segs.length sc2, .slice na2 r.needed.length nc2, .slice la2 r.left.length lc2, .slice oa2 0 oc2] 50)) := (Below.refl _ _).alloc (Nat.le_refl _) _
                    have HB39 := Lib.hid (HBo.out.trans (hb9.mono HBo.out.size))
                    have HB9 := Lib.hid hb9
                    clear hb9
                    (repeat' ((fail_if_success (with_reducible (show Code.wp _ (Code.region 38 _ _) _ _ _))); (fail_if_success at_builtin); first | go_values | go_skip | go_guarded | go_step | go_upon | go_back))
                    generalize w9.alloc (.cells #[.int .i64 r.err, .int .i64 r.base, .int .i64 r.last, .int .i64 r.rep, .int .i64 r.torn, .bool rs.has, .int .i64 rs.man.number, .int .i64 rs.man.file, .int .i64 rs.man.mark, .int .i64 rs.man.prev, .int .i64 rs.man.pmark, .slice sa2 rs.segs.length sc2, .slice na2 r.needed.length nc2, .slice la2 r.left.length lc2, .slice oa2 0 oc2] 50) = wz at bS hbz ⊢
                    have HB3z := Lib.hid (HB39.out.trans (hbz.mono HB39.out.size))
                    have HBoz := Lib.hid (HB9.out.trans (hbz.mono HB9.out.size))
                    have HTN := Lib.hid (hrn2.below hbz)
                    have HTL := Lib.hid (hrl2.below hbz)
                    obtain ⟨Sx, hSx⟩ : ∃ Sx, w9.heap.size = Sx := ⟨_, rfl⟩
                    rw [hSx] at bS ⊢
                    have HB0z := Lib.hid (blk_below HB3z.out HB0.out (blk_lt HB0.out))
                    have HBS := Lib.hid bS
                    clear hrn2 hrl2 hbz hSx bS
                    have hRz := HRZ.out.below HBoz.out
                    have hFz : Files wz a6 cc6 (ms1.map (updM r.needed oth oa oc)) := hRz.files (w0 := wz) (by rw [List.length_map, HL1.out]; exact HC6.out.1) HC6.out.2 (fun m hm => by
                      obtain ⟨m0, h0, rfl⟩ := List.mem_map.1 hm
                      exact upd_ok ((HF3.out.bs m0 (HP.out.mem_iff.1 h0)).below HB3z.out) (HO3.out.below HB3z.out))
                    have hlz : lookF ((ms1.map (updM r.needed oth oa oc)).map FBm.f) = r := by rw [upd_fs]; exact HOF.out.1
                    have HLA2 : Hid (∀ w', Below wz.heap.size wz w' → ∀ Q' : Ending → World → Prop, (∀ sv nv lv ov w'', RepR w'' r sv nv lv ov → Below wz.heap.size wz w'' → Q' (.returned (.agg (RPc r sv nv lv ov))) w'') → Calls Tryz.prog 24 #[.slice a6 ms.length cc6] w' Q') := Lib.hid (fun w' hw' Q' hQ' => by
                      have h := alook_cps w' a6 cc6 (ms1.map (updM r.needed oth oa oc)) (hFz.below hw') (by rw [List.length_map, HL1.out]; have := HNL.out.1; omega) (fun m hm => by
                        obtain ⟨m0, h0, rfl⟩ := List.mem_map.1 hm
                        have := (upd_small (need := r.needed) (oa := oa) (oc := oc) (HSML.out m0 h0) HOL.out).2
                        omega) (fun m hm => by
                        obtain ⟨m0, h0, rfl⟩ := List.mem_map.1 hm
                        have := (upd_small (need := r.needed) (oa := oa) (oc := oc) (HSML.out m0 h0) HOL.out).1
                        omega) Q' (fun sv nv lv ov w'' hv hb => by
                        rw [hlz] at hv ⊢
                        exact hQ' sv nv lv ov w'' hv.rows (hw'.trans (hb.mono hw'.size)))
                      rw [List.length_map, HL1.out] at h
                      exact h)
                    have hB2z : Below R w2 wz := HB23.out.trans (HB3z.out.mono (by have := blk_lt HB0.out; omega))
                    have hRl : R < wz.heap.size := blk_lt HB0z.out
                    have HSM2 : Hid (∀ w' sv nv lv ov, Below wz.heap.size wz w' → RepR w' r sv nv lv ov → ∀ Q' : Ending → World → Prop, (∀ w'', Below wz.heap.size wz w'' → Q' (.returned (.bool true)) w'') → Calls Tryz.prog 25 #[.agg (RPc r sv nv lv ov), .agg #[.int .i64 r.err, .int .i64 r.base, .int .i64 r.last, .int .i64 r.rep, .int .i64 r.torn, .bool r.has, .int .i64 r.man.number, .int .i64 r.man.file, .int .i64 r.man.mark, .int .i64 r.man.prev, .int .i64 r.man.pmark, .slice sa r.segs.length sc, .slice na r.needed.length nc, .slice la r.left.length lc, .slice ra r.others.length rc]] w' Q') := Lib.hid (fun w' sv nv lv ov hw' hv Q' hQ' =>
                      same_cps w' r sv nv lv ov (.slice sa r.segs.length sc) (.slice na r.needed.length nc) (.slice la r.left.length lc) (.slice ra r.others.length rc) hv (HRV.out w' (hB2z.trans (hw'.mono (by omega)))) (by have := HLEN.out; omega) (by have := HLEN.out; omega) (by have := HLEN.out; omega) (by have := HLEN.out; omega) Q' (fun w'' hb => hQ' w'' (hw'.trans (hb.mono hw'.size))))
                    have HTX1 : Hid (∀ w', Below wz.heap.size wz w' → ∀ Q' : Ending → World → Prop, (∀ w'', Below wz.heap.size wz w'' → Q' (.returned (.bool true)) w'') → Calls Tryz.prog 29 #[.slice na2 r.needed.length nc2, .slice na r.needed.length nc] w' Q') := Lib.hid (fun w' hw' Q' hQ' =>
                      texts_cps w' na2 na nc2 nc r.needed r.needed (HTN.out.below hw') ((HHN.out.below HB3z.out).below hw') (by have := HLEN.out; omega) (by have := HLEN.out; omega) Q' (fun w'' hb => by rw [decide_eq_true (rfl : r.needed = r.needed)]; exact hQ' w'' (hw'.trans (hb.mono hw'.size))))
                    have HTX2 : Hid (∀ w', Below wz.heap.size wz w' → ∀ Q' : Ending → World → Prop, (∀ w'', Below wz.heap.size wz w'' → Q' (.returned (.bool true)) w'') → Calls Tryz.prog 29 #[.slice la2 r.left.length lc2, .slice la r.left.length lc] w' Q') := Lib.hid (fun w' hw' Q' hQ' =>
                      texts_cps w' la2 la lc2 lc r.left r.left (HTL.out.below hw') ((HHL.out.below HB3z.out).below hw') (by have := HLEN.out; omega) (by have := HLEN.out; omega) Q' (fun w'' hb => by rw [decide_eq_true (rfl : r.left = r.left)]; exact hQ' w'' (hw'.trans (hb.mono hw'.size))))
                    have HKN2 : Hid (∀ w', Below wz.heap.size wz w' → ∀ Q' : Ending → World → Prop, (∀ w'', Below wz.heap.size wz w'' → Q' (.returned (.bool true)) w'') → Calls Tryz.prog 28 #[] w' Q') := Lib.hid (fun w' hw' Q' hQ' => known_cps w' Q' (fun w'' hb => hQ' w'' (hw'.trans (hb.mono hw'.size))))
                    have HFIN : Hid (∀ w', Below wz.heap.size wz w' → Below w.heap.size w w') := Lib.hid (fun w' hw' => HW2.out.trans ((hB2z.trans (hw'.mono (by omega))).mono HR.out))
                    have lS := blk_lt HBS.out
                    clear hRz hFz hlz hB2z
                    have c0 := blk_cell HB0z.out 0
                    have c1 := blk_cell HB0z.out 1
                    have c2 := blk_cell HB0z.out 2
                    have c3 := blk_cell HB0z.out 3
                    have c4 := blk_cell HB0z.out 4
                    have c5 := blk_cell HB0z.out 5
                    have c6 := blk_cell HB0z.out 6
                    have c7 := blk_cell HB0z.out 7
                    have c8 := blk_cell HB0z.out 8
                    have c9 := blk_cell HB0z.out 9
                    have c10 := blk_cell HB0z.out 10
                    have c11 := blk_cell HB0z.out 11
                    have c12 := blk_cell HB0z.out 12
                    have c13 := blk_cell HB0z.out 13
                    have c14 := blk_cell HB0z.out 14
                    simp only [List.getElem?_toArray, List.getElem?_cons_zero, List.getElem?_cons_succ] at c0 c1 c2 c3 c4 c5 c6 c7 c8 c9 c10 c11 c12 c13 c14
                    have d0 := blk_cell HBS.out 0
                    have d1 := blk_cell HBS.out 1
                    have d2 := blk_cell HBS.out 2
                    have d3 := blk_cell HBS.out 3
                    have d4 := blk_cell HBS.out 4
                    have d12 := blk_cell HBS.out 12
                    have d13 := blk_cell HBS.out 13
                    have d14 := blk_cell HBS.out 14
                    simp only [List.getElem?_toArray, List.getElem?_cons_zero, List.getElem?_cons_succ] at d0 d1 d2 d3 d4 d12 d13 d14
                    have HS : ∀ w', Below wz.heap.size wz w' → (Below wz.heap.size wz w' ∧ w'.cell? ⟨R, 0, none⟩ = some (.int .i64 r.err) ∧ w'.cell? ⟨R, 1, none⟩ = some (.int .i64 r.base) ∧ w'.cell? ⟨R, 2, none⟩ = some (.int .i64 r.last) ∧ w'.cell? ⟨R, 3, none⟩ = some (.int .i64 r.rep) ∧ w'.cell? ⟨R, 4, none⟩ = some (.int .i64 r.torn) ∧ w'.cell? ⟨R, 5, none⟩ = some (.bool r.has) ∧ w'.cell? ⟨R, 6, none⟩ = some (.int .i64 r.man.number) ∧ w'.cell? ⟨R, 7, none⟩ = some (.int .i64 r.man.file) ∧ w'.cell? ⟨R, 8, none⟩ = some (.int .i64 r.man.mark) ∧ w'.cell? ⟨R, 9, none⟩ = some (.int .i64 r.man.prev) ∧ w'.cell? ⟨R, 10, none⟩ = some (.int .i64 r.man.pmark) ∧ w'.cell? ⟨R, 11, none⟩ = some (.slice sa r.segs.length sc) ∧ w'.cell? ⟨R, 12, none⟩ = some (.slice na r.needed.length nc) ∧ w'.cell? ⟨R, 13, none⟩ = some (.slice la r.left.length lc) ∧ w'.cell? ⟨R, 14, none⟩ = some (.slice ra r.others.length rc) ∧ w'.cell? ⟨Sx, 0, none⟩ = some (.int .i64 r.err) ∧ w'.cell? ⟨Sx, 1, none⟩ = some (.int .i64 r.base) ∧ w'.cell? ⟨Sx, 2, none⟩ = some (.int .i64 r.last) ∧ w'.cell? ⟨Sx, 3, none⟩ = some (.int .i64 r.rep) ∧ w'.cell? ⟨Sx, 4, none⟩ = some (.int .i64 r.torn) ∧ w'.cell? ⟨Sx, 12, none⟩ = some (.slice na2 r.needed.length nc2) ∧ w'.cell? ⟨Sx, 13, none⟩ = some (.slice la2 r.left.length lc2) ∧ w'.cell? ⟨Sx, 14, none⟩ = some (.slice oa2 0 oc2)) := fun w' hb =>
                      ⟨hb, (hb.cell (p := ⟨R, 0, none⟩) hRl).trans c0, (hb.cell (p := ⟨R, 1, none⟩) hRl).trans c1, (hb.cell (p := ⟨R, 2, none⟩) hRl).trans c2, (hb.cell (p := ⟨R, 3, none⟩) hRl).trans c3, (hb.cell (p := ⟨R, 4, none⟩) hRl).trans c4, (hb.cell (p := ⟨R, 5, none⟩) hRl).trans c5, (hb.cell (p := ⟨R, 6, none⟩) hRl).trans c6, (hb.cell (p := ⟨R, 7, none⟩) hRl).trans c7, (hb.cell (p := ⟨R, 8, none⟩) hRl).trans c8, (hb.cell (p := ⟨R, 9, none⟩) hRl).trans c9, (hb.cell (p := ⟨R, 10, none⟩) hRl).trans c10, (hb.cell (p := ⟨R, 11, none⟩) hRl).trans c11, (hb.cell (p := ⟨R, 12, none⟩) hRl).trans c12, (hb.cell (p := ⟨R, 13, none⟩) hRl).trans c13, (hb.cell (p := ⟨R, 14, none⟩) hRl).trans c14, (hb.cell (p := ⟨Sx, 0, none⟩) lS).trans d0, (hb.cell (p := ⟨Sx, 1, none⟩) lS).trans d1, (hb.cell (p := ⟨Sx, 2, none⟩) lS).trans d2, (hb.cell (p := ⟨Sx, 3, none⟩) lS).trans d3, (hb.cell (p := ⟨Sx, 4, none⟩) lS).trans d4, (hb.cell (p := ⟨Sx, 12, none⟩) lS).trans d12, (hb.cell (p := ⟨Sx, 13, none⟩) lS).trans d13, (hb.cell (p := ⟨Sx, 14, none⟩) lS).trans d14⟩
                    go_region_held3 (fun w' => Below wz.heap.size wz w' ∧ w'.cell? ⟨R, 0, none⟩ = some (.int .i64 r.err) ∧ w'.cell? ⟨R, 1, none⟩ = some (.int .i64 r.base) ∧ w'.cell? ⟨R, 2, none⟩ = some (.int .i64 r.last) ∧ w'.cell? ⟨R, 3, none⟩ = some (.int .i64 r.rep) ∧ w'.cell? ⟨R, 4, none⟩ = some (.int .i64 r.torn) ∧ w'.cell? ⟨R, 5, none⟩ = some (.bool r.has) ∧ w'.cell? ⟨R, 6, none⟩ = some (.int .i64 r.man.number) ∧ w'.cell? ⟨R, 7, none⟩ = some (.int .i64 r.man.file) ∧ w'.cell? ⟨R, 8, none⟩ = some (.int .i64 r.man.mark) ∧ w'.cell? ⟨R, 9, none⟩ = some (.int .i64 r.man.prev) ∧ w'.cell? ⟨R, 10, none⟩ = some (.int .i64 r.man.pmark) ∧ w'.cell? ⟨R, 11, none⟩ = some (.slice sa r.segs.length sc) ∧ w'.cell? ⟨R, 12, none⟩ = some (.slice na r.needed.length nc) ∧ w'.cell? ⟨R, 13, none⟩ = some (.slice la r.left.length lc) ∧ w'.cell? ⟨R, 14, none⟩ = some (.slice ra r.others.length rc) ∧ w'.cell? ⟨Sx, 0, none⟩ = some (.int .i64 r.err) ∧ w'.cell? ⟨Sx, 1, none⟩ = some (.int .i64 r.base) ∧ w'.cell? ⟨Sx, 2, none⟩ = some (.int .i64 r.last) ∧ w'.cell? ⟨Sx, 3, none⟩ = some (.int .i64 r.rep) ∧ w'.cell? ⟨Sx, 4, none⟩ = some (.int .i64 r.torn) ∧ w'.cell? ⟨Sx, 12, none⟩ = some (.slice na2 r.needed.length nc2) ∧ w'.cell? ⟨Sx, 13, none⟩ = some (.slice la2 r.left.length lc2) ∧ w'.cell? ⟨Sx, 14, none⟩ = some (.slice oa2 0 oc2)) (first | exact HS _ (by assumption) | exact HS _ (Below.refl _ _) | exact HS _ (Below.drew (Below.refl _ _)) | exact HS _ (Below.drew (by assumption)) | exact HS _ (bdrewN (by assumption) _) | exact HS _ (bdrewN (Below.refl _ _) _)) (first
                      | (go_at_call 24; refine HLA2.out _ (by first | assumption | exact Below.refl _ _ | exact Below.drew (by assumption) | exact bdrewN (by assumption) _ | exact Below.drew (Below.refl _ _) | exact bdrewN (Below.refl _ _) _) _ ?_; intro sv9 nv9 lv9 ov9 w9 hV9 hb9)
                      | (go_at_call 25; refine HSM2.out _ _ _ _ _ (by first | assumption | exact Below.refl _ _ | exact Below.drew (by assumption) | exact bdrewN (by assumption) _ | exact Below.drew (Below.refl _ _) | exact bdrewN (Below.refl _ _) _) (by first | assumption | exact RepR.below (by assumption) (Below.drew (Below.refl _ _)) | exact RepR.below (by assumption) (bdrewN (Below.refl _ _) _)) _ ?_; intro w10 hb10)
                      | (go_at_call_of 29 (Value.slice na r.needed.length nc); refine HTX1.out _ (by first | assumption | exact Below.refl _ _ | exact Below.drew (by assumption) | exact bdrewN (by assumption) _ | exact Below.drew (Below.refl _ _) | exact bdrewN (Below.refl _ _) _) _ ?_; intro w11 hb11)
                      | (go_at_call_of 29 (Value.slice la r.left.length lc); refine HTX2.out _ (by first | assumption | exact Below.refl _ _ | exact Below.drew (by assumption) | exact bdrewN (by assumption) _ | exact Below.drew (Below.refl _ _) | exact bdrewN (Below.refl _ _) _) _ ?_; intro w12 hb12)
                      | (go_at_call 28; refine HKN2.out _ (by first | assumption | exact Below.refl _ _ | exact Below.drew (by assumption) | exact bdrewN (by assumption) _ | exact Below.drew (Below.refl _ _) | exact bdrewN (Below.refl _ _) _) _ ?_; intro w13 hb13))
                    (repeat' ((fail_if_success at_builtin); first | go_values | go_skip | go_guarded | go_step | go_upon | go_back))
                    exact HQ.out _ (HFIN.out _ (by assumption))
end Go.Proofs.YtbppnihcbcdglaaGreat
