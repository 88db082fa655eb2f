/- batch: why a batch is none. No condition. -/
import Derived.Shelf.Abstract
import Derived.Test.YtbppnihcbcdglaaGreatZ17
namespace Go.Proofs.YtbppnihcbcdglaaGreat
open Go.RowKit
set_option linter.unusedVariables false
set_option linter.unusedSimpArgs false

theorem TM.at {w : World} {g o : Nat} {ms : List TM} (h : RowT w 175 (some ⟨g, o, none⟩) (ms.flatMap TM.row)) {k : Nat} {m : TM} (hm : ms[k]? = some m) :
    w.cell? ⟨g, o + k * 6, none⟩ = some (.int .i64 m.t.kind) ∧ w.cell? ⟨g, o + k * 6 + 1, none⟩ = some (.string ⟨m.t.p.name.toArray⟩) ∧ w.cell? ⟨g, o + k * 6 + 2, none⟩ = some (.int .i64 m.t.p.args) ∧ w.cell? ⟨g, o + k * 6 + 3, none⟩ = some (.slice m.ca m.t.p.code.length m.cc) ∧ w.cell? ⟨g, o + k * 6 + 4, none⟩ = some (.string ⟨m.t.name.toArray⟩) ∧ w.cell? ⟨g, o + k * 6 + 5, none⟩ = some (.slice m.aa m.t.args.length m.ac) := by
  have c : ∀ i, i < 6 → ∀ u, (TM.row m)[i]? = some u → w.cell? ⟨g, o + (k * 6 + i), none⟩ = some u := fun i hi u hu => h.cell (by rw [flat_at TM.row 6 (fun _ => rfl) ms k m i hm hi]; exact hu)
  exact ⟨c 0 (by omega) _ rfl, c 1 (by omega) _ rfl, c 2 (by omega) _ rfl, c 3 (by omega) _ rfl, c 4 (by omega) _ rfl, c 5 (by omega) _ rfl⟩

theorem Txns.at {w : World} {g o : Nat} {l : List T} (h : Txns w (some ⟨g, o, none⟩) l) {j : Nat} (hlt : j < l.length) :
    ∃ m : TM, l.drop j = m.t :: l.drop (j + 1) ∧ m.lies w ∧ m.t ∈ l ∧ w.cell? ⟨g, o + j * 6, none⟩ = some (.int .i64 m.t.kind) ∧ w.cell? ⟨g, o + j * 6 + 1, none⟩ = some (.string ⟨m.t.p.name.toArray⟩) ∧ w.cell? ⟨g, o + j * 6 + 2, none⟩ = some (.int .i64 m.t.p.args) ∧ w.cell? ⟨g, o + j * 6 + 3, none⟩ = some (.slice m.ca m.t.p.code.length m.cc) ∧ w.cell? ⟨g, o + j * 6 + 4, none⟩ = some (.string ⟨m.t.name.toArray⟩) ∧ w.cell? ⟨g, o + j * 6 + 5, none⟩ = some (.slice m.aa m.t.args.length m.ac) := by
  obtain ⟨ms, rfl, hrow, hlies⟩ := h
  obtain ⟨m, hm⟩ : ∃ m, ms[j]? = some m := ⟨_, List.getElem?_eq_getElem (by simpa using hlt)⟩
  refine ⟨m, ?_, hlies m (List.mem_of_getElem? hm), List.mem_map_of_mem (List.mem_of_getElem? hm), TM.at hrow hm⟩
  rw [List.drop_eq_getElem_cons (by simpa using hlt)]; congr 1
  rw [List.getElem_map]; congr 1
  rw [List.getElem?_eq_getElem (by simpa using hlt)] at hm; exact Option.some.inj hm
def FitsLen (t : T) : Prop := t.p.name.length ≤ 140737488355328 ∧ t.name.length ≤ 140737488355328 ∧ t.args.length ≤ 140737488355328

theorem meth_def (C : Array Value) (w : World) : (method 490 194 (.agg C) "treadle/batch.check").run Tryz.prog w = .ok (301, .agg C) w := by kernel_rfl
theorem meth_call (C : Array Value) (w : World) : (method 490 198 (.agg C) "treadle/batch.check").run Tryz.prog w = .ok (305, .agg C) w := by kernel_rfl
theorem meth_drop (C : Array Value) (w : World) : (method 490 197 (.agg C) "treadle/batch.check").run Tryz.prog w = .ok (302, .agg C) w := by kernel_rfl
def chkF (k : Int) : Nat := if k = 1 then 301 else if k = 2 then 305 else 302
theorem chkF_enters (k : Int) (args : Array Value) (w : World) : (callFunc (chkF k) args).run Tryz.prog w = .ok (.enter (chkF k) args) w := by
  unfold chkF
  split
  · exact enters_of Tryz.func301 (by kernel_rfl) rfl args w
  · split
    · exact enters_of Tryz.func305 (by kernel_rfl) rfl args w
    · exact enters_of Tryz.func302 (by kernel_rfl) rfl args w
theorem meth_any {k : Int} (hk : k = 1 ∨ k = 2 ∨ k = 3) (C : Array Value) (w : World) : (method 490 (kindT k) (.agg C) "treadle/batch.check").run Tryz.prog w = .ok (chkF k, .agg C) w := by
  rcases hk with rfl | rfl | rfl
  · exact meth_def C w
  · exact meth_call C w
  · exact meth_drop C w
theorem kindOf_any (w : World) (k : Int) (hk : k = 1 ∨ k = 2 ∨ k = 3) (pn nm : Bs) (pa : Int) (ca aa : Option Addr) (cn cc an ac : Nat) : Calls Tryz.prog 106 #[.agg #[.int .i64 k, .string ⟨pn.toArray⟩, .int .i64 pa, .slice ca cn cc, .string ⟨nm.toArray⟩, .slice aa an ac]] w fun e' w' => e' = .returned (.iface (kindT k) (.agg #[.int .i64 k, .string ⟨pn.toArray⟩, .int .i64 pa, .slice ca cn cc, .string ⟨nm.toArray⟩, .slice aa an ac])) ∧ Below w.heap.size w w' := by
  rcases hk with rfl | rfl | rfl
  · exact kindOf_1 w pn nm pa ca aa cn cc an ac
  · exact kindOf_2 w pn nm pa ca aa cn cc an ac
  · exact kindOf_3 w pn nm pa ca aa cn cc an ac
theorem own_check (w : World) (k : Int) (hk : k = 1 ∨ k = 2 ∨ k = 3) (pn nm : Bs) (pa : Int) (code : List I) (args : List V) (ca aa : Option Addr) (cc ac : Nat) (hc : Code1 w ca code) (hf : FitsLen ⟨k, ⟨pn, pa, code⟩, nm, args⟩) :
    Calls Tryz.prog (chkF k) #[.agg #[.int .i64 k, .string ⟨pn.toArray⟩, .int .i64 pa, .slice ca code.length cc, .string ⟨nm.toArray⟩, .slice aa args.length ac]] w fun e' w' => e' = .returned (.int .i64 (chkT0 ⟨k, ⟨pn, pa, code⟩, nm, args⟩)) ∧ Below w.heap.size w w' := by
  have hb : bareC pn pa code.length = bareP ⟨pn, pa, code⟩ := by unfold bareC bareP; cases code <;> simp
  have ha : (args ≠ []) ↔ args.length ≠ 0 := by cases args <;> simp
  rcases hk with rfl | rfl | rfl
  · refine (def_check w 1 pn nm pa code ca aa cc args.length ac hc hf.1).mono ?_
    rintro e w' ⟨rfl, h⟩
    refine ⟨?_, h⟩
    unfold chkT0
    simp only [ha, if_pos]
  · refine (call_check w 2 pn nm pa ca aa code.length cc args.length ac hf.2.1).mono ?_
    rintro e w' ⟨rfl, h⟩
    refine ⟨?_, h⟩
    have : chkT0 ⟨2, ⟨pn, pa, code⟩, nm, args⟩ = if bareC pn pa code.length = false then 3 else if okName nm = false then 5 else if 16 < args.length then 4 else 0 := by
      unfold chkT0; dsimp only; rw [if_neg (show ¬ (2 : Int) = 1 by decide), if_pos rfl, hb]
    rw [this]
  · refine (drop_check w 3 pn nm pa ca aa code.length cc args.length ac hf.2.1).mono ?_
    rintro e w' ⟨rfl, h⟩
    refine ⟨?_, h⟩
    have : chkT0 ⟨3, ⟨pn, pa, code⟩, nm, args⟩ = if args.length ≠ 0 ∨ bareC pn pa code.length = false then 3 else if okName nm = false then 5 else 0 := by
      unfold chkT0; dsimp only; rw [if_neg (show ¬ (3 : Int) = 1 by decide), if_neg (show ¬ (3 : Int) = 2 by decide), if_pos rfl, hb]; simp only [ha]
    rw [this]
theorem Vals.cells {w : World} {a : Option Addr} {l : List V} (h : Vals w a l) {j : Nat} {v : V} (hv : l[j]? = some v) : ∃ g o, a = some ⟨g, o, none⟩ ∧ w.cell? ⟨g, o + j * 3, none⟩ = some (.int .i64 v.k) ∧ w.cell? ⟨g, o + j * 3 + 1, none⟩ = some (.int .i64 v.i) ∧ w.cell? ⟨g, o + j * 3 + 2, none⟩ = some (.string ⟨v.t.toArray⟩) := by
  rcases h with h | ⟨g, o, cur, f, rfl, hg, h⟩
  · have := flat_len V.row 3 (fun _ => rfl) l
    rw [h] at this
    have : l = [] := List.eq_nil_of_length_eq_zero (by simp at this; omega)
    rw [this] at hv; simp at hv
  · exact ⟨g, o, rfl, Vals.at (w := w) (g := g) (o := o) (l := l) (.inr ⟨g, o, cur, f, rfl, hg, h⟩) hv⟩
theorem chkTs_0 {t : T} {l : List T} (h : chkT0 t ≠ 0) : chkTs (t :: l) = chkT0 t := by
  unfold chkTs chkT; rw [if_pos h, if_pos h]
theorem chkTs_a {t : T} {l : List T} (h : chkT0 t = 0) (h2 : chkVs t.args ≠ 0) : chkTs (t :: l) = chkVs t.args := by
  simp [chkTs, chkT, h, h2]
theorem chkTs_1 {t : T} {l : List T} (h : chkT0 t = 0) (h2 : chkVs t.args = 0) : chkTs (t :: l) = chkTs l := by
  simp [chkTs, chkT, h, h2]
set_option maxRecDepth 20000 in
set_option maxHeartbeats 2000000 in
theorem chkB_go (w : World) (first : Int) (g o c : Nat) (l : List T) (h : Txns w (some ⟨g, o, none⟩) l) (hf : ∀ t ∈ l, FitsLen t) (h0 : 1 ≤ first) (h1 : first ≤ 281474976710655) (h2 : 1 ≤ l.length) (h3 : l.length ≤ 64) (h4 : first + l.length - 1 ≤ 281474976710655) :
    Calls Tryz.prog 99 #[.agg #[.int .i64 first, .slice (some ⟨g, o, none⟩) l.length c]] w fun e' w' => e' = .returned (.int .i64 (chkTs l)) ∧ Below w.heap.size w w' := by
  have g1 : decide (first < 1) = false := decide_eq_false (by omega)
  have g2 : decide (281474976710655 < first) = false := decide_eq_false (by omega)
  have g3 : ((l.length : Int) == 0) = false := by rw [beq_eq_false_iff_ne]; omega
  have g4 : decide ((64 : Int) < (l.length : Int)) = false := decide_eq_false (by omega)
  have g5 : decide (281474976710655 < first + (l.length : Int) - 1) = false := decide_eq_false (by omega)
  have b1 : (l.length : Int) ≤ 64 := by omega
  have b2 : (1 : Int) ≤ (l.length : Int) := by omega
  have HF := Lib.hid hf
  have HH := Lib.hid h
  have H2 := Lib.hid h2
  have H3 := Lib.hid h3
  clear hf h h2 h3 h4
  go_enter Tryz.func99, Tryz.ntmps99
  (repeat' ((fail_if_success at_builtin); first | go_values | go_skip | go_guarded | go_step | go_upon | go_back))
  go_step3
  (repeat' ((fail_if_success at_builtin); first | go_values | go_skip | go_guarded | go_step | go_upon | go_back))
  go_step3
  (repeat' ((fail_if_success at_builtin); first | go_values | go_skip | go_guarded | go_step | go_upon | go_back))
  have hw1 : Below w.heap.size w (w.alloc (.cells #[.int .i64 first, .slice (some ⟨g, o, none⟩) l.length c] 81)) := by (repeat' (first | (with_reducible exact Below.refl _ _) | (with_reducible assumption) | (with_reducible refine Below.drew ?_) | (with_reducible refine bdrewN ?_ _) | (with_reducible refine Below.alloc ?_ ?_ _) | (with_reducible refine Below.setCell ?_ ?_ _) | omega | (simp; done) | (simp; omega)))
  have hT1 := HH.out.below hw1
  generalize w.alloc (.cells #[.int .i64 first, .slice (some ⟨g, o, none⟩) l.length c] 81) = w1 at hw1 hT1 ⊢
  have hsz := hw1.size
  go_loopw [3, 40] (fun e i wr => ∃ j : Nat, j ≤ l.length ∧ e = .int .i64 0 ∧ i = .int .i64 j ∧ chkTs l = chkTs (l.drop j) ∧ Below w1.heap.size w1 wr) (fun _ i _ => l.length - (intOf i).toNat)
  case atStart => exact ⟨0, Nat.zero_le _, rfl, rfl, rfl, Below.refl _ _⟩
  case round =>
    obtain ⟨wo, rfl⟩ : ∃ wo : World, wo = wr := ⟨_, rfl⟩
    obtain ⟨j, hj, rfl, rfl, hgo, hbr⟩ := hrel
    have HGO := Lib.hid hgo
    have hb0 := hw1.trans (hbr.mono hsz)
    clear hgo
    by_cases hlt : j < l.length
    · obtain ⟨m, hdr, hl1, hf1, c0, c1, c2, c3, c4, c5⟩ := (hT1.below hbr).at hlt
      have hf1 := HF.out _ hf1
      have HDR := Lib.hid hdr
      have hlt' : (j : Int) < (l.length : Int) := by omega
      have hb64 : (l.length : Int) ≤ 64 := b1
      clear hdr hT1
      obtain ⟨⟨kd, ⟨pn, pa, code⟩, nm, args⟩, ca, cc, aa, ac⟩ := m
      dsimp only at c0 c1 c2 c3 c4 c5 hf1 HDR
      obtain ⟨hcode, hargs⟩ := hl1
      dsimp only at hcode hargs
      (repeat' ((fail_if_success (with_reducible (show Code.wp _ (Code.region 9 _ _) _ _ _))); (fail_if_success at_builtin); first | go_values | go_skip | go_guarded | go_step | go_upon | go_back))
      clear c0 c1 c2 c3 c4 c5
      have N5 := blk_new wo (.cells #[.int .i64 kd, .string ⟨pn.toArray⟩, .int .i64 pa, .slice ca code.length cc, .string ⟨nm.toArray⟩, .slice aa args.length ac] 175)
      have hb5 : Below wo.heap.size wo (wo.alloc (.cells #[.int .i64 kd, .string ⟨pn.toArray⟩, .int .i64 pa, .slice ca code.length cc, .string ⟨nm.toArray⟩, .slice aa args.length ac] 175)) := (Below.refl _ wo).alloc (Nat.le_refl _) _
      generalize wo.alloc (.cells #[.int .i64 kd, .string ⟨pn.toArray⟩, .int .i64 pa, .slice ca code.length cc, .string ⟨nm.toArray⟩, .slice aa args.length ac] 175) = w5 at N5 hb5 ⊢
      have d0 := blk_cell N5 0
      have d1 := blk_cell N5 1
      have d2 := blk_cell N5 2
      have d3 := blk_cell N5 3
      have d4 := blk_cell N5 4
      have d5 := blk_cell N5 5
      have HHF := Lib.hid hf1
      have HAL := Lib.hid (show args.length ≤ 140737488355328 from hf1.2.2)
      clear hf1
      by_cases hk : kd = 1 ∨ kd = 2 ∨ kd = 3
      · have HK := Lib.hid hk
        have hme := meth_any hk
        have hen := chkF_enters kd
        clear hk
        (repeat' ((fail_if_success (with_reducible (show Code.wp _ (Code.region 10 _ _) _ _ _))); (fail_if_success at_builtin); first | go_values | go_skip | go_guarded | go_step | go_upon | go_back))
        (refine (kindOf_any _ kd HK.out pn nm pa ca aa code.length cc args.length ac).mono ?_; rintro e1 w6 ⟨rfl, hb6⟩; dsimp only)
        have hb56 := hb5.trans (hb6.mono hb5.size)
        have hc6 : Code2 w6 ca code := RowT.below hcode hb56
        have hv6 : Vals w6 aa args := RowT.below hargs hb56
        have N6 := blk_below hb6 N5 (blk_lt N5)
        clear d0 d1 d2 d3 d4 d5 hcode hargs N5 hb5 hb6
        (repeat' ((fail_if_success at_builtin); first | go_values | go_skip | go_guarded | go_step | go_upon | go_back))
        (refine (own_check _ kd HK.out pn nm pa code args ca aa cc ac hc6.one HHF.out).mono ?_; rintro e1 w7 ⟨rfl, hb7⟩; dsimp only)
        have hb57 := hb56.trans (hb7.mono hb56.size)
        have hv7 : Vals w7 aa args := RowT.below hv6 hb7
        have d5 := blk_cell (blk_below hb7 N6 (blk_lt N6)) 5
        have hbw := hbr.trans (hb57.mono hbr.size)
        clear hc6 hv6 hb56 hb7 N6 hme hen hb57
        by_cases hE : chkT0 ⟨kd, ⟨pn, pa, code⟩, nm, args⟩ = 0
        · have e0 : (chkT0 ⟨kd, ⟨pn, pa, code⟩, nm, args⟩ != 0) = false := by simp [hE]
          have HE := Lib.hid hE
          clear hE
          (repeat' ((fail_if_success at_builtin); first | go_values | go_skip | go_guarded | go_step | go_upon | go_back))
          rw [HE.out]
          clear d5 e0
          go_loopw [3, 55] (fun e i wr => ∃ k : Nat, k ≤ args.length ∧ e = .int .i64 0 ∧ i = .int .i64 k ∧ chkVs args = chkVs (args.drop k) ∧ Below w7.heap.size w7 wr) (fun _ i _ => args.length - (intOf i).toNat)
          case atStart => exact ⟨0, Nat.zero_le _, rfl, rfl, rfl, Below.refl _ _⟩
          case round =>
            obtain ⟨k, hk, rfl, rfl, hvs, hbx⟩ := hrel
            have HVS := Lib.hid hvs
            have hbwr := hbw.trans (hbx.mono hbw.size)
            clear hvs hbw
            by_cases hlk : k < args.length
            · obtain ⟨v, hv⟩ : ∃ v, args[k]? = some v := ⟨_, List.getElem?_eq_getElem hlk⟩
              have hdk : args.drop k = v :: args.drop (k + 1) := by
                rw [List.drop_eq_getElem_cons hlk]; congr 1
                rw [List.getElem?_eq_getElem hlk] at hv; exact Option.some.inj hv
              have HDK := Lib.hid hdk
              obtain ⟨ga, oa, rfl, v0, v1, v2⟩ := Vals.cells (RowT.below hv7 hbx) hv
              have hlk' : (k : Int) < (args.length : Int) := by omega
              have hal : (args.length : Int) ≤ 140737488355328 := by have := HAL.out; omega
              clear hdk hv hv7
              by_cases hE2 : chkV v = 0
              · have e0 : (chkV v != 0) = false := by simp [hE2]
                have HE2 := Lib.hid hE2
                clear hE2
                (repeat' ((fail_if_success (with_reducible (show Code.wp _ (Code.region 17 _ _) _ _ _))); (fail_if_success at_builtin); first | go_values | go_skip | go_guarded | go_step | go_upon | go_back))
                clear v0 v1 v2
                have nv := blk_new wr (.cells #[.int .i64 v.k, .int .i64 v.i, .string ⟨v.t.toArray⟩] 177)
                have hbn : Below wr.heap.size wr (wr.alloc (.cells #[.int .i64 v.k, .int .i64 v.i, .string ⟨v.t.toArray⟩] 177)) := (Below.refl _ wr).alloc (Nat.le_refl _) _
                generalize wr.alloc (.cells #[.int .i64 v.k, .int .i64 v.i, .string ⟨v.t.toArray⟩] 177) = w8 at nv hbn ⊢
                obtain ⟨n0, n1, n2, -⟩ := blk3 nv
                (repeat' ((fail_if_success at_builtin); first | go_values | go_skip | go_guarded | go_step | go_upon | go_back))
                (refine (check_any _ v).mono ?_; rintro e1 w9 ⟨rfl, hb9⟩; dsimp only)
                (repeat' ((fail_if_success at_builtin); first | go_values | go_skip | go_guarded | go_step | go_upon | go_back))
                go_roundw
                case rel => exact ⟨k + 1, by omega, by rw [HE2.out], by go_num, by rw [HVS.out, HDK.out, chkVs, if_neg (by simp [HE2.out])], hbx.trans ((hbn.trans (hb9.mono hbn.size)).mono hbx.size)⟩
                case measure => simp [intOf]; omega
              · have e0 : (chkV v != 0) = true := by simpa using hE2
                have HE2 := Lib.hid hE2
                clear hE2
                (repeat' ((fail_if_success (with_reducible (show Code.wp _ (Code.region 17 _ _) _ _ _))); (fail_if_success at_builtin); first | go_values | go_skip | go_guarded | go_step | go_upon | go_back))
                clear v0 v1 v2
                have nv := blk_new wr (.cells #[.int .i64 v.k, .int .i64 v.i, .string ⟨v.t.toArray⟩] 177)
                have hbn : Below wr.heap.size wr (wr.alloc (.cells #[.int .i64 v.k, .int .i64 v.i, .string ⟨v.t.toArray⟩] 177)) := (Below.refl _ wr).alloc (Nat.le_refl _) _
                generalize wr.alloc (.cells #[.int .i64 v.k, .int .i64 v.i, .string ⟨v.t.toArray⟩] 177) = w8 at nv hbn ⊢
                obtain ⟨n0, n1, n2, -⟩ := blk3 nv
                (repeat' ((fail_if_success at_builtin); first | go_values | go_skip | go_guarded | go_step | go_upon | go_back))
                (refine (check_any _ v).mono ?_; rintro e1 w9 ⟨rfl, hb9⟩; dsimp only)
                (repeat' ((fail_if_success at_builtin); first | go_values | go_skip | go_guarded | go_step | go_upon | go_back))
                rw [Exit.noGoto_ret]
                have HV2 := Lib.hid (show chkVs args = chkV v by rw [HVS.out, HDK.out, chkVs, if_pos HE2.out])
                refine bodyPost_ret (results_tmp rfl _ _ _) rfl ⟨?_, hw1.trans ((hbwr.trans ((hbn.trans (hb9.mono hbn.size)).mono hbwr.size)).mono hsz)⟩
                refine congrArg (fun x => Ending.returned (.int .i64 x)) ?_
                rw [HGO.out, HDR.out, chkTs_a HE.out (by rw [HV2.out]; exact HE2.out)]
                exact HV2.out.symm
            · obtain rfl : k = args.length := by omega
              rw [List.drop_length, chkVs] at HVS
              have HN := Lib.hid (show chkTs l = chkTs (l.drop (j + 1)) by rw [HGO.out, HDR.out, chkTs_1 HE.out HVS.out])
              (repeat' ((fail_if_success at_builtin); first | go_values | go_skip | go_guarded | go_step | go_upon | go_back))
              go_roundw
              case rel => exact ⟨j + 1, by omega, rfl, by go_num, HN.out, hbwr⟩
              case measure => simp [intOf]; omega
        · have e0 : (chkT0 ⟨kd, ⟨pn, pa, code⟩, nm, args⟩ != 0) = true := by simpa using hE
          have HE := Lib.hid hE
          clear hE
          (repeat' ((fail_if_success at_builtin); first | go_values | go_skip | go_guarded | go_step | go_upon | go_back))
          rw [Exit.noGoto_ret]
          refine bodyPost_ret (results_tmp rfl _ _ _) rfl ⟨?_, hw1.trans (hbw.mono hsz)⟩
          refine congrArg (fun x => Ending.returned (.int .i64 x)) ?_
          rw [HGO.out, HDR.out, chkTs_0 HE.out]
      · have HK := Lib.hid hk
        have h1 : chkT0 ⟨kd, ⟨pn, pa, code⟩, nm, args⟩ = 1 := by
          unfold chkT0
          dsimp only
          rw [if_neg (fun h => hk (.inl h)), if_neg (fun h => hk (.inr (.inl h))), if_neg (fun h => hk (.inr (.inr h)))]
        have HE := Lib.hid (show chkTs l = 1 by rw [HGO.out, HDR.out, chkTs_0 (by rw [h1]; decide), h1])
        clear hk h1
        (repeat' ((fail_if_success (with_reducible (show Code.wp _ (Code.region 10 _ _) _ _ _))); (fail_if_success at_builtin); first | go_values | go_skip | go_guarded | go_step | go_upon | go_back))
        (refine (kindOf_0 _ kd (fun h => HK.out (.inl h)) (fun h => HK.out (.inr (.inl h))) (fun h => HK.out (.inr (.inr h))) pn nm pa ca aa code.length cc args.length ac).mono ?_; rintro e1 w6 ⟨rfl, hb6⟩; dsimp only)
        (repeat' ((fail_if_success at_builtin); first | go_values | go_skip | go_guarded | go_step | go_upon | go_back))
        rw [Exit.noGoto_ret]
        refine bodyPost_ret (results_tmp rfl _ _ _) rfl ⟨?_, hw1.trans ((hbr.trans ((hb5.trans (hb6.mono hb5.size)).mono hbr.size)).mono hsz)⟩
        refine congrArg (fun x => Ending.returned (.int .i64 x)) ?_
        exact HE.out.symm
    · obtain rfl : j = l.length := by omega
      rw [List.drop_length, chkTs] at HGO
      (repeat' ((fail_if_success at_builtin); first | go_values | go_skip | go_guarded | go_step | go_upon | go_back))
      rw [Exit.noGoto_ret]
      refine bodyPost_ret (results_tmp rfl _ _ _) rfl ⟨?_, hb0⟩
      refine congrArg (fun x => Ending.returned (.int .i64 x)) ?_
      exact HGO.out.symm
end Go.Proofs.YtbppnihcbcdglaaGreat
