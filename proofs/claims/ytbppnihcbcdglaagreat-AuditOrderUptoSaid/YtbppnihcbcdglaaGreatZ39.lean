/- Plain words: what AuditMeans and AuditOrder ask of a report, place by place. No program here. No condition. -/
import Derived.Sort.Walk0
import Derived.Test.YtbppnihcbcdglaaGreatZ30
/- Plain words: bounds on the way of a look. No program here. No condition. -/
namespace Go.Proofs.YtbppnihcbcdglaaGreat

theorem FirstIs.max {fs : Fs} {f : Int} (h : FirstIs fs f) : f ≤ 281474976710655 := by
  have := h.len
  unfold nameOf at this
  split at this
  · cases this
  · omega
theorem fromGo_snoc (base : Int) (l : List Int) (x : Int) : fromGo base (l ++ [x]) = if x ≤ base + 1 then (l.length : Int) else fromGo base l := by
  unfold fromGo
  rw [List.zipIdx_append, List.foldl_append]
  simp [fromStep]
theorem fromGo_bounds (base : Int) (l : List Int) : -1 ≤ fromGo base l ∧ fromGo base l < l.length := by
  have h1 := from_lt base l 0 (-1) (by omega)
  rw [Nat.zero_add] at h1
  refine ⟨?_, h1⟩
  have : ∀ (l : List Int) (j : Nat) (r : Int), -1 ≤ r → -1 ≤ (l.zipIdx j).foldl (fromStep base) r := by
    intro l
    induction l with
    | nil => intro j r h; exact h
    | cons x t ih =>
      intro j r h
      rw [List.zipIdx_cons, List.foldl_cons]
      refine ih _ _ ?_
      unfold fromStep
      split <;> omega
  exact this l 0 (-1) (by omega)
theorem scanGo_ok (b : Bs) : ∀ (k i : Nat) (nx : Int), ∀ x ∈ scanGo b k i nx, chkB x.1 = 0
  | 0, _, _, x, h => by cases h
  | k + 1, i, nx, x, h => by
    simp only [scanGo] at h
    split at h
    · cases h
    · split at h
      · cases h
      · rename_i hd
        rcases List.mem_cons.1 h with h | h
        · subst h
          have he : (decB (nextF b i).1).2 = 0 := by
            apply Classical.byContradiction
            intro hne
            exact hd (.inl hne)
          exact (decB_ok (b := (nextF b i).1) (x := (decB (nextF b i).1).1) (by rw [← he])).1
        · exact scanGo_ok b k _ _ x h
/-- A number that a store may bear. -/
def Mid (x : Int) : Prop := -1000000000000000000 ≤ x ∧ x ≤ 1000000000000000000
theorem segGo_mid (base : Int) : ∀ (l : List (Bt × Nat)) (a : Int × Nat × Bool), (∀ x ∈ l, chkB x.1 = 0) → Mid a.1 → Mid (segGo base l a).1
  | [], _, _, h => h
  | x :: l, a, hl, h => by
    refine segGo_mid base l (segStep base a x) (fun y hy => hl y (.tail _ hy)) ?_
    have := chkB_ok (hl x (.head _))
    show Mid (x.1.first + x.1.txns.length - 1)
    unfold Mid
    omega
theorem aSeg_mid {fs : Fs} {firsts : List Int} {i : Nat} {first : Bool} {s : AS} (h : Mid s.last) : Mid (aSeg fs firsts i first s).1.last := by
  unfold aSeg
  dsimp only
  split
  · exact segGo_mid _ _ _ (scanGo_ok _ _ _ _) h
  · exact h
theorem aSeg_len (fs : Fs) (firsts : List Int) (i : Nat) (first : Bool) (s : AS) : (aSeg fs firsts i first s).1.needed.length = s.needed.length + 1 := by unfold aSeg; dsimp only; split <;> simp [AS.need]
theorem aSeg_fst (fs : Fs) (firsts : List Int) (i : Nat) (first : Bool) {s : AS} (h : s.segs.map Prod.fst = firsts) : (aSeg fs firsts i first s).1.segs.map Prod.fst = firsts ∧ (aSeg fs firsts i first s).1.base = s.base := by
  unfold aSeg
  dsimp only
  split
  · exact ⟨set_fst h _ _, rfl⟩
  · exact ⟨h, rfl⟩
def logFin (r : AS × Bool) : AS × Bool := if r.2 then (r.1, decide (r.1.base ≤ r.1.last)) else r
def seg0 (f : Int) : Int × Int := (f, 0)
theorem aLog_eq (fs : Fs) (firsts : List Int) (s : AS) (h : firsts.length ≠ 0) : aLog fs firsts s = if fromGo s.base firsts < 0 then ({ s with last := s.base, segs := firsts.map seg0 }, false) else
    logFin (aSegs fs firsts (firsts.length - (fromGo s.base firsts).toNat) (fromGo s.base firsts).toNat true { s with last := firsts.getD (fromGo s.base firsts).toNat 0 - 1, segs := firsts.map seg0 }) := by
  unfold aLog
  rw [if_neg h]
  rfl
end Go.Proofs.YtbppnihcbcdglaaGreat
/- Plain words: bounds on what a look comes to. No program here. No condition. -/
namespace Go.Proofs.YtbppnihcbcdglaaGreat

theorem aSegs_mid {fs : Fs} {firsts : List Int} : ∀ (k i : Nat) (first : Bool) (s : AS), s.segs.map Prod.fst = firsts → Mid s.last → Mid (aSegs fs firsts k i first s).1.last ∧ (aSegs fs firsts k i first s).1.base = s.base
  | 0, _, _, _, _, h => ⟨h, rfl⟩
  | k + 1, i, first, s, hf, h => by
    have h1 := aSeg_mid (fs := fs) (firsts := firsts) (i := i) (first := first) h
    obtain ⟨h2, h3⟩ := aSeg_fst fs firsts i first hf
    simp only [aSegs]
    split
    · obtain ⟨h4, h5⟩ := aSegs_mid k (i + 1) false _ h2 h1
      exact ⟨h4, h5.trans h3⟩
    · exact ⟨h1, h3⟩
theorem mid_of {x : Int} (h : 0 ≤ x ∧ x ≤ 281474976710655) : Mid x := by unfold Mid; omega
theorem aLog_mid {fs : Fs} {firsts : List Int} {s : AS} (hb : 0 ≤ s.base ∧ s.base ≤ 281474976710655) (hff : ∀ f ∈ firsts, FirstIs fs f) : Mid (aLog fs firsts s).1.last ∧ Mid (aLog fs firsts s).1.base := by
  by_cases h0 : firsts.length = 0
  · unfold aLog
    rw [if_pos h0]
    exact ⟨mid_of hb, mid_of hb⟩
  · rw [aLog_eq fs firsts s h0]
    split
    · exact ⟨mid_of hb, mid_of hb⟩
    · have hm : Mid (firsts.getD (fromGo s.base firsts).toNat 0 - 1) := by
        unfold Mid
        rw [List.getD_eq_getElem?_getD]
        cases hx : firsts[(fromGo s.base firsts).toNat]? with
        | none => simp
        | some f =>
          have h1 := (hff f (List.mem_of_getElem? hx)).max
          have h2 := (hff f (List.mem_of_getElem? hx)).one
          simp only [Option.getD_some]
          omega
      obtain ⟨h1, h2⟩ := aSegs_mid (fs := fs) (firsts := firsts) (firsts.length - (fromGo s.base firsts).toNat) (fromGo s.base firsts).toNat true { s with last := firsts.getD (fromGo s.base firsts).toNat 0 - 1, segs := firsts.map seg0 } (by simp [Function.comp_def, seg0]) hm
      have h3 : Mid (aSegs fs firsts (firsts.length - (fromGo s.base firsts).toNat) (fromGo s.base firsts).toNat true { s with last := firsts.getD (fromGo s.base firsts).toNat 0 - 1, segs := firsts.map seg0 }).1.base := by rw [h2]; exact mid_of hb
      unfold logFin
      split
      · exact ⟨h1, h3⟩
      · exact ⟨h1, h3⟩
theorem aAll_short {fs : Fs} (hn : (fs.map Prod.fst).Nodup) : (aAll fs (firstsOf fs)).1.needed.length ≤ fs.length := by
  have h := aAll_nd hn
  have := count_parts hn h.nodup h.there
  rw [List.length_map] at this
  omega
theorem raw_len (fs : Fs) : (rawFirsts fs).length ≤ fs.length := List.length_filterMap_le _ _
theorem firsts_len (fs : Fs) : (firstsOf fs).length ≤ fs.length := by
  unfold firstsOf
  rw [List.length_mergeSort]
  exact raw_len fs
theorem firsts_is (fs : Fs) : ∀ i, i < (firstsOf fs).length → FirstIs fs ((firstsOf fs).getD i 0) := fun i hi => first_is (by
  rw [List.getD_eq_getElem?_getD, List.getElem?_eq_getElem hi]
  exact List.getElem_mem hi)
theorem aMan_needs (fs : Fs) : (aMan fs AS.nil).1.needed.length ≤ 1 := by
  unfold aMan
  split
  · simp [AS.nil]
  · dsimp only
    split <;> simp [AS.need, AS.nil]
theorem aFits_needs (fs : Fs) (s : AS) (n m : Int) : (aFits fs s n m).1.needed.length ≤ s.needed.length + 1 := by
  unfold aFits
  split <;> simp [AS.need]
theorem aCkpt_needs (fs : Fs) (firsts : List Int) (s : AS) : (aCkpt fs firsts s).1.needed.length ≤ s.needed.length + 2 := by
  have h1 := aFits_needs fs s s.man.file s.man.mark
  have h2 := aFits_needs fs (aFits fs s s.man.file s.man.mark).1 s.man.prev s.man.pmark
  unfold aCkpt
  dsimp only
  repeat' split
  all_goals (dsimp only; omega)
theorem aAll_man {fs : Fs} {firsts : List Int} {s : AS} (h : aMan fs AS.nil = (s, false)) : aAll fs firsts = (s, false) := by unfold aAll; rw [h]; rfl
theorem aAll_ckpt {fs : Fs} {firsts : List Int} {s s' : AS} (h : aMan fs AS.nil = (s, true)) (h' : aCkpt fs firsts s = (s', false)) : aAll fs firsts = (s', false) := by unfold aAll; simp only [h, if_true]; rw [h']; rfl
theorem aAll_log {fs : Fs} {firsts : List Int} {s s' : AS} (h : aMan fs AS.nil = (s, true)) (h' : aCkpt fs firsts s = (s', true)) : aAll fs firsts = aLog fs firsts s' := by unfold aAll; simp only [h, if_true]; rw [h']; rfl
end Go.Proofs.YtbppnihcbcdglaaGreat
/- Plain words: the report that the document fixes. No program here. No condition. -/
namespace Go.Proofs.YtbppnihcbcdglaaGreat
def log2 : Bs := [108, 111, 103, 45, 48, 48, 48, 48, 48, 48, 48, 48, 48, 48, 48, 50]
def knownFs : Fs := [([120], []), (manW, []), (log2, [])]
theorem sort_is {l l' : List Bs} (h : l.Perm l') (hs : l'.Pairwise (fun a b => leN a b = true)) : l.mergeSort leN = l' := by
  refine List.Perm.eq_of_pairwise (le := fun a b => leN a b = true) ?_ (List.pairwise_mergeSort (le := leN) leN_trans leN_total _) hs ((List.mergeSort_perm l leN).trans h)
  intro a b _ _ h1 h2
  simp only [leN, decide_eq_true_eq] at h1 h2
  exact List.le_antisymm h1 h2
theorem look_known : (lookF knownFs).err = 20 ∧ (lookF knownFs).has = false ∧ (lookF knownFs).needed = [] ∧ (lookF knownFs).left = [log2, manW] ∧ (lookF knownFs).others = [[120]] := by
  have hf : firstsOf knownFs = [2] := by
    unfold firstsOf
    rw [show rawFirsts knownFs = [2] by decide +kernel]
    simp
  have hs : sortN knownFs = [log2, manW, [120]] := sort_is (by decide +kernel) (by decide +kernel)
  have ha : aAll knownFs [2] = (⟨[], false, Mf.nil, [(2, 0)], 0, 0, 0⟩, false) := by rfl
  have hl : lookF knownFs = ⟨20, 0, 0, 0, 0, false, Mf.nil, [], [], [log2, manW], [[120]]⟩ := by
    unfold lookF
    rw [if_pos (by decide +kernel), hf, ha]
    unfold repOf
    rw [if_neg (by simp), hs]
    have h1 : leftOf [] [log2, manW, [120]] = [log2, manW] := by decide +kernel
    have h2 : othersOf [] [log2, manW, [120]] = [[120]] := by decide +kernel
    rw [h1, h2]
  rw [hl]
  exact ⟨rfl, rfl, rfl, rfl, rfl⟩
end Go.Proofs.YtbppnihcbcdglaaGreat
namespace Go.Proofs.YtbppnihcbcdglaaGreat
set_option linter.unusedVariables false

theorem look_short (fs : Fs) : (lookF fs).segs.length ≤ fs.length ∧ (lookF fs).needed.length ≤ fs.length ∧ (lookF fs).left.length ≤ fs.length ∧ (lookF fs).others.length ≤ fs.length := by
  have h1 : (lookF fs).segs.length ≤ fs.length := by
    by_cases h : (lookF fs).err = 0
    · have := congrArg List.length (look_means h).2.2.2.2.2.2.1
      rw [List.length_map] at this
      rw [this]; exact firsts_len fs
    · rw [(look_bad h).2.2.2.2.2]; exact Nat.zero_le _
  by_cases h : (lookF fs).err = 1
  · have : ¬ (fs.map Prod.fst).Nodup := by
      intro hn
      unfold lookF at h
      rw [if_pos hn] at h
      unfold repOf at h
      split at h <;> cases h
    have h2 : lookF fs = Rp.arg := by unfold lookF; rw [if_neg this]
    rw [h2]
    exact ⟨Nat.zero_le _, Nat.zero_le _, Nat.zero_le _, Nat.zero_le _⟩
  · have := (look_count h).2.2.1
    exact ⟨h1, by omega, by omega, by omega⟩
theorem look_arg {fs : Fs} (h : (lookF fs).err = 1) : lookF fs = Rp.arg := by
  have : ¬ (fs.map Prod.fst).Nodup := by
    intro hn
    unfold lookF at h
    rw [if_pos hn] at h
    unfold repOf at h
    split at h <;> cases h
  unfold lookF
  rw [if_neg this]
theorem look_segs {fs : Fs} (h : (lookF fs).err = 0) : (∀ (j : Nat) (x : Int × Int), (lookF fs).segs[j]? = some x → 1 ≤ x.1 ∧ 0 ≤ x.2) ∧ ∀ (j k : Nat) (x y : Int × Int), (lookF fs).segs[j]? = some x → (lookF fs).segs[k]? = some y → k < j → y.1 < x.1 := by
  have hm := look_means h
  have h7 := hm.2.2.2.2.2.2.1
  have h8 := hm.2.2.2.2.2.2.2
  refine ⟨fun j x hx => ?_, fun j k x y hx hy hk => ?_⟩
  · have hx' := List.mem_of_getElem? hx
    refine ⟨(first_is (fs := fs) ?_).one, h8 x hx'⟩
    rw [← h7]
    exact List.mem_map.2 ⟨x, hx', rfl⟩
  · have hp := firsts_rise (look_ok h).1
    rw [← h7] at hp
    obtain ⟨hj, ej⟩ := List.getElem?_eq_some_iff.1 hx
    obtain ⟨hk', ek⟩ := List.getElem?_eq_some_iff.1 hy
    have := List.pairwise_iff_getElem.1 hp k j (by rw [List.length_map]; exact hk') (by rw [List.length_map]; exact hj) hk
    rw [List.getElem_map, List.getElem_map, ej, ek] at this
    exact this
theorem rise_at {l : List Bs} (h : l.Pairwise (· < ·)) {j k : Nat} {x y : Bs} (hx : l[j]? = some x) (hy : l[k]? = some y) (hk : k < j) : (Go.Op.bytesLess x y || x == y) = false := by
  obtain ⟨hj, ej⟩ := List.getElem?_eq_some_iff.1 hx
  obtain ⟨hk', ek⟩ := List.getElem?_eq_some_iff.1 hy
  have := List.pairwise_iff_getElem.1 h k j hk' hj hk
  rw [ej, ek] at this
  rw [Go.Proofs.bytesLess_eq, decide_eq_false (List.lt_asymm this), Bool.false_or]
  exact beq_eq_false_iff_ne.2 (fun e => by rw [e] at this; exact List.lt_irrefl _ this)
theorem look_mid {fs : Fs} (h : (lookF fs).err = 0) : Mid (lookF fs).last ∧ Mid (lookF fs).base := by
  obtain ⟨h1, h2, h3, h4, h5, -, -⟩ := look_ok h
  have := aLog_mid (fs := fs) (firsts := firstsOf fs) (s := (aCkpt fs (firstsOf fs) (aMan fs AS.nil).1).1) h4.base (fun f hf => first_is hf)
  rw [h3]
  unfold repOf
  rw [if_pos h2, h5]
  exact this
/-- The last segment, cut off where it is torn. -/
theorem look_torn {fs : Fs} (h : (lookF fs).err = 0) (ht : (lookF fs).torn ≠ 0) : ∃ (nm : Bs) (e : Nat) (kn ks : Nat) (f : Int), kn + 1 = (lookF fs).needed.length ∧ (lookF fs).needed[kn]? = some nm ∧ ks + 1 = (lookF fs).segs.length ∧ (lookF fs).segs[ks]? = some (f, ((e : Nat) : Int)) ∧
    (∀ x ∈ fs, x.1 = nm → e ≤ x.2.length ∧ (x.2.length : Int) - (lookF fs).torn = e) ∧ lookF (cutF fs nm e) = { lookF fs with torn := 0 } := by
  obtain ⟨f, e, d, h1, h2, h3, h4, h5, h6⟩ := look_cut h ht
  have hne : (lookF fs).needed ≠ [] := fun e => by rw [e] at h1; cases h1
  have hns : (lookF fs).segs ≠ [] := fun e => by rw [e] at h2; cases h2
  have l1 := List.length_pos_iff.2 hne
  have l2 := List.length_pos_iff.2 hns
  rw [List.getLast?_eq_getElem?] at h1 h2
  refine ⟨_, e, _, _, f, by omega, h1, by omega, h2, fun x hx hn => ?_, h6⟩
  have hnd := (look_ok h).1
  have : d = x.2 := by
    have hm := getF_mem h3
    obtain ⟨i, hi, ei⟩ := List.mem_iff_getElem.1 hm
    obtain ⟨k, hk, ek⟩ := List.mem_iff_getElem.1 hx
    have hp := List.nodup_iff_pairwise_ne.1 hnd
    rcases Nat.lt_trichotomy i k with hik | hik | hik
    · have := List.pairwise_iff_getElem.1 hp i k (by rw [List.length_map]; exact hi) (by rw [List.length_map]; exact hk) hik
      rw [List.getElem_map, List.getElem_map, ei, ek] at this
      exact absurd hn.symm this
    · subst hik
      rw [ei] at ek
      rw [← ek]
    · have := List.pairwise_iff_getElem.1 hp k i (by rw [List.length_map]; exact hk) (by rw [List.length_map]; exact hi) hik
      rw [List.getElem_map, List.getElem_map, ei, ek] at this
      exact absurd hn this
  rw [← this]
  exact ⟨h4, h5⟩
end Go.Proofs.YtbppnihcbcdglaaGreat
