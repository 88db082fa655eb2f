/- Plain words: the order of the files, and files that are not needed, make no difference. No program here. No condition. -/
import Derived.Test.YtbppnihcbcdglaaGreatZ1
/- Plain words: what a report may be. No program here. No condition. -/
namespace Go.Proofs.YtbppnihcbcdglaaGreat

theorem getF_mem {fs : Fs} {k d : Bs} (h : getF fs k = some d) : (k, d) ∈ fs := by
  induction fs with
  | nil => cases h
  | cons x t ih =>
    simp only [getF] at h
    by_cases e : x.1 = k
    · rw [if_pos e] at h
      cases h
      subst e
      exact .head _
    · rw [if_neg e] at h
      exact .tail _ (ih h)
theorem getF_some {fs : Fs} {k : Bs} (h : k ∈ fs.map Prod.fst) : ∃ d, getF fs k = some d := by
  induction fs with
  | nil => cases h
  | cons x t ih =>
    simp only [getF]
    by_cases e : x.1 = k
    · exact ⟨_, if_pos e⟩
    · rw [if_neg e]
      refine ih ?_
      rw [List.map_cons, List.mem_cons] at h
      exact h.resolve_left (fun h => e h.symm)

/-- A number that a name says: the name is the one that it makes. -/
theorem numOf_name {head s : Bs} {v : Int} (h : numOfName head s = (v, true)) : nameOf head v = s ∧ s.length = head.length + 12 ∧ 0 ≤ v := by
  unfold numOfName at h
  split at h
  · simp at h
  rename_i h1
  split at h
  · simp at h
  rename_i h2
  cases hx : hexGo (s.drop head.length) 0 with
  | none => rw [hx] at h; simp at h
  | some n =>
    rw [hx] at h
    simp only [Prod.mk.injEq, beq_iff_eq] at h
    obtain ⟨rfl, h3⟩ := h
    refine ⟨h3, ?_, by omega⟩
    have h1' : head.isPrefixOf s = true := by simpa using h1
    rw [List.isPrefixOf_iff_prefix] at h1'
    have := h1'.length_le
    simp only [List.length_drop] at h2
    omega
theorem numOf_one {head s : Bs} {v : Int} (h : numOfName head s = (v, true)) : 1 ≤ v := by
  obtain ⟨h1, h2, h3⟩ := numOf_name h
  unfold nameOf at h1
  split at h1
  · subst h1; simp at h2
  · omega
theorem firstOf_eq {n : Bs} {v : Int} (h : firstOf n = some v) : numOfName logH n = (v, true) := by
  unfold firstOf at h
  split at h
  · rename_i h1
    have := Option.some.inj h
    exact Prod.ext this h1
  · cases h
theorem firstOf_inj {a b : Bs} {v : Int} (ha : firstOf a = some v) (hb : firstOf b = some v) : a = b :=
  (numOf_name (firstOf_eq ha)).1.symm.trans (numOf_name (firstOf_eq hb)).1
/-- What a segment's number stands for. -/
structure FirstIs (fs : Fs) (f : Int) : Prop where
  one : 1 ≤ f
  len : (nameOf logH f).length = 16
  num : firstOf (nameOf logH f) = some f
  there : nameOf logH f ∈ fs.map Prod.fst
theorem first_is {fs : Fs} {f : Int} (h : f ∈ firstsOf fs) : FirstIs fs f := by
  unfold firstsOf at h
  rw [List.mem_mergeSort] at h
  obtain ⟨x, hx, h2⟩ := List.mem_filterMap.1 h
  have h3 := firstOf_eq h2
  obtain ⟨h4, h5, h6⟩ := numOf_name h3
  exact ⟨numOf_one h3, by rw [h4, h5]; rfl, by rw [h4]; exact h2, by rw [h4]; exact List.mem_map.2 ⟨x, hx, rfl⟩⟩
theorem leI_trans (a b c : Int) (h1 : leI a b = true) (h2 : leI b c = true) : leI a c = true := by
  simp only [leI, decide_eq_true_eq] at *
  omega
theorem leI_total (a b : Int) : (leI a b || leI b a) = true := by
  simp only [leI, Bool.or_eq_true, decide_eq_true_eq]
  omega
theorem raw_nodup : ∀ {fs : Fs}, (fs.map Prod.fst).Nodup → (rawFirsts fs).Nodup
  | [], _ => List.nodup_nil
  | x :: t, h => by
    rw [List.map_cons, List.nodup_cons] at h
    simp only [rawFirsts, List.filterMap_cons]
    cases hf : firstOf x.1 with
    | none => exact raw_nodup h.2
    | some v =>
      refine List.nodup_cons.2 ⟨fun hm => ?_, raw_nodup h.2⟩
      obtain ⟨y, hy, h2⟩ := List.mem_filterMap.1 hm
      exact h.1 (List.mem_map.2 ⟨y, hy, firstOf_inj h2 hf⟩)
theorem firsts_rise {fs : Fs} (h : (fs.map Prod.fst).Nodup) : (firstsOf fs).Pairwise (· < ·) := by
  have h1 : (firstsOf fs).Pairwise (fun a b => leI a b = true) := List.pairwise_mergeSort (le := leI) leI_trans leI_total _
  have h2 : (firstsOf fs).Pairwise (· ≠ ·) := (List.mergeSort_perm (rawFirsts fs) leI).nodup_iff.2 (raw_nodup h)
  refine (h1.and h2).imp ?_
  rintro a b ⟨h3, h4⟩
  simp only [leI, decide_eq_true_eq] at h3
  omega

/-! ### Names that rise -/
theorem leN_trans (a b c : Bs) (h1 : leN a b = true) (h2 : leN b c = true) : leN a c = true := by
  simp only [leN, decide_eq_true_eq] at *
  exact List.le_trans h1 h2
theorem leN_total (a b : Bs) : (leN a b || leN b a) = true := by
  simp only [leN, Bool.or_eq_true, decide_eq_true_eq]
  exact List.le_total a b
theorem names_rise {fs : Fs} (h : (fs.map Prod.fst).Nodup) : (sortN fs).Pairwise (· < ·) := by
  have h1 : (sortN fs).Pairwise (fun a b => leN a b = true) := List.pairwise_mergeSort (le := leN) leN_trans leN_total _
  have h2 : (sortN fs).Pairwise (· ≠ ·) := (List.mergeSort_perm (fs.map Prod.fst) leN).nodup_iff.2 h
  refine (h1.and h2).imp ?_
  rintro a b ⟨h3, h4⟩
  simp only [leN, decide_eq_true_eq] at h3
  rcases List.le_iff_lt_or_eq.1 h3 with h5 | h5
  · exact h5
  · exact absurd h5 h4

/-! ### The way of a look -/
theorem nextF_le {b : Bs} {i : Nat} (h : (nextF b i).2.2 = 0) : i + 8 ≤ (nextF b i).2.1 ∧ (nextF b i).2.1 ≤ b.length := by
  have := nextF_ok (b := b) (i := i) (body := (nextF b i).1) (j := (nextF b i).2.1) (by rw [← h])
  omega
/-- The place behind the last batch. -/
def endOf (i : Nat) (l : List (Bt × Nat)) : Nat := l.foldl (fun _ x => x.2) i
theorem scan_end (b : Bs) : ∀ (k i : Nat) (nx : Int), i ≤ b.length → i ≤ endOf i (scanGo b k i nx) ∧ endOf i (scanGo b k i nx) ≤ b.length
  | 0, i, nx, h => ⟨Nat.le_refl _, h⟩
  | k + 1, i, nx, h => by
    simp only [scanGo]
    by_cases he : (nextF b i).2.2 = 0
    · rw [if_neg (by simp [he])]
      have hn := nextF_le he
      split
      · exact ⟨Nat.le_refl _, h⟩
      · have := scan_end b k (nextF b i).2.1 (nx + (decB (nextF b i).1).1.txns.length) hn.2
        refine ⟨Nat.le_trans (by omega) this.1, this.2⟩
    · rw [if_pos he]; exact ⟨Nat.le_refl _, h⟩
theorem segGo_end (base : Int) : ∀ (l : List (Bt × Nat)) (a : Int × Nat × Bool), (segGo base l a).2.1 = endOf a.2.1 l
  | [], _ => rfl
  | x :: l, a => segGo_end base l (segStep base a x)
theorem num4_take {l : Bs} {m : Nat} (h : 4 ≤ m) : num4 (l.take m) = num4 l := by
  obtain ⟨m, rfl⟩ : ∃ k, m = k + 4 := ⟨m - 4, by omega⟩
  match l with
  | [] => simp
  | [a] => simp
  | [a, b] => simp
  | [a, b, c] => simp
  | a :: b :: c :: d :: t => simp [num4]
theorem nextF_take {b : Bs} {i e : Nat} (h : (nextF b i).2.2 = 0) (h1 : (nextF b i).2.1 ≤ e) (h2 : e ≤ b.length) : nextF (b.take e) i = nextF b i := by
  have hj := nextF_le h
  unfold nextF at h h1 hj ⊢
  have hl : (b.take e).length = e := by simp; omega
  rw [hl]
  have d0 : (b.take e).drop i = (b.drop i).take (e - i) := by rw [List.drop_take]
  have d4 : (b.take e).drop (i + 4) = (b.drop (i + 4)).take (e - (i + 4)) := by rw [List.drop_take]
  have d8 : (b.take e).drop (i + 8) = (b.drop (i + 8)).take (e - (i + 8)) := by rw [List.drop_take]
  rw [d0, d4, d8]
  split at h
  · simp at h
  rename_i g1
  split at h
  · simp at h
  rename_i g2
  split at h
  · simp at h
  rename_i g3
  split at h
  · simp at h
  rename_i g4
  split at h
  · simp at h
  rename_i g5
  rw [if_neg g1, if_neg g2, if_neg g3, if_neg g4, if_neg g5] at h1 hj
  simp only at h1 hj
  rw [num4_take (by omega), num4_take (by omega), List.take_take, List.take_take, show min 4 (e - i) = 4 by omega, show min (num4 (b.drop i)) (e - (i + 8)) = num4 (b.drop i) by omega]
  rw [if_neg g1, if_neg g2, if_neg g3, if_neg g4, if_neg g5, if_neg (by omega), if_neg (by omega), if_neg (by omega), if_neg (by omega)]
theorem scanGo_stop (b : Bs) (k i : Nat) (nx : Int) (h : (nextF b i).2.2 ≠ 0) : scanGo b k i nx = [] := by
  cases k with
  | zero => rfl
  | succ k => simp only [scanGo]; rw [if_pos h]
theorem take_stop (b : Bs) (i k : Nat) (nx : Int) (hi : i ≤ b.length) : scanGo (b.take i) k i nx = [] := by
  refine scanGo_stop _ _ _ _ ?_
  have hl : (b.take i).length = i := by simp; omega
  have := nextF_end (b.take i)
  rw [hl] at this
  rw [this]; simp
/-- Cut off behind the last batch, a segment hands on the same. -/
theorem scan_cut (b : Bs) : ∀ (k i : Nat) (nx : Int) (k' : Nat), i ≤ b.length → endOf i (scanGo b k i nx) - i < k' → scanGo (b.take (endOf i (scanGo b k i nx))) k' i nx = scanGo b k i nx
  | 0, i, nx, k', h, _ => take_stop b i k' nx h
  | k + 1, i, nx, k', h, hk => by
    have hs := scan_end b (k + 1) i nx h
    generalize he : endOf i (scanGo b (k + 1) i nx) = e at hk hs ⊢
    simp only [scanGo] at he ⊢
    by_cases hc : (nextF b i).2.2 = 0
    · rw [if_neg (by simp [hc])] at he ⊢
      by_cases hd : (decB (nextF b i).1).2 ≠ 0 ∨ (decB (nextF b i).1).1.first ≠ nx
      · rw [if_pos hd] at he ⊢
        subst he
        exact take_stop b i k' nx h
      · rw [if_neg hd] at he ⊢
        have hn := nextF_le hc
        have he2 : endOf (nextF b i).2.1 (scanGo b k (nextF b i).2.1 (nx + (decB (nextF b i).1).1.txns.length)) = e := he
        have hs2 := scan_end b k (nextF b i).2.1 (nx + (decB (nextF b i).1).1.txns.length) hn.2
        rw [he2] at hs2
        obtain ⟨m, rfl⟩ : ∃ m, k' = m + 1 := ⟨k' - 1, by omega⟩
        simp only [scanGo]
        rw [nextF_take hc hs2.1 hs.2, if_neg (by simp [hc]), if_neg hd]
        congr 1
        have := scan_cut b k (nextF b i).2.1 (nx + (decB (nextF b i).1).1.txns.length) m hn.2 (by rw [he2]; omega)
        rw [he2] at this
        exact this
    · rw [if_pos hc] at he ⊢
      subst he
      exact take_stop b i k' nx h
theorem scan_take (b : Bs) (first : Int) : scan (b.take (endOf 0 (scan b first))) first = scan b first := by
  have h := scan_end b (b.length + 1) 0 first (Nat.zero_le _)
  have hl : (b.take (endOf 0 (scan b first))).length = endOf 0 (scan b first) := by
    rw [List.length_take]
    have : endOf 0 (scan b first) ≤ b.length := h.2
    omega
  unfold scan at hl ⊢
  rw [hl]
  exact scan_cut b (b.length + 1) 0 first _ (Nat.zero_le _) (by omega)
end Go.Proofs.YtbppnihcbcdglaaGreat
/- Plain words: what a report may be, and the last segment cut off where it is torn. No program here. No condition. -/
namespace Go.Proofs.YtbppnihcbcdglaaGreat

theorem decM_may {d : Bs} (h : (decM d).2 = 0) : mayM (decM d).1 = true := by
  unfold decM at h ⊢
  dsimp only at h ⊢
  split at h
  · rename_i g; exact absurd h g
  split at h
  · cases h
  split at h
  · rename_i g; exact absurd h g
  split at h
  · cases h
  split at h
  · rename_i g; exact absurd h g
  split at h
  · rename_i g; exact absurd h g
  split at h
  · rename_i g1 g2 g3 g4 g5 g6 g7
    rw [if_neg g1, if_neg g2, if_neg g3, if_neg g4, if_neg g5, if_neg g6, if_pos g7]
    exact g7
  · cases h
theorem mayM_ge {m : Mf} (h : mayM m = true) : 1 ≤ m.file ∧ m.file ≤ 281474976710655 ∧ 0 ≤ m.mark ∧ m.mark ≤ 281474976710655 ∧ 0 ≤ m.prev ∧ m.prev < m.file ∧ 0 ≤ m.pmark ∧ m.pmark ≤ m.mark := by
  unfold mayM at h
  simp only [Bool.and_eq_true, Bool.or_eq_true, decide_eq_true_eq, beq_iff_eq] at h
  omega

/-- What holds ahead of the log. -/
structure A0 (s : AS) : Prop where
  base : 0 ≤ s.base ∧ s.base ≤ 281474976710655
  bare : s.has = false → s.base = 0
  man : s.has = true → mayM s.man = true
  torn : s.torn = 0
  segs : s.segs = []
theorem aMan_A0 (fs : Fs) : A0 (aMan fs AS.nil).1 ∧ (aMan fs AS.nil).1.base = 0 := by
  have h0 : A0 AS.nil := ⟨⟨Int.le_refl _, Int.le_of_lt (by decide)⟩, fun _ => rfl, fun h => (by cases h), rfl, rfl⟩
  unfold aMan
  split
  · exact ⟨h0, rfl⟩
  · rename_i d _
    split
    · rename_i h; exact ⟨⟨⟨Int.le_refl _, Int.le_of_lt (show (0 : Int) < 281474976710655 by decide)⟩, fun _ => rfl, fun _ => decM_may h, rfl, rfl⟩, rfl⟩
    · exact ⟨⟨⟨Int.le_refl _, Int.le_of_lt (show (0 : Int) < 281474976710655 by decide)⟩, fun _ => rfl, fun h => (by cases h), rfl, rfl⟩, rfl⟩
theorem aFits_eq (fs : Fs) (s : AS) (n m : Int) : ∃ l, (aFits fs s n m).1 = { s with needed := l } := by
  unfold aFits
  split
  · exact ⟨_, rfl⟩
  · exact ⟨_, rfl⟩
theorem aCkpt_A0 (fs : Fs) (firsts : List Int) {s : AS} (h : A0 s) : A0 (aCkpt fs firsts s).1 := by
  unfold aCkpt
  split
  · exact h
  · rename_i hh
    have hm := mayM_ge (h.man (by simpa using hh))
    obtain ⟨l1, e1⟩ := aFits_eq fs s s.man.file s.man.mark
    dsimp only
    split
    · rw [e1]; exact ⟨⟨hm.2.2.1, hm.2.2.2.1⟩, fun hf => absurd hf hh, h.man, h.torn, h.segs⟩
    · split
      · obtain ⟨l2, e2⟩ := aFits_eq fs (aFits fs s s.man.file s.man.mark).1 s.man.prev s.man.pmark
        split
        · rw [e2, e1]; exact ⟨⟨hm.2.2.2.2.2.2.1, (by have := hm.2.2.2.2.2.2.2; have := hm.2.2.2.1; show s.man.pmark ≤ _; omega)⟩, fun hf => absurd hf hh, h.man, h.torn, h.segs⟩
        · rw [e2, e1]; exact ⟨h.base, h.bare, h.man, h.torn, h.segs⟩
      · rw [e1]; exact ⟨h.base, h.bare, h.man, h.torn, h.segs⟩

/-- What the log keeps. -/
structure AI (firsts : List Int) (s0 s : AS) : Prop where
  base : s.base = s0.base
  has : s.has = s0.has
  man : s.man = s0.man
  segs : s.segs.map Prod.fst = firsts
  size : ∀ x ∈ s.segs, 0 ≤ x.2
  torn : 0 ≤ s.torn
theorem seg_end (b : Bs) (f : Int) (base : Int) (l : Int) : (segGo base (scan b f) (l, 0, false)).2.1 = endOf 0 (scan b f) ∧ endOf 0 (scan b f) ≤ b.length := by
  refine ⟨segGo_end _ _ _, ?_⟩
  exact (scan_end b (b.length + 1) 0 f (Nat.zero_le _)).2
theorem set_fst {l : List (Int × Int)} {firsts : List Int} (h : l.map Prod.fst = firsts) (i : Nat) (v : Int) : (l.set i (firsts.getD i 0, v)).map Prod.fst = firsts := by
  subst h
  rw [List.map_set]
  refine List.ext_getElem? fun j => ?_
  rw [List.getElem?_set]
  split
  · rename_i e
    subst e
    split
    · rename_i hl
      rw [List.getD_eq_getElem?_getD, List.getElem?_eq_getElem hl]
      rfl
    · rename_i hl
      rw [List.getElem?_eq_none (by omega)]
  · rfl
theorem aSeg_AI (fs : Fs) (firsts : List Int) (i : Nat) (first : Bool) {s0 s : AS} (h : AI firsts s0 s) : AI firsts s0 (aSeg fs firsts i first s).1 := by
  unfold aSeg
  dsimp only
  split
  · obtain ⟨h1, h2⟩ := seg_end (datF fs (firsts.getD i 0)) (firsts.getD i 0) s.base s.last
    refine ⟨h.base, h.has, h.man, set_fst h.segs _ _, fun x hx => ?_, ?_⟩
    · rcases List.mem_or_eq_of_mem_set hx with hx | hx
      · exact h.size x hx
      · subst hx; dsimp only; omega
    · dsimp only; rw [h1]; omega
  · exact ⟨h.base, h.has, h.man, h.segs, h.size, h.torn⟩
theorem aSegs_AI (fs : Fs) (firsts : List Int) : ∀ (k i : Nat) (first : Bool) {s0 s : AS}, AI firsts s0 s → AI firsts s0 (aSegs fs firsts k i first s).1
  | 0, _, _, _, _, h => h
  | k + 1, i, first, _, _, h => by
    simp only [aSegs]
    have h1 := aSeg_AI fs firsts i first h
    split
    · exact aSegs_AI fs firsts k (i + 1) false h1
    · exact h1
theorem aLog_AI (fs : Fs) (firsts : List Int) {s : AS} (h0 : A0 s) : AI firsts s (aLog fs firsts s).1 ∧ ((aLog fs firsts s).2 = true → (aLog fs firsts s).1.base ≤ (aLog fs firsts s).1.last) ∧ (firsts = [] → (aLog fs firsts s).1.torn = 0) := by
  have hz : (firsts.map fun f => (f, (0 : Int))).map Prod.fst = firsts := by
    rw [List.map_map]
    exact List.map_id firsts
  have hz2 : ∀ x ∈ (firsts.map fun f => (f, (0 : Int))), 0 ≤ x.2 := by
    intro x hx
    obtain ⟨f, -, rfl⟩ := List.mem_map.1 hx
    exact Int.le_refl _
  unfold aLog
  dsimp only
  split
  · rename_i hl
    have hf : firsts = [] := List.length_eq_zero_iff.1 hl
    subst hf
    exact ⟨⟨rfl, rfl, rfl, by rw [h0.segs]; rfl, (by rw [h0.segs]; intro x hx; cases hx), by show 0 ≤ s.torn; rw [h0.torn]; exact Int.le_refl _⟩, fun _ => Int.le_refl _, fun _ => h0.torn⟩
  · rename_i hl
    refine ⟨?_, ?_, fun h => by subst h; simp at hl⟩
    · split
      · exact ⟨rfl, rfl, rfl, hz, hz2, by show 0 ≤ s.torn; rw [h0.torn]; exact Int.le_refl _⟩
      · have := aSegs_AI fs firsts (firsts.length - (fromGo s.base firsts).toNat) (fromGo s.base firsts).toNat true (s0 := s) (s := { s with last := firsts.getD (fromGo s.base firsts).toNat 0 - 1, segs := firsts.map fun f => (f, 0) }) ⟨rfl, rfl, rfl, hz, hz2, by show 0 ≤ s.torn; rw [h0.torn]; exact Int.le_refl _⟩
        split
        · exact this
        · exact this
    · split
      · intro h; cases h
      · split
        · intro h; simpa using h
        · rename_i g; intro h; exact absurd h g

/-- What a whole look comes to, if nothing is damaged. -/
theorem look_ok {fs : Fs} (h : (lookF fs).err = 0) :
    (fs.map Prod.fst).Nodup ∧ (aAll fs (firstsOf fs)).2 = true ∧ lookF fs = repOf fs (aAll fs (firstsOf fs)) ∧ A0 (aCkpt fs (firstsOf fs) (aMan fs AS.nil).1).1 ∧ aAll fs (firstsOf fs) = aLog fs (firstsOf fs) (aCkpt fs (firstsOf fs) (aMan fs AS.nil).1).1 ∧ (aMan fs AS.nil).2 = true ∧ (aCkpt fs (firstsOf fs) (aMan fs AS.nil).1).2 = true := by
  unfold lookF at h ⊢
  by_cases hn : (fs.map Prod.fst).Nodup
  · rw [if_pos hn] at h ⊢
    have h2 : (aAll fs (firstsOf fs)).2 = true := by
      unfold repOf at h
      split at h
      · assumption
      · cases h
    refine ⟨hn, h2, rfl, aCkpt_A0 _ _ (aMan_A0 fs).1, ?_⟩
    unfold aAll at h2 ⊢
    dsimp only at h2 ⊢
    split at h2
    · rename_i g1
      split at h2
      · rename_i g2
        rw [if_pos g1, if_pos g2]
        exact ⟨rfl, g1, g2⟩
      · rename_i g2; exact absurd h2 g2
    · rename_i g1; exact absurd h2 g1
  · rw [if_neg hn] at h; cases h
/-- What a report is whose error is none. -/
theorem look_means {fs : Fs} (h : (lookF fs).err = 0) :
    0 ≤ (lookF fs).base ∧ (lookF fs).base ≤ (lookF fs).last ∧ (lookF fs).rep = (lookF fs).last - (lookF fs).base ∧ 0 ≤ (lookF fs).torn ∧ (0 < (lookF fs).torn → (lookF fs).segs ≠ []) ∧ ((lookF fs).has = false → (lookF fs).base = 0) ∧
    (lookF fs).segs.map Prod.fst = firstsOf fs ∧ (∀ x ∈ (lookF fs).segs, 0 ≤ x.2) := by
  obtain ⟨h1, h2, h3, h4, h5, -, -⟩ := look_ok h
  rw [h3]
  unfold repOf
  rw [if_pos h2]
  dsimp only
  have h6 := aLog_AI fs (firstsOf fs) h4
  rw [← h5] at h6
  obtain ⟨h7, h8, h9⟩ := h6
  refine ⟨by rw [h7.base]; exact h4.base.1, h8 h2, rfl, h7.torn, fun ht => ?_, fun hf => by rw [h7.base]; exact h4.bare (by rw [← h7.has]; exact hf), h7.segs, h7.size⟩
  intro hs
  have h10 := h7.segs
  rw [hs] at h10
  have := h9 h10.symm
  omega
theorem look_bad {fs : Fs} (h : (lookF fs).err ≠ 0) : ((lookF fs).err = 1 ∨ (lookF fs).err = 20) ∧ (lookF fs).base = 0 ∧ (lookF fs).last = 0 ∧ (lookF fs).rep = 0 ∧ (lookF fs).torn = 0 ∧ (lookF fs).segs = [] := by
  unfold lookF at h ⊢
  split
  · rename_i hn
    rw [if_pos hn] at h
    unfold repOf at h ⊢
    split
    · rename_i h2; rw [if_pos h2] at h; exact absurd rfl h
    · exact ⟨.inr rfl, rfl, rfl, rfl, rfl, rfl⟩
  · exact ⟨.inl rfl, rfl, rfl, rfl, rfl, rfl⟩
theorem look_rise (fs : Fs) : (lookF fs).left.Pairwise (· < ·) ∧ (lookF fs).others.Pairwise (· < ·) := by
  unfold lookF
  split
  · rename_i hn
    have := names_rise hn
    unfold repOf leftOf othersOf
    split
    · exact ⟨this.filter _, this.filter _⟩
    · exact ⟨this.filter _, this.filter _⟩
  · exact ⟨List.Pairwise.nil, List.Pairwise.nil⟩

/-! ### The last segment cut off -/
def cutF (fs : Fs) (n : Bs) (e : Nat) : Fs := fs.map fun x => if x.1 = n then (x.1, x.2.take e) else x
theorem cut_names (fs : Fs) (n : Bs) (e : Nat) : (cutF fs n e).map Prod.fst = fs.map Prod.fst := by
  unfold cutF
  rw [List.map_map]
  refine List.map_congr_left fun x _ => ?_
  show (if x.1 = n then (x.1, x.2.take e) else x).1 = x.1
  split <;> rfl
theorem cut_firsts (fs : Fs) (n : Bs) (e : Nat) : firstsOf (cutF fs n e) = firstsOf fs := by
  have hr : ∀ l : Fs, rawFirsts l = (l.map Prod.fst).filterMap firstOf := fun l => by unfold rawFirsts; rw [List.filterMap_map]; rfl
  unfold firstsOf
  rw [hr, hr, cut_names]
theorem cut_ne (fs : Fs) (n : Bs) (e : Nat) {k : Bs} (h : k ≠ n) : getF (cutF fs n e) k = getF fs k := by
  induction fs with
  | nil => rfl
  | cons x t ih =>
    show getF ((if x.1 = n then (x.1, x.2.take e) else x) :: cutF t n e) k = _
    simp only [getF]
    by_cases h1 : x.1 = n
    · rw [if_pos h1, if_neg (by show ¬ x.1 = k; rw [h1]; exact fun e => h e.symm), if_neg (by rw [h1]; exact fun e => h e.symm)]
      exact ih
    · rw [if_neg h1]
      by_cases h2 : x.1 = k
      · rw [if_pos h2, if_pos h2]
      · rw [if_neg h2, if_neg h2]; exact ih
theorem cut_eq (fs : Fs) (n : Bs) (e : Nat) : getF (cutF fs n e) n = (getF fs n).map (List.take e) := by
  induction fs with
  | nil => rfl
  | cons x t ih =>
    show getF ((if x.1 = n then (x.1, x.2.take e) else x) :: cutF t n e) n = _
    simp only [getF]
    by_cases h1 : x.1 = n
    · rw [if_pos h1, if_pos h1]
      rw [if_pos h1]; rfl
    · rw [if_neg h1, if_neg h1, if_neg h1]; exact ih
theorem aMan_cong {fs fs' : Fs} (h : getF fs' manN = getF fs manN) (s : AS) : aMan fs' s = aMan fs s := by unfold aMan; rw [h]
theorem aFits_cong {fs fs' : Fs} (h : ∀ n, getF fs' (nameOf ckptH n) = getF fs (nameOf ckptH n)) (s : AS) (n m : Int) : aFits fs' s n m = aFits fs s n m := by unfold aFits; rw [h]
theorem aCkpt_cong {fs fs' : Fs} (h : ∀ n, getF fs' (nameOf ckptH n) = getF fs (nameOf ckptH n)) (firsts : List Int) (s : AS) : aCkpt fs' firsts s = aCkpt fs firsts s := by
  unfold aCkpt
  simp only [aFits_cong h]
theorem hex12_len (n : Nat) : (hex12 n).length = 12 := by simp [hex12]
theorem name_len (head : Bs) (n : Int) : (nameOf head n).length = 0 ∨ (nameOf head n).length = head.length + 12 := by
  unfold nameOf
  split
  · exact .inl rfl
  · right; rw [List.length_append, hex12_len]
theorem aSeg_cong {fs fs' : Fs} {firsts : List Int} {i : Nat} (h : datF fs' (firsts.getD i 0) = datF fs (firsts.getD i 0)) (first : Bool) (s : AS) : aSeg fs' firsts i first s = aSeg fs firsts i first s := by
  unfold aSeg
  dsimp only
  rw [h]
/-- The last segment's end and name. -/
structure LastIs (fs : Fs) (firsts : List Int) (s : AS) : Prop where
  needed : s.needed.getLast? = some (nameOf logH (firsts.getD (firsts.length - 1) 0))
  torn : s.torn = (datF fs (firsts.getD (firsts.length - 1) 0)).length - (endOf 0 (scan (datF fs (firsts.getD (firsts.length - 1) 0)) (firsts.getD (firsts.length - 1) 0)) : Int)
  segs : s.segs.getLast? = some (firsts.getD (firsts.length - 1) 0, (endOf 0 (scan (datF fs (firsts.getD (firsts.length - 1) 0)) (firsts.getD (firsts.length - 1) 0)) : Int))
theorem aSegs_cut {fs fs' : Fs} {firsts : List Int} (hsame : ∀ i, i + 1 < firsts.length → datF fs' (firsts.getD i 0) = datF fs (firsts.getD i 0))
    (hlast : datF fs' (firsts.getD (firsts.length - 1) 0) = (datF fs (firsts.getD (firsts.length - 1) 0)).take (endOf 0 (scan (datF fs (firsts.getD (firsts.length - 1) 0)) (firsts.getD (firsts.length - 1) 0)))) :
    ∀ (k i : Nat) (first : Bool) (s : AS), i + (k + 1) = firsts.length → s.segs.length = firsts.length → (aSegs fs firsts (k + 1) i first s).2 = true →
      aSegs fs' firsts (k + 1) i first s = ({ (aSegs fs firsts (k + 1) i first s).1 with torn := 0 }, true) ∧ LastIs fs firsts (aSegs fs firsts (k + 1) i first s).1
  | 0, i, first, s, hi, hl, h => by
    have e1 : ∀ g : Fs, aSegs g firsts 1 i first s = aSeg g firsts i first s := fun g => by
      simp only [aSegs]
      split
      · rename_i h2; rw [← h2]
      · rfl
    rw [e1] at h ⊢
    rw [e1]
    obtain rfl : i = firsts.length - 1 := by omega
    generalize hf : firsts.getD (firsts.length - 1) 0 = f at hlast
    unfold aSeg at h ⊢
    dsimp only at h ⊢
    rw [hf] at h ⊢
    rw [hlast, scan_take]
    obtain ⟨g1, g2⟩ := seg_end (datF fs f) f s.base s.last
    split at h
    · rename_i h3
      rw [if_pos h3, if_pos h3]
      rw [g1] at h ⊢
      rw [List.length_take, Nat.min_eq_left g2]
      simp only [Bool.and_eq_true] at h
      refine ⟨Prod.ext ?_ ?_, ?_⟩
      · show AS.mk _ _ _ _ _ _ _ = AS.mk _ _ _ _ _ _ _
        rw [Int.sub_self]
      · show (_ && _) = true
        rw [h.1]; simp
      · refine ⟨?_, ?_, ?_⟩
        · rw [hf]; show (s.needed ++ [nameOf logH f]).getLast? = _; simp
        · rw [hf]
        · rw [hf]
          show (s.segs.set (firsts.length - 1) _).getLast? = _
          rw [List.getLast?_eq_getElem?, List.length_set, hl, List.getElem?_set_self (by omega)]
    · cases h
  | k + 1, i, first, s, hi, hl, h => by
    have e1 : ∀ g : Fs, aSegs g firsts (k + 1 + 1) i first s = if (aSeg g firsts i first s).2 then aSegs g firsts (k + 1) (i + 1) false (aSeg g firsts i first s).1 else aSeg g firsts i first s := fun g => rfl
    have e2 := aSeg_cong (hsame i (by omega)) first s
    rw [e1] at h ⊢
    rw [e1, e2]
    split at h
    · rename_i h2
      rw [if_pos h2, if_pos h2]
      refine aSegs_cut hsame hlast k (i + 1) false _ (by omega) ?_ h
      unfold aSeg
      dsimp only
      split
      · show (s.segs.set _ _).length = _; rw [List.length_set]; exact hl
      · exact hl
    · rename_i h2; exact absurd h h2
theorem from_lt (base : Int) : ∀ (l : List Int) (j : Nat) (r : Int), r < j → (l.zipIdx j).foldl (fromStep base) r < (j + l.length : Nat)
  | [], j, r, h => by simpa using h
  | x :: t, j, r, h => by
    rw [List.zipIdx_cons, List.foldl_cons, List.length_cons]
    have := from_lt base t (j + 1) (fromStep base r (x, j)) (by unfold fromStep; split <;> omega)
    omega
theorem aLog_cut {fs fs' : Fs} {firsts : List Int} {s : AS} (hne : firsts ≠ []) (hsame : ∀ i, i + 1 < firsts.length → datF fs' (firsts.getD i 0) = datF fs (firsts.getD i 0))
    (hlast : datF fs' (firsts.getD (firsts.length - 1) 0) = (datF fs (firsts.getD (firsts.length - 1) 0)).take (endOf 0 (scan (datF fs (firsts.getD (firsts.length - 1) 0)) (firsts.getD (firsts.length - 1) 0))))
    (h : (aLog fs firsts s).2 = true) : aLog fs' firsts s = ({ (aLog fs firsts s).1 with torn := 0 }, true) ∧ LastIs fs firsts (aLog fs firsts s).1 := by
  have hl : firsts.length ≠ 0 := fun h => hne (List.length_eq_zero_iff.1 h)
  unfold aLog at h ⊢
  dsimp only at h ⊢
  rw [if_neg hl] at h ⊢
  rw [if_neg hl]
  split at h
  · cases h
  rename_i hk
  rw [if_neg hk, if_neg hk]
  have hlt := from_lt s.base firsts 0 (-1) (by omega)
  rw [Nat.zero_add] at hlt
  have hlt2 : fromGo s.base firsts < firsts.length := hlt
  obtain ⟨k, hk2⟩ : ∃ k, firsts.length - (fromGo s.base firsts).toNat = k + 1 := ⟨firsts.length - (fromGo s.base firsts).toNat - 1, by omega⟩
  rw [hk2] at h ⊢
  split at h
  · rename_i h2
    obtain ⟨h3, h4⟩ := aSegs_cut hsame hlast k (fromGo s.base firsts).toNat true _ (by omega) (by simp) h2
    rw [if_pos h2, h3]
    refine ⟨?_, h4⟩
    rw [if_pos rfl]
    exact Prod.ext rfl h
  · rename_i h2; exact absurd h h2
theorem pairwise_at {l : List Int} (h : l.Pairwise (· < ·)) {i j : Nat} (hij : i < j) (hj : j < l.length) : l.getD i 0 < l.getD j 0 := by
  rw [List.getD_eq_getElem?_getD, List.getD_eq_getElem?_getD, List.getElem?_eq_getElem hj, List.getElem?_eq_getElem (by omega)]
  exact List.pairwise_iff_getElem.1 h i j (by omega) hj hij
theorem getD_mem {l : List Int} {i : Nat} (h : i < l.length) : l.getD i 0 ∈ l := by
  rw [List.getD_eq_getElem?_getD, List.getElem?_eq_getElem h]
  exact List.getElem_mem h
theorem look_cut {fs : Fs} (h : (lookF fs).err = 0) (ht : (lookF fs).torn ≠ 0) : ∃ f e d, (lookF fs).needed.getLast? = some (nameOf logH f) ∧ (lookF fs).segs.getLast? = some (f, ((e : Nat) : Int)) ∧ getF fs (nameOf logH f) = some d ∧ e ≤ d.length ∧ (d.length : Int) - (lookF fs).torn = e ∧
    lookF (cutF fs (nameOf logH f) e) = { lookF fs with torn := 0 } := by
  obtain ⟨h1, h2, h3, h4, h5, h6, h7⟩ := look_ok h
  have hne : firstsOf fs ≠ [] := by
    intro hne
    have := (aLog_AI fs (firstsOf fs) h4).2.2 hne
    rw [← h5] at this
    rw [h3] at ht
    unfold repOf at ht
    rw [if_pos h2] at ht
    exact ht this
  generalize hF : firstsOf fs = firsts at h2 h3 h4 h5 h7 hne
  have hlen : 0 < firsts.length := List.length_pos_iff.2 hne
  generalize hf : firsts.getD (firsts.length - 1) 0 = f
  have hfi : FirstIs fs f := first_is (by rw [hF, ← hf]; exact getD_mem (by omega))
  obtain ⟨d, hd⟩ := getF_some hfi.there
  have hdat : datF fs f = d := by unfold datF; rw [hd]; rfl
  generalize he : endOf 0 (scan d f) = e
  have hel : e ≤ d.length := by rw [← he]; exact (seg_end d f 0 0).2
  have hcut : datF (cutF fs (nameOf logH f) e) f = d.take e := by unfold datF; rw [cut_eq, hd]; rfl
  have hsame : ∀ i, i + 1 < firsts.length → datF (cutF fs (nameOf logH f) e) (firsts.getD i 0) = datF fs (firsts.getD i 0) := by
    intro i hi
    have hgi : FirstIs fs (firsts.getD i 0) := first_is (by rw [hF]; exact getD_mem (by omega))
    unfold datF
    rw [cut_ne]
    intro e1
    have hlt := pairwise_at (by rw [← hF]; exact firsts_rise h1) (show i < firsts.length - 1 by omega) (show firsts.length - 1 < firsts.length by omega)
    rw [hf] at hlt
    have := hgi.num
    rw [e1, hfi.num] at this
    have := Option.some.inj this
    omega
  have hb := aLog_cut (fs := fs) (fs' := cutF fs (nameOf logH f) e) (s := (aCkpt fs firsts (aMan fs AS.nil).1).1) hne hsame (by rw [hf, hcut, hdat, he]) (by rw [← h5]; exact h2)
  rw [← h5] at hb
  obtain ⟨hb1, hb2⟩ := hb
  have hman : aMan (cutF fs (nameOf logH f) e) AS.nil = aMan fs AS.nil := aMan_cong (cut_ne _ _ _ (fun e1 => by have := congrArg List.length e1; rw [hfi.len] at this; simp [manN] at this)) _
  have hck : aCkpt (cutF fs (nameOf logH f) e) firsts (aMan fs AS.nil).1 = aCkpt fs firsts (aMan fs AS.nil).1 := aCkpt_cong (fun n => cut_ne _ _ _ (fun e1 => by
    have h8 := congrArg List.length e1
    rw [hfi.len] at h8
    have := name_len ckptH n
    simp only [ckptH, List.length_cons, List.length_nil] at this h8
    omega)) _ _
  have hall : aAll (cutF fs (nameOf logH f) e) firsts = ({ (aAll fs firsts).1 with torn := 0 }, true) := by
    rw [← hb1]
    show (if (aMan _ AS.nil).2 then (if (aCkpt _ firsts (aMan _ AS.nil).1).2 then aLog _ firsts (aCkpt _ firsts (aMan _ AS.nil).1).1 else aCkpt _ firsts (aMan _ AS.nil).1) else aMan _ AS.nil) = _
    rw [hman, if_pos h6, hck, if_pos h7]
  obtain ⟨q1, q2, q3⟩ := hb2
  rw [hf] at q1 q2 q3
  rw [hdat, he] at q2 q3
  refine ⟨f, e, d, ?_, ?_, hd, hel, ?_, ?_⟩
  · rw [h3]; unfold repOf; rw [if_pos h2]; exact q1
  · rw [h3]; unfold repOf; rw [if_pos h2]; exact q3
  · rw [h3]; unfold repOf; rw [if_pos h2]; dsimp only; rw [q2]; omega
  · rw [h3]
    unfold lookF
    rw [cut_names, if_pos h1, cut_firsts, hF, hall]
    unfold repOf sortN
    rw [cut_names, if_pos rfl, if_pos h2]
end Go.Proofs.YtbppnihcbcdglaaGreat
/- Plain words: how a checkpoint's file is gone through. No program here. No condition. -/
namespace Go.Proofs.YtbppnihcbcdglaaGreat

def pgKind (c : Nat) (s : PS) (all : Nat) (r : RS) : Option (PS × RS) := if c = 1 then pgHead s r else if c = 2 then pgProc s all r else if c = 3 then pgPage s all r else pgEnd s r
theorem pgEntries_more {all : Nat} : ∀ {n : Nat} {s : PS} {r : RS} {x : PS × RS}, pgEntries all n s r = some x → x.1.im.entries.length = s.im.entries.length + n ∧ x.1.im.procs = s.im.procs ∧ x.1.frames = s.frames
  | 0, s, r, x, h => by cases h; exact ⟨rfl, rfl, rfl⟩
  | n + 1, s, r, x, h => by
    simp only [pgEntries] at h
    split at h
    · obtain ⟨h1, h2, h3⟩ := pgEntries_more h
      refine ⟨?_, h2, h3⟩
      rw [h1]
      simp
      omega
    · cases h
theorem pgKind_len {c : Nat} {s : PS} {all : Nat} {r : RS} {x : PS × RS} (h : pgKind c s all r = some x) : x.1.frames = s.frames ∧ x.1.im.procs.length ≤ s.im.procs.length + 1 ∧ x.1.im.entries.length ≤ s.im.entries.length + 128 := by
  unfold pgKind at h
  split at h
  · unfold pgHead at h
    dsimp only at h
    split at h
    · cases h; exact ⟨rfl, by simp, by simp⟩
    · cases h
  split at h
  · unfold pgProc at h
    dsimp only at h
    split at h
    · cases h; exact ⟨rfl, by simp, by simp⟩
    · cases h
  split at h
  · unfold pgPage at h
    dsimp only at h
    split at h
    · rename_i hc
      obtain ⟨h1, h2, h3⟩ := pgEntries_more h
      rw [h1, h2, h3]
      exact ⟨rfl, by omega, by omega⟩
    · cases h
  · unfold pgEnd at h
    dsimp only at h
    split at h
    · cases h; exact ⟨rfl, by simp, by simp⟩
    · cases h
/-- How much has been read behind so many frames. -/
structure PInv (s : PS) (i : Nat) : Prop where
  procs : s.im.procs.length ≤ s.frames
  entries : s.im.entries.length ≤ 128 * s.frames
  frames : 9 * s.frames ≤ i
theorem PInv.nil : PInv PS.nil 0 := ⟨Nat.le_refl _, Nat.le_refl _, Nat.le_refl _⟩
theorem pgFrame_of {body : Bs} {s : PS} {c : UInt8} {r1 r2 : RS} {n : Nat} (h1 : RS.byte ⟨body, 0, 0⟩ = (c, r1)) (h2 : r1.number = (n, r2)) :
    pgFrame body s = if c.toNat < 1 ∨ 4 < c.toNat then none else if n ≠ s.frames then none else match pgKind c.toNat s body.length r2 with | none => none | some x => if x.2.end_ = 0 then some { x.1 with frames := x.1.frames + 1 } else none := by
  unfold pgFrame
  simp only [h1, h2]
  rfl
theorem PInv.step {s s' : PS} {i j : Nat} {body : Bs} (h : PInv s i) (hf : pgFrame body s = some s') (hj : i + 9 ≤ j) : PInv s' j := by
  obtain ⟨c, r1, e1⟩ : ∃ c r1, RS.byte ⟨body, 0, 0⟩ = (c, r1) := ⟨_, _, rfl⟩
  obtain ⟨n, r2, e2⟩ : ∃ n r2, r1.number = (n, r2) := ⟨_, _, rfl⟩
  rw [pgFrame_of e1 e2] at hf
  split at hf
  · cases hf
  split at hf
  · cases hf
  split at hf
  · cases hf
  · rename_i x hx
    split at hf
    · cases hf
      obtain ⟨h1, h2, h3⟩ := pgKind_len hx
      have := h.procs; have := h.entries; have := h.frames
      exact ⟨by dsimp only; omega, by dsimp only; omega, by dsimp only; omega⟩
    · cases hf
theorem nextF_nine {b : Bs} {i : Nat} (h : (nextF b i).2.2 = 0) : i + 9 ≤ (nextF b i).2.1 ∧ (nextF b i).2.1 ≤ b.length ∧ (nextF b i).1.length ≤ b.length := by
  have := nextF_ok (b := b) (i := i) (body := (nextF b i).1) (j := (nextF b i).2.1) (by rw [← h])
  omega
/-- One round. -/
theorem pgGo_round {b body : Bs} {i j k : Nat} {s : PS} (hs : s.over = false) (hn : nextF b i = (body, j, 0)) : pgGo b (k + 1) i s = match pgFrame body s with | none => (Im.nil, 3) | some s' => pgGo b k j s' := by
  simp only [pgGo, hs, hn]
  rfl
theorem pgGo_end {b body : Bs} {i j k : Nat} {s : PS} (hs : s.over = false) (hn : nextF b i = (body, j, 12)) : pgGo b (k + 1) i s = (Im.nil, 2) := by
  simp only [pgGo, hs, hn]
  rfl
theorem pgGo_torn {b body : Bs} {i j k : Nat} {s : PS} {e : Int} (hs : s.over = false) (hn : nextF b i = (body, j, e)) (h1 : e ≠ 12) (h2 : e ≠ 0) : pgGo b (k + 1) i s = (Im.nil, 13) := by
  simp only [pgGo, hs, hn]
  rw [if_neg (by simp), if_neg h1, if_pos h2]
theorem pgGo_over {b : Bs} {i k : Nat} {s : PS} (hs : s.over = true) : pgGo b (k + 1) i s = if i = b.length then (s.im, 0) else (Im.nil, 3) := by
  simp only [pgGo, hs, if_true]
end Go.Proofs.YtbppnihcbcdglaaGreat
namespace Go.Proofs.YtbppnihcbcdglaaGreat

/-! ### The digits of a name are read again -/
theorem hexV_hexD : ∀ n, n < 16 → hexV (hexD n) = some n := by decide
theorem hexGo_append : ∀ (l r : Bs) (v : Nat), hexGo (l ++ r) v = (hexGo l v).bind (hexGo r)
  | [], r, v => rfl
  | c :: t, r, v => by
    simp only [List.cons_append, hexGo]
    cases hexV c with
    | none => rfl
    | some k => exact hexGo_append t r _
theorem hexGo_digits (n : Nat) : ∀ (k v : Nat), hexGo ((List.range k).map fun i => hexD (n / 16 ^ (k - 1 - i) % 16)) v = some (v * 16 ^ k + n % 16 ^ k)
  | 0, v => by simp [hexGo, Nat.mod_one]
  | k + 1, v => by
    rw [List.range_succ_eq_map, List.map_cons, List.map_map]
    simp only [hexGo]
    rw [hexV_hexD _ (Nat.mod_lt _ (by omega))]
    have e : ((fun i => hexD (n / 16 ^ (k + 1 - 1 - i) % 16)) ∘ Nat.succ) = fun i => hexD (n / 16 ^ (k - 1 - i) % 16) := by
      funext i
      show hexD (n / 16 ^ (k + 1 - 1 - (i + 1)) % 16) = _
      congr 3
      congr 1
      omega
    rw [e]
    dsimp only
    rw [hexGo_digits n k, show k + 1 - 1 - 0 = k by omega]
    congr 1
    have h1 : n % 16 ^ (k + 1) = n % 16 ^ k + 16 ^ k * (n / 16 ^ k % 16) := by rw [Nat.pow_succ]; exact Nat.mod_mul
    rw [h1, Nat.add_mul, Nat.pow_succ, Nat.mul_assoc, Nat.mul_comm 16 (16 ^ k), Nat.mul_comm (n / 16 ^ k % 16)]
    omega
theorem num_name (head : Bs) (v : Int) (h1 : 1 ≤ v) (h2 : v ≤ 281474976710655) : numOfName head (nameOf head v) = (v, true) := by
  have hn : nameOf head v = head ++ hex12 v.toNat := if_neg (by omega)
  have hg : hexGo (hex12 v.toNat) 0 = some v.toNat := by
    have := hexGo_digits v.toNat 12 0
    rw [Nat.zero_mul, Nat.zero_add, Nat.mod_eq_of_lt (by omega)] at this
    exact this
  unfold numOfName
  have hp : head.isPrefixOf (nameOf head v) = true := by rw [hn, List.isPrefixOf_iff_prefix]; exact List.prefix_append _ _
  have hd : (nameOf head v).drop head.length = hex12 v.toNat := by rw [hn, List.drop_left]
  rw [if_neg (by simp [hp]), hd, if_neg (by simp [hex12_len]), hg]
  dsimp only
  have hv : ((v.toNat : Nat) : Int) = v := by omega
  rw [hv]
  simp
theorem own_ckpt {v : Int} (h1 : 1 ≤ v) (h2 : v ≤ 281474976710655) : ownB (nameOf ckptH v) = true := by unfold ownB; rw [num_name _ v h1 h2]; rfl
theorem own_log {f : Int} (h : firstOf (nameOf logH f) = some f) : ownB (nameOf logH f) = true := by unfold ownB; rw [firstOf_eq h]; simp
theorem own_man : ownB manN = true := by unfold ownB; simp

/-! ### What is looked at -/
structure Like (N : List Bs) (fs' fs : Fs) : Prop where
  same : ∀ k ∈ N, getF fs' k = getF fs k
  there : ∀ k, ownB k = true → (getF fs' k).isSome = (getF fs k).isSome
theorem Like.none {N : List Bs} {fs' fs : Fs} (h : Like N fs' fs) {k : Bs} (hk : ownB k = true) (hn : getF fs k = none) : getF fs' k = none := by
  have := h.there k hk
  rw [hn] at this
  simpa using this
theorem aMan_like {N : List Bs} {fs' fs : Fs} (h : Like N fs' fs) {s : AS} (hN : ∀ k ∈ (aMan fs s).1.needed, k ∈ N) : aMan fs' s = aMan fs s := by
  unfold aMan at hN ⊢
  cases hd : getF fs manN with
  | none => rw [h.none own_man hd]
  | some d =>
    rw [hd] at hN
    dsimp only at hN
    have : manN ∈ N := hN _ (by split <;> simp [AS.need])
    rw [h.same _ this, hd]
theorem aFits_like {N : List Bs} {fs' fs : Fs} (h : Like N fs' fs) {s : AS} {n m : Int} (hn : ownB (nameOf ckptH n) = true) (hN : ∀ k ∈ (aFits fs s n m).1.needed, k ∈ N) : aFits fs' s n m = aFits fs s n m := by
  unfold aFits at hN ⊢
  cases hd : getF fs (nameOf ckptH n) with
  | none => rw [h.none hn hd]
  | some d =>
    rw [hd] at hN
    dsimp only at hN
    have : nameOf ckptH n ∈ N := hN _ (by simp [AS.need])
    rw [h.same _ this, hd]
theorem aFits_more (fs : Fs) (s : AS) (n m : Int) : ∀ k ∈ s.needed, k ∈ (aFits fs s n m).1.needed := by
  intro k hk
  unfold aFits
  split
  · exact hk
  · simp [AS.need, hk]
theorem aPrev_own {firsts : List Int} {m : Mf} (hm : mayM m = true) (h : aPrev firsts m = true) : ownB (nameOf ckptH m.prev) = true := by
  have := mayM_ge hm
  unfold aPrev at h
  simp only [Bool.and_eq_true, decide_eq_true_eq] at h
  exact own_ckpt (by omega) (by omega)
theorem aCkpt_like {N : List Bs} {fs' fs : Fs} (h : Like N fs' fs) {firsts : List Int} {s : AS} (h0 : A0 s) (hN : ∀ k ∈ (aCkpt fs firsts s).1.needed, k ∈ N) : aCkpt fs' firsts s = aCkpt fs firsts s := by
  unfold aCkpt at hN ⊢
  by_cases hh : s.has = false
  · rw [if_pos hh, if_pos hh]
  · rw [if_neg hh] at hN ⊢
    rw [if_neg hh]
    have hm := h0.man (by simpa using hh)
    have hg := mayM_ge hm
    have hown : ownB (nameOf ckptH s.man.file) = true := own_ckpt hg.1 hg.2.1
    dsimp only at hN ⊢
    have key : ∀ k ∈ (aFits fs s s.man.file s.man.mark).1.needed, k ∈ N := by
      intro k hk
      refine hN k ?_
      split
      · exact hk
      · split
        · split
          · exact aFits_more _ _ _ _ _ hk
          · exact aFits_more _ _ _ _ _ hk
        · exact hk
    rw [aFits_like h hown key]
    split
    · rfl
    · rename_i g1
      rw [if_neg g1] at hN
      split
      · rename_i g2
        rw [if_pos g2] at hN
        have key2 : ∀ k ∈ (aFits fs (aFits fs s s.man.file s.man.mark).1 s.man.prev s.man.pmark).1.needed, k ∈ N := by
          intro k hk
          refine hN k ?_
          split
          · exact hk
          · exact hk
        rw [aFits_like h (aPrev_own hm g2) key2]
      · rfl
theorem aSeg_more (fs : Fs) (firsts : List Int) (i : Nat) (first : Bool) (s : AS) : (aSeg fs firsts i first s).1.needed = s.needed ++ [nameOf logH (firsts.getD i 0)] := by
  unfold aSeg
  dsimp only
  split <;> rfl
theorem aSegs_more (fs : Fs) (firsts : List Int) : ∀ (k i : Nat) (first : Bool) (s : AS), ∀ x ∈ s.needed, x ∈ (aSegs fs firsts k i first s).1.needed
  | 0, _, _, _, x, h => h
  | k + 1, i, first, s, x, h => by
    have h1 : x ∈ (aSeg fs firsts i first s).1.needed := by rw [aSeg_more]; exact List.mem_append_left _ h
    simp only [aSegs]
    split
    · exact aSegs_more fs firsts k _ _ _ x h1
    · exact h1
theorem aSegs_like {N : List Bs} {fs' fs : Fs} (h : Like N fs' fs) (firsts : List Int) : ∀ (k i : Nat) (first : Bool) (s : AS), (∀ x ∈ (aSegs fs firsts k i first s).1.needed, x ∈ N) → aSegs fs' firsts k i first s = aSegs fs firsts k i first s
  | 0, _, _, _, _ => rfl
  | k + 1, i, first, s, hN => by
    simp only [aSegs] at hN ⊢
    have h1 : nameOf logH (firsts.getD i 0) ∈ (aSeg fs firsts i first s).1.needed := by rw [aSeg_more]; simp
    have h2 : nameOf logH (firsts.getD i 0) ∈ N := by
      refine hN _ ?_
      split
      · exact aSegs_more _ _ _ _ _ _ _ h1
      · exact h1
    have h3 : aSeg fs' firsts i first s = aSeg fs firsts i first s := aSeg_cong (by unfold datF; rw [h.same _ h2]) first s
    rw [h3]
    split
    · rename_i g
      rw [if_pos g] at hN
      exact aSegs_like h firsts k _ _ _ hN
    · rfl
theorem aLog_like {N : List Bs} {fs' fs : Fs} (h : Like N fs' fs) {firsts : List Int} {s : AS} (hN : ∀ k ∈ (aLog fs firsts s).1.needed, k ∈ N) : aLog fs' firsts s = aLog fs firsts s := by
  unfold aLog at hN ⊢
  by_cases h1 : firsts.length = 0
  · rw [if_pos h1, if_pos h1]
  · rw [if_neg h1] at hN ⊢
    rw [if_neg h1]
    dsimp only at hN ⊢
    split
    · rfl
    · rename_i h2
      rw [if_neg h2] at hN
      rw [aSegs_like h]
      intro x hx
      refine hN x ?_
      split
      · exact hx
      · exact hx
theorem aLog_more (fs : Fs) (firsts : List Int) (s : AS) : ∀ x ∈ s.needed, x ∈ (aLog fs firsts s).1.needed := by
  intro x hx
  unfold aLog
  split
  · exact hx
  · dsimp only
    split
    · exact hx
    · split
      · exact aSegs_more _ _ _ _ _ _ _ hx
      · exact aSegs_more _ _ _ _ _ _ _ hx
theorem aCkpt_more (fs : Fs) (firsts : List Int) (s : AS) : ∀ x ∈ s.needed, x ∈ (aCkpt fs firsts s).1.needed := by
  intro x hx
  unfold aCkpt
  split
  · exact hx
  · dsimp only
    split
    · exact aFits_more _ _ _ _ _ hx
    · split
      · split
        · exact aFits_more _ _ _ _ _ (aFits_more _ _ _ _ _ hx)
        · exact aFits_more _ _ _ _ _ (aFits_more _ _ _ _ _ hx)
      · exact aFits_more _ _ _ _ _ hx
theorem aAll_like {fs' fs : Fs} {firsts : List Int} (h : Like (aAll fs firsts).1.needed fs' fs) : aAll fs' firsts = aAll fs firsts := by
  generalize hN : (aAll fs firsts).1.needed = N at h
  have key : ∀ k ∈ (aAll fs firsts).1.needed, k ∈ N := fun k hk => by rw [← hN]; exact hk
  clear hN
  unfold aAll at key ⊢
  dsimp only at key ⊢
  have h1 : ∀ k ∈ (aMan fs AS.nil).1.needed, k ∈ N := by
    intro k hk
    refine key k ?_
    split
    · split
      · exact aLog_more _ _ _ _ (aCkpt_more _ _ _ _ hk)
      · exact aCkpt_more _ _ _ _ hk
    · exact hk
  rw [aMan_like h h1]
  split
  · rename_i g1
    rw [if_pos g1] at key
    have h2 : ∀ k ∈ (aCkpt fs firsts (aMan fs AS.nil).1).1.needed, k ∈ N := by
      intro k hk
      refine key k ?_
      split
      · exact aLog_more _ _ _ _ hk
      · exact hk
    rw [aCkpt_like h (aMan_A0 fs).1 h2]
    split
    · rename_i g2
      rw [if_pos g2] at key
      exact aLog_like h key
    · rfl
  · rfl

/-! ### Another order -/
theorem getF_perm {a b : Fs} (hn : (a.map Prod.fst).Nodup) (hp : a.Perm b) (k : Bs) : getF b k = getF a k := by
  induction hp with
  | nil => rfl
  | cons x _ ih =>
    simp only [getF]
    rw [ih (by rw [List.map_cons, List.nodup_cons] at hn; exact hn.2)]
  | swap x y l =>
    simp only [getF]
    rw [List.map_cons, List.map_cons, List.nodup_cons, List.nodup_cons] at hn
    by_cases h1 : x.1 = k
    · by_cases h2 : y.1 = k
      · exact absurd (by rw [h1, h2]; exact .head _) hn.1
      · rw [if_pos h1, if_neg h2, if_pos h1]
    · rw [if_neg h1, if_neg h1]
  | trans h1 _ ih1 ih2 => rw [ih2 ((h1.map Prod.fst).nodup_iff.1 hn), ih1 hn]
theorem sortI_is {l l' : List Int} (h : l.Perm l') : l.mergeSort leI = l'.mergeSort leI := by
  refine List.Perm.eq_of_pairwise (le := fun a b => leI a b = true) ?_ (List.pairwise_mergeSort (le := leI) leI_trans leI_total _) (List.pairwise_mergeSort (le := leI) leI_trans leI_total _) ((List.mergeSort_perm l leI).trans (h.trans (List.mergeSort_perm l' leI).symm))
  intro a b _ _ h1 h2
  simp only [leI, decide_eq_true_eq] at h1 h2
  omega
theorem sortN_is {l l' : List Bs} (h : l.Perm l') : l.mergeSort leN = l'.mergeSort leN := by
  refine List.Perm.eq_of_pairwise (le := fun a b => leN a b = true) ?_ (List.pairwise_mergeSort (le := leN) leN_trans leN_total _) (List.pairwise_mergeSort (le := leN) leN_trans leN_total _) ((List.mergeSort_perm l leN).trans (h.trans (List.mergeSort_perm l' leN).symm))
  intro a b _ _ h1 h2
  simp only [leN, decide_eq_true_eq] at h1 h2
  exact List.le_antisymm h1 h2
theorem firsts_perm {a b : Fs} (hp : a.Perm b) : firstsOf b = firstsOf a := sortI_is (hp.symm.filterMap _)
theorem names_perm {a b : Fs} (hp : a.Perm b) : sortN b = sortN a := sortN_is (hp.symm.map _)
/-- The order of the files makes no difference. -/
theorem look_perm {a b : Fs} (hp : a.Perm b) : lookF b = lookF a := by
  unfold lookF
  by_cases hn : (a.map Prod.fst).Nodup
  · rw [if_pos hn, if_pos ((hp.map Prod.fst).nodup_iff.1 hn), firsts_perm hp]
    rw [aAll_like (fs := a) (fs' := b) ⟨fun k _ => getF_perm hn hp k, fun k _ => by rw [getF_perm hn hp]⟩]
    unfold repOf
    rw [names_perm hp]
  · rw [if_neg hn, if_neg (fun h => hn ((hp.map Prod.fst).nodup_iff.2 h))]

/-! ### Files that are not needed -/
/-- Names whose bytes do not matter bear others. -/
theorem look_other {fs fs' : Fs} (hn : (fs.map Prod.fst).Nodup) (hnm : fs'.map Prod.fst = fs.map Prod.fst) (hs : ∀ k ∈ (aAll fs (firstsOf fs)).1.needed, getF fs' k = getF fs k) : lookF fs' = lookF fs := by
  have hr : ∀ l : Fs, rawFirsts l = (l.map Prod.fst).filterMap firstOf := fun l => by unfold rawFirsts; rw [List.filterMap_map]; rfl
  have hf : firstsOf fs' = firstsOf fs := by unfold firstsOf; rw [hr, hr, hnm]
  have key : ∀ k, (getF fs' k).isSome = (getF fs k).isSome := by
    have h : ∀ (g : Fs) (k : Bs), (getF g k).isSome = decide (k ∈ g.map Prod.fst) := by
      intro g k
      by_cases hk : k ∈ g.map Prod.fst
      · obtain ⟨d, hd⟩ := getF_some hk
        rw [hd]; simp [hk]
      · cases hd : getF g k with
        | none => simp [hk]
        | some d => exact absurd (List.mem_map.2 ⟨_, getF_mem hd, rfl⟩) hk
    intro k
    rw [h, h, hnm]
  unfold lookF
  rw [hnm, if_pos hn, if_pos hn, hf, aAll_like ⟨hs, fun k _ => key k⟩]
  unfold repOf sortN
  rw [hnm]
/-- A directory without the files that are none of the store's. -/
theorem look_fewer {fs fs' : Fs} (hn : (fs.map Prod.fst).Nodup) (hsub : (fs'.map Prod.fst) = (fs.map Prod.fst).filter fun n => (aAll fs (firstsOf fs)).1.needed.contains n || ownB n) (hs : ∀ k ∈ (aAll fs (firstsOf fs)).1.needed, getF fs' k = getF fs k) :
    (lookF fs').others = [] ∧ (lookF fs').err = (lookF fs).err ∧ (lookF fs').base = (lookF fs).base ∧ (lookF fs').last = (lookF fs).last ∧ (lookF fs').rep = (lookF fs).rep ∧ (lookF fs').torn = (lookF fs).torn ∧ (lookF fs').needed = (lookF fs).needed ∧ (lookF fs').left = (lookF fs).left := by
  have hr : ∀ l : Fs, rawFirsts l = (l.map Prod.fst).filterMap firstOf := fun l => by unfold rawFirsts; rw [List.filterMap_map]; rfl
  have hown : ∀ n v, firstOf n = some v → ownB n = true := fun n v h => by unfold ownB; rw [firstOf_eq h]; simp
  have hff : ∀ (p : Bs → Bool) (l : List Bs), (∀ n v, firstOf n = some v → p n = true) → (l.filter p).filterMap firstOf = l.filterMap firstOf := by
    intro p l hp
    induction l with
    | nil => rfl
    | cons x t ih =>
      rw [List.filter_cons]
      split
      · rw [List.filterMap_cons, List.filterMap_cons, ih]
      · rename_i hx
        rw [List.filterMap_cons, ih]
        cases hx2 : firstOf x with
        | none => rfl
        | some v => exact absurd (hp x v hx2) hx
  have hf : firstsOf fs' = firstsOf fs := by
    unfold firstsOf
    rw [hr, hr, hsub, hff _ _ (fun n v h => by rw [hown n v h]; simp)]
  have hn' : (fs'.map Prod.fst).Nodup := by rw [hsub]; exact hn.filter _
  have h : ∀ (g : Fs) (k : Bs), (getF g k).isSome = decide (k ∈ g.map Prod.fst) := by
    intro g k
    by_cases hk : k ∈ g.map Prod.fst
    · obtain ⟨d, hd⟩ := getF_some hk
      rw [hd]; simp [hk]
    · cases hd : getF g k with
      | none => simp [hk]
      | some d => exact absurd (List.mem_map.2 ⟨_, getF_mem hd, rfl⟩) hk
  have key : ∀ k, ownB k = true → (getF fs' k).isSome = (getF fs k).isSome := by
    intro k hk
    rw [h, h, hsub]
    simp [hk]
  have hall := aAll_like (firsts := firstsOf fs) ⟨hs, key⟩
  have hsort : sortN fs' = (sortN fs).filter fun n => (aAll fs (firstsOf fs)).1.needed.contains n || ownB n := by
    unfold sortN
    rw [hsub]
    refine List.Perm.eq_of_pairwise (le := fun a b => leN a b = true) ?_ (List.pairwise_mergeSort (le := leN) leN_trans leN_total _) ((List.pairwise_mergeSort (le := leN) leN_trans leN_total _).filter _) ((List.mergeSort_perm _ leN).trans ((List.mergeSort_perm _ leN).symm.filter _))
    intro a b _ _ h1 h2
    simp only [leN, decide_eq_true_eq] at h1 h2
    exact List.le_antisymm h1 h2
  have hleft : leftOf (aAll fs (firstsOf fs)).1.needed (sortN fs') = leftOf (aAll fs (firstsOf fs)).1.needed (sortN fs) := by
    unfold leftOf
    rw [hsort, List.filter_filter]
    refine List.filter_congr fun x _ => ?_
    cases (aAll fs (firstsOf fs)).1.needed.contains x <;> cases ownB x <;> rfl
  have hoth : othersOf (aAll fs (firstsOf fs)).1.needed (sortN fs') = [] := by
    unfold othersOf
    rw [hsort, List.filter_filter]
    refine List.filter_eq_nil_iff.2 fun x _ => ?_
    cases (aAll fs (firstsOf fs)).1.needed.contains x <;> cases ownB x <;> decide
  unfold lookF
  rw [if_pos hn, if_pos hn', hf, hall]
  unfold repOf
  split
  · exact ⟨hoth, rfl, rfl, rfl, rfl, rfl, rfl, hleft⟩
  · exact ⟨hoth, rfl, rfl, rfl, rfl, rfl, rfl, hleft⟩

/-! ### How many there are -/
/-- What is needed: names that are there, each once; a kind's names at their length. -/
structure Nd (fs : Fs) (l : List Bs) : Prop where
  nodup : l.Nodup
  there : ∀ k ∈ l, k ∈ fs.map Prod.fst
theorem Nd.snoc {fs : Fs} {l : List Bs} {n d : Bs} (h : Nd fs l) (hd : getF fs n = some d) (hn : n ∉ l) : Nd fs (l ++ [n]) :=
  ⟨List.nodup_append.2 ⟨h.nodup, by simp, fun a ha b hb => by
      obtain rfl : b = n := by simpa using hb
      exact fun e => hn (e ▸ ha)⟩, fun k hk => by
    rcases List.mem_append.1 hk with hk | hk
    · exact h.there k hk
    · obtain rfl : k = n := by simpa using hk
      exact List.mem_map.2 ⟨_, getF_mem hd, rfl⟩⟩
theorem name_inj {head : Bs} {a b : Int} (ha : 1 ≤ a) (ha2 : a ≤ 281474976710655) (hb : 1 ≤ b) (hb2 : b ≤ 281474976710655) (h : nameOf head a = nameOf head b) : a = b := by
  have h1 := num_name head a ha ha2
  rw [h, num_name head b hb hb2] at h1
  exact (congrArg Prod.fst h1).symm
theorem aMan_nd (fs : Fs) : Nd fs (aMan fs AS.nil).1.needed ∧ ∀ k ∈ (aMan fs AS.nil).1.needed, k.length = 8 := by
  have h0 : Nd fs [] := ⟨List.nodup_nil, fun k h => by cases h⟩
  unfold aMan
  cases hd : getF fs manN with
  | none => exact ⟨h0, fun k h => by cases h⟩
  | some d =>
    have h1 : Nd fs ([] ++ [manN]) := h0.snoc hd (by simp)
    dsimp only
    split
    · exact ⟨h1, fun k h => by obtain rfl : k = manN := by simpa [AS.need, AS.nil] using h
                               rfl⟩
    · exact ⟨h1, fun k h => by obtain rfl : k = manN := by simpa [AS.need, AS.nil] using h
                               rfl⟩
theorem aFits_nd {fs : Fs} {s : AS} {n m : Int} (h : Nd fs s.needed) (hn : nameOf ckptH n ∉ s.needed) : Nd fs (aFits fs s n m).1.needed ∧ ∀ k ∈ (aFits fs s n m).1.needed, k ∈ s.needed ∨ k = nameOf ckptH n := by
  unfold aFits
  cases hd : getF fs (nameOf ckptH n) with
  | none => exact ⟨h, fun k hk => .inl hk⟩
  | some d => exact ⟨h.snoc hd hn, fun k hk => by simpa [AS.need] using hk⟩
theorem ckpt_len {n : Int} (h1 : 1 ≤ n) (h2 : n ≤ 281474976710655) : (nameOf ckptH n).length = 17 := by
  have h := num_name ckptH n h1 h2
  exact (numOf_name h).2.1
theorem aCkpt_nd {fs : Fs} {firsts : List Int} {s : AS} (h0 : A0 s) (h : Nd fs s.needed) (hl : ∀ k ∈ s.needed, k.length = 8) : Nd fs (aCkpt fs firsts s).1.needed ∧ ∀ k ∈ (aCkpt fs firsts s).1.needed, k.length = 8 ∨ k.length = 17 := by
  unfold aCkpt
  by_cases hh : s.has = false
  · rw [if_pos hh]; exact ⟨h, fun k hk => .inl (hl k hk)⟩
  · rw [if_neg hh]
    have hm := h0.man (by simpa using hh)
    have hg := mayM_ge hm
    have l1 := ckpt_len hg.1 hg.2.1
    obtain ⟨a1, a2⟩ := aFits_nd (m := s.man.mark) h (n := s.man.file) (fun hk => by have := hl _ hk; omega)
    have a3 : ∀ k ∈ (aFits fs s s.man.file s.man.mark).1.needed, k.length = 8 ∨ k.length = 17 := fun k hk => (a2 k hk).imp (hl k) (fun e => by rw [e]; exact l1)
    dsimp only
    split
    · exact ⟨a1, a3⟩
    · split
      · rename_i g2
        have hp : 0 < s.man.prev := by
          unfold aPrev at g2
          simp only [Bool.and_eq_true, decide_eq_true_eq] at g2
          exact g2.1.1
        have l2 := ckpt_len (n := s.man.prev) (by omega) (by omega)
        obtain ⟨b1, b2⟩ := aFits_nd (m := s.man.pmark) a1 (n := s.man.prev) (fun hk => by
          rcases a2 _ hk with h1 | h1
          · have := hl _ h1; omega
          · have := name_inj (by omega) (by omega) hg.1 hg.2.1 h1; omega)
        have b3 : ∀ k ∈ (aFits fs (aFits fs s s.man.file s.man.mark).1 s.man.prev s.man.pmark).1.needed, k.length = 8 ∨ k.length = 17 := fun k hk => (b2 k hk).elim (a3 k) (fun e => by rw [e]; exact .inr l2)
        split
        · exact ⟨b1, b3⟩
        · exact ⟨b1, b3⟩
      · exact ⟨a1, a3⟩
theorem aSegs_nd {fs : Fs} (hn : (fs.map Prod.fst).Nodup) : ∀ (k i : Nat) (first : Bool) (s : AS), i + k = (firstsOf fs).length → Nd fs s.needed → (∀ x ∈ s.needed, x.length = 8 ∨ x.length = 17 ∨ ∃ j, j < i ∧ x = nameOf logH ((firstsOf fs).getD j 0)) → Nd fs (aSegs fs (firstsOf fs) k i first s).1.needed
  | 0, _, _, _, _, h, _ => h
  | k + 1, i, first, s, hi, h, hl => by
    have hfi : FirstIs fs ((firstsOf fs).getD i 0) := first_is (getD_mem (by omega))
    obtain ⟨d, hd⟩ := getF_some hfi.there
    have h1 : Nd fs (aSeg fs (firstsOf fs) i first s).1.needed := by
      rw [aSeg_more]
      refine h.snoc hd (fun hk => ?_)
      rcases hl _ hk with h2 | h2 | ⟨j, hj, h2⟩
      · have := hfi.len; omega
      · have := hfi.len; omega
      · have hlt := pairwise_at (firsts_rise hn) hj (by omega)
        have hj2 : FirstIs fs ((firstsOf fs).getD j 0) := first_is (getD_mem (by omega))
        have h3 := hfi.num
        rw [h2, hj2.num] at h3
        have := Option.some.inj h3
        omega
    simp only [aSegs]
    split
    · refine aSegs_nd hn k (i + 1) false _ (by omega) h1 (fun x hx => ?_)
      rw [aSeg_more] at hx
      rcases List.mem_append.1 hx with hx | hx
      · rcases hl x hx with h2 | h2 | ⟨j, hj, h2⟩
        · exact .inl h2
        · exact .inr (.inl h2)
        · exact .inr (.inr ⟨j, by omega, h2⟩)
      · obtain rfl : x = nameOf logH ((firstsOf fs).getD i 0) := by simpa using hx
        exact .inr (.inr ⟨i, by omega, rfl⟩)
    · exact h1
theorem aAll_nd {fs : Fs} (hn : (fs.map Prod.fst).Nodup) : Nd fs (aAll fs (firstsOf fs)).1.needed := by
  obtain ⟨h1, h2⟩ := aMan_nd fs
  obtain ⟨h3, h4⟩ := aCkpt_nd (firsts := firstsOf fs) (aMan_A0 fs).1 h1 h2
  unfold aAll
  dsimp only
  split
  · split
    · unfold aLog
      split
      · exact h3
      · dsimp only
        split
        · exact h3
        · rename_i h5
          have hlt := from_lt (aCkpt fs (firstsOf fs) (aMan fs AS.nil).1).1.base (firstsOf fs) 0 (-1) (by omega)
          rw [Nat.zero_add] at hlt
          have hlt2 : fromGo (aCkpt fs (firstsOf fs) (aMan fs AS.nil).1).1.base (firstsOf fs) < (firstsOf fs).length := hlt
          have h6 := aSegs_nd hn ((firstsOf fs).length - (fromGo (aCkpt fs (firstsOf fs) (aMan fs AS.nil).1).1.base (firstsOf fs)).toNat) (fromGo (aCkpt fs (firstsOf fs) (aMan fs AS.nil).1).1.base (firstsOf fs)).toNat true { (aCkpt fs (firstsOf fs) (aMan fs AS.nil).1).1 with last := (firstsOf fs).getD (fromGo (aCkpt fs (firstsOf fs) (aMan fs AS.nil).1).1.base (firstsOf fs)).toNat 0 - 1, segs := (firstsOf fs).map fun f => (f, 0) } (by omega) h3 (fun x hx => (h4 x hx).imp id .inl)
          split
          · exact h6
          · exact h6
    · exact h3
  · exact h1
theorem count_parts {l need : List Bs} (hl : l.Nodup) (hn : need.Nodup) (hs : ∀ k ∈ need, k ∈ l) : need.length + (leftOf need l).length + (othersOf need l).length = l.length := by
  have h1 : (l.filter fun n => need.contains n).length = need.length := by
    refine List.Perm.length_eq ((List.perm_ext_iff_of_nodup (hl.filter _) hn).2 fun a => ?_)
    rw [List.mem_filter]
    simp only [List.contains_iff_mem, and_iff_right_iff_imp]
    exact hs a
  rw [← h1]
  unfold leftOf othersOf
  clear h1 hl hn hs
  induction l with
  | nil => rfl
  | cons x t ih =>
    simp only [List.filter_cons, List.length_cons]
    cases need.contains x <;> cases ownB x <;> simp at ih ⊢ <;> omega
/-- Each file is told of once. -/
theorem look_count {fs : Fs} (h : (lookF fs).err ≠ 1) : (fs.map Prod.fst).Nodup ∧ (lookF fs).needed = (aAll fs (firstsOf fs)).1.needed ∧ (lookF fs).needed.length + (lookF fs).left.length + (lookF fs).others.length = fs.length ∧ (lookF fs).others = othersOf (aAll fs (firstsOf fs)).1.needed (sortN fs) := by
  unfold lookF at h ⊢
  by_cases hn : (fs.map Prod.fst).Nodup
  · have hp := List.mergeSort_perm (fs.map Prod.fst) leN
    have hnd := aAll_nd hn
    have := count_parts (l := sortN fs) (hp.nodup_iff.2 hn) hnd.nodup (fun k hk => hp.mem_iff.2 (hnd.there k hk))
    rw [show (sortN fs).length = fs.length by unfold sortN; rw [hp.length_eq, List.length_map]] at this
    rw [if_pos hn]
    unfold repOf
    split
    · exact ⟨hn, rfl, this, rfl⟩
    · exact ⟨hn, rfl, this, rfl⟩
  · rw [if_neg hn] at h; exact absurd rfl h
end Go.Proofs.YtbppnihcbcdglaaGreat
