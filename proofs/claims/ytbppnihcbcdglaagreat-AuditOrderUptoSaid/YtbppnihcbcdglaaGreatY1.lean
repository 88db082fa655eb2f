/- Rows of files: what AuditOrder does to them. No condition. -/
import Derived.Test.YtbppnihcbcdglaaGreatZ39
import Derived.Test.YtbppnihcbcdglaaGreatZ53
/- Plain words: what AuditOrder asks: the order, and files that are not needed. No program here. No condition. -/
namespace Go.Proofs.YtbppnihcbcdglaaGreat
set_option linter.unusedVariables false

def inB (l : List Bs) (n : Bs) : Bool := l.any fun x => x == n
theorem inB_eq (l : List Bs) (n : Bs) : inB l n = l.contains n := by
  unfold inB
  rw [Bool.eq_iff_iff, List.any_eq_true, List.contains_iff_mem]
  exact ⟨fun ⟨x, h, e⟩ => by rw [← beq_iff_eq.1 e]; exact h, fun h => ⟨n, h, beq_iff_eq.2 rfl⟩⟩
theorem inB_succ {l : List Bs} {n x : Bs} {k : Nat} (h : l[k]? = some x) : inB (l.take (k + 1)) n = (inB (l.take k) n || x == n) := by
  unfold inB
  rw [List.take_add_one, h, List.any_append]
  simp
theorem getF_map {g : Bs × Bs → Bs × Bs} {k : Bs} (hn : ∀ x, (g x).1 = x.1) (hk : ∀ x, x.1 = k → g x = x) : ∀ fs : Fs, getF (fs.map g) k = getF fs k
  | [] => rfl
  | x :: t => by
    show (if (g x).1 = k then some (g x).2 else getF (t.map g) k) = (if x.1 = k then some x.2 else getF t k)
    rw [hn, getF_map hn hk t]
    by_cases h : x.1 = k
    · rw [if_pos h, if_pos h, hk x h]
    · rw [if_neg h, if_neg h]
theorem getF_filter {p : Bs × Bs → Bool} {k : Bs} (hp : ∀ x, x.1 = k → p x = true) : ∀ fs : Fs, getF (fs.filter p) k = getF fs k
  | [] => rfl
  | x :: t => by
    rw [List.filter_cons]
    split
    · show (if x.1 = k then some x.2 else getF (t.filter p) k) = (if x.1 = k then some x.2 else getF t k)
      rw [getF_filter hp t]
    · rename_i h
      show getF (t.filter p) k = (if x.1 = k then some x.2 else getF t k)
      rw [if_neg (fun e => h (hp x e)), getF_filter hp t]
/-- A file whose bytes do not matter bears others. -/
def updP (need : List Bs) (oth : Bs) (x : Bs × Bs) : Bs × Bs := if inB need x.1 then x else (x.1, oth)
theorem updP_fst (need : List Bs) (oth : Bs) (x : Bs × Bs) : (updP need oth x).1 = x.1 := by unfold updP; split <;> rfl
def keepB (need others : List Bs) (n : Bs) : Bool := inB need n || !inB others n
theorem order_facts {fs : Fs} (h : (lookF fs).err ≠ 1) (oth : Bs) :
    lookF (fs.map (updP (lookF fs).needed oth)) = lookF fs ∧
    (let gs := (fs.filter fun x => keepB (lookF fs).needed (lookF fs).others x.1).map (updP (lookF fs).needed oth)
     (lookF gs).others = [] ∧ (lookF gs).err = (lookF fs).err ∧ (lookF gs).base = (lookF fs).base ∧ (lookF gs).last = (lookF fs).last ∧ (lookF gs).rep = (lookF fs).rep ∧ (lookF gs).torn = (lookF fs).torn ∧ (lookF gs).needed = (lookF fs).needed ∧ (lookF gs).left = (lookF fs).left) := by
  obtain ⟨hn, h2, -, h4⟩ := look_count h
  have hg : ∀ k ∈ (lookF fs).needed, ∀ x : Bs × Bs, x.1 = k → updP (lookF fs).needed oth x = x := by
    intro k hk x hx
    unfold updP
    rw [inB_eq, if_pos (by rw [hx]; exact List.contains_iff_mem.2 hk)]
  refine ⟨look_other hn ?_ fun k hk => ?_, look_fewer hn ?_ fun k hk => ?_⟩
  · rw [List.map_map]
    exact List.map_congr_left fun x _ => updP_fst _ _ x
  · exact getF_map (updP_fst _ _) (hg k (by rw [h2]; exact hk)) fs
  · rw [List.map_map, List.filter_map]
    have e1 : (Prod.fst ∘ updP (lookF fs).needed oth) = (Prod.fst : Bs × Bs → Bs) := funext fun x => updP_fst _ _ x
    rw [e1]
    congr 1
    refine List.filter_congr fun x hx => ?_
    simp only [Function.comp]
    unfold keepB
    rw [inB_eq, inB_eq, h2, h4]
    have hm : x.1 ∈ sortN fs := (List.mergeSort_perm _ leN).mem_iff.2 (List.mem_map.2 ⟨x, hx, rfl⟩)
    have : (othersOf (aAll fs (firstsOf fs)).1.needed (sortN fs)).contains x.1 = (!(aAll fs (firstsOf fs)).1.needed.contains x.1 && !ownB x.1) := by
      rw [Bool.eq_iff_iff, List.contains_iff_mem]
      unfold othersOf
      rw [List.mem_filter]
      exact ⟨fun h => h.2, fun h => ⟨hm, h⟩⟩
    rw [this]
    cases (aAll fs (firstsOf fs)).1.needed.contains x.1 <;> cases ownB x.1 <;> rfl
  · rw [getF_map (updP_fst _ _) (hg k (by rw [h2]; exact hk)), getF_filter]
    intro x hx
    unfold keepB
    rw [inB_eq, hx, h2, List.contains_iff_mem.2 hk]
    rfl
/-- A place that a number names. -/
theorem mod_idx (t : Int) {n : Nat} (hn : 0 < n) : (t.tmod n < 0 → ∃ q : Nat, q < n ∧ t.tmod n + n = q) ∧ (¬ t.tmod n < 0 → ∃ q : Nat, q < n ∧ t.tmod n = q) := by
  have h1 := Int.tmod_lt_of_pos t (show (0 : Int) < n by omega)
  have h2 := Int.lt_tmod_of_pos t (show (0 : Int) < n by omega)
  exact ⟨fun h => ⟨(t.tmod n + n).toNat, by omega, by omega⟩, fun h => ⟨(t.tmod n).toNat, by omega, by omega⟩⟩
theorem swap_perm {α : Type} {l : List α} {i j : Nat} {x y : α} (hx : l[i]? = some x) (hy : l[j]? = some y) : ((l.set i y).set j x).Perm l := by
  obtain ⟨hi, rfl⟩ := List.getElem?_eq_some_iff.1 hx
  obtain ⟨hj, rfl⟩ := List.getElem?_eq_some_iff.1 hy
  exact List.set_set_perm hi hj
end Go.Proofs.YtbppnihcbcdglaaGreat
namespace Go.Proofs.YtbppnihcbcdglaaGreat
open Go.RowKit
set_option linter.unusedVariables false
set_option linter.unusedSimpArgs false

/-- Numbers, where they lie. -/
theorem IntsC.at {w : World} {a : Option Addr} {xs : List Int} (h : IntsC w a xs) {j : Nat} (hj : j < xs.length) : ∃ g o, a = some ⟨g, o, none⟩ ∧ ∀ (i : Nat) (z : Int), xs[i]? = some z → w.cell? ⟨g, o + i, none⟩ = some (.int .i64 z) := by
  rcases h with he | ⟨g, o, rfl, hh⟩
  · have := congrArg List.length he
    simp at this
    subst this
    cases hj
  · exact ⟨g, o, rfl, fun i z hz => hh i _ (by rw [List.getElem?_map, hz]; rfl)⟩
theorem IntsC.below {w w' : World} {a : Option Addr} {xs : List Int} (h : IntsC w a xs) (hb : Below w.heap.size w w') : IntsC w' a xs := RowC.below h hb
/-- A list, the first j of it turned. -/
def mapL (g : FBm → FBm) (ms : List FBm) (j : Nat) : List FBm := (ms.take j).map g ++ ms.drop j
theorem mapL_len (g : FBm → FBm) (ms : List FBm) (j : Nat) : (mapL g ms j).length = ms.length := by
  unfold mapL
  rw [List.length_append, List.length_map, ← List.length_append, List.take_append_drop]
theorem mapL_zero (g : FBm → FBm) (ms : List FBm) : mapL g ms 0 = ms := by simp [mapL]
theorem mapL_all (g : FBm → FBm) (ms : List FBm) : mapL g ms ms.length = ms.map g := by simp [mapL]
theorem mapL_at {g : FBm → FBm} {ms : List FBm} {j : Nat} {m : FBm} (hm : ms[j]? = some m) : (mapL g ms j)[j]? = some m := by
  have hj := (List.getElem?_eq_some_iff.1 hm).1
  unfold mapL
  rw [List.getElem?_append_right (by simp; omega)]
  simp only [List.length_map, List.length_take, Nat.min_eq_left (Nat.le_of_lt hj), Nat.sub_self, List.getElem?_drop, Nat.add_zero]
  exact hm
theorem mapL_succ {g : FBm → FBm} {ms : List FBm} {j : Nat} {m : FBm} (hm : ms[j]? = some m) : mapL g ms (j + 1) = (mapL g ms j).set j (g m) := by
  have hj := (List.getElem?_eq_some_iff.1 hm).1
  have hl : ((ms.take j).map g).length = j := by simp; omega
  unfold mapL
  rw [List.set_append_right _ _ (by omega), hl, Nat.sub_self, List.take_add_one, hm, List.map_append, List.drop_eq_getElem_cons hj, List.set_cons_zero]
  simp
theorem mapL_same {g : FBm → FBm} {ms : List FBm} {j : Nat} {m : FBm} (hm : ms[j]? = some m) (hn : g m = m) : mapL g ms (j + 1) = mapL g ms j := by
  rw [mapL_succ hm, hn]
  refine List.ext_getElem? fun i => ?_
  rw [List.getElem?_set]
  split
  · rename_i h
    subst h
    rw [mapL_at hm, if_pos (by rw [mapL_len]; exact (List.getElem?_eq_some_iff.1 hm).1)]
  · rfl
/-- A file that is not needed bears other bytes. -/
def updM (need : List Bs) (oth : Bs) (oa : Option Addr) (oc : Nat) (m : FBm) : FBm := if inB need m.f.1 then m else ⟨(m.f.1, oth), oa, oc⟩
def keepM (need others : List Bs) (m : FBm) : Bool := keepB need others m.f.1
/-- The fewer files, of the first j. -/
def fewL (need others : List Bs) (oth : Bs) (oa : Option Addr) (oc : Nat) (ms : List FBm) (j : Nat) : List FBm := ((ms.take j).filter (keepM need others)).map (updM need oth oa oc)
theorem fewL_succ {need others : List Bs} {oth : Bs} {oa : Option Addr} {oc : Nat} {ms : List FBm} {j : Nat} {m : FBm} (hm : ms[j]? = some m) : fewL need others oth oa oc ms (j + 1) = fewL need others oth oa oc ms j ++ if keepM need others m then [updM need oth oa oc m] else [] := by
  unfold fewL
  rw [List.take_add_one, hm, List.filter_append, List.map_append]
  congr 1
  show List.map _ (List.filter _ [m]) = _
  rw [List.filter_cons]
  split <;> rfl
theorem updM_f (need : List Bs) (oth : Bs) (oa : Option Addr) (oc : Nat) (m : FBm) : (updM need oth oa oc m).f = updP need oth m.f := by
  unfold updM updP
  split <;> rfl
theorem upd_fs (need : List Bs) (oth : Bs) (oa : Option Addr) (oc : Nat) (ms : List FBm) : (ms.map (updM need oth oa oc)).map FBm.f = (ms.map FBm.f).map (updP need oth) := by
  rw [List.map_map, List.map_map]
  exact List.map_congr_left fun m _ => updM_f need oth oa oc m
theorem few_fs (need others : List Bs) (oth : Bs) (oa : Option Addr) (oc : Nat) (ms : List FBm) : (fewL need others oth oa oc ms ms.length).map FBm.f = ((ms.map FBm.f).filter fun x => keepB need others x.1).map (updP need oth) := by
  unfold fewL
  rw [List.take_length, upd_fs, List.filter_map]
  rfl
theorem few_mem {need others : List Bs} {oth : Bs} {oa : Option Addr} {oc : Nat} {ms : List FBm} {j : Nat} {m : FBm} (h : m ∈ fewL need others oth oa oc ms j) : ∃ m0 ∈ ms, m = updM need oth oa oc m0 := by
  obtain ⟨m0, h0, rfl⟩ := List.mem_map.1 h
  exact ⟨m0, List.mem_of_mem_take (List.mem_filter.1 h0).1, rfl⟩
theorem few_len (need others : List Bs) (oth : Bs) (oa : Option Addr) (oc : Nat) (ms : List FBm) (j : Nat) : (fewL need others oth oa oc ms j).length ≤ ms.length := by
  unfold fewL
  rw [List.length_map]
  refine Nat.le_trans (List.length_filter_le _ _) ?_
  rw [List.length_take]
  exact Nat.min_le_right _ _
/-- What is true of each file and of the other bytes. -/
theorem upd_ok {need : List Bs} {oth : Bs} {oa : Option Addr} {oc : Nat} {w : World} {m : FBm} (h : BS w m.a m.c m.f.2) (ho : BS w oa oc oth) : BS w (updM need oth oa oc m).a (updM need oth oa oc m).c (updM need oth oa oc m).f.2 := by
  unfold updM
  split
  · exact h
  · exact ho
theorem upd_small {need : List Bs} {oth : Bs} {oa : Option Addr} {oc : Nat} {m : FBm} (h : m.f.2.length ≤ 2097152 ∧ m.f.1.length ≤ 1000) (ho : oth.length ≤ 2097152) : (updM need oth oa oc m).f.2.length ≤ 2097152 ∧ (updM need oth oa oc m).f.1.length ≤ 1000 := by
  unfold updM
  split
  · exact h
  · exact ⟨ho, h.2⟩
/-- A row of its own keeps while a block below it is written. -/
theorem own_low {w w' : World} {n0 size n : Nat} {t : TypeId} {v : Value} {xs : List Value} (h : w.ownsRow n0 t size v n xs) (hk : ∀ k, n0 ≤ k → k < w.heap.size → w'.heap[k]? = w.heap[k]?) : w'.ownsRow n0 t size v n xs := by
  obtain ⟨h1, h2⟩ := h
  refine ⟨h1, ?_⟩
  rcases h2 with h2 | ⟨g, cap, cur, rfl, hg, hh, r⟩
  · exact .inl h2
  · exact .inr ⟨g, cap, cur, rfl, hg, (hk g hg (Array.getElem?_eq_some_iff.1 hh).1).trans hh, r⟩
/-- Another's row grows. -/
theorem RowF.grown {w w' : World} {n0 n1 size n : Nat} {a : Option Addr} {ms : List FBm} {t : TypeId} {v : Value} {xs : List Value} (h : RowF w n0 a ms) (hlt : ∀ g o, a = some ⟨g, o, none⟩ → ms ≠ [] → g < n1) (ho : w.ownsRow n1 t size v n xs) (hg : w.grownBy w' v.ownBlock) : RowF w' n0 a ms := by
  rcases h with rfl | ⟨g, o, cur, rfl, hg0, hh, hc⟩
  · exact .inl rfl
  · by_cases hne : ms = []
    · exact .inl hne
    · refine .inr ⟨g, o, cur, rfl, hg0, blk_grown hg hh (fun e => ?_), hc⟩
      have := own_ge ho e
      have := hlt g o rfl hne
      omega
end Go.Proofs.YtbppnihcbcdglaaGreat
