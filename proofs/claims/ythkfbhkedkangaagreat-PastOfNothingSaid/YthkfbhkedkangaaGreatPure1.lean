/- Plain words: rows of sevens, numbers and texts as bytes, a reader of them. No program here. No condition. -/
import Derived.Below
namespace Go.Proofs.YthkfbhkedkangaaGreat

abbrev Bs := List UInt8

/-- A number as a row of sevens. -/
def sevens (u : Nat) : Bs := if u < 128 then [UInt8.ofNat u] else UInt8.ofNat (u % 128 + 128) :: sevens (u / 128)
termination_by u
decreasing_by omega

theorem sevens_lt {u : Nat} (h : u < 128) : sevens u = [UInt8.ofNat u] := by rw [sevens]; simp [h]
theorem sevens_ge {u : Nat} (h : 128 ≤ u) : sevens u = UInt8.ofNat (u % 128 + 128) :: sevens (u / 128) := by rw [sevens]; simp [show ¬ u < 128 by omega]
theorem sevens_len_pos (u : Nat) : 0 < (sevens u).length := by rw [sevens]; split <;> simp
theorem sevens_len_aux (k : Nat) : ∀ u, u < 128 ^ k → 0 < k → (sevens u).length ≤ k := by
  induction k with
  | zero => intro u _ h; omega
  | succ k ih =>
    intro u hu _
    by_cases h : u < 128
    · rw [sevens_lt h]; simp
    · rw [sevens_ge (by omega)]
      simp only [List.length_cons]
      have hk : 0 < k := by
        rcases Nat.eq_zero_or_pos k with rfl | hk
        · simp at hu; omega
        · exact hk
      have := ih (u / 128) (by rw [Nat.pow_succ] at hu; omega) hk
      omega
theorem sevens_len {u : Nat} (h : u < 18446744073709551616) : (sevens u).length ≤ 10 :=
  sevens_len_aux 10 u (by have : (18446744073709551616 : Nat) ≤ 128 ^ 10 := by decide
                          omega) (by omega)

/-- A whole number as a number from 0 on, the sign in the lowest digit. -/
def zig (v : Int) : Nat := if 0 ≤ v then (2 * v).toNat else (2 * (-(v + 1)) + 1).toNat
def text (s : Bs) : Bs := sevens s.length ++ s

/-- What a writer with error e makes of more bytes, and of another error. -/
def lay (e : Int) (xs ys : Bs) : Bs := if e = 0 then xs ++ ys else xs
def stopE (e x : Int) : Int := if e = 0 then x else e
theorem lay_0 (xs ys : Bs) : lay 0 xs ys = xs ++ ys := by simp [lay]
theorem lay_ne {e : Int} (h : e ≠ 0) (xs ys : Bs) : lay e xs ys = xs := by simp [lay, h]
theorem lay_len (e : Int) (xs ys : Bs) : (lay e xs ys).length ≤ xs.length + ys.length := by unfold lay; split <;> simp
theorem lay_lay (e : Int) (xs ys zs : Bs) : lay e (lay e xs ys) zs = lay e xs (ys ++ zs) := by unfold lay; split <;> simp
theorem stopE_0 (x : Int) : stopE 0 x = x := by simp [stopE]
theorem stopE_ne {e : Int} (h : e ≠ 0) (x : Int) : stopE e x = e := by simp [stopE, h]

/-- A reader: bytes, place, error. -/
structure RS where
  d : Bs
  i : Nat
  e : Int

/-- A row of sevens: how many bytes it takes, or the error. -/
def rowGo (most : Nat) (last : Nat) : Bs → Nat → Nat → Int × Nat × Nat
  | [], _, _ => (2, 0, 0)
  | b :: t, k, acc =>
    if k = most - 1 ∧ last < b.toNat then (15, 0, 0) else
    if b.toNat < 128 then (if 0 < k ∧ b.toNat = 0 then (3, 0, 0) else (0, acc + b.toNat % 128 * 128 ^ k, k + 1))
    else rowGo most last t (k + 1) (acc + b.toNat % 128 * 128 ^ k)

theorem rowGo_short {most last : Nat} {d : Bs} {j k acc : Nat} (h : d.length ≤ j) : rowGo most last (d.drop j) k acc = (2, 0, 0) := by
  rw [List.drop_eq_nil_of_le h]; rfl
theorem rowGo_range {most last : Nat} {d : Bs} {j k acc : Nat} (h : j < d.length) (h1 : k = most - 1 ∧ last < d[j].toNat) : rowGo most last (d.drop j) k acc = (15, 0, 0) := by
  rw [List.drop_eq_getElem_cons h]; simp only [rowGo]; rw [if_pos h1]
theorem rowGo_form {most last : Nat} {d : Bs} {j k acc : Nat} (h : j < d.length) (h1 : ¬ (k = most - 1 ∧ last < d[j].toNat)) (h2 : d[j].toNat < 128) (h3 : 0 < k ∧ d[j].toNat = 0) : rowGo most last (d.drop j) k acc = (3, 0, 0) := by
  rw [List.drop_eq_getElem_cons h]; simp only [rowGo]; rw [if_neg h1, if_pos h2, if_pos h3]
theorem rowGo_ok {most last : Nat} {d : Bs} {j k acc : Nat} (h : j < d.length) (h1 : ¬ (k = most - 1 ∧ last < d[j].toNat)) (h2 : d[j].toNat < 128) (h3 : ¬ (0 < k ∧ d[j].toNat = 0)) : rowGo most last (d.drop j) k acc = (0, acc + d[j].toNat % 128 * 128 ^ k, k + 1) := by
  rw [List.drop_eq_getElem_cons h]; simp only [rowGo]; rw [if_neg h1, if_pos h2, if_neg h3]
theorem rowGo_on {most last : Nat} {d : Bs} {j k acc : Nat} (h : j < d.length) (h1 : ¬ (k = most - 1 ∧ last < d[j].toNat)) (h2 : ¬ d[j].toNat < 128) : rowGo most last (d.drop j) k acc = rowGo most last (d.drop (j + 1)) (k + 1) (acc + d[j].toNat % 128 * 128 ^ k) := by
  rw [List.drop_eq_getElem_cons h]; simp only [rowGo]; rw [if_neg h1, if_neg h2]

theorem or_shift (acc x k : Nat) (h : acc < 128 ^ k) : acc ||| x * 128 ^ k = acc + x * 128 ^ k := by
  have e : (128 : Nat) ^ k = 2 ^ (7 * k) := by rw [Nat.pow_mul]
  rw [e] at h ⊢
  have := Nat.two_pow_add_eq_or_of_lt h x
  rw [Nat.mul_comm x, Nat.or_comm, ← this, Nat.add_comm]

/-- Takes a row: the number, and the reader behind it. -/
def RS.row (r : RS) (most last : Nat) : Nat × RS :=
  if r.e ≠ 0 then (0, r) else
  match rowGo most last (r.d.drop r.i) 0 0 with
  | (0, v, n) => (v, { r with i := r.i + n })
  | (e, _, _) => (0, { r with e := e })
theorem RS.row_ok {r : RS} {most last v n : Nat} (h : r.e = 0) (hg : rowGo most last (r.d.drop r.i) 0 0 = (0, v, n)) : r.row most last = (v, { r with i := r.i + n }) := by
  unfold RS.row; rw [hg]; simp [h]
theorem RS.row_err {r : RS} {most last v n : Nat} {e : Int} (h : r.e = 0) (he : e ≠ 0) (hg : rowGo most last (r.d.drop r.i) 0 0 = (e, v, n)) : r.row most last = (0, { r with e := e }) := by
  unfold RS.row; rw [hg]
  split
  · rename_i h2; exact absurd h h2
  · split
    · rename_i h3; exact absurd (congrArg Prod.fst h3) he
    · rename_i h3; simp only [Prod.mk.injEq] at h3; rw [h3.1]
theorem RS.row_stop {r : RS} {most last : Nat} (h : r.e ≠ 0) : r.row most last = (0, r) := by simp [RS.row, h]
def RS.number (r : RS) : Nat × RS := r.row 9 127
def zag (u : Nat) : Int := if u % 2 = 0 then (u / 2 : Nat) else -((u / 2 : Nat) : Int) - 1
def RS.int (r : RS) : Int × RS := if r.e ≠ 0 then (0, r) else let x := r.row 10 1; if x.2.e ≠ 0 then (0, x.2) else (zag x.1, x.2)
def RS.byte (r : RS) : UInt8 × RS :=
  if r.e ≠ 0 then (0, r) else
  match r.d[r.i]? with
  | some b => (b, { r with i := r.i + 1 })
  | none => (0, { r with e := 2 })
def RS.text (r : RS) (most : Int) : Bs × RS :=
  if r.e ≠ 0 then ([], r) else
  let x := r.number
  if x.2.e ≠ 0 then ([], x.2) else
  if max most 0 < (x.1 : Int) then ([], { r with e := 4 }) else
  if r.d.length - x.2.i < x.1 then ([], { r with e := 2 }) else
  ((r.d.drop x.2.i).take x.1, { x.2 with i := x.2.i + x.1 })
def RS.end_ (r : RS) : Int := if r.e = 0 ∧ r.i < r.d.length then 3 else r.e


theorem rowGo_lt (most last : Nat) : ∀ (l : Bs) (k acc v n : Nat), acc < 128 ^ k → k < most → last ≤ 127 → rowGo most last l k acc = (0, v, n) → v < 128 ^ most := by
  intro l
  induction l with
  | nil => intro k acc v n _ _ _ h; simp [rowGo] at h
  | cons b t ih =>
    intro k acc v n ha hk hl h
    have hn : acc + b.toNat % 128 * 128 ^ k < 128 ^ (k + 1) := by
      have : b.toNat % 128 * 128 ^ k ≤ 127 * 128 ^ k := Nat.mul_le_mul (by omega) (Nat.le_refl _)
      rw [Nat.pow_succ]; omega
    have hp : (128 : Nat) ^ (k + 1) ≤ 128 ^ most := Nat.pow_le_pow_right (by omega) (by omega)
    simp only [rowGo] at h
    split at h
    · simp at h
    · rename_i h1
      split at h
      · split at h
        · simp at h
        · simp only [Prod.mk.injEq, true_and] at h
          omega
      · rename_i h2
        exact ih _ _ _ _ hn (by omega) hl h
theorem RS.row_lt (r : RS) (most last : Nat) (hm : 0 < most) (hl : last ≤ 127) : (r.row most last).1 < 128 ^ most := by
  have hp : 0 < 128 ^ most := Nat.pow_pos (by omega)
  by_cases h0 : r.e = 0
  · rcases hg : rowGo most last (r.d.drop r.i) 0 0 with ⟨e, v, n⟩
    by_cases he : e = 0
    · subst he
      rw [RS.row_ok h0 hg]
      exact rowGo_lt most last _ 0 0 v n (by simp) hm hl hg
    · rw [RS.row_err h0 he hg]; exact hp
  · rw [RS.row_stop h0]; exact hp
theorem RS.number_lt (r : RS) : r.number.1 < 9223372036854775808 := by
  have := r.row_lt 9 127 (by omega) (by omega)
  have e : (128 : Nat) ^ 9 = 9223372036854775808 := by decide
  unfold RS.number
  omega
/-- A row of ten, the last of which is at most 1, is a number of 64 digits. -/
theorem rowGo_lt10 : ∀ (l : Bs) (k acc v n : Nat), acc < 128 ^ k → k < 10 → rowGo 10 1 l k acc = (0, v, n) → v < 18446744073709551616 := by
  intro l
  induction l with
  | nil => intro k acc v n _ _ h; simp [rowGo] at h
  | cons b t ih =>
    intro k acc v n ha hk h
    have hn : acc + b.toNat % 128 * 128 ^ k < 128 ^ (k + 1) := by
      have : b.toNat % 128 * 128 ^ k ≤ 127 * 128 ^ k := Nat.mul_le_mul (by omega) (Nat.le_refl _)
      rw [Nat.pow_succ]; omega
    simp only [rowGo] at h
    split at h
    · simp at h
    · rename_i h1
      split at h
      · split at h
        · simp at h
        · simp only [Prod.mk.injEq, true_and] at h
          rcases Nat.lt_or_ge k 9 with h9 | h9
          · have hp : (128 : Nat) ^ (k + 1) ≤ 128 ^ 9 := Nat.pow_le_pow_right (by omega) (by omega)
            have e : (128 : Nat) ^ 9 = 9223372036854775808 := by decide
            omega
          · obtain rfl : k = 9 := by omega
            have e : (128 : Nat) ^ 9 = 9223372036854775808 := by decide
            rw [e] at ha h
            have : b.toNat % 128 ≤ 1 := by omega
            have : b.toNat % 128 * 9223372036854775808 ≤ 1 * 9223372036854775808 := Nat.mul_le_mul this (Nat.le_refl _)
            omega
      · rename_i h2
        exact ih _ _ _ _ hn (by omega) h
theorem RS.row_lt10 (r : RS) : (r.row 10 1).1 < 18446744073709551616 := by
  by_cases h0 : r.e = 0
  · rcases hg : rowGo 10 1 (r.d.drop r.i) 0 0 with ⟨e, v, n⟩
    by_cases he : e = 0
    · subst he
      rw [RS.row_ok h0 hg]
      exact rowGo_lt10 _ 0 0 v n (by simp) (by omega) hg
    · rw [RS.row_err h0 he hg]; show 0 < _; omega
  · rw [RS.row_stop h0]; show 0 < _; omega
theorem rowGo_n (most last : Nat) : ∀ (l : Bs) (k acc v n : Nat), rowGo most last l k acc = (0, v, n) → n ≤ k + l.length := by
  intro l
  induction l with
  | nil => intro k acc v n h; simp [rowGo] at h
  | cons b t ih =>
    intro k acc v n h
    simp only [rowGo] at h
    simp only [List.length_cons]
    split at h
    · simp at h
    · split at h
      · split at h
        · simp at h
        · simp only [Prod.mk.injEq, true_and] at h; omega
      · have := ih _ _ _ _ h; omega
/-- What a row leaves alone, and where it stands behind it. -/
theorem RS.row_keeps (r : RS) (most last : Nat) (hi : r.i ≤ r.d.length) : (r.row most last).2.d = r.d ∧ r.i ≤ (r.row most last).2.i ∧ (r.row most last).2.i ≤ r.d.length ∧ ((r.row most last).2.e ≠ 0 → (r.row most last).2.i = r.i) := by
  by_cases h0 : r.e = 0
  · rcases hg : rowGo most last (r.d.drop r.i) 0 0 with ⟨e, v, n⟩
    by_cases he : e = 0
    · subst he
      rw [RS.row_ok h0 hg]
      have := rowGo_n most last _ 0 0 v n hg
      simp only [List.length_drop] at this
      exact ⟨rfl, by show r.i ≤ r.i + n; omega, by show r.i + n ≤ _; omega, fun h => absurd h0 h⟩
    · rw [RS.row_err h0 he hg]; exact ⟨rfl, Nat.le_refl _, hi, fun _ => rfl⟩
  · rw [RS.row_stop h0]; exact ⟨rfl, Nat.le_refl _, hi, fun _ => rfl⟩
end Go.Proofs.YthkfbhkedkangaaGreat
