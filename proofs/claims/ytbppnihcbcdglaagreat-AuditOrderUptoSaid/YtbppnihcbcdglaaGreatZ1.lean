/- Plain words: what an audit tells of a directory. No program here. No condition. -/
import Derived.Below
/- Plain words: rows of sevens, numbers and texts as bytes, a reader of them. No program here. No condition. -/
namespace Go.Proofs.YtbppnihcbcdglaaGreat

abbrev Bs := List UInt8

/-- A number as a row of sevens. -/
def sevens (u : Nat) : Bs := if u < 128 then [UInt8.ofNat u] else UInt8.ofNat (u % 128 + 128) :: sevens (u / 128)
termination_by u
decreasing_by omega

theorem sevens_lt {u : Nat} (h : u < 128) : sevens u = [UInt8.ofNat u] := by rw [sevens]; simp [h]
theorem sevens_ge {u : Nat} (h : 128 ≤ u) : sevens u = UInt8.ofNat (u % 128 + 128) :: sevens (u / 128) := by rw [sevens]; simp [show ¬ u < 128 by omega]
theorem sevens_len_pos (u : Nat) : 0 < (sevens u).length := by rw [sevens]; split <;> simp
theorem sevens_len_aux (k : Nat) : ∀ u, u < 128 ^ k → 0 < k → (sevens u).length ≤ k := by
  induction k with
  | zero => intro u _ h; omega
  | succ k ih =>
    intro u hu _
    by_cases h : u < 128
    · rw [sevens_lt h]; simp
    · rw [sevens_ge (by omega)]
      simp only [List.length_cons]
      have hk : 0 < k := by
        rcases Nat.eq_zero_or_pos k with rfl | hk
        · simp at hu; omega
        · exact hk
      have := ih (u / 128) (by rw [Nat.pow_succ] at hu; omega) hk
      omega
theorem sevens_len {u : Nat} (h : u < 18446744073709551616) : (sevens u).length ≤ 10 :=
  sevens_len_aux 10 u (by have : (18446744073709551616 : Nat) ≤ 128 ^ 10 := by decide
                          omega) (by omega)

/-- A whole number as a number from 0 on, the sign in the lowest digit. -/
def zig (v : Int) : Nat := if 0 ≤ v then (2 * v).toNat else (2 * (-(v + 1)) + 1).toNat
def text (s : Bs) : Bs := sevens s.length ++ s

/-- What a writer with error e makes of more bytes, and of another error. -/
def lay (e : Int) (xs ys : Bs) : Bs := if e = 0 then xs ++ ys else xs
def stopE (e x : Int) : Int := if e = 0 then x else e
theorem lay_0 (xs ys : Bs) : lay 0 xs ys = xs ++ ys := by simp [lay]
theorem lay_ne {e : Int} (h : e ≠ 0) (xs ys : Bs) : lay e xs ys = xs := by simp [lay, h]
theorem lay_len (e : Int) (xs ys : Bs) : (lay e xs ys).length ≤ xs.length + ys.length := by unfold lay; split <;> simp
theorem lay_lay (e : Int) (xs ys zs : Bs) : lay e (lay e xs ys) zs = lay e xs (ys ++ zs) := by unfold lay; split <;> simp
theorem stopE_0 (x : Int) : stopE 0 x = x := by simp [stopE]
theorem stopE_ne {e : Int} (h : e ≠ 0) (x : Int) : stopE e x = e := by simp [stopE, h]

/-- A reader: bytes, place, error. -/
structure RS where
  d : Bs
  i : Nat
  e : Int

/-- A row of sevens: how many bytes it takes, or the error. -/
def rowGo (most : Nat) (last : Nat) : Bs → Nat → Nat → Int × Nat × Nat
  | [], _, _ => (2, 0, 0)
  | b :: t, k, acc =>
    if k = most - 1 ∧ last < b.toNat then (15, 0, 0) else
    if b.toNat < 128 then (if 0 < k ∧ b.toNat = 0 then (3, 0, 0) else (0, acc + b.toNat % 128 * 128 ^ k, k + 1))
    else rowGo most last t (k + 1) (acc + b.toNat % 128 * 128 ^ k)

theorem rowGo_short {most last : Nat} {d : Bs} {j k acc : Nat} (h : d.length ≤ j) : rowGo most last (d.drop j) k acc = (2, 0, 0) := by
  rw [List.drop_eq_nil_of_le h]; rfl
theorem rowGo_range {most last : Nat} {d : Bs} {j k acc : Nat} (h : j < d.length) (h1 : k = most - 1 ∧ last < d[j].toNat) : rowGo most last (d.drop j) k acc = (15, 0, 0) := by
  rw [List.drop_eq_getElem_cons h]; simp only [rowGo]; rw [if_pos h1]
theorem rowGo_form {most last : Nat} {d : Bs} {j k acc : Nat} (h : j < d.length) (h1 : ¬ (k = most - 1 ∧ last < d[j].toNat)) (h2 : d[j].toNat < 128) (h3 : 0 < k ∧ d[j].toNat = 0) : rowGo most last (d.drop j) k acc = (3, 0, 0) := by
  rw [List.drop_eq_getElem_cons h]; simp only [rowGo]; rw [if_neg h1, if_pos h2, if_pos h3]
theorem rowGo_ok {most last : Nat} {d : Bs} {j k acc : Nat} (h : j < d.length) (h1 : ¬ (k = most - 1 ∧ last < d[j].toNat)) (h2 : d[j].toNat < 128) (h3 : ¬ (0 < k ∧ d[j].toNat = 0)) : rowGo most last (d.drop j) k acc = (0, acc + d[j].toNat % 128 * 128 ^ k, k + 1) := by
  rw [List.drop_eq_getElem_cons h]; simp only [rowGo]; rw [if_neg h1, if_pos h2, if_neg h3]
theorem rowGo_on {most last : Nat} {d : Bs} {j k acc : Nat} (h : j < d.length) (h1 : ¬ (k = most - 1 ∧ last < d[j].toNat)) (h2 : ¬ d[j].toNat < 128) : rowGo most last (d.drop j) k acc = rowGo most last (d.drop (j + 1)) (k + 1) (acc + d[j].toNat % 128 * 128 ^ k) := by
  rw [List.drop_eq_getElem_cons h]; simp only [rowGo]; rw [if_neg h1, if_neg h2]

theorem or_shift (acc x k : Nat) (h : acc < 128 ^ k) : acc ||| x * 128 ^ k = acc + x * 128 ^ k := by
  have e : (128 : Nat) ^ k = 2 ^ (7 * k) := by rw [Nat.pow_mul]
  rw [e] at h ⊢
  have := Nat.two_pow_add_eq_or_of_lt h x
  rw [Nat.mul_comm x, Nat.or_comm, ← this, Nat.add_comm]

/-- Takes a row: the number, and the reader behind it. -/
def RS.row (r : RS) (most last : Nat) : Nat × RS :=
  if r.e ≠ 0 then (0, r) else
  match rowGo most last (r.d.drop r.i) 0 0 with
  | (0, v, n) => (v, { r with i := r.i + n })
  | (e, _, _) => (0, { r with e := e })
theorem RS.row_ok {r : RS} {most last v n : Nat} (h : r.e = 0) (hg : rowGo most last (r.d.drop r.i) 0 0 = (0, v, n)) : r.row most last = (v, { r with i := r.i + n }) := by
  unfold RS.row; rw [hg]; simp [h]
theorem RS.row_err {r : RS} {most last v n : Nat} {e : Int} (h : r.e = 0) (he : e ≠ 0) (hg : rowGo most last (r.d.drop r.i) 0 0 = (e, v, n)) : r.row most last = (0, { r with e := e }) := by
  unfold RS.row; rw [hg]
  split
  · rename_i h2; exact absurd h h2
  · split
    · rename_i h3; exact absurd (congrArg Prod.fst h3) he
    · rename_i h3; simp only [Prod.mk.injEq] at h3; rw [h3.1]
theorem RS.row_stop {r : RS} {most last : Nat} (h : r.e ≠ 0) : r.row most last = (0, r) := by simp [RS.row, h]
def RS.number (r : RS) : Nat × RS := r.row 9 127
def zag (u : Nat) : Int := if u % 2 = 0 then (u / 2 : Nat) else -((u / 2 : Nat) : Int) - 1
def RS.int (r : RS) : Int × RS := if r.e ≠ 0 then (0, r) else let x := r.row 10 1; if x.2.e ≠ 0 then (0, x.2) else (zag x.1, x.2)
def RS.byte (r : RS) : UInt8 × RS :=
  if r.e ≠ 0 then (0, r) else
  match r.d[r.i]? with
  | some b => (b, { r with i := r.i + 1 })
  | none => (0, { r with e := 2 })
def RS.text (r : RS) (most : Int) : Bs × RS :=
  if r.e ≠ 0 then ([], r) else
  let x := r.number
  if x.2.e ≠ 0 then ([], x.2) else
  if max most 0 < (x.1 : Int) then ([], { r with e := 4 }) else
  if r.d.length - x.2.i < x.1 then ([], { r with e := 2 }) else
  ((r.d.drop x.2.i).take x.1, { x.2 with i := x.2.i + x.1 })
def RS.end_ (r : RS) : Int := if r.e = 0 ∧ r.i < r.d.length then 3 else r.e


theorem rowGo_lt (most last : Nat) : ∀ (l : Bs) (k acc v n : Nat), acc < 128 ^ k → k < most → last ≤ 127 → rowGo most last l k acc = (0, v, n) → v < 128 ^ most := by
  intro l
  induction l with
  | nil => intro k acc v n _ _ _ h; simp [rowGo] at h
  | cons b t ih =>
    intro k acc v n ha hk hl h
    have hn : acc + b.toNat % 128 * 128 ^ k < 128 ^ (k + 1) := by
      have : b.toNat % 128 * 128 ^ k ≤ 127 * 128 ^ k := Nat.mul_le_mul (by omega) (Nat.le_refl _)
      rw [Nat.pow_succ]; omega
    have hp : (128 : Nat) ^ (k + 1) ≤ 128 ^ most := Nat.pow_le_pow_right (by omega) (by omega)
    simp only [rowGo] at h
    split at h
    · simp at h
    · rename_i h1
      split at h
      · split at h
        · simp at h
        · simp only [Prod.mk.injEq, true_and] at h
          omega
      · rename_i h2
        exact ih _ _ _ _ hn (by omega) hl h
theorem RS.row_lt (r : RS) (most last : Nat) (hm : 0 < most) (hl : last ≤ 127) : (r.row most last).1 < 128 ^ most := by
  have hp : 0 < 128 ^ most := Nat.pow_pos (by omega)
  by_cases h0 : r.e = 0
  · rcases hg : rowGo most last (r.d.drop r.i) 0 0 with ⟨e, v, n⟩
    by_cases he : e = 0
    · subst he
      rw [RS.row_ok h0 hg]
      exact rowGo_lt most last _ 0 0 v n (by simp) hm hl hg
    · rw [RS.row_err h0 he hg]; exact hp
  · rw [RS.row_stop h0]; exact hp
theorem RS.number_lt (r : RS) : r.number.1 < 9223372036854775808 := by
  have := r.row_lt 9 127 (by omega) (by omega)
  have e : (128 : Nat) ^ 9 = 9223372036854775808 := by decide
  unfold RS.number
  omega
/-- A row of ten, the last of which is at most 1, is a number of 64 digits. -/
theorem rowGo_lt10 : ∀ (l : Bs) (k acc v n : Nat), acc < 128 ^ k → k < 10 → rowGo 10 1 l k acc = (0, v, n) → v < 18446744073709551616 := by
  intro l
  induction l with
  | nil => intro k acc v n _ _ h; simp [rowGo] at h
  | cons b t ih =>
    intro k acc v n ha hk h
    have hn : acc + b.toNat % 128 * 128 ^ k < 128 ^ (k + 1) := by
      have : b.toNat % 128 * 128 ^ k ≤ 127 * 128 ^ k := Nat.mul_le_mul (by omega) (Nat.le_refl _)
      rw [Nat.pow_succ]; omega
    simp only [rowGo] at h
    split at h
    · simp at h
    · rename_i h1
      split at h
      · split at h
        · simp at h
        · simp only [Prod.mk.injEq, true_and] at h
          rcases Nat.lt_or_ge k 9 with h9 | h9
          · have hp : (128 : Nat) ^ (k + 1) ≤ 128 ^ 9 := Nat.pow_le_pow_right (by omega) (by omega)
            have e : (128 : Nat) ^ 9 = 9223372036854775808 := by decide
            omega
          · obtain rfl : k = 9 := by omega
            have e : (128 : Nat) ^ 9 = 9223372036854775808 := by decide
            rw [e] at ha h
            have : b.toNat % 128 ≤ 1 := by omega
            have : b.toNat % 128 * 9223372036854775808 ≤ 1 * 9223372036854775808 := Nat.mul_le_mul this (Nat.le_refl _)
            omega
      · rename_i h2
        exact ih _ _ _ _ hn (by omega) h
theorem RS.row_lt10 (r : RS) : (r.row 10 1).1 < 18446744073709551616 := by
  by_cases h0 : r.e = 0
  · rcases hg : rowGo 10 1 (r.d.drop r.i) 0 0 with ⟨e, v, n⟩
    by_cases he : e = 0
    · subst he
      rw [RS.row_ok h0 hg]
      exact rowGo_lt10 _ 0 0 v n (by simp) (by omega) hg
    · rw [RS.row_err h0 he hg]; show 0 < _; omega
  · rw [RS.row_stop h0]; show 0 < _; omega
theorem rowGo_n (most last : Nat) : ∀ (l : Bs) (k acc v n : Nat), rowGo most last l k acc = (0, v, n) → n ≤ k + l.length := by
  intro l
  induction l with
  | nil => intro k acc v n h; simp [rowGo] at h
  | cons b t ih =>
    intro k acc v n h
    simp only [rowGo] at h
    simp only [List.length_cons]
    split at h
    · simp at h
    · split at h
      · split at h
        · simp at h
        · simp only [Prod.mk.injEq, true_and] at h; omega
      · have := ih _ _ _ _ h; omega
/-- What a row leaves alone, and where it stands behind it. -/
theorem RS.row_keeps (r : RS) (most last : Nat) (hi : r.i ≤ r.d.length) : (r.row most last).2.d = r.d ∧ r.i ≤ (r.row most last).2.i ∧ (r.row most last).2.i ≤ r.d.length ∧ ((r.row most last).2.e ≠ 0 → (r.row most last).2.i = r.i) := by
  by_cases h0 : r.e = 0
  · rcases hg : rowGo most last (r.d.drop r.i) 0 0 with ⟨e, v, n⟩
    by_cases he : e = 0
    · subst he
      rw [RS.row_ok h0 hg]
      have := rowGo_n most last _ 0 0 v n hg
      simp only [List.length_drop] at this
      exact ⟨rfl, by show r.i ≤ r.i + n; omega, by show r.i + n ≤ _; omega, fun h => absurd h0 h⟩
    · rw [RS.row_err h0 he hg]; exact ⟨rfl, Nat.le_refl _, hi, fun _ => rfl⟩
  · rw [RS.row_stop h0]; exact ⟨rfl, Nat.le_refl _, hi, fun _ => rfl⟩
end Go.Proofs.YtbppnihcbcdglaaGreat
/- Plain words: values, instructions, procedures, transactions, batches as data and as bytes. No program here. No condition. -/
namespace Go.Proofs.YtbppnihcbcdglaaGreat

/-- A value. -/
structure V where
  k : Int
  i : Int
  t : Bs
def V.nil : V := ⟨0, 0, []⟩
theorem V.eq_iff (a b : V) : a = b ↔ a.k = b.k ∧ a.i = b.i ∧ a.t = b.t := by cases a; cases b; simp

/-- Why a value is none. -/
def chkV (v : V) : Int :=
  if v.k = 0 then (if v.i = 0 ∧ v.t = [] then 0 else 14)
  else if v.k = 1 then (if v.t = [] then 0 else 14)
  else if v.k = 2 then (if v.i = 0 then (if 256 < v.t.length then 4 else 0) else 14)
  else 14

/-- A value as bytes, if it is one. -/
def layV (v : V) : Bs := UInt8.ofNat v.k.toNat :: (if v.k = 1 then sevens (zig v.i) else if v.k = 2 then text v.t else [])

/-- The value of these bytes, and the error. -/
def decV (b : Bs) : V × Int :=
  let r : RS := ⟨b, 0, 0⟩
  let k := r.byte
  if k.2.e ≠ 0 then (V.nil, k.2.e) else
  if k.1.toNat = 0 then (if k.2.end_ ≠ 0 then (V.nil, k.2.end_) else (⟨0, 0, []⟩, 0)) else
  if k.1.toNat = 1 then (let x := k.2.int; if x.2.end_ ≠ 0 then (V.nil, x.2.end_) else (⟨1, x.1, []⟩, 0)) else
  if k.1.toNat = 2 then (let x := k.2.text 256; if x.2.end_ ≠ 0 then (V.nil, x.2.end_) else (⟨2, 0, x.1⟩, 0)) else
  (V.nil, 3)

/-- An instruction. -/
structure I where
  op : Int
  a : Int
  b : Int
  c : Int
  n : Int
  v : V
def I.nil : I := ⟨0, 0, 0, 0, 0, V.nil⟩

/-- The fields of operations: registers A, B, C; N as an argument's place, a comparison, a bound; A as a number. -/
inductive Fd where
  | ra | rb | rc | arg | how | many | skip

def Fd.get : Fd → I → Int
  | .ra, x => x.a | .rb, x => x.b | .rc, x => x.c | .arg, x => x.n | .how, x => x.n | .many, x => x.n | .skip, x => x.a
def Fd.put : Fd → I → Int → I
  | .ra, x, y => { x with a := y } | .rb, x, y => { x with b := y } | .rc, x, y => { x with c := y }
  | .arg, x, y => { x with n := y } | .how, x, y => { x with n := y } | .many, x, y => { x with n := y } | .skip, x, y => { x with a := y }
/-- May a number stand there? Of a procedure with so many arguments and instructions, at a place. -/
def Fd.may (args : Int) (len place : Nat) : Fd → Int → Bool
  | .ra, y => decide (0 ≤ y) && decide (y < 16) | .rb, y => decide (0 ≤ y) && decide (y < 16) | .rc, y => decide (0 ≤ y) && decide (y < 16)
  | .arg, y => decide (0 ≤ y) && decide (y < args) | .how, y => decide (1 ≤ y) && decide (y ≤ 6) | .many, y => decide (1 ≤ y) && decide (y ≤ 64)
  | .skip, y => decide (1 ≤ y) && decide (y < (len : Int) - (place : Int))
/-- Is it laid as one byte? -/
def Fd.one : Fd → Bool
  | .ra => true | .rb => true | .rc => true | _ => false

/-- The fields of an operation. -/
def fds : Nat → List Fd
  | 1 => [.ra] | 2 => [.ra, .arg] | 3 => [.ra, .rb] | 4 => [.ra, .rb] | 5 => [.ra]
  | 6 => [.ra, .rb, .rc] | 7 => [.ra, .rb, .rc] | 8 => [.ra, .rb, .rc] | 9 => [.ra, .rb, .rc]
  | 10 => [.rb, .rc, .how] | 11 => [.skip, .rb, .rc, .how] | 12 => [.ra, .rb, .rc, .many] | 13 => [.ra, .rb, .rc, .many]
  | 14 => [.ra, .rb] | 15 => [.ra] | _ => []
/-- Has it a value behind them? -/
def hasV (op : Nat) : Bool := op == 1

/-- Are all fields what they may be? -/
def mayAll (args : Int) (len place : Nat) (l : List Fd) (x : I) : Bool := l.all fun f => f.may args len place (f.get x)
/-- An instruction without these fields. -/
def bareI (l : List Fd) (x : I) : I := l.foldl (fun y f => f.put y 0) x

/-- Why an instruction may not stand at a place. -/
def chkI (args : Int) (len place : Nat) (x : I) : Int :=
  if x.op < 1 ∨ 16 < x.op then 16 else
  if mayAll args len place (fds x.op.toNat) x = false then 16 else
  let y := bareI (fds x.op.toNat) { x with op := 0, v := if hasV x.op.toNat then V.nil else x.v }
  if y.a = 0 ∧ y.b = 0 ∧ y.c = 0 ∧ y.n = 0 ∧ y.v.k = 0 ∧ y.v.i = 0 ∧ y.v.t = [] then (if hasV x.op.toNat then chkV x.v else 0) else 16

def letterB (c : UInt8) : Bool := (decide (97 ≤ c.toNat) && decide (c.toNat ≤ 122)) || (decide (65 ≤ c.toNat) && decide (c.toNat ≤ 90))
def nameB (c : UInt8) : Bool := letterB c || (decide (48 ≤ c.toNat) && decide (c.toNat ≤ 57)) || c.toNat == 95 || c.toNat == 45 || c.toNat == 46
/-- Is a text a procedure's name? -/
def okName (s : Bs) : Bool := match s with
  | [] => false
  | c :: _ => decide (s.length ≤ 32) && letterB c && s.all nameB

/-- A procedure. -/
structure P where
  name : Bs
  args : Int
  code : List I
def P.nil : P := ⟨[], 0, []⟩

/-- The first instruction that may not stand where it stands, from a place on: its place, the error. -/
def chkGo (args : Int) (len : Nat) : List I → Nat → Int × Int
  | [], _ => (0, 0)
  | x :: t, i => if chkI args len i x ≠ 0 then ((i : Int), chkI args len i x) else chkGo args len t (i + 1)
/-- Why a procedure is none, and at which instruction. -/
def chkP (p : P) : Int × Int :=
  if okName p.name = false then (-1, 5) else
  if p.args < 0 ∨ 16 < p.args then (-1, 1) else
  if 64 < p.code.length then (-1, 4) else
  chkGo p.args p.code.length p.code 0

def layF (f : Fd) (x : I) : Bs := if f.one then [UInt8.ofNat (f.get x).toNat] else sevens (f.get x).toNat
def layI (x : I) : Bs := UInt8.ofNat x.op.toNat :: ((fds x.op.toNat).flatMap fun f => layF f x) ++ (if hasV x.op.toNat then text (layV x.v) else [])
/-- A procedure as bytes, if it is one. -/
def layP (p : P) : Bs := text p.name ++ sevens p.args.toNat ++ sevens p.code.length ++ p.code.flatMap layI

/-- The fields of an instruction, read: the instruction, the reader, the error. -/
def decF : List Fd → I → RS → I × RS × Int
  | [], x, r => (x, r, 0)
  | f :: t, x, r =>
    if f.one then (let y := r.byte; if y.2.e ≠ 0 then (x, y.2, y.2.e) else decF t (f.put x (y.1.toNat : Int)) y.2)
    else (let y := r.number; if y.2.e ≠ 0 then (x, y.2, y.2.e) else decF t (f.put x (y.1 : Int)) y.2)
/-- An instruction, read. -/
def decI (all : Nat) (r : RS) : I × RS × Int :=
  let y := r.byte
  if y.2.e ≠ 0 then (I.nil, y.2, y.2.e) else
  if y.1.toNat < 1 ∨ 16 < y.1.toNat then (I.nil, y.2, 16) else
  let z := decF (fds y.1.toNat) { I.nil with op := (y.1.toNat : Int) } y.2
  if z.2.2 ≠ 0 then z else
  if hasV y.1.toNat then
    (let s := z.2.1.text (all : Int)
     if s.2.e ≠ 0 then (z.1, s.2, s.2.e) else
     if (decV s.1).2 ≠ 0 then (z.1, s.2, (decV s.1).2) else ({ z.1 with v := (decV s.1).1 }, s.2, 0))
  else z
/-- So many instructions, read behind others. -/
def decIs (all : Nat) : Nat → List I → RS → List I × RS × Int
  | 0, l, r => (l, r, 0)
  | n + 1, l, r => let x := decI all r; if x.2.2 ≠ 0 then (l, x.2.1, x.2.2) else decIs all n (l ++ [x.1]) x.2.1
/-- The procedure of these bytes, and the error. -/
def decP (b : Bs) : P × Int :=
  let r : RS := ⟨b, 0, 0⟩
  let s := r.text 32
  let a := s.2.number
  let n := a.2.number
  if n.2.e ≠ 0 then (P.nil, n.2.e) else
  if 64 < n.1 then (P.nil, 4) else
  let c := decIs b.length n.1 [] n.2
  if c.2.2 ≠ 0 then (P.nil, c.2.2) else
  if c.2.1.end_ ≠ 0 then (P.nil, c.2.1.end_) else
  if (chkP ⟨s.1, (a.1 : Int), c.1⟩).2 ≠ 0 then (P.nil, (chkP ⟨s.1, (a.1 : Int), c.1⟩).2) else (⟨s.1, (a.1 : Int), c.1⟩, 0)

/-- A transaction. -/
structure T where
  kind : Int
  p : P
  name : Bs
  args : List V
def T.nil : T := ⟨0, P.nil, [], []⟩
def bareP (p : P) : Bool := p.name.isEmpty && p.args == 0 && p.code.isEmpty

/-- Why a transaction's own parts are none. -/
def chkT0 (t : T) : Int :=
  if t.kind = 1 then (if t.name ≠ [] ∨ t.args ≠ [] then 3 else (chkP t.p).2)
  else if t.kind = 2 then (if bareP t.p = false then 3 else if okName t.name = false then 5 else if 16 < t.args.length then 4 else 0)
  else if t.kind = 3 then (if t.args ≠ [] ∨ bareP t.p = false then 3 else if okName t.name = false then 5 else 0)
  else 1
/-- The first value that is none. -/
def chkVs : List V → Int
  | [] => 0
  | v :: t => if chkV v ≠ 0 then chkV v else chkVs t
def chkT (t : T) : Int := if chkT0 t ≠ 0 then chkT0 t else chkVs t.args
def chkTs : List T → Int
  | [] => 0
  | t :: l => if chkT t ≠ 0 then chkT t else chkTs l

/-- A batch. -/
structure Bt where
  first : Int
  txns : List T
def Bt.nil : Bt := ⟨0, []⟩
/-- Why a batch is none. -/
def chkB (b : Bt) : Int :=
  if b.first < 1 ∨ 281474976710655 < b.first ∨ b.txns = [] ∨ 64 < b.txns.length then 1 else
  if 281474976710655 < b.first + b.txns.length - 1 then 23 else chkTs b.txns

def layT (t : T) : Bs := UInt8.ofNat t.kind.toNat :: (if t.kind = 1 then text (layP t.p) else if t.kind = 3 then text t.name else text t.name ++ sevens t.args.length ++ t.args.flatMap fun v => text (layV v))
/-- A batch as bytes, if it is one. -/
def layB (b : Bt) : Bs := sevens b.first.toNat ++ sevens b.txns.length ++ b.txns.flatMap layT

/-- So many values, read behind others. -/
def decVs (all : Nat) : Nat → List V → RS → List V × RS × Int
  | 0, l, r => (l, r, 0)
  | n + 1, l, r =>
    let s := r.text (all : Int)
    if s.2.e ≠ 0 then (l, s.2, s.2.e) else
    if (decV s.1).2 ≠ 0 then (l, s.2, (decV s.1).2) else decVs all n (l ++ [(decV s.1).1]) s.2
/-- A transaction, read. -/
def decT (all : Nat) (r : RS) : T × RS × Int :=
  let y := r.byte
  if y.2.e ≠ 0 then (T.nil, y.2, y.2.e) else
  if y.1.toNat = 1 then
    (let s := y.2.text (all : Int)
     if s.2.e ≠ 0 then (T.nil, s.2, s.2.e) else
     if (decP s.1).2 ≠ 0 then (T.nil, s.2, (decP s.1).2) else (⟨1, (decP s.1).1, [], []⟩, s.2, 0)) else
  if y.1.toNat = 3 then
    (let s := y.2.text 32
     if s.2.e ≠ 0 then (T.nil, s.2, s.2.e) else (⟨3, P.nil, s.1, []⟩, s.2, 0)) else
  if y.1.toNat = 2 then
    (let s := y.2.text 32
     let n := s.2.number
     if n.2.e ≠ 0 then (T.nil, n.2, n.2.e) else
     if 16 < n.1 then (T.nil, n.2, 4) else
     let l := decVs all n.1 [] n.2
     if l.2.2 ≠ 0 then (T.nil, l.2.1, l.2.2) else (⟨2, P.nil, s.1, l.1⟩, l.2.1, 0)) else
  (T.nil, y.2, 1)
def decTs (all : Nat) : Nat → List T → RS → List T × RS × Int
  | 0, l, r => (l, r, 0)
  | n + 1, l, r => let x := decT all r; if x.2.2 ≠ 0 then (l, x.2.1, x.2.2) else decTs all n (l ++ [x.1]) x.2.1
/-- The batch of these bytes, and the error. -/
def decB (b : Bs) : Bt × Int :=
  if 65536 < b.length then (Bt.nil, 4) else
  let r : RS := ⟨b, 0, 0⟩
  let f := r.number
  let n := f.2.number
  if n.2.e ≠ 0 then (Bt.nil, n.2.e) else
  if 64 < n.1 then (Bt.nil, 1) else
  let l := decTs b.length n.1 [] n.2
  if l.2.2 ≠ 0 then (Bt.nil, l.2.2) else
  if l.2.1.end_ ≠ 0 then (Bt.nil, l.2.1.end_) else
  if chkB ⟨(f.1 : Int), l.1⟩ ≠ 0 then (Bt.nil, chkB ⟨(f.1 : Int), l.1⟩) else (⟨(f.1 : Int), l.1⟩, 0)
end Go.Proofs.YtbppnihcbcdglaaGreat
/- Plain words: sums of bytes (crc). No program here. No condition. -/
namespace Go.Proofs.YtbppnihcbcdglaaGreat

def poly : Nat := 2197175160
def st1 (s : Nat) : Nat := if s % 2 = 1 then s / 2 ^^^ poly else s / 2
def st4 (s : Nat) : Nat := st1 (st1 (st1 (st1 s)))
def st8 (s : Nat) : Nat := st4 (st4 s)
def crcGo (s : Nat) (p : Bs) : Nat := p.foldl (fun s b => st8 (s ^^^ b.toNat)) s
def crcUp (sum : Nat) (p : Bs) : Nat := crcGo (sum ^^^ 4294967295) p ^^^ 4294967295

theorem poly_lt : poly < 4294967296 := by decide
theorem st1_lt {s : Nat} (h : s < 4294967296) : st1 s < 4294967296 := by
  unfold st1
  split
  · exact Nat.xor_lt_two_pow (n := 32) (by omega) poly_lt
  · omega
theorem st4_lt {s : Nat} (h : s < 4294967296) : st4 s < 4294967296 := st1_lt (st1_lt (st1_lt (st1_lt h)))
theorem st8_lt {s : Nat} (h : s < 4294967296) : st8 s < 4294967296 := st4_lt (st4_lt h)
theorem xor_byte_lt {s : Nat} (h : s < 4294967296) (b : UInt8) : s ^^^ b.toNat < 4294967296 := Nat.xor_lt_two_pow (n := 32) h (by have := b.toNat_lt; omega)
theorem crcGo_lt (p : Bs) : ∀ {s : Nat}, s < 4294967296 → crcGo s p < 4294967296 := by
  induction p with
  | nil => intro s h; exact h
  | cons b t ih => intro s h; exact ih (st8_lt (xor_byte_lt h b))
theorem crcUp_lt {s : Nat} (h : s < 4294967296) (p : Bs) : crcUp s p < 4294967296 :=
  Nat.xor_lt_two_pow (n := 32) (crcGo_lt p (Nat.xor_lt_two_pow (n := 32) h (by decide))) (by decide)
theorem crcGo_snoc (s : Nat) (p : Bs) (b : UInt8) : crcGo s (p ++ [b]) = st8 (crcGo s p ^^^ b.toNat) := by simp [crcGo]

theorem xor_half (a b : Nat) : (a ^^^ b) / 2 = a / 2 ^^^ b / 2 := by
  have := Nat.shiftRight_xor_distrib (a := a) (b := b) (i := 1)
  simpa [Nat.shiftRight_eq_div_pow] using this
theorem xor_odd (a b : Nat) : (a ^^^ b) % 2 = (a % 2 + b % 2) % 2 := by
  have h := Nat.xor_mod_two_pow (a := a) (b := b) (n := 1)
  rw [show (2 : Nat) ^ 1 = 2 from rfl] at h
  rw [h]
  rcases Nat.mod_two_eq_zero_or_one a with ha | ha <;> rcases Nat.mod_two_eq_zero_or_one b with hb | hb <;> simp [ha, hb]
theorem st1_xor (a b : Nat) : st1 (a ^^^ b) = st1 a ^^^ st1 b := by
  unfold st1
  rw [xor_half, xor_odd]
  rcases Nat.mod_two_eq_zero_or_one a with ha | ha <;> rcases Nat.mod_two_eq_zero_or_one b with hb | hb <;> simp only [ha, hb] <;> simp
  · exact Nat.xor_assoc _ _ _
  · rw [Nat.xor_assoc, Nat.xor_assoc, Nat.xor_comm (b / 2)]
  · rw [Nat.xor_assoc, Nat.xor_comm (b / 2), ← Nat.xor_assoc poly, Nat.xor_self, Nat.zero_xor]
theorem st4_xor (a b : Nat) : st4 (a ^^^ b) = st4 a ^^^ st4 b := by simp only [st4, st1_xor]
theorem st1_even (m : Nat) : st1 (2 * m) = m := by unfold st1; rw [if_neg (by omega)]; omega
theorem st4_16 (q : Nat) : st4 (16 * q) = q := by
  unfold st4
  rw [show 16 * q = 2 * (2 * (2 * (2 * q))) by omega, st1_even, st1_even, st1_even, st1_even]
theorem low_high (s : Nat) : s = (s % 16) ^^^ (16 * (s / 16)) := by
  have h := Nat.two_pow_add_eq_or_of_lt (i := 4) (b := s % 16) (by omega) (s / 16)
  have e : (2 : Nat) ^ 4 = 16 := by decide
  rw [e] at h
  have hx : (s % 16) ^^^ (16 * (s / 16)) = (s % 16) ||| (16 * (s / 16)) := by
    apply Nat.eq_of_testBit_eq
    intro i
    rw [Nat.testBit_xor, Nat.testBit_or]
    by_cases hi : i < 4
    · have : (16 * (s / 16)).testBit i = false := by
        rw [show 16 * (s / 16) = 2 ^ 4 * (s / 16) by rw [e], Nat.testBit_two_pow_mul]
        simp; omega
      simp [this]
    · have : (s % 16).testBit i = false := Nat.testBit_lt_two_pow (Nat.lt_of_lt_of_le (show s % 16 < 2 ^ 4 by omega) (Nat.pow_le_pow_right (by omega) (by omega)))
      simp [this]
  rw [hx, Nat.or_comm, ← h]
  omega
/-- Four steps by a table of the low four digits. -/
theorem st4_table (s : Nat) : st4 s = st4 (s % 16) ^^^ s / 16 := by
  conv => lhs; rw [low_high s]
  rw [st4_xor, st4_16]
end Go.Proofs.YtbppnihcbcdglaaGreat
/- Plain words: frames. No program here. No condition. -/
namespace Go.Proofs.YtbppnihcbcdglaaGreat

def low4 (n : Nat) : Bs := [UInt8.ofNat (n % 256), UInt8.ofNat (n / 256 % 256), UInt8.ofNat (n / 65536 % 256), UInt8.ofNat (n / 16777216 % 256)]
def num4 (l : Bs) : Nat := match l with
  | a :: b :: c :: d :: _ => a.toNat + 256 * b.toNat + 65536 * c.toNat + 16777216 * d.toNat
  | _ => 0
def sumOf (h body : Bs) : Nat := crcUp (crcUp 0 h) body
def sealB (body : Bs) : Bs := low4 body.length ++ low4 (sumOf (low4 body.length) body) ++ body

/-- The frame at a place: its body, the place behind it, the error. -/
def nextF (b : Bs) (i : Nat) : Bs × Nat × Int :=
  if b.length < i then ([], 0, 1) else
  if i = b.length then ([], 0, 12) else
  if b.length - i < 8 then ([], 0, 13) else
  if num4 (b.drop i) < 1 ∨ 65536 < num4 (b.drop i) ∨ b.length - i - 8 < num4 (b.drop i) then ([], 0, 13) else
  if sumOf ((b.drop i).take 4) ((b.drop (i + 8)).take (num4 (b.drop i))) ≠ num4 (b.drop (i + 4)) then ([], 0, 13) else
  ((b.drop (i + 8)).take (num4 (b.drop i)), i + 8 + num4 (b.drop i), 0)

theorem low4_len (n : Nat) : (low4 n).length = 4 := rfl
theorem num4_low4 {n : Nat} (h : n < 4294967296) (r : Bs) : num4 (low4 n ++ r) = n := by
  simp only [low4, num4, List.cons_append, List.nil_append, UInt8.toNat_ofNat']
  omega
theorem num4_lt (l : Bs) : num4 l < 4294967296 := by
  unfold num4
  split
  · rename_i a b c d _
    have := a.toNat_lt; have := b.toNat_lt; have := c.toNat_lt; have := d.toNat_lt
    omega
  · omega
theorem num4_drop {b : Bs} {i : Nat} (h : i + 4 ≤ b.length) : num4 (b.drop i) = b[i].toNat + 256 * b[i + 1].toNat + 65536 * b[i + 2].toNat + 16777216 * b[i + 3].toNat := by
  rw [List.drop_eq_getElem_cons (by omega), List.drop_eq_getElem_cons (by omega), List.drop_eq_getElem_cons (by omega), List.drop_eq_getElem_cons (by omega)]
  rfl
theorem sumOf_lt (h body : Bs) : sumOf h body < 4294967296 := crcUp_lt (crcUp_lt (by omega) _) _
theorem sealB_len (body : Bs) : (sealB body).length = 8 + body.length := by simp [sealB, low4_len]; omega

/-- What a frame lays is read again. -/
theorem nextF_seal (pre body rest : Bs) (h1 : 1 ≤ body.length) (h2 : body.length ≤ 65536) :
    nextF (pre ++ sealB body ++ rest) pre.length = (body, pre.length + 8 + body.length, 0) := by
  have hd : (pre ++ sealB body ++ rest).drop pre.length = sealB body ++ rest := by rw [List.append_assoc]; exact List.drop_left
  have hd4 : (pre ++ sealB body ++ rest).drop (pre.length + 4) = low4 (sumOf (low4 body.length) body) ++ (body ++ rest) := by
    rw [← List.drop_drop, hd, sealB, List.append_assoc, List.append_assoc]
    exact List.drop_left' (low4_len _)
  have hd8 : (pre ++ sealB body ++ rest).drop (pre.length + 8) = body ++ rest := by
    rw [show pre.length + 8 = pre.length + 4 + 4 by omega, ← List.drop_drop, hd4]
    exact List.drop_left' (low4_len _)
  have hn : num4 ((pre ++ sealB body ++ rest).drop pre.length) = body.length := by
    rw [hd, sealB, List.append_assoc, List.append_assoc]; exact num4_low4 (by omega) _
  have ht : ((pre ++ sealB body ++ rest).drop pre.length).take 4 = low4 body.length := by
    rw [hd, sealB, List.append_assoc, List.append_assoc]; exact List.take_left' (low4_len _)
  have hb : ((pre ++ sealB body ++ rest).drop (pre.length + 8)).take body.length = body := by rw [hd8]; exact List.take_left
  have hs : num4 ((pre ++ sealB body ++ rest).drop (pre.length + 4)) = sumOf (low4 body.length) body := by rw [hd4]; exact num4_low4 (sumOf_lt _ _) _
  have hl : (pre ++ sealB body ++ rest).length = pre.length + 8 + body.length + rest.length := by simp [sealB_len]; omega
  unfold nextF
  rw [hn, ht, hb, hs, hl, if_neg (by omega), if_neg (by omega), if_neg (by omega), if_neg (by omega), if_neg (by simp)]
theorem nextF_end (b : Bs) : nextF b b.length = ([], 0, 12) := by unfold nextF; rw [if_neg (by omega), if_pos rfl]
/-- A frame that is whole lies in the bytes and is not empty. -/
theorem nextF_ok {b body : Bs} {i j : Nat} (h : nextF b i = (body, j, 0)) : i + 8 + body.length = j ∧ j ≤ b.length ∧ 1 ≤ body.length ∧ body.length ≤ 65536 ∧ body = (b.drop (i + 8)).take body.length := by
  unfold nextF at h
  split at h
  · simp at h
  split at h
  · simp at h
  split at h
  · simp at h
  split at h
  · simp at h
  split at h
  · simp at h
  · rename_i h1 h2 h3 h4 h5
    simp only [Prod.mk.injEq] at h
    obtain ⟨rfl, rfl, -⟩ := h
    have hl : ((b.drop (i + 8)).take (num4 (b.drop i))).length = num4 (b.drop i) := by simp; omega
    rw [hl]
    refine ⟨rfl, by omega, by omega, by omega, rfl⟩
end Go.Proofs.YtbppnihcbcdglaaGreat
/- Plain words: names of files, manifests, checkpoints, segments as bytes. No program here. No condition. -/
namespace Go.Proofs.YtbppnihcbcdglaaGreat

/-- The twelve digits of a number. -/
def hexD (n : Nat) : UInt8 := if n < 10 then UInt8.ofNat (48 + n) else UInt8.ofNat (87 + n)
def hex12 (n : Nat) : Bs := (List.range 12).map fun i => hexD (n / 16 ^ (11 - i) % 16)
/-- A file's name: 'log-' or 'ckpt-' ahead of the digits. -/
def nameOf (head : Bs) (n : Int) : Bs := if n < 1 ∨ 281474976710655 < n then [] else head ++ hex12 n.toNat
def hexV (c : UInt8) : Option Nat := if 48 ≤ c.toNat ∧ c.toNat ≤ 57 then some (c.toNat - 48) else if 97 ≤ c.toNat ∧ c.toNat ≤ 102 then some (c.toNat - 87) else none
def hexGo : Bs → Nat → Option Nat
  | [], v => some v
  | c :: t, v => match hexV c with
    | none => none
    | some k => hexGo t (v * 16 + k)
/-- The number that a name says, and whether it says one. -/
def numOfName (head s : Bs) : Int × Bool :=
  if head.isPrefixOf s = false then (0, false) else
  if (s.drop head.length).length ≠ 12 then (0, false) else
  match hexGo (s.drop head.length) 0 with
  | none => (0, false)
  | some v => ((v : Int), nameOf head (v : Int) == s)
def logH : Bs := [108, 111, 103, 45]
def ckptH : Bs := [99, 107, 112, 116, 45]
def manN : Bs := [109, 97, 110, 105, 102, 101, 115, 116]
def manW : Bs := [109, 97, 110, 105, 102, 101, 115, 116, 46, 110, 101, 119]

/-- A manifest. -/
structure Mf where
  number : Int
  file : Int
  mark : Int
  prev : Int
  pmark : Int
def Mf.nil : Mf := ⟨0, 0, 0, 0, 0⟩
def mayM (m : Mf) : Bool :=
  decide (1 ≤ m.number) && decide (m.number ≤ 281474976710655) && decide (1 ≤ m.file) && decide (m.file ≤ 281474976710655) && decide (0 ≤ m.mark) && decide (m.mark ≤ 281474976710655) && decide (0 ≤ m.prev) && decide (m.prev < m.file) && decide (0 ≤ m.pmark) &&
    (decide (0 < m.prev) && decide (m.pmark < m.mark) || m.prev == 0 && m.pmark == 0)
/-- The manifest of these bytes, and the error. -/
def decM (b : Bs) : Mf × Int :=
  let f := nextF b 0
  if f.2.2 ≠ 0 then (Mf.nil, f.2.2) else
  if f.2.1 < b.length then (Mf.nil, 3) else
  let s := (⟨f.1, 0, 0⟩ : RS).text 8
  if s.2.e ≠ 0 then (Mf.nil, s.2.e) else
  if s.1 ≠ manN then (Mf.nil, 3) else
  let a := s.2.number
  let b1 := a.2.number
  let c := b1.2.number
  let d := c.2.number
  let e := d.2.number
  if e.2.e ≠ 0 then (Mf.nil, e.2.e) else
  if e.2.end_ ≠ 0 then (Mf.nil, e.2.end_) else
  if mayM ⟨a.1, b1.1, c.1, d.1, e.1⟩ then (⟨a.1, b1.1, c.1, d.1, e.1⟩, 0) else (Mf.nil, 3)

/-- An entry. -/
structure En where
  key : Bs
  v : V
/-- A checkpoint. -/
structure Im where
  number : Int
  mark : Int
  procs : List P
  entries : List En
def Im.nil : Im := ⟨0, 0, [], []⟩
/-- A checkpoint that is read. -/
structure PS where
  im : Im
  frames : Nat
  name : Bs
  key : Bs
  over : Bool
def PS.nil : PS := ⟨Im.nil, 0, [], [], false⟩
def okKey (s : Bs) : Bool := decide (0 < s.length) && decide (s.length ≤ 64)

def pgHead (s : PS) (r : RS) : Option (PS × RS) :=
  let a := r.number
  let b := a.2.number
  if s.frames = 0 ∧ 1 ≤ a.1 ∧ a.1 ≤ 281474976710655 ∧ b.1 ≤ 281474976710655 then some ({ s with im := { s.im with number := (a.1 : Int), mark := (b.1 : Int) } }, b.2) else none
def pgProc (s : PS) (all : Nat) (r : RS) : Option (PS × RS) :=
  let x := r.text (all : Int)
  let p := decP x.1
  if 0 < s.frames ∧ p.2 = 0 ∧ s.im.entries = [] ∧ s.name < p.1.name then some ({ s with name := p.1.name, im := { s.im with procs := s.im.procs ++ [p.1] } }, x.2) else none
def pgEntries (all : Nat) : Nat → PS → RS → Option (PS × RS)
  | 0, s, r => some (s, r)
  | n + 1, s, r =>
    let k := r.text (all : Int)
    let y := k.2.text (all : Int)
    let v := decV y.1
    if v.2 = 0 ∧ okKey k.1 = true ∧ s.key < k.1 ∧ v.1.k ≠ 0 then pgEntries all n { s with key := k.1, im := { s.im with entries := s.im.entries ++ [⟨k.1, v.1⟩] } } y.2 else none
def pgPage (s : PS) (all : Nat) (r : RS) : Option (PS × RS) :=
  let n := r.number
  if 0 < s.frames ∧ 1 ≤ n.1 ∧ n.1 ≤ 128 then pgEntries all n.1 s n.2 else none
def pgEnd (s : PS) (r : RS) : Option (PS × RS) :=
  let n := r.number
  let m := n.2.number
  if 0 < s.frames ∧ n.1 = s.im.procs.length ∧ m.1 = s.im.entries.length then some ({ s with over := true }, m.2) else none
/-- One frame of a checkpoint, read. -/
def pgFrame (body : Bs) (s : PS) : Option PS :=
  let k := (⟨body, 0, 0⟩ : RS).byte
  if k.1.toNat < 1 ∨ 4 < k.1.toNat then none else
  let n := k.2.number
  if n.1 ≠ s.frames then none else
  match (if k.1.toNat = 1 then pgHead s n.2 else if k.1.toNat = 2 then pgProc s body.length n.2 else if k.1.toNat = 3 then pgPage s body.length n.2 else pgEnd s n.2) with
  | none => none
  | some x => if x.2.end_ = 0 then some { x.1 with frames := x.1.frames + 1 } else none
/-- The checkpoint of these bytes, and the error, from a frame on. -/
def pgGo (b : Bs) : Nat → Nat → PS → Im × Int
  | 0, _, _ => (Im.nil, 3)
  | k + 1, i, s =>
    if s.over then (if i = b.length then (s.im, 0) else (Im.nil, 3)) else
    let f := nextF b i
    if f.2.2 = 12 then (Im.nil, 2) else
    if f.2.2 ≠ 0 then (Im.nil, 13) else
    match pgFrame f.1 s with
    | none => (Im.nil, 3)
    | some s' => pgGo b k f.2.1 s'
def decG (b : Bs) : Im × Int := pgGo b (b.length + 2) 0 PS.nil

/-- The batches of a segment, each with the place behind it, from a place on. -/
def scanGo (b : Bs) : Nat → Nat → Int → List (Bt × Nat)
  | 0, _, _ => []
  | k + 1, i, next =>
    let f := nextF b i
    if f.2.2 ≠ 0 then [] else
    let x := decB f.1
    if x.2 ≠ 0 ∨ x.1.first ≠ next then [] else (x.1, f.2.1) :: scanGo b k f.2.1 (next + x.1.txns.length)
def scan (b : Bs) (first : Int) : List (Bt × Nat) := scanGo b (b.length + 1) 0 first
end Go.Proofs.YtbppnihcbcdglaaGreat
/- Plain words: a segment gone through frame by frame. No program here. No condition. -/
namespace Go.Proofs.YtbppnihcbcdglaaGreat

/-- The frames from a place on. -/
def frames (b : Bs) : Nat → Nat → List (Nat × Bs)
  | 0, _ => []
  | k + 1, i => if (nextF b i).2.2 ≠ 0 then [] else (i, (nextF b i).1) :: frames b k (nextF b i).2.1
theorem frames_more (b : Bs) : ∀ (k m i : Nat), b.length - i < k → b.length - i < m → frames b k i = frames b m i
  | 0, _, _, h, _ => by omega
  | _, 0, _, _, h => by omega
  | k + 1, m + 1, i, h1, h2 => by
    simp only [frames]
    by_cases he : (nextF b i).2.2 = 0
    · rw [if_neg (by simp [he]), if_neg (by simp [he])]
      have hok := nextF_ok (b := b) (body := (nextF b i).1) (i := i) (j := (nextF b i).2.1) (by rw [← he])
      congr 1
      exact frames_more b k m _ (by omega) (by omega)
    · rw [if_pos he, if_pos he]

/-- What is handed on of a row of frames. -/
def scanL : List (Nat × Bs) → Int → List (Bt × Nat)
  | [], _ => []
  | f :: l, nx => if (decB f.2).2 ≠ 0 ∨ (decB f.2).1.first ≠ nx then [] else ((decB f.2).1, f.1 + 8 + f.2.length) :: scanL l (nx + (decB f.2).1.txns.length)
/-- The number behind them, if all are gone through. -/
def nextL : List (Nat × Bs) → Int → Option Int
  | [], nx => some nx
  | f :: l, nx => if (decB f.2).2 ≠ 0 ∨ (decB f.2).1.first ≠ nx then none else nextL l (nx + (decB f.2).1.txns.length)
theorem scanL_append {l l' : List (Nat × Bs)} : ∀ {nx m : Int}, nextL l nx = some m → scanL (l ++ l') nx = scanL l nx ++ scanL l' m := by
  induction l with
  | nil => intro nx m h; cases h; rfl
  | cons f l ih =>
    intro nx m h
    simp only [nextL] at h
    by_cases hc : (decB f.2).2 ≠ 0 ∨ (decB f.2).1.first ≠ nx
    · rw [if_pos hc] at h; cases h
    · rw [if_neg hc] at h
      simp only [List.cons_append, scanL, if_neg hc, List.cons.injEq, true_and]
      exact ih h
theorem nextL_append {l l' : List (Nat × Bs)} : ∀ {nx m : Int}, nextL l nx = some m → nextL (l ++ l') nx = nextL l' m := by
  induction l with
  | nil => intro nx m h; cases h; rfl
  | cons f l ih =>
    intro nx m h
    simp only [nextL] at h
    by_cases hc : (decB f.2).2 ≠ 0 ∨ (decB f.2).1.first ≠ nx
    · rw [if_pos hc] at h; cases h
    · rw [if_neg hc] at h
      simp only [List.cons_append, nextL, if_neg hc]
      exact ih h
theorem scanL_frames (b : Bs) : ∀ (k i : Nat) (nx : Int), scanL (frames b k i) nx = scanGo b k i nx
  | 0, _, _ => rfl
  | k + 1, i, nx => by
    simp only [frames, scanGo]
    by_cases he : (nextF b i).2.2 = 0
    · rw [if_neg (by simp [he]), if_neg (by simp [he])]
      have hok := nextF_ok (b := b) (body := (nextF b i).1) (i := i) (j := (nextF b i).2.1) (by rw [← he])
      simp only [scanL]
      split
      · rfl
      · rw [scanL_frames b k, hok.1]
    · rw [if_pos he, if_pos he]; rfl
theorem scanL_scan (b : Bs) (first : Int) : scanL (frames b (b.length + 1) 0) first = scan b first := scanL_frames b _ _ _

theorem chkB_ok {x : Bt} (h : chkB x = 0) : 1 ≤ x.first ∧ x.first ≤ 281474976710655 ∧ 1 ≤ x.txns.length ∧ x.txns.length ≤ 64 ∧ x.first + x.txns.length - 1 ≤ 281474976710655 := by
  unfold chkB at h
  split at h
  · cases h
  · rename_i h1
    split at h
    · cases h
    · rename_i h2
      simp only [not_or] at h1
      obtain ⟨a, b, c, d⟩ := h1
      have : x.txns.length ≠ 0 := fun e => c (List.length_eq_zero_iff.1 e)
      omega
theorem decB_ok {b : Bs} {x : Bt} (h : decB b = (x, 0)) : chkB x = 0 ∧ b.length ≤ 65536 := by
  unfold decB at h
  dsimp only at h
  split at h
  · cases h
  rename_i h0
  split at h
  · rename_i h1; exact absurd (congrArg Prod.snd h) h1
  split at h
  · cases h
  split at h
  · rename_i h1; exact absurd (congrArg Prod.snd h) h1
  split at h
  · rename_i h1; exact absurd (congrArg Prod.snd h) h1
  split at h
  · rename_i h1; exact absurd (congrArg Prod.snd h) h1
  · rename_i h1
    have h2 := (congrArg Prod.fst h).symm
    dsimp only at h2
    subst h2
    exact ⟨by simpa using h1, by omega⟩
end Go.Proofs.YtbppnihcbcdglaaGreat
namespace Go.Proofs.YtbppnihcbcdglaaGreat

/-- Files: names and bytes. -/
abbrev Fs := List (Bs × Bs)
def getF : Fs → Bs → Option Bs
  | [], _ => none
  | x :: t, k => if x.1 = k then some x.2 else getF t k
/-- A directory that is looked at. -/
structure AS where
  needed : List Bs
  has : Bool
  man : Mf
  segs : List (Int × Int)
  torn : Int
  base : Int
  last : Int
def AS.nil : AS := ⟨[], false, Mf.nil, [], 0, 0, 0⟩
def AS.need (s : AS) (n : Bs) : AS := { s with needed := s.needed ++ [n] }

def aMan (fs : Fs) (s : AS) : AS × Bool :=
  match getF fs manN with
  | none => (s, true)
  | some d => if (decM d).2 = 0 then ({ s.need manN with has := true, man := (decM d).1 }, true) else (s.need manN, false)
def fitsG (d : Bs) (number mark : Int) : Bool := (decG d).2 == 0 && (decG d).1.number == number && (decG d).1.mark == mark
def aFits (fs : Fs) (s : AS) (number mark : Int) : AS × Bool :=
  match getF fs (nameOf ckptH number) with
  | none => (s, false)
  | some d => (s.need (nameOf ckptH number), fitsG d number mark)
def aPrev (firsts : List Int) (m : Mf) : Bool := decide (0 < m.prev) && decide (0 < firsts.length) && decide (firsts.getD 0 0 ≤ m.pmark + 1)
def aCkpt (fs : Fs) (firsts : List Int) (s : AS) : AS × Bool :=
  if s.has = false then (s, true) else
  let x := aFits fs s s.man.file s.man.mark
  if x.2 then ({ x.1 with base := s.man.mark }, true) else
  if aPrev firsts s.man then
    let y := aFits fs x.1 s.man.prev s.man.pmark
    if y.2 then ({ y.1 with base := s.man.pmark }, true) else (y.1, false)
  else (x.1, false)
/-- One batch of a segment: the last number, the place behind it, whether one lies across the base. -/
def segStep (base : Int) (a : Int × Nat × Bool) (x : Bt × Nat) : Int × Nat × Bool :=
  (x.1.first + x.1.txns.length - 1, x.2, a.2.2 || (decide (x.1.first ≤ base) && decide (base < x.1.first + x.1.txns.length - 1)))
def segGo (base : Int) (l : List (Bt × Nat)) (a : Int × Nat × Bool) : Int × Nat × Bool := l.foldl (segStep base) a
def datF (fs : Fs) (f : Int) : Bs := (getF fs (nameOf logH f)).getD []
def aSeg (fs : Fs) (firsts : List Int) (i : Nat) (first : Bool) (s : AS) : AS × Bool :=
  let f := firsts.getD i 0
  let s1 := s.need (nameOf logH f)
  if first || f == s.last + 1 then
    let d := datF fs f
    let r := segGo s.base (scan d f) (s.last, 0, false)
    ({ s1 with last := r.1, segs := s1.segs.set i (f, (r.2.1 : Int)), torn := (d.length : Int) - r.2.1 }, !r.2.2 && (d.length == r.2.1 || i + 1 == firsts.length))
  else (s1, false)
def aSegs (fs : Fs) (firsts : List Int) : Nat → Nat → Bool → AS → AS × Bool
  | 0, _, _, s => (s, true)
  | k + 1, i, first, s => let r := aSeg fs firsts i first s; if r.2 then aSegs fs firsts k (i + 1) false r.1 else r
def fromStep (base : Int) (r : Int) (x : Int × Nat) : Int := if x.1 ≤ base + 1 then x.2 else r
def fromGo (base : Int) (firsts : List Int) : Int := firsts.zipIdx.foldl (fromStep base) (-1)
def aLog (fs : Fs) (firsts : List Int) (s : AS) : AS × Bool :=
  if firsts.length = 0 then ({ s with last := s.base }, true) else
  let k := fromGo s.base firsts
  if k < 0 then ({ s with last := s.base, segs := firsts.map fun f => (f, 0) }, false) else
  let r := aSegs fs firsts (firsts.length - k.toNat) k.toNat true { s with last := firsts.getD k.toNat 0 - 1, segs := firsts.map fun f => (f, 0) }
  if r.2 then (r.1, decide (r.1.base ≤ r.1.last)) else r
def aAll (fs : Fs) (firsts : List Int) : AS × Bool :=
  let a := aMan fs AS.nil
  if a.2 then
    let b := aCkpt fs firsts a.1
    if b.2 then aLog fs firsts b.1 else b
  else a
def leI (x y : Int) : Bool := decide (x ≤ y)
def leN (x y : Bs) : Bool := decide (x ≤ y)
def firstOf (n : Bs) : Option Int := if (numOfName logH n).2 then some (numOfName logH n).1 else none
def rawFirsts (fs : Fs) : List Int := fs.filterMap fun x => firstOf x.1
def firstsOf (fs : Fs) : List Int := (rawFirsts fs).mergeSort leI
def ownB (s : Bs) : Bool := (numOfName ckptH s).2 || (numOfName logH s).2 || s == manN || s == manW
/-- A report. -/
structure Rp where
  err : Int
  base : Int
  last : Int
  rep : Int
  torn : Int
  has : Bool
  man : Mf
  segs : List (Int × Int)
  needed : List Bs
  left : List Bs
  others : List Bs
def Rp.arg : Rp := ⟨1, 0, 0, 0, 0, false, Mf.nil, [], [], [], []⟩
def sortN (fs : Fs) : List Bs := (fs.map Prod.fst).mergeSort leN
def leftOf (need ns : List Bs) : List Bs := ns.filter fun n => !need.contains n && ownB n
def othersOf (need ns : List Bs) : List Bs := ns.filter fun n => !need.contains n && !ownB n
def repOf (fs : Fs) (r : AS × Bool) : Rp :=
  if r.2 then ⟨0, r.1.base, r.1.last, r.1.last - r.1.base, r.1.torn, r.1.has, r.1.man, r.1.segs, r.1.needed, leftOf r.1.needed (sortN fs), othersOf r.1.needed (sortN fs)⟩
  else ⟨20, 0, 0, 0, 0, r.1.has, r.1.man, [], r.1.needed, leftOf r.1.needed (sortN fs), othersOf r.1.needed (sortN fs)⟩
def lookF (fs : Fs) : Rp := if (fs.map Prod.fst).Nodup then repOf fs (aAll fs (firstsOf fs)) else Rp.arg
end Go.Proofs.YtbppnihcbcdglaaGreat
