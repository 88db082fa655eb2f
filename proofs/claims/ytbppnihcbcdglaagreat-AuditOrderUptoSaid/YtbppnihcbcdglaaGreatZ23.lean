/- A region that draws its order, in a function that defers, where a call may panic: an operation that yields in whatever world may be taken first. No condition. -/
import Derived.Test.YtbppnihcbcdglaaGreatZ19
import Derived.Test.YtbppnihcbcdglaaGreatZ22
/- batch: a transaction is read: what gives up, what the walk holds. No condition. -/
namespace Go.Proofs.YtbppnihcbcdglaaGreat
open Go.RowKit
set_option linter.unusedVariables false
set_option linter.unusedSimpArgs false

def brefV (e : Int) : Value := .iface 212 (.agg #[.int .i64 e])
def brefE (e : Int) : Ending := .panicked [{ v := brefV e, recovered := false }]
theorem unless_ok (w : World) (e : Int) : Calls Tryz.prog 124 #[.bool true, .int .i64 e] w fun e' w' => e' = .returned (.tuple #[]) ∧ w = w' := by
  go_enter Tryz.func124, Tryz.ntmps124
  (repeat' ((fail_if_success at_builtin); first | go_values | go_skip | go_guarded | go_step | go_upon | go_back))
  refine bodyPost_end (results_none rfl _ _ _) rfl ⟨rfl, rfl⟩
theorem unless_no (w : World) (e : Int) : Calls Tryz.prog 124 #[.bool false, .int .i64 e] w fun e' w' => e' = .panicked [{ v := brefV e, recovered := false }] ∧ w = w' := by
  go_enter Tryz.func124, Tryz.ntmps124
  (repeat' ((fail_if_success at_builtin); first | go_values | go_skip | go_guarded | go_step | go_upon | go_back))
  exact ⟨rfl, rfl, rfl⟩
theorem bsure_ok (w : World) (b : Nat) (r : RS) (h : Rd w b r) (h0 : r.e = 0) : Calls Tryz.prog 123 #[.pointer (some ⟨b, 0, none⟩)] w fun e' w' => e' = .returned (.tuple #[]) ∧ Below w.heap.size w w' := by
  go_enter Tryz.func123, Tryz.ntmps123
  (repeat' ((fail_if_success at_builtin); first | go_values | go_skip | go_guarded | go_step | go_upon | go_back))
  (refine (err_no _ b _ h h0).mono ?_; rintro e1 w1 ⟨rfl, n, rfl⟩; dsimp only; (repeat' ((fail_if_success at_builtin); first | go_values | go_skip | go_guarded | go_step | go_upon | go_back)))
  (refine (unless_ok _ _).mono ?_; rintro e1 w2 ⟨rfl, rfl⟩; dsimp only; (repeat' ((fail_if_success at_builtin); first | go_values | go_skip | go_guarded | go_step | go_upon | go_back)))
  refine bodyPost_end (results_none rfl _ _ _) rfl ⟨rfl, by (repeat' (first | (with_reducible exact Below.refl _ _) | (with_reducible assumption) | (with_reducible refine Below.drew ?_) | (with_reducible refine bdrewN ?_ _) | (with_reducible refine Below.alloc ?_ ?_ _) | (with_reducible refine Below.setCell ?_ ?_ _) | omega | (simp; done) | (simp; omega)))⟩
theorem bsure_no (w : World) (b : Nat) (r : RS) (h : Rd w b r) (h0 : r.e ≠ 0) : Calls Tryz.prog 123 #[.pointer (some ⟨b, 0, none⟩)] w fun e' w' => e' = .panicked [{ v := brefV r.e, recovered := false }] ∧ Below w.heap.size w w' := by
  have e0 : (r.e == 0) = false := by simpa using h0
  go_enter Tryz.func123, Tryz.ntmps123
  (repeat' ((fail_if_success at_builtin); first | go_values | go_skip | go_guarded | go_step | go_upon | go_back))
  (refine (err_yes _ b _ h h0).mono ?_; rintro e1 w1 ⟨rfl, n, rfl⟩; dsimp only; (repeat' ((fail_if_success at_builtin); first | go_values | go_skip | go_guarded | go_step | go_upon | go_back)))
  (refine (unless_no _ _).mono ?_; rintro e1 w2 ⟨rfl, rfl⟩; dsimp only; (repeat' ((fail_if_success at_builtin); first | go_values | go_skip | go_guarded | go_step | go_upon | go_back)))
  exact ⟨rfl, rfl, by (repeat' (first | (with_reducible exact Below.refl _ _) | (with_reducible assumption) | (with_reducible refine Below.drew ?_) | (with_reducible refine bdrewN ?_ _) | (with_reducible refine Below.alloc ?_ ?_ _) | (with_reducible refine Below.setCell ?_ ?_ _) | omega | (simp; done) | (simp; omega)))⟩

/-- A transaction's block. -/
def TB (w : World) (g : Nat) (m : TM) : Prop := w.heap[g]? = some (.cells #[.int .i64 m.t.kind, .string ⟨m.t.p.name.toArray⟩, .int .i64 m.t.p.args, .slice m.ca m.t.p.code.length m.cc, .string ⟨m.t.name.toArray⟩, .slice m.aa m.t.args.length m.ac] 175 (0, 0))
def TM.nil : TM := ⟨T.nil, none, 0, none, 0⟩
theorem TB.c {w : World} {g : Nat} {m : TM} (h : TB w g m) : w.cell? ⟨g, 0, none⟩ = some (.int .i64 m.t.kind) ∧ w.cell? ⟨g, 1, none⟩ = some (.string ⟨m.t.p.name.toArray⟩) ∧ w.cell? ⟨g, 2, none⟩ = some (.int .i64 m.t.p.args) ∧ w.cell? ⟨g, 3, none⟩ = some (.slice m.ca m.t.p.code.length m.cc) ∧ w.cell? ⟨g, 4, none⟩ = some (.string ⟨m.t.name.toArray⟩) ∧ w.cell? ⟨g, 5, none⟩ = some (.slice m.aa m.t.args.length m.ac) :=
  ⟨blk_cell h 0, blk_cell h 1, blk_cell h 2, blk_cell h 3, blk_cell h 4, blk_cell h 5⟩
theorem TB.f {w : World} {g : Nat} {m : TM} (h : TB w g m) : w.frozen? ⟨g, 0, none⟩ = false ∧ w.frozen? ⟨g, 1, none⟩ = false ∧ w.frozen? ⟨g, 2, none⟩ = false ∧ w.frozen? ⟨g, 3, none⟩ = false ∧ w.frozen? ⟨g, 4, none⟩ = false ∧ w.frozen? ⟨g, 5, none⟩ = false :=
  ⟨blk_free h 0, blk_free h 1, blk_free h 2, blk_free h 3, blk_free h 4, blk_free h 5⟩
/-- What the walk through txn holds. -/
structure TL (w0 w : World) (X RV b : Nat) (m : TM) (r : RS) : Prop where
  hx : TB w X m
  hv : TB w RV TM.nil
  hr : Rd w b r
  hl : m.lies w
  fr : Fr w0 w (fun k => k = b)

theorem RowT.kb {w w' : World} {b : Nat} {t : TypeId} {a : Option Addr} {cs : List Value} (h : RowT w t a cs) (hk : Kb b w w') {c : Array Value} {t' : TypeId} {f : Nat × Nat} (hb : w.heap[b]? = some (.cells c t' f)) (ht : t' ≠ t) : RowT w' t a cs :=
  h.kept fun g cur f' hg => (hk g _ hg (blk_ne hg hb (Ne.symm ht))).trans hg.symm
theorem TM.lies.kb {w w' : World} {b : Nat} {m : TM} (h : m.lies w) (hk : Kb b w w') {c : Array Value} {t' : TypeId} {f : Nat × Nat} (hb : w.heap[b]? = some (.cells c t' f)) (h1 : t' ≠ 179) (h2 : t' ≠ 177) : m.lies w' :=
  ⟨RowT.kb h.code hk hb h1, RowT.kb h.args hk hb h2⟩
theorem TL.read {w0 w w' : World} {X RV b : Nat} {m : TM} {r r' : RS} (h : TL w0 w X RV b m r) (hf : Fr w w' (fun k => k = b)) (hr : Rd w' b r') : TL w0 w' X RV b m r' := by
  have hk := Kb.of_fr hf
  obtain ⟨c, hc⟩ := h.hr.reader
  exact ⟨hk _ _ h.hx (h.hr.ne h.hx (by decide)), hk _ _ h.hv (h.hr.ne h.hv (by decide)), hr, h.hl.kb hk hc (by decide) (by decide), h.fr.trans hf (fun _ _ h _ => h)⟩
theorem TL.below {w0 w w' : World} {X RV b : Nat} {m : TM} {r : RS} (h : TL w0 w X RV b m r) (hb : Below w.heap.size w w') : TL w0 w' X RV b m r :=
  ⟨blk_below hb h.hx (blk_lt h.hx), blk_below hb h.hv (blk_lt h.hv), h.hr.pure hb, h.hl.below hb, h.fr.then_below hb⟩
/-- Stores into one block: what they give of the reader. -/
theorem Rd.kb {w w' : World} {b g : Nat} {r : RS} (h : Rd w b r) (hk : Kb g w w') {c : Array Value} {t : TypeId} {f : Nat × Nat} (hg : w.heap[g]? = some (.cells c t f)) (h1 : t ≠ 207) (h2 : t ≠ 5) : Rd w' b r := by
  have hne := h.ne hg h1
  obtain ⟨a, c', h3, h4, h5, h6, h7⟩ := h
  refine ⟨a, c', hk b _ h3 (Ne.symm hne), h4.kept fun g' o e hlt => ?_, h5, h6, h7.kept fun g' cur f' hg' => hk g' _ hg' (blk_ne hg' hg (Ne.symm h2))⟩
  obtain ⟨cur, f', hg'⟩ := h7 g' o e
  exact (hk g' _ hg' (blk_ne hg' hg (Ne.symm h2))).trans hg'.symm
theorem Kb.refl (b : Nat) (w : World) : Kb b w w := fun _ _ h _ => h
theorem Kb.set' {w w' : World} {b i : Nat} {u : Value} (h : Kb b w w') : Kb b w (w'.setCell ⟨b, i, none⟩ u) := h.trans Kb.set
theorem Fr.kb {w0 w w' : World} {b g : Nat} (h : Fr w0 w (fun k => k = b)) (hk : Kb g w w') (hg : w0.heap.size ≤ g) (hb : Below g w w') : Fr w0 w' (fun k => k = b) :=
  h.trans (S' := fun k => k = g) ⟨hb.os, hb.tape, hb.output, hb.size, fun k hlt hn => by
    obtain ⟨ob, hob⟩ : ∃ ob, w.heap[k]? = some ob := ⟨_, Array.getElem?_eq_getElem hlt⟩
    exact (hk k ob hob hn).trans hob.symm⟩ (fun k hk hn _ e => by omega)
/-- A block of the call's own is written: the rest. -/
theorem TL.own {w0 w w' : World} {X RV b : Nat} {m m' : TM} {r : RS} (h : TL w0 w X RV b m r) (hX : w0.heap.size ≤ X) (hXR : X ≠ RV) (hk : Kb X w w') (hb : Below X w w') (hx : TB w' X m') (hl : m'.lies w') : TL w0 w' X RV b m' r :=
  ⟨hx, hk _ _ h.hv (Ne.symm hXR), h.hr.kb hk h.hx (by decide) (by decide), hl, h.fr.kb hk hX hb⟩
end Go.Proofs.YtbppnihcbcdglaaGreat
/- batch: a transaction is read. No condition. -/
namespace Go.Proofs.YtbppnihcbcdglaaGreat
open Go.RowKit
set_option linter.unusedVariables false
set_option linter.unusedSimpArgs false


set_option maxRecDepth 20000 in
set_option maxHeartbeats 2000000 in
theorem txn_byte (w : World) (b : Nat) (r : RS) (all : Nat) (hR : Rd w b r) (k : UInt8) (r1 : RS) (he : r.byte = (k, r1)) (h0 : r1.e ≠ 0) :
    Calls Tryz.prog 125 #[.pointer (some ⟨b, 0, none⟩), .int .i64 (all : Int)] w fun e' w' => e' = brefE r1.e ∧ Fr w w' (fun k => k = b) := by
  have HE := Lib.hid he
  clear he
  have hR0 := hR.alloc (.cells #[.int .i64 0, .string ⟨#[]⟩, .int .i64 0, .slice none 0 0, .string ⟨#[]⟩, .slice none 0 0] 175)
  have v0 : TB (w.alloc (.cells #[.int .i64 0, .string ⟨#[]⟩, .int .i64 0, .slice none 0 0, .string ⟨#[]⟩, .slice none 0 0] 175)) w.heap.size TM.nil := blk_new _ _
  have hb0 : Below w.heap.size w (w.alloc (.cells #[.int .i64 0, .string ⟨#[]⟩, .int .i64 0, .slice none 0 0, .string ⟨#[]⟩, .slice none 0 0] 175)) := by (repeat' (first | (with_reducible exact Below.refl _ _) | (with_reducible assumption) | (with_reducible refine Below.drew ?_) | (with_reducible refine bdrewN ?_ _) | (with_reducible refine Below.alloc ?_ ?_ _) | (with_reducible refine Below.setCell ?_ ?_ _) | omega | (simp; done) | (simp; omega)))
  have hsz0 := Lib.hid (World.size_alloc w (.cells #[.int .i64 0, .string ⟨#[]⟩, .int .i64 0, .slice none 0 0, .string ⟨#[]⟩, .slice none 0 0] 175))
  go_enter Tryz.func125, Tryz.ntmps125
  (repeat' ((fail_if_success at_builtin); first | go_values | go_skip | go_guarded | go_step | go_upon | go_back))
  generalize w.alloc (.cells #[.int .i64 0, .string ⟨#[]⟩, .int .i64 0, .slice none 0 0, .string ⟨#[]⟩, .slice none 0 0] 175) = W at hb0 hR0 v0 hsz0 ⊢
  (refine (byte_any W b _ hR0).mono ?_; rintro e1 w2 ⟨rfl, hR2, hF2⟩; dsimp only)
  rw [HE.out] at hR2 ⊢
  dsimp only at hR2 ⊢
  have v2 : TB w2 w.heap.size TM.nil := hF2.blk v0 (hR0.ne v0 (by decide))
  have hk : (k.toNat : Int) < 256 := by have := byte_lt k; omega
  have hk0 : (0 : Int) ≤ (k.toNat : Int) := Int.natCast_nonneg _
  have hs2 : w.heap.size + 1 ≤ w2.heap.size := by have := hF2.size; have := hsz0.out; omega
  have hF0 : Fr w w2 (fun k => k = b) := (Fr.pure hb0 _).trans hF2 (fun _ _ h _ => h)
  clear hb0 hR0 hF2 v0
  (repeat' ((fail_if_success (with_reducible (show Code.wp _ (Code.region 2 _ _) _ _ _))); (fail_if_success at_builtin); first | go_values | go_skip | go_guarded | go_step | go_upon | go_back))
  have hb3 : Below w2.heap.size w2 (w2.alloc (.cells #[.int .i64 (k.toNat : Int), .string ⟨#[]⟩, .int .i64 0, .slice none 0 0, .string ⟨#[]⟩, .slice none 0 0] 175)) := (Below.refl _ _).alloc (Nat.le_refl _) _
  have x3 : TB (w2.alloc (.cells #[.int .i64 (k.toNat : Int), .string ⟨#[]⟩, .int .i64 0, .slice none 0 0, .string ⟨#[]⟩, .slice none 0 0] 175)) w2.heap.size ⟨⟨(k.toNat : Int), P.nil, [], []⟩, none, 0, none, 0⟩ := blk_new _ _
  have D3 : TL w (w2.alloc (.cells #[.int .i64 (k.toNat : Int), .string ⟨#[]⟩, .int .i64 0, .slice none 0 0, .string ⟨#[]⟩, .slice none 0 0] 175)) w2.heap.size w.heap.size b ⟨⟨(k.toNat : Int), P.nil, [], []⟩, none, 0, none, 0⟩ r1 := ⟨x3, blk_below hb3 v2 (blk_lt v2), hR2.pure hb3, ⟨.inl rfl, .inl rfl⟩, hF0.then_below hb3⟩
  clear v2 hR2 hF0 hb3 x3
  generalize w2.alloc (.cells #[.int .i64 (k.toNat : Int), .string ⟨#[]⟩, .int .i64 0, .slice none 0 0, .string ⟨#[]⟩, .slice none 0 0] 175) = w3 at D3 ⊢
  (repeat' ((fail_if_success at_builtin); first | go_values | go_skip | go_guarded | go_step | go_upon | go_back))
  (refine (bsure_no _ b r1 D3.hr h0).mono ?_; rintro e1 w4 ⟨rfl, hb4⟩; dsimp only)
  exact ⟨rfl, rfl, D3.fr.then_below hb4⟩

set_option maxRecDepth 20000 in
set_option maxHeartbeats 2000000 in
theorem txn_kind (w : World) (b : Nat) (r : RS) (all : Nat) (hR : Rd w b r) (k : UInt8) (r1 : RS) (he : r.byte = (k, r1)) (h0 : r1.e = 0) (h1 : k.toNat ≠ 1) (h2 : k.toNat ≠ 2) (h3 : k.toNat ≠ 3) :
    Calls Tryz.prog 125 #[.pointer (some ⟨b, 0, none⟩), .int .i64 (all : Int)] w fun e' w' => e' = brefE 1 ∧ Fr w w' (fun k => k = b) := by
  have g1 : ((k.toNat : Int) == 1) = false := by rw [beq_eq_false_iff_ne]; omega
  have g2 : ((k.toNat : Int) == 2) = false := by rw [beq_eq_false_iff_ne]; omega
  have g3 : ((k.toNat : Int) == 3) = false := by rw [beq_eq_false_iff_ne]; omega
  have H0 := Lib.hid h0
  clear h1 h2 h3 h0
  have HE := Lib.hid he
  clear he
  have hR0 := hR.alloc (.cells #[.int .i64 0, .string ⟨#[]⟩, .int .i64 0, .slice none 0 0, .string ⟨#[]⟩, .slice none 0 0] 175)
  have v0 : TB (w.alloc (.cells #[.int .i64 0, .string ⟨#[]⟩, .int .i64 0, .slice none 0 0, .string ⟨#[]⟩, .slice none 0 0] 175)) w.heap.size TM.nil := blk_new _ _
  have hb0 : Below w.heap.size w (w.alloc (.cells #[.int .i64 0, .string ⟨#[]⟩, .int .i64 0, .slice none 0 0, .string ⟨#[]⟩, .slice none 0 0] 175)) := by (repeat' (first | (with_reducible exact Below.refl _ _) | (with_reducible assumption) | (with_reducible refine Below.drew ?_) | (with_reducible refine bdrewN ?_ _) | (with_reducible refine Below.alloc ?_ ?_ _) | (with_reducible refine Below.setCell ?_ ?_ _) | omega | (simp; done) | (simp; omega)))
  have hsz0 := Lib.hid (World.size_alloc w (.cells #[.int .i64 0, .string ⟨#[]⟩, .int .i64 0, .slice none 0 0, .string ⟨#[]⟩, .slice none 0 0] 175))
  go_enter Tryz.func125, Tryz.ntmps125
  (repeat' ((fail_if_success at_builtin); first | go_values | go_skip | go_guarded | go_step | go_upon | go_back))
  generalize w.alloc (.cells #[.int .i64 0, .string ⟨#[]⟩, .int .i64 0, .slice none 0 0, .string ⟨#[]⟩, .slice none 0 0] 175) = W at hb0 hR0 v0 hsz0 ⊢
  (refine (byte_any W b _ hR0).mono ?_; rintro e1 w2 ⟨rfl, hR2, hF2⟩; dsimp only)
  rw [HE.out] at hR2 ⊢
  dsimp only at hR2 ⊢
  have v2 : TB w2 w.heap.size TM.nil := hF2.blk v0 (hR0.ne v0 (by decide))
  have hk : (k.toNat : Int) < 256 := by have := byte_lt k; omega
  have hk0 : (0 : Int) ≤ (k.toNat : Int) := Int.natCast_nonneg _
  have hs2 : w.heap.size + 1 ≤ w2.heap.size := by have := hF2.size; have := hsz0.out; omega
  have hF0 : Fr w w2 (fun k => k = b) := (Fr.pure hb0 _).trans hF2 (fun _ _ h _ => h)
  clear hb0 hR0 hF2 v0
  (repeat' ((fail_if_success (with_reducible (show Code.wp _ (Code.region 2 _ _) _ _ _))); (fail_if_success at_builtin); first | go_values | go_skip | go_guarded | go_step | go_upon | go_back))
  have hb3 : Below w2.heap.size w2 (w2.alloc (.cells #[.int .i64 (k.toNat : Int), .string ⟨#[]⟩, .int .i64 0, .slice none 0 0, .string ⟨#[]⟩, .slice none 0 0] 175)) := (Below.refl _ _).alloc (Nat.le_refl _) _
  have x3 : TB (w2.alloc (.cells #[.int .i64 (k.toNat : Int), .string ⟨#[]⟩, .int .i64 0, .slice none 0 0, .string ⟨#[]⟩, .slice none 0 0] 175)) w2.heap.size ⟨⟨(k.toNat : Int), P.nil, [], []⟩, none, 0, none, 0⟩ := blk_new _ _
  have D3 : TL w (w2.alloc (.cells #[.int .i64 (k.toNat : Int), .string ⟨#[]⟩, .int .i64 0, .slice none 0 0, .string ⟨#[]⟩, .slice none 0 0] 175)) w2.heap.size w.heap.size b ⟨⟨(k.toNat : Int), P.nil, [], []⟩, none, 0, none, 0⟩ r1 := ⟨x3, blk_below hb3 v2 (blk_lt v2), hR2.pure hb3, ⟨.inl rfl, .inl rfl⟩, hF0.then_below hb3⟩
  clear v2 hR2 hF0 hb3 x3
  generalize w2.alloc (.cells #[.int .i64 (k.toNat : Int), .string ⟨#[]⟩, .int .i64 0, .slice none 0 0, .string ⟨#[]⟩, .slice none 0 0] 175) = w3 at D3 ⊢
  (repeat' ((fail_if_success at_builtin); first | go_values | go_skip | go_guarded | go_step | go_upon | go_back))
  (refine (bsure_ok _ b r1 D3.hr H0.out).mono ?_; rintro e1 w4 ⟨rfl, hb4⟩; dsimp only)
  have D4 := D3.below hb4
  clear D3 hb4
  have x0 : w4.cell? ⟨w2.heap.size, 0, none⟩ = some (.int .i64 (k.toNat : Int)) := D4.hx.c.1
  (repeat' ((fail_if_success at_builtin); first | go_values | go_skip | go_guarded | go_step | go_upon | go_back))
  exact ⟨rfl, rfl, D4.fr⟩

/-- A name is stored. -/
theorem TL.name {w0 w : World} {X RV b : Nat} {m : TM} {r : RS} (h : TL w0 w X RV b m r) (hX : w0.heap.size ≤ X) (hXR : X ≠ RV) (s : Bs) : TL w0 (w.setCell ⟨X, 4, none⟩ (.string ⟨s.toArray⟩)) X RV b { m with t := { m.t with name := s } } r := by
  have hk : Kb X w (w.setCell ⟨X, 4, none⟩ (.string ⟨s.toArray⟩)) := Kb.set
  have hl := h.hl.kb hk h.hx (by decide) (by decide)
  exact h.own hX hXR hk ((Below.refl _ _).setCell (p := ⟨X, 4, none⟩) (Nat.le_refl _) _) (blk_set h.hx 4 _) ⟨hl.code, hl.args⟩
/-- The transaction is handed back. -/
def setT (w : World) (g : Nat) (m : TM) : World := (((((w.setCell ⟨g, 0, none⟩ (.int .i64 m.t.kind)).setCell ⟨g, 1, none⟩ (.string ⟨m.t.p.name.toArray⟩)).setCell ⟨g, 2, none⟩ (.int .i64 m.t.p.args)).setCell ⟨g, 3, none⟩ (.slice m.ca m.t.p.code.length m.cc)).setCell ⟨g, 4, none⟩ (.string ⟨m.t.name.toArray⟩)).setCell ⟨g, 5, none⟩ (.slice m.aa m.t.args.length m.ac)
theorem setT_kb (w : World) (g : Nat) (m : TM) : Kb g w (setT w g m) := Kb.set.trans (Kb.set.trans (Kb.set.trans (Kb.set.trans (Kb.set.trans Kb.set))))
theorem setT_below (w : World) (g : Nat) (m : TM) : Below g w (setT w g m) :=
  ((((((Below.refl _ _).setCell (p := ⟨g, 0, none⟩) (Nat.le_refl _) _).setCell (p := ⟨g, 1, none⟩) (Nat.le_refl _) _).setCell (p := ⟨g, 2, none⟩) (Nat.le_refl _) _).setCell (p := ⟨g, 3, none⟩) (Nat.le_refl _) _).setCell (p := ⟨g, 4, none⟩) (Nat.le_refl _) _).setCell (p := ⟨g, 5, none⟩) (Nat.le_refl _) _
theorem TB.set {w : World} {g : Nat} {y : TM} (h : TB w g y) (m : TM) : TB (setT w g m) g m := by
  unfold TB at h
  have h0 := blk_set h 0 (.int .i64 m.t.kind)
  have h1 := blk_set h0 1 (.string ⟨m.t.p.name.toArray⟩)
  have h2 := blk_set h1 2 (.int .i64 m.t.p.args)
  have h3 := blk_set h2 3 (.slice m.ca m.t.p.code.length m.cc)
  have h4 := blk_set h3 4 (.string ⟨m.t.name.toArray⟩)
  have h5 := blk_set h4 5 (.slice m.aa m.t.args.length m.ac)
  exact h5
theorem TL.ret {w0 w : World} {X RV b : Nat} {m : TM} {r : RS} (h : TL w0 w X RV b m r) (hX : w0.heap.size ≤ RV) : TB (setT w RV m) RV m ∧ Rd (setT w RV m) b r ∧ m.lies (setT w RV m) ∧ Fr w0 (setT w RV m) (fun k => k = b) :=
  ⟨h.hv.set m, h.hr.kb (setT_kb _ _ _) h.hv (by decide) (by decide), h.hl.kb (setT_kb _ _ _) h.hv (by decide) (by decide), h.fr.kb (setT_kb _ _ _) hX (setT_below _ _ _)⟩
end Go.Proofs.YtbppnihcbcdglaaGreat
/- batch: a definition, a drop is read. No condition. -/
namespace Go.Proofs.YtbppnihcbcdglaaGreat
open Go.RowKit
set_option linter.unusedVariables false
set_option linter.unusedSimpArgs false


theorem decT_1 {all : Nat} {r r1 : RS} {k : UInt8} (he : r.byte = (k, r1)) (h0 : r1.e = 0) (h1 : k.toNat = 1) {s : Bs} {r2 : RS} (ht : r1.text (all : Int) = (s, r2)) :
    decT all r = if r2.e ≠ 0 then (T.nil, r2, r2.e) else if (decP s).2 ≠ 0 then (T.nil, r2, (decP s).2) else (⟨1, (decP s).1, [], []⟩, r2, 0) := by
  unfold decT; simp [he, h0, h1, ht]
theorem decT_3 {all : Nat} {r r1 : RS} {k : UInt8} (he : r.byte = (k, r1)) (h0 : r1.e = 0) (h1 : k.toNat = 3) {s : Bs} {r2 : RS} (ht : r1.text 32 = (s, r2)) :
    decT all r = if r2.e ≠ 0 then (T.nil, r2, r2.e) else (⟨3, P.nil, s, []⟩, r2, 0) := by
  unfold decT; simp [he, h0, h1, ht]

/-- A procedure is stored. -/
theorem TL.proc {w0 w : World} {X RV b : Nat} {m : TM} {r : RS} (h : TL w0 w X RV b m r) (hX : w0.heap.size ≤ X) (hXR : X ≠ RV) (p : P) (ca : Option Addr) (cc : Nat) (hc : Code2 w ca p.code) :
    TL w0 (((w.setCell ⟨X, 1, none⟩ (.string ⟨p.name.toArray⟩)).setCell ⟨X, 2, none⟩ (.int .i64 p.args)).setCell ⟨X, 3, none⟩ (.slice ca p.code.length cc)) X RV b ⟨{ m.t with p := p }, ca, cc, m.aa, m.ac⟩ r := by
  have hk : Kb X w (((w.setCell ⟨X, 1, none⟩ (.string ⟨p.name.toArray⟩)).setCell ⟨X, 2, none⟩ (.int .i64 p.args)).setCell ⟨X, 3, none⟩ (.slice ca p.code.length cc)) := Kb.set.trans (Kb.set.trans Kb.set)
  have hl := h.hl.kb hk h.hx (by decide) (by decide)
  exact h.own hX hXR hk ((((Below.refl _ _).setCell (p := ⟨X, 1, none⟩) (Nat.le_refl _) _).setCell (p := ⟨X, 2, none⟩) (Nat.le_refl _) _).setCell (p := ⟨X, 3, none⟩) (Nat.le_refl _) _) (blk_set (blk_set (blk_set h.hx 1 _) 2 _) 3 _) ⟨RowT.kb hc hk h.hx (by decide), hl.args⟩

set_option maxRecDepth 20000 in
set_option maxHeartbeats 4000000 in
theorem txn_1 (w : World) (b : Nat) (r : RS) (all : Nat) (hR : Rd w b r) (k : UInt8) (r1 : RS) (he : r.byte = (k, r1)) (h0 : r1.e = 0) (h1 : k.toNat = 1) (ha : all ≤ 17592186044416) (Q : Ending → World → Prop)
    (hno : ∀ e w', (decT all r).2.2 = e → e ≠ 0 → Fr w w' (fun k => k = b) → Q (brefE e) w')
    (hyes : ∀ (m : TM) (r2 : RS) (w' : World), decT all r = (m.t, r2, 0) → Rd w' b r2 → m.lies w' → Fr w w' (fun k => k = b) → Q (.returned (.agg m.cells)) w') :
    Calls Tryz.prog 125 #[.pointer (some ⟨b, 0, none⟩), .int .i64 (all : Int)] w Q := by
  obtain ⟨s, r2, ht⟩ : ∃ s r2, r1.text (all : Int) = (s, r2) := ⟨_, _, rfl⟩
  have HDI := Lib.hid (decT_1 he h0 h1 ht)
  have HT := Lib.hid ht
  have H0 := Lib.hid h0
  have H1 := Lib.hid h1
  have HNO := Lib.hid hno
  have HYES := Lib.hid hyes
  have HB := Lib.hid (show -9223372036854775808 ≤ (all : Int) ∧ (all : Int) < 9223372036854775808 by omega)
  clear h0 h1 hno hyes ht ha
  have HE := Lib.hid he
  clear he
  have hR0 := hR.alloc (.cells #[.int .i64 0, .string ⟨#[]⟩, .int .i64 0, .slice none 0 0, .string ⟨#[]⟩, .slice none 0 0] 175)
  have v0 : TB (w.alloc (.cells #[.int .i64 0, .string ⟨#[]⟩, .int .i64 0, .slice none 0 0, .string ⟨#[]⟩, .slice none 0 0] 175)) w.heap.size TM.nil := blk_new _ _
  have hb0 : Below w.heap.size w (w.alloc (.cells #[.int .i64 0, .string ⟨#[]⟩, .int .i64 0, .slice none 0 0, .string ⟨#[]⟩, .slice none 0 0] 175)) := by (repeat' (first | (with_reducible exact Below.refl _ _) | (with_reducible assumption) | (with_reducible refine Below.drew ?_) | (with_reducible refine bdrewN ?_ _) | (with_reducible refine Below.alloc ?_ ?_ _) | (with_reducible refine Below.setCell ?_ ?_ _) | omega | (simp; done) | (simp; omega)))
  have hsz0 := Lib.hid (World.size_alloc w (.cells #[.int .i64 0, .string ⟨#[]⟩, .int .i64 0, .slice none 0 0, .string ⟨#[]⟩, .slice none 0 0] 175))
  go_enter Tryz.func125, Tryz.ntmps125
  (repeat' ((fail_if_success at_builtin); first | go_values | go_skip | go_guarded | go_step | go_upon | go_back))
  generalize w.alloc (.cells #[.int .i64 0, .string ⟨#[]⟩, .int .i64 0, .slice none 0 0, .string ⟨#[]⟩, .slice none 0 0] 175) = W at hb0 hR0 v0 hsz0 ⊢
  (refine (byte_any W b _ hR0).mono ?_; rintro e1 w2 ⟨rfl, hR2, hF2⟩; dsimp only)
  rw [HE.out] at hR2 ⊢
  dsimp only at hR2 ⊢
  have v2 : TB w2 w.heap.size TM.nil := hF2.blk v0 (hR0.ne v0 (by decide))
  have hk : (k.toNat : Int) < 256 := by have := byte_lt k; omega
  have hk0 : (0 : Int) ≤ (k.toNat : Int) := Int.natCast_nonneg _
  have hs2 : w.heap.size + 1 ≤ w2.heap.size := by have := hF2.size; have := hsz0.out; omega
  have hF0 : Fr w w2 (fun k => k = b) := (Fr.pure hb0 _).trans hF2 (fun _ _ h _ => h)
  clear hb0 hR0 hF2 v0
  (repeat' ((fail_if_success (with_reducible (show Code.wp _ (Code.region 2 _ _) _ _ _))); (fail_if_success at_builtin); first | go_values | go_skip | go_guarded | go_step | go_upon | go_back))
  have hb3 : Below w2.heap.size w2 (w2.alloc (.cells #[.int .i64 (k.toNat : Int), .string ⟨#[]⟩, .int .i64 0, .slice none 0 0, .string ⟨#[]⟩, .slice none 0 0] 175)) := (Below.refl _ _).alloc (Nat.le_refl _) _
  have x3 : TB (w2.alloc (.cells #[.int .i64 (k.toNat : Int), .string ⟨#[]⟩, .int .i64 0, .slice none 0 0, .string ⟨#[]⟩, .slice none 0 0] 175)) w2.heap.size ⟨⟨(k.toNat : Int), P.nil, [], []⟩, none, 0, none, 0⟩ := blk_new _ _
  have D3 : TL w (w2.alloc (.cells #[.int .i64 (k.toNat : Int), .string ⟨#[]⟩, .int .i64 0, .slice none 0 0, .string ⟨#[]⟩, .slice none 0 0] 175)) w2.heap.size w.heap.size b ⟨⟨(k.toNat : Int), P.nil, [], []⟩, none, 0, none, 0⟩ r1 := ⟨x3, blk_below hb3 v2 (blk_lt v2), hR2.pure hb3, ⟨.inl rfl, .inl rfl⟩, hF0.then_below hb3⟩
  clear v2 hR2 hF0 hb3 x3
  generalize w2.alloc (.cells #[.int .i64 (k.toNat : Int), .string ⟨#[]⟩, .int .i64 0, .slice none 0 0, .string ⟨#[]⟩, .slice none 0 0] 175) = w3 at D3 ⊢
  (repeat' ((fail_if_success (with_reducible (show Code.wp _ (Code.region 3 _ _) _ _ _))); (fail_if_success at_builtin); first | go_values | go_skip | go_guarded | go_step | go_upon | go_back))
  rw [H1.out] at D3 ⊢
  (repeat' ((fail_if_success at_builtin); first | go_values | go_skip | go_guarded | go_step | go_upon | go_back))
  (refine (bsure_ok _ b r1 D3.hr H0.out).mono ?_; rintro e1 w4 ⟨rfl, hb4⟩; dsimp only)
  have D4 := D3.below hb4
  clear D3 hb4 hk hk0
  have x0 : w4.cell? ⟨w2.heap.size, 0, none⟩ = some (.int .i64 1) := D4.hx.c.1
  have hXR : Hid (w2.heap.size ≠ w.heap.size) := Lib.hid (by omega)
  have hXX : Hid (w.heap.size ≤ w2.heap.size) := Lib.hid (by omega)
  (repeat' ((fail_if_success at_builtin); first | go_values | go_skip | go_guarded | go_step | go_upon | go_back))
  clear x0
  (refine (text_any w4 b _ D4.hr (all : Int) HB.out).mono ?_; rintro e1 w5 ⟨rfl, hR5, hF5⟩; dsimp only)
  rw [HT.out] at hR5 ⊢
  dsimp only at hR5 ⊢
  have D5 := D4.read hF5 hR5
  have HSL := Lib.hid (show s.length ≤ 17592186044416 by have := r1.text_len (all : Int); rw [HT.out] at this; exact Nat.le_trans this D4.hr.le)
  clear D4 hR5 hF5
  by_cases hE : r2.e = 0
  · have HE2 := Lib.hid hE
    have hok := HDI.out
    rw [if_neg (by simp [hE])] at hok
    have HOK := Lib.hid hok
    clear hE hok
    (repeat' ((fail_if_success at_builtin); first | go_values | go_skip | go_guarded | go_step | go_upon | go_back))
    (refine (bsure_ok _ b _ D5.hr HE2.out).mono ?_; rintro e1 w6 ⟨rfl, hb6⟩; dsimp only)
    have D6 := D5.below hb6
    clear D5 hb6
    obtain ⟨hsb1, hsb2⟩ := sb_list w6 s
    have hcv := run_sbytes w6 ⟨s.toArray⟩
    (repeat' ((fail_if_success at_builtin); first | go_values | go_skip | go_guarded | go_step | go_upon | go_back))
    refine decP_any _ _ _ s hsb2 HSL.out _ ?_
    intro ca cc w7 hcode hclen hcnil hb7
    dsimp only
    have D7 := (D6.below hsb1).below hb7
    clear D6 hsb1 hsb2 hb7 hcv hclen hcnil
    obtain ⟨p, ev, hdp⟩ : ∃ p ev, decP s = (p, ev) := ⟨_, _, rfl⟩
    rw [hdp] at hcode ⊢
    have hok := HOK.out
    rw [hdp] at hok
    dsimp only at hok hcode ⊢
    clear hdp HOK
    have nw := blk_new w7 (.cells #[.string ⟨p.name.toArray⟩, .int .i64 p.args, .slice ca p.code.length cc] 172)
    have hbn : Below w7.heap.size w7 (w7.alloc (.cells #[.string ⟨p.name.toArray⟩, .int .i64 p.args, .slice ca p.code.length cc] 172)) := (Below.refl _ w7).alloc (Nat.le_refl _) _
    have D8 := D7.below hbn
    have hcode8 : Code2 _ ca p.code := RowT.below hcode hbn
    clear D7 hcode hbn
    by_cases hE : ev = 0
    · subst hE
      rw [if_neg (by simp)] at hok
      have HOK := Lib.hid hok
      clear hok
      (repeat' ((fail_if_success (with_reducible (show Code.wp _ (Code.region 9 _ _) _ _ _))); (fail_if_success at_builtin); first | go_values | go_skip | go_guarded | go_step | go_upon | go_back))
      generalize w7.alloc (.cells #[.string ⟨p.name.toArray⟩, .int .i64 p.args, .slice ca p.code.length cc] 172) = w8 at nw D8 hcode8 ⊢
      (repeat' ((fail_if_success at_builtin); first | go_values | go_skip | go_guarded | go_step | go_upon | go_back))
      (refine (unless_ok _ _).mono ?_; rintro e1 w9 ⟨rfl, rfl⟩; dsimp only)
      obtain ⟨n0, n1, n2, -⟩ := blk3 nw
      obtain ⟨x0, x1, x2, x3, x4, x5⟩ := D8.hx.c
      obtain ⟨f0, f1, f2, f3, f4, f5⟩ := D8.hx.f
      dsimp only at x0 x1 x2 x3 x4 x5
      (repeat' ((fail_if_success (with_reducible (show Code.wp _ (Code.region 27 _ _) _ _ _))); (fail_if_success at_builtin); first | go_values | go_skip | go_guarded | go_step | go_upon | go_back))
      have D9 := D8.proc hXX.out hXR.out p ca cc hcode8
      clear n0 n1 n2 x0 x1 x2 x3 x4 x5 f0 f1 f2 f3 f4 f5 D8 hcode8 nw
      generalize ((w8.setCell ⟨w2.heap.size, 1, none⟩ (.string ⟨p.name.toArray⟩)).setCell ⟨w2.heap.size, 2, none⟩ (.int .i64 p.args)).setCell ⟨w2.heap.size, 3, none⟩ (.slice ca p.code.length cc) = w9 at D9 ⊢
      have D10 : TL w w9 w2.heap.size w.heap.size b ⟨⟨1, p, [], []⟩, ca, cc, none, 0⟩ r2 := D9
      clear D9
      obtain ⟨m, D11, hok⟩ : ∃ m : TM, TL w w9 w2.heap.size w.heap.size b m r2 ∧ decT all r = (m.t, r2, 0) := ⟨_, D10, HOK.out⟩
      have HOK3 := Lib.hid hok
      clear hok D10
      obtain ⟨x0, x1, x2, x3, x4, x5⟩ := (D11).hx.c; obtain ⟨v0, v1, v2, v3, v4, v5⟩ := (D11).hv.c; obtain ⟨f0, f1, f2, f3, f4, f5⟩ := (D11).hv.f; (repeat' ((fail_if_success at_builtin); first | go_values | go_skip | go_guarded | go_step | go_upon | go_back)); obtain ⟨hb9, hr9, hl9, hf9⟩ := (D11).ret (by omega); obtain ⟨z0, z1, z2, z3, z4, z5⟩ := hb9.c; have hfin := HYES.out _ _ _ HOK3.out hr9 hl9 hf9; unfold setT at z0 z1 z2 z3 z4 z5 hfin; clear x0 x1 x2 x3 x4 x5 v0 v1 v2 v3 v4 v5 f0 f1 f2 f3 f4 f5; exact bodyPost_ret (v := .agg (TM.cells m)) (by simp [results, Tryz.results125, go_sem, z0, z1, z2, z3, z4, z5, TM.cells]) rfl hfin
    · have e0 : (ev == 0) = false := by simpa using hE
      have HE3 := Lib.hid hE
      rw [if_pos hE] at hok
      have HOK := Lib.hid hok
      clear hE hok
      (repeat' ((fail_if_success at_builtin); first | go_values | go_skip | go_guarded | go_step | go_upon | go_back))
      (refine (unless_no _ _).mono ?_; rintro e1 w9 ⟨rfl, rfl⟩; dsimp only)
      exact ⟨rfl, HNO.out _ _ (by rw [HOK.out]) HE3.out D8.fr⟩
  · have HE2 := Lib.hid hE
    clear hE
    (repeat' ((fail_if_success at_builtin); first | go_values | go_skip | go_guarded | go_step | go_upon | go_back))
    (refine (bsure_no _ b _ D5.hr HE2.out).mono ?_; rintro e1 w6 ⟨rfl, hb6⟩; dsimp only)
    exact ⟨rfl, HNO.out _ _ (by rw [HDI.out, if_pos HE2.out]) HE2.out (D5.fr.then_below hb6)⟩

set_option maxRecDepth 20000 in
set_option maxHeartbeats 4000000 in
theorem txn_3 (w : World) (b : Nat) (r : RS) (all : Nat) (hR : Rd w b r) (k : UInt8) (r1 : RS) (he : r.byte = (k, r1)) (h0 : r1.e = 0) (h1 : k.toNat = 3) (ha : all ≤ 17592186044416) (Q : Ending → World → Prop)
    (hno : ∀ e w', (decT all r).2.2 = e → e ≠ 0 → Fr w w' (fun k => k = b) → Q (brefE e) w')
    (hyes : ∀ (m : TM) (r2 : RS) (w' : World), decT all r = (m.t, r2, 0) → Rd w' b r2 → m.lies w' → Fr w w' (fun k => k = b) → Q (.returned (.agg m.cells)) w') :
    Calls Tryz.prog 125 #[.pointer (some ⟨b, 0, none⟩), .int .i64 (all : Int)] w Q := by
  obtain ⟨s, r2, ht⟩ : ∃ s r2, r1.text 32 = (s, r2) := ⟨_, _, rfl⟩
  have HDI := Lib.hid (decT_3 (all := all) he h0 h1 ht)
  have HT := Lib.hid ht
  have H0 := Lib.hid h0
  have H1 := Lib.hid h1
  have HNO := Lib.hid hno
  have HYES := Lib.hid hyes
  clear h0 h1 hno hyes ht ha
  have HE := Lib.hid he
  clear he
  have hR0 := hR.alloc (.cells #[.int .i64 0, .string ⟨#[]⟩, .int .i64 0, .slice none 0 0, .string ⟨#[]⟩, .slice none 0 0] 175)
  have v0 : TB (w.alloc (.cells #[.int .i64 0, .string ⟨#[]⟩, .int .i64 0, .slice none 0 0, .string ⟨#[]⟩, .slice none 0 0] 175)) w.heap.size TM.nil := blk_new _ _
  have hb0 : Below w.heap.size w (w.alloc (.cells #[.int .i64 0, .string ⟨#[]⟩, .int .i64 0, .slice none 0 0, .string ⟨#[]⟩, .slice none 0 0] 175)) := by (repeat' (first | (with_reducible exact Below.refl _ _) | (with_reducible assumption) | (with_reducible refine Below.drew ?_) | (with_reducible refine bdrewN ?_ _) | (with_reducible refine Below.alloc ?_ ?_ _) | (with_reducible refine Below.setCell ?_ ?_ _) | omega | (simp; done) | (simp; omega)))
  have hsz0 := Lib.hid (World.size_alloc w (.cells #[.int .i64 0, .string ⟨#[]⟩, .int .i64 0, .slice none 0 0, .string ⟨#[]⟩, .slice none 0 0] 175))
  go_enter Tryz.func125, Tryz.ntmps125
  (repeat' ((fail_if_success at_builtin); first | go_values | go_skip | go_guarded | go_step | go_upon | go_back))
  generalize w.alloc (.cells #[.int .i64 0, .string ⟨#[]⟩, .int .i64 0, .slice none 0 0, .string ⟨#[]⟩, .slice none 0 0] 175) = W at hb0 hR0 v0 hsz0 ⊢
  (refine (byte_any W b _ hR0).mono ?_; rintro e1 w2 ⟨rfl, hR2, hF2⟩; dsimp only)
  rw [HE.out] at hR2 ⊢
  dsimp only at hR2 ⊢
  have v2 : TB w2 w.heap.size TM.nil := hF2.blk v0 (hR0.ne v0 (by decide))
  have hk : (k.toNat : Int) < 256 := by have := byte_lt k; omega
  have hk0 : (0 : Int) ≤ (k.toNat : Int) := Int.natCast_nonneg _
  have hs2 : w.heap.size + 1 ≤ w2.heap.size := by have := hF2.size; have := hsz0.out; omega
  have hF0 : Fr w w2 (fun k => k = b) := (Fr.pure hb0 _).trans hF2 (fun _ _ h _ => h)
  clear hb0 hR0 hF2 v0
  (repeat' ((fail_if_success (with_reducible (show Code.wp _ (Code.region 2 _ _) _ _ _))); (fail_if_success at_builtin); first | go_values | go_skip | go_guarded | go_step | go_upon | go_back))
  have hb3 : Below w2.heap.size w2 (w2.alloc (.cells #[.int .i64 (k.toNat : Int), .string ⟨#[]⟩, .int .i64 0, .slice none 0 0, .string ⟨#[]⟩, .slice none 0 0] 175)) := (Below.refl _ _).alloc (Nat.le_refl _) _
  have x3 : TB (w2.alloc (.cells #[.int .i64 (k.toNat : Int), .string ⟨#[]⟩, .int .i64 0, .slice none 0 0, .string ⟨#[]⟩, .slice none 0 0] 175)) w2.heap.size ⟨⟨(k.toNat : Int), P.nil, [], []⟩, none, 0, none, 0⟩ := blk_new _ _
  have D3 : TL w (w2.alloc (.cells #[.int .i64 (k.toNat : Int), .string ⟨#[]⟩, .int .i64 0, .slice none 0 0, .string ⟨#[]⟩, .slice none 0 0] 175)) w2.heap.size w.heap.size b ⟨⟨(k.toNat : Int), P.nil, [], []⟩, none, 0, none, 0⟩ r1 := ⟨x3, blk_below hb3 v2 (blk_lt v2), hR2.pure hb3, ⟨.inl rfl, .inl rfl⟩, hF0.then_below hb3⟩
  clear v2 hR2 hF0 hb3 x3
  generalize w2.alloc (.cells #[.int .i64 (k.toNat : Int), .string ⟨#[]⟩, .int .i64 0, .slice none 0 0, .string ⟨#[]⟩, .slice none 0 0] 175) = w3 at D3 ⊢
  (repeat' ((fail_if_success (with_reducible (show Code.wp _ (Code.region 3 _ _) _ _ _))); (fail_if_success at_builtin); first | go_values | go_skip | go_guarded | go_step | go_upon | go_back))
  rw [H1.out] at D3 ⊢
  (repeat' ((fail_if_success at_builtin); first | go_values | go_skip | go_guarded | go_step | go_upon | go_back))
  (refine (bsure_ok _ b r1 D3.hr H0.out).mono ?_; rintro e1 w4 ⟨rfl, hb4⟩; dsimp only)
  have D4 := D3.below hb4
  clear D3 hb4 hk hk0
  have x0 : w4.cell? ⟨w2.heap.size, 0, none⟩ = some (.int .i64 3) := D4.hx.c.1
  have hXR : Hid (w2.heap.size ≠ w.heap.size) := Lib.hid (by omega)
  have hXX : Hid (w.heap.size ≤ w2.heap.size) := Lib.hid (by omega)
  (repeat' ((fail_if_success at_builtin); first | go_values | go_skip | go_guarded | go_step | go_upon | go_back))
  clear x0
  (refine (text_any w4 b _ D4.hr 32 (by decide)).mono ?_; rintro e1 w5 ⟨rfl, hR5, hF5⟩; dsimp only)
  rw [HT.out] at hR5 ⊢
  dsimp only at hR5 ⊢
  have D5 := D4.read hF5 hR5
  clear D4 hR5 hF5
  obtain ⟨x0, x1, x2, x3, x4, x5⟩ := D5.hx.c
  obtain ⟨f0, f1, f2, f3, f4, f5⟩ := D5.hx.f
  dsimp only at x0 x1 x2 x3 x4 x5
  (repeat' ((fail_if_success (with_reducible (show Code.wp _ (Code.region 13 _ _) _ _ _))); (fail_if_success at_builtin); first | go_values | go_skip | go_guarded | go_step | go_upon | go_back))
  have D6 := D5.name hXX.out hXR.out s
  clear x0 x1 x2 x3 x4 x5 f0 f1 f2 f3 f4 f5 D5
  generalize w5.setCell ⟨w2.heap.size, 4, none⟩ (.string ⟨s.toArray⟩) = w6 at D6 ⊢
  by_cases hE : r2.e = 0
  · have HE2 := Lib.hid hE
    have hok := HDI.out
    rw [if_neg (by simp [hE])] at hok
    have HOK := Lib.hid hok
    clear hE hok
    (repeat' ((fail_if_success at_builtin); first | go_values | go_skip | go_guarded | go_step | go_upon | go_back))
    (refine (bsure_ok _ b _ D6.hr HE2.out).mono ?_; rintro e1 w7 ⟨rfl, hb7⟩; dsimp only)
    have D10 : TL w w7 w2.heap.size w.heap.size b ⟨⟨3, P.nil, s, []⟩, none, 0, none, 0⟩ r2 := D6.below hb7
    clear D6 hb7
    obtain ⟨m, D11, hok⟩ : ∃ m : TM, TL w w7 w2.heap.size w.heap.size b m r2 ∧ decT all r = (m.t, r2, 0) := ⟨_, D10, HOK.out⟩
    have HOK3 := Lib.hid hok
    clear hok D10
    obtain ⟨x0, x1, x2, x3, x4, x5⟩ := (D11).hx.c; obtain ⟨v0, v1, v2, v3, v4, v5⟩ := (D11).hv.c; obtain ⟨f0, f1, f2, f3, f4, f5⟩ := (D11).hv.f; (repeat' ((fail_if_success at_builtin); first | go_values | go_skip | go_guarded | go_step | go_upon | go_back)); obtain ⟨hb9, hr9, hl9, hf9⟩ := (D11).ret (by omega); obtain ⟨z0, z1, z2, z3, z4, z5⟩ := hb9.c; have hfin := HYES.out _ _ _ HOK3.out hr9 hl9 hf9; unfold setT at z0 z1 z2 z3 z4 z5 hfin; clear x0 x1 x2 x3 x4 x5 v0 v1 v2 v3 v4 v5 f0 f1 f2 f3 f4 f5; exact bodyPost_ret (v := .agg (TM.cells m)) (by simp [results, Tryz.results125, go_sem, z0, z1, z2, z3, z4, z5, TM.cells]) rfl hfin
  · have HE2 := Lib.hid hE
    clear hE
    (repeat' ((fail_if_success at_builtin); first | go_values | go_skip | go_guarded | go_step | go_upon | go_back))
    (refine (bsure_no _ b _ D6.hr HE2.out).mono ?_; rintro e1 w7 ⟨rfl, hb7⟩; dsimp only)
    exact ⟨rfl, HNO.out _ _ (by rw [HDI.out, if_pos HE2.out]) HE2.out (D6.fr.then_below hb7)⟩
end Go.Proofs.YtbppnihcbcdglaaGreat
namespace Go.Proofs.YtbppnihcbcdglaaGreat
open Go.RowKit

/-- The post of a panic, whatever stands in the slots from m on. -/
def HeldQ (m : Nat) (Q : Exit → Act → World → Prop) : Exit → Act → World → Prop
  | .panic c, a, w => ∀ T : Array Value, (∀ i, i < m → T[i]? = a.tmps[i]?) → Q (.panic c) ⟨T, a.defers⟩ w
  | e, a, w => Q e a w
theorem wp_region_heldQ (m : Nat) {P : Program} {id : Nat} {ops : Array Oper} {b : Bool} {Q : Exit → Act → World → Prop} {a : Act} {w : World} (h : (Code.region id ops b).wp P (HeldQ m Q) a w) : (Code.region id ops b).wp P Q a w :=
  Code.wp_mono (fun e a w hq => by cases e <;> first | exact hq | exact hq a.tmps (fun _ _ => rfl)) h
theorem HeldQ.put {m d : Nat} {Q : Exit → Act → World → Prop} {v : Value} (h : m ≤ d) : ∀ c a w, HeldQ m Q (.panic c) (a.put (some d) v) w → HeldQ m Q (.panic c) a w := fun c a w hq T hT =>
  hq T (fun i hi => (hT i hi).trans (by
    show a.tmps[i]? = (a.tmps.setIfInBounds d v)[i]?
    rw [Array.getElem?_setIfInBounds_ne (by omega)]))
end Go.Proofs.YtbppnihcbcdglaaGreat
