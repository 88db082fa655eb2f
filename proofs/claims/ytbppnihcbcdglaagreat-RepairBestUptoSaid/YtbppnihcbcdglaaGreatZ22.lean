/- A region that draws its order, in a function that defers, where a call may panic: an operation that yields in whatever world may be taken first. No condition. -/
import Derived.Test.YtbppnihcbcdglaaGreatZ15
import Derived.Test.YtbppnihcbcdglaaGreatZ18
namespace Go.Proofs.YtbppnihcbcdglaaGreat
set_option maxHeartbeats 0
open Go.RowKit
set_option linter.unusedVariables false
set_option linter.unusedSimpArgs false
def brefV(e:Int):Value := .iface 212 (.agg #[.int .i64 e])
def brefE(e:Int):Ending := .panicked [{ v:=brefV e,recovered:=false }]
theorem unless_ok(w:World)(e:Int):Calls Tryz.prog 124 #[.bool true,.int .i64 e] w fun e' w'=>e' = .returned (.tuple #[])/\w=w':=by
 go_enter Tryz.func124,Tryz.ntmps124
 repeat' ((fail_if_success at_builtin);first|go_values|go_skip|go_guarded|go_step|go_upon|go_back)
 refine bodyPost_end (results_none rfl _ _ _) rfl ⟨rfl,rfl⟩
theorem unless_no(w:World)(e:Int):Calls Tryz.prog 124 #[.bool false,.int .i64 e] w fun e' w'=>e' = .panicked [{ v:=brefV e,recovered:=false }]/\w=w':=by
 go_enter Tryz.func124,Tryz.ntmps124
 repeat' ((fail_if_success at_builtin);first|go_values|go_skip|go_guarded|go_step|go_upon|go_back)
 exact⟨rfl,rfl,rfl⟩
theorem bsure_ok(w:World)(b:Nat)(r:RS)(h:Rd w b r)(h0:r.e=0):Calls Tryz.prog 123 #[.pointer (some ⟨b,0,none⟩)] w fun e' w'=>e' = .returned (.tuple #[])/\Below w.heap.size w w':=by
 go_enter Tryz.func123,Tryz.ntmps123
 repeat' ((fail_if_success at_builtin);first|go_values|go_skip|go_guarded|go_step|go_upon|go_back)
 (refine(err_no _ b _ h h0).mono ?_;rintro e1 w1 ⟨rfl,n,rfl⟩;dsimp only;(repeat' ((fail_if_success at_builtin);first|go_values|go_skip|go_guarded|go_step|go_upon|go_back)))
 (refine(unless_ok _ _).mono ?_;rintro e1 w2 ⟨rfl,rfl⟩;dsimp only;(repeat' ((fail_if_success at_builtin);first|go_values|go_skip|go_guarded|go_step|go_upon|go_back)))
 refine bodyPost_end (results_none rfl _ _ _) rfl ⟨rfl,by(repeat' (first|(with_reducible exact Below.refl _ _)|(with_reducible assumption)|(with_reducible refine Below.drew ?_)|(with_reducible refine bdrewN ?_ _)|(with_reducible refine Below.alloc ?_ ?_ _)|(with_reducible refine Below.setCell ?_ ?_ _)|omega|(simp;done)|(simp;omega)))⟩
theorem bsure_no(w:World)(b:Nat)(r:RS)(h:Rd w b r)(h0:r.e≠0):Calls Tryz.prog 123 #[.pointer (some ⟨b,0,none⟩)] w fun e' w'=>e' = .panicked [{ v:=brefV r.e,recovered:=false }]/\Below w.heap.size w w':=by
 have e0:(r.e==0)=false:=by simpa using h0
 go_enter Tryz.func123,Tryz.ntmps123
 repeat' ((fail_if_success at_builtin);first|go_values|go_skip|go_guarded|go_step|go_upon|go_back)
 (refine(err_yes _ b _ h h0).mono ?_;rintro e1 w1 ⟨rfl,n,rfl⟩;dsimp only;(repeat' ((fail_if_success at_builtin);first|go_values|go_skip|go_guarded|go_step|go_upon|go_back)))
 (refine(unless_no _ _).mono ?_;rintro e1 w2 ⟨rfl,rfl⟩;dsimp only;(repeat' ((fail_if_success at_builtin);first|go_values|go_skip|go_guarded|go_step|go_upon|go_back)))
 exact⟨rfl,rfl,by(repeat' (first|(with_reducible exact Below.refl _ _)|(with_reducible assumption)|(with_reducible refine Below.drew ?_)|(with_reducible refine bdrewN ?_ _)|(with_reducible refine Below.alloc ?_ ?_ _)|(with_reducible refine Below.setCell ?_ ?_ _)|omega|(simp;done)|(simp;omega)))⟩
def TB(w:World)(g:Nat)(m:TM):Prop:=w.heap[g]? = some (.cells #[.int .i64 m.t.kind,.string ⟨m.t.p.name.toArray⟩,.int .i64 m.t.p.args,.slice m.ca m.t.p.code.length m.cc,.string ⟨m.t.name.toArray⟩,.slice m.aa m.t.args.length m.ac] 175 (0,0))
def TM.nil:TM:=⟨T.nil,none,0,none,0⟩
theorem TB.c{w:World}{g:Nat}{m:TM}(h:TB w g m):w.cell? ⟨g,0,none⟩=some (.int .i64 m.t.kind)/\w.cell? ⟨g,1,none⟩=some (.string ⟨m.t.p.name.toArray⟩)/\w.cell? ⟨g,2,none⟩=some (.int .i64 m.t.p.args)/\w.cell? ⟨g,3,none⟩=some (.slice m.ca m.t.p.code.length m.cc)/\w.cell? ⟨g,4,none⟩=some (.string ⟨m.t.name.toArray⟩)/\w.cell? ⟨g,5,none⟩=some (.slice m.aa m.t.args.length m.ac) :=
 ⟨blk_cell h 0,blk_cell h 1,blk_cell h 2,blk_cell h 3,blk_cell h 4,blk_cell h 5⟩
theorem TB.f{w:World}{g:Nat}{m:TM}(h:TB w g m):w.frozen? ⟨g,0,none⟩=false/\w.frozen? ⟨g,1,none⟩=false/\w.frozen? ⟨g,2,none⟩=false/\w.frozen? ⟨g,3,none⟩=false/\w.frozen? ⟨g,4,none⟩=false/\w.frozen? ⟨g,5,none⟩=false :=
 ⟨blk_free h 0,blk_free h 1,blk_free h 2,blk_free h 3,blk_free h 4,blk_free h 5⟩
structure TL (w0 w:World) (X RV b:Nat) (m:TM) (r:RS):Prop where
 hx:TB w X m
 hv:TB w RV TM.nil
 hr:Rd w b r
 hl:m.lies w
 fr:Fr w0 w (fun k=>k=b)
theorem RowT.kb{w w':World}{b:Nat}{t:TypeId}{a:Option Addr}{cs:List Value}(h:RowT w t a cs)(hk:Kb b w w'){c:Array Value}{t':TypeId}{f:Nat×Nat}(hb:w.heap[b]? = some (.cells c t' f))(ht:t'≠t):RowT w' t a cs :=
 h.kept fun g cur f' hg=>(hk g _ hg (blk_ne hg hb (Ne.symm ht))).trans hg.symm
theorem TM.lies.kb{w w':World}{b:Nat}{m:TM}(h:m.lies w)(hk:Kb b w w'){c:Array Value}{t':TypeId}{f:Nat×Nat}(hb:w.heap[b]? = some (.cells c t' f))(h1:t'≠179)(h2:t'≠177):m.lies w' :=
 ⟨RowT.kb h.code hk hb h1,RowT.kb h.args hk hb h2⟩
theorem TL.read{w0 w w':World}{X RV b:Nat}{m:TM}{r r':RS}(h:TL w0 w X RV b m r)(hf:Fr w w' (fun k=>k=b))(hr:Rd w' b r'):TL w0 w' X RV b m r':=by
 have hk:=Kb.of_fr hf
 obtain⟨c,hc⟩:=h.hr.reader
 exact⟨hk _ _ h.hx (h.hr.ne h.hx (by decide)),hk _ _ h.hv (h.hr.ne h.hv (by decide)),hr,h.hl.kb hk hc (by decide) (by decide),h.fr.trans hf (fun _ _ h _=>h)⟩
theorem TL.below{w0 w w':World}{X RV b:Nat}{m:TM}{r:RS}(h:TL w0 w X RV b m r)(hb:Below w.heap.size w w'):TL w0 w' X RV b m r :=
 ⟨blk_below hb h.hx (blk_lt h.hx),blk_below hb h.hv (blk_lt h.hv),h.hr.pure hb,h.hl.below hb,h.fr.then_below hb⟩
theorem Rd.kb{w w':World}{b g:Nat}{r:RS}(h:Rd w b r)(hk:Kb g w w'){c:Array Value}{t:TypeId}{f:Nat×Nat}(hg:w.heap[g]? = some (.cells c t f))(h1:t≠207)(h2:t≠5):Rd w' b r:=by
 have hne:=h.ne hg h1
 obtain⟨a,c',h3,h4,h5,h6,h7⟩:=h
 refine⟨a,c',hk b _ h3 (Ne.symm hne),h4.kept fun g' o e hlt=>?_,h5,h6,h7.kept fun g' cur f' hg'=>hk g' _ hg' (blk_ne hg' hg (Ne.symm h2))⟩
 obtain⟨cur,f',hg'⟩:=h7 g' o e
 exact(hk g' _ hg' (blk_ne hg' hg (Ne.symm h2))).trans hg'.symm
theorem Kb.set'{w w':World}{b i:Nat}{u:Value}(h:Kb b w w'):Kb b w (w'.setCell ⟨b,i,none⟩ u):=h.trans Kb.set
theorem Fr.kb{w0 w w':World}{b g:Nat}(h:Fr w0 w (fun k=>k=b))(hk:Kb g w w')(hg:w0.heap.size<=g)(hb:Below g w w'):Fr w0 w' (fun k=>k=b) :=
 h.trans (S':=fun k=>k=g) ⟨hb.os,hb.tape,hb.output,hb.size,fun k hlt hn=>by
  obtain⟨ob,hob⟩:∃ ob,w.heap[k]? = some ob:=⟨_,Array.getElem?_eq_getElem hlt⟩
  exact(hk k ob hob hn).trans hob.symm⟩ (fun k hk hn _ e=>by omega)
theorem TL.own{w0 w w':World}{X RV b:Nat}{m m':TM}{r:RS}(h:TL w0 w X RV b m r)(hX:w0.heap.size<=X)(hXR:X≠RV)(hk:Kb X w w')(hb:Below X w w')(hx:TB w' X m')(hl:m'.lies w'):TL w0 w' X RV b m' r :=
 ⟨hx,hk _ _ h.hv (Ne.symm hXR),h.hr.kb hk h.hx (by decide) (by decide),hl,h.fr.kb hk hX hb⟩
set_option maxRecDepth 20000 in
theorem txn_byte(w:World)(b:Nat)(r:RS)(all:Nat)(hR:Rd w b r)(k:UInt8)(r1:RS)(he:r.byte=(k,r1))(h0:r1.e≠0) :
  Calls Tryz.prog 125 #[.pointer (some ⟨b,0,none⟩),.int .i64 (all:Int)] w fun e' w'=>e'=brefE r1.e/\Fr w w' (fun k=>k=b):=by
 have HE:=Lib.hid he
 clear he
 have hR0:=hR.alloc (.cells #[.int .i64 0,.string ⟨#[]⟩,.int .i64 0,.slice none 0 0,.string ⟨#[]⟩,.slice none 0 0] 175)
 have v0:TB (w.alloc (.cells #[.int .i64 0,.string ⟨#[]⟩,.int .i64 0,.slice none 0 0,.string ⟨#[]⟩,.slice none 0 0] 175)) w.heap.size TM.nil:=blk_new _ _
 have hb0:Below w.heap.size w (w.alloc (.cells #[.int .i64 0,.string ⟨#[]⟩,.int .i64 0,.slice none 0 0,.string ⟨#[]⟩,.slice none 0 0] 175)):=by(repeat' (first|(with_reducible exact Below.refl _ _)|(with_reducible assumption)|(with_reducible refine Below.drew ?_)|(with_reducible refine bdrewN ?_ _)|(with_reducible refine Below.alloc ?_ ?_ _)|(with_reducible refine Below.setCell ?_ ?_ _)|omega|(simp;done)|(simp;omega)))
 have hsz0:=Lib.hid (World.size_alloc w (.cells #[.int .i64 0,.string ⟨#[]⟩,.int .i64 0,.slice none 0 0,.string ⟨#[]⟩,.slice none 0 0] 175))
 go_enter Tryz.func125,Tryz.ntmps125
 repeat' ((fail_if_success at_builtin);first|go_values|go_skip|go_guarded|go_step|go_upon|go_back)
 generalize w.alloc (.cells #[.int .i64 0,.string ⟨#[]⟩,.int .i64 0,.slice none 0 0,.string ⟨#[]⟩,.slice none 0 0] 175)=W at hb0 hR0 v0 hsz0 ⊢
 (refine(byte_any W b _ hR0).mono ?_;rintro e1 w2 ⟨rfl,hR2,hF2⟩;dsimp only)
 rw[HE.out] at hR2 ⊢
 dsimp only at hR2 ⊢
 have v2:TB w2 w.heap.size TM.nil:=hF2.blk v0 (hR0.ne v0 (by decide))
 have hk:(k.toNat:Int)<256:=by have:=byte_lt k;omega
 have hk0:(0:Int)<=(k.toNat:Int):=Int.natCast_nonneg _
 have hs2:w.heap.size+1<=w2.heap.size:=by have:=hF2.size;have:=hsz0.out;omega
 have hF0:Fr w w2 (fun k=>k=b):=(Fr.pure hb0 _).trans hF2 (fun _ _ h _=>h)
 clear hb0 hR0 hF2 v0
 repeat' ((fail_if_success (with_reducible (show Code.wp _ (Code.region 2 _ _) _ _ _)));(fail_if_success at_builtin);first|go_values|go_skip|go_guarded|go_step|go_upon|go_back)
 have hb3:Below w2.heap.size w2 (w2.alloc (.cells #[.int .i64 (k.toNat:Int),.string ⟨#[]⟩,.int .i64 0,.slice none 0 0,.string ⟨#[]⟩,.slice none 0 0] 175)):=(Below.refl _ _).alloc (Nat.le_refl _) _
 have x3:TB (w2.alloc (.cells #[.int .i64 (k.toNat:Int),.string ⟨#[]⟩,.int .i64 0,.slice none 0 0,.string ⟨#[]⟩,.slice none 0 0] 175)) w2.heap.size ⟨⟨(k.toNat:Int),P.nil,[],[]⟩,none,0,none,0⟩:=blk_new _ _
 have D3:TL w (w2.alloc (.cells #[.int .i64 (k.toNat:Int),.string ⟨#[]⟩,.int .i64 0,.slice none 0 0,.string ⟨#[]⟩,.slice none 0 0] 175)) w2.heap.size w.heap.size b ⟨⟨(k.toNat:Int),P.nil,[],[]⟩,none,0,none,0⟩ r1:=⟨x3,blk_below hb3 v2 (blk_lt v2),hR2.pure hb3,⟨.inl rfl,.inl rfl⟩,hF0.then_below hb3⟩
 clear v2 hR2 hF0 hb3 x3
 generalize w2.alloc (.cells #[.int .i64 (k.toNat:Int),.string ⟨#[]⟩,.int .i64 0,.slice none 0 0,.string ⟨#[]⟩,.slice none 0 0] 175)=w3 at D3 ⊢
 repeat' ((fail_if_success at_builtin);first|go_values|go_skip|go_guarded|go_step|go_upon|go_back)
 (refine(bsure_no _ b r1 D3.hr h0).mono ?_;rintro e1 w4 ⟨rfl,hb4⟩;dsimp only)
 exact⟨rfl,rfl,D3.fr.then_below hb4⟩
set_option maxRecDepth 20000 in
theorem txn_kind(w:World)(b:Nat)(r:RS)(all:Nat)(hR:Rd w b r)(k:UInt8)(r1:RS)(he:r.byte=(k,r1))(h0:r1.e=0)(h1:k.toNat≠1)(h2:k.toNat≠2)(h3:k.toNat≠3) :
  Calls Tryz.prog 125 #[.pointer (some ⟨b,0,none⟩),.int .i64 (all:Int)] w fun e' w'=>e'=brefE 1/\Fr w w' (fun k=>k=b):=by
 have g1:((k.toNat:Int)==1)=false:=by rw[beq_eq_false_iff_ne];omega
 have g2:((k.toNat:Int)==2)=false:=by rw[beq_eq_false_iff_ne];omega
 have g3:((k.toNat:Int)==3)=false:=by rw[beq_eq_false_iff_ne];omega
 have H0:=Lib.hid h0
 clear h1 h2 h3 h0
 have HE:=Lib.hid he
 clear he
 have hR0:=hR.alloc (.cells #[.int .i64 0,.string ⟨#[]⟩,.int .i64 0,.slice none 0 0,.string ⟨#[]⟩,.slice none 0 0] 175)
 have v0:TB (w.alloc (.cells #[.int .i64 0,.string ⟨#[]⟩,.int .i64 0,.slice none 0 0,.string ⟨#[]⟩,.slice none 0 0] 175)) w.heap.size TM.nil:=blk_new _ _
 have hb0:Below w.heap.size w (w.alloc (.cells #[.int .i64 0,.string ⟨#[]⟩,.int .i64 0,.slice none 0 0,.string ⟨#[]⟩,.slice none 0 0] 175)):=by(repeat' (first|(with_reducible exact Below.refl _ _)|(with_reducible assumption)|(with_reducible refine Below.drew ?_)|(with_reducible refine bdrewN ?_ _)|(with_reducible refine Below.alloc ?_ ?_ _)|(with_reducible refine Below.setCell ?_ ?_ _)|omega|(simp;done)|(simp;omega)))
 have hsz0:=Lib.hid (World.size_alloc w (.cells #[.int .i64 0,.string ⟨#[]⟩,.int .i64 0,.slice none 0 0,.string ⟨#[]⟩,.slice none 0 0] 175))
 go_enter Tryz.func125,Tryz.ntmps125
 repeat' ((fail_if_success at_builtin);first|go_values|go_skip|go_guarded|go_step|go_upon|go_back)
 generalize w.alloc (.cells #[.int .i64 0,.string ⟨#[]⟩,.int .i64 0,.slice none 0 0,.string ⟨#[]⟩,.slice none 0 0] 175)=W at hb0 hR0 v0 hsz0 ⊢
 (refine(byte_any W b _ hR0).mono ?_;rintro e1 w2 ⟨rfl,hR2,hF2⟩;dsimp only)
 rw[HE.out] at hR2 ⊢
 dsimp only at hR2 ⊢
 have v2:TB w2 w.heap.size TM.nil:=hF2.blk v0 (hR0.ne v0 (by decide))
 have hk:(k.toNat:Int)<256:=by have:=byte_lt k;omega
 have hk0:(0:Int)<=(k.toNat:Int):=Int.natCast_nonneg _
 have hs2:w.heap.size+1<=w2.heap.size:=by have:=hF2.size;have:=hsz0.out;omega
 have hF0:Fr w w2 (fun k=>k=b):=(Fr.pure hb0 _).trans hF2 (fun _ _ h _=>h)
 clear hb0 hR0 hF2 v0
 repeat' ((fail_if_success (with_reducible (show Code.wp _ (Code.region 2 _ _) _ _ _)));(fail_if_success at_builtin);first|go_values|go_skip|go_guarded|go_step|go_upon|go_back)
 have hb3:Below w2.heap.size w2 (w2.alloc (.cells #[.int .i64 (k.toNat:Int),.string ⟨#[]⟩,.int .i64 0,.slice none 0 0,.string ⟨#[]⟩,.slice none 0 0] 175)):=(Below.refl _ _).alloc (Nat.le_refl _) _
 have x3:TB (w2.alloc (.cells #[.int .i64 (k.toNat:Int),.string ⟨#[]⟩,.int .i64 0,.slice none 0 0,.string ⟨#[]⟩,.slice none 0 0] 175)) w2.heap.size ⟨⟨(k.toNat:Int),P.nil,[],[]⟩,none,0,none,0⟩:=blk_new _ _
 have D3:TL w (w2.alloc (.cells #[.int .i64 (k.toNat:Int),.string ⟨#[]⟩,.int .i64 0,.slice none 0 0,.string ⟨#[]⟩,.slice none 0 0] 175)) w2.heap.size w.heap.size b ⟨⟨(k.toNat:Int),P.nil,[],[]⟩,none,0,none,0⟩ r1:=⟨x3,blk_below hb3 v2 (blk_lt v2),hR2.pure hb3,⟨.inl rfl,.inl rfl⟩,hF0.then_below hb3⟩
 clear v2 hR2 hF0 hb3 x3
 generalize w2.alloc (.cells #[.int .i64 (k.toNat:Int),.string ⟨#[]⟩,.int .i64 0,.slice none 0 0,.string ⟨#[]⟩,.slice none 0 0] 175)=w3 at D3 ⊢
 repeat' ((fail_if_success at_builtin);first|go_values|go_skip|go_guarded|go_step|go_upon|go_back)
 (refine(bsure_ok _ b r1 D3.hr H0.out).mono ?_;rintro e1 w4 ⟨rfl,hb4⟩;dsimp only)
 have D4:=D3.below hb4
 clear D3 hb4
 have x0:w4.cell? ⟨w2.heap.size,0,none⟩=some (.int .i64 (k.toNat:Int)):=D4.hx.c.1
 repeat' ((fail_if_success at_builtin);first|go_values|go_skip|go_guarded|go_step|go_upon|go_back)
 exact⟨rfl,rfl,D4.fr⟩
theorem TL.name{w0 w:World}{X RV b:Nat}{m:TM}{r:RS}(h:TL w0 w X RV b m r)(hX:w0.heap.size<=X)(hXR:X≠RV)(s:Bs):TL w0 (w.setCell ⟨X,4,none⟩ (.string ⟨s.toArray⟩)) X RV b { m with t:={ m.t with name:=s } } r:=by
 have hk:Kb X w (w.setCell ⟨X,4,none⟩ (.string ⟨s.toArray⟩)):=Kb.set
 have hl:=h.hl.kb hk h.hx (by decide) (by decide)
 exact h.own hX hXR hk ((Below.refl _ _).setCell (p:=⟨X,4,none⟩) (Nat.le_refl _) _) (blk_set h.hx 4 _) ⟨hl.code,hl.args⟩
def setT(w:World)(g:Nat)(m:TM):World:=(((((w.setCell ⟨g,0,none⟩ (.int .i64 m.t.kind)).setCell ⟨g,1,none⟩ (.string ⟨m.t.p.name.toArray⟩)).setCell ⟨g,2,none⟩ (.int .i64 m.t.p.args)).setCell ⟨g,3,none⟩ (.slice m.ca m.t.p.code.length m.cc)).setCell ⟨g,4,none⟩ (.string ⟨m.t.name.toArray⟩)).setCell ⟨g,5,none⟩ (.slice m.aa m.t.args.length m.ac)
theorem setT_kb(w:World)(g:Nat)(m:TM):Kb g w (setT w g m):=Kb.set.trans (Kb.set.trans (Kb.set.trans (Kb.set.trans (Kb.set.trans Kb.set))))
theorem setT_below(w:World)(g:Nat)(m:TM):Below g w (setT w g m) :=
 ((((((Below.refl _ _).setCell (p:=⟨g,0,none⟩) (Nat.le_refl _) _).setCell (p:=⟨g,1,none⟩) (Nat.le_refl _) _).setCell (p:=⟨g,2,none⟩) (Nat.le_refl _) _).setCell (p:=⟨g,3,none⟩) (Nat.le_refl _) _).setCell (p:=⟨g,4,none⟩) (Nat.le_refl _) _).setCell (p:=⟨g,5,none⟩) (Nat.le_refl _) _
theorem TB.set{w:World}{g:Nat}{y:TM}(h:TB w g y)(m:TM):TB (setT w g m) g m:=by
 unfold TB at h
 have h0:=blk_set h 0 (.int .i64 m.t.kind)
 have h1:=blk_set h0 1 (.string ⟨m.t.p.name.toArray⟩)
 have h2:=blk_set h1 2 (.int .i64 m.t.p.args)
 have h3:=blk_set h2 3 (.slice m.ca m.t.p.code.length m.cc)
 have h4:=blk_set h3 4 (.string ⟨m.t.name.toArray⟩)
 have h5:=blk_set h4 5 (.slice m.aa m.t.args.length m.ac)
 exact h5
theorem TL.ret{w0 w:World}{X RV b:Nat}{m:TM}{r:RS}(h:TL w0 w X RV b m r)(hX:w0.heap.size<=RV):TB (setT w RV m) RV m/\Rd (setT w RV m) b r/\m.lies (setT w RV m)/\Fr w0 (setT w RV m) (fun k=>k=b) :=
 ⟨h.hv.set m,h.hr.kb (setT_kb _ _ _) h.hv (by decide) (by decide),h.hl.kb (setT_kb _ _ _) h.hv (by decide) (by decide),h.fr.kb (setT_kb _ _ _) hX (setT_below _ _ _)⟩
theorem decT_1{all:Nat}{r r1:RS}{k:UInt8}(he:r.byte=(k,r1))(h0:r1.e=0)(h1:k.toNat=1){s:Bs}{r2:RS}(ht:r1.text (all:Int)=(s,r2)) :
  decT all r=if r2.e≠0 then (T.nil,r2,r2.e) else if (decP s).2≠0 then (T.nil,r2,(decP s).2) else (⟨1,(decP s).1,[],[]⟩,r2,0):=by
 unfold decT;simp[he,h0,h1,ht]
theorem decT_3{all:Nat}{r r1:RS}{k:UInt8}(he:r.byte=(k,r1))(h0:r1.e=0)(h1:k.toNat=3){s:Bs}{r2:RS}(ht:r1.text 32=(s,r2)) :
  decT all r=if r2.e≠0 then (T.nil,r2,r2.e) else (⟨3,P.nil,s,[]⟩,r2,0):=by
 unfold decT;simp[he,h0,h1,ht]
theorem TL.proc{w0 w:World}{X RV b:Nat}{m:TM}{r:RS}(h:TL w0 w X RV b m r)(hX:w0.heap.size<=X)(hXR:X≠RV)(p:P)(ca:Option Addr)(cc:Nat)(hc:Code2 w ca p.code) :
  TL w0 (((w.setCell ⟨X,1,none⟩ (.string ⟨p.name.toArray⟩)).setCell ⟨X,2,none⟩ (.int .i64 p.args)).setCell ⟨X,3,none⟩ (.slice ca p.code.length cc)) X RV b ⟨{ m.t with p:=p },ca,cc,m.aa,m.ac⟩ r:=by
 have hk:Kb X w (((w.setCell ⟨X,1,none⟩ (.string ⟨p.name.toArray⟩)).setCell ⟨X,2,none⟩ (.int .i64 p.args)).setCell ⟨X,3,none⟩ (.slice ca p.code.length cc)):=Kb.set.trans (Kb.set.trans Kb.set)
 have hl:=h.hl.kb hk h.hx (by decide) (by decide)
 exact h.own hX hXR hk ((((Below.refl _ _).setCell (p:=⟨X,1,none⟩) (Nat.le_refl _) _).setCell (p:=⟨X,2,none⟩) (Nat.le_refl _) _).setCell (p:=⟨X,3,none⟩) (Nat.le_refl _) _) (blk_set (blk_set (blk_set h.hx 1 _) 2 _) 3 _) ⟨RowT.kb hc hk h.hx (by decide),hl.args⟩
set_option maxRecDepth 20000 in
theorem txn_1(w:World)(b:Nat)(r:RS)(all:Nat)(hR:Rd w b r)(k:UInt8)(r1:RS)(he:r.byte=(k,r1))(h0:r1.e=0)(h1:k.toNat=1)(ha:all<=17592186044416)(Q:Ending->World->Prop)
  (hno:∀ e w',(decT all r).2.2=e->e≠0->Fr w w' (fun k=>k=b)->Q (brefE e) w')
  (hyes:∀ (m:TM) (r2:RS) (w':World),decT all r=(m.t,r2,0)->Rd w' b r2->m.lies w'->Fr w w' (fun k=>k=b)->Q (.returned (.agg m.cells)) w') :
  Calls Tryz.prog 125 #[.pointer (some ⟨b,0,none⟩),.int .i64 (all:Int)] w Q:=by
 obtain⟨s,r2,ht⟩:∃ s r2,r1.text (all:Int)=(s,r2):=⟨_,_,rfl⟩
 have HDI:=Lib.hid (decT_1 he h0 h1 ht)
 have HT:=Lib.hid ht
 have H0:=Lib.hid h0
 have H1:=Lib.hid h1
 have HNO:=Lib.hid hno
 have HYES:=Lib.hid hyes
 have HB:=Lib.hid (show -9223372036854775808<=(all:Int)/\(all:Int)<9223372036854775808 by omega)
 clear h0 h1 hno hyes ht ha
 have HE:=Lib.hid he
 clear he
 have hR0:=hR.alloc (.cells #[.int .i64 0,.string ⟨#[]⟩,.int .i64 0,.slice none 0 0,.string ⟨#[]⟩,.slice none 0 0] 175)
 have v0:TB (w.alloc (.cells #[.int .i64 0,.string ⟨#[]⟩,.int .i64 0,.slice none 0 0,.string ⟨#[]⟩,.slice none 0 0] 175)) w.heap.size TM.nil:=blk_new _ _
 have hb0:Below w.heap.size w (w.alloc (.cells #[.int .i64 0,.string ⟨#[]⟩,.int .i64 0,.slice none 0 0,.string ⟨#[]⟩,.slice none 0 0] 175)):=by(repeat' (first|(with_reducible exact Below.refl _ _)|(with_reducible assumption)|(with_reducible refine Below.drew ?_)|(with_reducible refine bdrewN ?_ _)|(with_reducible refine Below.alloc ?_ ?_ _)|(with_reducible refine Below.setCell ?_ ?_ _)|omega|(simp;done)|(simp;omega)))
 have hsz0:=Lib.hid (World.size_alloc w (.cells #[.int .i64 0,.string ⟨#[]⟩,.int .i64 0,.slice none 0 0,.string ⟨#[]⟩,.slice none 0 0] 175))
 go_enter Tryz.func125,Tryz.ntmps125
 repeat' ((fail_if_success at_builtin);first|go_values|go_skip|go_guarded|go_step|go_upon|go_back)
 generalize w.alloc (.cells #[.int .i64 0,.string ⟨#[]⟩,.int .i64 0,.slice none 0 0,.string ⟨#[]⟩,.slice none 0 0] 175)=W at hb0 hR0 v0 hsz0 ⊢
 (refine(byte_any W b _ hR0).mono ?_;rintro e1 w2 ⟨rfl,hR2,hF2⟩;dsimp only)
 rw[HE.out] at hR2 ⊢
 dsimp only at hR2 ⊢
 have v2:TB w2 w.heap.size TM.nil:=hF2.blk v0 (hR0.ne v0 (by decide))
 have hk:(k.toNat:Int)<256:=by have:=byte_lt k;omega
 have hk0:(0:Int)<=(k.toNat:Int):=Int.natCast_nonneg _
 have hs2:w.heap.size+1<=w2.heap.size:=by have:=hF2.size;have:=hsz0.out;omega
 have hF0:Fr w w2 (fun k=>k=b):=(Fr.pure hb0 _).trans hF2 (fun _ _ h _=>h)
 clear hb0 hR0 hF2 v0
 repeat' ((fail_if_success (with_reducible (show Code.wp _ (Code.region 2 _ _) _ _ _)));(fail_if_success at_builtin);first|go_values|go_skip|go_guarded|go_step|go_upon|go_back)
 have hb3:Below w2.heap.size w2 (w2.alloc (.cells #[.int .i64 (k.toNat:Int),.string ⟨#[]⟩,.int .i64 0,.slice none 0 0,.string ⟨#[]⟩,.slice none 0 0] 175)):=(Below.refl _ _).alloc (Nat.le_refl _) _
 have x3:TB (w2.alloc (.cells #[.int .i64 (k.toNat:Int),.string ⟨#[]⟩,.int .i64 0,.slice none 0 0,.string ⟨#[]⟩,.slice none 0 0] 175)) w2.heap.size ⟨⟨(k.toNat:Int),P.nil,[],[]⟩,none,0,none,0⟩:=blk_new _ _
 have D3:TL w (w2.alloc (.cells #[.int .i64 (k.toNat:Int),.string ⟨#[]⟩,.int .i64 0,.slice none 0 0,.string ⟨#[]⟩,.slice none 0 0] 175)) w2.heap.size w.heap.size b ⟨⟨(k.toNat:Int),P.nil,[],[]⟩,none,0,none,0⟩ r1:=⟨x3,blk_below hb3 v2 (blk_lt v2),hR2.pure hb3,⟨.inl rfl,.inl rfl⟩,hF0.then_below hb3⟩
 clear v2 hR2 hF0 hb3 x3
 generalize w2.alloc (.cells #[.int .i64 (k.toNat:Int),.string ⟨#[]⟩,.int .i64 0,.slice none 0 0,.string ⟨#[]⟩,.slice none 0 0] 175)=w3 at D3 ⊢
 repeat' ((fail_if_success (with_reducible (show Code.wp _ (Code.region 3 _ _) _ _ _)));(fail_if_success at_builtin);first|go_values|go_skip|go_guarded|go_step|go_upon|go_back)
 rw[H1.out] at D3 ⊢
 repeat' ((fail_if_success at_builtin);first|go_values|go_skip|go_guarded|go_step|go_upon|go_back)
 (refine(bsure_ok _ b r1 D3.hr H0.out).mono ?_;rintro e1 w4 ⟨rfl,hb4⟩;dsimp only)
 have D4:=D3.below hb4
 clear D3 hb4 hk hk0
 have x0:w4.cell? ⟨w2.heap.size,0,none⟩=some (.int .i64 1):=D4.hx.c.1
 have hXR:Hid (w2.heap.size≠w.heap.size):=Lib.hid (by omega)
 have hXX:Hid (w.heap.size<=w2.heap.size):=Lib.hid (by omega)
 repeat' ((fail_if_success at_builtin);first|go_values|go_skip|go_guarded|go_step|go_upon|go_back)
 clear x0
 (refine(text_any w4 b _ D4.hr (all:Int) HB.out).mono ?_;rintro e1 w5 ⟨rfl,hR5,hF5⟩;dsimp only)
 rw[HT.out] at hR5 ⊢
 dsimp only at hR5 ⊢
 have D5:=D4.read hF5 hR5
 have HSL:=Lib.hid (show s.length<=17592186044416 by have:=r1.text_len (all:Int);rw[HT.out] at this;exact Nat.le_trans this D4.hr.le)
 clear D4 hR5 hF5
 by_cases hE:r2.e=0
 ·have HE2:=Lib.hid hE
  have hok:=HDI.out
  rw[if_neg (by simp[hE])] at hok
  have HOK:=Lib.hid hok
  clear hE hok
  repeat' ((fail_if_success at_builtin);first|go_values|go_skip|go_guarded|go_step|go_upon|go_back)
  (refine(bsure_ok _ b _ D5.hr HE2.out).mono ?_;rintro e1 w6 ⟨rfl,hb6⟩;dsimp only)
  have D6:=D5.below hb6
  clear D5 hb6
  obtain⟨hsb1,hsb2⟩:=sb_list w6 s
  have hcv:=run_sbytes w6 ⟨s.toArray⟩
  repeat' ((fail_if_success at_builtin);first|go_values|go_skip|go_guarded|go_step|go_upon|go_back)
  refine decP_any _ _ _ s hsb2 HSL.out _ ?_
  intro ca cc w7 hcode hclen hcnil hb7
  dsimp only
  have D7:=(D6.below hsb1).below hb7
  clear D6 hsb1 hsb2 hb7 hcv hclen hcnil
  obtain⟨p,ev,hdp⟩:∃ p ev,decP s=(p,ev):=⟨_,_,rfl⟩
  rw[hdp] at hcode ⊢
  have hok:=HOK.out
  rw[hdp] at hok
  dsimp only at hok hcode ⊢
  clear hdp HOK
  have nw:=blk_new w7 (.cells #[.string ⟨p.name.toArray⟩,.int .i64 p.args,.slice ca p.code.length cc] 172)
  have hbn:Below w7.heap.size w7 (w7.alloc (.cells #[.string ⟨p.name.toArray⟩,.int .i64 p.args,.slice ca p.code.length cc] 172)):=(Below.refl _ w7).alloc (Nat.le_refl _) _
  have D8:=D7.below hbn
  have hcode8:Code2 _ ca p.code:=RowT.below hcode hbn
  clear D7 hcode hbn
  by_cases hE:ev=0
  ·subst hE
   rw[if_neg (by simp)] at hok
   have HOK:=Lib.hid hok
   clear hok
   repeat' ((fail_if_success (with_reducible (show Code.wp _ (Code.region 9 _ _) _ _ _)));(fail_if_success at_builtin);first|go_values|go_skip|go_guarded|go_step|go_upon|go_back)
   generalize w7.alloc (.cells #[.string ⟨p.name.toArray⟩,.int .i64 p.args,.slice ca p.code.length cc] 172)=w8 at nw D8 hcode8 ⊢
   repeat' ((fail_if_success at_builtin);first|go_values|go_skip|go_guarded|go_step|go_upon|go_back)
   (refine(unless_ok _ _).mono ?_;rintro e1 w9 ⟨rfl,rfl⟩;dsimp only)
   obtain⟨n0,n1,n2,-⟩:=blk3 nw
   obtain⟨x0,x1,x2,x3,x4,x5⟩:=D8.hx.c
   obtain⟨f0,f1,f2,f3,f4,f5⟩:=D8.hx.f
   dsimp only at x0 x1 x2 x3 x4 x5
   repeat' ((fail_if_success (with_reducible (show Code.wp _ (Code.region 27 _ _) _ _ _)));(fail_if_success at_builtin);first|go_values|go_skip|go_guarded|go_step|go_upon|go_back)
   have D9:=D8.proc hXX.out hXR.out p ca cc hcode8
   clear n0 n1 n2 x0 x1 x2 x3 x4 x5 f0 f1 f2 f3 f4 f5 D8 hcode8 nw
   generalize ((w8.setCell ⟨w2.heap.size,1,none⟩ (.string ⟨p.name.toArray⟩)).setCell ⟨w2.heap.size,2,none⟩ (.int .i64 p.args)).setCell ⟨w2.heap.size,3,none⟩ (.slice ca p.code.length cc)=w9 at D9 ⊢
   have D10:TL w w9 w2.heap.size w.heap.size b ⟨⟨1,p,[],[]⟩,ca,cc,none,0⟩ r2:=D9
   clear D9
   obtain⟨m,D11,hok⟩:∃ m:TM,TL w w9 w2.heap.size w.heap.size b m r2/\decT all r=(m.t,r2,0):=⟨_,D10,HOK.out⟩
   have HOK3:=Lib.hid hok
   clear hok D10
   obtain⟨x0,x1,x2,x3,x4,x5⟩:=(D11).hx.c;obtain⟨v0,v1,v2,v3,v4,v5⟩:=(D11).hv.c;obtain⟨f0,f1,f2,f3,f4,f5⟩:=(D11).hv.f;(repeat' ((fail_if_success at_builtin);first|go_values|go_skip|go_guarded|go_step|go_upon|go_back));obtain⟨hb9,hr9,hl9,hf9⟩:=(D11).ret (by omega);obtain⟨z0,z1,z2,z3,z4,z5⟩:=hb9.c;have hfin:=HYES.out _ _ _ HOK3.out hr9 hl9 hf9;unfold setT at z0 z1 z2 z3 z4 z5 hfin;clear x0 x1 x2 x3 x4 x5 v0 v1 v2 v3 v4 v5 f0 f1 f2 f3 f4 f5;exact bodyPost_ret (v := .agg (TM.cells m)) (by simp[results,Tryz.results125,go_sem,z0,z1,z2,z3,z4,z5,TM.cells]) rfl hfin
  ·have e0:(ev==0)=false:=by simpa using hE
   have HE3:=Lib.hid hE
   rw[if_pos hE] at hok
   have HOK:=Lib.hid hok
   clear hE hok
   repeat' ((fail_if_success at_builtin);first|go_values|go_skip|go_guarded|go_step|go_upon|go_back)
   (refine(unless_no _ _).mono ?_;rintro e1 w9 ⟨rfl,rfl⟩;dsimp only)
   exact⟨rfl,HNO.out _ _ (by rw[HOK.out]) HE3.out D8.fr⟩
 ·have HE2:=Lib.hid hE
  clear hE
  repeat' ((fail_if_success at_builtin);first|go_values|go_skip|go_guarded|go_step|go_upon|go_back)
  (refine(bsure_no _ b _ D5.hr HE2.out).mono ?_;rintro e1 w6 ⟨rfl,hb6⟩;dsimp only)
  exact⟨rfl,HNO.out _ _ (by rw[HDI.out,if_pos HE2.out]) HE2.out (D5.fr.then_below hb6)⟩
set_option maxRecDepth 20000 in
theorem txn_3(w:World)(b:Nat)(r:RS)(all:Nat)(hR:Rd w b r)(k:UInt8)(r1:RS)(he:r.byte=(k,r1))(h0:r1.e=0)(h1:k.toNat=3)(ha:all<=17592186044416)(Q:Ending->World->Prop)
  (hno:∀ e w',(decT all r).2.2=e->e≠0->Fr w w' (fun k=>k=b)->Q (brefE e) w')
  (hyes:∀ (m:TM) (r2:RS) (w':World),decT all r=(m.t,r2,0)->Rd w' b r2->m.lies w'->Fr w w' (fun k=>k=b)->Q (.returned (.agg m.cells)) w') :
  Calls Tryz.prog 125 #[.pointer (some ⟨b,0,none⟩),.int .i64 (all:Int)] w Q:=by
 obtain⟨s,r2,ht⟩:∃ s r2,r1.text 32=(s,r2):=⟨_,_,rfl⟩
 have HDI:=Lib.hid (decT_3 (all:=all) he h0 h1 ht)
 have HT:=Lib.hid ht
 have H0:=Lib.hid h0
 have H1:=Lib.hid h1
 have HNO:=Lib.hid hno
 have HYES:=Lib.hid hyes
 clear h0 h1 hno hyes ht ha
 have HE:=Lib.hid he
 clear he
 have hR0:=hR.alloc (.cells #[.int .i64 0,.string ⟨#[]⟩,.int .i64 0,.slice none 0 0,.string ⟨#[]⟩,.slice none 0 0] 175)
 have v0:TB (w.alloc (.cells #[.int .i64 0,.string ⟨#[]⟩,.int .i64 0,.slice none 0 0,.string ⟨#[]⟩,.slice none 0 0] 175)) w.heap.size TM.nil:=blk_new _ _
 have hb0:Below w.heap.size w (w.alloc (.cells #[.int .i64 0,.string ⟨#[]⟩,.int .i64 0,.slice none 0 0,.string ⟨#[]⟩,.slice none 0 0] 175)):=by(repeat' (first|(with_reducible exact Below.refl _ _)|(with_reducible assumption)|(with_reducible refine Below.drew ?_)|(with_reducible refine bdrewN ?_ _)|(with_reducible refine Below.alloc ?_ ?_ _)|(with_reducible refine Below.setCell ?_ ?_ _)|omega|(simp;done)|(simp;omega)))
 have hsz0:=Lib.hid (World.size_alloc w (.cells #[.int .i64 0,.string ⟨#[]⟩,.int .i64 0,.slice none 0 0,.string ⟨#[]⟩,.slice none 0 0] 175))
 go_enter Tryz.func125,Tryz.ntmps125
 repeat' ((fail_if_success at_builtin);first|go_values|go_skip|go_guarded|go_step|go_upon|go_back)
 generalize w.alloc (.cells #[.int .i64 0,.string ⟨#[]⟩,.int .i64 0,.slice none 0 0,.string ⟨#[]⟩,.slice none 0 0] 175)=W at hb0 hR0 v0 hsz0 ⊢
 (refine(byte_any W b _ hR0).mono ?_;rintro e1 w2 ⟨rfl,hR2,hF2⟩;dsimp only)
 rw[HE.out] at hR2 ⊢
 dsimp only at hR2 ⊢
 have v2:TB w2 w.heap.size TM.nil:=hF2.blk v0 (hR0.ne v0 (by decide))
 have hk:(k.toNat:Int)<256:=by have:=byte_lt k;omega
 have hk0:(0:Int)<=(k.toNat:Int):=Int.natCast_nonneg _
 have hs2:w.heap.size+1<=w2.heap.size:=by have:=hF2.size;have:=hsz0.out;omega
 have hF0:Fr w w2 (fun k=>k=b):=(Fr.pure hb0 _).trans hF2 (fun _ _ h _=>h)
 clear hb0 hR0 hF2 v0
 repeat' ((fail_if_success (with_reducible (show Code.wp _ (Code.region 2 _ _) _ _ _)));(fail_if_success at_builtin);first|go_values|go_skip|go_guarded|go_step|go_upon|go_back)
 have hb3:Below w2.heap.size w2 (w2.alloc (.cells #[.int .i64 (k.toNat:Int),.string ⟨#[]⟩,.int .i64 0,.slice none 0 0,.string ⟨#[]⟩,.slice none 0 0] 175)):=(Below.refl _ _).alloc (Nat.le_refl _) _
 have x3:TB (w2.alloc (.cells #[.int .i64 (k.toNat:Int),.string ⟨#[]⟩,.int .i64 0,.slice none 0 0,.string ⟨#[]⟩,.slice none 0 0] 175)) w2.heap.size ⟨⟨(k.toNat:Int),P.nil,[],[]⟩,none,0,none,0⟩:=blk_new _ _
 have D3:TL w (w2.alloc (.cells #[.int .i64 (k.toNat:Int),.string ⟨#[]⟩,.int .i64 0,.slice none 0 0,.string ⟨#[]⟩,.slice none 0 0] 175)) w2.heap.size w.heap.size b ⟨⟨(k.toNat:Int),P.nil,[],[]⟩,none,0,none,0⟩ r1:=⟨x3,blk_below hb3 v2 (blk_lt v2),hR2.pure hb3,⟨.inl rfl,.inl rfl⟩,hF0.then_below hb3⟩
 clear v2 hR2 hF0 hb3 x3
 generalize w2.alloc (.cells #[.int .i64 (k.toNat:Int),.string ⟨#[]⟩,.int .i64 0,.slice none 0 0,.string ⟨#[]⟩,.slice none 0 0] 175)=w3 at D3 ⊢
 repeat' ((fail_if_success (with_reducible (show Code.wp _ (Code.region 3 _ _) _ _ _)));(fail_if_success at_builtin);first|go_values|go_skip|go_guarded|go_step|go_upon|go_back)
 rw[H1.out] at D3 ⊢
 repeat' ((fail_if_success at_builtin);first|go_values|go_skip|go_guarded|go_step|go_upon|go_back)
 (refine(bsure_ok _ b r1 D3.hr H0.out).mono ?_;rintro e1 w4 ⟨rfl,hb4⟩;dsimp only)
 have D4:=D3.below hb4
 clear D3 hb4 hk hk0
 have x0:w4.cell? ⟨w2.heap.size,0,none⟩=some (.int .i64 3):=D4.hx.c.1
 have hXR:Hid (w2.heap.size≠w.heap.size):=Lib.hid (by omega)
 have hXX:Hid (w.heap.size<=w2.heap.size):=Lib.hid (by omega)
 repeat' ((fail_if_success at_builtin);first|go_values|go_skip|go_guarded|go_step|go_upon|go_back)
 clear x0
 (refine(text_any w4 b _ D4.hr 32 (by decide)).mono ?_;rintro e1 w5 ⟨rfl,hR5,hF5⟩;dsimp only)
 rw[HT.out] at hR5 ⊢
 dsimp only at hR5 ⊢
 have D5:=D4.read hF5 hR5
 clear D4 hR5 hF5
 obtain⟨x0,x1,x2,x3,x4,x5⟩:=D5.hx.c
 obtain⟨f0,f1,f2,f3,f4,f5⟩:=D5.hx.f
 dsimp only at x0 x1 x2 x3 x4 x5
 repeat' ((fail_if_success (with_reducible (show Code.wp _ (Code.region 13 _ _) _ _ _)));(fail_if_success at_builtin);first|go_values|go_skip|go_guarded|go_step|go_upon|go_back)
 have D6:=D5.name hXX.out hXR.out s
 clear x0 x1 x2 x3 x4 x5 f0 f1 f2 f3 f4 f5 D5
 generalize w5.setCell ⟨w2.heap.size,4,none⟩ (.string ⟨s.toArray⟩)=w6 at D6 ⊢
 by_cases hE:r2.e=0
 ·have HE2:=Lib.hid hE
  have hok:=HDI.out
  rw[if_neg (by simp[hE])] at hok
  have HOK:=Lib.hid hok
  clear hE hok
  repeat' ((fail_if_success at_builtin);first|go_values|go_skip|go_guarded|go_step|go_upon|go_back)
  (refine(bsure_ok _ b _ D6.hr HE2.out).mono ?_;rintro e1 w7 ⟨rfl,hb7⟩;dsimp only)
  have D10:TL w w7 w2.heap.size w.heap.size b ⟨⟨3,P.nil,s,[]⟩,none,0,none,0⟩ r2:=D6.below hb7
  clear D6 hb7
  obtain⟨m,D11,hok⟩:∃ m:TM,TL w w7 w2.heap.size w.heap.size b m r2/\decT all r=(m.t,r2,0):=⟨_,D10,HOK.out⟩
  have HOK3:=Lib.hid hok
  clear hok D10
  obtain⟨x0,x1,x2,x3,x4,x5⟩:=(D11).hx.c;obtain⟨v0,v1,v2,v3,v4,v5⟩:=(D11).hv.c;obtain⟨f0,f1,f2,f3,f4,f5⟩:=(D11).hv.f;(repeat' ((fail_if_success at_builtin);first|go_values|go_skip|go_guarded|go_step|go_upon|go_back));obtain⟨hb9,hr9,hl9,hf9⟩:=(D11).ret (by omega);obtain⟨z0,z1,z2,z3,z4,z5⟩:=hb9.c;have hfin:=HYES.out _ _ _ HOK3.out hr9 hl9 hf9;unfold setT at z0 z1 z2 z3 z4 z5 hfin;clear x0 x1 x2 x3 x4 x5 v0 v1 v2 v3 v4 v5 f0 f1 f2 f3 f4 f5;exact bodyPost_ret (v := .agg (TM.cells m)) (by simp[results,Tryz.results125,go_sem,z0,z1,z2,z3,z4,z5,TM.cells]) rfl hfin
 ·have HE2:=Lib.hid hE
  clear hE
  repeat' ((fail_if_success at_builtin);first|go_values|go_skip|go_guarded|go_step|go_upon|go_back)
  (refine(bsure_no _ b _ D6.hr HE2.out).mono ?_;rintro e1 w7 ⟨rfl,hb7⟩;dsimp only)
  exact⟨rfl,HNO.out _ _ (by rw[HDI.out,if_pos HE2.out]) HE2.out (D6.fr.then_below hb7)⟩
theorem Tryz.info177:(Tryz.prog.info? 177).map (fun i=>(i.zero,i.size,i.bytes))=some (some (.agg #[.int .i64 0,.int .i64 0,.string ⟨#[]⟩]),3,32):=by kernel_rfl
theorem decT_2{all:Nat}{r r1:RS}{k:UInt8}(he:r.byte=(k,r1))(h0:r1.e=0)(h1:k.toNat=2){s:Bs}{r2 r3:RS}{n:Nat}(ht:r1.text 32=(s,r2))(hn:r2.number=(n,r3)) :
  decT all r=if r3.e≠0 then (T.nil,r3,r3.e) else if 16<n then (T.nil,r3,4) else
   if (decVs all n [] r3).2.2≠0 then (T.nil,(decVs all n [] r3).2.1,(decVs all n [] r3).2.2) else (⟨2,P.nil,s,(decVs all n [] r3).1⟩,(decVs all n [] r3).2.1,0):=by
 unfold decT;simp[he,h0,h1,ht,hn]
theorem decVs_t{all n:Nat}{l:List V}{r r2:RS}{s:Bs}(h:r.text (all:Int)=(s,r2))(he:r2.e≠0):decVs all (n+1) l r=(l,r2,r2.e):=by simp[decVs,h,he]
theorem decVs_no{all n:Nat}{l:List V}{r r2:RS}{s:Bs}{v:V}{e:Int}(h:r.text (all:Int)=(s,r2))(he:r2.e=0)(hv:decV s=(v,e))(he2:e≠0):decVs all (n+1) l r=(l,r2,e):=by simp[decVs,h,he,hv,he2]
theorem decVs_ok{all n:Nat}{l:List V}{r r2:RS}{s:Bs}{v:V}(h:r.text (all:Int)=(s,r2))(he:r2.e=0)(hv:decV s=(v,0)):decVs all (n+1) l r=decVs all n (l++[v]) r2:=by simp[decVs,h,he,hv]
theorem TL.app{w0 w w':World}{X RV b gg cap ac:Nat}{aa:Option Addr}{s:Bs}{args:List V}{r:RS}(h:TL w0 w X RV b ⟨⟨2,P.nil,s,args⟩,none,0,aa,ac⟩ r)(hX:w0.heap.size<=X)(hXR:X≠RV)
  (own:w.ownsRow w0.heap.size 177 3 (.slice aa args.length ac) args.length (args.flatMap V.row)) (o:Obj) (hg:(w.alloc o).grownBy w' (Value.slice aa args.length ac).ownBlock) (v:V)
  (ho:w'.ownsRow w0.heap.size 177 3 (.slice (some ⟨gg,0,none⟩) (args.length+1) cap) (args.length+1) (args.flatMap V.row++V.row v)) :
  w'.cell? ⟨X,5,none⟩=some (.slice aa args.length ac)/\w'.frozen? ⟨X,5,none⟩=false /\
  TL w0 (w'.setCell ⟨X,5,none⟩ (.slice (some ⟨gg,0,none⟩) (args.length+1) cap)) X RV b ⟨⟨2,P.nil,s,args++[v]⟩,none,0,some ⟨gg,0,none⟩,cap⟩ r /\
  (w'.setCell ⟨X,5,none⟩ (.slice (some ⟨gg,0,none⟩) (args.length+1) cap)).ownsRow w0.heap.size 177 3 (.slice (some ⟨gg,0,none⟩) (args++[v]).length cap) (args++[v]).length ((args++[v]).flatMap V.row):=by
 have hk:∀ {k:Nat} {c:Array Value} {t:TypeId} {f:Nat×Nat},w.heap[k]? = some (.cells c t f)->t≠177->w'.heap[k]? = some (.cells c t f):=fun{k c t f} hb ht=>blk_grown hg (blk_alloc hb o) (own_ne own hb ht)
 have hx':TB w' X ⟨⟨2,P.nil,s,args⟩,none,0,aa,ac⟩:=hk h.hx (by decide)
 have hfr:Fr w0 w' (fun k=>k=b):=(h.fr.alloc o).grown hg (fun k e => .inr (own_ge own e))
 have hr':Rd w' b r:=by
  obtain⟨a,c,h1,h2,h3,h4,h5⟩:=h.hr
  refine⟨a,c,hk h1 (by decide),h2.kept fun g o' e hlt=>?_,h3,h4,h5.kept fun g cur f hg=>hk hg (by decide)⟩
  obtain⟨cur,f,hg⟩:=h5 g o' e
  exact(hk hg (by decide)).trans hg.symm
 have hL:TL w0 w' X RV b ⟨⟨2,P.nil,s,[]⟩,none,0,none,0⟩ r->True:=fun _=>trivial
 have hset:Kb X w' (w'.setCell ⟨X,5,none⟩ (.slice (some ⟨gg,0,none⟩) (args.length+1) cap)):=Kb.set
 have hown:=own_kb ho hset hx' (by decide)
 have hlen:(args++[v]).length=args.length+1:=by simp
 have hfl:(args++[v]).flatMap V.row=args.flatMap V.row++V.row v:=by simp
 refine⟨blk_cell hx' 5,blk_free hx' 5,?_,by rw[hlen,hfl];exact hown⟩
 have hb:Below X w' (w'.setCell ⟨X,5,none⟩ (.slice (some ⟨gg,0,none⟩) (args.length+1) cap)):=(Below.refl _ _).setCell (p:=⟨X,5,none⟩) (Nat.le_refl _) _
 obtain⟨a',c',e,-,-,hrow,-⟩:=own_rowT hown
 cases e
 refine⟨?_,hset _ _ (hk h.hv (by decide)) (Ne.symm hXR),hr'.kb hset hx' (by decide) (by decide),⟨.inl rfl,?_⟩,hfr.kb hset hX hb⟩
 ·unfold TB
  dsimp only
  rw[hlen]
  exact blk_set hx' 5 _
 ·unfold Vals
  dsimp only
  rw[hfl]
  exact hrow
set_option maxRecDepth 20000 in
theorem txn_2(w:World)(b:Nat)(r:RS)(all:Nat)(hR:Rd w b r)(k:UInt8)(r1:RS)(he:r.byte=(k,r1))(h0:r1.e=0)(h1:k.toNat=2)(ha:all<=17592186044416)(Q:Ending->World->Prop)
  (hno:∀ e w',(decT all r).2.2=e->e≠0->Fr w w' (fun k=>k=b)->Q (brefE e) w')
  (hyes:∀ (m:TM) (r2:RS) (w':World),decT all r=(m.t,r2,0)->Rd w' b r2->m.lies w'->Fr w w' (fun k=>k=b)->Q (.returned (.agg m.cells)) w') :
  Calls Tryz.prog 125 #[.pointer (some ⟨b,0,none⟩),.int .i64 (all:Int)] w Q:=by
 obtain⟨s,r2,ht⟩:∃ s r2,r1.text 32=(s,r2):=⟨_,_,rfl⟩
 obtain⟨n,r3,hn⟩:∃ n r3,r2.number=(n,r3):=⟨_,_,rfl⟩
 have HDI:=Lib.hid (decT_2 (all:=all) he h0 h1 ht hn)
 have HT:=Lib.hid ht
 have HN:=Lib.hid hn
 have H0:=Lib.hid h0
 have H1:=Lib.hid h1
 have HNO:=Lib.hid hno
 have HYES:=Lib.hid hyes
 have HB:=Lib.hid (show -9223372036854775808<=(all:Int)/\(all:Int)<9223372036854775808 by omega)
 clear h0 h1 hno hyes ht ha hn
 have HE:=Lib.hid he
 clear he
 have hR0:=hR.alloc (.cells #[.int .i64 0,.string ⟨#[]⟩,.int .i64 0,.slice none 0 0,.string ⟨#[]⟩,.slice none 0 0] 175)
 have v0:TB (w.alloc (.cells #[.int .i64 0,.string ⟨#[]⟩,.int .i64 0,.slice none 0 0,.string ⟨#[]⟩,.slice none 0 0] 175)) w.heap.size TM.nil:=blk_new _ _
 have hb0:Below w.heap.size w (w.alloc (.cells #[.int .i64 0,.string ⟨#[]⟩,.int .i64 0,.slice none 0 0,.string ⟨#[]⟩,.slice none 0 0] 175)):=by(repeat' (first|(with_reducible exact Below.refl _ _)|(with_reducible assumption)|(with_reducible refine Below.drew ?_)|(with_reducible refine bdrewN ?_ _)|(with_reducible refine Below.alloc ?_ ?_ _)|(with_reducible refine Below.setCell ?_ ?_ _)|omega|(simp;done)|(simp;omega)))
 have hsz0:=Lib.hid (World.size_alloc w (.cells #[.int .i64 0,.string ⟨#[]⟩,.int .i64 0,.slice none 0 0,.string ⟨#[]⟩,.slice none 0 0] 175))
 go_enter Tryz.func125,Tryz.ntmps125
 repeat' ((fail_if_success at_builtin);first|go_values|go_skip|go_guarded|go_step|go_upon|go_back)
 generalize w.alloc (.cells #[.int .i64 0,.string ⟨#[]⟩,.int .i64 0,.slice none 0 0,.string ⟨#[]⟩,.slice none 0 0] 175)=W at hb0 hR0 v0 hsz0 ⊢
 (refine(byte_any W b _ hR0).mono ?_;rintro e1 w2 ⟨rfl,hR2,hF2⟩;dsimp only)
 rw[HE.out] at hR2 ⊢
 dsimp only at hR2 ⊢
 have v2:TB w2 w.heap.size TM.nil:=hF2.blk v0 (hR0.ne v0 (by decide))
 have hk:(k.toNat:Int)<256:=by have:=byte_lt k;omega
 have hk0:(0:Int)<=(k.toNat:Int):=Int.natCast_nonneg _
 have hs2:w.heap.size+1<=w2.heap.size:=by have:=hF2.size;have:=hsz0.out;omega
 have hF0:Fr w w2 (fun k=>k=b):=(Fr.pure hb0 _).trans hF2 (fun _ _ h _=>h)
 clear hb0 hR0 hF2 v0
 repeat' ((fail_if_success (with_reducible (show Code.wp _ (Code.region 2 _ _) _ _ _)));(fail_if_success at_builtin);first|go_values|go_skip|go_guarded|go_step|go_upon|go_back)
 have hb3:Below w2.heap.size w2 (w2.alloc (.cells #[.int .i64 (k.toNat:Int),.string ⟨#[]⟩,.int .i64 0,.slice none 0 0,.string ⟨#[]⟩,.slice none 0 0] 175)):=(Below.refl _ _).alloc (Nat.le_refl _) _
 have x3:TB (w2.alloc (.cells #[.int .i64 (k.toNat:Int),.string ⟨#[]⟩,.int .i64 0,.slice none 0 0,.string ⟨#[]⟩,.slice none 0 0] 175)) w2.heap.size ⟨⟨(k.toNat:Int),P.nil,[],[]⟩,none,0,none,0⟩:=blk_new _ _
 have D3:TL w (w2.alloc (.cells #[.int .i64 (k.toNat:Int),.string ⟨#[]⟩,.int .i64 0,.slice none 0 0,.string ⟨#[]⟩,.slice none 0 0] 175)) w2.heap.size w.heap.size b ⟨⟨(k.toNat:Int),P.nil,[],[]⟩,none,0,none,0⟩ r1:=⟨x3,blk_below hb3 v2 (blk_lt v2),hR2.pure hb3,⟨.inl rfl,.inl rfl⟩,hF0.then_below hb3⟩
 clear v2 hR2 hF0 hb3 x3
 generalize w2.alloc (.cells #[.int .i64 (k.toNat:Int),.string ⟨#[]⟩,.int .i64 0,.slice none 0 0,.string ⟨#[]⟩,.slice none 0 0] 175)=w3 at D3 ⊢
 repeat' ((fail_if_success (with_reducible (show Code.wp _ (Code.region 3 _ _) _ _ _)));(fail_if_success at_builtin);first|go_values|go_skip|go_guarded|go_step|go_upon|go_back)
 rw[H1.out] at D3 ⊢
 rw[show ((2:Nat):Int)=(2:Int) from rfl]
 repeat' ((fail_if_success at_builtin);first|go_values|go_skip|go_guarded|go_step|go_upon|go_back)
 (refine(bsure_ok _ b r1 D3.hr H0.out).mono ?_;rintro e1 w4 ⟨rfl,hb4⟩;dsimp only)
 have D4:=D3.below hb4
 clear D3 hb4 hk hk0
 have x0:w4.cell? ⟨w2.heap.size,0,none⟩=some (.int .i64 2):=D4.hx.c.1
 have hXR:Hid (w2.heap.size≠w.heap.size):=Lib.hid (by omega)
 have hXX:Hid (w.heap.size<=w2.heap.size):=Lib.hid (by omega)
 repeat' ((fail_if_success at_builtin);first|go_values|go_skip|go_guarded|go_step|go_upon|go_back)
 clear x0
 (refine(text_any w4 b _ D4.hr 32 (by decide)).mono ?_;rintro e1 w5 ⟨rfl,hR5,hF5⟩;dsimp only)
 rw[HT.out] at hR5 ⊢
 dsimp only at hR5 ⊢
 have D5:=D4.read hF5 hR5
 clear D4 hR5 hF5
 obtain⟨x0,x1,x2,x3,x4,x5⟩:=D5.hx.c
 obtain⟨f0,f1,f2,f3,f4,f5⟩:=D5.hx.f
 dsimp only at x0 x1 x2 x3 x4 x5
 repeat' ((fail_if_success (with_reducible (show Code.wp _ (Code.region 16 _ _) _ _ _)));(fail_if_success at_builtin);first|go_values|go_skip|go_guarded|go_step|go_upon|go_back)
 have D6:=D5.name hXX.out hXR.out s
 clear x0 x1 x2 x3 x4 x5 f0 f1 f2 f3 f4 f5 D5
 generalize w5.setCell ⟨w2.heap.size,4,none⟩ (.string ⟨s.toArray⟩)=w6 at D6 ⊢
 repeat' ((fail_if_success at_builtin);first|go_values|go_skip|go_guarded|go_step|go_upon|go_back)
 (refine(number_any w6 b _ D6.hr).mono ?_;rintro e1 w7 ⟨rfl,hR7,hF7⟩;dsimp only)
 rw[HN.out] at hR7 ⊢
 dsimp only at hR7 ⊢
 have D7:TL w w7 w2.heap.size w.heap.size b ⟨⟨2,P.nil,s,[]⟩,none,0,none,0⟩ r3:=D6.read hF7 hR7
 clear D6 hR7 hF7
 by_cases hE:r3.e=0
 ·have HE2:=Lib.hid hE
  have hok:=HDI.out
  rw[if_neg (by simp[hE])] at hok
  have HOK:=Lib.hid hok
  clear hE hok HDI
  repeat' ((fail_if_success at_builtin);first|go_values|go_skip|go_guarded|go_step|go_upon|go_back)
  (refine(bsure_ok _ b _ D7.hr HE2.out).mono ?_;rintro e1 w8 ⟨rfl,hb8⟩;dsimp only)
  have D8:=D7.below hb8
  clear D7 hb8
  by_cases hn:16<n
  ·have g:decide ((n:Int)<=16)=false:=decide_eq_false (by omega)
   have HN2:=Lib.hid hn
   clear hn
   repeat' ((fail_if_success at_builtin);first|go_values|go_skip|go_guarded|go_step|go_upon|go_back)
   (refine(unless_no _ _).mono ?_;rintro e1 w9 ⟨rfl,rfl⟩;dsimp only)
   exact⟨rfl,HNO.out _ _ (by rw[HOK.out,if_pos HN2.out]) (by decide) D8.fr⟩
  ·have g:decide ((n:Int)<=16)=true:=decide_eq_true (by omega)
   have hok:=HOK.out
   rw[if_neg hn] at hok
   have HOK2:=Lib.hid hok
   have hn16:(n:Int)<=16:=by omega
   clear hok HOK hn
   repeat' ((fail_if_success at_builtin);first|go_values|go_skip|go_guarded|go_step|go_upon|go_back)
   (refine(unless_ok _ _).mono ?_;rintro e1 w9 ⟨rfl,rfl⟩;dsimp only)
   repeat' ((fail_if_success at_builtin);first|go_values|go_skip|go_guarded|go_step|go_upon|go_back)
   go_loopw [62] (fun i wr=>∃ (j:Nat) (args:List V) (rr:RS) (aa:Option Addr) (ac:Nat),j<=n/\i = .int .i64 j/\args.length=j/\decVs all n [] r3=decVs all (n-j) args rr/\TL w wr w2.heap.size w.heap.size b ⟨⟨2,P.nil,s,args⟩,none,0,aa,ac⟩ rr/\wr.ownsRow w.heap.size 177 3 (.slice aa args.length ac) args.length (args.flatMap V.row)) (fun i _=>n-(intOf i).toNat)
   case atStart=>exact⟨0,[],_,none,0,Nat.zero_le _,rfl,rfl,rfl,D8,World.ownsRow_nil _ _ _ _⟩
   case round =>
    obtain⟨j,args,rr,aa,ac,hj,rfl,hal,hdec,hD,hown⟩:=hrel
    have HDEC:=Lib.hid hdec
    have HAL:=Lib.hid hal
    clear hdec hal D8
    by_cases hlt:j<n
    ·have hlt':(j:Int)<(n:Int):=by omega
     obtain⟨y,ry,hy⟩:∃ y ry,rr.text (all:Int)=(y,ry):=⟨_,_,rfl⟩
     have HY:=Lib.hid hy
     clear hy
     repeat' ((fail_if_success at_builtin);first|go_values|go_skip|go_guarded|go_step|go_upon|go_back)
     (refine(text_any wr b _ hD.hr (all:Int) HB.out).mono ?_;rintro e1 w10 ⟨rfl,hR10,hF10⟩;dsimp only)
     rw[HY.out] at hR10 ⊢
     dsimp only at hR10 ⊢
     have D10:=hD.read hF10 hR10
     have hk10:=Kb.of_fr hF10
     obtain⟨crd,hcrd⟩:=hD.hr.reader
     have own10:=own_kb hown hk10 hcrd (by decide)
     have HYL:=Lib.hid (show y.length<=17592186044416 by have:=rr.text_len (all:Int);rw[HY.out] at this;exact Nat.le_trans this hD.hr.le)
     clear hD hR10 hF10 hk10 hcrd hown
     by_cases hE:ry.e=0
     ·have HE3:=Lib.hid hE
      clear hE
      repeat' ((fail_if_success at_builtin);first|go_values|go_skip|go_guarded|go_step|go_upon|go_back)
      (refine(bsure_ok _ b _ D10.hr HE3.out).mono ?_;rintro e1 w11 ⟨rfl,hb11⟩;dsimp only)
      have D11:=D10.below hb11
      have own11:=own_below own10 hb11
      clear D10 hb11 own10
      obtain⟨hsb1,hsb2⟩:=sb_list w11 y
      have hcv:=run_sbytes w11 ⟨y.toArray⟩
      repeat' ((fail_if_success at_builtin);first|go_values|go_skip|go_guarded|go_step|go_upon|go_back)
      (refine(decV_any _ _ _ y hsb2 HYL.out).mono ?_;rintro e1 w12 ⟨rfl,hb12⟩;dsimp only)
      have D12:=(D11.below hsb1).below hb12
      have own12:=own_below (own_below own11 hsb1) hb12
      clear D11 own11 hsb1 hsb2 hb12 hcv
      obtain⟨v,ev,hdv⟩:∃ v ev,decV y=(v,ev):=⟨_,_,rfl⟩
      have HDV:=Lib.hid hdv
      rw[hdv]
      dsimp only [V.val]
      clear hdv
      have nw:=blk_new w12 (.cells #[.int .i64 v.k,.int .i64 v.i,.string ⟨v.t.toArray⟩] 177)
      have hbn:Below w12.heap.size w12 (w12.alloc (.cells #[.int .i64 v.k,.int .i64 v.i,.string ⟨v.t.toArray⟩] 177)):=(Below.refl _ w12).alloc (Nat.le_refl _) _
      have D13:=D12.below hbn
      have own13:=own_below own12 hbn
      clear D12 own12 hbn
      by_cases hE:ev=0
      ·subst hE
       repeat' ((fail_if_success (with_reducible (show Code.wp _ (Code.region 24 _ _) _ _ _)));(fail_if_success at_builtin);first|go_values|go_skip|go_guarded|go_step|go_upon|go_back)
       generalize w12.alloc (.cells #[.int .i64 v.k,.int .i64 v.i,.string ⟨v.t.toArray⟩] 177)=w13 at nw D13 own13 ⊢
       repeat' ((fail_if_success at_builtin);first|go_values|go_skip|go_guarded|go_step|go_upon|go_back)
       (refine(unless_ok _ _).mono ?_;rintro e1 w14 ⟨rfl,rfl⟩;dsimp only)
       obtain⟨n0,n1,n2,-⟩:=blk3 nw
       obtain⟨x0,x1,x2,x3,x4,x5⟩:=D13.hx.c
       dsimp only at x0 x1 x2 x3 x4 x5
       obtain⟨i0,hi0,hz0,hz1,hz2⟩:=info_parts Tryz.info177
       repeat' ((fail_if_success at_builtin);first|go_values|go_skip|go_guarded|go_step|go_upon|go_back)
       refine wpList_append_lies _ rfl _ _ _ rfl w.heap.size 177 i0 _ 3 32 Tryz.underlying173 hi0 hz0 hz1 hz2 rfl (by omega) (.slice aa args.length ac) args.length (args.flatMap V.row) rfl (own_below own13 ((Below.refl _ _).alloc (Nat.le_refl _) _)) ⟨w13.heap.size,0,none⟩ 1 1 (V.row v) rfl rfl (World.news_of_block (cs:=#[.int .i64 v.k,.int .i64 v.i,.string ⟨v.t.toArray⟩]) (t:=177) (fr:=(0,0)) (heap_alloc_new w13 _)) (by simp[Value.oneCell',V.row]) (by omega) (by unfold maxLen;have:=HAL.out;omega) (by have:=HAL.out;omega) (by have:=D13.fr.size;simp;omega) (w13.heap.size+1) (by simp) ?_
       intro gg cap w15 hown15 hgrow hat hlt15
       obtain⟨s0,s1,D15,own15⟩:=D13.app hXX.out hXR.out own13 _ hgrow v hown15
       clear n0 n1 n2 x0 x1 x2 x3 x4 x5 hown15 hgrow hat hlt15 own13 D13 nw
       repeat' ((fail_if_success at_builtin);first|go_values|go_skip|go_guarded|go_step|go_upon|go_back)
       go_roundw
       case rel=>exact⟨j+1,args++[v],ry,_,_,by omega,by go_num,by rw[List.length_append,HAL.out];rfl,by rw[HDEC.out,show n-j=(n-(j+1))+1 by omega,decVs_ok HY.out HE3.out HDV.out],D15,own15⟩
       case measure=>simp[intOf];omega
      ·have e0:(ev==0)=false:=by simpa using hE
       have HE4:=Lib.hid hE
       clear hE
       repeat' ((fail_if_success at_builtin);first|go_values|go_skip|go_guarded|go_step|go_upon|go_back)
       (refine(unless_no _ _).mono ?_;rintro e1 w14 ⟨rfl,rfl⟩;dsimp only)
       have hz:decVs all n [] r3=(args,ry,ev):=by rw[HDEC.out,show n-j=(n-(j+1))+1 by omega,decVs_no HY.out HE3.out HDV.out HE4.out]
       exact⟨rfl,HNO.out _ _ (by rw[HOK2.out,hz,if_pos HE4.out]) HE4.out D13.fr⟩
     ·have HE3:=Lib.hid hE
      clear hE
      repeat' ((fail_if_success at_builtin);first|go_values|go_skip|go_guarded|go_step|go_upon|go_back)
      (refine(bsure_no _ b _ D10.hr HE3.out).mono ?_;rintro e1 w11 ⟨rfl,hb11⟩;dsimp only)
      have hz:decVs all n [] r3=(args,ry,ry.e):=by rw[HDEC.out,show n-j=(n-(j+1))+1 by omega,decVs_t HY.out HE3.out]
      exact⟨rfl,HNO.out _ _ (by rw[HOK2.out,hz,if_pos HE3.out]) HE3.out (D10.fr.then_below hb11)⟩
    ·obtain rfl:j=n:=by omega
     have hz:decVs all j [] r3=(args,rr,0):=by rw[HDEC.out,Nat.sub_self];rfl
     have hok:=HOK2.out
     rw[hz,if_neg (by simp)] at hok
     obtain⟨m,D11,hok3⟩:∃ m:TM,TL w wr w2.heap.size w.heap.size b m rr/\decT all r=(m.t,rr,0):=⟨_,hD,hok⟩
     have HOK3:=Lib.hid hok3
     clear hok hok3 hD hown HAL HDEC hlt hj hz HOK2
     obtain⟨x0,x1,x2,x3,x4,x5⟩:=(D11).hx.c;obtain⟨v0,v1,v2,v3,v4,v5⟩:=(D11).hv.c;obtain⟨f0,f1,f2,f3,f4,f5⟩:=(D11).hv.f;(repeat' ((fail_if_success at_builtin);first|go_values|go_skip|go_guarded|go_step|go_upon|go_back));obtain⟨hb9,hr9,hl9,hf9⟩:=(D11).ret (by omega);obtain⟨z0,z1,z2,z3,z4,z5⟩:=hb9.c;have hfin:=HYES.out _ _ _ HOK3.out hr9 hl9 hf9;unfold setT at z0 z1 z2 z3 z4 z5 hfin;clear x0 x1 x2 x3 x4 x5 v0 v1 v2 v3 v4 v5 f0 f1 f2 f3 f4 f5;exact bodyPost_ret (v := .agg (TM.cells m)) (by simp[results,Tryz.results125,go_sem,z0,z1,z2,z3,z4,z5,TM.cells]) rfl hfin
 ·have HE2:=Lib.hid hE
  clear hE
  repeat' ((fail_if_success at_builtin);first|go_values|go_skip|go_guarded|go_step|go_upon|go_back)
  (refine(bsure_no _ b _ D7.hr HE2.out).mono ?_;rintro e1 w8 ⟨rfl,hb8⟩;dsimp only)
  exact⟨rfl,HNO.out _ _ (by rw[HDI.out,if_pos HE2.out]) HE2.out (D7.fr.then_below hb8)⟩
theorem txn_any(w:World)(b:Nat)(r:RS)(all:Nat)(hR:Rd w b r)(ha:all<=17592186044416)(Q:Ending->World->Prop)
  (hno:∀ e w',(decT all r).2.2=e->e≠0->Fr w w' (fun k=>k=b)->Q (brefE e) w')
  (hyes:∀ (m:TM) (r2:RS) (w':World),decT all r=(m.t,r2,0)->Rd w' b r2->m.lies w'->Fr w w' (fun k=>k=b)->Q (.returned (.agg m.cells)) w') :
  Calls Tryz.prog 125 #[.pointer (some ⟨b,0,none⟩),.int .i64 (all:Int)] w Q:=by
 obtain⟨k,r1,he⟩:∃ k r1,r.byte=(k,r1):=⟨_,_,rfl⟩
 by_cases h0:r1.e=0
 ·by_cases h1:k.toNat=1
  ·exact txn_1 w b r all hR k r1 he h0 h1 ha Q hno hyes
  ·by_cases h2:k.toNat=2
   ·exact txn_2 w b r all hR k r1 he h0 h2 ha Q hno hyes
   ·by_cases h3:k.toNat=3
    ·exact txn_3 w b r all hR k r1 he h0 h3 ha Q hno hyes
    ·refine(txn_kind w b r all hR k r1 he h0 h1 h2 h3).mono ?_
     rintro e w' ⟨rfl,hF⟩
     refine hno 1 w' ?_ (by decide) hF
     unfold decT;simp[he,h0,h1,h2,h3]
 ·refine(txn_byte w b r all hR k r1 he h0).mono ?_
  rintro e w' ⟨rfl,hF⟩
  refine hno r1.e w' ?_ h0 hF
  unfold decT;simp[he,h0]
theorem Tryz.info175:(Tryz.prog.info? 175).map (fun i=>(i.zero,i.size,i.bytes))=some (some (.agg #[.int .i64 0,.string ⟨#[]⟩,.int .i64 0,.slice none 0 0,.string ⟨#[]⟩,.slice none 0 0]),6,96):=by kernel_rfl
theorem assert_bref(W:World)(i:Int):(Instr.typeAssert (.iface 212 (.agg #[.int .i64 i])) 20 212 true).run Tryz.prog W = .ok (.tuple #[.agg #[.int .i64 i],.bool true]) W:=by
 simp[Instr.typeAssert,run_underlying Tryz.underlying212]
theorem assert_bnil(W:World):(Instr.typeAssert .nilIface 20 212 true).run Tryz.prog W = .ok (.tuple #[.agg #[.int .i64 0],.bool false]) W:=by kernel_rfl
def gaveB(w:World)(p q:Nat)(i:Int):World:=((w.setCell ⟨p,0,none⟩ (.int .i64 0)).setCell ⟨p,1,none⟩ (.slice none 0 0)).setCell ⟨q,0,none⟩ (.int .i64 i)
set_option maxRecDepth 20000 in
theorem bcatch(w:World)(p q:Nat)(v0 v1 u:Value)(hp:w.heap[p]? = some (.cells #[v0,v1] 81 (0,0)))(hq:w.heap[q]? = some (.cells #[u] 28 (0,0)))(i:Int) :
  CallsD Tryz.prog 122 #[.pointer (some ⟨p,0,none⟩),.pointer (some ⟨q,0,none⟩)] (.panicking [{ v:=brefV i,recovered:=false }]) w fun e u' w' =>
   e = .returned (.tuple #[])/\u' = .panicking [{ v:=brefV i,recovered:=true }]/\w'=(gaveB (w.alloc (.cells #[.int .i64 i] 212)) p q i).drew:=by
 have hne:=blk_ne hp hq (by decide)
 have hpl:=blk_lt hp
 have hql:=blk_lt hq
 refine callsD_of_wpS Tryz.func122 rfl fun c₀ cs hu=>?_
 unfold brefV at hu
 apply wpS_seq
 apply wpS_region
 have hta:=assert_bref
 simp[wpOpsS,go_sem,recoverD,hu,Tryz.ntmps122,Exit.thenS,Array.replicate,List.replicate,hta]
 refine wpS_of_wp ?_
 have hp1:=blk_alloc hp (.cells #[.int .i64 i] 212)
 have hq1:=blk_alloc hq (.cells #[.int .i64 i] 212)
 have hx1:=blk_new w (.cells #[.int .i64 i] 212)
 have hpx:p≠w.heap.size:=by omega
 have hqx:q≠w.heap.size:=by omega
 clear hp hq hpl hql
 obtain⟨p0,p1,f0,f1⟩:=blk2 hp1
 obtain⟨q0,q1⟩:=blk1 hq1
 obtain⟨x0,x1⟩:=blk1 hx1
 repeat' ((fail_if_success at_builtin);first|go_values|go_skip|go_guarded|go_step|go_upon|go_back)
 go_region
 clear p0 p1 f0 f1 q0 q1 x0 x1 hp1 hq1 hx1 hta
 repeat' ((fail_if_success at_builtin);first|go_values|go_skip|go_guarded|go_step|go_upon|go_back)
 cases c₀
 simp_all [bodyPostS,results,Tryz.results122,gaveB,brefV]
set_option maxRecDepth 20000 in
theorem bidle(p q:Addr)(w:World) :
  CallsD Tryz.prog 122 #[.pointer (some p),.pointer (some q)] .returning w fun e u' w'=>e = .returned (.tuple #[])/\u' = .returning/\w'=w.alloc (.cells #[.int .i64 0] 212):=by
 refine callsD_of_wpS Tryz.func122 rfl fun c₀ cs hu=>?_
 apply wpS_seq
 apply wpS_region
 have hta:=assert_bnil
 simp[wpOpsS,go_sem,recoverD,hu,Tryz.ntmps122,Exit.thenS,Array.replicate,List.replicate,hta]
 refine wpS_of_wp ?_
 repeat' ((fail_if_success at_builtin);first|go_values|go_skip|go_guarded|go_step|go_upon|go_back)
 cases c₀
 simp_all [bodyPostS,results,Tryz.results122]
structure BD (w0 w:World) (b:Nat) (first:Int) (tv:Value) (ms:List TM) (r:RS):Prop where
 hp:w.heap[w0.heap.size]? = some (.cells #[.int .i64 first,tv] 81 (0,0))
 he:∃ e,w.heap[w0.heap.size+1]? = some (.cells #[.int .i64 e] 28 (0,0))
 hr:Rd w b r
 own:w.ownsRow w0.heap.size 175 6 tv ms.length (ms.flatMap TM.row)
 lies:∀ m∈ms,m.lies w
 below:Below w0.heap.size w0 w
 ble:w0.heap.size<=b
structure BG (w0 w:World) (first:Int) (tv:Value):Prop where
 hp:w.heap[w0.heap.size]? = some (.cells #[.int .i64 first,tv] 81 (0,0))
 he:∃ e,w.heap[w0.heap.size+1]? = some (.cells #[.int .i64 e] 28 (0,0))
 below:Below w0.heap.size w0 w
theorem BD.bg{w0 w:World}{b:Nat}{first:Int}{tv:Value}{ms:List TM}{r:RS}(h:BD w0 w b first tv ms r):BG w0 w first tv:=⟨h.hp,h.he,h.below⟩
theorem BD.read{w0 w w':World}{b:Nat}{first:Int}{tv:Value}{ms:List TM}{r r':RS}(h:BD w0 w b first tv ms r)(hf:Fr w w' (fun k=>k=b))(hr:Rd w' b r'):BD w0 w' b first tv ms r':=by
 have hk:=Kb.of_fr hf
 obtain⟨c,hc⟩:=h.hr.reader
 obtain⟨e,he⟩:=h.he
 exact⟨hk _ _ h.hp (h.hr.ne h.hp (by decide)),⟨e,hk _ _ he (h.hr.ne he (by decide))⟩,hr,own_kb h.own hk hc (by decide),fun m hm=>(h.lies m hm).kb hk hc (by decide) (by decide),h.below.trans (Fr.toBelow hf h.ble h.below.size),h.ble⟩
theorem BD.gone{w0 w w':World}{b:Nat}{first:Int}{tv:Value}{ms:List TM}{r:RS}(h:BD w0 w b first tv ms r)(hf:Fr w w' (fun k=>k=b)):BG w0 w' first tv:=by
 have hk:=Kb.of_fr hf
 obtain⟨e,he⟩:=h.he
 exact⟨hk _ _ h.hp (h.hr.ne h.hp (by decide)),⟨e,hk _ _ he (h.hr.ne he (by decide))⟩,h.below.trans (Fr.toBelow hf h.ble h.below.size)⟩
theorem BD.pure{w0 w w':World}{b:Nat}{first:Int}{tv:Value}{ms:List TM}{r:RS}(h:BD w0 w b first tv ms r)(hb:Below w.heap.size w w'):BD w0 w' b first tv ms r:=by
 obtain⟨e,he⟩:=h.he
 exact⟨blk_below hb h.hp (blk_lt h.hp),⟨e,blk_below hb he (blk_lt he)⟩,h.hr.pure hb,own_below h.own hb,fun m hm=>(h.lies m hm).below hb,h.below.trans (hb.mono h.below.size),h.ble⟩
theorem BD.first{w0 w:World}{b:Nat}{first:Int}{tv:Value}{ms:List TM}{r:RS}(h:BD w0 w b first tv ms r)(y:Int):BD w0 (w.setCell ⟨w0.heap.size,0,none⟩ (.int .i64 y)) b y tv ms r:=by
 obtain⟨e,he⟩:=h.he
 exact⟨blk_set h.hp 0 _,⟨e,blk_set_other he (by omega) _ _⟩,h.hr.kb Kb.set h.hp (by decide) (by decide),own_kb h.own Kb.set h.hp (by decide),fun m hm=>(h.lies m hm).kb Kb.set h.hp (by decide) (by decide),h.below.setCell (p:=⟨w0.heap.size,0,none⟩) (Nat.le_refl _) _,h.ble⟩
theorem BD.tv{w0 w:World}{b:Nat}{first:Int}{tv:Value}{ms:List TM}{r:RS}(h:BD w0 w b first tv ms r):BD w0 (w.setCell ⟨w0.heap.size,1,none⟩ tv) b first tv ms r:=by
 obtain⟨e,he⟩:=h.he
 exact⟨blk_set h.hp 1 _,⟨e,blk_set_other he (by omega) _ _⟩,h.hr.kb Kb.set h.hp (by decide) (by decide),own_kb h.own Kb.set h.hp (by decide),fun m hm=>(h.lies m hm).kb Kb.set h.hp (by decide) (by decide),h.below.setCell (p:=⟨w0.heap.size,1,none⟩) (Nat.le_refl _) _,h.ble⟩
theorem BD.errc{w0 w:World}{b:Nat}{first:Int}{tv:Value}{ms:List TM}{r:RS}(h:BD w0 w b first tv ms r)(y:Int):(w.setCell ⟨w0.heap.size+1,0,none⟩ (.int .i64 y)).cell? ⟨w0.heap.size+1,0,none⟩=some (.int .i64 y):=by
 obtain⟨e,he⟩:=h.he
 exact blk_cell (blk_set he 0 _) 0
theorem BD.err{w0 w:World}{b:Nat}{first:Int}{tv:Value}{ms:List TM}{r:RS}(h:BD w0 w b first tv ms r)(y:Int):BD w0 (w.setCell ⟨w0.heap.size+1,0,none⟩ (.int .i64 y)) b first tv ms r:=by
 obtain⟨e,he⟩:=h.he
 exact⟨blk_set_other h.hp (by omega) 0 _,⟨y,blk_set he 0 _⟩,h.hr.kb Kb.set he (by decide) (by decide),own_kb h.own Kb.set he (by decide),fun m hm=>(h.lies m hm).kb Kb.set he (by decide) (by decide),h.below.setCell (p:=⟨w0.heap.size+1,0,none⟩) (by show w0.heap.size<=w0.heap.size+1;omega) _,h.ble⟩
theorem BG.gave{w0 w:World}{first:Int}{tv:Value}(h:BG w0 w first tv)(i:Int) :
  (gaveB w w0.heap.size (w0.heap.size+1) i).cell? ⟨w0.heap.size,0,none⟩=some (.int .i64 0)/\(gaveB w w0.heap.size (w0.heap.size+1) i).cell? ⟨w0.heap.size,1,none⟩=some (.slice none 0 0)/\(gaveB w w0.heap.size (w0.heap.size+1) i).cell? ⟨w0.heap.size+1,0,none⟩=some (.int .i64 i)/\Below w0.heap.size w0 (gaveB w w0.heap.size (w0.heap.size+1) i):=by
 obtain⟨e,he⟩:=h.he
 have h1:=blk_set_other (blk_set (blk_set h.hp 0 (.int .i64 0)) 1 (.slice none 0 0)) (by omega:w0.heap.size≠w0.heap.size+1) 0 (.int .i64 i)
 have h2:=blk_set (blk_set_other (blk_set_other he (by omega:w0.heap.size+1≠w0.heap.size) 0 (.int .i64 0)) (by omega:w0.heap.size+1≠w0.heap.size) 1 (.slice none 0 0)) 0 (.int .i64 i)
 exact⟨blk_cell h1 0,blk_cell h1 1,blk_cell h2 0,((h.below.setCell (p:=⟨w0.heap.size,0,none⟩) (Nat.le_refl _) _).setCell (p:=⟨w0.heap.size,1,none⟩) (Nat.le_refl _) _).setCell (p:=⟨w0.heap.size+1,0,none⟩) (by show w0.heap.size<=w0.heap.size+1;omega) _⟩
theorem BG.pure{w0 w w':World}{first:Int}{tv:Value}(h:BG w0 w first tv)(hb:Below w.heap.size w w'):BG w0 w' first tv:=by
 obtain⟨e,he⟩:=h.he
 exact⟨blk_below hb h.hp (blk_lt h.hp),⟨e,blk_below hb he (blk_lt he)⟩,h.below.trans (hb.mono h.below.size)⟩
theorem TM.lies.grown{w w':World}{m:TM}(h:m.lies w){n0 size n:Nat}{v:Value}{xs:List Value}(ho:w.ownsRow n0 175 size v n xs)(hg:w.grownBy w' v.ownBlock):m.lies w':=⟨RowT.grown h.code ho hg (by decide),RowT.grown h.args ho hg (by decide)⟩
theorem BD.app{w0 w w':World}{b gg cap:Nat}{first:Int}{tv:Value}{ms:List TM}{r:RS}(h:BD w0 w b first tv ms r)(o:Obj)(hg:(w.alloc o).grownBy w' tv.ownBlock)(m:TM)(hm:m.lies w)
  (ho:w'.ownsRow w0.heap.size 175 6 (.slice (some ⟨gg,0,none⟩) (ms.length+1) cap) (ms.length+1) (ms.flatMap TM.row++TM.row m)) :
  w'.cell? ⟨w0.heap.size,1,none⟩=some tv/\w'.frozen? ⟨w0.heap.size,1,none⟩=false/\BD w0 (w'.setCell ⟨w0.heap.size,1,none⟩ (.slice (some ⟨gg,0,none⟩) (ms.length+1) cap)) b first (.slice (some ⟨gg,0,none⟩) (ms.length+1) cap) (ms++[m]) r:=by
 have hk:∀ {k:Nat} {c:Array Value} {t:TypeId} {f:Nat×Nat},w.heap[k]? = some (.cells c t f)->t≠175->w'.heap[k]? = some (.cells c t f):=fun{k c t f} hb ht=>blk_grown hg (blk_alloc hb o) (own_ne h.own hb ht)
 have p1:=hk h.hp (by decide)
 obtain⟨e,he⟩:=h.he
 have hb':Below w0.heap.size w0 w':=(h.below.alloc h.below.size o).grown hg (by have:=h.below.size;simp;omega) (fun k e=>own_ge h.own e)
 have hr':Rd w' b r:=by
  obtain⟨a,c,h1,h2,h3,h4,h5⟩:=h.hr
  refine⟨a,c,hk h1 (by decide),h2.kept fun g o' e hlt=>?_,h3,h4,h5.kept fun g cur f hg=>hk hg (by decide)⟩
  obtain⟨cur,f,hg⟩:=h5 g o' e
  exact(hk hg (by decide)).trans hg.symm
 have hown0:=own_below h.own ((Below.refl _ w).alloc (Nat.le_refl _) o)
 have hl:∀ m'∈ms++[m],m'.lies w':=by
  intro m' hm'
  rcases List.mem_append.1 hm' with h1|h1
  ·exact((h.lies m' h1).below ((Below.refl _ w).alloc (Nat.le_refl _) o)).grown hown0 hg
  ·obtain rfl:m'=m:=by simpa using h1
   exact(hm.below ((Below.refl _ w).alloc (Nat.le_refl _) o)).grown hown0 hg
 refine⟨blk_cell p1 1,blk_free p1 1,blk_set p1 1 _,⟨e,blk_set_other (hk he (by decide)) (by omega) _ _⟩,hr'.kb Kb.set p1 (by decide) (by decide),?_,fun m' hm'=>(hl m' hm').kb Kb.set p1 (by decide) (by decide),hb'.setCell (p:=⟨w0.heap.size,1,none⟩) (Nat.le_refl _) _,h.ble⟩
 have ho':=own_kb ho (Kb.set (i:=1) (u := .slice (some ⟨gg,0,none⟩) (ms.length+1) cap)) p1 (by decide)
 rw[List.length_append,List.flatMap_append]
 simpa using ho'
def HeldQ(m:Nat)(Q:Exit->Act->World->Prop):Exit->Act->World->Prop
 | .panic c,a,w=>∀ T:Array Value,(∀ i,i<m->T[i]? = a.tmps[i]?)->Q (.panic c) ⟨T,a.defers⟩ w
 | e,a,w=>Q e a w
theorem wp_region_heldQ(m:Nat){P:Program}{id:Nat}{ops:Array Oper}{b:Bool}{Q:Exit->Act->World->Prop}{a:Act}{w:World}(h:(Code.region id ops b).wp P (HeldQ m Q) a w):(Code.region id ops b).wp P Q a w :=
 Code.wp_mono (fun e a w hq=>by cases e <;> first|exact hq|exact hq a.tmps (fun _ _=>rfl)) h
theorem HeldQ.put{m d:Nat}{Q:Exit->Act->World->Prop}{v:Value}(h:m<=d):∀ c a w,HeldQ m Q (.panic c) (a.put (some d) v) w->HeldQ m Q (.panic c) a w:=fun c a w hq T hT =>
 hq T (fun i hi=>(hT i hi).trans (by
  show a.tmps[i]? = (a.tmps.setIfInBounds d v)[i]?
  rw[Array.getElem?_setIfInBounds_ne (by omega)]))
end Go.Proofs.YtbppnihcbcdglaaGreat
