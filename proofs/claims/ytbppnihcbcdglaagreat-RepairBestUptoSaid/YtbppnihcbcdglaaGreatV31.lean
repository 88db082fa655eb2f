/- audit.Look's deferred call: what is told. No condition. -/
import Derived.Test.YtbppnihcbcdglaaGreatV8
import Derived.Test.YtbppnihcbcdglaaGreatZ26
import Derived.Test.YtbppnihcbcdglaaGreatV30
namespace Go.Proofs.YtbppnihcbcdglaaGreat
set_option maxHeartbeats 0
open Go.RowKit
set_option linter.unusedVariables false
set_option linter.unusedSimpArgs false
def RPc(r:Rp)(sv nv lv ov:Value):Array Value:=#[.int .i64 r.err,.int .i64 r.base,.int .i64 r.last,.int .i64 r.rep,.int .i64 r.torn,.bool r.has,.int .i64 r.man.number,.int .i64 r.man.file,.int .i64 r.man.mark,.int .i64 r.man.prev,.int .i64 r.man.pmark,sv,nv,lv,ov]
structure RepV (w:World) (n0:Nat) (r:Rp) (sv nv lv ov:Value):Prop where
 so:w.ownsRow n0 61 2 sv r.segs.length (r.segs.flatMap segRow)
 no:w.ownsRow n0 9 1 nv r.needed.length (r.needed.map encS)
 lo:w.ownsRow n0 9 1 lv r.left.length (r.left.map encS)
 oo:w.ownsRow n0 9 1 ov r.others.length (r.others.map encS)
 dnl:Apart nv lv
 dno:Apart nv ov
 dlo:Apart lv ov
theorem RepV.below{w w':World}{n0:Nat}{r:Rp}{sv nv lv ov:Value}(h:RepV w n0 r sv nv lv ov)(hb:Below w.heap.size w w'):RepV w' n0 r sv nv lv ov :=
 ⟨own_below h.so hb,own_below h.no hb,own_below h.lo hb,own_below h.oo hb,h.dnl,h.dno,h.dlo⟩
def TellPost(w:World)(n0 R:Nat)(r:Rp)(w':World):Prop:=∃ sv nv lv ov,w'.heap[R]? = some (.cells (RPc r sv nv lv ov) 50 (0,0))/\RepV w' n0 r sv nv lv ov/\Below R w w'
def ZR:Array Value:=#[.int .i64 0,.int .i64 0,.int .i64 0,.int .i64 0,.int .i64 0,.bool false,.int .i64 0,.int .i64 0,.int .i64 0,.int .i64 0,.int .i64 0,.slice none 0 0,.slice none 0 0,.slice none 0 0,.slice none 0 0]
def setR(w:World)(R:Nat)(e o1 o2 o3 o4:Int)(h:Bool)(m:Mf)(sv nv lv ov:Value):World:=(((((((((((((((w.setCell ⟨R,0,none⟩ (.int .i64 e)).setCell ⟨R,1,none⟩ (.int .i64 o1)).setCell ⟨R,2,none⟩ (.int .i64 o2)).setCell ⟨R,3,none⟩ (.int .i64 o3)).setCell ⟨R,4,none⟩ (.int .i64 o4)).setCell ⟨R,5,none⟩ (.bool h)).setCell ⟨R,6,none⟩ (.int .i64 m.number)).setCell ⟨R,7,none⟩ (.int .i64 m.file)).setCell ⟨R,8,none⟩ (.int .i64 m.mark)).setCell ⟨R,9,none⟩ (.int .i64 m.prev)).setCell ⟨R,10,none⟩ (.int .i64 m.pmark)).setCell ⟨R,11,none⟩ (sv)).setCell ⟨R,12,none⟩ (nv)).setCell ⟨R,13,none⟩ (lv)).setCell ⟨R,14,none⟩ (ov))
theorem setR_blk{w w0:World}{R:Nat}(hr:w.heap[R]? = some (.cells ZR 50 (0,0)))(hb:Below R w0 w)(e o1 o2 o3 o4:Int)(h:Bool)(m:Mf)(sv nv lv ov:Value) :
  (setR w R e o1 o2 o3 o4 h m sv nv lv ov).heap[R]? = some (.cells #[.int .i64 e,.int .i64 o1,.int .i64 o2,.int .i64 o3,.int .i64 o4,.bool h,.int .i64 m.number,.int .i64 m.file,.int .i64 m.mark,.int .i64 m.prev,.int .i64 m.pmark,sv,nv,lv,ov] 50 (0,0))/\Below R w0 (setR w R e o1 o2 o3 o4 h m sv nv lv ov)/\∀ (k:Nat) (ob:Obj),w.heap[k]? = some ob->k≠R->(setR w R e o1 o2 o3 o4 h m sv nv lv ov).heap[k]? = some ob:=by
 unfold ZR at hr
 have g0:=blk_set hr 0 (.int .i64 e)
 simp only[List.setIfInBounds_toArray,List.set_cons_succ,List.set_cons_zero] at g0
 have b0:=hb.setCell (p:=⟨R,0,none⟩) (Nat.le_refl _) (.int .i64 e)
 have g1:=blk_set g0 1 (.int .i64 o1)
 simp only[List.setIfInBounds_toArray,List.set_cons_succ,List.set_cons_zero] at g1
 have b1:=b0.setCell (p:=⟨R,1,none⟩) (Nat.le_refl _) (.int .i64 o1)
 have g2:=blk_set g1 2 (.int .i64 o2)
 simp only[List.setIfInBounds_toArray,List.set_cons_succ,List.set_cons_zero] at g2
 have b2:=b1.setCell (p:=⟨R,2,none⟩) (Nat.le_refl _) (.int .i64 o2)
 have g3:=blk_set g2 3 (.int .i64 o3)
 simp only[List.setIfInBounds_toArray,List.set_cons_succ,List.set_cons_zero] at g3
 have b3:=b2.setCell (p:=⟨R,3,none⟩) (Nat.le_refl _) (.int .i64 o3)
 have g4:=blk_set g3 4 (.int .i64 o4)
 simp only[List.setIfInBounds_toArray,List.set_cons_succ,List.set_cons_zero] at g4
 have b4:=b3.setCell (p:=⟨R,4,none⟩) (Nat.le_refl _) (.int .i64 o4)
 have g5:=blk_set g4 5 (.bool h)
 simp only[List.setIfInBounds_toArray,List.set_cons_succ,List.set_cons_zero] at g5
 have b5:=b4.setCell (p:=⟨R,5,none⟩) (Nat.le_refl _) (.bool h)
 have g6:=blk_set g5 6 (.int .i64 m.number)
 simp only[List.setIfInBounds_toArray,List.set_cons_succ,List.set_cons_zero] at g6
 have b6:=b5.setCell (p:=⟨R,6,none⟩) (Nat.le_refl _) (.int .i64 m.number)
 have g7:=blk_set g6 7 (.int .i64 m.file)
 simp only[List.setIfInBounds_toArray,List.set_cons_succ,List.set_cons_zero] at g7
 have b7:=b6.setCell (p:=⟨R,7,none⟩) (Nat.le_refl _) (.int .i64 m.file)
 have g8:=blk_set g7 8 (.int .i64 m.mark)
 simp only[List.setIfInBounds_toArray,List.set_cons_succ,List.set_cons_zero] at g8
 have b8:=b7.setCell (p:=⟨R,8,none⟩) (Nat.le_refl _) (.int .i64 m.mark)
 have g9:=blk_set g8 9 (.int .i64 m.prev)
 simp only[List.setIfInBounds_toArray,List.set_cons_succ,List.set_cons_zero] at g9
 have b9:=b8.setCell (p:=⟨R,9,none⟩) (Nat.le_refl _) (.int .i64 m.prev)
 have g10:=blk_set g9 10 (.int .i64 m.pmark)
 simp only[List.setIfInBounds_toArray,List.set_cons_succ,List.set_cons_zero] at g10
 have b10:=b9.setCell (p:=⟨R,10,none⟩) (Nat.le_refl _) (.int .i64 m.pmark)
 have g11:=blk_set g10 11 (sv)
 simp only[List.setIfInBounds_toArray,List.set_cons_succ,List.set_cons_zero] at g11
 have b11:=b10.setCell (p:=⟨R,11,none⟩) (Nat.le_refl _) (sv)
 have g12:=blk_set g11 12 (nv)
 simp only[List.setIfInBounds_toArray,List.set_cons_succ,List.set_cons_zero] at g12
 have b12:=b11.setCell (p:=⟨R,12,none⟩) (Nat.le_refl _) (nv)
 have g13:=blk_set g12 13 (lv)
 simp only[List.setIfInBounds_toArray,List.set_cons_succ,List.set_cons_zero] at g13
 have b13:=b12.setCell (p:=⟨R,13,none⟩) (Nat.le_refl _) (lv)
 have g14:=blk_set g13 14 (ov)
 simp only[List.setIfInBounds_toArray,List.set_cons_succ,List.set_cons_zero] at g14
 have b14:=b13.setCell (p:=⟨R,14,none⟩) (Nat.le_refl _) (ov)
 unfold setR
 exact⟨g14,b14,fun k ob hk hne=>(blk_set_other (blk_set_other (blk_set_other (blk_set_other (blk_set_other (blk_set_other (blk_set_other (blk_set_other (blk_set_other (blk_set_other (blk_set_other (blk_set_other (blk_set_other (blk_set_other (blk_set_other hk hne 0 _) hne 1 _) hne 2 _) hne 3 _) hne 4 _) hne 5 _) hne 6 _) hne 7 _) hne 8 _) hne 9 _) hne 10 _) hne 11 _) hne 12 _) hne 13 _) hne 14 _)⟩
theorem AX.told{w:World}{n0 L mb:Nat}{fs:Fs}{firsts:List Int}{s:AS}{fv nv sv:Value}(h:AX w n0 L mb fs firsts s fv nv sv):AR w n0 L mb fs 0 0 0 0 0 s fv (.slice none 0 0) nv (.slice none 0 0) (.slice none 0 0) sv (.slice none 0 0) [] [] [] :=
 ⟨h.hl,h.no,h.so,World.ownsRow_nil _ _ _ _,World.ownsRow_nil _ _ _ _,World.ownsRow_nil _ _ _ _,h.nl,Apart.nil _,Apart.nil _,Apart.nil _,Apart.nil _,Apart.nil _,h.bx⟩
theorem AR.set{w:World}{n0 L mb:Nat}{fs:Fs}{e o1 o2 o3 o4 e' o1' o2' o3' o4':Int}{s:AS}{fv gv gv' nv lv ov sv v:Value}{left others names:List Bs}(h:AR w n0 L mb fs e o1 o2 o3 o4 s fv gv nv lv ov sv v left others names)(i:Nat)(u:Value)(hc:(LRc mb e o1 o2 o3 o4 s fv gv nv lv ov sv).setIfInBounds i u=LRc mb e' o1' o2' o3' o4' s fv gv' nv lv ov sv) :
  AR (w.setCell ⟨L,i,none⟩ u) n0 L mb fs e' o1' o2' o3' o4' s fv gv' nv lv ov sv v left others names/\Below n0 w (w.setCell ⟨L,i,none⟩ u):=by
 have hk:Kb L w (w.setCell ⟨L,i,none⟩ u):=Kb.set
 exact⟨⟨by rw[<-hc];exact blk_set h.hl i u,own_kb h.no hk h.hl (by decide),own_kb h.so hk h.hl (by decide),own_kb h.lo hk h.hl (by decide),own_kb h.oo hk h.hl (by decide),own_kb h.vo hk h.hl (by decide),h.nl,h.dnl,h.dno,h.dlo,h.dvl,h.dvo,blk_set_other h.bx (by omega) _ _⟩,(Below.refl _ _).setCell (p:=⟨L,i,none⟩) h.nl _⟩
theorem fm_set{w:World}{mb:Nat}{fs:Fs}(h:FM w mb fs){L:Nat}{c:Array Value}{t:TypeId}{f:Nat×Nat}(hl:w.heap[L]? = some (.cells c t f))(ht:t≠5)(i:Nat)(u:Value):FM (w.setCell ⟨L,i,none⟩ u) mb fs :=
 h.kept (Below.heap_setCell _ _ _ _ (fun e=>h.ne hl (by first|exact e|exact e.symm))) fun g cur f hg=>Below.heap_setCell _ _ _ _ (blk_ne hg hl ht.symm)
theorem assert_dam(W:World):(Instr.typeAssert (.iface 124 (.agg #[])) 20 124 true).run Tryz.prog W = .ok (.tuple #[.agg #[],.bool true]) W:=by
 simp[Instr.typeAssert,run_underlying Tryz.underlying124]
set_option maxRecDepth 20000 in
theorem atell_ok(w:World){n0 L mb R:Nat}{fs:Fs}{firsts:List Int}{s:AS}{fv nv sv:Value}(H:AX w n0 L mb fs firsts s fv nv sv)(hr:w.heap[R]? = some (.cells ZR 50 (0,0)))(hnR:R<n0)(hlen:fs.length<=1000000)(hnm:∀ x∈fs,x.1.length<=1000000)(hneed:s.needed.length<=1000000)(hla:Mid s.last)(hba:Mid s.base) :
  CallsD Tryz.prog 68 #[.pointer (some ⟨L+1,0,none⟩),.pointer (some ⟨R,0,none⟩)] .returning w fun e u' w'=>e = .returned (.tuple #[])/\u' = .returning/\TellPost w n0 R (repOf fs (s,true)) w':=by
 have HX:=Lib.hid H
 have hlb:=H.bx
 have bx:=(blk1 hlb).1
 obtain⟨l18,l19,l20⟩:=H.c19
 have l17:w.cell? ⟨L,17,none⟩=some sv:=H.cells 17
 refine callsD_of_wpS Tryz.func68 rfl fun c₀ cs hu=>?_
 apply wpS_seq
 apply wpS_seq
 apply wpS_region
 simp[wpOpsS,go_sem,recoverD,hu,Tryz.ntmps68,Exit.thenS,Array.replicate,List.replicate]
 refine wpS_of_wp ?_
 have hw:IntKind.i64.wrap (s.last-s.base)=s.last-s.base:=IntWalk.i64_in _ (by unfold Mid at hla hba;omega)
 have f3:=H.free 3
 have f4:=H.free 4
 have f5:=H.free 5
 have f6:=H.free 6
 have p3:w.cell? ⟨L,3,none⟩=some (.int .i64 0):=H.cells 3
 have p4:w.cell? ⟨L,4,none⟩=some (.int .i64 0):=H.cells 4
 have p5:w.cell? ⟨L,5,none⟩=some (.int .i64 0):=H.cells 5
 have p6:w.cell? ⟨L,6,none⟩=some (.int .i64 0):=H.cells 6
 have NLB:=blk_ne hlb H.hl (by decide)
 have NR:=blk_ne hr H.hl (by decide)
 obtain⟨a1,q1⟩:=H.told.set (e':=0) (o1':=s.base) (o2':=0) (o3':=0) (o4':=0) (gv' := .slice none 0 0) 3 (.int .i64 s.base) rfl
 obtain⟨a2,q2⟩:=a1.set (e':=0) (o1':=s.base) (o2':=s.last) (o3':=0) (o4':=0) (gv' := .slice none 0 0) 4 (.int .i64 s.last) rfl
 obtain⟨a3,q3⟩:=a2.set (e':=0) (o1':=s.base) (o2':=s.last) (o3':=s.last-s.base) (o4':=0) (gv' := .slice none 0 0) 5 (.int .i64 (s.last-s.base)) rfl
 obtain⟨a4,q4⟩:=a3.set (e':=0) (o1':=s.base) (o2':=s.last) (o3':=s.last-s.base) (o4':=s.torn) (gv' := .slice none 0 0) 6 (.int .i64 s.torn) rfl
 have m1:=fm_set H.fm H.hl (by decide) 3 (.int .i64 s.base)
 have m2:=fm_set m1 a1.hl (by decide) 4 (.int .i64 s.last)
 have m3:=fm_set m2 a2.hl (by decide) 5 (.int .i64 (s.last-s.base))
 have m4:=fm_set m3 a3.hl (by decide) 6 (.int .i64 s.torn)
 have b4:=blk_set_other (blk_set_other (blk_set_other (blk_set_other hlb NLB 3 (.int .i64 s.base)) NLB 4 (.int .i64 s.last)) NLB 5 (.int .i64 (s.last-s.base))) NLB 6 (.int .i64 s.torn)
 have r4:=blk_set_other (blk_set_other (blk_set_other (blk_set_other hr NR 3 (.int .i64 s.base)) NR 4 (.int .i64 s.last)) NR 5 (.int .i64 (s.last-s.base))) NR 6 (.int .i64 s.torn)
 have bx4:=(blk1 b4).1
 have k18:=blk_cell a4.hl 18
 have k19:=blk_cell a4.hl 19
 have k20:=blk_cell a4.hl 20
 have HA4:=Lib.hid a4
 have HM4:=Lib.hid m4
 have HQ4:=Lib.hid (((q1.trans q2).trans q3).trans q4)
 have HB4:=Lib.hid b4
 have HR4:=Lib.hid r4
 clear a1 a2 a3 a4 q1 q2 q3 q4 m1 m2 m3 m4 b4 r4 hlb hr
 repeat' ((fail_if_success (with_reducible (show Code.wp _ (Code.region 5 _ _) _ _ _)));(fail_if_success at_builtin);first|go_values|go_skip|go_guarded|go_step|go_upon|go_back)
 go_region_held3 (fun w'=>w'.cell? ⟨L+1,0,none⟩=some (.pointer (some ⟨L,0,none⟩))/\w'.cell? ⟨L,18,none⟩=some (.int .i64 s.torn)/\w'.cell? ⟨L,19,none⟩=some (.int .i64 s.base)/\w'.cell? ⟨L,20,none⟩=some (.int .i64 s.last)) (first|exact⟨bx,l18,l19,l20⟩|exact⟨bx4,k18,k19,k20⟩) (fail)
 have hbd:Below ((((w.setCell ⟨L,3,none⟩ (.int .i64 s.base)).setCell ⟨L,4,none⟩ (.int .i64 s.last)).setCell ⟨L,5,none⟩ (.int .i64 (s.last-s.base))).setCell ⟨L,6,none⟩ (.int .i64 s.torn)).heap.size ((((w.setCell ⟨L,3,none⟩ (.int .i64 s.base)).setCell ⟨L,4,none⟩ (.int .i64 s.last)).setCell ⟨L,5,none⟩ (.int .i64 (s.last-s.base))).setCell ⟨L,6,none⟩ (.int .i64 s.torn)) ((((w.setCell ⟨L,3,none⟩ (.int .i64 s.base)).setCell ⟨L,4,none⟩ (.int .i64 s.last)).setCell ⟨L,5,none⟩ (.int .i64 (s.last-s.base))).setCell ⟨L,6,none⟩ (.int .i64 s.torn)).drew:=(Below.refl _ _).drew
 have HA5:=Lib.hid (HA4.out.pure hbd)
 have HM5:=Lib.hid (HM4.out.below hbd)
 have HQ5:=Lib.hid (HQ4.out.drew)
 have HB5:=Lib.hid (blk_below hbd HB4.out (blk_lt HB4.out))
 have HR5:=Lib.hid (blk_below hbd HR4.out (blk_lt HR4.out))
 clear hbd HA4 HM4 HQ4 HB4 HR4 bx l18 l19 l20 bx4 k18 k19 k20 p3 p4 p5 p6 f3 f4 f5 f6 l17
 generalize ((((w.setCell ⟨L,3,none⟩ (.int .i64 s.base)).setCell ⟨L,4,none⟩ (.int .i64 s.last)).setCell ⟨L,5,none⟩ (.int .i64 (s.last-s.base))).setCell ⟨L,6,none⟩ (.int .i64 s.torn)).drew=w5 at HA5 HM5 HQ5 HB5 HR5 ⊢
 obtain⟨sa,sc,rfl,-,-,-,-⟩:=own_rowT HA5.out.so
 have bx:=(blk1 HB5.out).1
 have l17:w5.cell? ⟨L,17,none⟩=some (.slice sa s.segs.length sc):=blk_cell HA5.out.hl 17
 have l13:w5.cell? ⟨L,13,none⟩=some (.slice none 0 0):=blk_cell HA5.out.hl 13
 have f13:=blk_free HA5.out.hl 13
 obtain⟨a6,q6⟩:=HA5.out.set (e':=0) (o1':=s.base) (o2':=s.last) (o3':=s.last-s.base) (o4':=s.torn) (gv' := .slice sa s.segs.length sc) 13 (.slice sa s.segs.length sc) rfl
 have m6:=fm_set HM5.out HA5.out.hl (by decide) 13 (.slice sa s.segs.length sc)
 have b6:=blk_set_other HB5.out NLB 13 (.slice sa s.segs.length sc)
 have r6:=blk_set_other HR5.out NR 13 (.slice sa s.segs.length sc)
 have HA6:=Lib.hid a6
 have HM6:=Lib.hid m6
 have HQ6:=Lib.hid (HQ5.out.trans q6)
 have HB6:=Lib.hid b6
 have HR6:=Lib.hid r6
 clear a6 q6 m6 b6 r6
 repeat' ((fail_if_success (with_reducible (show Code.wp _ (Code.region 6 _ _) _ _ _)));(fail_if_success at_builtin);first|go_values|go_skip|go_guarded|go_step|go_upon|go_back)
 go_region
 have hbd:Below (w5.setCell ⟨L,13,none⟩ (.slice sa s.segs.length sc)).heap.size (w5.setCell ⟨L,13,none⟩ (.slice sa s.segs.length sc)) (w5.setCell ⟨L,13,none⟩ (.slice sa s.segs.length sc)).drew:=(Below.refl _ _).drew
 have HA7:=Lib.hid (HA6.out.pure hbd)
 have HM7:=Lib.hid (HM6.out.below hbd)
 have HQ7:=Lib.hid (HQ6.out.drew)
 have HR7:=Lib.hid (blk_below hbd HR6.out (blk_lt HR6.out))
 clear hbd HA6 HM6 HQ6 HB6 HR6 HA5 HM5 HQ5 HB5 HR5 l17 l13 f13 bx
 generalize (w5.setCell ⟨L,13,none⟩ (.slice sa s.segs.length sc)).drew=w7 at HA7 HM7 HQ7 HR7 ⊢
 have bx:=(blk1 HA7.out.bx).1
 refine(show Code.wpS _ _ _ _ _ _ from ?_)
 refine wpS_of_wp ?_
 repeat' ((fail_if_success at_builtin);first|go_values|go_skip|go_guarded|go_step|go_upon|go_back)
 (refine(asorts_any w7 HA7.out HM7.out hlen hnm hneed).mono ?_;rintro e1 w8 ⟨rfl,⟨lv,ov,v,ha8⟩,hb8⟩;dsimp only)
 (have HA8:=Lib.hid ha8;have HR8:Hid (w8.heap[R]? = some (.cells ZR 50 (0,0))):=Lib.hid ((hb8.block R hnR).trans HR7.out);have HQ8:=Lib.hid ((HQ7.out.trans hb8).mono (Nat.le_of_lt hnR));clear ha8 hb8 HA7 HM7 HQ7 HR7 bx;obtain⟨na,nc,rfl,-,-,-,-⟩:=own_rowT HA8.out.no;obtain⟨la,lc,rfl,-,-,-,-⟩:=own_rowT HA8.out.lo;obtain⟨oa,oc,rfl,-,-,-,-⟩:=own_rowT HA8.out.oo;have bx:=(blk1 HA8.out.bx).1;have k2:=blk_cell HA8.out.hl 2;have k3:=blk_cell HA8.out.hl 3;have k4:=blk_cell HA8.out.hl 4;have k5:=blk_cell HA8.out.hl 5;have k6:=blk_cell HA8.out.hl 6;have k7:=blk_cell HA8.out.hl 7;have k8:=blk_cell HA8.out.hl 8;have k9:=blk_cell HA8.out.hl 9;have k10:=blk_cell HA8.out.hl 10;have k11:=blk_cell HA8.out.hl 11;have k12:=blk_cell HA8.out.hl 12;have k13:=blk_cell HA8.out.hl 13;have k14:=blk_cell HA8.out.hl 14;have k15:=blk_cell HA8.out.hl 15;have k16:=blk_cell HA8.out.hl 16;simp only[LRc,List.getElem?_toArray,List.getElem?_cons_zero,List.getElem?_cons_succ] at k2 k3 k4 k5 k6 k7 k8 k9 k10 k11 k12 k13 k14 k15 k16;have z0:=blk_cell HR8.out 0;have z1:=blk_cell HR8.out 1;have z2:=blk_cell HR8.out 2;have z3:=blk_cell HR8.out 3;have z4:=blk_cell HR8.out 4;have z5:=blk_cell HR8.out 5;have z6:=blk_cell HR8.out 6;have z7:=blk_cell HR8.out 7;have z8:=blk_cell HR8.out 8;have z9:=blk_cell HR8.out 9;have z10:=blk_cell HR8.out 10;have z11:=blk_cell HR8.out 11;have z12:=blk_cell HR8.out 12;have z13:=blk_cell HR8.out 13;have z14:=blk_cell HR8.out 14;simp only[ZR,List.getElem?_toArray,List.getElem?_cons_zero,List.getElem?_cons_succ] at z0 z1 z2 z3 z4 z5 z6 z7 z8 z9 z10 z11 z12 z13 z14;have fz:=fun i=>blk_free HR8.out i;(repeat' ((fail_if_success at_builtin);first|go_values|go_skip|go_guarded|go_step|go_upon|go_back)))
 obtain⟨h1,h2,h3⟩:=setR_blk HR8.out HQ8.out 0 s.base s.last (s.last-s.base) s.torn s.has s.man (.slice sa s.segs.length sc) (.slice na s.needed.length nc) (.slice la (leftOf s.needed (sortN fs)).length lc) (.slice oa (othersOf s.needed (sortN fs)).length oc)
 have hT:TellPost w n0 R (repOf fs (s,true)) (setR w8 R 0 s.base s.last (s.last-s.base) s.torn s.has s.man (.slice sa s.segs.length sc) (.slice na s.needed.length nc) (.slice la (leftOf s.needed (sortN fs)).length lc) (.slice oa (othersOf s.needed (sortN fs)).length oc)):=by
  have hk:∀ {n1 size n:Nat} {t:TypeId} {x:Value} {xs:List Value},w8.ownsRow n1 t size x n xs->n0<=n1->(setR w8 R 0 s.base s.last (s.last-s.base) s.torn s.has s.man (.slice sa s.segs.length sc) (.slice na s.needed.length nc) (.slice la (leftOf s.needed (sortN fs)).length lc) (.slice oa (othersOf s.needed (sortN fs)).length oc)).ownsRow n1 t size x n xs:=fun{n1 size n t x xs} ho hn=>own_hk_at ho fun k c hk hb=>h3 k _ hb (by have:=own_ge ho hk;omega)
  exact⟨_,_,_,_,h1,⟨hk HA8.out.so (Nat.le_refl _),hk HA8.out.no (Nat.le_refl _),hk HA8.out.lo (Nat.le_refl _),hk HA8.out.oo (Nat.le_refl _),HA8.out.dnl,HA8.out.dno,HA8.out.dlo⟩,h2⟩
 unfold setR at hT
 clear h1 h2 h3 k2 k3 k4 k5 k6 k7 k8 k9 k10 k11 k12 k13 k14 k15 k16 z0 z1 z2 z3 z4 z5 z6 z7 z8 z9 z10 z11 z12 z13 z14 fz bx
 exact⟨rfl,.returning,by rw[<-hu],_,results_none rfl _ _ _,rfl,rfl,hT⟩
end Go.Proofs.YtbppnihcbcdglaaGreat
