/- audit.Look's deferred call behind damage. No condition. -/
import Derived.Test.YtbppnihcbcdglaaGreatV31
namespace Go.Proofs.YtbppnihcbcdglaaGreat
open Go.RowKit
set_option linter.unusedVariables false
set_option linter.unusedSimpArgs false
set_option maxRecDepth 20000 in
set_option maxHeartbeats 4000000 in
theorem atell_dam(w:World){n0 L mb R:Nat}{fs:Fs}{firsts:List Int}{s:AS}{fv nv sv:Value}(H:AX w n0 L mb fs firsts s fv nv sv)(hr:w.heap[R]? = some (.cells ZR 50 (0,0)))(hnR:R<n0)(hlen:fs.length<=1000000)(hnm:∀ x∈fs,x.1.length<=1000000)(hneed:s.needed.length<=1000000) :
  CallsD Tryz.prog 68 #[.pointer (some ⟨L+1,0,none⟩),.pointer (some ⟨R,0,none⟩)] (.panicking damE) w fun e u' w'=>e = .returned (.tuple #[])/\u' = .panicking [{ v := .iface 124 (.agg #[]),recovered:=true }]/\TellPost w n0 R (repOf fs (s,false)) w':=by
 have HX:=Lib.hid H
 have bx:=(blk1 H.bx).1
 have NR:=blk_ne hr H.hl (by decide)
 have hbn:Below w.heap.size w (w.alloc (.cells #[] 124)):=(Below.refl _ w).alloc (Nat.le_refl _) _
 have ha0:=H.told.pure hbn
 have f2:=blk_free ha0.hl 2
 have p2:(w.alloc (.cells #[] 124)).cell? ⟨L,2,none⟩=some (.int .i64 0):=blk_cell ha0.hl 2
 have bx1:=(blk1 ha0.bx).1
 obtain⟨a1,q1⟩:=ha0.set (e':=20) (o1':=0) (o2':=0) (o3':=0) (o4':=0) (gv' := .slice none 0 0) 2 (.int .i64 20) rfl
 have m1:=fm_set (H.fm.below hbn) ha0.hl (by decide) 2 (.int .i64 20)
 have r1:=blk_set_other (blk_below hbn hr (blk_lt hr)) NR 2 (.int .i64 20)
 have HA7:=Lib.hid a1
 have HM7:=Lib.hid m1
 have HQ7:=Lib.hid ((hbn.mono H.size).trans q1)
 have HR7:=Lib.hid r1
 clear a1 m1 r1 q1 ha0 hbn
 refine callsD_of_wpS Tryz.func68 rfl fun c₀ cs hu=>?_
 unfold damE at hu
 apply wpS_seq
 apply wpS_seq
 apply wpS_region
 have hta:=assert_dam
 simp[wpOpsS,go_sem,recoverD,hu,Tryz.ntmps68,Exit.thenS,Array.replicate,List.replicate]
 refine wpS_of_wp ?_
 repeat' ((fail_if_success at_builtin);first|go_values|go_skip|go_guarded|go_step|go_upon|go_back)
 clear p2 f2 bx1 bx hta
 generalize (w.alloc (.cells #[] 124)).setCell ⟨L,2,none⟩ (.int .i64 20)=w7 at HA7 HM7 HQ7 HR7 ⊢
 have bx:=(blk1 HA7.out.bx).1
 refine(show Code.wpS _ _ _ _ _ _ from ?_)
 refine wpS_of_wp ?_
 repeat' ((fail_if_success at_builtin);first|go_values|go_skip|go_guarded|go_step|go_upon|go_back)
 (refine(asorts_any w7 HA7.out HM7.out hlen hnm hneed).mono ?_;rintro e1 w8 ⟨rfl,⟨lv,ov,v,ha8⟩,hb8⟩;dsimp only)
 (have HA8:=Lib.hid ha8;have HR8:Hid (w8.heap[R]? = some (.cells ZR 50 (0,0))):=Lib.hid ((hb8.block R hnR).trans HR7.out);have HQ8:=Lib.hid ((HQ7.out.trans hb8).mono (Nat.le_of_lt hnR));clear ha8 hb8 HA7 HM7 HQ7 HR7 bx;obtain⟨na,nc,rfl,-,-,-,-⟩:=own_rowT HA8.out.no;obtain⟨la,lc,rfl,-,-,-,-⟩:=own_rowT HA8.out.lo;obtain⟨oa,oc,rfl,-,-,-,-⟩:=own_rowT HA8.out.oo;have bx:=(blk1 HA8.out.bx).1;have k2:=blk_cell HA8.out.hl 2;have k3:=blk_cell HA8.out.hl 3;have k4:=blk_cell HA8.out.hl 4;have k5:=blk_cell HA8.out.hl 5;have k6:=blk_cell HA8.out.hl 6;have k7:=blk_cell HA8.out.hl 7;have k8:=blk_cell HA8.out.hl 8;have k9:=blk_cell HA8.out.hl 9;have k10:=blk_cell HA8.out.hl 10;have k11:=blk_cell HA8.out.hl 11;have k12:=blk_cell HA8.out.hl 12;have k13:=blk_cell HA8.out.hl 13;have k14:=blk_cell HA8.out.hl 14;have k15:=blk_cell HA8.out.hl 15;have k16:=blk_cell HA8.out.hl 16;simp only[LRc,List.getElem?_toArray,List.getElem?_cons_zero,List.getElem?_cons_succ] at k2 k3 k4 k5 k6 k7 k8 k9 k10 k11 k12 k13 k14 k15 k16;have z0:=blk_cell HR8.out 0;have z1:=blk_cell HR8.out 1;have z2:=blk_cell HR8.out 2;have z3:=blk_cell HR8.out 3;have z4:=blk_cell HR8.out 4;have z5:=blk_cell HR8.out 5;have z6:=blk_cell HR8.out 6;have z7:=blk_cell HR8.out 7;have z8:=blk_cell HR8.out 8;have z9:=blk_cell HR8.out 9;have z10:=blk_cell HR8.out 10;have z11:=blk_cell HR8.out 11;have z12:=blk_cell HR8.out 12;have z13:=blk_cell HR8.out 13;have z14:=blk_cell HR8.out 14;simp only[ZR,List.getElem?_toArray,List.getElem?_cons_zero,List.getElem?_cons_succ] at z0 z1 z2 z3 z4 z5 z6 z7 z8 z9 z10 z11 z12 z13 z14;have fz:=fun i=>blk_free HR8.out i;(repeat' ((fail_if_success at_builtin);first|go_values|go_skip|go_guarded|go_step|go_upon|go_back)))
 obtain⟨h1,h2,h3⟩:=setR_blk HR8.out HQ8.out 20 0 0 0 0 s.has s.man (.slice none 0 0) (.slice na s.needed.length nc) (.slice la (leftOf s.needed (sortN fs)).length lc) (.slice oa (othersOf s.needed (sortN fs)).length oc)
 have hT:TellPost w n0 R (repOf fs (s,false)) (setR w8 R 20 0 0 0 0 s.has s.man (.slice none 0 0) (.slice na s.needed.length nc) (.slice la (leftOf s.needed (sortN fs)).length lc) (.slice oa (othersOf s.needed (sortN fs)).length oc)):=by
  have hk:∀ {n1 size n:Nat} {t:TypeId} {x:Value} {xs:List Value},w8.ownsRow n1 t size x n xs->n0<=n1->(setR w8 R 20 0 0 0 0 s.has s.man (.slice none 0 0) (.slice na s.needed.length nc) (.slice la (leftOf s.needed (sortN fs)).length lc) (.slice oa (othersOf s.needed (sortN fs)).length oc)).ownsRow n1 t size x n xs:=fun{n1 size n t x xs} ho hn=>own_hk_at ho fun k c hk hb=>h3 k _ hb (by have:=own_ge ho hk;omega)
  exact⟨_,_,_,_,h1,⟨World.ownsRow_nil _ _ _ _,hk HA8.out.no (Nat.le_refl _),hk HA8.out.lo (Nat.le_refl _),hk HA8.out.oo (Nat.le_refl _),HA8.out.dnl,HA8.out.dno,HA8.out.dlo⟩,h2⟩
 unfold setR at hT
 clear h1 h2 h3 k2 k3 k4 k5 k6 k7 k8 k9 k10 k11 k12 k13 k14 k15 k16 z0 z1 z2 z3 z4 z5 z6 z7 z8 z9 z10 z11 z12 z13 z14 fz bx
 exact⟨rfl,_,rfl,_,results_none rfl _ _ _,rfl,rfl,hT⟩
end Go.Proofs.YtbppnihcbcdglaaGreat
