/- audit: checkpoint. No condition. -/
import Derived.Sort.Walk0
import Derived.Test.YtbppnihcbcdglaaGreatZ3
import Derived.Test.YtbppnihcbcdglaaGreatZ24
import Derived.Test.YtbppnihcbcdglaaGreatV29
namespace Go.Proofs.YtbppnihcbcdglaaGreat
set_option maxHeartbeats 0
open Go.RowKit
set_option linter.unusedVariables false
set_option linter.unusedSimpArgs false
set_option maxRecDepth 20000 in
theorem afits_any(w:World){n0 L mb:Nat}{fs:Fs}{firsts:List Int}{s:AS}{fv nv sv:Value}(H:AX w n0 L mb fs firsts s fv nv sv)(hfs:FsOk fs)(hlen:s.needed.length<=1000000)(n m:Int) :
  Calls Tryz.prog 138 #[.pointer (some ⟨L,0,none⟩),.int .i64 n,.int .i64 m] w fun e w'=>e = .returned (.bool (aFits fs s n m).2)/\(∃ nv',AX w' n0 L mb fs firsts (aFits fs s n m).1 fv nv' sv)/\Below n0 w w'/\KpA w w':=by
 have HX:=Lib.hid H
 have HF:=Lib.hid hfs
 have HL:=Lib.hid hlen
 clear H hfs hlen
 obtain⟨nm,hnm⟩:∃ nm,nameOf ckptH n=nm:=⟨_,rfl⟩
 have HNM:=Lib.hid hnm
 cases hd:getF fs nm with
 | none =>
  have e:aFits fs s n m=(s,false):=by unfold aFits;rw[hnm,hd]
  rw[e]
  have HD:=Lib.hid hd
  clear e hd hnm
  go_enter Tryz.func138,Tryz.ntmps138
  repeat' ((fail_if_success at_builtin);first|go_values|go_skip|go_guarded|go_step|go_upon|go_back)
  (refine(cname_any w n).mono ?_;rintro e1 w1 ⟨rfl,hb1⟩;dsimp only)
  rw[HNM.out]
  have HX1:=Lib.hid (HX.out.pure hb1)
  have HB1:=Lib.hid (hb1.mono HX.out.size)
  have HK1:=Lib.hid (KpA.of_below hb1)
  clear hb1
  have c0:w1.cell? ⟨L,0,none⟩=some (.map (some mb)):=HX1.out.cells 0
  have hlk:=HX1.out.fm.none HD.out true
  simp only[if_true] at hlk
  repeat' ((fail_if_success at_builtin);first|go_values|go_skip|go_guarded|go_step|go_upon|go_back)
  refine bodyPost_ret (v:=(.bool false)) (by simp[results,Tryz.results138,go_sem]) rfl ⟨rfl,⟨_,HX1.out⟩,HB1.out,HK1.out⟩
 | some d =>
  obtain⟨im,e,hg⟩:∃ im e,decG d=(im,e):=⟨_,_,rfl⟩
  have HD:=Lib.hid hd
  have HG:=Lib.hid hg
  obtain⟨bb,hbb⟩:∃ bb,bb=(e==0&&im.number==n&&im.mark==m):=⟨_,rfl⟩
  have he:aFits fs s n m=(s.need nm,bb):=by unfold aFits;rw[hnm,hd];simp only[fitsG,hg,hnm,hbb]
  rw[he]
  have HBB:=Lib.hid hbb
  clear hbb
  clear he hd hg hnm
  go_enter Tryz.func138,Tryz.ntmps138
  repeat' ((fail_if_success at_builtin);first|go_values|go_skip|go_guarded|go_step|go_upon|go_back)
  (refine(cname_any w n).mono ?_;rintro e1 w1 ⟨rfl,hb1⟩;dsimp only)
  rw[HNM.out]
  have HX1:=Lib.hid (HX.out.pure hb1)
  have HB1:=Lib.hid (hb1.mono HX.out.size)
  have HK1:=Lib.hid (KpA.of_below hb1)
  clear hb1
  have c0:w1.cell? ⟨L,0,none⟩=some (.map (some mb)):=HX1.out.cells 0
  obtain⟨a0,c0',hbs,hlk⟩:=HX1.out.fm.has HF.out.nodup HD.out true
  simp only[if_true] at hlk
  clear hbs
  repeat' ((fail_if_success at_builtin);first|go_values|go_skip|go_guarded|go_step|go_upon|go_back)
  (refine(aread_any w1 HX1.out HF.out.nodup nm d HL.out HD.out).mono ?_;rintro e1 w2 ⟨a,c,nv',rfl,hbs1,hx2,hb2,hk2⟩;dsimp only)
  have HX2:=Lib.hid hx2
  have HB2:=Lib.hid (HB1.out.trans hb2)
  have HK2:=Lib.hid (HK1.out.trans hk2)
  clear hk2
  clear hx2 hb2 hlk c0
  repeat' ((fail_if_success at_builtin);first|go_values|go_skip|go_guarded|go_step|go_upon|go_back)
  refine gread_cps w2 a c d hbs1 (HF.out.len _ _ HD.out) _ ?_
  intro pa pn pc ea en ec w3 hb3
  rw[HG.out]
  dsimp only
  have i0:=blk_new w3 (.cells #[.int .i64 im.number,.int .i64 im.mark,.slice pa pn pc,.slice ea en ec] 75)
  have hb4:Below w2.heap.size w2 (w3.alloc (.cells #[.int .i64 im.number,.int .i64 im.mark,.slice pa pn pc,.slice ea en ec] 75)):=hb3.alloc hb3.size _
  have HX4:=Lib.hid (HX2.out.pure hb4)
  have HB4:=Lib.hid (HB2.out.trans (hb4.mono HX2.out.size))
  have HK4:=Lib.hid (HK2.out.trans (KpA.of_below hb4))
  clear hbs1 hb3 hb4
  repeat' ((fail_if_success (with_reducible (show Code.wp _ (Code.region 6 _ _) _ _ _)));(fail_if_success at_builtin);first|go_values|go_skip|go_guarded|go_step|go_upon|go_back)
  generalize w3.alloc (.cells #[.int .i64 im.number,.int .i64 im.mark,.slice pa pn pc,.slice ea en ec] 75)=w4 at i0 HX4 HB4 HK4 ⊢
  obtain⟨i0,i1,-⟩:=blk4 i0
  rcases Bool.eq_false_or_eq_true (e==0) with t1|t1
  ·rcases Bool.eq_false_or_eq_true (im.number==n) with t2|t2
   ·rcases Bool.eq_false_or_eq_true (im.mark==m) with t3|t3
    ·(try skip)
     repeat' ((fail_if_success at_builtin);first|go_values|go_skip|go_guarded|go_step|go_upon|go_back)
     refine bodyPost_ret (v:=(.bool true)) (by simp[results,Tryz.results138,go_sem]) rfl ⟨by rw[HBB.out,t1,t2,t3];rfl,⟨_,HX4.out⟩,HB4.out,HK4.out⟩
    ·(try skip)
     repeat' ((fail_if_success at_builtin);first|go_values|go_skip|go_guarded|go_step|go_upon|go_back)
     refine bodyPost_ret (v:=(.bool false)) (by simp[results,Tryz.results138,go_sem]) rfl ⟨by rw[HBB.out,t1,t2,t3];rfl,⟨_,HX4.out⟩,HB4.out,HK4.out⟩
   ·(try skip)
    repeat' ((fail_if_success at_builtin);first|go_values|go_skip|go_guarded|go_step|go_upon|go_back)
    refine bodyPost_ret (v:=(.bool false)) (by simp[results,Tryz.results138,go_sem]) rfl ⟨by rw[HBB.out,t1,t2];rfl,⟨_,HX4.out⟩,HB4.out,HK4.out⟩
  ·(try skip)
   repeat' ((fail_if_success at_builtin);first|go_values|go_skip|go_guarded|go_step|go_upon|go_back)
   refine bodyPost_ret (v:=(.bool false)) (by simp[results,Tryz.results138,go_sem]) rfl ⟨by rw[HBB.out,t1];rfl,⟨_,HX4.out⟩,HB4.out,HK4.out⟩
theorem AX.c19{w:World}{n0 L mb:Nat}{fs:Fs}{firsts:List Int}{s:AS}{fv nv sv:Value}(h:AX w n0 L mb fs firsts s fv nv sv) :
  w.cell? ⟨L,18,none⟩=some (.int .i64 s.torn)/\w.cell? ⟨L,19,none⟩=some (.int .i64 s.base)/\w.cell? ⟨L,20,none⟩=some (.int .i64 s.last):=⟨h.cells 18,h.cells 19,h.cells 20⟩
theorem AX.c1{w:World}{n0 L mb:Nat}{fs:Fs}{firsts:List Int}{s:AS}{fv nv sv:Value}(h:AX w n0 L mb fs firsts s fv nv sv):w.cell? ⟨L,1,none⟩=some fv:=h.cells 1
theorem AX.base{w:World}{n0 L mb:Nat}{fs:Fs}{firsts:List Int}{s:AS}{fv nv sv:Value}(h:AX w n0 L mb fs firsts s fv nv sv)(b:Int):AX (w.setCell ⟨L,19,none⟩ (.int .i64 b)) n0 L mb fs firsts { s with base:=b } fv nv sv/\Below n0 w (w.setCell ⟨L,19,none⟩ (.int .i64 b)) :=
 h.set { s with base:=b } 19 (.int .i64 b) rfl rfl rfl
theorem AX.first{w:World}{n0 L mb:Nat}{fs:Fs}{firsts:List Int}{s:AS}{fv nv sv:Value}(h:AX w n0 L mb fs firsts s fv nv sv)(hl:0<firsts.length):∃ g cap,fv = .slice (some ⟨g,0,none⟩) firsts.length cap/\g<w.heap.size/\firsts.length<=cap/\∀ i,i<firsts.length->w.cell? ⟨g,i,none⟩=some (.int .i64 (firsts.getD i 0)):=by
 obtain⟨g,cap,rfl,hc,-⟩:=own_shape h.fo hl
 obtain⟨a,c,e,-,-,hr,-⟩:=own_rowT h.fo
 cases e
 rcases hr with hr|⟨g',o,cur,f,e,hg,hh⟩
 ·simp at hr;subst hr;simp at hl
 ·cases e
  refine⟨g,cap,rfl,blk_lt hg,hc,fun i hi=>?_⟩
  have:=(blk_cell hg i).trans (by simpa using hh i (.int .i64 (firsts.getD i 0)) (by simp[List.getD_eq_getElem?_getD,List.getElem?_eq_getElem hi]))
  exact this
set_option maxRecDepth 20000 in
theorem ackpt_any(w:World){n0 L mb:Nat}{fs:Fs}{firsts:List Int}{s:AS}{fv nv sv:Value}(H:AX w n0 L mb fs firsts s fv nv sv)(hfs:FsOk fs)(hlen:s.needed.length<=999000)(h0:A0 s)(hfl:firsts.length<=1000000) :
  Calls Tryz.prog 71 #[.pointer (some ⟨L,0,none⟩)] w (APostK n0 L mb fs firsts w (aCkpt fs firsts s)):=by
 have HX:=Lib.hid H
 have HF:=Lib.hid hfs
 have HL:=Lib.hid hlen
 have H0:=Lib.hid h0
 obtain⟨m,hm⟩:∃ m,s.man=m:=⟨_,rfl⟩
 obtain⟨p7,p8,p9,p10,p11,p12⟩:=H.c7
 rw[hm] at p8 p9 p10 p11 p12
 have m0:=blk_new w (.cells #[.int .i64 m.number,.int .i64 m.file,.int .i64 m.mark,.int .i64 m.prev,.int .i64 m.pmark] 46)
 have hb1:Below w.heap.size w (w.alloc (.cells #[.int .i64 m.number,.int .i64 m.file,.int .i64 m.mark,.int .i64 m.prev,.int .i64 m.pmark] 46)):=(Below.refl _ w).alloc (Nat.le_refl _) _
 have HX1:=Lib.hid (HX.out.pure hb1)
 have HB1:=Lib.hid (hb1.mono H.size)
 have HK1:=Lib.hid (KpA.of_below hb1)
 have HMAN:=Lib.hid hm
 clear H hfs hlen h0 hb1
 cases hh:s.has with
 | false =>
  have e:aCkpt fs firsts s=(s,true):=by unfold aCkpt;rw[if_pos hh]
  rw[e]
  have q7:=HX1.out.c7.1
  rw[hh] at q7
  have Q7:=Lib.hid q7
  clear hh e hm q7
  go_enter Tryz.func71,Tryz.ntmps71
  repeat' ((fail_if_success (with_reducible (show Code.wp _ (Code.region 4 _ _) _ _ _)));(fail_if_success at_builtin);first|go_values|go_skip|go_guarded|go_step|go_upon|go_back)
  generalize w.alloc (.cells #[.int .i64 m.number,.int .i64 m.file,.int .i64 m.mark,.int .i64 m.prev,.int .i64 m.pmark] 46)=w1 at m0 HX1 HB1 HK1 Q7 ⊢
  have q7:=Q7.out
  clear p7 p8 p9 p10 p11 p12
  repeat' ((fail_if_success at_builtin);first|go_values|go_skip|go_guarded|go_step|go_upon|go_back)
  refine bodyPost_end (results_none rfl _ _ _) rfl ⟨⟨rfl,⟨_,_,_,HX1.out⟩,HB1.out⟩,fun _=>HK1.out⟩
 | true =>
  rw[hh] at p7
  have HM:=Lib.hid (show _ from by have:=mayM_ge (H0.out.man hh);rw[hm] at this;exact this)
  obtain⟨x,f1,hx⟩:∃ x f1,aFits fs s m.file m.mark=(x,f1):=⟨_,_,rfl⟩
  have HXF:=Lib.hid hx
  have HE:Hid (aCkpt fs firsts s=if f1 then ({ x with base:=m.mark },true) else if aPrev firsts m then (if (aFits fs x m.prev m.pmark).2 then ({ (aFits fs x m.prev m.pmark).1 with base:=m.pmark },true) else ((aFits fs x m.prev m.pmark).1,false)) else (x,false)):=Lib.hid (by unfold aCkpt;rw[if_neg (by simp[hh]),hm,hx])
  have q7:=HX1.out.c7.1
  rw[hh] at q7
  have Q7:=Lib.hid q7
  clear hh hx hm q7
  go_enter Tryz.func71,Tryz.ntmps71
  repeat' ((fail_if_success (with_reducible (show Code.wp _ (Code.region 4 _ _) _ _ _)));(fail_if_success at_builtin);first|go_values|go_skip|go_guarded|go_step|go_upon|go_back)
  generalize w.alloc (.cells #[.int .i64 m.number,.int .i64 m.file,.int .i64 m.mark,.int .i64 m.prev,.int .i64 m.pmark] 46)=w1 at m0 HX1 HB1 HK1 Q7 ⊢
  have q7:=Q7.out
  have m0b:=m0
  obtain⟨m0,m1,m2,m3,m4,-⟩:=blk5 m0b
  clear p7 p8 p9 p10 p11 p12
  repeat' ((fail_if_success at_builtin);first|go_values|go_skip|go_guarded|go_step|go_upon|go_back)
  (refine(afits_any w1 HX1.out HF.out (by have:=HL.out;omega) m.file m.mark).mono ?_;rintro e1 w2 ⟨rfl,⟨nv2,hx2⟩,hb2,hk2⟩;dsimp only)
  rw[HXF.out] at hx2 ⊢
  dsimp only at hx2 ⊢
  have HX2:=Lib.hid hx2
  have HB2:=Lib.hid (HB1.out.trans hb2)
  have HK2:=Lib.hid (HK1.out.trans hk2)
  have hM2:=hk2 _ _ _ _ m0b (by decide) (by decide) (by decide)
  clear hk2 hb2 hx2 m0b m0 m1 m2 m3 m4 q7
  obtain⟨m0,m1,m2,m3,m4,-⟩:=blk5 hM2
  cases f1 with
  | true =>
   obtain⟨hx3,hb3⟩:=HX2.out.base m.mark
   obtain⟨-,c19,-⟩:=HX2.out.c19
   have f19:=HX2.out.free 19
   repeat' ((fail_if_success at_builtin);first|go_values|go_skip|go_guarded|go_step|go_upon|go_back)
   refine bodyPost_end (results_none rfl _ _ _) rfl ?_
   rw[HE.out]
   exact⟨⟨rfl,⟨_,_,_,hx3⟩,HB2.out.trans hb3⟩,fun _=>HK2.out.trans (HX2.out.kset _ _)⟩
  | false =>
   have hw1:IntKind.i64.wrap (m.pmark+1)=m.pmark+1:=IntWalk.i64_in _ (by have:=HM.out;omega)
   have c1:=HX2.out.c1
   by_cases h1:0<m.prev
   ·have t1:decide ((0:Int)<m.prev)=true:=decide_eq_true h1
    by_cases h2:0<firsts.length
    ·have t2:decide (0<firsts.length)=true:=decide_eq_true h2
     obtain⟨g,cap,rfl,hg,hcap,hcells⟩:=HX2.out.first h2
     have g0:=hcells 0 h2
     have hpos:(0:Int)<(firsts.length:Int):=by omega
     obtain⟨f0,hf0⟩:∃ f0,firsts.getD 0 0=f0:=⟨_,rfl⟩
     rw[hf0] at g0
     by_cases h3:f0<=m.pmark+1
     ·have t3:decide (f0<=m.pmark+1)=true:=decide_eq_true h3
      have hap:aPrev firsts m=true:=by unfold aPrev;rw[t1,t2,hf0,t3];rfl
      obtain⟨y,f2,hy⟩:∃ y f2,aFits fs x m.prev m.pmark=(y,f2):=⟨_,_,rfl⟩
      have HY:=Lib.hid hy
      have HE2:Hid (aCkpt fs firsts s=if f2 then ({ y with base:=m.pmark },true) else (y,false)):=Lib.hid (by rw[HE.out,if_neg (by simp),if_pos hap,hy])
      have HLX:Hid (x.needed.length<=1000000):=Lib.hid (by
       have h5:(aFits fs s m.file m.mark).1.needed.length<=s.needed.length+1:=by unfold aFits;split <;> simp[AS.need]
       rw[HXF.out] at h5
       have:=HL.out
       dsimp only at h5
       omega)
      clear h1 h3 hap HE hf0 hcells hy
      repeat' ((fail_if_success at_builtin);first|go_values|go_skip|go_guarded|go_step|go_upon|go_back)
      go_region_held3 (fun w'=>w'.cell? ⟨w.heap.size,3,none⟩=some (.int .i64 m.prev)/\w'.cell? ⟨w.heap.size,4,none⟩=some (.int .i64 m.pmark)/\w'.cell? ⟨L,1,none⟩=some (.slice (some ⟨g,0,none⟩) firsts.length cap)/\w'.cell? ⟨g,0,none⟩=some (.int .i64 f0)) (first|exact⟨m3,m4,c1,g0⟩) (first
       | (go_at_call 137;refine(asure_ok _).mono ?_;rintro e1 w9 ⟨rfl,rfl⟩))
      have hbd:Below w2.heap.size w2 w2.drew:=(Below.refl _ _).drew
      have HX3:=Lib.hid (HX2.out.pure hbd)
      have HB3:=Lib.hid HB2.out.drew
      have hM3:=blk_below hbd hM2 (blk_lt hM2)
      have HK3:=Lib.hid (HK2.out.trans (KpA.of_below hbd))
      clear t1 t2 t3 g0 c1 m0 m1 m2 m3 m4 hM2 hbd hw1 hpos h2 hg hcap HX2 HB2
      generalize w2.drew=w3 at HX3 HB3 HK3 hM3 ⊢
      obtain⟨m0,m1,m2,m3,m4,-⟩:=blk5 hM3
      repeat' ((fail_if_success at_builtin);first|go_values|go_skip|go_guarded|go_step|go_upon|go_back)
      (refine(afits_any w3 HX3.out HF.out HLX.out m.prev m.pmark).mono ?_;rintro e1 w4 ⟨rfl,⟨nv4,hx4⟩,hb4,hk4⟩;dsimp only)
      rw[HY.out] at hx4 ⊢
      dsimp only at hx4 ⊢
      have HX4:=Lib.hid hx4
      have HB4:=Lib.hid (HB3.out.trans hb4)
      have HK4:=Lib.hid (HK3.out.trans hk4)
      have hM4:=hk4 _ _ _ _ hM3 (by decide) (by decide) (by decide)
      clear hk4 hb4 hx4 hM3 m0 m1 m2 m3 m4 HX3 HB3
      obtain⟨m0,m1,m2,m3,m4,-⟩:=blk5 hM4
      cases f2 with
      | true =>
       obtain⟨hx5,hb5⟩:=HX4.out.base m.pmark
       obtain⟨-,c19,-⟩:=HX4.out.c19
       have f19:=HX4.out.free 19
       repeat' ((fail_if_success at_builtin);first|go_values|go_skip|go_guarded|go_step|go_upon|go_back)
       (refine(asure_ok _).mono ?_;rintro e1 w5 ⟨rfl,rfl⟩;dsimp only)
       repeat' ((fail_if_success at_builtin);first|go_values|go_skip|go_guarded|go_step|go_upon|go_back)
       refine bodyPost_end (results_none rfl _ _ _) rfl ?_
       rw[HE2.out]
       exact⟨⟨rfl,⟨_,_,_,hx5⟩,HB4.out.trans hb5⟩,fun _=>HK4.out.trans (HX4.out.kset _ _)⟩
      | false =>
       repeat' ((fail_if_success at_builtin);first|go_values|go_skip|go_guarded|go_step|go_upon|go_back)
       (refine(asure_no _).mono ?_;rintro e1 w5 ⟨rfl,rfl⟩;dsimp only)
       exact⟨rfl,by rw[HE2.out];exact⟨⟨rfl,⟨_,_,_,HX4.out⟩,HB4.out⟩,fun h=>by cases h⟩⟩
     ·have t3:decide (f0<=m.pmark+1)=false:=decide_eq_false h3
      have hap:aPrev firsts m=false:=by unfold aPrev;rw[t1,t2,hf0,t3];rfl
      have HE2:Hid (aCkpt fs firsts s=(x,false)):=Lib.hid (by rw[HE.out,if_neg (by simp),if_neg (by simp[hap])])
      clear h1 h3 hap HE hf0 hcells
      repeat' ((fail_if_success at_builtin);first|go_values|go_skip|go_guarded|go_step|go_upon|go_back)
      (refine wp_region_qpan 3 23 31 _ (.tmp 30) (by kernel_rfl) (by kernel_rfl) rfl rfl rfl (by kernel_rfl) rfl ?hp ?hq;(case hp=>(rintro a' w' K hk ⟨nn,rfl⟩ he;rcases a' with ⟨T,D⟩;obtain⟨hD,-⟩:=hk;simp only[Act.eval] at he hD;unfold Oper.wp;simp[execOp,go_sem,he];refine(asure_no _).mono ?_;rintro e1 w3 ⟨rfl,rfl⟩;exact⟨hD,by rw[HE2.out];exact⟨⟨rfl,⟨_,_,_,HX2.out.pure (bdrewN (Below.refl _ _) nn)⟩,bdrewN HB2.out nn⟩,fun h=>by cases h⟩⟩));(case hq=>(simp only[List.set_cons_succ,List.set_cons_zero];((repeat ((with_reducible refine wpQuiet_step (fun K hK=>?_));go_simp;(with_reducible refine hK _ ?_);clear hK K));(with_reducible refine wpQuiet_nil ?_);rfl))))
    ·have t2:decide (0<firsts.length)=false:=decide_eq_false h2
     obtain⟨fa,fc,rfl,-,-,-,-⟩:=own_rowT HX2.out.fo
     have hap:aPrev firsts m=false:=by unfold aPrev;rw[t1,t2];rfl
     have HE2:Hid (aCkpt fs firsts s=(x,false)):=Lib.hid (by rw[HE.out,if_neg (by simp),if_neg (by simp[hap])])
     clear h1 h2 hap HE
     repeat' ((fail_if_success at_builtin);first|go_values|go_skip|go_guarded|go_step|go_upon|go_back)
     (refine wp_region_qpan 3 23 31 _ (.tmp 30) (by kernel_rfl) (by kernel_rfl) rfl rfl rfl (by kernel_rfl) rfl ?hp ?hq;(case hp=>(rintro a' w' K hk ⟨nn,rfl⟩ he;rcases a' with ⟨T,D⟩;obtain⟨hD,-⟩:=hk;simp only[Act.eval] at he hD;unfold Oper.wp;simp[execOp,go_sem,he];refine(asure_no _).mono ?_;rintro e1 w3 ⟨rfl,rfl⟩;exact⟨hD,by rw[HE2.out];exact⟨⟨rfl,⟨_,_,_,HX2.out.pure (bdrewN (Below.refl _ _) nn)⟩,bdrewN HB2.out nn⟩,fun h=>by cases h⟩⟩));(case hq=>(simp only[List.set_cons_succ,List.set_cons_zero];((repeat ((with_reducible refine wpQuiet_step (fun K hK=>?_));go_simp;(with_reducible refine hK _ ?_);clear hK K));(with_reducible refine wpQuiet_nil ?_);rfl))))
   ·have t1:decide ((0:Int)<m.prev)=false:=decide_eq_false h1
    have hap:aPrev firsts m=false:=by unfold aPrev;rw[t1];rfl
    have HE2:Hid (aCkpt fs firsts s=(x,false)):=Lib.hid (by rw[HE.out,if_neg (by simp),if_neg (by simp[hap])])
    clear h1 hap HE
    repeat' ((fail_if_success at_builtin);first|go_values|go_skip|go_guarded|go_step|go_upon|go_back)
    (refine wp_region_qpan 3 23 31 _ (.tmp 30) (by kernel_rfl) (by kernel_rfl) rfl rfl rfl (by kernel_rfl) rfl ?hp ?hq;(case hp=>(rintro a' w' K hk ⟨nn,rfl⟩ he;rcases a' with ⟨T,D⟩;obtain⟨hD,-⟩:=hk;simp only[Act.eval] at he hD;unfold Oper.wp;simp[execOp,go_sem,he];refine(asure_no _).mono ?_;rintro e1 w3 ⟨rfl,rfl⟩;exact⟨hD,by rw[HE2.out];exact⟨⟨rfl,⟨_,_,_,HX2.out.pure (bdrewN (Below.refl _ _) nn)⟩,bdrewN HB2.out nn⟩,fun h=>by cases h⟩⟩));(case hq=>(simp only[List.set_cons_succ,List.set_cons_zero];((repeat ((with_reducible refine wpQuiet_step (fun K hK=>?_));go_simp;(with_reducible refine hK _ ?_);clear hK K));(with_reducible refine wpQuiet_nil ?_);rfl))))
end Go.Proofs.YtbppnihcbcdglaaGreat
