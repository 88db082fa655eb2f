/- page: a procedure of a checkpoint. No condition. -/
import Derived.Sort.Walk0
import Derived.Deep.RegionLaw
import Derived.Test.YtbppnihcbcdglaaGreatZ3
import Derived.Test.YtbppnihcbcdglaaGreatZ23
namespace Go.Proofs.YtbppnihcbcdglaaGreat
open Go.RowKit
set_option linter.unusedVariables false
set_option linter.unusedSimpArgs false
theorem own_lt{w:World}{n0 size n:Nat}{t:TypeId}{v:Value}{xs:List Value}(ho:w.ownsRow n0 t size v n xs):v.ownBlock≠some w.heap.size:=by
 rcases ho.2 with ⟨rfl,_⟩|⟨g,cap,cur,rfl,hg,hh,r⟩
 ·simp[Value.ownBlock]
 ·intro e
  have:g=w.heap.size:=by simpa [Value.ownBlock] using e
  have:=blk_lt hh
  omega
theorem Tryz.info172:(Tryz.prog.info? 172).map (fun i=>(i.zero,i.size,i.bytes))=some (some (.agg #[.string ⟨#[]⟩,.int .i64 0,.slice none 0 0]),3,48):=by kernel_rfl
set_option maxRecDepth 20000 in
set_option maxHeartbeats 4000000 in
theorem gproc_any(w:World){n0 g kb b:Nat}{s:PS}{pv ev:Value}{pcs ecs:List Value}{r:RS}(all:Nat)(hall:all<=17592186044416)(H:PX w n0 g kb s pv ev pcs ecs)(hr:Rd w b r)(hn:n0<=b)(hnp:s.im.procs.length<=2199023255552) :
  Calls Tryz.prog 167 #[.pointer (some ⟨g,0,none⟩),.pointer (some ⟨b,0,none⟩),.int .i64 (all:Int)] w (PgPost n0 g kb b w (pgProc s all r)):=by
 obtain⟨ea,ec,rfl,-,-,-,-⟩:=own_rowT H.eo
 have HX:=Lib.hid H
 have HA:=Lib.hid hall
 have HNP:=Lib.hid hnp
 clear hnp
 clear H hall
 obtain⟨x,r1,hx⟩:∃ x r1,r.text (all:Int)=(x,r1):=⟨_,_,rfl⟩
 obtain⟨p,e,hp⟩:∃ p e,decP x=(p,e):=⟨_,_,rfl⟩
 have HT:=Lib.hid hx
 have HP:=Lib.hid hp
 clear hx hp
 go_enter Tryz.func167,Tryz.ntmps167
 repeat' ((fail_if_success at_builtin);first|go_values|go_skip|go_guarded|go_step|go_upon|go_back)
 (refine(text_any w b r hr (all:Int) (by have:=HA.out;omega)).mono ?_;rintro e1 w1 ⟨rfl,hR1,hF1⟩;dsimp only)
 obtain⟨H1,hb1⟩:=HX.out.read hr hn hF1
 rw[HT.out] at hR1 ⊢
 dsimp only at hR1 ⊢
 obtain⟨hsb1,hsb2⟩:=sb_list w1 x
 have hcv:=run_sbytes w1 ⟨x.toArray⟩
 have HXL:Hid (x.length<=17592186044416):=Lib.hid (by have:=RS.text_len r (all:Int);rw[HT.out] at this;have:=Rd.le hr;dsimp only at *;omega)
 repeat' ((fail_if_success at_builtin);first|go_values|go_skip|go_guarded|go_step|go_upon|go_back)
 refine decP_any _ _ _ x hsb2 HXL.out _ ?_
 intro ca cc w7 hcode hclen hcnil hb7
 rw[HP.out] at hcode ⊢
 dsimp only
 have H7:=(H1.pure hsb1).pure hb7
 have HNE:Hid (pv.ownBlock≠some w7.heap.size):=Lib.hid (own_lt H7.po)
 have hR7:=(hR1.pure hsb1).pure hb7
 have HB7:Hid (Below n0 w w7):=Lib.hid (hb1.trans ((hsb1.trans (hb7.mono hsb1.size)).mono (by have:=Rd.lt hR1;omega)))
 clear hsb1 hsb2 hb7 hcv hclen hcnil hcode H1 hR1 hb1 hF1 hr
 have nw:=blk_new w7 (.cells #[.string ⟨p.name.toArray⟩,.int .i64 p.args,.slice ca p.code.length cc] 172)
 have hbn:Below w7.heap.size w7 (w7.alloc (.cells #[.string ⟨p.name.toArray⟩,.int .i64 p.args,.slice ca p.code.length cc] 172)):=(Below.refl _ w7).alloc (Nat.le_refl _) _
 have H8:=H7.pure hbn
 have hR8:=hR7.pure hbn
 have HB8:Hid (Below n0 w (w7.alloc (.cells #[.string ⟨p.name.toArray⟩,.int .i64 p.args,.slice ca p.code.length cc] 172))):=Lib.hid (HB7.out.trans (hbn.mono (by have:=Rd.lt hR7;omega)))
 clear H7 hR7 hbn HB7
 repeat' ((fail_if_success (with_reducible (show Code.wp _ (Code.region 1 _ _) _ _ _)));(fail_if_success at_builtin);first|go_values|go_skip|go_guarded|go_step|go_upon|go_back)
 generalize w7.alloc (.cells #[.string ⟨p.name.toArray⟩,.int .i64 p.args,.slice ca p.code.length cc] 172)=w8 at nw H8 hR8 HB8 ⊢
 obtain⟨c0,c1,c2,c3,c4,c5,c6,c7⟩:=H8.c
 obtain⟨m0,m1,m2,-⟩:=blk3 nw
 by_cases h1:0<s.frames
 ·have t1:decide (0<s.frames)=true:=decide_eq_true h1
  by_cases h2:e=0
  ·subst h2
   by_cases h3:s.im.entries=[]
   ·have t3:((s.im.entries.length:Int)==0)=true:=by simp[h3]
    by_cases h4:s.name<p.name
    ·have t4:Op.bytesLess p.name s.name=false:=by rw[bytesLess_eq];exact decide_eq_false (fun h=>List.lt_asymm h h4)
     have t5:(p.name==s.name)=false:=by
      rw[beq_eq_false_iff_ne]
      intro h
      rw[h] at h4
      exact List.lt_irrefl _ h4
     have HE:Hid (pgProc s all r=some ({ s with name:=p.name,im:={ s.im with procs:=s.im.procs++[p] } },r1)):=Lib.hid (by unfold pgProc;rw[HT.out];simp only[HP.out];rw[if_pos ⟨h1,trivial,h3,h4⟩])
     clear h1 h3 h4
     go_region_held3 (fun w'=>w'.cell? ⟨g,3,none⟩=some (.slice ea s.im.entries.length ec)/\w'.cell? ⟨g,4,none⟩=some (.int .i64 (s.frames:Int))/\w'.cell? ⟨g,5,none⟩=some (.string ⟨s.name.toArray⟩)/\w'.cell? ⟨w7.heap.size,0,none⟩=some (.string ⟨p.name.toArray⟩)) (first|exact⟨c3,c4,c5,m0⟩) (first
      | (go_at_call 98;refine(pmay_ok _).mono ?_;rintro e1 w9 ⟨rfl,rfl⟩))
     have hbd:Below w8.heap.size w8 w8.drew:=(Below.refl _ _).drew
     have H9:=H8.pure hbd
     have hR9:=Rd.pure hR8 hbd
     have nw9:=blk_below hbd nw (blk_lt nw)
     have HB9:Hid (Below n0 w w8.drew):=Lib.hid HB8.out.drew
     clear H8 hR8 nw HB8 hbd c0 c1 c2 c3 c4 c5 c6 c7 m0 m1 m2 t1 t3 t4 t5
     generalize w8.drew=w9 at H9 hR9 nw9 HB9 ⊢
     obtain⟨m0,m1,m2,-⟩:=blk3 nw9
     have c5:=H9.c.2.2.2.2.2.1
     have f5:=H9.f 5
     obtain⟨H10,hR10,hb10⟩:=H9.set hR9 (s':={ s with name:=p.name }) 5 (.string ⟨p.name.toArray⟩) rfl rfl rfl
     have HB10:=Lib.hid (HB9.out.trans hb10)
     have nw10:=blk_set_other nw9 (blk_ne nw9 H9.hg (by decide)) 5 (.string ⟨p.name.toArray⟩)
     clear H9 hR9 hb10 HB9 nw9
     repeat' ((fail_if_success (with_reducible (show Code.wp _ (Code.region 3 _ _) _ _ _)));(fail_if_success at_builtin);first|go_values|go_skip|go_guarded|go_step|go_upon|go_back)
     clear c5 f5 m0 m1 m2
     generalize w9.setCell ⟨g,5,none⟩ (.string ⟨p.name.toArray⟩)=w10 at H10 hR10 nw10 HB10 ⊢
     obtain⟨i0,hi0,hz0,hz1,hz2⟩:=info_parts Tryz.info172
     obtain⟨m0,m1,m2,-⟩:=blk3 nw10
     have c2:=H10.c.2.2.1
     have c2a:∀ o,(w10.alloc o).cell? ⟨g,2,none⟩=some pv:=fun o=>blk_cell (blk_alloc H10.hg o) 2
     have m0a:∀ o,(w10.alloc o).cell? ⟨w7.heap.size,0,none⟩=some (.string ⟨p.name.toArray⟩):=fun o=>(blk3 (blk_alloc nw10 o)).1
     have m1a:∀ o,(w10.alloc o).cell? ⟨w7.heap.size,1,none⟩=some (.int .i64 p.args):=fun o=>(blk3 (blk_alloc nw10 o)).2.1
     have m2a:∀ o,(w10.alloc o).cell? ⟨w7.heap.size,2,none⟩=some (.slice ca p.code.length cc):=fun o=>(blk3 (blk_alloc nw10 o)).2.2.1
     have hsz10:n0<=w10.heap.size:=by have:=H10.ng;have:=blk_lt H10.hg;omega
     have hbd2:Below w10.heap.size w10 w10.drew:=(Below.refl _ _).drew
     have H11:=H10.pure hbd2
     have hR11:=Rd.pure hR10 hbd2
     have nw11:=blk_below hbd2 nw10 (blk_lt nw10)
     have NG:Hid (w7.heap.size≠g):=Lib.hid (blk_ne nw10 H10.hg (by decide))
     have NE:=HNE
     have c2d:∀ o,(w10.drew.alloc o).cell? ⟨g,2,none⟩=some pv:=c2a
     have m0d:∀ o,(w10.drew.alloc o).cell? ⟨w7.heap.size,0,none⟩=some (.string ⟨p.name.toArray⟩):=m0a
     have m1d:∀ o,(w10.drew.alloc o).cell? ⟨w7.heap.size,1,none⟩=some (.int .i64 p.args):=m1a
     have m2d:∀ o,(w10.drew.alloc o).cell? ⟨w7.heap.size,2,none⟩=some (.slice ca p.code.length cc):=m2a
     go_region_law (first
      | ((refine step_append_lies _ (by rfl) _ _ _ (by rfl) n0 172 i0 _ 3 48 Tryz.underlying72 hi0 hz0 hz1 hz2 rfl (by omega) pv s.im.procs.length pcs (by rfl) (own_below H11.po ((Below.refl _ _).alloc (Nat.le_refl _) _)) ⟨w10.heap.size,0,none⟩ 1 1 [.string ⟨p.name.toArray⟩,.int .i64 p.args,.slice ca p.code.length cc] (by rfl) (by rfl) (World.news_of_block (cs:=#[.string ⟨p.name.toArray⟩,.int .i64 p.args,.slice ca p.code.length cc]) (t:=172) (fr:=(0,0)) (heap_alloc_new w10.drew _)) (by simp[Value.oneCell']) (by omega) (by unfold maxLen;have:=HNP.out;omega) (by have:=HNP.out;omega) (by simp;omega) (w10.heap.size+1) (by simp) ?_;intro gg cap w12 hown12 hgrow hat hlt12;obtain⟨s0,s1,D13,R13,B13⟩:=H11.appP hR11 hsz10 _ hgrow p _ hown12;have hp12:=blk_grown hgrow (blk_alloc nw11 _) (show pv.ownBlock≠some w7.heap.size from NE.out);obtain⟨k0,k1,k2,-⟩:=blk3 hp12;have k5:=(blk3 (blk_set_other hp12 (NG.out) 2 (.slice (some ⟨gg,0,none⟩) (s.im.procs.length+1) cap)));have k5:=And.intro k5.1 (And.intro k5.2.1 k5.2.2.1))))
     all_goals (
      refine bodyPost_end (results_none rfl _ _ _) rfl ?_
      rw[HE.out]
      exact⟨rfl,⟨_,_,_,_,D13⟩,R13,HB10.out.drew.trans B13⟩)
    ·have HE:Hid (pgProc s all r=none):=Lib.hid (by unfold pgProc;rw[HT.out];exact if_neg (fun h=>by have:=h.2.2.2;rw[HP.out] at this;exact h4 this))
     have h5:=bytesLess_eq p.name s.name
     rcases Bool.eq_false_or_eq_true (Op.bytesLess p.name s.name) with b1|b1
     ·clear h1 h3 h4 h5
      (refine wp_region_qpan 16 27 43 _ (.tmp 42) (by kernel_rfl) (by kernel_rfl) rfl rfl rfl (by kernel_rfl) rfl ?hp ?hq;(case hp=>(rintro a' w' K hk ⟨nn,rfl⟩ he;clear m0 m1 m2 nw H8 hR8;rcases a' with ⟨T,D⟩;obtain⟨hD,-⟩:=hk;simp only[Act.eval] at he hD;unfold Oper.wp;simp[execOp,go_sem,he];refine(pmay_no _).mono ?_;rintro e1 w3 ⟨rfl,rfl⟩;exact⟨hD,by rw[HE.out];exact⟨rfl,bdrewN HB8.out nn⟩⟩));(case hq=>(simp only[List.set_cons_succ,List.set_cons_zero];(repeat (quiet_step (fail)));refine wpQuiet_nil ?_;rfl)))
     ·have b2:(p.name==s.name)=true:=by
       rw[b1] at h5
       have h6:=of_decide_eq_false h5.symm
       rw[List.le_antisymm (List.not_lt.1 h4) (List.not_lt.1 h6)]
       simp
      clear h1 h3 h4 h5
      (refine wp_region_qpan 16 27 43 _ (.tmp 42) (by kernel_rfl) (by kernel_rfl) rfl rfl rfl (by kernel_rfl) rfl ?hp ?hq;(case hp=>(rintro a' w' K hk ⟨nn,rfl⟩ he;clear m0 m1 m2 nw H8 hR8;rcases a' with ⟨T,D⟩;obtain⟨hD,-⟩:=hk;simp only[Act.eval] at he hD;unfold Oper.wp;simp[execOp,go_sem,he];refine(pmay_no _).mono ?_;rintro e1 w3 ⟨rfl,rfl⟩;exact⟨hD,by rw[HE.out];exact⟨rfl,bdrewN HB8.out nn⟩⟩));(case hq=>(simp only[List.set_cons_succ,List.set_cons_zero];(repeat (quiet_step (fail)));refine wpQuiet_nil ?_;rfl)))
   ·have HE:Hid (pgProc s all r=none):=Lib.hid (by unfold pgProc;rw[HT.out];exact if_neg (fun h=>h3 h.2.2.1))
    have t3:((s.im.entries.length:Int)==0)=false:=by simpa using h3
    clear h1 h3
    (refine wp_region_qpan 16 27 43 _ (.tmp 42) (by kernel_rfl) (by kernel_rfl) rfl rfl rfl (by kernel_rfl) rfl ?hp ?hq;(case hp=>(rintro a' w' K hk ⟨nn,rfl⟩ he;clear m0 m1 m2 nw H8 hR8;rcases a' with ⟨T,D⟩;obtain⟨hD,-⟩:=hk;simp only[Act.eval] at he hD;unfold Oper.wp;simp[execOp,go_sem,he];refine(pmay_no _).mono ?_;rintro e1 w3 ⟨rfl,rfl⟩;exact⟨hD,by rw[HE.out];exact⟨rfl,bdrewN HB8.out nn⟩⟩));(case hq=>(simp only[List.set_cons_succ,List.set_cons_zero];(repeat (quiet_step (fail)));refine wpQuiet_nil ?_;rfl)))
  ·have HE:Hid (pgProc s all r=none):=Lib.hid (by unfold pgProc;rw[HT.out];exact if_neg (fun h=>by have:=h.2.1;rw[HP.out] at this;exact h2 this))
   have t2:(e==0)=false:=by simpa using h2
   clear h1 h2
   (refine wp_region_qpan 16 27 43 _ (.tmp 42) (by kernel_rfl) (by kernel_rfl) rfl rfl rfl (by kernel_rfl) rfl ?hp ?hq;(case hp=>(rintro a' w' K hk ⟨nn,rfl⟩ he;clear m0 m1 m2 nw H8 hR8;rcases a' with ⟨T,D⟩;obtain⟨hD,-⟩:=hk;simp only[Act.eval] at he hD;unfold Oper.wp;simp[execOp,go_sem,he];refine(pmay_no _).mono ?_;rintro e1 w3 ⟨rfl,rfl⟩;exact⟨hD,by rw[HE.out];exact⟨rfl,bdrewN HB8.out nn⟩⟩));(case hq=>(simp only[List.set_cons_succ,List.set_cons_zero];(repeat (quiet_step (fail)));refine wpQuiet_nil ?_;rfl)))
 ·have hz:s.frames=0:=by omega
  have c4':w8.cell? ⟨g,4,none⟩=some (.int .i64 0):=by rw[c4,hz];rfl
  clear c4 h1
  have HE:Hid (pgProc s all r=none):=Lib.hid (by unfold pgProc;rw[HT.out];exact if_neg (fun h=>by have:=h.1;omega))
  (refine wp_region_qpan 16 27 43 _ (.tmp 42) (by kernel_rfl) (by kernel_rfl) rfl rfl rfl (by kernel_rfl) rfl ?hp ?hq;(case hp=>(rintro a' w' K hk ⟨nn,rfl⟩ he;clear m0 m1 m2 nw H8 hR8;rcases a' with ⟨T,D⟩;obtain⟨hD,-⟩:=hk;simp only[Act.eval] at he hD;unfold Oper.wp;simp[execOp,go_sem,he];refine(pmay_no _).mono ?_;rintro e1 w3 ⟨rfl,rfl⟩;exact⟨hD,by rw[HE.out];exact⟨rfl,bdrewN HB8.out nn⟩⟩));(case hq=>(simp only[List.set_cons_succ,List.set_cons_zero];(repeat (quiet_step (fail)));refine wpQuiet_nil ?_;rfl)))
end Go.Proofs.YtbppnihcbcdglaaGreat
