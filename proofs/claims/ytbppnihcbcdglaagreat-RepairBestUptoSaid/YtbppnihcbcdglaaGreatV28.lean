/- page.Read: what it holds, the table of its methods. No condition. -/
import Derived.Sort.Walk0
import Derived.Deep.RegionLaw
import Derived.Test.YtbppnihcbcdglaaGreatV8
import Derived.Test.YtbppnihcbcdglaaGreatZ23
import Derived.Test.YtbppnihcbcdglaaGreatZ27
namespace Go.Proofs.YtbppnihcbcdglaaGreat
open Go.RowKit
set_option linter.unusedVariables false
set_option linter.unusedSimpArgs false
theorem Tryz.info331:(Tryz.prog.info? 331).map (fun i=>(i.zero,i.size,i.bytes))=some (some (.agg #[.string ⟨#[]⟩,.int .i64 0,.int .i64 0,.string ⟨#[]⟩]),4,48):=by kernel_rfl
set_option maxRecDepth 20000 in
set_option maxHeartbeats 4000000 in
theorem gpage_cps(w:World){n0 g kb b:Nat}{s:PS}{pv ev:Value}{pcs ecs:List Value}{r:RS}(all:Nat)(hall:all<=17592186044416)(H:PX w n0 g kb s pv ev pcs ecs)(hr:Rd w b r)(hn:n0<=b)(hne:s.im.entries.length<=1099511627776)(Q:Ending->World->Prop)(hQ:∀ e w',PgPost n0 g kb b w (pgPage s all r) e w'->Q e w') :
  Calls Tryz.prog 168 #[.pointer (some ⟨g,0,none⟩),.pointer (some ⟨b,0,none⟩),.int .i64 (all:Int)] w Q:=by
 have HQ:=Lib.hid hQ
 clear hQ
 have HX:=Lib.hid H
 have HA:=Lib.hid hall
 have HNE:=Lib.hid hne
 clear H hall hne
 obtain⟨n,r1,hx⟩:∃ n r1,r.number=(n,r1):=⟨_,_,rfl⟩
 have HT:=Lib.hid hx
 clear hx
 by_cases h1:0<s.frames
 ·have t1:decide (0<s.frames)=true:=decide_eq_true h1
  by_cases h2:1<=n
  ·have t2:decide ((1:Int)<=(n:Int))=true:=decide_eq_true (by omega)
   by_cases h3:n<=128
   ·have t3:decide ((n:Int)<=128)=true:=decide_eq_true (by omega)
    have e:pgPage s all r=pgEntries all n s r1:=by unfold pgPage;rw[HT.out];exact if_pos ⟨h1,h2,h3⟩
    rw[e] at HQ
    have H3:=Lib.hid h3
    clear h1 h2 h3 e
    (go_enter Tryz.func168,Tryz.ntmps168;(repeat' ((fail_if_success at_builtin);first|go_values|go_skip|go_guarded|go_step|go_upon|go_back));(refine(number_any w b r hr).mono ?_;rintro e1 w1 ⟨rfl,hR1,hF1⟩;dsimp only);obtain⟨H1,hb1⟩:=HX.out.read hr hn hF1;rw[HT.out] at hR1 ⊢;dsimp only at hR1 ⊢;have c4:=H1.c.2.2.2.2.1;(repeat' ((fail_if_success at_builtin);first|go_values|go_skip|go_guarded|go_step|go_upon|go_back)))
    (refine(pmay_ok _).mono ?_;rintro e1 w2 ⟨rfl,rfl⟩;dsimp only)
    repeat' ((fail_if_success at_builtin);first|go_values|go_skip|go_guarded|go_step|go_upon|go_back)
    clear c4 t1 t2 t3
    go_loopw [27] (fun i wr=>∃ (j:Nat) (sj:PS) (rj:RS) (pv ev:Value) (pcs ecs:List Value),j<=n/\i = .int .i64 j/\Hid (sj.im.entries.length<=1099511627776+j)/\Hid (pgEntries all n s r1=pgEntries all (n-j) sj rj)/\PX wr n0 g kb sj pv ev pcs ecs/\Rd wr b rj/\Below n0 w wr) (fun i _=>n-(intOf i).toNat)
    case atStart=>exact⟨0,s,r1,_,_,_,_,Nat.zero_le _,rfl,HNE,Lib.hid rfl,H1,hR1,hb1⟩
    case round =>
     clear H1 hR1 hb1 hF1 hr
     obtain⟨j,sj,rj,pv',ev',pcs',ecs',hj,rfl,HLEN,HDEC,HXj,hRj,hBj⟩:=hrel
     have HBj:=Lib.hid hBj
     clear hBj
     have hn128:(n:Int)<=128:=by have:=H3.out;omega
     by_cases hlt:j<n
     ·have hlt':(j:Int)<(n:Int):=by omega
      obtain⟨k,ra,hk⟩:∃ k ra,rj.text (all:Int)=(k,ra):=⟨_,_,rfl⟩
      obtain⟨y,rb,hy⟩:∃ y rb,ra.text (all:Int)=(y,rb):=⟨_,_,rfl⟩
      obtain⟨v,e,hv⟩:∃ v e,decV y=(v,e):=⟨_,_,rfl⟩
      have HK:=Lib.hid hk
      have HY:=Lib.hid hy
      have HV:=Lib.hid hv
      have HJ:=Lib.hid HXj
      clear hk hy hv HXj
      repeat' ((fail_if_success at_builtin);first|go_values|go_skip|go_guarded|go_step|go_upon|go_back)
      (refine(text_any wr b rj hRj (all:Int) (by have:=HA.out;omega)).mono ?_;rintro e1 w3 ⟨rfl,hR3,hF3⟩;dsimp only)
      obtain⟨H3',hb3⟩:=HJ.out.read hRj hn hF3
      rw[HK.out] at hR3 ⊢
      dsimp only at hR3 ⊢
      have HJ3:=Lib.hid H3'
      clear H3' HJ
      repeat' ((fail_if_success at_builtin);first|go_values|go_skip|go_guarded|go_step|go_upon|go_back)
      (refine(text_any w3 b ra hR3 (all:Int) (by have:=HA.out;omega)).mono ?_;rintro e1 w4 ⟨rfl,hR4,hF4⟩;dsimp only)
      obtain⟨H4',hb4⟩:=HJ3.out.read hR3 hn hF4
      rw[HY.out] at hR4 ⊢
      dsimp only at hR4 ⊢
      have HXL:Hid (y.length<=17592186044416):=Lib.hid (by have:=RS.text_len ra (all:Int);rw[HY.out] at this;have:=Rd.le hR3;dsimp only at *;omega)
      obtain⟨hsb1,hsb2⟩:=sb_list w4 y
      have hcv:=run_sbytes w4 ⟨y.toArray⟩
      have HB4:=Lib.hid ((HBj.out.trans hb3).trans hb4)
      clear hb3 hb4 hF3 hF4 hR3 hRj HJ3 HBj
      repeat' ((fail_if_success at_builtin);first|go_values|go_skip|go_guarded|go_step|go_upon|go_back)
      refine(decV_any _ _ _ y hsb2 HXL.out).mono ?_
      rintro e1 w7 ⟨rfl,hb7⟩
      rw[HV.out]
      dsimp only [V.val]
      have H7:=(H4'.pure hsb1).pure hb7
      have hR7:=(hR4.pure hsb1).pure hb7
      have HB7:Hid (Below n0 w w7):=Lib.hid (HB4.out.trans ((hsb1.trans (hb7.mono hsb1.size)).mono (by have:=Rd.lt hR4;omega)))
      clear hsb1 hsb2 hb7 hcv H4' hR4 HB4
      have nw:=blk_new w7 (.cells #[.int .i64 v.k,.int .i64 v.i,.string ⟨v.t.toArray⟩] 177)
      have hbn:Below w7.heap.size w7 (w7.alloc (.cells #[.int .i64 v.k,.int .i64 v.i,.string ⟨v.t.toArray⟩] 177)):=(Below.refl _ w7).alloc (Nat.le_refl _) _
      have H8:=H7.pure hbn
      have hR8:=hR7.pure hbn
      have HB8:Hid (Below n0 w (w7.alloc (.cells #[.int .i64 v.k,.int .i64 v.i,.string ⟨v.t.toArray⟩] 177))):=Lib.hid (HB7.out.trans (hbn.mono (by have:=Rd.lt hR7;omega)))
      have HNE7:Hid (ev'.ownBlock≠some w7.heap.size):=Lib.hid (own_fresh H7.eo)
      clear H7 hR7 hbn HB7
      repeat' ((fail_if_success (with_reducible (show Code.wp _ (Code.region 6 _ _) _ _ _)));(fail_if_success at_builtin);first|go_values|go_skip|go_guarded|go_step|go_upon|go_back)
      generalize w7.alloc (.cells #[.int .i64 v.k,.int .i64 v.i,.string ⟨v.t.toArray⟩] 177)=w8 at nw H8 hR8 HB8 ⊢
      obtain⟨m0,m1,m2,-⟩:=blk3 nw
      have c6:=H8.c.2.2.2.2.2.2.1
      by_cases hE:e=0
      ·subst hE
       by_cases hK:okKey k=true
       ·by_cases hO:sj.key<k
        ·have t4:Op.bytesLess k sj.key=false:=by rw[bytesLess_eq];exact decide_eq_false (fun h=>List.lt_asymm h hO)
         have t5:(k==sj.key)=false:=by
          rw[beq_eq_false_iff_ne]
          intro h
          rw[h] at hO
          exact List.lt_irrefl _ hO
         by_cases hV:v.k=0
         ·have HE:Hid (pgEntries all n s r1=none):=Lib.hid (by rw[HDEC.out,show n-j=(n-(j+1))+1 by omega];exact pgEntries_no HK.out HY.out HV.out (fun h=>h.2.2.2 hV))
          have t6:(v.k != 0)=false:=by simp[hV]
          clear hV hO hlt hj
          repeat' ((fail_if_success at_builtin);first|go_values|go_skip|go_guarded|go_step|go_upon|go_back)
          (refine(iskey_any _ k).mono ?_;rintro e1 w9 ⟨rfl,rfl⟩;dsimp only)
          rw[hK]
          clear hK
          repeat' ((fail_if_success at_builtin);first|go_values|go_skip|go_guarded|go_step|go_upon|go_back)
          (refine(pmay_no _).mono ?_;rintro e1 w3 ⟨rfl,rfl⟩;dsimp only)
          exact⟨rfl,HQ.out _ _ (by rw[HE.out];exact⟨rfl,HB8.out⟩)⟩
         ·have HE:Hid (pgEntries all n s r1=pgEntries all (n-(j+1)) { sj with key:=k,im:={ sj.im with entries:=sj.im.entries++[⟨k,v⟩] } } rb):=Lib.hid (by rw[HDEC.out,show n-j=(n-(j+1))+1 by omega];exact pgEntries_ok HK.out HY.out HV.out hK hO hV)
          have t6:(v.k != 0)=true:=by simpa using hV
          clear hV hO
          repeat' ((fail_if_success at_builtin);first|go_values|go_skip|go_guarded|go_step|go_upon|go_back)
          (refine(iskey_any _ k).mono ?_;rintro e1 w9 ⟨rfl,rfl⟩;dsimp only)
          rw[hK]
          clear hK
          repeat' ((fail_if_success at_builtin);first|go_values|go_skip|go_guarded|go_step|go_upon|go_back)
          (refine(pmay_ok _).mono ?_;rintro e1 w3 ⟨rfl,rfl⟩;dsimp only)
          have f6:=H8.f 6
          obtain⟨H10,hR10,hb10⟩:=H8.set hR8 (s':={ sj with key:=k }) 6 (.string ⟨k.toArray⟩) rfl rfl rfl
          have HB10:=Lib.hid (HB8.out.trans hb10)
          have nw10:=blk_set_other nw (blk_ne nw H8.hg (by decide)) 6 (.string ⟨k.toArray⟩)
          clear hb10 HB8 nw H8 hR8 m0 m1 m2 t4 t5 t6
          repeat' ((fail_if_success (with_reducible (show Code.wp _ (Code.region 8 _ _) _ _ _)));(fail_if_success at_builtin);first|go_values|go_skip|go_guarded|go_step|go_upon|go_back)
          clear c6 f6
          generalize w8.setCell ⟨g,6,none⟩ (.string ⟨k.toArray⟩)=w10 at H10 hR10 nw10 HB10 ⊢
          obtain⟨i0,hi0,hz0,hz1,hz2⟩:=info_parts Tryz.info331
          obtain⟨m0,m1,m2,-⟩:=blk3 nw10
          have c3:=H10.c.2.2.2.1
          have c3a:∀ o,(w10.alloc o).cell? ⟨g,3,none⟩=some ev':=fun o=>blk_cell (blk_alloc H10.hg o) 3
          have m0a:∀ o,(w10.alloc o).cell? ⟨w7.heap.size,0,none⟩=some (.int .i64 v.k):=fun o=>(blk3 (blk_alloc nw10 o)).1
          have m1a:∀ o,(w10.alloc o).cell? ⟨w7.heap.size,1,none⟩=some (.int .i64 v.i):=fun o=>(blk3 (blk_alloc nw10 o)).2.1
          have m2a:∀ o,(w10.alloc o).cell? ⟨w7.heap.size,2,none⟩=some (.string ⟨v.t.toArray⟩):=fun o=>(blk3 (blk_alloc nw10 o)).2.2.1
          have hsz10:n0<=w10.heap.size:=by have:=H10.ng;have:=blk_lt H10.hg;omega
          have hbd2:Below w10.heap.size w10 w10.drew:=(Below.refl _ _).drew
          have H11:=H10.pure hbd2
          have hR11:=Rd.pure hR10 hbd2
          have nw11:=blk_below hbd2 nw10 (blk_lt nw10)
          have NG:Hid (w7.heap.size≠g):=Lib.hid (blk_ne nw10 H10.hg (by decide))
          have NE:=HNE7
          have HLT:=Lib.hid hlt
          have HLEN2:Hid ((sj.im.entries++[(⟨k,v⟩:En)]).length<=1099511627776+(j+1)):=Lib.hid (by rw[List.length_append];have:=HLEN.out;show _+1<=_;omega)
          clear hlt hj
          have c3d:∀ o,(w10.drew.alloc o).cell? ⟨g,3,none⟩=some ev':=c3a
          have m0d:∀ o,(w10.drew.alloc o).cell? ⟨w7.heap.size,0,none⟩=some (.int .i64 v.k):=m0a
          have m1d:∀ o,(w10.drew.alloc o).cell? ⟨w7.heap.size,1,none⟩=some (.int .i64 v.i):=m1a
          have m2d:∀ o,(w10.drew.alloc o).cell? ⟨w7.heap.size,2,none⟩=some (.string ⟨v.t.toArray⟩):=m2a
          go_region_law (first
           | ((refine step_append_lies _ (by rfl) _ _ _ (by rfl) n0 331 i0 _ 4 48 Tryz.underlying73 hi0 hz0 hz1 hz2 rfl (by omega) ev' sj.im.entries.length ecs' (by rfl) (own_below H11.eo ((Below.refl _ _).alloc (Nat.le_refl _) _)) ⟨w10.heap.size,0,none⟩ 1 1 [.string ⟨k.toArray⟩,.int .i64 v.k,.int .i64 v.i,.string ⟨v.t.toArray⟩] (by rfl) (by rfl) (World.news_of_block (cs:=#[.string ⟨k.toArray⟩,.int .i64 v.k,.int .i64 v.i,.string ⟨v.t.toArray⟩]) (t:=331) (fr:=(0,0)) (heap_alloc_new w10.drew _)) (by simp[Value.oneCell']) (by omega) (by unfold maxLen;have:=HLEN.out;have:=HLT.out;have:=H3.out;omega) (by have:=HLEN.out;have:=HLT.out;have:=H3.out;omega) (by simp;omega) (w10.heap.size+1) (by simp) ?_;intro gg cap w12 hown12 hgrow hat hlt12;obtain⟨s0,s1,D13,R13,B13⟩:=H11.appE hR11 hsz10 _ hgrow ⟨k,v⟩ _ hown12;have hp12:=blk_grown hgrow (blk_alloc nw11 _) (show ev'.ownBlock≠some w7.heap.size from NE.out);obtain⟨k0,k1,k2,-⟩:=blk3 hp12;have k5:=(blk3 (blk_set_other hp12 (NG.out) 3 (.slice (some ⟨gg,0,none⟩) (sj.im.entries.length+1) cap)));have k5:=And.intro k5.1 (And.intro k5.2.1 k5.2.2.1))))
          all_goals (clear s0 s1 hgrow hown12 hp12 k0 k1 k2 k5 c3 c3a m0 m1 m2 m0a m1a m2a H11 hR11 nw11 H10 hR10 nw10)
          all_goals ((repeat' ((fail_if_success at_builtin);first|go_values|go_skip|go_guarded|go_step|go_upon|go_back)))
          all_goals (go_roundw;case rel=>exact⟨j+1,_,rb,_,_,_,_,by have:=HLT.out;omega,by go_num,HLEN2,HE,D13,R13,HB10.out.drew.trans B13⟩)
          all_goals (have:=HLT.out;simp[intOf];omega)
        ·have HE:Hid (pgEntries all n s r1=none):=Lib.hid (by rw[HDEC.out,show n-j=(n-(j+1))+1 by omega];exact pgEntries_no HK.out HY.out HV.out (fun h=>hO h.2.2.1))
         have h5:=bytesLess_eq k sj.key
         rcases Bool.eq_false_or_eq_true (Op.bytesLess k sj.key) with b1|b1
         ·clear hO h5 hlt hj
          repeat' ((fail_if_success at_builtin);first|go_values|go_skip|go_guarded|go_step|go_upon|go_back)
          (refine(iskey_any _ k).mono ?_;rintro e1 w9 ⟨rfl,rfl⟩;dsimp only)
          rw[hK]
          clear hK
          repeat' ((fail_if_success at_builtin);first|go_values|go_skip|go_guarded|go_step|go_upon|go_back)
          (refine(pmay_no _).mono ?_;rintro e1 w3 ⟨rfl,rfl⟩;dsimp only)
          exact⟨rfl,HQ.out _ _ (by rw[HE.out];exact⟨rfl,HB8.out⟩)⟩
         ·have b2:(k==sj.key)=true:=by
           rw[b1] at h5
           have h6:=of_decide_eq_false h5.symm
           rw[List.le_antisymm (List.not_lt.1 hO) (List.not_lt.1 h6)]
           simp
          clear hO h5 hlt hj
          repeat' ((fail_if_success at_builtin);first|go_values|go_skip|go_guarded|go_step|go_upon|go_back)
          (refine(iskey_any _ k).mono ?_;rintro e1 w9 ⟨rfl,rfl⟩;dsimp only)
          rw[hK]
          clear hK
          repeat' ((fail_if_success at_builtin);first|go_values|go_skip|go_guarded|go_step|go_upon|go_back)
          (refine(pmay_no _).mono ?_;rintro e1 w3 ⟨rfl,rfl⟩;dsimp only)
          exact⟨rfl,HQ.out _ _ (by rw[HE.out];exact⟨rfl,HB8.out⟩)⟩
       ·have HE:Hid (pgEntries all n s r1=none):=Lib.hid (by rw[HDEC.out,show n-j=(n-(j+1))+1 by omega];exact pgEntries_no HK.out HY.out HV.out (fun h=>hK h.2.1))
        have hK':okKey k=false:=by simpa using hK
        clear hK hlt hj
        repeat' ((fail_if_success at_builtin);first|go_values|go_skip|go_guarded|go_step|go_upon|go_back)
        (refine(iskey_any _ k).mono ?_;rintro e1 w9 ⟨rfl,rfl⟩;dsimp only)
        rw[hK']
        clear hK'
        repeat' ((fail_if_success at_builtin);first|go_values|go_skip|go_guarded|go_step|go_upon|go_back)
        (refine(pmay_no _).mono ?_;rintro e1 w3 ⟨rfl,rfl⟩;dsimp only)
        exact⟨rfl,HQ.out _ _ (by rw[HE.out];exact⟨rfl,HB8.out⟩)⟩
      ·have HE:Hid (pgEntries all n s r1=none):=Lib.hid (by rw[HDEC.out,show n-j=(n-(j+1))+1 by omega];exact pgEntries_no HK.out HY.out HV.out (fun h=>hE h.1))
       have t2:(e==0)=false:=by simpa using hE
       clear hE hlt hj
       repeat' ((fail_if_success at_builtin);first|go_values|go_skip|go_guarded|go_step|go_upon|go_back)
       (refine(pmay_no _).mono ?_;rintro e1 w3 ⟨rfl,rfl⟩;dsimp only)
       exact⟨rfl,HQ.out _ _ (by rw[HE.out];exact⟨rfl,HB8.out⟩)⟩
     ·obtain rfl:j=n:=by omega
      have HD2:=HDEC.out
      rw[Nat.sub_self,pgEntries] at HD2
      have HD3:=Lib.hid HD2
      clear hlt hj HD2
      repeat' ((fail_if_success at_builtin);first|go_values|go_skip|go_guarded|go_step|go_upon|go_back)
      refine bodyPost_end (results_none rfl _ _ _) rfl (HQ.out _ _ (by rw[HD3.out];exact⟨rfl,⟨_,_,_,_,HXj⟩,hRj,HBj.out⟩))
   ·have t3:decide ((n:Int)<=128)=false:=decide_eq_false (by omega)
    have e:pgPage s all r=none:=by unfold pgPage;rw[HT.out];exact if_neg (fun h=>h3 h.2.2)
    have HE0:=Lib.hid e
    clear h1 h2 h3 e
    ((go_enter Tryz.func168,Tryz.ntmps168;(repeat' ((fail_if_success at_builtin);first|go_values|go_skip|go_guarded|go_step|go_upon|go_back));(refine(number_any w b r hr).mono ?_;rintro e1 w1 ⟨rfl,hR1,hF1⟩;dsimp only);obtain⟨H1,hb1⟩:=HX.out.read hr hn hF1;rw[HT.out] at hR1 ⊢;dsimp only at hR1 ⊢;have c4:=H1.c.2.2.2.2.1;(repeat' ((fail_if_success at_builtin);first|go_values|go_skip|go_guarded|go_step|go_upon|go_back)));(refine(pmay_no _).mono ?_;rintro e1 w3 ⟨rfl,rfl⟩;dsimp only);exact⟨rfl,HQ.out _ _ (by rw[HE0.out];exact⟨rfl,hb1⟩)⟩)
  ·have t2:decide ((1:Int)<=(n:Int))=false:=decide_eq_false (by omega)
   have e:pgPage s all r=none:=by unfold pgPage;rw[HT.out];exact if_neg (fun h=>h2 h.2.1)
   have HE0:=Lib.hid e
   clear h1 h2 e
   ((go_enter Tryz.func168,Tryz.ntmps168;(repeat' ((fail_if_success at_builtin);first|go_values|go_skip|go_guarded|go_step|go_upon|go_back));(refine(number_any w b r hr).mono ?_;rintro e1 w1 ⟨rfl,hR1,hF1⟩;dsimp only);obtain⟨H1,hb1⟩:=HX.out.read hr hn hF1;rw[HT.out] at hR1 ⊢;dsimp only at hR1 ⊢;have c4:=H1.c.2.2.2.2.1;(repeat' ((fail_if_success at_builtin);first|go_values|go_skip|go_guarded|go_step|go_upon|go_back)));(refine(pmay_no _).mono ?_;rintro e1 w3 ⟨rfl,rfl⟩;dsimp only);exact⟨rfl,HQ.out _ _ (by rw[HE0.out];exact⟨rfl,hb1⟩)⟩)
 ·have t1:decide (0<s.frames)=false:=decide_eq_false h1
  have e:pgPage s all r=none:=by unfold pgPage;rw[HT.out];exact if_neg (fun h=>h1 h.1)
  have HE0:=Lib.hid e
  clear h1 e
  ((go_enter Tryz.func168,Tryz.ntmps168;(repeat' ((fail_if_success at_builtin);first|go_values|go_skip|go_guarded|go_step|go_upon|go_back));(refine(number_any w b r hr).mono ?_;rintro e1 w1 ⟨rfl,hR1,hF1⟩;dsimp only);obtain⟨H1,hb1⟩:=HX.out.read hr hn hF1;rw[HT.out] at hR1 ⊢;dsimp only at hR1 ⊢;have c4:=H1.c.2.2.2.2.1;(repeat' ((fail_if_success at_builtin);first|go_values|go_skip|go_guarded|go_step|go_upon|go_back)));(refine(pmay_no _).mono ?_;rintro e1 w3 ⟨rfl,rfl⟩;dsimp only);exact⟨rfl,HQ.out _ _ (by rw[HE0.out];exact⟨rfl,hb1⟩)⟩)
theorem gpage_any(w:World){n0 g kb b:Nat}{s:PS}{pv ev:Value}{pcs ecs:List Value}{r:RS}(all:Nat)(hall:all<=17592186044416)(H:PX w n0 g kb s pv ev pcs ecs)(hr:Rd w b r)(hn:n0<=b)(hne:s.im.entries.length<=1099511627776) :
  Calls Tryz.prog 168 #[.pointer (some ⟨g,0,none⟩),.pointer (some ⟨b,0,none⟩),.int .i64 (all:Int)] w (PgPost n0 g kb b w (pgPage s all r)):=gpage_cps w all hall H hr hn hne _ (fun _ _ h=>h)
structure PR (w0 w:World) (g kb:Nat) (s:PS) (pv ev:Value) (pcs ecs:List Value):Prop where
 px:PX w (w0.heap.size+2) g kb s pv ev pcs ecs
 hp:w.heap[w0.heap.size]? = some (.cells #[.int .i64 0,.int .i64 0,.slice none 0 0,.slice none 0 0] 75 (0,0))
 hq:w.heap[w0.heap.size+1]? = some (.cells #[.int .i64 0] 28 (0,0))
 hb:Below w0.heap.size w0 w
structure PQ (w0 w:World):Prop where
 hp:w.heap[w0.heap.size]? = some (.cells #[.int .i64 0,.int .i64 0,.slice none 0 0,.slice none 0 0] 75 (0,0))
 hq:w.heap[w0.heap.size+1]? = some (.cells #[.int .i64 0] 28 (0,0))
 hb:Below w0.heap.size w0 w
theorem PR.pq{w0 w:World}{g kb:Nat}{s:PS}{pv ev:Value}{pcs ecs:List Value}(h:PR w0 w g kb s pv ev pcs ecs):PQ w0 w:=⟨h.hp,h.hq,h.hb⟩
theorem PQ.of{w0 w w':World}(h:PQ w0 w)(hb:Below (w0.heap.size+2) w w'):PQ w0 w':=⟨(hb.block _ (by omega)).trans h.hp,(hb.block _ (by omega)).trans h.hq,h.hb.trans (hb.mono (by omega))⟩
theorem PR.of{w0 w w':World}{g kb:Nat}{s s':PS}{pv ev pv' ev':Value}{pcs ecs pcs' ecs':List Value}(h:PR w0 w g kb s pv ev pcs ecs)(hx:PX w' (w0.heap.size+2) g kb s' pv' ev' pcs' ecs')(hb:Below (w0.heap.size+2) w w'):PR w0 w' g kb s' pv' ev' pcs' ecs' :=
 ⟨hx,(hb.block _ (by omega)).trans h.hp,(hb.block _ (by omega)).trans h.hq,h.hb.trans (hb.mono (by omega))⟩
theorem PR.big{w0 w:World}{g kb:Nat}{s:PS}{pv ev:Value}{pcs ecs:List Value}(h:PR w0 w g kb s pv ev pcs ecs):w0.heap.size+2<=w.heap.size:=by have:=h.px.ng;have:=blk_lt h.px.hg;omega
theorem PR.pure{w0 w w':World}{g kb:Nat}{s:PS}{pv ev:Value}{pcs ecs:List Value}(h:PR w0 w g kb s pv ev pcs ecs)(hb:Below w.heap.size w w'):PR w0 w' g kb s pv ev pcs ecs :=
 h.of (h.px.pure hb) (hb.mono h.big)
theorem PQ.gave{w0 w:World}(h:PQ w0 w)(e:Int) :
  (gaveG w w0.heap.size (w0.heap.size+1) e).cell? ⟨w0.heap.size,0,none⟩=some (.int .i64 0)/\(gaveG w w0.heap.size (w0.heap.size+1) e).cell? ⟨w0.heap.size,1,none⟩=some (.int .i64 0)/\(gaveG w w0.heap.size (w0.heap.size+1) e).cell? ⟨w0.heap.size,2,none⟩=some (.slice none 0 0) /\
   (gaveG w w0.heap.size (w0.heap.size+1) e).cell? ⟨w0.heap.size,3,none⟩=some (.slice none 0 0)/\(gaveG w w0.heap.size (w0.heap.size+1) e).cell? ⟨w0.heap.size+1,0,none⟩=some (.int .i64 e)/\Below w0.heap.size w0 (gaveG w w0.heap.size (w0.heap.size+1) e):=by
 have h1:=blk_set h.hp 0 (.int .i64 0)
 have h2:=blk_set h1 1 (.int .i64 0)
 have h3:=blk_set h2 2 (.slice none 0 0)
 have h4:=blk_set h3 3 (.slice none 0 0)
 have h5:=blk_set_other h4 (by omega:w0.heap.size≠w0.heap.size+1) 0 (.int .i64 e)
 have e1:=blk_set_other h.hq (by omega:w0.heap.size+1≠w0.heap.size) 0 (.int .i64 0)
 have e2:=blk_set_other e1 (by omega:w0.heap.size+1≠w0.heap.size) 1 (.int .i64 0)
 have e3:=blk_set_other e2 (by omega:w0.heap.size+1≠w0.heap.size) 2 (.slice none 0 0)
 have e4:=blk_set_other e3 (by omega:w0.heap.size+1≠w0.heap.size) 3 (.slice none 0 0)
 have e5:=blk_set e4 0 (.int .i64 e)
 exact⟨blk_cell h5 0,blk_cell h5 1,blk_cell h5 2,blk_cell h5 3,blk_cell e5 0,((((h.hb.setCell (p:=⟨w0.heap.size,0,none⟩) (Nat.le_refl _) _).setCell (p:=⟨w0.heap.size,1,none⟩) (Nat.le_refl _) _).setCell (p:=⟨w0.heap.size,2,none⟩) (Nat.le_refl _) _).setCell (p:=⟨w0.heap.size,3,none⟩) (Nat.le_refl _) _).setCell (p:=⟨w0.heap.size+1,0,none⟩) (Nat.le_succ _) _⟩
def tookG(w:World)(p q:Nat)(s:PS)(pv ev:Value):World:=((((w.setCell ⟨p,0,none⟩ (.int .i64 s.im.number)).setCell ⟨p,1,none⟩ (.int .i64 s.im.mark)).setCell ⟨p,2,none⟩ pv).setCell ⟨p,3,none⟩ ev).setCell ⟨q,0,none⟩ (.int .i64 0)
theorem PR.took{w0 w:World}{g kb:Nat}{s:PS}{pv ev:Value}{pcs ecs:List Value}(h:PR w0 w g kb s pv ev pcs ecs) :
  (tookG w w0.heap.size (w0.heap.size+1) s pv ev).cell? ⟨w0.heap.size,0,none⟩=some (.int .i64 s.im.number)/\(tookG w w0.heap.size (w0.heap.size+1) s pv ev).cell? ⟨w0.heap.size,1,none⟩=some (.int .i64 s.im.mark)/\(tookG w w0.heap.size (w0.heap.size+1) s pv ev).cell? ⟨w0.heap.size,2,none⟩=some pv /\
   (tookG w w0.heap.size (w0.heap.size+1) s pv ev).cell? ⟨w0.heap.size,3,none⟩=some ev/\(tookG w w0.heap.size (w0.heap.size+1) s pv ev).cell? ⟨w0.heap.size+1,0,none⟩=some (.int .i64 0)/\Below w0.heap.size w0 (tookG w w0.heap.size (w0.heap.size+1) s pv ev):=by
 have h1:=blk_set h.hp 0 (.int .i64 s.im.number)
 have h2:=blk_set h1 1 (.int .i64 s.im.mark)
 have h3:=blk_set h2 2 pv
 have h4:=blk_set h3 3 ev
 have h5:=blk_set_other h4 (by omega:w0.heap.size≠w0.heap.size+1) 0 (.int .i64 0)
 have e1:=blk_set_other h.hq (by omega:w0.heap.size+1≠w0.heap.size) 0 (.int .i64 s.im.number)
 have e2:=blk_set_other e1 (by omega:w0.heap.size+1≠w0.heap.size) 1 (.int .i64 s.im.mark)
 have e3:=blk_set_other e2 (by omega:w0.heap.size+1≠w0.heap.size) 2 pv
 have e4:=blk_set_other e3 (by omega:w0.heap.size+1≠w0.heap.size) 3 ev
 have e5:=blk_set e4 0 (.int .i64 0)
 exact⟨blk_cell h5 0,blk_cell h5 1,blk_cell h5 2,blk_cell h5 3,blk_cell e5 0,((((h.hb.setCell (p:=⟨w0.heap.size,0,none⟩) (Nat.le_refl _) _).setCell (p:=⟨w0.heap.size,1,none⟩) (Nat.le_refl _) _).setCell (p:=⟨w0.heap.size,2,none⟩) (Nat.le_refl _) _).setCell (p:=⟨w0.heap.size,3,none⟩) (Nat.le_refl _) _).setCell (p:=⟨w0.heap.size+1,0,none⟩) (Nat.le_succ _) _⟩
theorem PX.setN{w:World}{n0 g kb:Nat}{s s':PS}{pv ev:Value}{pcs ecs:List Value}(h:PX w n0 g kb s pv ev pcs ecs)(i:Nat)(u:Value)(hc:(PXc s pv ev).setIfInBounds i u=PXc s' pv ev)(hp:s'.im.procs.length=s.im.procs.length)(he:s'.im.entries.length=s.im.entries.length) :
  PX (w.setCell ⟨g,i,none⟩ u) n0 g kb s' pv ev pcs ecs/\Below n0 w (w.setCell ⟨g,i,none⟩ u):=by
 have hk:Kb g w (w.setCell ⟨g,i,none⟩ u):=Kb.set
 exact⟨⟨by rw[<-hc];exact blk_set h.hg i u,by rw[hp];exact own_kb h.po hk h.hg (by decide),by rw[he];exact own_kb h.eo hk h.hg (by decide),h.mp.at_ (Below.heap_setCell _ _ _ _ (fun e=>h.mp.ne h.hg (by first|exact e|exact e.symm))),h.ng,h.nk⟩,(Below.refl _ _).setCell (p:=⟨g,i,none⟩) h.ng _⟩
def kindFn(c:Nat):Nat:=if c=1 then 166 else if c=2 then 167 else if c=3 then 168 else 169
theorem kind_enters(c:Nat)(args:Array Value)(w:World):(callFunc (kindFn c) args).run Tryz.prog w = .ok (.enter (kindFn c) args) w:=by
 unfold kindFn
 split
 ·exact enters_of Tryz.func166 (by kernel_rfl) rfl args w
 split
 ·exact enters_of Tryz.func167 (by kernel_rfl) rfl args w
 split
 ·exact enters_of Tryz.func168 (by kernel_rfl) rfl args w
 ·exact enters_of Tryz.func169 (by kernel_rfl) rfl args w
theorem kind_any(c:Nat)(w:World){n0 g kb b:Nat}{s:PS}{pv ev:Value}{pcs ecs:List Value}{r:RS}(all:Nat)(hall:all<=17592186044416)(H:PX w n0 g kb s pv ev pcs ecs)(hr:Rd w b r)(hn:n0<=b)(hnp:s.im.procs.length<=2199023255552)(hne:s.im.entries.length<=1099511627776) :
  Calls Tryz.prog (kindFn c) #[.pointer (some ⟨g,0,none⟩),.pointer (some ⟨b,0,none⟩),.int .i64 (all:Int)] w (PgPost n0 g kb b w (pgKind c s all r)):=by
 unfold kindFn pgKind
 split
 ·exact ghead_any w _ H hr hn
 split
 ·exact gproc_any w all hall H hr hn hnp
 split
 ·exact gpage_any w all hall H hr hn hne
 ·exact gend_any w _ H hr hn
theorem MP.kind_has{w:World}{kb g:Nat}(h:MP w (.int .u8) kb (kindsL g))(c:UInt8)(h1:1<=c.toNat)(h4:c.toNat<=4) :
  (Instr.lookup 162 (.map (some kb)) (.int .u8 (c.toNat:Int)) true).run Tryz.prog w = .ok (.tuple #[.func (.func (kindFn c.toNat)) #[.pointer (some ⟨g,0,none⟩)] #[],.bool true]) w:=by
 refine h.lookup_has 162 _ _ und_kinds und_u8 (by trivial) ?_ ?_ true
 ·obtain h|h|h|h:c.toNat=1\/c.toNat=2\/c.toNat=3\/c.toNat=4:=by omega
  all_goals (rw[h];simp[kindsL,kindFn])
 ·obtain h|h|h|h:c.toNat=1\/c.toNat=2\/c.toNat=3\/c.toNat=4:=by omega
  all_goals (rw[h];simp[kindsL,kindFn])
theorem zero_kind(w:World):(zeroValue 166).run Tryz.prog w = .ok .nilFunc w:=by kernel_rfl
theorem MP.kind_no{w:World}{kb g:Nat}(h:MP w (.int .u8) kb (kindsL g))(c:UInt8)(hc:c.toNat<1\/4<c.toNat) :
  (Instr.lookup 162 (.map (some kb)) (.int .u8 (c.toNat:Int)) true).run Tryz.prog w = .ok (.tuple #[.nilFunc,.bool false]) w:=by
 refine h.lookup_no 162 _ _ und_kinds und_u8 (by trivial) ?_ (zero_kind w) true
 intro x hx
 simp only[kindsL,List.mem_cons,List.not_mem_nil,or_false] at hx
 rcases hx with rfl|rfl|rfl|rfl <;> (intro e;injection e with _ e;omega)
end Go.Proofs.YtbppnihcbcdglaaGreat
