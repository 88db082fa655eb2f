import Derived.Test.YtbppnihcbcdglaaGreatD50
import Derived.Test.YtbppnihcbcdglaaGreatD53
import Derived.Test.YtbppnihcbcdglaaGreatV8
import Derived.BigQuiet
namespace Go.Proofs.YtbppnihcbcdglaaGreat
open Go.RowKit
set_option linter.unusedVariables false
set_option linter.unusedSimpArgs false
theorem xD{l:List Bs}{i:Nat}{x:Bs}(h:(l.take i).Nodup)(hx:l[i]?=some x)(hn:∀ (k:Nat) (y:Bs),k<i->l[k]?=some y->y≠x):(l.take (i+1)).Nodup:=by
 rw[List.take_add_one,hx]
 refine List.nodup_append.2 ⟨h,by simp,?_⟩
 intro a ha b hb
 rw[Option.toList_some,List.mem_singleton] at hb
 subst hb
 obtain⟨k,hk⟩:=List.mem_iff_getElem?.1 ha
 rw[List.getElem?_take] at hk
 split at hk
 ·rename_i hlt
  exact hn k a hlt hk
 ·cases hk
theorem xE(W:World)(r:Rp)(sv nv lv ov:Value):(Instr.field 50 (.agg (RPc r sv nv lv ov)) 0).run Tryz.prog W = .ok (.int .i64 r.err) W:=by
 unfold RPc
 simp[Instr.field,go_sem,asAgg,Tryz.underlying50]
set_option maxRecDepth 20000 in
set_option maxHeartbeats 8000000 in
theorem xG(w:World)(fa:Option Addr)(fc:Nat)(ms:List FBm)(hF:Files w fa fc ms)(Q:Ending->World->Prop)(hQ:∀ w',Below w.heap.size w w'->Q (.returned (.bool true)) w') :
  Calls Tryz.prog 13 #[.slice fa ms.length fc] w Q:=by
 have HQ:=Hi hQ
 have HF:=Hi hF
 clear hQ hF
 go_enter Tryz.func13,Tryz.ntmps13
 repeat' ((fail_if_success at_builtin);first|go_values|go_skip|go_guarded|go_step|go_upon|go_back)
 refine heavy_cps w fa fc ms HF.out _ ?_
 intro bh hbh
 cases bh with
 | true =>
  clear hbh
  dsimp only
  repeat' ((fail_if_success at_builtin);first|go_values|go_skip|go_guarded|go_step|go_upon|go_back)
  (refine(awake24_any w).mono ?_;rintro e1 w1 ⟨rfl,hb1⟩;dsimp only)
  repeat' ((fail_if_success at_builtin);first|go_values|go_skip|go_guarded|go_step|go_upon|go_back)
  exact HQ.out _ hb1
 | false =>
  have hnh:=hbh rfl
  obtain⟨⟨s1,s2,s3⟩,s4,s5,s6⟩:=notHeavy_small hnh
  have Ke:=Hi hnh
  have Hb:=Hi (And.intro s1 (And.intro s2 s3))
  clear hbh hnh s1 s2 s3 s4 s5 s6
  dsimp only
  repeat' ((fail_if_success at_builtin);first|go_values|go_skip|go_guarded|go_step|go_upon|go_back)
  go_loopw [3] (fun c wr=>∃ i:Nat,c = .int .i64 (i:Int)/\i<=ms.length/\Hid (((ms.map fun x=>x.f.1).take i).Nodup)/\Below w.heap.size w wr) (fun c _=>ms.length-(intOf c).toNat)
  case atStart=>exact⟨0,rfl,Nat.zero_le _,Hi (by simp),Below.refl _ _⟩
  case round =>
   obtain⟨i,rfl,hi,Hh,hb⟩:=hrel
   obtain⟨wo,hwo⟩:∃ x,x=wr:=⟨_,rfl⟩
   subst hwo
   have HBo:=Hi hb
   have hlI:(ms.length:Int)<=200:=by have:=Ke.out.1;omega
   by_cases hlt:i<ms.length
   ·have hlt':(i:Int)<(ms.length:Int):=by omega
    obtain⟨m,hm⟩:∃ m,ms[i]?=some m:=⟨_,List.getElem?_eq_getElem hlt⟩
    have Kf:=Hi hm
    have Ha:=Hi hlt
    have Kg:Hid ((ms.map fun x=>x.f.1)[i]?=some m.f.1):=Hi (by rw[List.getElem?_map,hm];rfl)
    clear hm hb hlt hi
    repeat' ((fail_if_success at_builtin);first|go_values|go_skip|go_guarded|go_step|go_upon|go_back)
    go_loopw [4] (fun c wr=>∃ k:Nat,c = .int .i64 (k:Int)/\k<=i/\Hid (∀ (j:Nat) (y:Bs),j<k->(ms.map fun x=>x.f.1)[j]?=some y->y≠m.f.1)/\Below wo.heap.size wo wr) (fun c _=>i-(intOf c).toNat)
    case atStart=>exact⟨0,rfl,Nat.zero_le _,Hi (fun j y hj=>absurd hj (by omega)),Below.refl _ _⟩
    case round =>
     obtain⟨k,rfl,hk,Hr,hb⟩:=hrel
     have HBi:=Hi hb
     have HB2i:=Hi (HBo.out.trans (hb.mono HBo.out.size))
     by_cases hkl:k<i
     ·have hkl':(k:Int)<(i:Int):=by omega
      have hkn:(k:Int)<(ms.length:Int):=by have:=Ha.out;omega
      obtain⟨y,hy⟩:∃ y,ms[k]?=some y:=⟨_,List.getElem?_eq_getElem (by have:=Ha.out;omega)⟩
      have Kh:Hid ((ms.map fun x=>x.f.1)[k]?=some y.f.1):=Hi (by rw[List.getElem?_map,hy];rfl)
      obtain⟨fg,fo,rfl,q1,-⟩:=(HF.out.below HB2i.out).at Kf.out
      obtain⟨g',o',ee,p1,-⟩:=(HF.out.below HB2i.out).at hy
      obtain⟨rfl,rfl⟩:fg=g'/\fo=o':=by cases ee;exact⟨rfl,rfl⟩
      have Hs:=Hi hkl
      clear ee hy hkl hb hk
      by_cases hyn:y.f.1=m.f.1
      ·have tx:(y.f.1==m.f.1)=true:=by simp[hyn]
       clear hyn
       repeat' ((fail_if_success (with_reducible (show Code.wp _ (Code.region 9 _ _) _ _ _)));(fail_if_success at_builtin);first|go_values|go_skip|go_guarded|go_step|go_upon|go_back)
       go_region
       repeat' ((fail_if_success at_builtin);first|go_values|go_skip|go_guarded|go_step|go_upon|go_back)
       (refine(awake24_any _).mono ?_;rintro e1 w1 ⟨rfl,hb1⟩;dsimp only)
       have Hd:=Hi (HB2i.out.drew.trans (hb1.mono (by have:=HB2i.out.size;simpa using this)))
       clear hb1
       repeat' ((fail_if_success at_builtin);first|go_values|go_skip|go_guarded|go_step|go_upon|go_back)
       exact HQ.out _ Hd.out
      ·have tx:(y.f.1==m.f.1)=false:=by simpa using hyn
       have Ki:=Hi hyn
       clear hyn
       repeat' ((fail_if_success (with_reducible (show Code.wp _ (Code.region 9 _ _) _ _ _)));(fail_if_success at_builtin);first|go_values|go_skip|go_guarded|go_step|go_upon|go_back)
       go_region
       repeat' ((fail_if_success at_builtin);first|go_values|go_skip|go_guarded|go_step|go_upon|go_back)
       go_roundw
       case rel=>exact⟨k+1,by go_num,Hs.out,Hi (fun j z hj hz=>by
        by_cases e:j=k
        ·subst e;have h1:=Kh.out;rw[h1] at hz;cases hz;exact Ki.out
        ·exact Hr.out j z (by omega) hz),HBi.out.drew⟩
       case measure=>have:=Hs.out;simp[intOf];omega
     ·have hke:k=i:=by omega
      subst hke
      have hlt2:decide ((k:Int)<(k:Int))=false:=by simp
      have hlt3:decide (k<k)=false:=by simp
      clear hkl hb hk
      repeat' ((fail_if_success at_builtin);first|go_values|go_skip|go_guarded|go_step|go_upon|go_back)
      go_roundw
      case rel=>exact⟨k+1,by go_num,Ha.out,Hi (xD Hh.out Kg.out Hr.out),HB2i.out⟩
      case measure=>have:=Ha.out;simp[intOf];omega
   ·have hie:i=ms.length:=by omega
    subst hie
    have hlt':decide ((ms.length:Int)<(ms.length:Int))=false:=by simp
    have hlt2:decide (ms.length<ms.length)=false:=by simp
    have HN:Hid (((ms.map FBm.f).map Prod.fst).Nodup):=Hi (by
     have h:=Hh.out
     rw[List.take_of_length_le (by rw[List.length_map];exact Nat.le_refl _)] at h
     rw[List.map_map];exact h)
    have Ht:=Hi (HF.out.below hb)
    have Hj:=Hi (mend_any wo fa fc ms Ht.out Hb.out.1 Hb.out.2.1 Hb.out.2.2)
    obtain⟨m,hm⟩:∃ m,mendF encM (ms.map FBm.f)=m:=⟨_,rfl⟩
    have hbest:=fun he=>xF encM HN.out (by exact he)
    rw[hm] at Hj hbest
    have Hc:=Hi hbest
    clear hbest hm hb hlt hi Hh
    repeat' ((fail_if_success at_builtin);first|go_values|go_skip|go_guarded|go_step|go_upon|go_back)
    clear hlt' hlt2
    refine Hj.out.mono ?_
    rintro e1 w1 ⟨fv,dv,rfl,hV,hb1⟩
    dsimp only
    obtain⟨fa1,fc1,da1,dc1,ns,rfl,rfl,hns,hF1,hD1⟩:=hV.open
    have n1:=blk_new w1 (.cells #[.slice fa1 (ns).length fc1,.int .i64 (m).base,.int .i64 (m).last,.int .i64 (m).rep,.int .i64 0,.slice da1 (m).dropped.length dc1] 66)
    have hbn:=hb1.alloc hb1.size (.cells #[.slice fa1 (ns).length fc1,.int .i64 (m).base,.int .i64 (m).last,.int .i64 (m).rep,.int .i64 0,.slice da1 (m).dropped.length dc1] 66)
    clear Hj hV hF1 hD1
    repeat' ((fail_if_success (with_reducible (show Code.wp _ (Code.region 12 _ _) _ _ _)));(fail_if_success at_builtin);first|go_values|go_skip|go_guarded|go_step|go_upon|go_back)
    generalize w1.alloc (.cells #[.slice fa1 (ns).length fc1,.int .i64 (m).base,.int .i64 (m).last,.int .i64 (m).rep,.int .i64 0,.slice da1 (m).dropped.length dc1] 66)=w2 at n1 hbn⊢
    obtain⟨M1,hM1⟩:∃ M1,w1.heap.size=M1:=⟨_,rfl⟩
    rw[hM1] at n1⊢
    have Hu:=Hi n1
    have Hv:=Hi (HBo.out.trans (hbn.mono HBo.out.size))
    have Hw:=Hi (Ht.out.below hbn)
    clear n1 hbn hM1 hb1 hns
    repeat' ((fail_if_success at_builtin);first|go_values|go_skip|go_guarded|go_step|go_upon|go_back)
    refine alook_cps w2 fa fc ms Hw.out Hb.out.1 Hb.out.2.1 Hb.out.2.2 _ ?_
    intro sv nv lv ov w3 hV3 hb3
    clear hV3
    obtain⟨r,hr⟩:∃ r,lookF (ms.map FBm.f)=r:=⟨_,rfl⟩
    rw[hr] at Hc⊢
    have Hg:=Hi (Hv.out.trans (hb3.mono Hv.out.size))
    have Hk:=Hi (Hw.out.below hb3)
    have Hl:=Hi (blk_below hb3 Hu.out (blk_lt Hu.out))
    have hfl:=fun W=>xE W r sv nv lv ov
    generalize RPc r sv nv lv ov=rp at hfl⊢
    dsimp only
    clear hb3 hr
    by_cases he:r.err=0
    ·have te:(r.err==0)=true:=by simp[he]
     clear he
     repeat' ((fail_if_success at_builtin);first|go_values|go_skip|go_guarded|go_step|go_upon|go_back)
     (refine(awake24_any w3).mono ?_;rintro e1 w4 ⟨rfl,hb4⟩;dsimp only)
     have Hd:=Hi (Hg.out.trans (hb4.mono Hg.out.size))
     clear hb4
     repeat' ((fail_if_success at_builtin);first|go_values|go_skip|go_guarded|go_step|go_upon|go_back)
     exact HQ.out _ Hd.out
    ·have te:(r.err==0)=false:=by simpa using he
     have Hx:=Hi (Hc.out he)
     obtain⟨E0,hE0⟩:∃ E0,endF (ms.map FBm.f) 0=E0:=⟨_,rfl⟩
     have Kj:=Hi (show ∀ W,Files W fa fc ms->Calls Tryz.prog 38 #[.slice fa ms.length fc,.int .i64 0] W fun e w'=>e = .returned (.int .i64 E0)/\Below W.heap.size W w' from fun W hW=>by
      have h:=yW W fa fc ms hW HN.out (by have:=Hb.out.1;omega) Hb.out.2.2 0 ⟨Int.le_refl _,by decide⟩
      rw[hE0] at h
      exact h)
     have tE:decide (m.last<E0)=false:=decide_eq_false (by have:=Hx.out.1;rw[hE0] at this;omega)
     have m2:=blk_cell Hl.out 2
     simp only[gA,gB,gC] at m2
     have l3:=blk_lt Hl.out
     have HS:∀ w',Below w3.heap.size w3 w'->w'.cell? ⟨M1,2,none⟩=some (.int .i64 m.last):=fun w' hb=>(hb.cell (p:=⟨M1,2,none⟩) l3).trans m2
     clear he hE0
     repeat' ((fail_if_success (with_reducible (show Code.wp _ (Code.region 14 _ _) _ _ _)));(fail_if_success at_builtin);first|go_values|go_skip|go_guarded|go_step|go_upon|go_back)
     go_region_held3 (fun w'=>w'.cell? ⟨M1,2,none⟩=some (.int .i64 m.last)) (first|exact HS _ (by assumption)|exact HS _ (Below.refl _ _)|exact HS _ (Below.drew (Below.refl _ _))|exact HS _ (Below.drew (by assumption))|exact HS _ (bdrewN (by assumption) _)|exact HS _ (bdrewN (Below.refl _ _) _)) (first
      | (go_at_call 38;refine(Kj.out _ (by first|exact Hk.out|exact Hk.out.below (Below.drew (Below.refl _ _))|exact Hk.out.below (bdrewN (Below.refl _ _) _))).mono ?_;rintro e1 w4 ⟨rfl,hb4x⟩;have hb4:Below w3.heap.size w3 w4:=(by first|exact hb4x|exact(Below.refl _ _).drew.trans hb4x|exact(bdrewN (Below.refl _ _) _).trans hb4x)))
     have Hy:=Hi (Hg.out.trans (hb4.mono Hg.out.size))
     have Hz:=Hi (blk_below hb4 Hl.out l3)
     clear HS m2 l3 hb4x hb4 tE te hfl
     repeat' ((fail_if_success at_builtin);first|go_values|go_skip|go_guarded|go_step|go_upon|go_back)
     go_loopw [6] (fun c wr=>∃ i:Nat,c = .int .i64 (i:Int)/\i<=ms.length/\Below w4.heap.size w4 wr) (fun c _=>ms.length-(intOf c).toNat)
     case atStart=>exact⟨0,rfl,Nat.zero_le _,Below.refl _ _⟩
     case round =>
      obtain⟨i,rfl,hi,hb⟩:=hrel
      have HBi:=Hi hb
      have He:=Hi (Hy.out.trans (hb.mono Hy.out.size))
      by_cases hlt:i<ms.length
      ·have hlt':(i:Int)<(ms.length:Int):=by omega
       obtain⟨x,hx⟩:∃ x,ms[i]?=some x:=⟨_,List.getElem?_eq_getElem hlt⟩
       have Hm:=Hi (List.mem_of_getElem? hx)
       have Kk:=Hi (HF.out.below He.out)
       obtain⟨fg,fo,rfl,q1,-⟩:=Kk.out.at hx
       have HX:=Hi hx
       have Ha:=Hi hlt
       clear hx hlt hi hb
       repeat' ((fail_if_success at_builtin);first|go_values|go_skip|go_guarded|go_step|go_upon|go_back)
       refine(cnumber_any wr ⟨x.f.1.toArray⟩).mono ?_
       rintro e1 w5 ⟨rfl,hb5⟩
       simp only[List.toList_toArray]
       obtain⟨⟨k,is⟩,hq⟩:∃ q,numOfName ckptH x.f.1=q:=⟨_,rfl⟩
       rw[hq]
       have Kl:=Hi hq
       have Hn:=Hi (HBi.out.trans (hb5.mono HBi.out.size))
       have Ho:=Hi (He.out.trans (hb5.mono He.out.size))
       dsimp only
       clear hq hb5 q1
       cases is with
       | false =>
        repeat' ((fail_if_success at_builtin);first|go_values|go_skip|go_guarded|go_step|go_upon|go_back)
        go_roundw
        case rel=>exact⟨i+1,by go_num,Ha.out,Hn.out⟩
        case measure=>have:=Ha.out;simp[intOf];omega
       | true =>
        have Ka:=Hi (HF.out.below Ho.out)
        obtain⟨g',o',ee,-,q2⟩:=Ka.out.at HX.out
        obtain⟨rfl,rfl⟩:fg=g'/\fo=o':=by cases ee;exact⟨rfl,rfl⟩
        clear ee
        repeat' ((fail_if_success at_builtin);first|go_values|go_skip|go_guarded|go_step|go_upon|go_back)
        refine gread_cps w5 x.a x.c x.f.2 (Ka.out.bs x Hm.out) (Hb.out.2.2 x Hm.out) _ ?_
        intro pa pn pc ea en ec w6 hb6
        have Kb:=Hi (fun h1 h2=>Hx.out.2 x.f (List.mem_map.2 ⟨x,Hm.out,rfl⟩) k Kl.out h1 h2)
        have Kc:=Hi (fun h=>dec_mark (b:=x.f.2) h)
        obtain⟨g,hg⟩:∃ g,decG x.f.2=g:=⟨_,rfl⟩
        rw[hg] at Kb Kc⊢
        dsimp only
        have nP:=blk_new w6 (.cells #[.int .i64 g.1.number,.int .i64 g.1.mark,.slice pa pn pc,.slice ea en ec] 75)
        have hbP:=hb6.alloc hb6.size (.cells #[.int .i64 g.1.number,.int .i64 g.1.mark,.slice pa pn pc,.slice ea en ec] 75)
        clear hg q2
        repeat' ((fail_if_success (with_reducible (show Code.wp _ (Code.region 22 _ _) _ _ _)));(fail_if_success at_builtin);first|go_values|go_skip|go_guarded|go_step|go_upon|go_back)
        generalize w6.alloc (.cells #[.int .i64 g.1.number,.int .i64 g.1.mark,.slice pa pn pc,.slice ea en ec] 75)=w7 at nP hbP⊢
        obtain⟨P1,hP1⟩:∃ P1,w6.heap.size=P1:=⟨_,rfl⟩
        rw[hP1] at nP⊢
        have HP:=Hi nP
        have Hf:=Hi (Hn.out.trans (hbP.mono Hn.out.size))
        have Km:=Hi (Ho.out.trans (hbP.mono Ho.out.size))
        clear nP hbP hP1 hb6
        have p0:=blk_cell HP.out 0
        have p1:=blk_cell HP.out 1
        have Kd:=Hi (blk_below Hf.out Hz.out (blk_lt Hz.out))
        have m2:=blk_cell Kd.out 2
        simp only[gA,gB,gC] at p0 p1 m2
        by_cases h1:g.2=0
        ·have u1:(g.2==0)=true:=by simp[h1]
         by_cases h2:g.1.number=k
         ·have u2:(g.1.number==k)=true:=by simp[h2]
          have hE:=Kb.out h1 h2
          have hD:=Kc.out h1
          obtain⟨E1,hE1⟩:∃ E1,endF (ms.map FBm.f) g.1.mark=E1:=⟨_,rfl⟩
          have Kn:=Hi (show ∀ W,Files W (some ⟨fg,fo,none⟩) fc ms->Calls Tryz.prog 38 #[.slice (some ⟨fg,fo,none⟩) ms.length fc,.int .i64 g.1.mark] W fun e w'=>e = .returned (.int .i64 E1)/\Below W.heap.size W w' from fun W hW=>by
           have h:=yW W (some ⟨fg,fo,none⟩) fc ms hW HN.out (by have:=Hb.out.1;omega) Hb.out.2.2 g.1.mark hD
           rw[hE1] at h
           exact h)
          have tE:decide (m.last<E1)=false:=decide_eq_false (by rw[hE1] at hE;omega)
          have l7:=blk_lt Kd.out
          have lP:=blk_lt HP.out
          have Hp:=Hi (HF.out.below Km.out)
          have HS:∀ w',Below w7.heap.size w7 w'->(w'.cell? ⟨M1,2,none⟩=some (.int .i64 m.last)/\w'.cell? ⟨P1,0,none⟩=some (.int .i64 g.1.number)/\w'.cell? ⟨P1,1,none⟩=some (.int .i64 g.1.mark)):=fun w' hb=>⟨(hb.cell (p:=⟨M1,2,none⟩) l7).trans m2,(hb.cell (p:=⟨P1,0,none⟩) lP).trans p0,(hb.cell (p:=⟨P1,1,none⟩) lP).trans p1⟩
          clear h1 h2 hE hD hE1
          go_region_held3 (fun w'=>w'.cell? ⟨M1,2,none⟩=some (.int .i64 m.last)/\w'.cell? ⟨P1,0,none⟩=some (.int .i64 g.1.number)/\w'.cell? ⟨P1,1,none⟩=some (.int .i64 g.1.mark)) (first|exact HS _ (by assumption)|exact HS _ (Below.refl _ _)|exact HS _ (Below.drew (Below.refl _ _))|exact HS _ (Below.drew (by assumption))|exact HS _ (bdrewN (by assumption) _)|exact HS _ (bdrewN (Below.refl _ _) _)) (first
           | (go_at_call 38;refine(Kn.out _ (by first|exact Hp.out|exact Hp.out.below (Below.drew (Below.refl _ _))|exact Hp.out.below (bdrewN (Below.refl _ _) _))).mono ?_;rintro e1 w8 ⟨rfl,hb8x⟩;have hb8:Below w7.heap.size w7 w8:=(by first|exact hb8x|exact(Below.refl _ _).drew.trans hb8x|exact(bdrewN (Below.refl _ _) _).trans hb8x)))
          have Hq:=Hi (Hf.out.trans (hb8.mono Hf.out.size))
          clear HS p0 p1 m2 l7 lP hb8x hb8
          repeat' ((fail_if_success at_builtin);first|go_values|go_skip|go_guarded|go_step|go_upon|go_back)
          go_roundw
          case rel=>exact⟨i+1,by go_num,Ha.out,Hq.out⟩
          case measure=>have:=Ha.out;simp[intOf];omega
         ·have u2:(g.1.number==k)=false:=by simpa using h2
          clear h1 h2
          go_quiet (fail)
          repeat' ((fail_if_success at_builtin);first|go_values|go_skip|go_guarded|go_step|go_upon|go_back)
          go_roundw
          case rel=>exact⟨i+1,by go_num,Ha.out,bdrewN Hf.out _⟩
          case measure=>have:=Ha.out;simp[intOf];omega
        ·have u1:(g.2==0)=false:=by simpa using h1
         clear h1
         go_quiet (fail)
         repeat' ((fail_if_success at_builtin);first|go_values|go_skip|go_guarded|go_step|go_upon|go_back)
         go_roundw
         case rel=>exact⟨i+1,by go_num,Ha.out,bdrewN Hf.out _⟩
         case measure=>have:=Ha.out;simp[intOf];omega
      ·have hie:i=ms.length:=by omega
       subst hie
       have hlt':decide ((ms.length:Int)<(ms.length:Int))=false:=by simp
       have hlt2:decide (ms.length<ms.length)=false:=by simp
       clear hlt hi hb
       repeat' ((fail_if_success at_builtin);first|go_values|go_skip|go_guarded|go_step|go_upon|go_back)
       (refine(awake24_any _).mono ?_;rintro e1 w9 ⟨rfl,hb9⟩;dsimp only)
       have Hd:=Hi (He.out.trans (hb9.mono He.out.size))
       clear hb9
       repeat' ((fail_if_success at_builtin);first|go_values|go_skip|go_guarded|go_step|go_upon|go_back)
       exact HQ.out _ Hd.out
end Go.Proofs.YtbppnihcbcdglaaGreat
