/- page.Read. No condition. -/
import Derived.Test.YtbppnihcbcdglaaGreatZ3
import Derived.Test.YtbppnihcbcdglaaGreatZ20
import Derived.Test.YtbppnihcbcdglaaGreatV28
namespace Go.Proofs.YtbppnihcbcdglaaGreat
open Go.RowKit
set_option linter.unusedVariables false
set_option linter.unusedSimpArgs false
set_option maxRecDepth 20000 in
set_option maxHeartbeats 4000000 in
theorem gread_cps(w:World)(a:Option Addr)(c:Nat)(xs:Bs)(hx:BS w a c xs)(hl:xs.length<=4294967296)(Q:Ending->World->Prop)
  (hQ:∀ pa pn pc ea en ec w',Below w.heap.size w w'->Q (.returned (.tuple #[.agg #[.int .i64 (decG xs).1.number,.int .i64 (decG xs).1.mark,.slice pa pn pc,.slice ea en ec],.int .i64 (decG xs).2])) w') :
  Calls Tryz.prog 40 #[.slice a xs.length c] w Q:=by
 have hmf:∀ (fn:Fn) (first cap:Array Value) (w:World),(Instr.makeFunc fn first cap).run Tryz.prog w = .ok (.func fn first cap) w:=fun _ _ _ _=>rfl
 have HG:=Lib.hid (show ∀ e w',decG xs=(Im.nil,e)->Below w.heap.size w w'->Q (.returned (.tuple #[.agg #[.int .i64 0,.int .i64 0,.slice none 0 0,.slice none 0 0],.int .i64 e])) w' from fun e w' he hb=>by
  have:=hQ none 0 0 none 0 0 w' hb
  rw[he] at this
  exact this)
 have HQ:=Lib.hid hQ
 have HL:=Lib.hid hl
 have HX:=Lib.hid hx
 clear hQ hl hx
 have hb0:Below w.heap.size w ((w.alloc (.cells #[.int .i64 0,.int .i64 0,.slice none 0 0,.slice none 0 0] 75)).alloc (.cells #[.int .i64 0] 28)):=by(repeat' (first|(with_reducible exact Below.refl _ _)|(with_reducible assumption)|(with_reducible refine Below.drew ?_)|(with_reducible refine bdrewN ?_ _)|(with_reducible refine Below.alloc ?_ ?_ _)|(with_reducible refine Below.setCell ?_ ?_ _)|omega|(simp;done)|(simp;omega)))
 have p0:((w.alloc (.cells #[.int .i64 0,.int .i64 0,.slice none 0 0,.slice none 0 0] 75)).alloc (.cells #[.int .i64 0] 28)).heap[w.heap.size]? = some (.cells #[.int .i64 0,.int .i64 0,.slice none 0 0,.slice none 0 0] 75 (0,0)):=blk_alloc (blk_new _ _) _
 have e0:((w.alloc (.cells #[.int .i64 0,.int .i64 0,.slice none 0 0,.slice none 0 0] 75)).alloc (.cells #[.int .i64 0] 28)).heap[w.heap.size+1]? = some (.cells #[.int .i64 0] 28 (0,0)):=blk_new1 _ _ _
 have hs0:((w.alloc (.cells #[.int .i64 0,.int .i64 0,.slice none 0 0,.slice none 0 0] 75)).alloc (.cells #[.int .i64 0] 28)).heap.size=w.heap.size+2:=by simp
 go_enter_defers Tryz.func40,Tryz.ntmps40
 repeat' ((fail_if_success (with_reducible (show Code.wp _ (Code.region 2 _ _) _ _ _)));(fail_if_success at_builtin);first|go_values|go_skip|go_guarded|go_step|go_upon|go_back)
 generalize ((w.alloc (.cells #[.int .i64 0,.int .i64 0,.slice none 0 0,.slice none 0 0] 75)).alloc (.cells #[.int .i64 0] 28))=w1 at hb0 p0 e0 hs0 ⊢
 have g0:(w1.alloc (.cells #[.int .i64 0,.int .i64 0,.slice none 0 0,.slice none 0 0,.int .i64 0,.string ⟨#[]⟩,.string ⟨#[]⟩,.bool false] 161)).heap[w.heap.size+2]? = some (.cells #[.int .i64 0,.int .i64 0,.slice none 0 0,.slice none 0 0,.int .i64 0,.string ⟨#[]⟩,.string ⟨#[]⟩,.bool false] 161 (0,0)):=by rw[<-hs0];exact blk_new _ _
 have hb1:Below w1.heap.size w1 (w1.alloc (.cells #[.int .i64 0,.int .i64 0,.slice none 0 0,.slice none 0 0,.int .i64 0,.string ⟨#[]⟩,.string ⟨#[]⟩,.bool false] 161)):=(Below.refl _ w1).alloc (Nat.le_refl _) _
 repeat' ((fail_if_success (with_reducible (show Code.wp _ (Code.region 3 _ _) _ _ _)));(fail_if_success at_builtin);first|go_values|go_skip|go_guarded|go_step|go_upon|go_back)
 generalize w1.alloc (.cells #[.int .i64 0,.int .i64 0,.slice none 0 0,.slice none 0 0,.int .i64 0,.string ⟨#[]⟩,.string ⟨#[]⟩,.bool false] 161)=w2 at g0 hb1 ⊢
 repeat' ((fail_if_success at_builtin);first|go_values|go_skip|go_guarded|go_step|go_upon|go_back)
 (refine(kinds_any w2 (w.heap.size+2)).mono ?_;rintro e1 w3 ⟨kb,hkb,rfl,hM,hb3⟩;dsimp only)
 have H3:PR w w3 (w.heap.size+2) kb PS.nil (.slice none 0 0) (.slice none 0 0) [] []:=by
  have g3:=blk_below hb3 g0 (blk_lt g0)
  have hb13:=hb1.trans (hb3.mono hb1.size)
  exact⟨⟨g3,World.ownsRow_nil _ _ _ _,World.ownsRow_nil _ _ _ _,hM,Nat.le_refl _,by have:=hb1.size;omega⟩,blk_below hb13 p0 (blk_lt p0),blk_below hb13 e0 (blk_lt e0),hb0.trans (hb13.mono hb0.size)⟩
 clear hb0 p0 e0 hs0 g0 hb1 hb3 hM hkb
 have HD0:Hid (decG xs=pgGo xs (xs.length+1+1) 0 PS.nil):=Lib.hid rfl
 repeat' ((fail_if_success at_builtin);first|go_values|go_skip|go_guarded|go_step|go_upon|go_back)
 go_loopw [6,56] (fun iv dv wr=>(dv ≠ .bool false)/\∃ (i k:Nat) (s:PS) (pv ev:Value) (pcs ecs:List Value),iv = .int .i64 i/\i<=xs.length/\xs.length+1<=k+i/\Hid (decG xs=pgGo xs (k+1) i s)/\Hid (PInv s i)/\PR w wr (w.heap.size+2) kb s pv ev pcs ecs) (fun iv _ _=>xs.length-(intOf iv).toNat)
 case atStart=>exact⟨by simp[undef],0,xs.length+1,PS.nil,_,_,_,_,rfl,Nat.zero_le _,by omega,HD0,Lib.hid PInv.nil,H3⟩
 case round =>
  clear H3 HD0
  obtain⟨hdn,i,k,s,pv,ev,pcs,ecs,rfl,hi,hk,HD,HI,HP⟩:=hrel
  obtain⟨pa,pc,rfl,-,-,-,-⟩:=own_rowT HP.px.po
  obtain⟨ea,ec,rfl,-,-,-,-⟩:=own_rowT HP.px.eo
  have HR:=Lib.hid HP
  have HIK:=Lib.hid (And.intro hi hk)
  have HBIG:=Lib.hid HP.big
  clear hk
  have c7:=HP.px.c.2.2.2.2.2.2.2
  clear HP
  cases hov:s.over with
  | true =>
   rw[hov] at c7
   have hd:=HD.out
   rw[pgGo_over hov] at hd
   by_cases hend:i=xs.length
   ·rw[if_pos hend] at hd
    have HD2:=Lib.hid hd
    have t1:((i:Int)==(xs.length:Int))=true:=by simp[hend]
    clear hend hd HD
    repeat' ((fail_if_success at_builtin);first|go_values|go_skip|go_guarded|go_step|go_upon|go_back)
    (refine(pmay_ok _).mono ?_;rintro e1 w5 ⟨rfl,rfl⟩;dsimp only)
    obtain⟨c0,c1,c2,c3,-⟩:=HR.out.px.c
    obtain⟨p0,p1,p2,p3,f0,f1,f2,f3⟩:=blk4 HR.out.hp
    obtain⟨q0,q1⟩:=blk1 HR.out.hq
    repeat' ((fail_if_success at_builtin);first|go_values|go_skip|go_guarded|go_step|go_upon|go_back)
    clear c0 c1 c2 c3 p0 p1 p2 p3 f0 f1 f2 f3 q0 q1 c7
    refine leaves_cons (f:=94) (args:=#[.pointer (some ⟨w.heap.size,0,none⟩),.pointer (some ⟨w.heap.size+1,0,none⟩)]) (by simp) (by simp[go_sem]) ?_
    refine(gidle _ _ _).mono ?_
    rintro e1 u' w'' ⟨rfl,rfl,rfl⟩
    obtain⟨z0,z1,z2,z3,z4,hbz⟩:=HR.out.took
    unfold tookG at z0 z1 z2 z3 z4 hbz
    refine⟨.tuple #[.agg #[.int .i64 s.im.number,.int .i64 s.im.mark,.slice pa s.im.procs.length pc,.slice ea s.im.entries.length ec],.int .i64 0],?_,?_⟩
    ·simp[results,Tryz.results40,go_sem,z0,z1,z2,z3,z4]
    ·have:=HQ.out pa s.im.procs.length pc ea s.im.entries.length ec _ hbz
     rw[HD2.out] at this
     exact this
   ·rw[if_neg hend] at hd
    have HD2:=Lib.hid hd
    have t1:((i:Int)==(xs.length:Int))=false:=by simp;omega
    clear hend hd HD
    repeat' ((fail_if_success at_builtin);first|go_values|go_skip|go_guarded|go_step|go_upon|go_back)
    (refine(pmay_no _).mono ?_;rintro e1 w5 ⟨rfl,rfl⟩;dsimp only)
    (refine leaves_cons (f:=94) (args:=#[.pointer (some ⟨w.heap.size,0,none⟩),.pointer (some ⟨w.heap.size+1,0,none⟩)]) (by simp) (by simp[go_sem]) ?_;refine(gcatch _ _ _ _ _ _ _ _ (HR.out.pq).hp (HR.out.pq).hq (3)).mono ?_;rintro e1 u' w'' ⟨rfl,rfl,rfl⟩;obtain⟨z0,z1,z2,z3,z4,hbz⟩:=(HR.out.pq).gave (3);refine⟨.tuple #[.agg #[.int .i64 0,.int .i64 0,.slice none 0 0,.slice none 0 0],.int .i64 (3)],?_,HG.out _ _ HD2.out hbz⟩;simp[results,Tryz.results40,go_sem,z0,z1,z2,z3,z4])
  | false =>
   rw[hov] at c7
   have HOV:=Lib.hid hov
   clear hov
   obtain⟨body,j,e,hn⟩:∃ body j e,nextF xs i=(body,j,e):=⟨_,_,_,rfl⟩
   have HN:=Lib.hid hn
   have hxr:BS wr a c xs:=HX.out.below HR.out.hb
   clear hn
   by_cases hE:e=0
   ·subst hE
    have hok:=nextF_nine (b:=xs) (i:=i) (by rw[HN.out])
    rw[HN.out] at hok
    dsimp only at hok
    have HOK:=Lib.hid hok
    have HRND:Hid (decG xs=match pgFrame body s with|none=>(Im.nil,3)|some s'=>pgGo xs k j s'):=Lib.hid (HD.out.trans (pgGo_round HOV.out HN.out))
    obtain⟨ch,r1,hb⟩:∃ ch r1,RS.byte ⟨body,0,0⟩=(ch,r1):=⟨_,_,rfl⟩
    obtain⟨n,r2,hn⟩:∃ n r2,r1.number=(n,r2):=⟨_,_,rfl⟩
    have HFR:=Lib.hid (pgFrame_of (s:=s) hb hn)
    have HBY:=Lib.hid hb
    have HNU:=Lib.hid hn
    clear hok hb hn HD
    repeat' ((fail_if_success at_builtin);first|go_values|go_skip|go_guarded|go_step|go_upon|go_back)
    (refine(nextC_any _ a c xs hxr i (by have:=HL.out;omega) (by have:=HL.out;have:=HIK.out.1;omega)).mono ?_;rintro e1 w5 ⟨v,rfl,ho,hb5⟩;dsimp only)
    rw[HN.out] at ho ⊢
    dsimp only at ho ⊢
    obtain⟨a1,c1,rfl,hB1,-⟩:=ho.shape
    have H5:=HR.out.pure hb5
    clear ho hb5 c7 hxr
    repeat' ((fail_if_success at_builtin);first|go_values|go_skip|go_guarded|go_step|go_upon|go_back)
    (refine(read_any w5 a1 c1 body hB1 (by have:=HOK.out.2.2;have:=HL.out;omega)).mono ?_;rintro e1 w6 ⟨b,rfl,hbb,hrd,hb6⟩;dsimp only)
    have H6:=H5.pure hb6
    have HNB:Hid (w.heap.size+2<=b):=Lib.hid (Nat.le_trans H5.big hbb)
    clear hb6 hbb hB1 H5
    repeat' ((fail_if_success at_builtin);first|go_values|go_skip|go_guarded|go_step|go_upon|go_back)
    (refine(byte_any w6 b _ hrd).mono ?_;rintro e1 w7 ⟨rfl,hrd7,hF7⟩;dsimp only)
    rw[HBY.out] at hrd7 ⊢
    dsimp only at hrd7 ⊢
    obtain⟨hx7,hb7⟩:=H6.px.read hrd HNB.out hF7
    have H7:=Lib.hid (H6.of hx7 hb7)
    clear hx7 hb7 hF7 hrd H6
    by_cases hc:ch.toNat<1\/4<ch.toNat
    ·have hlk:=MP.kind_no H7.out.px.mp ch hc
     have HF2:Hid (decG xs=(Im.nil,3)):=Lib.hid (by rw[HRND.out,HFR.out,if_pos hc])
     clear hc
     repeat' ((fail_if_success at_builtin);first|go_values|go_skip|go_guarded|go_step|go_upon|go_back)
     refine wp_region_qpanx 46 10 56 _ (.tmp 55) (by kernel_rfl) (by kernel_rfl) rfl rfl rfl (by kernel_rfl) (fun h=>hdn (Option.some.inj h)) ?hp ?hq
     case hp =>
      rintro a' w' K hk ⟨nn,rfl⟩ he
      rcases a' with ⟨T,D⟩
      obtain⟨hD,hT⟩:=hk
      have h2:=hT 2 (by decide)
      have h3:=hT 3 (by decide)
      clear hT
      simp only[Act.eval] at he hD
      subst hD
      unfold Oper.wp
      simp[execOp,go_sem,he]
      refine(pmay_no _).mono ?_
      rintro e1 w3 ⟨rfl,rfl⟩
      have H8:=Lib.hid (H7.out.pure (bdrewN (Below.refl _ _) nn))
      simp only[List.getElem?_toArray,List.getElem?_cons_zero,List.getElem?_cons_succ] at h2 h3
      dsimp only
      clear H7 hlk
      refine leaves_cons (f:=94) (args:=#[.pointer (some ⟨w.heap.size,0,none⟩),.pointer (some ⟨w.heap.size+1,0,none⟩)]) (by simp) (by simp[go_sem]) ?_
      refine(gcatch _ _ _ _ _ _ _ _ H8.out.hp H8.out.hq 3).mono ?_
      rintro e1 u' w'' ⟨rfl,rfl,rfl⟩
      obtain⟨z0,z1,z2,z3,z4,hbz⟩:=H8.out.pq.gave 3
      refine⟨.tuple #[.agg #[.int .i64 0,.int .i64 0,.slice none 0 0,.slice none 0 0],.int .i64 3],?_,HG.out _ _ HF2.out hbz⟩
      simp[results,Tryz.results40,go_sem,z0,z1,z2,z3,z4,h2,h3]
     case hq =>
      simp only[List.set_cons_succ,List.set_cons_zero]
      (repeat (quiet_step (fail)))
      refine wpQuiet_nil ?_
      rfl
    ·have hk1:=MP.kind_has H7.out.px.mp ch (by omega) (by omega)
     have HNUM:Hid (∀ w',Rd w' b r1->Calls Tryz.prog 55 #[.pointer (some ⟨b,0,none⟩)] w' fun e w''=>e = .returned (.int .i64 (n:Int))/\Rd w'' b r2/\Fr w' w'' (fun k=>k=b)):=Lib.hid (fun w' h=>by
      have:=number_any w' b r1 h
      rw[HNU.out] at this
      exact this)
     have HFR2:Hid (pgFrame body s=if n≠s.frames then none else match pgKind ch.toNat s body.length r2 with|none=>none|some x=>if x.2.end_=0 then some { x.1 with frames:=x.1.frames+1 } else none):=Lib.hid (HFR.out.trans (if_neg hc))
     have c4:w7.cell? ⟨w.heap.size+2,4,none⟩=some (.int .i64 (s.frames:Int)):=H7.out.px.c.2.2.2.2.1
     have HS6:∀ w8,Fr w7 w8 (fun k=>k=b)->w8.cell? ⟨w.heap.size+2,4,none⟩=some (.int .i64 (s.frames:Int)):=fun w8 hF=>(H7.out.px.read hrd7 HNB.out hF).1.c.2.2.2.2.1
     clear hc HFR HBY HNU
     by_cases hnf:n=s.frames
     ·have t2:((n:Int)==(s.frames:Int))=true:=by simp[hnf]
      have HFR3:Hid (pgFrame body s=match pgKind ch.toNat s body.length r2 with|none=>none|some x=>if x.2.end_=0 then some { x.1 with frames:=x.1.frames+1 } else none):=Lib.hid (HFR2.out.trans (if_neg (by simp[hnf])))
      clear hnf HFR2
      repeat' ((fail_if_success at_builtin);first|go_values|go_skip|go_guarded|go_step|go_upon|go_back)
      go_region_held3 (fun w'=>w'.cell? ⟨w.heap.size+2,4,none⟩=some (.int .i64 (s.frames:Int))) (first|exact c4|exact HS6 _ hF8) (first
       | ((with_reducible refine(HNUM.out _ ?_).mono ?_);(first|exact hrd7|exact hrd7.drewN _);rintro e1 w8 ⟨rfl,hR8,hF8x⟩;have hF8:Fr w7 w8 (fun k=>k=b):=⟨hF8x.os,hF8x.tape,hF8x.output,hF8x.size,hF8x.block⟩;clear hF8x)
       | (go_at_call 98;refine(pmay_ok _).mono ?_;rintro e1 w9 ⟨rfl,rfl⟩))
      have hX8:=H7.out.px.read hrd7 HNB.out hF8
      have H8:=Lib.hid (H7.out.of hX8.1 hX8.2)
      clear hX8 HS6 c4 hk1 hF8 hrd7 H7 HNUM t2 hdn HR
      have hat:=kind_enters ch.toNat
      have HK:=Lib.hid (kind_any ch.toNat w8 body.length (by have:=HOK.out.2.2;have:=HL.out;omega) H8.out.px hR8 HNB.out (by have:=HI.out.procs;have:=HI.out.frames;have:=HL.out;have:=HIK.out.1;omega) (by have:=HI.out.entries;have:=HI.out.frames;have:=HL.out;have:=HIK.out.1;omega))
      obtain⟨pk,hpk⟩:∃ pk,pgKind ch.toNat s body.length r2=pk:=⟨_,rfl⟩
      rw[hpk] at HK HFR3
      have HPK:=Lib.hid hpk
      clear hpk
      repeat' ((fail_if_success at_builtin);first|go_values|go_skip|go_guarded|go_step|go_upon|go_back)
      refine HK.out.mono ?_
      rintro e1 w9 hpost
      cases pk with
      | none =>
       obtain⟨rfl,hb9⟩:=hpost
       have HF4:Hid (decG xs=(Im.nil,3)):=Lib.hid (by rw[HRND.out,HFR3.out])
       have H9:=Lib.hid (H8.out.pq.of hb9)
       dsimp only
       (refine leaves_cons (f:=94) (args:=#[.pointer (some ⟨w.heap.size,0,none⟩),.pointer (some ⟨w.heap.size+1,0,none⟩)]) (by simp) (by simp[go_sem]) ?_;refine(gcatch _ _ _ _ _ _ _ _ (H9.out).hp (H9.out).hq (3)).mono ?_;rintro e1 u' w'' ⟨rfl,rfl,rfl⟩;obtain⟨z0,z1,z2,z3,z4,hbz⟩:=(H9.out).gave (3);refine⟨.tuple #[.agg #[.int .i64 0,.int .i64 0,.slice none 0 0,.slice none 0 0],.int .i64 (3)],?_,HG.out _ _ HF4.out hbz⟩;simp[results,Tryz.results40,go_sem,z0,z1,z2,z3,z4])
      | some x =>
       obtain⟨rfl,⟨pv',ev',pcs',ecs',hx9⟩,hR9,hb9⟩:=hpost
       have H9:=Lib.hid (H8.out.of hx9 hb9)
       clear hx9 hb9 HK H8 hR8
       dsimp only
       repeat' ((fail_if_success at_builtin);first|go_values|go_skip|go_guarded|go_step|go_upon|go_back)
       (refine(end_any w9 b _ hR9).mono ?_;rintro e1 w10 ⟨rfl,m,rfl⟩;dsimp only)
       have H10:=Lib.hid (H9.out.pure (bdrewN (Below.refl _ _) m))
       clear H9 hR9
       by_cases hen:x.2.end_=0
       ·have t3:(x.2.end_==0)=true:=by simp[hen]
        have HF4:Hid (decG xs=pgGo xs k j { x.1 with frames:=x.1.frames+1 }):=Lib.hid (by rw[HRND.out,HFR3.out];dsimp only;rw[if_pos hen])
        have HI2:Hid (PInv { x.1 with frames:=x.1.frames+1 } j):=Lib.hid (HI.out.step (body:=body) (by rw[HFR3.out];dsimp only;rw[if_pos hen]) HOK.out.1)
        clear hen
        repeat' ((fail_if_success at_builtin);first|go_values|go_skip|go_guarded|go_step|go_upon|go_back)
        (refine(pmay_ok _).mono ?_;rintro e1 w11 ⟨rfl,rfl⟩;dsimp only)
        generalize w9.drewN m=w12 at H10 ⊢
        have c4:=H10.out.px.c.2.2.2.2.1
        have f4:=H10.out.px.f 4
        have hfr:(x.1.frames:Int)<=4294967296:=by have:=HI2.out.frames;have:=HOK.out.2.1;have:=HL.out;dsimp only at *;omega
        have hfr0:(0:Int)<=(x.1.frames:Int):=Int.natCast_nonneg _
        have hwr:IntKind.i64.wrap ((x.1.frames:Int)+1)=(x.1.frames:Int)+1:=IntWalk.i64_in _ (by omega)
        obtain⟨hX13,hb13⟩:=H10.out.px.setN (s':={ x.1 with frames:=x.1.frames+1 }) 4 (.int .i64 ((x.1.frames:Int)+1)) rfl rfl rfl
        have H13:=Lib.hid (H10.out.of hX13 hb13)
        clear hX13 hb13 hfr
        repeat' ((fail_if_success at_builtin);first|go_values|go_skip|go_guarded|go_step|go_upon|go_back)
        go_roundw
        case rel=>exact⟨by simp,j,k-1,_,_,_,_,_,rfl,HOK.out.2.1,by have:=HOK.out.1;have:=HIK.out;omega,Lib.hid (by rw[HF4.out];congr 1;have:=HIK.out;omega),HI2,H13.out⟩
        case measure=>have:=HOK.out.1;have:=HOK.out.2.1;have:=HIK.out;simp[intOf];omega
       ·have t3:(x.2.end_==0)=false:=by simpa using hen
        have HF4:Hid (decG xs=(Im.nil,3)):=Lib.hid (by rw[HRND.out,HFR3.out];dsimp only;rw[if_neg hen])
        clear hen
        repeat' ((fail_if_success at_builtin);first|go_values|go_skip|go_guarded|go_step|go_upon|go_back)
        (refine(pmay_no _).mono ?_;rintro e1 w11 ⟨rfl,rfl⟩;dsimp only)
        (refine leaves_cons (f:=94) (args:=#[.pointer (some ⟨w.heap.size,0,none⟩),.pointer (some ⟨w.heap.size+1,0,none⟩)]) (by simp) (by simp[go_sem]) ?_;refine(gcatch _ _ _ _ _ _ _ _ (H10.out.pq).hp (H10.out.pq).hq (3)).mono ?_;rintro e1 u' w'' ⟨rfl,rfl,rfl⟩;obtain⟨z0,z1,z2,z3,z4,hbz⟩:=(H10.out.pq).gave (3);refine⟨.tuple #[.agg #[.int .i64 0,.int .i64 0,.slice none 0 0,.slice none 0 0],.int .i64 (3)],?_,HG.out _ _ HF4.out hbz⟩;simp[results,Tryz.results40,go_sem,z0,z1,z2,z3,z4])
     ·have t2:((n:Int)==(s.frames:Int))=false:=by simp;omega
      have HF4:Hid (decG xs=(Im.nil,3)):=Lib.hid (by rw[HRND.out,HFR2.out,if_pos hnf])
      clear hnf HFR2
      repeat' ((fail_if_success at_builtin);first|go_values|go_skip|go_guarded|go_step|go_upon|go_back)
      refine wp_region_any (by kernel_rfl) ?_
      change wpAny _ _ _ _ _ _ _ (World.drew _)
      (refine wpAny_ready (rs:=[0]) (by kernel_rfl) (by simp) ?_;refine AllReady.cons rfl (fun K hK=>?_) AllReady.nil;(focus ((go_simp;refine hK _ _ ?_;clear hK K;(refine wpAny_ready (rs:=[1]) (by kernel_rfl) (by simp) ?_;refine AllReady.cons rfl (fun K hK=>?_) AllReady.nil;(focus ((go_simp;refine hK _ _ ?_;clear hK K;(refine wpAny_ready (rs:=[2,4]) (by kernel_rfl) (by simp) ?_;refine AllReady.cons rfl (fun K hK=>?_) (AllReady.cons rfl (fun K hK=>?_) AllReady.nil);(focus ((go_simp;refine hK _ _ ?_;clear hK K;(refine wpAny_ready (rs:=[3,4]) (by kernel_rfl) (by simp) ?_;refine AllReady.cons rfl (fun K hK=>?_) (AllReady.cons rfl (fun K hK=>?_) AllReady.nil);(focus ((go_simp;refine(HNUM.out _ (by first|exact hrd7|exact hrd7.drewN _)).mono ?_;rintro e1 w8 ⟨rfl,hR8,hF8x⟩;have hF8:Fr w7 w8 (fun k=>k=b):=⟨hF8x.os,hF8x.tape,hF8x.output,hF8x.size,hF8x.block⟩;clear hF8x;have c4:=HS6 _ hF8;have hX8:=H7.out.px.read hrd7 HNB.out hF8;have H8:=Lib.hid (H7.out.of hX8.1 hX8.2);clear hX8 hF8 hR8;dsimp only;refine hK _ _ ?_;clear hK K;(refine wpAny_ready (rs:=[4]) (by kernel_rfl) (by simp) ?_;refine AllReady.cons rfl (fun K hK=>?_) AllReady.nil;(focus ((go_simp;refine hK _ _ ?_;clear hK K;(refine wpAny_ready (rs:=[5]) (by kernel_rfl) (by simp) ?_;refine AllReady.cons rfl (fun K hK=>?_) AllReady.nil;(focus ((go_simp;refine hK _ _ ?_;clear hK K;(refine wpAny_ready (rs:=[6]) (by kernel_rfl) (by simp) ?_;refine AllReady.cons rfl (fun K hK=>?_) AllReady.nil;(focus ((go_simp;refine hK _ _ ?_;clear hK K;(refine wpAny_ready (rs:=[7]) (by kernel_rfl) (by simp) ?_;refine AllReady.cons rfl (fun K hK=>?_) AllReady.nil;(focus ((go_simp;refine hK _ _ ?_;clear hK K;(refine wpAny_ready (rs:=[8]) (by kernel_rfl) (by simp) ?_;refine AllReady.cons rfl (fun K hK=>?_) AllReady.nil;(focus ((go_simp;refine hK _ _ ?_;clear hK K;(refine wpAny_ready (rs:=[9]) (by kernel_rfl) (by simp) ?_;refine AllReady.cons rfl (fun K hK=>?_) AllReady.nil;(focus ((go_simp;refine hK _ _ ?_;clear hK K;(refine wpAny_ready (rs:=[10]) (by kernel_rfl) (by simp) ?_;refine AllReady.cons rfl (fun K hK=>?_) AllReady.nil;(focus ((go_simp;refine(pmay_no _).mono ?_;rintro e1 w9 ⟨rfl,rfl⟩;dsimp only;(refine leaves_cons (f:=94) (args:=#[.pointer (some ⟨w.heap.size,0,none⟩),.pointer (some ⟨w.heap.size+1,0,none⟩)]) (by simp) (by simp[go_sem]) ?_;refine(gcatch _ _ _ _ _ _ _ _ (H8.out.pq).hp (H8.out.pq).hq (3)).mono ?_;rintro e1 u' w'' ⟨rfl,rfl,rfl⟩;obtain⟨z0,z1,z2,z3,z4,hbz⟩:=(H8.out.pq).gave (3);refine⟨.tuple #[.agg #[.int .i64 0,.int .i64 0,.slice none 0 0,.slice none 0 0],.int .i64 (3)],?_,HG.out _ _ HF4.out hbz⟩;simp[results,Tryz.results40,go_sem,z0,z1,z2,z3,z4]))))))))))))))))))))))))))))))));(focus ((go_simp;refine hK _ _ ?_;clear hK K;(refine wpAny_ready (rs:=[3,5]) (by kernel_rfl) (by simp) ?_;refine AllReady.cons rfl (fun K hK=>?_) (AllReady.cons rfl (fun K hK=>?_) AllReady.nil);(focus ((go_simp;refine(HNUM.out _ (by first|exact hrd7|exact hrd7.drewN _)).mono ?_;rintro e1 w8 ⟨rfl,hR8,hF8x⟩;have hF8:Fr w7 w8 (fun k=>k=b):=⟨hF8x.os,hF8x.tape,hF8x.output,hF8x.size,hF8x.block⟩;clear hF8x;have c4:=HS6 _ hF8;have hX8:=H7.out.px.read hrd7 HNB.out hF8;have H8:=Lib.hid (H7.out.of hX8.1 hX8.2);clear hX8 hF8 hR8;dsimp only;refine hK _ _ ?_;clear hK K;(refine wpAny_ready (rs:=[5]) (by kernel_rfl) (by simp) ?_;refine AllReady.cons rfl (fun K hK=>?_) AllReady.nil;(focus ((go_simp;refine hK _ _ ?_;clear hK K;(refine wpAny_ready (rs:=[6]) (by kernel_rfl) (by simp) ?_;refine AllReady.cons rfl (fun K hK=>?_) AllReady.nil;(focus ((go_simp;refine hK _ _ ?_;clear hK K;(refine wpAny_ready (rs:=[7]) (by kernel_rfl) (by simp) ?_;refine AllReady.cons rfl (fun K hK=>?_) AllReady.nil;(focus ((go_simp;refine hK _ _ ?_;clear hK K;(refine wpAny_ready (rs:=[8]) (by kernel_rfl) (by simp) ?_;refine AllReady.cons rfl (fun K hK=>?_) AllReady.nil;(focus ((go_simp;refine hK _ _ ?_;clear hK K;(refine wpAny_ready (rs:=[9]) (by kernel_rfl) (by simp) ?_;refine AllReady.cons rfl (fun K hK=>?_) AllReady.nil;(focus ((go_simp;refine hK _ _ ?_;clear hK K;(refine wpAny_ready (rs:=[10]) (by kernel_rfl) (by simp) ?_;refine AllReady.cons rfl (fun K hK=>?_) AllReady.nil;(focus ((go_simp;refine(pmay_no _).mono ?_;rintro e1 w9 ⟨rfl,rfl⟩;dsimp only;(refine leaves_cons (f:=94) (args:=#[.pointer (some ⟨w.heap.size,0,none⟩),.pointer (some ⟨w.heap.size+1,0,none⟩)]) (by simp) (by simp[go_sem]) ?_;refine(gcatch _ _ _ _ _ _ _ _ (H8.out.pq).hp (H8.out.pq).hq (3)).mono ?_;rintro e1 u' w'' ⟨rfl,rfl,rfl⟩;obtain⟨z0,z1,z2,z3,z4,hbz⟩:=(H8.out.pq).gave (3);refine⟨.tuple #[.agg #[.int .i64 0,.int .i64 0,.slice none 0 0,.slice none 0 0],.int .i64 (3)],?_,HG.out _ _ HF4.out hbz⟩;simp[results,Tryz.results40,go_sem,z0,z1,z2,z3,z4]))))))))))))))))))))))))))));(focus ((go_simp;refine hK _ _ ?_;clear hK K;(refine wpAny_ready (rs:=[3,6]) (by kernel_rfl) (by simp) ?_;refine AllReady.cons rfl (fun K hK=>?_) (AllReady.cons rfl (fun K hK=>?_) AllReady.nil);(focus ((go_simp;refine(HNUM.out _ (by first|exact hrd7|exact hrd7.drewN _)).mono ?_;rintro e1 w8 ⟨rfl,hR8,hF8x⟩;have hF8:Fr w7 w8 (fun k=>k=b):=⟨hF8x.os,hF8x.tape,hF8x.output,hF8x.size,hF8x.block⟩;clear hF8x;have c4:=HS6 _ hF8;have hX8:=H7.out.px.read hrd7 HNB.out hF8;have H8:=Lib.hid (H7.out.of hX8.1 hX8.2);clear hX8 hF8 hR8;dsimp only;refine hK _ _ ?_;clear hK K;(refine wpAny_ready (rs:=[6]) (by kernel_rfl) (by simp) ?_;refine AllReady.cons rfl (fun K hK=>?_) AllReady.nil;(focus ((go_simp;refine hK _ _ ?_;clear hK K;(refine wpAny_ready (rs:=[7]) (by kernel_rfl) (by simp) ?_;refine AllReady.cons rfl (fun K hK=>?_) AllReady.nil;(focus ((go_simp;refine hK _ _ ?_;clear hK K;(refine wpAny_ready (rs:=[8]) (by kernel_rfl) (by simp) ?_;refine AllReady.cons rfl (fun K hK=>?_) AllReady.nil;(focus ((go_simp;refine hK _ _ ?_;clear hK K;(refine wpAny_ready (rs:=[9]) (by kernel_rfl) (by simp) ?_;refine AllReady.cons rfl (fun K hK=>?_) AllReady.nil;(focus ((go_simp;refine hK _ _ ?_;clear hK K;(refine wpAny_ready (rs:=[10]) (by kernel_rfl) (by simp) ?_;refine AllReady.cons rfl (fun K hK=>?_) AllReady.nil;(focus ((go_simp;refine(pmay_no _).mono ?_;rintro e1 w9 ⟨rfl,rfl⟩;dsimp only;(refine leaves_cons (f:=94) (args:=#[.pointer (some ⟨w.heap.size,0,none⟩),.pointer (some ⟨w.heap.size+1,0,none⟩)]) (by simp) (by simp[go_sem]) ?_;refine(gcatch _ _ _ _ _ _ _ _ (H8.out.pq).hp (H8.out.pq).hq (3)).mono ?_;rintro e1 u' w'' ⟨rfl,rfl,rfl⟩;obtain⟨z0,z1,z2,z3,z4,hbz⟩:=(H8.out.pq).gave (3);refine⟨.tuple #[.agg #[.int .i64 0,.int .i64 0,.slice none 0 0,.slice none 0 0],.int .i64 (3)],?_,HG.out _ _ HF4.out hbz⟩;simp[results,Tryz.results40,go_sem,z0,z1,z2,z3,z4]))))))))))))))))))))))));(focus ((go_simp;refine hK _ _ ?_;clear hK K;(refine wpAny_ready (rs:=[3,7]) (by kernel_rfl) (by simp) ?_;refine AllReady.cons rfl (fun K hK=>?_) (AllReady.cons rfl (fun K hK=>?_) AllReady.nil);(focus ((go_simp;refine(HNUM.out _ (by first|exact hrd7|exact hrd7.drewN _)).mono ?_;rintro e1 w8 ⟨rfl,hR8,hF8x⟩;have hF8:Fr w7 w8 (fun k=>k=b):=⟨hF8x.os,hF8x.tape,hF8x.output,hF8x.size,hF8x.block⟩;clear hF8x;have c4:=HS6 _ hF8;have hX8:=H7.out.px.read hrd7 HNB.out hF8;have H8:=Lib.hid (H7.out.of hX8.1 hX8.2);clear hX8 hF8 hR8;dsimp only;refine hK _ _ ?_;clear hK K;(refine wpAny_ready (rs:=[7]) (by kernel_rfl) (by simp) ?_;refine AllReady.cons rfl (fun K hK=>?_) AllReady.nil;(focus ((go_simp;refine hK _ _ ?_;clear hK K;(refine wpAny_ready (rs:=[8]) (by kernel_rfl) (by simp) ?_;refine AllReady.cons rfl (fun K hK=>?_) AllReady.nil;(focus ((go_simp;refine hK _ _ ?_;clear hK K;(refine wpAny_ready (rs:=[9]) (by kernel_rfl) (by simp) ?_;refine AllReady.cons rfl (fun K hK=>?_) AllReady.nil;(focus ((go_simp;refine hK _ _ ?_;clear hK K;(refine wpAny_ready (rs:=[10]) (by kernel_rfl) (by simp) ?_;refine AllReady.cons rfl (fun K hK=>?_) AllReady.nil;(focus ((go_simp;refine(pmay_no _).mono ?_;rintro e1 w9 ⟨rfl,rfl⟩;dsimp only;(refine leaves_cons (f:=94) (args:=#[.pointer (some ⟨w.heap.size,0,none⟩),.pointer (some ⟨w.heap.size+1,0,none⟩)]) (by simp) (by simp[go_sem]) ?_;refine(gcatch _ _ _ _ _ _ _ _ (H8.out.pq).hp (H8.out.pq).hq (3)).mono ?_;rintro e1 u' w'' ⟨rfl,rfl,rfl⟩;obtain⟨z0,z1,z2,z3,z4,hbz⟩:=(H8.out.pq).gave (3);refine⟨.tuple #[.agg #[.int .i64 0,.int .i64 0,.slice none 0 0,.slice none 0 0],.int .i64 (3)],?_,HG.out _ _ HF4.out hbz⟩;simp[results,Tryz.results40,go_sem,z0,z1,z2,z3,z4]))))))))))))))))))));(focus ((go_simp;refine hK _ _ ?_;clear hK K;(refine wpAny_ready (rs:=[3]) (by kernel_rfl) (by simp) ?_;refine AllReady.cons rfl (fun K hK=>?_) AllReady.nil;(focus ((go_simp;refine(HNUM.out _ (by first|exact hrd7|exact hrd7.drewN _)).mono ?_;rintro e1 w8 ⟨rfl,hR8,hF8x⟩;have hF8:Fr w7 w8 (fun k=>k=b):=⟨hF8x.os,hF8x.tape,hF8x.output,hF8x.size,hF8x.block⟩;clear hF8x;have c4:=HS6 _ hF8;have hX8:=H7.out.px.read hrd7 HNB.out hF8;have H8:=Lib.hid (H7.out.of hX8.1 hX8.2);clear hX8 hF8 hR8;dsimp only;refine hK _ _ ?_;clear hK K;(refine wpAny_ready (rs:=[8]) (by kernel_rfl) (by simp) ?_;refine AllReady.cons rfl (fun K hK=>?_) AllReady.nil;(focus ((go_simp;refine hK _ _ ?_;clear hK K;(refine wpAny_ready (rs:=[9]) (by kernel_rfl) (by simp) ?_;refine AllReady.cons rfl (fun K hK=>?_) AllReady.nil;(focus ((go_simp;refine hK _ _ ?_;clear hK K;(refine wpAny_ready (rs:=[10]) (by kernel_rfl) (by simp) ?_;refine AllReady.cons rfl (fun K hK=>?_) AllReady.nil;(focus ((go_simp;refine(pmay_no _).mono ?_;rintro e1 w9 ⟨rfl,rfl⟩;dsimp only;(refine leaves_cons (f:=94) (args:=#[.pointer (some ⟨w.heap.size,0,none⟩),.pointer (some ⟨w.heap.size+1,0,none⟩)]) (by simp) (by simp[go_sem]) ?_;refine(gcatch _ _ _ _ _ _ _ _ (H8.out.pq).hp (H8.out.pq).hq (3)).mono ?_;rintro e1 u' w'' ⟨rfl,rfl,rfl⟩;obtain⟨z0,z1,z2,z3,z4,hbz⟩:=(H8.out.pq).gave (3);refine⟨.tuple #[.agg #[.int .i64 0,.int .i64 0,.slice none 0 0,.slice none 0 0],.int .i64 (3)],?_,HG.out _ _ HF4.out hbz⟩;simp[results,Tryz.results40,go_sem,z0,z1,z2,z3,z4]))))))))))))))))))))))))))))))))))));(focus ((go_simp;refine hK _ _ ?_;clear hK K;(refine wpAny_ready (rs:=[2,5]) (by kernel_rfl) (by simp) ?_;refine AllReady.cons rfl (fun K hK=>?_) (AllReady.cons rfl (fun K hK=>?_) AllReady.nil);(focus ((go_simp;refine hK _ _ ?_;clear hK K;(refine wpAny_ready (rs:=[3,5]) (by kernel_rfl) (by simp) ?_;refine AllReady.cons rfl (fun K hK=>?_) (AllReady.cons rfl (fun K hK=>?_) AllReady.nil);(focus ((go_simp;refine(HNUM.out _ (by first|exact hrd7|exact hrd7.drewN _)).mono ?_;rintro e1 w8 ⟨rfl,hR8,hF8x⟩;have hF8:Fr w7 w8 (fun k=>k=b):=⟨hF8x.os,hF8x.tape,hF8x.output,hF8x.size,hF8x.block⟩;clear hF8x;have c4:=HS6 _ hF8;have hX8:=H7.out.px.read hrd7 HNB.out hF8;have H8:=Lib.hid (H7.out.of hX8.1 hX8.2);clear hX8 hF8 hR8;dsimp only;refine hK _ _ ?_;clear hK K;(refine wpAny_ready (rs:=[5]) (by kernel_rfl) (by simp) ?_;refine AllReady.cons rfl (fun K hK=>?_) AllReady.nil;(focus ((go_simp;refine hK _ _ ?_;clear hK K;(refine wpAny_ready (rs:=[6]) (by kernel_rfl) (by simp) ?_;refine AllReady.cons rfl (fun K hK=>?_) AllReady.nil;(focus ((go_simp;refine hK _ _ ?_;clear hK K;(refine wpAny_ready (rs:=[7]) (by kernel_rfl) (by simp) ?_;refine AllReady.cons rfl (fun K hK=>?_) AllReady.nil;(focus ((go_simp;refine hK _ _ ?_;clear hK K;(refine wpAny_ready (rs:=[8]) (by kernel_rfl) (by simp) ?_;refine AllReady.cons rfl (fun K hK=>?_) AllReady.nil;(focus ((go_simp;refine hK _ _ ?_;clear hK K;(refine wpAny_ready (rs:=[9]) (by kernel_rfl) (by simp) ?_;refine AllReady.cons rfl (fun K hK=>?_) AllReady.nil;(focus ((go_simp;refine hK _ _ ?_;clear hK K;(refine wpAny_ready (rs:=[10]) (by kernel_rfl) (by simp) ?_;refine AllReady.cons rfl (fun K hK=>?_) AllReady.nil;(focus ((go_simp;refine(pmay_no _).mono ?_;rintro e1 w9 ⟨rfl,rfl⟩;dsimp only;(refine leaves_cons (f:=94) (args:=#[.pointer (some ⟨w.heap.size,0,none⟩),.pointer (some ⟨w.heap.size+1,0,none⟩)]) (by simp) (by simp[go_sem]) ?_;refine(gcatch _ _ _ _ _ _ _ _ (H8.out.pq).hp (H8.out.pq).hq (3)).mono ?_;rintro e1 u' w'' ⟨rfl,rfl,rfl⟩;obtain⟨z0,z1,z2,z3,z4,hbz⟩:=(H8.out.pq).gave (3);refine⟨.tuple #[.agg #[.int .i64 0,.int .i64 0,.slice none 0 0,.slice none 0 0],.int .i64 (3)],?_,HG.out _ _ HF4.out hbz⟩;simp[results,Tryz.results40,go_sem,z0,z1,z2,z3,z4]))))))))))))))))))))))))))));(focus ((go_simp;refine hK _ _ ?_;clear hK K;(refine wpAny_ready (rs:=[3,6]) (by kernel_rfl) (by simp) ?_;refine AllReady.cons rfl (fun K hK=>?_) (AllReady.cons rfl (fun K hK=>?_) AllReady.nil);(focus ((go_simp;refine(HNUM.out _ (by first|exact hrd7|exact hrd7.drewN _)).mono ?_;rintro e1 w8 ⟨rfl,hR8,hF8x⟩;have hF8:Fr w7 w8 (fun k=>k=b):=⟨hF8x.os,hF8x.tape,hF8x.output,hF8x.size,hF8x.block⟩;clear hF8x;have c4:=HS6 _ hF8;have hX8:=H7.out.px.read hrd7 HNB.out hF8;have H8:=Lib.hid (H7.out.of hX8.1 hX8.2);clear hX8 hF8 hR8;dsimp only;refine hK _ _ ?_;clear hK K;(refine wpAny_ready (rs:=[6]) (by kernel_rfl) (by simp) ?_;refine AllReady.cons rfl (fun K hK=>?_) AllReady.nil;(focus ((go_simp;refine hK _ _ ?_;clear hK K;(refine wpAny_ready (rs:=[7]) (by kernel_rfl) (by simp) ?_;refine AllReady.cons rfl (fun K hK=>?_) AllReady.nil;(focus ((go_simp;refine hK _ _ ?_;clear hK K;(refine wpAny_ready (rs:=[8]) (by kernel_rfl) (by simp) ?_;refine AllReady.cons rfl (fun K hK=>?_) AllReady.nil;(focus ((go_simp;refine hK _ _ ?_;clear hK K;(refine wpAny_ready (rs:=[9]) (by kernel_rfl) (by simp) ?_;refine AllReady.cons rfl (fun K hK=>?_) AllReady.nil;(focus ((go_simp;refine hK _ _ ?_;clear hK K;(refine wpAny_ready (rs:=[10]) (by kernel_rfl) (by simp) ?_;refine AllReady.cons rfl (fun K hK=>?_) AllReady.nil;(focus ((go_simp;refine(pmay_no _).mono ?_;rintro e1 w9 ⟨rfl,rfl⟩;dsimp only;(refine leaves_cons (f:=94) (args:=#[.pointer (some ⟨w.heap.size,0,none⟩),.pointer (some ⟨w.heap.size+1,0,none⟩)]) (by simp) (by simp[go_sem]) ?_;refine(gcatch _ _ _ _ _ _ _ _ (H8.out.pq).hp (H8.out.pq).hq (3)).mono ?_;rintro e1 u' w'' ⟨rfl,rfl,rfl⟩;obtain⟨z0,z1,z2,z3,z4,hbz⟩:=(H8.out.pq).gave (3);refine⟨.tuple #[.agg #[.int .i64 0,.int .i64 0,.slice none 0 0,.slice none 0 0],.int .i64 (3)],?_,HG.out _ _ HF4.out hbz⟩;simp[results,Tryz.results40,go_sem,z0,z1,z2,z3,z4]))))))))))))))))))))))));(focus ((go_simp;refine hK _ _ ?_;clear hK K;(refine wpAny_ready (rs:=[3,7]) (by kernel_rfl) (by simp) ?_;refine AllReady.cons rfl (fun K hK=>?_) (AllReady.cons rfl (fun K hK=>?_) AllReady.nil);(focus ((go_simp;refine(HNUM.out _ (by first|exact hrd7|exact hrd7.drewN _)).mono ?_;rintro e1 w8 ⟨rfl,hR8,hF8x⟩;have hF8:Fr w7 w8 (fun k=>k=b):=⟨hF8x.os,hF8x.tape,hF8x.output,hF8x.size,hF8x.block⟩;clear hF8x;have c4:=HS6 _ hF8;have hX8:=H7.out.px.read hrd7 HNB.out hF8;have H8:=Lib.hid (H7.out.of hX8.1 hX8.2);clear hX8 hF8 hR8;dsimp only;refine hK _ _ ?_;clear hK K;(refine wpAny_ready (rs:=[7]) (by kernel_rfl) (by simp) ?_;refine AllReady.cons rfl (fun K hK=>?_) AllReady.nil;(focus ((go_simp;refine hK _ _ ?_;clear hK K;(refine wpAny_ready (rs:=[8]) (by kernel_rfl) (by simp) ?_;refine AllReady.cons rfl (fun K hK=>?_) AllReady.nil;(focus ((go_simp;refine hK _ _ ?_;clear hK K;(refine wpAny_ready (rs:=[9]) (by kernel_rfl) (by simp) ?_;refine AllReady.cons rfl (fun K hK=>?_) AllReady.nil;(focus ((go_simp;refine hK _ _ ?_;clear hK K;(refine wpAny_ready (rs:=[10]) (by kernel_rfl) (by simp) ?_;refine AllReady.cons rfl (fun K hK=>?_) AllReady.nil;(focus ((go_simp;refine(pmay_no _).mono ?_;rintro e1 w9 ⟨rfl,rfl⟩;dsimp only;(refine leaves_cons (f:=94) (args:=#[.pointer (some ⟨w.heap.size,0,none⟩),.pointer (some ⟨w.heap.size+1,0,none⟩)]) (by simp) (by simp[go_sem]) ?_;refine(gcatch _ _ _ _ _ _ _ _ (H8.out.pq).hp (H8.out.pq).hq (3)).mono ?_;rintro e1 u' w'' ⟨rfl,rfl,rfl⟩;obtain⟨z0,z1,z2,z3,z4,hbz⟩:=(H8.out.pq).gave (3);refine⟨.tuple #[.agg #[.int .i64 0,.int .i64 0,.slice none 0 0,.slice none 0 0],.int .i64 (3)],?_,HG.out _ _ HF4.out hbz⟩;simp[results,Tryz.results40,go_sem,z0,z1,z2,z3,z4]))))))))))))))))))));(focus ((go_simp;refine hK _ _ ?_;clear hK K;(refine wpAny_ready (rs:=[3]) (by kernel_rfl) (by simp) ?_;refine AllReady.cons rfl (fun K hK=>?_) AllReady.nil;(focus ((go_simp;refine(HNUM.out _ (by first|exact hrd7|exact hrd7.drewN _)).mono ?_;rintro e1 w8 ⟨rfl,hR8,hF8x⟩;have hF8:Fr w7 w8 (fun k=>k=b):=⟨hF8x.os,hF8x.tape,hF8x.output,hF8x.size,hF8x.block⟩;clear hF8x;have c4:=HS6 _ hF8;have hX8:=H7.out.px.read hrd7 HNB.out hF8;have H8:=Lib.hid (H7.out.of hX8.1 hX8.2);clear hX8 hF8 hR8;dsimp only;refine hK _ _ ?_;clear hK K;(refine wpAny_ready (rs:=[8]) (by kernel_rfl) (by simp) ?_;refine AllReady.cons rfl (fun K hK=>?_) AllReady.nil;(focus ((go_simp;refine hK _ _ ?_;clear hK K;(refine wpAny_ready (rs:=[9]) (by kernel_rfl) (by simp) ?_;refine AllReady.cons rfl (fun K hK=>?_) AllReady.nil;(focus ((go_simp;refine hK _ _ ?_;clear hK K;(refine wpAny_ready (rs:=[10]) (by kernel_rfl) (by simp) ?_;refine AllReady.cons rfl (fun K hK=>?_) AllReady.nil;(focus ((go_simp;refine(pmay_no _).mono ?_;rintro e1 w9 ⟨rfl,rfl⟩;dsimp only;(refine leaves_cons (f:=94) (args:=#[.pointer (some ⟨w.heap.size,0,none⟩),.pointer (some ⟨w.heap.size+1,0,none⟩)]) (by simp) (by simp[go_sem]) ?_;refine(gcatch _ _ _ _ _ _ _ _ (H8.out.pq).hp (H8.out.pq).hq (3)).mono ?_;rintro e1 u' w'' ⟨rfl,rfl,rfl⟩;obtain⟨z0,z1,z2,z3,z4,hbz⟩:=(H8.out.pq).gave (3);refine⟨.tuple #[.agg #[.int .i64 0,.int .i64 0,.slice none 0 0,.slice none 0 0],.int .i64 (3)],?_,HG.out _ _ HF4.out hbz⟩;simp[results,Tryz.results40,go_sem,z0,z1,z2,z3,z4]))))))))))))))))))))))))))))))));(focus ((go_simp;refine hK _ _ ?_;clear hK K;(refine wpAny_ready (rs:=[2,6]) (by kernel_rfl) (by simp) ?_;refine AllReady.cons rfl (fun K hK=>?_) (AllReady.cons rfl (fun K hK=>?_) AllReady.nil);(focus ((go_simp;refine hK _ _ ?_;clear hK K;(refine wpAny_ready (rs:=[3,6]) (by kernel_rfl) (by simp) ?_;refine AllReady.cons rfl (fun K hK=>?_) (AllReady.cons rfl (fun K hK=>?_) AllReady.nil);(focus ((go_simp;refine(HNUM.out _ (by first|exact hrd7|exact hrd7.drewN _)).mono ?_;rintro e1 w8 ⟨rfl,hR8,hF8x⟩;have hF8:Fr w7 w8 (fun k=>k=b):=⟨hF8x.os,hF8x.tape,hF8x.output,hF8x.size,hF8x.block⟩;clear hF8x;have c4:=HS6 _ hF8;have hX8:=H7.out.px.read hrd7 HNB.out hF8;have H8:=Lib.hid (H7.out.of hX8.1 hX8.2);clear hX8 hF8 hR8;dsimp only;refine hK _ _ ?_;clear hK K;(refine wpAny_ready (rs:=[6]) (by kernel_rfl) (by simp) ?_;refine AllReady.cons rfl (fun K hK=>?_) AllReady.nil;(focus ((go_simp;refine hK _ _ ?_;clear hK K;(refine wpAny_ready (rs:=[7]) (by kernel_rfl) (by simp) ?_;refine AllReady.cons rfl (fun K hK=>?_) AllReady.nil;(focus ((go_simp;refine hK _ _ ?_;clear hK K;(refine wpAny_ready (rs:=[8]) (by kernel_rfl) (by simp) ?_;refine AllReady.cons rfl (fun K hK=>?_) AllReady.nil;(focus ((go_simp;refine hK _ _ ?_;clear hK K;(refine wpAny_ready (rs:=[9]) (by kernel_rfl) (by simp) ?_;refine AllReady.cons rfl (fun K hK=>?_) AllReady.nil;(focus ((go_simp;refine hK _ _ ?_;clear hK K;(refine wpAny_ready (rs:=[10]) (by kernel_rfl) (by simp) ?_;refine AllReady.cons rfl (fun K hK=>?_) AllReady.nil;(focus ((go_simp;refine(pmay_no _).mono ?_;rintro e1 w9 ⟨rfl,rfl⟩;dsimp only;(refine leaves_cons (f:=94) (args:=#[.pointer (some ⟨w.heap.size,0,none⟩),.pointer (some ⟨w.heap.size+1,0,none⟩)]) (by simp) (by simp[go_sem]) ?_;refine(gcatch _ _ _ _ _ _ _ _ (H8.out.pq).hp (H8.out.pq).hq (3)).mono ?_;rintro e1 u' w'' ⟨rfl,rfl,rfl⟩;obtain⟨z0,z1,z2,z3,z4,hbz⟩:=(H8.out.pq).gave (3);refine⟨.tuple #[.agg #[.int .i64 0,.int .i64 0,.slice none 0 0,.slice none 0 0],.int .i64 (3)],?_,HG.out _ _ HF4.out hbz⟩;simp[results,Tryz.results40,go_sem,z0,z1,z2,z3,z4]))))))))))))))))))))))));(focus ((go_simp;refine hK _ _ ?_;clear hK K;(refine wpAny_ready (rs:=[3,7]) (by kernel_rfl) (by simp) ?_;refine AllReady.cons rfl (fun K hK=>?_) (AllReady.cons rfl (fun K hK=>?_) AllReady.nil);(focus ((go_simp;refine(HNUM.out _ (by first|exact hrd7|exact hrd7.drewN _)).mono ?_;rintro e1 w8 ⟨rfl,hR8,hF8x⟩;have hF8:Fr w7 w8 (fun k=>k=b):=⟨hF8x.os,hF8x.tape,hF8x.output,hF8x.size,hF8x.block⟩;clear hF8x;have c4:=HS6 _ hF8;have hX8:=H7.out.px.read hrd7 HNB.out hF8;have H8:=Lib.hid (H7.out.of hX8.1 hX8.2);clear hX8 hF8 hR8;dsimp only;refine hK _ _ ?_;clear hK K;(refine wpAny_ready (rs:=[7]) (by kernel_rfl) (by simp) ?_;refine AllReady.cons rfl (fun K hK=>?_) AllReady.nil;(focus ((go_simp;refine hK _ _ ?_;clear hK K;(refine wpAny_ready (rs:=[8]) (by kernel_rfl) (by simp) ?_;refine AllReady.cons rfl (fun K hK=>?_) AllReady.nil;(focus ((go_simp;refine hK _ _ ?_;clear hK K;(refine wpAny_ready (rs:=[9]) (by kernel_rfl) (by simp) ?_;refine AllReady.cons rfl (fun K hK=>?_) AllReady.nil;(focus ((go_simp;refine hK _ _ ?_;clear hK K;(refine wpAny_ready (rs:=[10]) (by kernel_rfl) (by simp) ?_;refine AllReady.cons rfl (fun K hK=>?_) AllReady.nil;(focus ((go_simp;refine(pmay_no _).mono ?_;rintro e1 w9 ⟨rfl,rfl⟩;dsimp only;(refine leaves_cons (f:=94) (args:=#[.pointer (some ⟨w.heap.size,0,none⟩),.pointer (some ⟨w.heap.size+1,0,none⟩)]) (by simp) (by simp[go_sem]) ?_;refine(gcatch _ _ _ _ _ _ _ _ (H8.out.pq).hp (H8.out.pq).hq (3)).mono ?_;rintro e1 u' w'' ⟨rfl,rfl,rfl⟩;obtain⟨z0,z1,z2,z3,z4,hbz⟩:=(H8.out.pq).gave (3);refine⟨.tuple #[.agg #[.int .i64 0,.int .i64 0,.slice none 0 0,.slice none 0 0],.int .i64 (3)],?_,HG.out _ _ HF4.out hbz⟩;simp[results,Tryz.results40,go_sem,z0,z1,z2,z3,z4]))))))))))))))))))));(focus ((go_simp;refine hK _ _ ?_;clear hK K;(refine wpAny_ready (rs:=[3]) (by kernel_rfl) (by simp) ?_;refine AllReady.cons rfl (fun K hK=>?_) AllReady.nil;(focus ((go_simp;refine(HNUM.out _ (by first|exact hrd7|exact hrd7.drewN _)).mono ?_;rintro e1 w8 ⟨rfl,hR8,hF8x⟩;have hF8:Fr w7 w8 (fun k=>k=b):=⟨hF8x.os,hF8x.tape,hF8x.output,hF8x.size,hF8x.block⟩;clear hF8x;have c4:=HS6 _ hF8;have hX8:=H7.out.px.read hrd7 HNB.out hF8;have H8:=Lib.hid (H7.out.of hX8.1 hX8.2);clear hX8 hF8 hR8;dsimp only;refine hK _ _ ?_;clear hK K;(refine wpAny_ready (rs:=[8]) (by kernel_rfl) (by simp) ?_;refine AllReady.cons rfl (fun K hK=>?_) AllReady.nil;(focus ((go_simp;refine hK _ _ ?_;clear hK K;(refine wpAny_ready (rs:=[9]) (by kernel_rfl) (by simp) ?_;refine AllReady.cons rfl (fun K hK=>?_) AllReady.nil;(focus ((go_simp;refine hK _ _ ?_;clear hK K;(refine wpAny_ready (rs:=[10]) (by kernel_rfl) (by simp) ?_;refine AllReady.cons rfl (fun K hK=>?_) AllReady.nil;(focus ((go_simp;refine(pmay_no _).mono ?_;rintro e1 w9 ⟨rfl,rfl⟩;dsimp only;(refine leaves_cons (f:=94) (args:=#[.pointer (some ⟨w.heap.size,0,none⟩),.pointer (some ⟨w.heap.size+1,0,none⟩)]) (by simp) (by simp[go_sem]) ?_;refine(gcatch _ _ _ _ _ _ _ _ (H8.out.pq).hp (H8.out.pq).hq (3)).mono ?_;rintro e1 u' w'' ⟨rfl,rfl,rfl⟩;obtain⟨z0,z1,z2,z3,z4,hbz⟩:=(H8.out.pq).gave (3);refine⟨.tuple #[.agg #[.int .i64 0,.int .i64 0,.slice none 0 0,.slice none 0 0],.int .i64 (3)],?_,HG.out _ _ HF4.out hbz⟩;simp[results,Tryz.results40,go_sem,z0,z1,z2,z3,z4]))))))))))))))))))))))))))));(focus ((go_simp;refine hK _ _ ?_;clear hK K;(refine wpAny_ready (rs:=[2,7]) (by kernel_rfl) (by simp) ?_;refine AllReady.cons rfl (fun K hK=>?_) (AllReady.cons rfl (fun K hK=>?_) AllReady.nil);(focus ((go_simp;refine hK _ _ ?_;clear hK K;(refine wpAny_ready (rs:=[3,7]) (by kernel_rfl) (by simp) ?_;refine AllReady.cons rfl (fun K hK=>?_) (AllReady.cons rfl (fun K hK=>?_) AllReady.nil);(focus ((go_simp;refine(HNUM.out _ (by first|exact hrd7|exact hrd7.drewN _)).mono ?_;rintro e1 w8 ⟨rfl,hR8,hF8x⟩;have hF8:Fr w7 w8 (fun k=>k=b):=⟨hF8x.os,hF8x.tape,hF8x.output,hF8x.size,hF8x.block⟩;clear hF8x;have c4:=HS6 _ hF8;have hX8:=H7.out.px.read hrd7 HNB.out hF8;have H8:=Lib.hid (H7.out.of hX8.1 hX8.2);clear hX8 hF8 hR8;dsimp only;refine hK _ _ ?_;clear hK K;(refine wpAny_ready (rs:=[7]) (by kernel_rfl) (by simp) ?_;refine AllReady.cons rfl (fun K hK=>?_) AllReady.nil;(focus ((go_simp;refine hK _ _ ?_;clear hK K;(refine wpAny_ready (rs:=[8]) (by kernel_rfl) (by simp) ?_;refine AllReady.cons rfl (fun K hK=>?_) AllReady.nil;(focus ((go_simp;refine hK _ _ ?_;clear hK K;(refine wpAny_ready (rs:=[9]) (by kernel_rfl) (by simp) ?_;refine AllReady.cons rfl (fun K hK=>?_) AllReady.nil;(focus ((go_simp;refine hK _ _ ?_;clear hK K;(refine wpAny_ready (rs:=[10]) (by kernel_rfl) (by simp) ?_;refine AllReady.cons rfl (fun K hK=>?_) AllReady.nil;(focus ((go_simp;refine(pmay_no _).mono ?_;rintro e1 w9 ⟨rfl,rfl⟩;dsimp only;(refine leaves_cons (f:=94) (args:=#[.pointer (some ⟨w.heap.size,0,none⟩),.pointer (some ⟨w.heap.size+1,0,none⟩)]) (by simp) (by simp[go_sem]) ?_;refine(gcatch _ _ _ _ _ _ _ _ (H8.out.pq).hp (H8.out.pq).hq (3)).mono ?_;rintro e1 u' w'' ⟨rfl,rfl,rfl⟩;obtain⟨z0,z1,z2,z3,z4,hbz⟩:=(H8.out.pq).gave (3);refine⟨.tuple #[.agg #[.int .i64 0,.int .i64 0,.slice none 0 0,.slice none 0 0],.int .i64 (3)],?_,HG.out _ _ HF4.out hbz⟩;simp[results,Tryz.results40,go_sem,z0,z1,z2,z3,z4]))))))))))))))))))));(focus ((go_simp;refine hK _ _ ?_;clear hK K;(refine wpAny_ready (rs:=[3]) (by kernel_rfl) (by simp) ?_;refine AllReady.cons rfl (fun K hK=>?_) AllReady.nil;(focus ((go_simp;refine(HNUM.out _ (by first|exact hrd7|exact hrd7.drewN _)).mono ?_;rintro e1 w8 ⟨rfl,hR8,hF8x⟩;have hF8:Fr w7 w8 (fun k=>k=b):=⟨hF8x.os,hF8x.tape,hF8x.output,hF8x.size,hF8x.block⟩;clear hF8x;have c4:=HS6 _ hF8;have hX8:=H7.out.px.read hrd7 HNB.out hF8;have H8:=Lib.hid (H7.out.of hX8.1 hX8.2);clear hX8 hF8 hR8;dsimp only;refine hK _ _ ?_;clear hK K;(refine wpAny_ready (rs:=[8]) (by kernel_rfl) (by simp) ?_;refine AllReady.cons rfl (fun K hK=>?_) AllReady.nil;(focus ((go_simp;refine hK _ _ ?_;clear hK K;(refine wpAny_ready (rs:=[9]) (by kernel_rfl) (by simp) ?_;refine AllReady.cons rfl (fun K hK=>?_) AllReady.nil;(focus ((go_simp;refine hK _ _ ?_;clear hK K;(refine wpAny_ready (rs:=[10]) (by kernel_rfl) (by simp) ?_;refine AllReady.cons rfl (fun K hK=>?_) AllReady.nil;(focus ((go_simp;refine(pmay_no _).mono ?_;rintro e1 w9 ⟨rfl,rfl⟩;dsimp only;(refine leaves_cons (f:=94) (args:=#[.pointer (some ⟨w.heap.size,0,none⟩),.pointer (some ⟨w.heap.size+1,0,none⟩)]) (by simp) (by simp[go_sem]) ?_;refine(gcatch _ _ _ _ _ _ _ _ (H8.out.pq).hp (H8.out.pq).hq (3)).mono ?_;rintro e1 u' w'' ⟨rfl,rfl,rfl⟩;obtain⟨z0,z1,z2,z3,z4,hbz⟩:=(H8.out.pq).gave (3);refine⟨.tuple #[.agg #[.int .i64 0,.int .i64 0,.slice none 0 0,.slice none 0 0],.int .i64 (3)],?_,HG.out _ _ HF4.out hbz⟩;simp[results,Tryz.results40,go_sem,z0,z1,z2,z3,z4]))))))))))))))))))))))));(focus ((go_simp;refine hK _ _ ?_;clear hK K;(refine wpAny_ready (rs:=[2]) (by kernel_rfl) (by simp) ?_;refine AllReady.cons rfl (fun K hK=>?_) AllReady.nil;(focus ((go_simp;refine hK _ _ ?_;clear hK K;(refine wpAny_ready (rs:=[3]) (by kernel_rfl) (by simp) ?_;refine AllReady.cons rfl (fun K hK=>?_) AllReady.nil;(focus ((go_simp;refine(HNUM.out _ (by first|exact hrd7|exact hrd7.drewN _)).mono ?_;rintro e1 w8 ⟨rfl,hR8,hF8x⟩;have hF8:Fr w7 w8 (fun k=>k=b):=⟨hF8x.os,hF8x.tape,hF8x.output,hF8x.size,hF8x.block⟩;clear hF8x;have c4:=HS6 _ hF8;have hX8:=H7.out.px.read hrd7 HNB.out hF8;have H8:=Lib.hid (H7.out.of hX8.1 hX8.2);clear hX8 hF8 hR8;dsimp only;refine hK _ _ ?_;clear hK K;(refine wpAny_ready (rs:=[8]) (by kernel_rfl) (by simp) ?_;refine AllReady.cons rfl (fun K hK=>?_) AllReady.nil;(focus ((go_simp;refine hK _ _ ?_;clear hK K;(refine wpAny_ready (rs:=[9]) (by kernel_rfl) (by simp) ?_;refine AllReady.cons rfl (fun K hK=>?_) AllReady.nil;(focus ((go_simp;refine hK _ _ ?_;clear hK K;(refine wpAny_ready (rs:=[10]) (by kernel_rfl) (by simp) ?_;refine AllReady.cons rfl (fun K hK=>?_) AllReady.nil;(focus ((go_simp;refine(pmay_no _).mono ?_;rintro e1 w9 ⟨rfl,rfl⟩;dsimp only;(refine leaves_cons (f:=94) (args:=#[.pointer (some ⟨w.heap.size,0,none⟩),.pointer (some ⟨w.heap.size+1,0,none⟩)]) (by simp) (by simp[go_sem]) ?_;refine(gcatch _ _ _ _ _ _ _ _ (H8.out.pq).hp (H8.out.pq).hq (3)).mono ?_;rintro e1 u' w'' ⟨rfl,rfl,rfl⟩;obtain⟨z0,z1,z2,z3,z4,hbz⟩:=(H8.out.pq).gave (3);refine⟨.tuple #[.agg #[.int .i64 0,.int .i64 0,.slice none 0 0,.slice none 0 0],.int .i64 (3)],?_,HG.out _ _ HF4.out hbz⟩;simp[results,Tryz.results40,go_sem,z0,z1,z2,z3,z4])))))))))))))))))))))))))))))))))))))))))))))
   ·have HE:Hid (decG xs=(Im.nil,if e=12 then 2 else 13)):=Lib.hid (by
     rw[HD.out]
     by_cases h12:e=12
     ·subst h12;rw[if_pos rfl];exact pgGo_end HOV.out HN.out
     ·rw[if_neg h12];exact pgGo_torn HOV.out HN.out h12 hE)
    have e1:(e==0)=false:=by simpa using hE
    by_cases h12:e=12
    ·subst h12
     clear hE HD
     repeat' ((fail_if_success at_builtin);first|go_values|go_skip|go_guarded|go_step|go_upon|go_back)
     (refine(nextC_any _ a c xs hxr i (by have:=HL.out;omega) (by have:=HL.out;have:=HIK.out.1;omega)).mono ?_;rintro e1 w5 ⟨v,rfl,-,hb5⟩;dsimp only)
     rw[HN.out]
     dsimp only
     have H5:=Lib.hid (HR.out.pure hb5)
     clear hb5 c7 hxr
     repeat' ((fail_if_success at_builtin);first|go_values|go_skip|go_guarded|go_step|go_upon|go_back)
     (refine leaves_cons (f:=94) (args:=#[.pointer (some ⟨w.heap.size,0,none⟩),.pointer (some ⟨w.heap.size+1,0,none⟩)]) (by simp) (by simp[go_sem]) ?_;refine(gcatch _ _ _ _ _ _ _ _ (H5.out.pq).hp (H5.out.pq).hq (2)).mono ?_;rintro e1 u' w'' ⟨rfl,rfl,rfl⟩;obtain⟨z0,z1,z2,z3,z4,hbz⟩:=(H5.out.pq).gave (2);refine⟨.tuple #[.agg #[.int .i64 0,.int .i64 0,.slice none 0 0,.slice none 0 0],.int .i64 (2)],?_,HG.out _ _ HE.out hbz⟩;simp[results,Tryz.results40,go_sem,z0,z1,z2,z3,z4])
    ·have e2:(e==12)=false:=by simpa using h12
     have HE2:Hid (decG xs=(Im.nil,13)):=Lib.hid (by rw[HE.out,if_neg h12])
     clear hE HD h12 HE
     repeat' ((fail_if_success at_builtin);first|go_values|go_skip|go_guarded|go_step|go_upon|go_back)
     (refine(nextC_any _ a c xs hxr i (by have:=HL.out;omega) (by have:=HL.out;have:=HIK.out.1;omega)).mono ?_;rintro e1 w5 ⟨v,rfl,-,hb5⟩;dsimp only)
     rw[HN.out]
     dsimp only
     have H5:=Lib.hid (HR.out.pure hb5)
     clear hb5 c7 hxr
     repeat' ((fail_if_success at_builtin);first|go_values|go_skip|go_guarded|go_step|go_upon|go_back)
     (refine leaves_cons (f:=94) (args:=#[.pointer (some ⟨w.heap.size,0,none⟩),.pointer (some ⟨w.heap.size+1,0,none⟩)]) (by simp) (by simp[go_sem]) ?_;refine(gcatch _ _ _ _ _ _ _ _ (H5.out.pq).hp (H5.out.pq).hq (13)).mono ?_;rintro e1 u' w'' ⟨rfl,rfl,rfl⟩;obtain⟨z0,z1,z2,z3,z4,hbz⟩:=(H5.out.pq).gave (13);refine⟨.tuple #[.agg #[.int .i64 0,.int .i64 0,.slice none 0 0,.slice none 0 0],.int .i64 (13)],?_,HG.out _ _ HE2.out hbz⟩;simp[results,Tryz.results40,go_sem,z0,z1,z2,z3,z4])
end Go.Proofs.YtbppnihcbcdglaaGreat
