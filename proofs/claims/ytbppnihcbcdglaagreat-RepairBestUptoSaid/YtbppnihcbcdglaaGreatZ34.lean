/- batch: a batch is read. No condition. -/
import Derived.Deep.RegionLaw
import Derived.Test.YtbppnihcbcdglaaGreatZ22
namespace Go.Proofs.YtbppnihcbcdglaaGreat
open Go.RowKit
set_option linter.unusedVariables false
set_option linter.unusedSimpArgs false
theorem decP_len(xs:Bs):(decP xs).1.name.length<=xs.length:=by
 obtain⟨s,r1,h1⟩:∃ s r1,RS.text ⟨xs,0,0⟩ 32=(s,r1):=⟨_,_,rfl⟩
 have hs:s.length<=xs.length:=by have:=RS.text_len ⟨xs,0,0⟩ 32;rw[h1] at this;exact this
 obtain⟨n1,r2,h2⟩:∃ n1 r2,r1.number=(n1,r2):=⟨_,_,rfl⟩
 obtain⟨n2,r3,h3⟩:∃ n2 r3,r2.number=(n2,r3):=⟨_,_,rfl⟩
 rw[decP_eq h1 h2 h3]
 split
 ·exact Nat.zero_le _
 ·split
  ·exact Nat.zero_le _
  ·split
   ·exact Nat.zero_le _
   ·split
    ·exact Nat.zero_le _
    ·split
     ·exact Nat.zero_le _
     ·exact hs
theorem decVs_len(all:Nat):∀ (n:Nat) (l:List V) (r:RS),(decVs all n l r).1.length<=l.length+n
 | 0,l,r=>by simp[decVs]
 | n+1,l,r=>by
  simp only[decVs]
  split
  ·simp
  ·split
   ·simp
   ·refine Nat.le_trans (decVs_len all n _ _) ?_
    simp;omega
theorem decT_fits{all:Nat}{r r2:RS}{t:T}(h:decT all r=(t,r2,0))(hd:r.d.length<=17592186044416):FitsLen t:=by
 obtain⟨k,r1,he⟩:∃ k r1,r.byte=(k,r1):=⟨_,_,rfl⟩
 have hd1:r1.d=r.d:=by have:=r.byte_keeps;rw[he] at this;exact this
 have hnil:FitsLen T.nil:=⟨Nat.zero_le _,Nat.zero_le _,Nat.zero_le _⟩
 have ht:t=(decT all r).1:=by rw[h]
 rw[ht]
 unfold decT
 rw[he]
 dsimp only
 split
 ·exact hnil
 ·split
  ·split
   ·exact hnil
   ·split
    ·exact hnil
    ·refine⟨?_,Nat.zero_le _,Nat.zero_le _⟩
     have h1:=decP_len (r1.text (all:Int)).1
     have h2:=r1.text_len (all:Int)
     rw[hd1] at h2
     dsimp only
     omega
  ·split
   ·split
    ·exact hnil
    ·refine⟨Nat.zero_le _,?_,Nat.zero_le _⟩
     have h2:=r1.text_len 32
     rw[hd1] at h2
     dsimp only
     omega
   ·split
    ·split
     ·exact hnil
     ·split
      ·exact hnil
      ·split
       ·exact hnil
       ·rename_i hn _
        refine⟨Nat.zero_le _,?_,?_⟩
        ·have h2:=r1.text_len 32
         rw[hd1] at h2
         dsimp only
         omega
        ·have h3:=decVs_len all (r1.text 32).2.number.1 [] (r1.text 32).2.number.2
         dsimp only
         simp only[List.length_nil] at h3
         omega
    ·exact hnil
theorem decB_eq{xs:Bs}{r1 r2:RS}{f n:Nat}(h0:¬ 65536<xs.length)(h1:RS.number ⟨xs,0,0⟩=(f,r1))(h2:r1.number=(n,r2)) :
  decB xs=if r2.e≠0 then (Bt.nil,r2.e) else if 64<n then (Bt.nil,1) else
   if (decTs xs.length n [] r2).2.2≠0 then (Bt.nil,(decTs xs.length n [] r2).2.2) else
   if (decTs xs.length n [] r2).2.1.end_≠0 then (Bt.nil,(decTs xs.length n [] r2).2.1.end_) else
   if chkB ⟨(f:Int),(decTs xs.length n [] r2).1⟩≠0 then (Bt.nil,chkB ⟨(f:Int),(decTs xs.length n [] r2).1⟩) else (⟨(f:Int),(decTs xs.length n [] r2).1⟩,0):=by
 unfold decB;rw[if_neg h0];simp only[h1,h2]
theorem decTs_ok{all n:Nat}{l:List T}{r r2:RS}{x:T}(h:decT all r=(x,r2,0)):decTs all (n+1) l r=decTs all n (l++[x]) r2:=by simp[decTs,h]
theorem decTs_no{all n:Nat}{l:List T}{r r2:RS}{x:T}{e:Int}(h:decT all r=(x,r2,e))(he:e≠0):decTs all (n+1) l r=(l,r2,e):=by simp[decTs,h,he]
theorem txn_ok(w:World)(b:Nat)(r:RS)(all:Nat)(hR:Rd w b r)(ha:all<=17592186044416)(t:T)(r2:RS)(hd:decT all r=(t,r2,0)) :
  Calls Tryz.prog 125 #[.pointer (some ⟨b,0,none⟩),.int .i64 (all:Int)] w fun e' w'=>∃ m:TM,e' = .returned (.agg m.cells)/\m.t=t/\m.lies w'/\Rd w' b r2/\Fr w w' (fun k=>k=b):=by
 refine txn_any w b r all hR ha _ (fun e w' h1 h2 _=>?_) (fun m r2' w' h1 h2 h3 h4=>?_)
 ·rw[hd] at h1;exact absurd h1.symm h2
 ·rw[hd] at h1
  simp only[Prod.mk.injEq] at h1
  obtain⟨h5,h6,-⟩:=h1
  subst h6
  exact⟨m,rfl,h5.symm,h3,h2,h4⟩
theorem txn_no(w:World)(b:Nat)(r:RS)(all:Nat)(hR:Rd w b r)(ha:all<=17592186044416)(t:T)(r2:RS)(e:Int)(hd:decT all r=(t,r2,e))(he:e≠0) :
  Calls Tryz.prog 125 #[.pointer (some ⟨b,0,none⟩),.int .i64 (all:Int)] w fun e' w'=>e' = .panicked [{ v:=brefV e,recovered:=false }]/\Fr w w' (fun k=>k=b):=by
 refine txn_any w b r all hR ha _ (fun e' w' h1 h2 h3=>?_) (fun m r2' w' h1 h2 h3 h4=>?_)
 ·rw[hd] at h1;dsimp only at h1;subst h1;exact⟨rfl,h3⟩
 ·rw[hd] at h1;simp only[Prod.mk.injEq] at h1;exact absurd h1.2.2 he
set_option maxRecDepth 20000 in
set_option maxHeartbeats 4000000 in
theorem decB_any(w:World)(a:Option Addr)(c:Nat)(xs:Bs)(hx:BS w a c xs)(hl:xs.length<=17592186044416)(Q:Ending->World->Prop)
  (hQ:∀ ta tc w',Txns w' ta (decB xs).1.txns->(decB xs).1.txns.length<=tc->(ta=none->tc=0)->Below w.heap.size w w'->Q (.returned (.tuple #[.agg #[.int .i64 (decB xs).1.first,.slice ta (decB xs).1.txns.length tc],.int .i64 (decB xs).2])) w') :
  Calls Tryz.prog 58 #[.slice a xs.length c] w Q:=by
 have hmf:∀ (fn:Fn) (first cap:Array Value) (w:World),(Instr.makeFunc fn first cap).run Tryz.prog w = .ok (.func fn first cap) w:=fun _ _ _ _=>rfl
 have HG:=Lib.hid (show ∀ e w',decB xs=(Bt.nil,e)->Below w.heap.size w w'->Q (.returned (.tuple #[.agg #[.int .i64 0,.slice none 0 0],.int .i64 e])) w' from fun e w' he hb=>by
  have:=hQ none 0 w' (by rw[he];exact⟨[],rfl,.inl rfl,fun m hm=>by cases hm⟩) (by rw[he];exact Nat.le_refl _) (fun _=>rfl) hb
  rw[he] at this
  exact this)
 have HQ:=Lib.hid hQ
 have HL:=Lib.hid hl
 clear hQ hl
 have hb0:Below w.heap.size w ((w.alloc (.cells #[.int .i64 0,.slice none 0 0] 81)).alloc (.cells #[.int .i64 0] 28)):=by(repeat' (first|(with_reducible exact Below.refl _ _)|(with_reducible assumption)|(with_reducible refine Below.drew ?_)|(with_reducible refine bdrewN ?_ _)|(with_reducible refine Below.alloc ?_ ?_ _)|(with_reducible refine Below.setCell ?_ ?_ _)|omega|(simp;done)|(simp;omega)))
 have p0:((w.alloc (.cells #[.int .i64 0,.slice none 0 0] 81)).alloc (.cells #[.int .i64 0] 28)).heap[w.heap.size]? = some (.cells #[.int .i64 0,.slice none 0 0] 81 (0,0)):=blk_alloc (blk_new _ _) _
 have e0:((w.alloc (.cells #[.int .i64 0,.slice none 0 0] 81)).alloc (.cells #[.int .i64 0] 28)).heap[w.heap.size+1]? = some (.cells #[.int .i64 0] 28 (0,0)):=blk_new1 _ _ _
 have hx2:=hx.below (hb0.mono (Nat.le_refl _))
 clear hx
 by_cases hlong:65536<xs.length
 ·have g1:decide ((65536:Int)<(xs.length:Int))=true:=decide_eq_true (by omega)
  have HLO:=Lib.hid hlong
  clear hlong hx2
  go_enter_defers Tryz.func58,Tryz.ntmps58
  repeat' ((fail_if_success (with_reducible (show Code.wp _ (Code.region 1 _ _) _ _ _)));(fail_if_success at_builtin);first|go_values|go_skip|go_guarded|go_step|go_upon|go_back)
  generalize ((w.alloc (.cells #[.int .i64 0,.slice none 0 0] 81)).alloc (.cells #[.int .i64 0] 28))=w1 at hb0 p0 e0 ⊢
  have G1:BG w w1 0 (.slice none 0 0):=⟨p0,⟨0,e0⟩,hb0⟩
  obtain⟨p0',p1',f0,f1⟩:=blk2 p0
  obtain⟨x0,x1⟩:=blk1 e0
  repeat' ((fail_if_success at_builtin);first|go_values|go_skip|go_guarded|go_step|go_upon|go_back)
  obtain⟨z0,z1,z2,hbz⟩:=G1.gave 4
  unfold gaveB at z0 z1 z2 hbz
  clear p0' p1' f0 f1 x0 x1
  refine⟨.tuple #[.agg #[.int .i64 0,.slice none 0 0],.int .i64 4],?_,HG.out _ _ (by unfold decB;rw[if_pos HLO.out]) hbz⟩
  simp[results,Tryz.results58,go_sem,z0,z1,z2]
 ·have g1:decide ((65536:Int)<(xs.length:Int))=false:=decide_eq_false (by omega)
  obtain⟨fn,r1,h1⟩:∃ fn r1,RS.number ⟨xs,0,0⟩=(fn,r1):=⟨_,_,rfl⟩
  obtain⟨n,r2,h2⟩:∃ n r2,r1.number=(n,r2):=⟨_,_,rfl⟩
  have HDEC:=Lib.hid (decB_eq hlong h1 h2)
  have HN1:=Lib.hid h1
  have HN2:=Lib.hid h2
  have HXL:=Lib.hid (show xs.length<=65536 by omega)
  clear h1 h2 hlong
  go_enter_defers Tryz.func58,Tryz.ntmps58
  repeat' ((fail_if_success (with_reducible (show Code.wp _ (Code.region 1 _ _) _ _ _)));(fail_if_success at_builtin);first|go_values|go_skip|go_guarded|go_step|go_upon|go_back)
  generalize ((w.alloc (.cells #[.int .i64 0,.slice none 0 0] 81)).alloc (.cells #[.int .i64 0] 28))=w1 at hb0 p0 e0 hx2 ⊢
  repeat' ((fail_if_success at_builtin);first|go_values|go_skip|go_guarded|go_step|go_upon|go_back)
  (refine(clone_any _ a c xs hx2 (by have:=HXL.out;omega)).mono ?_;rintro e1 w2 ⟨v,rfl,ho,hb2⟩;dsimp only)
  obtain⟨a2,c2,rfl,hbs,-⟩:=ho.shape
  repeat' ((fail_if_success at_builtin);first|go_values|go_skip|go_guarded|go_step|go_upon|go_back)
  (refine(read_any _ a2 c2 xs hbs HL.out).mono ?_;rintro e1 w3 ⟨b,rfl,hbl,hR,hb3⟩;dsimp only)
  have hb13:=hb2.trans (hb3.mono hb2.size)
  have D3:BD w w3 b 0 (.slice none 0 0) [] ⟨xs,0,0⟩:=⟨blk_below hb13 p0 (blk_lt p0),⟨0,blk_below hb13 e0 (blk_lt e0)⟩,hR,World.ownsRow_nil _ _ _ _,fun m hm=>(by cases hm),hb0.trans (hb13.mono hb0.size),Nat.le_trans (Nat.le_trans hb0.size hb2.size) hbl⟩
  clear hb13 hb2 hb3 hbs ho hbl p0 e0 hb0 hR hx2
  repeat' ((fail_if_success at_builtin);first|go_values|go_skip|go_guarded|go_step|go_upon|go_back)
  (refine(number_any _ b _ D3.hr).mono ?_;rintro e1 w4 ⟨rfl,hR4,hF4⟩;dsimp only)
  rw[HN1.out] at hR4 ⊢
  dsimp only at hR4 ⊢
  have D4:=D3.read hF4 hR4
  clear D3 hR4 hF4
  obtain⟨p0,p1,f0,f1⟩:=blk2 D4.hp
  repeat' ((fail_if_success (with_reducible (show Code.wp _ (Code.region 6 _ _) _ _ _)));(fail_if_success at_builtin);first|go_values|go_skip|go_guarded|go_step|go_upon|go_back)
  clear p0 p1 f0 f1
  have D5:=D4.first (fn:Int)
  clear D4
  generalize w4.setCell ⟨w.heap.size,0,none⟩ (.int .i64 (fn:Int))=w5 at D5 ⊢
  repeat' ((fail_if_success at_builtin);first|go_values|go_skip|go_guarded|go_step|go_upon|go_back)
  (refine(number_any _ b _ D5.hr).mono ?_;rintro e1 w6 ⟨rfl,hR6,hF6⟩;dsimp only)
  rw[HN2.out] at hR6 ⊢
  dsimp only at hR6 ⊢
  have D6:=D5.read hF6 hR6
  clear D5 hR6 hF6
  by_cases hE:r2.e=0
  ·have HE:=Lib.hid hE
   clear hE
   repeat' ((fail_if_success at_builtin);first|go_values|go_skip|go_guarded|go_step|go_upon|go_back)
   (refine(bsure_ok _ b _ D6.hr HE.out).mono ?_;rintro e1 w7 ⟨rfl,hb7⟩;dsimp only)
   have D7:=D6.pure hb7
   clear D6 hb7
   by_cases hN:64<n
   ·have g2:decide ((n:Int)<=64)=false:=decide_eq_false (by omega)
    have HN:=Lib.hid hN
    clear hN
    repeat' ((fail_if_success at_builtin);first|go_values|go_skip|go_guarded|go_step|go_upon|go_back)
    (refine(unless_no _ _).mono ?_;rintro e1 w8 ⟨rfl,rfl⟩;dsimp only)
    (obtain⟨eq0,heq0⟩:=(D7.bg).he;refine leaves_cons (f:=122) (args:=#[.pointer (some ⟨w.heap.size,0,none⟩),.pointer (some ⟨w.heap.size+1,0,none⟩)]) (by simp) (by simp[go_sem]) ?_;refine(bcatch _ _ _ _ _ _ (D7.bg).hp heq0 (1)).mono ?_;rintro e1 u' w'' ⟨rfl,rfl,rfl⟩;obtain⟨z0,z1,z2,hbz⟩:=((D7.bg).pure ((Below.refl _ _).alloc (Nat.le_refl _) (.cells #[.int .i64 (1)] 212))).gave (1);refine⟨.tuple #[.agg #[.int .i64 0,.slice none 0 0],.int .i64 (1)],?_,HG.out _ _ (by rw[HDEC.out,if_neg (by simp[HE.out]),if_pos HN.out]) hbz.drew⟩;simp[results,Tryz.results58,go_sem,z0,z1,z2])
   ·have g2:decide ((n:Int)<=64)=true:=decide_eq_true (by omega)
    have hn64:(n:Int)<=64:=by omega
    have HDI:=Lib.hid (HDEC.out.trans ((if_neg (by simp[HE.out])).trans (if_neg hN)))
    clear hN HDEC
    repeat' ((fail_if_success at_builtin);first|go_values|go_skip|go_guarded|go_step|go_upon|go_back)
    (refine(unless_ok _ _).mono ?_;rintro e1 w8 ⟨rfl,rfl⟩;dsimp only)
    repeat' ((fail_if_success at_builtin);first|go_values|go_skip|go_guarded|go_step|go_upon|go_back)
    go_loopw [25] (fun i wr=>∃ (j:Nat) (ms:List TM) (rr:RS) (tv:Value),j<=n/\i = .int .i64 j/\ms.length=j/\decTs xs.length n [] r2=decTs xs.length (n-j) (ms.map TM.t) rr/\BD w wr b (fn:Int) tv ms rr/\(∀ m∈ms,FitsLen m.t)) (fun i _=>n-(intOf i).toNat)
    case atStart=>exact⟨0,[],_,_,Nat.zero_le _,rfl,rfl,rfl,D7,fun m hm=>(by cases hm)⟩
    case round =>
     obtain⟨j,ms,rr,tv,hj,rfl,hml,hdec,hD,hfit⟩:=hrel
     have HDEC:=Lib.hid hdec
     have HML:=Lib.hid hml
     have HRL:=Lib.hid hD.hr.le
     have HFIT:=Lib.hid hfit
     clear hdec hml hfit D7
     by_cases hlt:j<n
     ·have hlt':(j:Int)<(n:Int):=by omega
      obtain⟨t,rn,e,hd⟩:∃ t rn e,decT xs.length rr=(t,rn,e):=⟨_,_,_,rfl⟩
      obtain⟨i0,hi0,hz0,hz1,hz2⟩:=info_parts Tryz.info175
      by_cases hE:e=0
      ·subst hE
       have HD:=Lib.hid hd
       clear hd
       obtain⟨p0,p1,f0,f1⟩:=blk2 hD.hp
       repeat' ((fail_if_success at_builtin);first|go_values|go_skip|go_guarded|go_step|go_upon|go_back)
       have htt:True:=trivial
       refine wp_region_noPanic ?_
       go_region_law (first
         | (go_simp;(with_reducible refine(txn_ok _ b rr xs.length ?_ HL.out t rn HD.out).mono ?_);(first|exact hD.hr|exact hD.hr.drewN _);rintro e1 w11 ⟨m,rfl,hmt,hml,hR11,hF11x⟩;have HMT:=Lib.hid hmt;have hF11:Fr wr w11 (fun k=>k=b):=⟨hF11x.os,hF11x.tape,hF11x.output,hF11x.size,hF11x.block⟩;have D8:=hD.read hF11 hR11;clear hF11x hF11 hR11 hmt;have c1:w11.cell? ⟨w.heap.size,1,none⟩=some tv:=blk_cell D8.hp 1;have c1a:∀ o,(w11.alloc o).cell? ⟨w.heap.size,1,none⟩=some tv:=fun o=>blk_cell (blk_alloc D8.hp o) 1;dsimp only [TM.cells])
         | ((refine step_append_lies _ (by rfl) _ _ _ (by rfl) w.heap.size 175 i0 _ 6 96 Tryz.underlying79 hi0 hz0 hz1 hz2 rfl (by omega) tv ms.length (ms.flatMap TM.row) (by rfl) (own_below D8.own ((Below.refl _ _).alloc (Nat.le_refl _) _)) ⟨w11.heap.size,0,none⟩ 1 1 (TM.row m) (by rfl) (by rfl) (World.news_of_block (cs:=#[.int .i64 m.t.kind,.string ⟨m.t.p.name.toArray⟩,.int .i64 m.t.p.args,.slice m.ca m.t.p.code.length m.cc,.string ⟨m.t.name.toArray⟩,.slice m.aa m.t.args.length m.ac]) (t:=175) (fr:=(0,0)) (heap_alloc_new w11 _)) (by simp[Value.oneCell',TM.row]) (by omega) (by unfold maxLen;have:=HML.out;omega) (by have:=HML.out;omega) (by have:=D8.below.size;simp;omega) (w11.heap.size+1) (by simp) ?_;intro gg cap w12 hown12 hgrow hat hlt12;obtain⟨s0,s1,D13⟩:=D8.app _ hgrow m hml hown12)))
       all_goals (refine NoPanic.normal ?_)
       all_goals (clear p0 p1 f0 f1 s0 s1 hgrow hown12 hD c1 c1a D8)
       all_goals ((repeat' ((fail_if_success at_builtin);first|go_values|go_skip|go_guarded|go_step|go_upon|go_back)))
       all_goals (go_roundw;case rel=>exact⟨j+1,ms++[m],rn,_,by omega,by go_num,by rw[List.length_append,HML.out];rfl,by rw[HDEC.out,show n-j=(n-(j+1))+1 by omega,decTs_ok HD.out,List.map_append,<-HMT.out];rfl,D13,fun m' hm'=>by
        rcases List.mem_append.1 hm' with h|h
        ·exact HFIT.out m' h
        ·obtain rfl:m'=m:=by simpa using h
         rw[HMT.out]
         exact decT_fits HD.out HRL.out⟩)
       all_goals (simp[intOf];omega)
      ·have HE:=Lib.hid hE
       have HD:=Lib.hid hd
       clear hd hE
       obtain⟨p0,p1,f0,f1⟩:=blk2 hD.hp
       repeat' ((fail_if_success at_builtin);first|go_values|go_skip|go_guarded|go_step|go_upon|go_back)
       have HF:=Lib.hid (show decB xs=(Bt.nil,e) by
        rw[HDI.out,HDEC.out,show n-j=(n-(j+1))+1 by omega,decTs_no HD.out HE.out,if_pos HE.out])
       refine wp_region_heldQ 4 ?_
       refine wp_region_any (by kernel_rfl) ?_
       change wpAny _ _ _ _ _ _ _ (World.drew _)
       refine wpAny_take (i:=0) (v:=?_) rfl (by kernel_rfl) (by kernel_rfl) (by kernel_rfl) (HeldQ.put (by decide)) (Or.inl ⟨by rfl,fun w=>?_⟩) ?_;rotate_left;(focus (go_simp;try rfl))
       refine wpAny_take (i:=2) (v:=?_) rfl (by kernel_rfl) (by kernel_rfl) (by kernel_rfl) (HeldQ.put (by decide)) (Or.inl ⟨by rfl,fun w=>?_⟩) ?_;rotate_left;(focus (go_simp;try rfl))
       refine wpAny_take (i:=3) (v:=?_) rfl (by kernel_rfl) (by kernel_rfl) (by kernel_rfl) (HeldQ.put (by decide)) (Or.inl ⟨by rfl,fun w=>?_⟩) ?_;rotate_left;(focus (go_simp;try rfl))
       refine wpAny_take (i:=4) (v:=?_) rfl (by kernel_rfl) (by kernel_rfl) (by kernel_rfl) (HeldQ.put (by decide)) (Or.inl ⟨by rfl,fun w=>?_⟩) ?_;rotate_left;(focus (go_simp;try rfl))
       (refine wpAny_ready (rs:=[1,5]) (by kernel_rfl) (by simp) ?_;refine AllReady.cons rfl (fun K hK=>?_) (AllReady.cons rfl (fun K hK=>?_) AllReady.nil);(focus ((go_simp;refine hK _ _ ?_;clear hK K;(refine wpAny_ready (rs:=[5]) (by kernel_rfl) (by simp) ?_;refine AllReady.cons rfl (fun K hK=>?_) AllReady.nil;(focus ((go_simp;go_wp2_with ((with_reducible refine(txn_no _ b rr xs.length ?_ HL.out t rn e HD.out HE.out).mono ?_);(first|exact hD.hr|exact hD.hr.drewN _);rintro e1 w11 ⟨rfl,hF11x⟩;have hF11:Fr wr w11 (fun k=>k=b):=⟨hF11x.os,hF11x.tape,hF11x.output,hF11x.size,hF11x.block⟩;have G8:=hD.gone hF11;dsimp only [HeldQ];intro T hT;have t2:T[2]? = some (.pointer (some ⟨w.heap.size,0,none⟩)):=hT 2 (by decide);have t3:T[3]? = some (.pointer (some ⟨w.heap.size+1,0,none⟩)):=hT 3 (by decide);(obtain⟨eq0,heq0⟩:=(G8).he;refine leaves_cons (f:=122) (args:=#[.pointer (some ⟨w.heap.size,0,none⟩),.pointer (some ⟨w.heap.size+1,0,none⟩)]) (by simp) (by simp[go_sem]) ?_;refine(bcatch _ _ _ _ _ _ (G8).hp heq0 (e)).mono ?_;rintro e1 u' w'' ⟨rfl,rfl,rfl⟩;obtain⟨z0,z1,z2,hbz⟩:=((G8).pure ((Below.refl _ _).alloc (Nat.le_refl _) (.cells #[.int .i64 (e)] 212))).gave (e);refine⟨.tuple #[.agg #[.int .i64 0,.slice none 0 0],.int .i64 (e)],?_,HG.out _ _ HF.out hbz.drew⟩;simp[results,Tryz.results58,go_sem,z0,z1,z2,t2,t3])))))))));(focus ((go_simp;go_wp2_with ((with_reducible refine(txn_no _ b rr xs.length ?_ HL.out t rn e HD.out HE.out).mono ?_);(first|exact hD.hr|exact hD.hr.drewN _);rintro e1 w11 ⟨rfl,hF11x⟩;have hF11:Fr wr w11 (fun k=>k=b):=⟨hF11x.os,hF11x.tape,hF11x.output,hF11x.size,hF11x.block⟩;have G8:=hD.gone hF11;dsimp only [HeldQ];intro T hT;have t2:T[2]? = some (.pointer (some ⟨w.heap.size,0,none⟩)):=hT 2 (by decide);have t3:T[3]? = some (.pointer (some ⟨w.heap.size+1,0,none⟩)):=hT 3 (by decide);(obtain⟨eq0,heq0⟩:=(G8).he;refine leaves_cons (f:=122) (args:=#[.pointer (some ⟨w.heap.size,0,none⟩),.pointer (some ⟨w.heap.size+1,0,none⟩)]) (by simp) (by simp[go_sem]) ?_;refine(bcatch _ _ _ _ _ _ (G8).hp heq0 (e)).mono ?_;rintro e1 u' w'' ⟨rfl,rfl,rfl⟩;obtain⟨z0,z1,z2,hbz⟩:=((G8).pure ((Below.refl _ _).alloc (Nat.le_refl _) (.cells #[.int .i64 (e)] 212))).gave (e);refine⟨.tuple #[.agg #[.int .i64 0,.slice none 0 0],.int .i64 (e)],?_,HG.out _ _ HF.out hbz.drew⟩;simp[results,Tryz.results58,go_sem,z0,z1,z2,t2,t3]))))))
     ·obtain rfl:j=n:=by omega
      rw[Nat.sub_self,decTs] at HDEC
      have HDI2:=Lib.hid HDI.out
      rw[HDEC.out] at HDI2
      dsimp only at HDI2
      clear hlt hj HDEC
      repeat' ((fail_if_success at_builtin);first|go_values|go_skip|go_guarded|go_step|go_upon|go_back)
      (refine(end_any _ b _ hD.hr).mono ?_;rintro e1 w12 ⟨rfl,m,rfl⟩;dsimp only)
      have D12:=(hD.pure (bdrewN (Below.refl _ _) m))
      clear hD
      generalize wr.drewN m=w13 at D12 ⊢
      obtain⟨ee,hee⟩:=D12.he
      obtain⟨x0,x1⟩:=blk1 hee
      repeat' ((fail_if_success (with_reducible (show Code.wp _ (Code.region 14 _ _) _ _ _)));(fail_if_success at_builtin);first|go_values|go_skip|go_guarded|go_step|go_upon|go_back)
      have D14:=D12.err rr.end_
      have x2:(w13.setCell ⟨w.heap.size+1,0,none⟩ (.int .i64 rr.end_)).cell? ⟨w.heap.size+1,0,none⟩=some (.int .i64 rr.end_):=blk_cell (blk_set hee 0 _) 0
      clear x0 x1 hee D12
      generalize w13.setCell ⟨w.heap.size+1,0,none⟩ (.int .i64 rr.end_)=w14 at D14 x2 ⊢
      by_cases hE:rr.end_=0
      ·have HE2:=Lib.hid hE
       have hok:=HDI2.out
       rw[if_neg (by simp),if_neg (by simp[hE])] at hok
       have HOK:=Lib.hid hok
       have e0:(rr.end_==0)=true:=by simp[hE]
       clear hok hE HDI2
       repeat' ((fail_if_success at_builtin);first|go_values|go_skip|go_guarded|go_step|go_upon|go_back)
       (refine(unless_ok _ _).mono ?_;rintro e1 w15 ⟨rfl,rfl⟩;dsimp only)
       clear x2
       obtain⟨ta,tc,rfl,htc,htn,hrow,-⟩:=own_rowT D14.own
       have hT:Txns w14 ta (ms.map TM.t):=⟨ms,rfl,hrow,D14.lies⟩
       have hft:∀ t∈ms.map TM.t,FitsLen t:=fun t ht=>by
        obtain⟨m',hm',rfl⟩:=List.mem_map.1 ht
        exact HFIT.out m' hm'
       have hck:=chkB_any w14 (fn:Int) ta tc (ms.map TM.t) hT hft
       rw[List.length_map] at hck
       have HCK:=Lib.hid hck
       clear hck hT hft hrow htc htn
       obtain⟨p0,p1,f0,f1⟩:=blk2 D14.hp
       repeat' ((fail_if_success (with_reducible (show Code.wp _ (Code.region 16 _ _) _ _ _)));(fail_if_success at_builtin);first|go_values|go_skip|go_guarded|go_step|go_upon|go_back)
       (refine(HCK.out).mono ?_;rintro e1 w16 ⟨rfl,hb16⟩;dsimp only)
       have D16:=D14.pure hb16
       clear D14 p0 p1 f0 f1 hb16
       obtain⟨ee,hee⟩:=D16.he
       obtain⟨x0,x1⟩:=blk1 hee
       obtain⟨ev,hev⟩:∃ ev,chkB ⟨(fn:Int),ms.map TM.t⟩=ev:=⟨_,rfl⟩
       have hok:=HOK.out
       rw[hev] at hok ⊢
       clear hev HOK
       repeat' ((fail_if_success (with_reducible (show Code.wp _ (Code.region 16 _ _) _ _ _)));(fail_if_success at_builtin);first|go_values|go_skip|go_guarded|go_step|go_upon|go_back)
       have D17:=D16.err ev
       have x2:(w16.setCell ⟨w.heap.size+1,0,none⟩ (.int .i64 ev)).cell? ⟨w.heap.size+1,0,none⟩=some (.int .i64 ev):=blk_cell (blk_set hee 0 _) 0
       clear x0 x1 hee D16
       generalize w16.setCell ⟨w.heap.size+1,0,none⟩ (.int .i64 ev)=w17 at D17 x2 ⊢
       by_cases hE3:ev=0
       ·subst hE3
        rw[if_neg (by simp)] at hok
        have HOK:=Lib.hid hok
        clear hok
        repeat' ((fail_if_success (with_reducible (show Code.wp _ (Code.region 17 _ _) _ _ _)));(fail_if_success at_builtin);first|go_values|go_skip|go_guarded|go_step|go_upon|go_back)
        (refine(unless_ok _ _).mono ?_;rintro e1 w18 ⟨rfl,rfl⟩;dsimp only)
        clear x2
        obtain⟨p0,p1,f0,f1⟩:=blk2 D17.hp
        obtain⟨ee,hee⟩:=D17.he
        obtain⟨x0,x1⟩:=blk1 hee
        repeat' ((fail_if_success at_builtin);first|go_values|go_skip|go_guarded|go_step|go_upon|go_back)
        clear p0 p1 f0 f1 x0 x1
        refine leaves_cons (f:=122) (args:=#[.pointer (some ⟨w.heap.size,0,none⟩),.pointer (some ⟨w.heap.size+1,0,none⟩)]) (by simp) (by simp[go_sem]) ?_
        refine(bidle _ _ _).mono ?_
        rintro e1 u' w'' ⟨rfl,rfl,rfl⟩
        have D18:=(((D17.first (fn:Int)).tv).err 0).pure ((Below.refl _ _).alloc (Nat.le_refl _) (.cells #[.int .i64 0] 212))
        have zc:=((D17.first (fn:Int)).tv).errc 0
        have z2:=(World.cell?_of_block (Below.heap_alloc _ (.cells #[.int .i64 0] 212) _ (World.block_lt_of_cell? _ _ zc))).trans zc
        obtain⟨z0,z1,-,-⟩:=blk2 D18.hp
        obtain⟨ta',tc',hce,htc',htn',hrow',-⟩:=own_rowT D18.own
        cases hce
        refine⟨.tuple #[.agg #[.int .i64 (fn:Int),.slice ta ms.length tc],.int .i64 0],?_,?_⟩
        ·simp[results,Tryz.results58,go_sem,z0,z1,z2]
        ·have:=HQ.out ta tc _ (by rw[HOK.out];exact⟨ms,rfl,hrow',D18.lies⟩) (by rw[HOK.out];simpa using htc') htn' D18.below
         rw[HOK.out] at this
         dsimp only at this
         rw[List.length_map] at this
         exact this
       ·have e3:(ev==0)=false:=by simpa using hE3
        rw[if_pos hE3] at hok
        have HOK:=Lib.hid hok
        clear hok hE3
        repeat' ((fail_if_success at_builtin);first|go_values|go_skip|go_guarded|go_step|go_upon|go_back)
        (refine(unless_no _ _).mono ?_;rintro e1 w18 ⟨rfl,rfl⟩;dsimp only)
        (obtain⟨eq0,heq0⟩:=(D17.bg).he;refine leaves_cons (f:=122) (args:=#[.pointer (some ⟨w.heap.size,0,none⟩),.pointer (some ⟨w.heap.size+1,0,none⟩)]) (by simp) (by simp[go_sem]) ?_;refine(bcatch _ _ _ _ _ _ (D17.bg).hp heq0 (ev)).mono ?_;rintro e1 u' w'' ⟨rfl,rfl,rfl⟩;obtain⟨z0,z1,z2,hbz⟩:=((D17.bg).pure ((Below.refl _ _).alloc (Nat.le_refl _) (.cells #[.int .i64 (ev)] 212))).gave (ev);refine⟨.tuple #[.agg #[.int .i64 0,.slice none 0 0],.int .i64 (ev)],?_,HG.out _ _ HOK.out hbz.drew⟩;simp[results,Tryz.results58,go_sem,z0,z1,z2])
      ·have HE2:=Lib.hid hE
       have e0:(rr.end_==0)=false:=by simpa using hE
       have hok:=HDI2.out
       rw[if_neg (by simp),if_pos hE] at hok
       have HOK:=Lib.hid hok
       clear hok hE HDI2
       repeat' ((fail_if_success at_builtin);first|go_values|go_skip|go_guarded|go_step|go_upon|go_back)
       (refine(unless_no _ _).mono ?_;rintro e1 w15 ⟨rfl,rfl⟩;dsimp only)
       (obtain⟨eq0,heq0⟩:=(D14.bg).he;refine leaves_cons (f:=122) (args:=#[.pointer (some ⟨w.heap.size,0,none⟩),.pointer (some ⟨w.heap.size+1,0,none⟩)]) (by simp) (by simp[go_sem]) ?_;refine(bcatch _ _ _ _ _ _ (D14.bg).hp heq0 (rr.end_)).mono ?_;rintro e1 u' w'' ⟨rfl,rfl,rfl⟩;obtain⟨z0,z1,z2,hbz⟩:=((D14.bg).pure ((Below.refl _ _).alloc (Nat.le_refl _) (.cells #[.int .i64 (rr.end_)] 212))).gave (rr.end_);refine⟨.tuple #[.agg #[.int .i64 0,.slice none 0 0],.int .i64 (rr.end_)],?_,HG.out _ _ HOK.out hbz.drew⟩;simp[results,Tryz.results58,go_sem,z0,z1,z2])
  ·have HE:=Lib.hid hE
   clear hE
   repeat' ((fail_if_success at_builtin);first|go_values|go_skip|go_guarded|go_step|go_upon|go_back)
   (refine(bsure_no _ b _ D6.hr HE.out).mono ?_;rintro e1 w7 ⟨rfl,hb7⟩;dsimp only)
   have D7:=D6.pure hb7
   (obtain⟨eq0,heq0⟩:=(D7.bg).he;refine leaves_cons (f:=122) (args:=#[.pointer (some ⟨w.heap.size,0,none⟩),.pointer (some ⟨w.heap.size+1,0,none⟩)]) (by simp) (by simp[go_sem]) ?_;refine(bcatch _ _ _ _ _ _ (D7.bg).hp heq0 (r2.e)).mono ?_;rintro e1 u' w'' ⟨rfl,rfl,rfl⟩;obtain⟨z0,z1,z2,hbz⟩:=((D7.bg).pure ((Below.refl _ _).alloc (Nat.le_refl _) (.cells #[.int .i64 (r2.e)] 212))).gave (r2.e);refine⟨.tuple #[.agg #[.int .i64 0,.slice none 0 0],.int .i64 (r2.e)],?_,HG.out _ _ (by rw[HDEC.out,if_pos HE.out]) hbz.drew⟩;simp[results,Tryz.results58,go_sem,z0,z1,z2])
end Go.Proofs.YtbppnihcbcdglaaGreat
