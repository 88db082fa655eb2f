/- proc: a procedure is read. No condition. -/
import Derived.Deep.RegionLaw
import Derived.Test.YtbppnihcbcdglaaGreatZ17
namespace Go.Proofs.YtbppnihcbcdglaaGreat
open Go.RowKit
set_option linter.unusedVariables false
set_option linter.unusedSimpArgs false
theorem decP_eq{xs:Bs}{s:Bs}{r1 r2 r3:RS}{n1 n2:Nat}(h1:RS.text ⟨xs,0,0⟩ 32=(s,r1))(h2:r1.number=(n1,r2))(h3:r2.number=(n2,r3)) :
  decP xs=if r3.e≠0 then (P.nil,r3.e) else if 64<n2 then (P.nil,4) else
   if (decIs xs.length n2 [] r3).2.2≠0 then (P.nil,(decIs xs.length n2 [] r3).2.2) else
   if (decIs xs.length n2 [] r3).2.1.end_≠0 then (P.nil,(decIs xs.length n2 [] r3).2.1.end_) else
   if (chkP ⟨s,(n1:Int),(decIs xs.length n2 [] r3).1⟩).2≠0 then (P.nil,(chkP ⟨s,(n1:Int),(decIs xs.length n2 [] r3).1⟩).2) else (⟨s,(n1:Int),(decIs xs.length n2 [] r3).1⟩,0):=by
 simp only[decP,h1,h2,h3]
theorem decIs_ok{all n:Nat}{l:List I}{r r2:RS}{x:I}(h:decI all r=(x,r2,0)):decIs all (n+1) l r=decIs all n (l++[x]) r2:=by simp[decIs,h]
theorem decIs_no{all n:Nat}{l:List I}{r r2:RS}{x:I}{e:Int}(h:decI all r=(x,r2,e))(he:e≠0):decIs all (n+1) l r=(l,r2,e):=by simp[decIs,h,he]
set_option maxRecDepth 20000 in
set_option maxHeartbeats 4000000 in
theorem decP_any(w:World)(a:Option Addr)(c:Nat)(xs:Bs)(hx:BS w a c xs)(hl:xs.length<=17592186044416)(Q:Ending->World->Prop)
  (hQ:∀ ca cc w',Code2 w' ca (decP xs).1.code->(decP xs).1.code.length<=cc->(ca=none->cc=0)->Below w.heap.size w w'->Q (.returned (.tuple #[.agg #[.string ⟨(decP xs).1.name.toArray⟩,.int .i64 (decP xs).1.args,.slice ca (decP xs).1.code.length cc],.int .i64 (decP xs).2])) w') :
  Calls Tryz.prog 191 #[.slice a xs.length c] w Q:=by
 have hmf:∀ (fn:Fn) (first cap:Array Value) (w:World),(Instr.makeFunc fn first cap).run Tryz.prog w = .ok (.func fn first cap) w:=fun _ _ _ _=>rfl
 have HG:=Lib.hid (show ∀ e w',decP xs=(P.nil,e)->Below w.heap.size w w'->Q (.returned (.tuple #[.agg #[.string ⟨#[]⟩,.int .i64 0,.slice none 0 0],.int .i64 e])) w' from fun e w' he hb=>by
  have:=hQ none 0 w' (by rw[he];exact .inl rfl) (by rw[he];exact Nat.le_refl _) (fun _=>rfl) hb
  rw[he] at this
  exact this)
 have HQ:=Lib.hid hQ
 have HL:=Lib.hid hl
 clear hQ hl
 have hb0:Below w.heap.size w ((w.alloc (.cells #[.string ⟨#[]⟩,.int .i64 0,.slice none 0 0] 172)).alloc (.cells #[.int .i64 0] 28)):=by(repeat' (first|(with_reducible exact Below.refl _ _)|(with_reducible assumption)|(with_reducible refine Below.drew ?_)|(with_reducible refine bdrewN ?_ _)|(with_reducible refine Below.alloc ?_ ?_ _)|(with_reducible refine Below.setCell ?_ ?_ _)|omega|(simp;done)|(simp;omega)))
 have p0:((w.alloc (.cells #[.string ⟨#[]⟩,.int .i64 0,.slice none 0 0] 172)).alloc (.cells #[.int .i64 0] 28)).heap[w.heap.size]? = some (.cells #[.string ⟨#[]⟩,.int .i64 0,.slice none 0 0] 172 (0,0)):=blk_alloc (blk_new _ _) _
 have e0:((w.alloc (.cells #[.string ⟨#[]⟩,.int .i64 0,.slice none 0 0] 172)).alloc (.cells #[.int .i64 0] 28)).heap[w.heap.size+1]? = some (.cells #[.int .i64 0] 28 (0,0)):=blk_new1 _ _ _
 go_enter_defers Tryz.func191,Tryz.ntmps191
 repeat' ((fail_if_success (with_reducible (show Code.wp _ (Code.region 2 _ _) _ _ _)));(fail_if_success at_builtin);first|go_values|go_skip|go_guarded|go_step|go_upon|go_back)
 generalize ((w.alloc (.cells #[.string ⟨#[]⟩,.int .i64 0,.slice none 0 0] 172)).alloc (.cells #[.int .i64 0] 28))=w1 at hb0 p0 e0 ⊢
 repeat' ((fail_if_success at_builtin);first|go_values|go_skip|go_guarded|go_step|go_upon|go_back)
 (refine(shapes_any _).mono ?_;rintro e1 w2 ⟨⟨S,rfl,hS⟩,hb2⟩;dsimp only)
 have hb02:=hb0.trans (hb2.mono hb0.size)
 have p2:=blk_below hb2 p0 (blk_lt p0)
 have e2:=blk_below hb2 e0 (blk_lt e0)
 clear hb0 p0 e0 hb2
 have e1:=blk_new w2 (.cells #[.slice none 0 0,.bool false,.slice none 0 0,.bool false,.slice none 0 0,.bool false,.slice none 0 0,.bool false,.slice none 0 0,.bool false,.slice none 0 0,.bool false,.slice none 0 0,.bool false,.slice none 0 0,.bool false,.slice none 0 0,.bool false,.slice none 0 0,.bool false,.slice none 0 0,.bool false,.slice none 0 0,.bool false,.slice none 0 0,.bool false,.slice none 0 0,.bool false,.slice none 0 0,.bool false,.slice none 0 0,.bool false,.slice none 0 0,.bool false] 266)
 have HSZ:=Lib.hid (shp_size S hS.1)
 have HO:=Lib.hid hS.one
 have HLL:=Lib.hid (show (#[.slice none 0 0,.bool false,.slice none 0 0,.bool false,.slice none 0 0,.bool false,.slice none 0 0,.bool false,.slice none 0 0,.bool false,.slice none 0 0,.bool false,.slice none 0 0,.bool false,.slice none 0 0,.bool false,.slice none 0 0,.bool false,.slice none 0 0,.bool false,.slice none 0 0,.bool false,.slice none 0 0,.bool false,.slice none 0 0,.bool false,.slice none 0 0,.bool false,.slice none 0 0,.bool false,.slice none 0 0,.bool false,.slice none 0 0,.bool false]:Array Value).size=S.size by rw[hS.1];rfl)
 repeat' ((fail_if_success (with_reducible (show Code.wp _ (Code.region 3 _ _) _ _ _)));(fail_if_success at_builtin);first|(with_reducible show wpList _ _ _ ((⟨none,_,_,_,_,_⟩:Oper) :: _) _ _;refine wpList_store_row (o:=⟨none,.store 266 (.tmp 4) (.tmp 11),_,_,_,none⟩) rfl 266 (.tmp 4) (.tmp 11) rfl w2.heap.size S rfl rfl 266 #[.slice none 0 0,.bool false,.slice none 0 0,.bool false,.slice none 0 0,.bool false,.slice none 0 0,.bool false,.slice none 0 0,.bool false,.slice none 0 0,.bool false,.slice none 0 0,.bool false,.slice none 0 0,.bool false,.slice none 0 0,.bool false,.slice none 0 0,.bool false,.slice none 0 0,.bool false,.slice none 0 0,.bool false,.slice none 0 0,.bool false,.slice none 0 0,.bool false,.slice none 0 0,.bool false,.slice none 0 0,.bool false,.slice none 0 0,.bool false] e1 HSZ.out HLL.out HO.out ?_)|go_values|go_skip|go_guarded|go_step|go_upon|go_back)
 have k3:=setRow_heap (w2.alloc (.cells #[.slice none 0 0,.bool false,.slice none 0 0,.bool false,.slice none 0 0,.bool false,.slice none 0 0,.bool false,.slice none 0 0,.bool false,.slice none 0 0,.bool false,.slice none 0 0,.bool false,.slice none 0 0,.bool false,.slice none 0 0,.bool false,.slice none 0 0,.bool false,.slice none 0 0,.bool false,.slice none 0 0,.bool false,.slice none 0 0,.bool false,.slice none 0 0,.bool false,.slice none 0 0,.bool false,.slice none 0 0,.bool false,.slice none 0 0,.bool false] 266)) w2.heap.size #[.slice none 0 0,.bool false,.slice none 0 0,.bool false,.slice none 0 0,.bool false,.slice none 0 0,.bool false,.slice none 0 0,.bool false,.slice none 0 0,.bool false,.slice none 0 0,.bool false,.slice none 0 0,.bool false,.slice none 0 0,.bool false,.slice none 0 0,.bool false,.slice none 0 0,.bool false,.slice none 0 0,.bool false,.slice none 0 0,.bool false,.slice none 0 0,.bool false,.slice none 0 0,.bool false,.slice none 0 0,.bool false,.slice none 0 0,.bool false] S 266 (0,0) e1
 have hb23:Below w2.heap.size w2 ((w2.alloc (.cells #[.slice none 0 0,.bool false,.slice none 0 0,.bool false,.slice none 0 0,.bool false,.slice none 0 0,.bool false,.slice none 0 0,.bool false,.slice none 0 0,.bool false,.slice none 0 0,.bool false,.slice none 0 0,.bool false,.slice none 0 0,.bool false,.slice none 0 0,.bool false,.slice none 0 0,.bool false,.slice none 0 0,.bool false,.slice none 0 0,.bool false,.slice none 0 0,.bool false,.slice none 0 0,.bool false,.slice none 0 0,.bool false,.slice none 0 0,.bool false] 266)).setRow w2.heap.size S) :=
  ((Below.refl _ w2).alloc (Nat.le_refl _) _).trans ⟨rfl,rfl,rfl,by simp[World.setRow],fun k hk=>setRow_other _ _ _ _ (by omega)⟩
 have hS3:=(hS.pure ((Below.refl _ w2).alloc (Nat.le_refl _) (.cells #[.slice none 0 0,.bool false,.slice none 0 0,.bool false,.slice none 0 0,.bool false,.slice none 0 0,.bool false,.slice none 0 0,.bool false,.slice none 0 0,.bool false,.slice none 0 0,.bool false,.slice none 0 0,.bool false,.slice none 0 0,.bool false,.slice none 0 0,.bool false,.slice none 0 0,.bool false,.slice none 0 0,.bool false,.slice none 0 0,.bool false,.slice none 0 0,.bool false,.slice none 0 0,.bool false,.slice none 0 0,.bool false,.slice none 0 0,.bool false] 266))).row e1 S
 have p3:=blk_below hb23 p2 (blk_lt p2)
 have e3:=blk_below hb23 e2 (blk_lt e2)
 have hb03:=hb02.trans (hb23.mono hb02.size)
 have hsz:=Lib.hid hb02.size
 clear e1 HSZ HO HLL hS p2 e2 hb02 hb23
 generalize (w2.alloc (.cells #[.slice none 0 0,.bool false,.slice none 0 0,.bool false,.slice none 0 0,.bool false,.slice none 0 0,.bool false,.slice none 0 0,.bool false,.slice none 0 0,.bool false,.slice none 0 0,.bool false,.slice none 0 0,.bool false,.slice none 0 0,.bool false,.slice none 0 0,.bool false,.slice none 0 0,.bool false,.slice none 0 0,.bool false,.slice none 0 0,.bool false,.slice none 0 0,.bool false,.slice none 0 0,.bool false,.slice none 0 0,.bool false,.slice none 0 0,.bool false] 266)).setRow w2.heap.size S=w3 at k3 hS3 p3 e3 hb03 ⊢
 have hx3:=hx.below (hb03.mono (Nat.le_refl _))
 repeat' ((fail_if_success at_builtin);first|go_values|go_skip|go_guarded|go_step|go_upon|go_back)
 (refine(read_any _ a c xs hx3 HL.out).mono ?_;rintro e1 w4 ⟨b,rfl,hbs,hR,hB4⟩;dsimp only)
 have q4:=blk_new w4 (.cells #[.pointer (some ⟨b,0,none⟩),.int .i64 (xs.length:Int)] 347)
 have hB5:=hB4.alloc hB4.size (.cells #[.pointer (some ⟨b,0,none⟩),.int .i64 (xs.length:Int)] 347)
 have D:PD w (w4.alloc (.cells #[.pointer (some ⟨b,0,none⟩),.int .i64 (xs.length:Int)] 347)) b w2.heap.size w4.heap.size w1.heap.size [] 0 (.slice none 0 0) [] ⟨xs,0,0⟩ xs.length S :=
  ⟨blk_below hB5 p3 (blk_lt p3),blk_below hB5 e3 (blk_lt e3),hR.alloc _,q4,blk_below hB5 k3 (blk_lt k3),hS3.pure hB5,World.ownsRow_nil _ _ _ _,hb03.trans (hB5.mono hb03.size),Nat.le_trans hb03.size hbs⟩
 clear q4 hB5 p3 e3 k3 hS3 hb03 hR hB4 hbs hx3
 repeat' ((fail_if_success (with_reducible (show Code.wp _ (Code.region 4 _ _) _ _ _)));(fail_if_success at_builtin);first|go_values|go_skip|go_guarded|go_step|go_upon|go_back)
 generalize w4.alloc (.cells #[.pointer (some ⟨b,0,none⟩),.int .i64 (xs.length:Int)] 347)=w5 at D ⊢
 obtain⟨s,r1,hs1⟩:∃ s r1,RS.text ⟨xs,0,0⟩ 32=(s,r1):=⟨_,_,rfl⟩
 obtain⟨n1,r2,hs2⟩:∃ n1 r2,r1.number=(n1,r2):=⟨_,_,rfl⟩
 obtain⟨n2,r3,hs3⟩:∃ n2 r3,r2.number=(n2,r3):=⟨_,_,rfl⟩
 have HDEC:=Lib.hid (decP_eq hs1 hs2 hs3)
 have HN2:=Lib.hid (show n2<9223372036854775808 by have:=r2.number_lt;rw[hs3] at this;exact this)
 have HS1:=Lib.hid hs1
 have HS2:=Lib.hid hs2
 have HS3:=Lib.hid hs3
 clear hs1 hs2 hs3
 obtain⟨q0,q1,-,-⟩:=blk2 D.hb
 repeat' ((fail_if_success at_builtin);first|go_values|go_skip|go_guarded|go_step|go_upon|go_back)
 (refine(text_any _ b _ D.hr 32 (by decide)).mono ?_;rintro e1 w6 ⟨rfl,hR6,hF6⟩;dsimp only)
 rw[HS1.out] at hR6 ⊢
 dsimp only at hR6 ⊢
 have D6:=D.read hF6 hR6
 clear D q0 q1 hR6 hF6
 obtain⟨p0,p1,p2,f0,f1,f2⟩:=blk3 D6.hp
 repeat' ((fail_if_success (with_reducible (show Code.wp _ (Code.region 5 _ _) _ _ _)));(fail_if_success at_builtin);first|go_values|go_skip|go_guarded|go_step|go_upon|go_back)
 clear p0 p1 p2 f0 f1 f2
 have D7:=D6.name s
 clear D6
 generalize w6.setCell ⟨w.heap.size,0,none⟩ (.string ⟨s.toArray⟩)=w7 at D7 ⊢
 obtain⟨q0,q1,-,-⟩:=blk2 D7.hb
 repeat' ((fail_if_success at_builtin);first|go_values|go_skip|go_guarded|go_step|go_upon|go_back)
 (refine(number_any _ b _ D7.hr).mono ?_;rintro e1 w8 ⟨rfl,hR8,hF8⟩;dsimp only)
 rw[HS2.out] at hR8 ⊢
 dsimp only at hR8 ⊢
 have D8:=D7.read hF8 hR8
 clear D7 q0 q1 hR8 hF8
 obtain⟨p0,p1,p2,f0,f1,f2⟩:=blk3 D8.hp
 repeat' ((fail_if_success (with_reducible (show Code.wp _ (Code.region 6 _ _) _ _ _)));(fail_if_success at_builtin);first|go_values|go_skip|go_guarded|go_step|go_upon|go_back)
 clear p0 p1 p2 f0 f1 f2
 have D9:=D8.args (n1:Int)
 clear D8
 generalize w8.setCell ⟨w.heap.size,1,none⟩ (.int .i64 (n1:Int))=w9 at D9 ⊢
 obtain⟨q0,q1,-,-⟩:=blk2 D9.hb
 repeat' ((fail_if_success at_builtin);first|go_values|go_skip|go_guarded|go_step|go_upon|go_back)
 (refine(number_any _ b _ D9.hr).mono ?_;rintro e1 w10 ⟨rfl,hR10,hF10⟩;dsimp only)
 rw[HS3.out] at hR10 ⊢
 dsimp only at hR10 ⊢
 have D10:=D9.read hF10 hR10
 clear D9 q0 q1 hR10 hF10
 obtain⟨q0,q1,-,-⟩:=blk2 D10.hb
 repeat' ((fail_if_success at_builtin);first|go_values|go_skip|go_guarded|go_step|go_upon|go_back)
 by_cases hE:r3.e=0
 ·have HE:=Lib.hid hE
  (refine(psure_ok _ b _ _ D10.hr hE).mono ?_;rintro e1 w11 ⟨rfl,hb11⟩;dsimp only)
  have D11:=D10.pure hb11
  clear hE D10 q0 q1 hb11
  by_cases hN:64<n2
  ·have g1:decide ((64:Int)<(n2:Int))=true:=by simp;omega
   have HN:=Lib.hid hN
   clear hN
   obtain⟨p0,p1,p2,f0,f1,f2⟩:=blk3 D11.hp
   obtain⟨x0,x1⟩:=blk1 D11.he
   repeat' ((fail_if_success at_builtin);first|go_values|go_skip|go_guarded|go_step|go_upon|go_back)
   clear p0 p1 p2 f0 f1 f2 x0 x1
   refine leaves_cons (f:=256) (args:=#[.pointer (some ⟨w.heap.size,0,none⟩),.pointer (some ⟨w.heap.size+1,0,none⟩)]) (by simp) (by simp[go_sem]) ?_;refine(pidle _ _ _).mono ?_;rintro e1 u' w'' ⟨rfl,rfl,rfl⟩;obtain⟨z0,z1,z2,z3,hbz⟩:=gave_cells (D11.pg) (4);unfold gaveP at z0 z1 z2 z3 hbz;refine⟨.tuple #[.agg #[.string ⟨#[]⟩,.int .i64 0,.slice none 0 0],.int .i64 (4)],?_,HG.out _ _ (by rw[HDEC.out,if_neg (by simp[HE.out]),if_pos HN.out]) hbz⟩;simp[results,Tryz.results191,go_sem,z0,z1,z2,z3]
  ·have g1:decide ((64:Int)<(n2:Int))=false:=by simp;omega
   have HN:=Lib.hid hN
   have hn64:(n2:Int)<=64:=by omega
   clear hN
   have HDI:=Lib.hid (HDEC.out.trans ((if_neg (by simp[HE.out])).trans (if_neg HN.out)))
   clear HDEC
   repeat' ((fail_if_success at_builtin);first|go_values|go_skip|go_guarded|go_step|go_upon|go_back)
   go_loopw [34] (fun i wr=>∃ (j:Nat) (code:List I) (rr:RS) (cv:Value),j<=n2/\i = .int .i64 j/\code.length=j/\decIs xs.length n2 [] r3=decIs xs.length (n2-j) code rr/\PD w wr b w2.heap.size w4.heap.size w1.heap.size s (n1:Int) cv code rr xs.length S) (fun i _=>n2-(intOf i).toNat)
   case atStart=>exact⟨0,[],_,_,Nat.zero_le _,rfl,rfl,rfl,D11⟩
   case round =>
    obtain⟨j,code,rr,cv,hj,rfl,hcl,hdec,hD⟩:=hrel
    have HDEC:=Lib.hid hdec
    have HCL:=Lib.hid hcl
    clear hdec hcl D11
    by_cases hlt:j<n2
    ·have hlt':(j:Int)<(n2:Int):=by omega
     obtain⟨x,rn,e,hd⟩:∃ x rn e,decI xs.length rr=(x,rn,e):=⟨_,_,_,rfl⟩
     by_cases hE:e=0
     ·subst hE
      have HD:=Lib.hid hd
      clear hd
      obtain⟨q0,q1,-,-⟩:=blk2 hD.hb
      obtain⟨p0,p1,p2,f0,f1,f2⟩:=blk3 hD.hp
      repeat' ((fail_if_success at_builtin);first|go_values|go_skip|go_guarded|go_step|go_upon|go_back)
      obtain⟨i0,hi0,hz0,hz1,hz2⟩:=info_parts Tryz.info179
      refine wp_region_noPanic ?_
      go_region_law (first
        | (go_simp;(with_reducible refine(rinstr_ok _ b w2.heap.size w1.heap.size S ?_ ?_ rr xs.length ?_ HL.out x rn HD.out).mono ?_);(first|exact hD.hl);(first|exact hD.hs);(first|exact hD.hr|exact hD.hr.drewN _);rintro e1 w11 ⟨rfl,hR11,hF11x⟩;have hF11:Fr wr w11 (fun k=>k=b):=⟨hF11x.os,hF11x.tape,hF11x.output,hF11x.size,hF11x.block⟩;have D6:=hD.read hF11 hR11;clear hF11x hF11 hR11;have c2:w11.cell? ⟨w.heap.size,2,none⟩=some cv:=blk_cell D6.hp 2;have c2a:∀ o,(w11.alloc o).cell? ⟨w.heap.size,2,none⟩=some cv:=fun o=>blk_cell (blk_alloc D6.hp o) 2;dsimp only [I.cells])
        | ((refine step_append_lies _ (by rfl) _ _ _ (by rfl) w.heap.size 179 i0 _ 8 72 Tryz.underlying170 hi0 hz0 hz1 hz2 rfl (by omega) cv code.length (code.flatMap I.row) (by rfl) (own_below D6.own ((Below.refl _ _).alloc (Nat.le_refl _) _)) ⟨w11.heap.size,0,none⟩ 1 1 (I.row x) (by rfl) (by rfl) (World.news_of_block (cs:=#[.int .i64 x.op,.int .i64 x.a,.int .i64 x.b,.int .i64 x.c,.int .i64 x.n,.int .i64 x.v.k,.int .i64 x.v.i,.string ⟨x.v.t.toArray⟩]) (t:=179) (fr:=(0,0)) (heap_alloc_new w11 _)) (by simp[Value.oneCell',I.row]) (by omega) (by unfold maxLen;have:=HCL.out;omega) (by have:=HCL.out;omega) (by have:=D6.below.size;simp;omega) (w11.heap.size+1) (by simp) ?_;intro gg cap w12 hown12 hgrow hat hlt12;have s0:w12.cell? ⟨w.heap.size,2,none⟩=some cv:=blk_cell (D6.app0 _ hgrow).1 2;have s1:w12.frozen? ⟨w.heap.size,2,none⟩=false:=blk_free (D6.app0 _ hgrow).1 2)))
      all_goals (refine NoPanic.normal ?_)
      all_goals (have D13:=D6.app _ hgrow x hown12)
      all_goals (clear q0 q1 p0 p1 p2 f0 f1 f2 s0 s1 hgrow hown12 hD)
      all_goals ((repeat' ((fail_if_success at_builtin);first|go_values|go_skip|go_guarded|go_step|go_upon|go_back)))
      all_goals (go_roundw;case rel=>exact⟨j+1,code++[x],rn,_,by omega,by go_num,by rw[List.length_append,HCL.out];rfl,by rw[HDEC.out,show n2-j=(n2-(j+1))+1 by omega,decIs_ok HD.out],D13⟩)
      all_goals (simp[intOf];omega)
     ·have HE:=Lib.hid hE
      have HD:=Lib.hid hd
      clear hd hE
      obtain⟨q0,q1,-,-⟩:=blk2 hD.hb
      obtain⟨p0,p1,p2,f0,f1,f2⟩:=blk3 hD.hp
      repeat' ((fail_if_success at_builtin);first|go_values|go_skip|go_guarded|go_step|go_upon|go_back)
      have HF:=Lib.hid (show decP xs=(P.nil,e) by
       rw[HDI.out,HDEC.out,show n2-j=(n2-(j+1))+1 by omega,decIs_no HD.out HE.out,if_pos HE.out])
      refine wp_region_any (by kernel_rfl) ?_
      change wpAny _ _ _ _ _ _ _ (World.drew _)
      (refine wpAny_ready (rs:=[0,2]) (by kernel_rfl) (by simp) ?_;refine AllReady.cons rfl (fun K hK=>?_) (AllReady.cons rfl (fun K hK=>?_) AllReady.nil);(focus ((go_simp;refine hK _ _ ?_;clear hK K;(refine wpAny_ready (rs:=[1,2]) (by kernel_rfl) (by simp) ?_;refine AllReady.cons rfl (fun K hK=>?_) (AllReady.cons rfl (fun K hK=>?_) AllReady.nil);(focus ((go_simp;refine hK _ _ ?_;clear hK K;(refine wpAny_ready (rs:=[2]) (by kernel_rfl) (by simp) ?_;refine AllReady.cons rfl (fun K hK=>?_) AllReady.nil;(focus ((go_simp;refine hK _ _ ?_;clear hK K;(refine wpAny_ready (rs:=[3]) (by kernel_rfl) (by simp) ?_;refine AllReady.cons rfl (fun K hK=>?_) AllReady.nil;(focus ((go_simp;go_wp2_with ((with_reducible refine(rinstr_no _ b w2.heap.size w1.heap.size S ?_ ?_ rr xs.length ?_ HL.out x rn e HD.out HE.out).mono ?_);(first|exact hD.hl);(first|exact hD.hs);(first|exact hD.hr|exact hD.hr.drewN _);rintro e1 w11 ⟨rfl,hF11x⟩;have hF11:Fr wr w11 (fun k=>k=b):=⟨hF11x.os,hF11x.tape,hF11x.output,hF11x.size,hF11x.block⟩;have D6:=hD.gone hF11;(refine leaves_cons (f:=256) (args:=#[.pointer (some ⟨w.heap.size,0,none⟩),.pointer (some ⟨w.heap.size+1,0,none⟩)]) (by simp) (by simp[go_sem]) ?_;refine(pcatch _ _ _ _ _ _ _ (D6).hp (D6).he (e)).mono ?_;rintro e1 u' w'' ⟨rfl,rfl,rfl⟩;obtain⟨z0,z1,z2,z3,hbz⟩:=gave_cells (D6) (e);refine⟨.tuple #[.agg #[.string ⟨#[]⟩,.int .i64 0,.slice none 0 0],.int .i64 (e)],?_,HG.out _ _ HF.out hbz⟩;simp[results,Tryz.results191,go_sem,z0,z1,z2,z3])))))))))))));(focus ((go_simp;refine hK _ _ ?_;clear hK K;(refine wpAny_ready (rs:=[1,3]) (by kernel_rfl) (by simp) ?_;refine AllReady.cons rfl (fun K hK=>?_) (AllReady.cons rfl (fun K hK=>?_) AllReady.nil);(focus ((go_simp;refine hK _ _ ?_;clear hK K;(refine wpAny_ready (rs:=[3]) (by kernel_rfl) (by simp) ?_;refine AllReady.cons rfl (fun K hK=>?_) AllReady.nil;(focus ((go_simp;go_wp2_with ((with_reducible refine(rinstr_no _ b w2.heap.size w1.heap.size S ?_ ?_ rr xs.length ?_ HL.out x rn e HD.out HE.out).mono ?_);(first|exact hD.hl);(first|exact hD.hs);(first|exact hD.hr|exact hD.hr.drewN _);rintro e1 w11 ⟨rfl,hF11x⟩;have hF11:Fr wr w11 (fun k=>k=b):=⟨hF11x.os,hF11x.tape,hF11x.output,hF11x.size,hF11x.block⟩;have D6:=hD.gone hF11;(refine leaves_cons (f:=256) (args:=#[.pointer (some ⟨w.heap.size,0,none⟩),.pointer (some ⟨w.heap.size+1,0,none⟩)]) (by simp) (by simp[go_sem]) ?_;refine(pcatch _ _ _ _ _ _ _ (D6).hp (D6).he (e)).mono ?_;rintro e1 u' w'' ⟨rfl,rfl,rfl⟩;obtain⟨z0,z1,z2,z3,hbz⟩:=gave_cells (D6) (e);refine⟨.tuple #[.agg #[.string ⟨#[]⟩,.int .i64 0,.slice none 0 0],.int .i64 (e)],?_,HG.out _ _ HF.out hbz⟩;simp[results,Tryz.results191,go_sem,z0,z1,z2,z3])))))))));(focus ((go_simp;go_wp2_with ((with_reducible refine(rinstr_no _ b w2.heap.size w1.heap.size S ?_ ?_ rr xs.length ?_ HL.out x rn e HD.out HE.out).mono ?_);(first|exact hD.hl);(first|exact hD.hs);(first|exact hD.hr|exact hD.hr.drewN _);rintro e1 w11 ⟨rfl,hF11x⟩;have hF11:Fr wr w11 (fun k=>k=b):=⟨hF11x.os,hF11x.tape,hF11x.output,hF11x.size,hF11x.block⟩;have D6:=hD.gone hF11;(refine leaves_cons (f:=256) (args:=#[.pointer (some ⟨w.heap.size,0,none⟩),.pointer (some ⟨w.heap.size+1,0,none⟩)]) (by simp) (by simp[go_sem]) ?_;refine(pcatch _ _ _ _ _ _ _ (D6).hp (D6).he (e)).mono ?_;rintro e1 u' w'' ⟨rfl,rfl,rfl⟩;obtain⟨z0,z1,z2,z3,hbz⟩:=gave_cells (D6) (e);refine⟨.tuple #[.agg #[.string ⟨#[]⟩,.int .i64 0,.slice none 0 0],.int .i64 (e)],?_,HG.out _ _ HF.out hbz⟩;simp[results,Tryz.results191,go_sem,z0,z1,z2,z3])))))))))))));(focus ((go_simp;refine hK _ _ ?_;clear hK K;(refine wpAny_ready (rs:=[0,3]) (by kernel_rfl) (by simp) ?_;refine AllReady.cons rfl (fun K hK=>?_) (AllReady.cons rfl (fun K hK=>?_) AllReady.nil);(focus ((go_simp;refine hK _ _ ?_;clear hK K;(refine wpAny_ready (rs:=[1,3]) (by kernel_rfl) (by simp) ?_;refine AllReady.cons rfl (fun K hK=>?_) (AllReady.cons rfl (fun K hK=>?_) AllReady.nil);(focus ((go_simp;refine hK _ _ ?_;clear hK K;(refine wpAny_ready (rs:=[3]) (by kernel_rfl) (by simp) ?_;refine AllReady.cons rfl (fun K hK=>?_) AllReady.nil;(focus ((go_simp;go_wp2_with ((with_reducible refine(rinstr_no _ b w2.heap.size w1.heap.size S ?_ ?_ rr xs.length ?_ HL.out x rn e HD.out HE.out).mono ?_);(first|exact hD.hl);(first|exact hD.hs);(first|exact hD.hr|exact hD.hr.drewN _);rintro e1 w11 ⟨rfl,hF11x⟩;have hF11:Fr wr w11 (fun k=>k=b):=⟨hF11x.os,hF11x.tape,hF11x.output,hF11x.size,hF11x.block⟩;have D6:=hD.gone hF11;(refine leaves_cons (f:=256) (args:=#[.pointer (some ⟨w.heap.size,0,none⟩),.pointer (some ⟨w.heap.size+1,0,none⟩)]) (by simp) (by simp[go_sem]) ?_;refine(pcatch _ _ _ _ _ _ _ (D6).hp (D6).he (e)).mono ?_;rintro e1 u' w'' ⟨rfl,rfl,rfl⟩;obtain⟨z0,z1,z2,z3,hbz⟩:=gave_cells (D6) (e);refine⟨.tuple #[.agg #[.string ⟨#[]⟩,.int .i64 0,.slice none 0 0],.int .i64 (e)],?_,HG.out _ _ HF.out hbz⟩;simp[results,Tryz.results191,go_sem,z0,z1,z2,z3])))))))));(focus ((go_simp;go_wp2_with ((with_reducible refine(rinstr_no _ b w2.heap.size w1.heap.size S ?_ ?_ rr xs.length ?_ HL.out x rn e HD.out HE.out).mono ?_);(first|exact hD.hl);(first|exact hD.hs);(first|exact hD.hr|exact hD.hr.drewN _);rintro e1 w11 ⟨rfl,hF11x⟩;have hF11:Fr wr w11 (fun k=>k=b):=⟨hF11x.os,hF11x.tape,hF11x.output,hF11x.size,hF11x.block⟩;have D6:=hD.gone hF11;(refine leaves_cons (f:=256) (args:=#[.pointer (some ⟨w.heap.size,0,none⟩),.pointer (some ⟨w.heap.size+1,0,none⟩)]) (by simp) (by simp[go_sem]) ?_;refine(pcatch _ _ _ _ _ _ _ (D6).hp (D6).he (e)).mono ?_;rintro e1 u' w'' ⟨rfl,rfl,rfl⟩;obtain⟨z0,z1,z2,z3,hbz⟩:=gave_cells (D6) (e);refine⟨.tuple #[.agg #[.string ⟨#[]⟩,.int .i64 0,.slice none 0 0],.int .i64 (e)],?_,HG.out _ _ HF.out hbz⟩;simp[results,Tryz.results191,go_sem,z0,z1,z2,z3])))))))));(focus ((go_simp;go_wp2_with ((with_reducible refine(rinstr_no _ b w2.heap.size w1.heap.size S ?_ ?_ rr xs.length ?_ HL.out x rn e HD.out HE.out).mono ?_);(first|exact hD.hl);(first|exact hD.hs);(first|exact hD.hr|exact hD.hr.drewN _);rintro e1 w11 ⟨rfl,hF11x⟩;have hF11:Fr wr w11 (fun k=>k=b):=⟨hF11x.os,hF11x.tape,hF11x.output,hF11x.size,hF11x.block⟩;have D6:=hD.gone hF11;(refine leaves_cons (f:=256) (args:=#[.pointer (some ⟨w.heap.size,0,none⟩),.pointer (some ⟨w.heap.size+1,0,none⟩)]) (by simp) (by simp[go_sem]) ?_;refine(pcatch _ _ _ _ _ _ _ (D6).hp (D6).he (e)).mono ?_;rintro e1 u' w'' ⟨rfl,rfl,rfl⟩;obtain⟨z0,z1,z2,z3,hbz⟩:=gave_cells (D6) (e);refine⟨.tuple #[.agg #[.string ⟨#[]⟩,.int .i64 0,.slice none 0 0],.int .i64 (e)],?_,HG.out _ _ HF.out hbz⟩;simp[results,Tryz.results191,go_sem,z0,z1,z2,z3]))))))))))
    ·obtain rfl:j=n2:=by omega
     rw[Nat.sub_self,decIs] at HDEC
     have HD2:=Lib.hid HDEC.out
     clear HDEC
     have HDI2:=Lib.hid HDI.out
     rw[HD2.out] at HDI2
     dsimp only at HDI2
     clear hlt hj HD2
     obtain⟨q0,q1,-,-⟩:=blk2 hD.hb
     repeat' ((fail_if_success at_builtin);first|go_values|go_skip|go_guarded|go_step|go_upon|go_back)
     (refine(end_any _ b _ hD.hr).mono ?_;rintro e1 w12 ⟨rfl,m,rfl⟩;dsimp only)
     have D12:=hD.drewN m
     clear hD q0 q1
     generalize wr.drewN m=w13 at D12 ⊢
     obtain⟨p0,p1,p2,f0,f1,f2⟩:=blk3 D12.hp
     obtain⟨x0,x1⟩:=blk1 D12.he
     by_cases hE:rr.end_=0
     ·have HE2:=Lib.hid hE
      have hok:=HDI2.out
      rw[if_neg (by simp),if_neg (by simp[hE])] at hok
      have HOK:=Lib.hid hok
      have e0:(rr.end_ != 0)=false:=by simp[hE]
      clear hok hE HDI2
      obtain⟨ca,cc,rfl,hcc,hcn,hrow,-⟩:=own_rowT D12.own
      have hc1:Code2 w13 ca code:=hrow
      have HLE:=Lib.hid (show s.length<=140737488355328 by have:=RS.text_len ⟨xs,0,0⟩ 32;rw[HS1.out] at this;have:=HL.out;dsimp only at *;omega)
      repeat' ((fail_if_success at_builtin);first|go_values|go_skip|go_guarded|go_step|go_upon|go_back)
      (refine(chkP_any _ ⟨s.toArray⟩ (n1:Int) ca cc code (by rw[str_size];exact HLE.out) hc1.one).mono ?_;rintro e1 w14 ⟨rfl,hb14⟩;dsimp only)
      have D14:=D12.pure hb14
      clear p0 p1 p2 f0 f1 f2 x0 x1 D12 hrow hc1
      obtain⟨p0,p1,p2,f0,f1,f2⟩:=blk3 D14.hp
      obtain⟨x0,x1⟩:=blk1 D14.he
      obtain⟨i2,e2,hch⟩:∃ i2 e2,chkP ⟨s,(n1:Int),code⟩=(i2,e2):=⟨_,_,rfl⟩
      have hok:=HOK.out
      rw[hch] at hok ⊢
      dsimp only at hok ⊢
      by_cases hE:e2=0
      ·rw[if_neg (by simp[hE])] at hok
       subst hE
       have HOK2:=Lib.hid hok
       clear hok HOK hch
       repeat' ((fail_if_success at_builtin);first|go_values|go_skip|go_guarded|go_step|go_upon|go_back)
       clear p0 p1 p2 f0 f1 f2 x0 x1
       refine leaves_cons (f:=256) (args:=#[.pointer (some ⟨w.heap.size,0,none⟩),.pointer (some ⟨w.heap.size+1,0,none⟩)]) (by simp) (by simp[go_sem]) ?_
       refine(pidle _ _ _).mono ?_
       rintro e1 u' w'' ⟨rfl,rfl,rfl⟩
       obtain⟨z0,z1,z2,z3,hbz,hoz⟩:=took_cells D14
       unfold tookP at z0 z1 z2 z3 hbz hoz
       obtain⟨ca',cc',hce,hcc',hcn',hrow',-⟩:=own_rowT hoz
       cases hce
       refine⟨.tuple #[.agg #[.string ⟨s.toArray⟩,.int .i64 (n1:Int),.slice ca code.length cc],.int .i64 0],?_,?_⟩
       ·simp[results,Tryz.results191,go_sem,z0,z1,z2,z3]
       ·have:=HQ.out ca cc _ (by rw[HOK2.out];exact hrow') (by rw[HOK2.out];exact hcc') hcn' hbz
        rw[HOK2.out] at this
        exact this
      ·have e3:(e2 != 0)=true:=by simpa using hE
       rw[if_pos hE] at hok
       have HOK2:=Lib.hid hok
       clear hok HOK hch hE
       repeat' ((fail_if_success at_builtin);first|go_values|go_skip|go_guarded|go_step|go_upon|go_back)
       clear p0 p1 p2 f0 f1 f2 x0 x1
       refine leaves_cons (f:=256) (args:=#[.pointer (some ⟨w.heap.size,0,none⟩),.pointer (some ⟨w.heap.size+1,0,none⟩)]) (by simp) (by simp[go_sem]) ?_;refine(pidle _ _ _).mono ?_;rintro e1 u' w'' ⟨rfl,rfl,rfl⟩;obtain⟨z0,z1,z2,z3,hbz⟩:=gave_cells (D14.pg) (e2);unfold gaveP at z0 z1 z2 z3 hbz;refine⟨.tuple #[.agg #[.string ⟨#[]⟩,.int .i64 0,.slice none 0 0],.int .i64 (e2)],?_,HG.out _ _ HOK2.out hbz⟩;simp[results,Tryz.results191,go_sem,z0,z1,z2,z3]
     ·have HE2:=Lib.hid hE
      have e0:(rr.end_ != 0)=true:=by simpa using hE
      have hok:=HDI2.out
      rw[if_neg (by simp),if_pos hE] at hok
      have HOK:=Lib.hid hok
      clear hok hE HDI2
      repeat' ((fail_if_success at_builtin);first|go_values|go_skip|go_guarded|go_step|go_upon|go_back)
      clear p0 p1 p2 f0 f1 f2 x0 x1
      refine leaves_cons (f:=256) (args:=#[.pointer (some ⟨w.heap.size,0,none⟩),.pointer (some ⟨w.heap.size+1,0,none⟩)]) (by simp) (by simp[go_sem]) ?_;refine(pidle _ _ _).mono ?_;rintro e1 u' w'' ⟨rfl,rfl,rfl⟩;obtain⟨z0,z1,z2,z3,hbz⟩:=gave_cells (D12.pg) (rr.end_);unfold gaveP at z0 z1 z2 z3 hbz;refine⟨.tuple #[.agg #[.string ⟨#[]⟩,.int .i64 0,.slice none 0 0],.int .i64 (rr.end_)],?_,HG.out _ _ HOK.out hbz⟩;simp[results,Tryz.results191,go_sem,z0,z1,z2,z3]
 ·have HE:=Lib.hid hE
  clear hE
  (refine(psure_no _ b _ _ D10.hr HE.out).mono ?_;rintro e1 w11 ⟨rfl,hb11⟩;dsimp only)
  have D11:=D10.pure hb11
  clear D10 q0 q1
  refine leaves_cons (f:=256) (args:=#[.pointer (some ⟨w.heap.size,0,none⟩),.pointer (some ⟨w.heap.size+1,0,none⟩)]) (by simp) (by simp[go_sem]) ?_
  refine(pcatch _ _ _ _ _ _ _ (D11.pg).hp (D11.pg).he (r3.e)).mono ?_
  rintro e1 u' w'' ⟨rfl,rfl,rfl⟩
  obtain⟨z0,z1,z2,z3,hbz⟩:=gave_cells (D11.pg) (r3.e)
  refine⟨.tuple #[.agg #[.string ⟨#[]⟩,.int .i64 0,.slice none 0 0],.int .i64 (r3.e)],?_,HG.out _ _ (by rw[HDEC.out,if_pos HE.out]) hbz⟩
  simp[results,Tryz.results191,go_sem,z0,z1,z2,z3]
end Go.Proofs.YtbppnihcbcdglaaGreat
