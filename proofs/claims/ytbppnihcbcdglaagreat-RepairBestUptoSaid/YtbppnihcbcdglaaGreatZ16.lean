/- proc: an instruction is read: the one without fields; all. No condition. -/
import Derived.Test.YtbppnihcbcdglaaGreatZ15
namespace Go.Proofs.YtbppnihcbcdglaaGreat
set_option maxHeartbeats 0
open Go.RowKit
set_option linter.unusedVariables false
set_option linter.unusedSimpArgs false
theorem decI_eq{all:Nat}{r:RS}{k:UInt8}{r1:RS}(he:r.byte=(k,r1))(h0:r1.e=0)(op:Nat)(h1:k.toNat=op)(h2:1<=op)(h3:op<=16) :
  decI all r=(let z:=decF (fds op) { I.nil with op:=(op:Int) } r1
   if z.2.2≠0 then z else
   if hasV op then
    (let s:=z.2.1.text (all:Int)
    if s.2.e≠0 then (z.1,s.2,s.2.e) else
    if (decV s.1).2≠0 then (z.1,s.2,(decV s.1).2) else ({ z.1 with v:=(decV s.1).1 },s.2,0))
   else z):=by
 unfold decI
 rw[he]
 dsimp only
 rw[if_neg (by simp[h0]),h1,if_neg (by omega)]
theorem decI_no{all:Nat}{r:RS}{k:UInt8}{r1:RS}{op:Nat}{x:I}{r':RS}{e:Int}(hd:decI all r=(let z:=decF (fds op) { I.nil with op:=(op:Int) } r1
   if z.2.2≠0 then z else
   if hasV op then
    (let s:=z.2.1.text (all:Int)
    if s.2.e≠0 then (z.1,s.2,s.2.e) else
    if (decV s.1).2≠0 then (z.1,s.2,(decV s.1).2) else ({ z.1 with v:=(decV s.1).1 },s.2,0))
   else z)) (hz:decF (fds op) { I.nil with op:=(op:Int) } r1=(x,r',e)) (hn:e≠0):(decI all r).2.2=e:=by
 rw[hd,hz]
 dsimp only
 rw[if_pos hn]
theorem decI_ok{all:Nat}{r:RS}{k:UInt8}{r1:RS}{op:Nat}{x:I}{r':RS}(hd:decI all r=(let z:=decF (fds op) { I.nil with op:=(op:Int) } r1
   if z.2.2≠0 then z else
   if hasV op then
    (let s:=z.2.1.text (all:Int)
    if s.2.e≠0 then (z.1,s.2,s.2.e) else
    if (decV s.1).2≠0 then (z.1,s.2,(decV s.1).2) else ({ z.1 with v:=(decV s.1).1 },s.2,0))
   else z)) (hz:decF (fds op) { I.nil with op:=(op:Int) } r1=(x,r',0)):decI all r=if hasV op then
    (if (r'.text (all:Int)).2.e≠0 then (x,(r'.text (all:Int)).2,(r'.text (all:Int)).2.e) else
    if (decV (r'.text (all:Int)).1).2≠0 then (x,(r'.text (all:Int)).2,(decV (r'.text (all:Int)).1).2) else ({ x with v:=(decV (r'.text (all:Int)).1).1 },(r'.text (all:Int)).2,0))
   else (x,r',0):=by
 rw[hd,hz]
 simp
def refE(e:Int):Ending := .panicked [{ v:=refV e,recovered:=false }]
set_option maxRecDepth 20000 in
theorem rinstr_go(w:World)(b lb n0:Nat)(L:Array Value)(hL:w.heap[lb]? = some (.cells L 266 (0,0)))(hS:Shp w n0 L [1,2,3,4,5,6,7,8,9,10,11,12,13,14,15])(r:RS)(all:Nat)(hR:Rd w b r)(k:UInt8)(r1:RS)(he:r.byte=(k,r1))(h0:r1.e=0)(op:Nat)(h1:k.toNat=op)(h2:1<=op)(h3:op<=15)(ha:all<=17592186044416)(Q:Ending->World->Prop)
  (hno:∀ e w',(decI all r).2.2=e->e≠0->Fr w w' (fun k=>k=b)->Q (refE e) w')
  (hyes:∀ x r2 w',decI all r=(x,r2,0)->Rd w' b r2->Fr w w' (fun k=>k=b)->Q (.returned (.agg x.cells)) w') :
  Calls Tryz.prog 258 #[.agg #[.pointer (some ⟨b,0,none⟩),.int .i64 (all:Int)],.pointer (some ⟨lb,0,none⟩)] w Q:=by
 have HDI:=Lib.hid (decI_eq (all:=all) he h0 op h1 h2 (by omega))
 have g1:decide ((op:Int)<1)=false:=by simp;omega
 have g2:decide ((16:Int)<(op:Int))=false:=by simp;omega
 have b3:(op:Int)<=15:=by omega
 have b4:(1:Int)<=(op:Int):=by omega
 obtain⟨sg,sn,s1,s2,sb⟩:=(hS.2 op (by omega)).1 (by
  have:op=1\/op=2\/op=3\/op=4\/op=5\/op=6\/op=7\/op=8\/op=9\/op=10\/op=11\/op=12\/op=13\/op=14\/op=15:=by omega
  simpa using this)
 have l1:∀ w',Fr w w' (fun k=>k=b)->w'.cell? ⟨lb,op*2,none⟩=some (.slice (some ⟨sg,0,none⟩) (fds op).length (fds op).length):=fun w' hf=>(blk_cell (hf.blk hL (hR.ne hL (by decide))) _).trans (by rw[Nat.mul_comm];exact s1)
 have l2:∀ w',Fr w w' (fun k=>k=b)->w'.cell? ⟨lb,op*2+1,none⟩=some (.bool (hasV op)):=fun w' hf=>(blk_cell (hf.blk hL (hR.ne hL (by decide))) _).trans (by rw[Nat.mul_comm];exact s2)
 have hnL:=Lib.hid (hR.ne hL (by decide))
 have hnS:=Lib.hid (hR.ne sb (by decide))
 have HL1:=Lib.hid l1
 have HL2:=Lib.hid l2
 have HL:=Lib.hid hL
 have HSB:=Lib.hid sb
 have H1:=Lib.hid h1
 have H2:=Lib.hid h2
 have H3:=Lib.hid h3
 have HNO:=Lib.hid hno
 have HYES:=Lib.hid hyes
 have HA:=Lib.hid ha
 have H0:=Lib.hid h0
 clear l1 l2 hL hS s1 s2 sb h1 h2 h3 hno hyes ha h0
 have HE:=Lib.hid he
 clear he
 have hb0:Below w.heap.size w ((w.alloc (.cells #[.pointer (some ⟨b,0,none⟩),.int .i64 (all:Int)] 347)).alloc (.cells #[.int .i64 0,.int .i64 0,.int .i64 0,.int .i64 0,.int .i64 0,.int .i64 0,.int .i64 0,.string ⟨#[]⟩] 179)):=by(repeat' (first|(with_reducible exact Below.refl _ _)|(with_reducible assumption)|(with_reducible refine Below.drew ?_)|(with_reducible refine bdrewN ?_ _)|(with_reducible refine Below.alloc ?_ ?_ _)|(with_reducible refine Below.setCell ?_ ?_ _)|omega|(simp;done)|(simp;omega)))
 have hR0:=hR.pure hb0
 have q0:((w.alloc (.cells #[.pointer (some ⟨b,0,none⟩),.int .i64 (all:Int)] 347)).alloc (.cells #[.int .i64 0,.int .i64 0,.int .i64 0,.int .i64 0,.int .i64 0,.int .i64 0,.int .i64 0,.string ⟨#[]⟩] 179)).heap[w.heap.size]? = some (.cells #[.pointer (some ⟨b,0,none⟩),.int .i64 (all:Int)] 347 (0,0)):=blk_alloc (blk_new _ _) _
 have v0:IB ((w.alloc (.cells #[.pointer (some ⟨b,0,none⟩),.int .i64 (all:Int)] 347)).alloc (.cells #[.int .i64 0,.int .i64 0,.int .i64 0,.int .i64 0,.int .i64 0,.int .i64 0,.int .i64 0,.string ⟨#[]⟩] 179)) (w.heap.size+1) I.nil:=blk_new1 _ _ _
 have hsz0:((w.alloc (.cells #[.pointer (some ⟨b,0,none⟩),.int .i64 (all:Int)] 347)).alloc (.cells #[.int .i64 0,.int .i64 0,.int .i64 0,.int .i64 0,.int .i64 0,.int .i64 0,.int .i64 0,.string ⟨#[]⟩] 179)).heap.size=w.heap.size+2:=by simp
 obtain⟨a0,a1,-,-⟩:=blk2 q0
 go_enter Tryz.func258,Tryz.ntmps258
 repeat' ((fail_if_success at_builtin);first|go_values|go_skip|go_guarded|go_step|go_upon|go_back)
 clear a0 a1
 generalize ((w.alloc (.cells #[.pointer (some ⟨b,0,none⟩),.int .i64 (all:Int)] 347)).alloc (.cells #[.int .i64 0,.int .i64 0,.int .i64 0,.int .i64 0,.int .i64 0,.int .i64 0,.int .i64 0,.string ⟨#[]⟩] 179))=W at hb0 hR0 q0 v0 hsz0 ⊢
 have HSZ:=Lib.hid hsz0
 clear hsz0
 (refine(byte_any W b _ hR0).mono ?_;rintro e1 w2 ⟨rfl,hR2,hF2⟩;dsimp only)
 rw[HE.out] at hR2 ⊢
 dsimp only at hR2 ⊢
 have q2:=hF2.blk q0 (hR0.ne q0 (by decide))
 have v2:IB w2 (w.heap.size+1) I.nil:=hF2.blk v0 (hR0.ne v0 (by decide))
 have hk:(k.toNat:Int)<256:=by have:=byte_lt k;omega
 have hk0:(0:Int)<=(k.toNat:Int):=Int.natCast_nonneg _
 have hs2:w.heap.size+2<=w2.heap.size:=by have:=hF2.size;have:=HSZ.out;omega
 have hF0:Fr w w2 (fun k=>k=b):=(Fr.pure hb0 _).trans hF2 (fun _ _ h _=>h)
 clear hb0 hR0 hF2 q0 v0
 repeat' ((fail_if_success (with_reducible (show Code.wp _ (Code.region 2 _ _) _ _ _)));(fail_if_success at_builtin);first|go_values|go_skip|go_guarded|go_step|go_upon|go_back)
 have hb3:Below w2.heap.size w2 (w2.alloc (.cells #[.int .i64 (k.toNat:Int),.int .i64 0,.int .i64 0,.int .i64 0,.int .i64 0,.int .i64 0,.int .i64 0,.string ⟨#[]⟩] 179)):=(Below.refl _ _).alloc (Nat.le_refl _) _
 have x3:IB (w2.alloc (.cells #[.int .i64 (k.toNat:Int),.int .i64 0,.int .i64 0,.int .i64 0,.int .i64 0,.int .i64 0,.int .i64 0,.string ⟨#[]⟩] 179)) w2.heap.size { I.nil with op:=(k.toNat:Int) }:=blk_new _ _
 have q3:=blk_below hb3 q2 (blk_lt q2)
 have v3:IB (w2.alloc (.cells #[.int .i64 (k.toNat:Int),.int .i64 0,.int .i64 0,.int .i64 0,.int .i64 0,.int .i64 0,.int .i64 0,.string ⟨#[]⟩] 179)) (w.heap.size+1) I.nil:=blk_below hb3 v2 (blk_lt v2)
 have hR3:=hR2.pure hb3
 have hF3:=hF0.then_below hb3
 clear q2 v2 hR2 hF0 hb3
 generalize w2.alloc (.cells #[.int .i64 (k.toNat:Int),.int .i64 0,.int .i64 0,.int .i64 0,.int .i64 0,.int .i64 0,.int .i64 0,.string ⟨#[]⟩] 179)=w3 at x3 q3 v3 hR3 hF3 ⊢
 obtain⟨b0,b1,-,-⟩:=blk2 q3
 rw[H1.out] at x3 ⊢
 repeat' ((fail_if_success (with_reducible (show Code.wp _ (Code.region 3 _ _) _ _ _)));(fail_if_success at_builtin);first|go_values|go_skip|go_guarded|go_step|go_upon|go_back)
 (refine(psure_ok _ b r1 all hR3 H0.out).mono ?_;rintro e1 w4 ⟨rfl,hb4⟩;dsimp only)
 have x4:IB w4 w2.heap.size _:=blk_below hb4 x3 (blk_lt x3)
 have q4:=blk_below hb4 q3 (blk_lt q3)
 have v4:IB w4 (w.heap.size+1) I.nil:=blk_below hb4 v3 (blk_lt v3)
 have hR4:=hR3.pure hb4
 have hF4:=hF3.then_below hb4
 clear x3 q3 v3 hR3 hF3 hb4 b0 b1 hk hk0
 have D4:DL w w4 w2.heap.size w.heap.size (w.heap.size+1) b lb sg { I.nil with op:=(op:Int) } r1 op all L:=⟨x4,hR4,q4,v4,hF4.blk HSB.out hnS.out,hF4.blk HL.out hnL.out,hF4⟩
 clear x4 q4 v4 hR4
 have x0:w4.cell? ⟨w2.heap.size,0,none⟩=some (.int .i64 (op:Int)):=blk_cell D4.hx 0
 have l1:=HL1.out w4 hF4
 have b5:(op:Int)<17:=by omega
 have b6:(0:Int)<=(op:Int):=by omega
 have hfl:(fds op).length<=4:=by
  have:op=1\/op=2\/op=3\/op=4\/op=5\/op=6\/op=7\/op=8\/op=9\/op=10\/op=11\/op=12\/op=13\/op=14\/op=15:=by have:=H2.out;have:=H3.out;omega
  rcases this with rfl|rfl|rfl|rfl|rfl|rfl|rfl|rfl|rfl|rfl|rfl|rfl|rfl|rfl|rfl <;> decide
 repeat' ((fail_if_success at_builtin);first|go_values|go_skip|go_guarded|go_step|go_upon|go_back)
 go_quiet (fail)
 clear x0 l1
 repeat' ((fail_if_success at_builtin);first|go_values|go_skip|go_guarded|go_step|go_upon|go_back)
 go_loopw [35] (fun i wr=>∃ (j:Nat) (x:I) (rr:RS),j<=(fds op).length/\i = .int .i64 j/\decF (fds op) { I.nil with op:=(op:Int) } r1=decF ((fds op).drop j) x rr/\DL w wr w2.heap.size w.heap.size (w.heap.size+1) b lb sg x rr op all L) (fun i _=>(fds op).length-(intOf i).toNat)
 case atStart=>exact⟨0,_,_,Nat.zero_le _,rfl,rfl,D4.below (bdrewN (Below.refl _ _) _)⟩
 case round =>
  obtain⟨j,x,rr,hj,rfl,hdec,hD⟩:=hrel
  have HDEC:=Lib.hid hdec
  clear hdec D4 hF4
  by_cases hlt:j<(fds op).length
  ·obtain⟨f,hf⟩:∃ f,(fds op)[j]? = some f:=⟨_,List.getElem?_eq_getElem hlt⟩
   obtain⟨f0,f1,f2⟩:=flat3 _ _ _ hf
   have hdr:(fds op).drop j=f :: (fds op).drop (j+1):=by
    rw[List.drop_eq_getElem_cons hlt];congr 1
    rw[List.getElem?_eq_getElem hlt] at hf;exact Option.some.inj hf
   have HDR:=Lib.hid hdr
   have k0:wr.cell? ⟨sg,j*3,none⟩=some (.func (.func f.atF) #[] #[]):=(blk_cell hD.hf _).trans ((by simpa using f0:_=some (fnV f.atF)))
   have k1:wr.cell? ⟨sg,j*3+1,none⟩=some (.func (.func f.mayF) #[] #[]):=(blk_cell hD.hf _).trans ((by simpa using f1:_=some (fnV f.mayF)))
   have k2:wr.cell? ⟨sg,j*3+2,none⟩=some (.bool f.one):=(blk_cell hD.hf _).trans (by simpa using f2)
   have hlt':(j:Int)<((fds op).length:Int):=by omega
   have hfl':((fds op).length:Int)<=4:=by omega
   have hat:=atF_enters f
   clear f0 f1 f2 hf hdr
   repeat' ((fail_if_success (with_reducible (show Code.wp _ (Code.region 8 _ _) _ _ _)));(fail_if_success at_builtin);first|go_values|go_skip|go_guarded|go_step|go_upon|go_back)
   clear k0 k1 k2
   have D5:=hD.below ((Below.refl _ wr).alloc (Nat.le_refl _) (.cells #[.func (.func f.atF) #[] #[],.func (.func f.mayF) #[] #[],.bool f.one] 271))
   have F5:=blk_new wr (.cells #[.func (.func f.atF) #[] #[],.func (.func f.mayF) #[] #[],.bool f.one] 271)
   generalize wr.alloc (.cells #[.func (.func f.atF) #[] #[],.func (.func f.mayF) #[] #[],.bool f.one] 271)=w5 at D5 F5 ⊢
   by_cases hone:f.one=true
   ·rw[hone] at F5
    obtain⟨a0,a1,a2,-⟩:=blk3 F5
    obtain⟨q0,q1,-,-⟩:=blk2 D5.hb
    have HONE:=Lib.hid hone
    clear hone
    repeat' ((fail_if_success at_builtin);first|go_values|go_skip|go_guarded|go_step|go_upon|go_back)
    have HS6:=fun(w6:World) (hF:Fr w5 w6 (fun k=>k=b))=>And.intro ((World.cell?_of_block (hF.block _ (blk_lt F5) (D5.hr.ne F5 (by decide)))).trans a0) ((World.cell?_of_block (hF.block _ (blk_lt D5.hb) (D5.hr.ne D5.hb (by decide)))).trans q0)
    have HS7:=fun(w6:World) (hF:Fr w5 w6 (fun k=>k=b)) (u:Value)=>And.intro ((World.cell?_of_block (Below.heap_setCell w6 ⟨w2.heap.size,f.off,none⟩ u wr.heap.size (blk_ne F5 D5.hx (by decide)))).trans (HS6 w6 hF).1) ((World.cell?_of_block (Below.heap_setCell w6 ⟨w2.heap.size,f.off,none⟩ u w.heap.size (blk_ne D5.hb D5.hx (by decide)))).trans (HS6 w6 hF).2)
    have hRV:Hid (w2.heap.size≠w.heap.size+1):=Lib.hid (by omega)
    have hXX:Hid (w.heap.size<=w2.heap.size):=Lib.hid (by omega)
    have hk2:(rr.byte.1.toNat:Int)<256:=by have:=byte_lt rr.byte.1;omega
    have hk3:(0:Int)<=(rr.byte.1.toNat:Int):=Int.natCast_nonneg _
    have hkw:IntKind.i64.wrap (rr.byte.1.toNat:Int)=(rr.byte.1.toNat:Int):=IntWalk.i64_in _ (by omega)
    go_region_held3 (fun w'=>w'.cell? ⟨wr.heap.size,0,none⟩=some (.func (.func f.atF) #[] #[])/\w'.cell? ⟨w.heap.size,0,none⟩=some (.pointer (some ⟨b,0,none⟩))) (first|exact⟨a0,q0⟩|exact HS6 _ hF6|exact HS7 _ hF6 _) (first|((with_reducible refine(at_any f _ _).mono ?_);rintro e1 w6 ⟨rfl,rfl⟩)|((with_reducible refine(byte_any _ b rr ?_).mono ?_);(first|exact D5.hr|exact D5.hr.drewN _);rintro e1 w6 ⟨rfl,hR6,hF6x⟩;have hF6:Fr w5 w6 (fun k=>k=b):=⟨hF6x.os,hF6x.tape,hF6x.output,hF6x.size,hF6x.block⟩;have D6:=D5.read hF6 hR6;obtain⟨s0,s1⟩:=D6.hx.get f;clear hF6x))
    have D7:=D6.put hXX.out hRV.out f (rr.byte.1.toNat:Int)
    clear a0 a1 a2 q0 q1 s0 s1 HS6 HS7 hR6 hF6 D6 F5 D5 hD
    repeat' ((fail_if_success (with_reducible (show Code.wp _ (Code.region 11 _ _) _ _ _)));(fail_if_success at_builtin);first|go_values|go_skip|go_guarded|go_step|go_upon|go_back)
    generalize w6.setCell ⟨w2.heap.size,f.off,none⟩ (.int .i64 (rr.byte.1.toNat:Int))=w7 at D7 ⊢
    obtain⟨q0,q1,-,-⟩:=blk2 D7.hb
    by_cases hE:rr.byte.2.e=0
    ·have HE2:=Lib.hid hE
     clear hE
     repeat' ((fail_if_success at_builtin);first|go_values|go_skip|go_guarded|go_step|go_upon|go_back)
     (refine(psure_ok _ b _ all D7.hr HE2.out).mono ?_;rintro e1 w8 ⟨rfl,hb8⟩;dsimp only)
     repeat' ((fail_if_success at_builtin);first|go_values|go_skip|go_guarded|go_step|go_upon|go_back)
     go_roundw
     case rel=>exact⟨j+1,_,_,by omega,by go_num,by rw[HDEC.out,HDR.out,decF_byte HONE.out HE2.out],D7.below hb8⟩
     case measure=>simp[intOf];omega
    ·have HE2:=Lib.hid hE
     clear hE
     repeat' ((fail_if_success at_builtin);first|go_values|go_skip|go_guarded|go_step|go_upon|go_back)
     (refine(psure_no _ b _ all D7.hr HE2.out).mono ?_;rintro e1 w8 ⟨rfl,hb8⟩;dsimp only)
     repeat' ((fail_if_success at_builtin);first|go_values|go_skip|go_guarded|go_step|go_upon|go_back)
     exact⟨rfl,HNO.out _ _ (decI_no (k:=k) HDI.out (by rw[HDEC.out,HDR.out,decF_byte_no HONE.out HE2.out]) HE2.out) HE2.out (D7.fr.then_below hb8)⟩
   ·have hone':f.one=false:=by simpa using hone
    rw[hone'] at F5
    obtain⟨a0,a1,a2,-⟩:=blk3 F5
    obtain⟨q0,q1,-,-⟩:=blk2 D5.hb
    have HONE:=Lib.hid hone'
    clear hone hone'
    repeat' ((fail_if_success at_builtin);first|go_values|go_skip|go_guarded|go_step|go_upon|go_back)
    have HS6:=fun(w6:World) (hF:Fr w5 w6 (fun k=>k=b))=>And.intro ((World.cell?_of_block (hF.block _ (blk_lt F5) (D5.hr.ne F5 (by decide)))).trans a0) ((World.cell?_of_block (hF.block _ (blk_lt D5.hb) (D5.hr.ne D5.hb (by decide)))).trans q0)
    have HS7:=fun(w6:World) (hF:Fr w5 w6 (fun k=>k=b)) (u:Value)=>And.intro ((World.cell?_of_block (Below.heap_setCell w6 ⟨w2.heap.size,f.off,none⟩ u wr.heap.size (blk_ne F5 D5.hx (by decide)))).trans (HS6 w6 hF).1) ((World.cell?_of_block (Below.heap_setCell w6 ⟨w2.heap.size,f.off,none⟩ u w.heap.size (blk_ne D5.hb D5.hx (by decide)))).trans (HS6 w6 hF).2)
    have hRV:Hid (w2.heap.size≠w.heap.size+1):=Lib.hid (by omega)
    have hXX:Hid (w.heap.size<=w2.heap.size):=Lib.hid (by omega)
    go_region_held3 (fun w'=>w'.cell? ⟨wr.heap.size,0,none⟩=some (.func (.func f.atF) #[] #[])/\w'.cell? ⟨w.heap.size,0,none⟩=some (.pointer (some ⟨b,0,none⟩))) (first|exact⟨a0,q0⟩|exact HS6 _ hF6|exact HS7 _ hF6 _) (first|((with_reducible refine(at_any f _ _).mono ?_);rintro e1 w6 ⟨rfl,rfl⟩)|((with_reducible refine(number_any _ b rr ?_).mono ?_);(first|exact D5.hr|exact D5.hr.drewN _);rintro e1 w6 ⟨rfl,hR6,hF6x⟩;have hF6:Fr w5 w6 (fun k=>k=b):=⟨hF6x.os,hF6x.tape,hF6x.output,hF6x.size,hF6x.block⟩;have D6:=D5.read hF6 hR6;obtain⟨s0,s1⟩:=D6.hx.get f;clear hF6x))
    have D7:=D6.put hXX.out hRV.out f (rr.number.1:Int)
    clear a0 a1 a2 q0 q1 s0 s1 HS6 HS7 hR6 hF6 D6 F5 D5 hD
    repeat' ((fail_if_success (with_reducible (show Code.wp _ (Code.region 11 _ _) _ _ _)));(fail_if_success at_builtin);first|go_values|go_skip|go_guarded|go_step|go_upon|go_back)
    generalize w6.setCell ⟨w2.heap.size,f.off,none⟩ (.int .i64 (rr.number.1:Int))=w7 at D7 ⊢
    obtain⟨q0,q1,-,-⟩:=blk2 D7.hb
    by_cases hE:rr.number.2.e=0
    ·have HE2:=Lib.hid hE
     clear hE
     repeat' ((fail_if_success at_builtin);first|go_values|go_skip|go_guarded|go_step|go_upon|go_back)
     (refine(psure_ok _ b _ all D7.hr HE2.out).mono ?_;rintro e1 w8 ⟨rfl,hb8⟩;dsimp only)
     repeat' ((fail_if_success at_builtin);first|go_values|go_skip|go_guarded|go_step|go_upon|go_back)
     go_roundw
     case rel=>exact⟨j+1,_,_,by omega,by go_num,by rw[HDEC.out,HDR.out,decF_num HONE.out HE2.out],D7.below hb8⟩
     case measure=>simp[intOf];omega
    ·have HE2:=Lib.hid hE
     clear hE
     repeat' ((fail_if_success at_builtin);first|go_values|go_skip|go_guarded|go_step|go_upon|go_back)
     (refine(psure_no _ b _ all D7.hr HE2.out).mono ?_;rintro e1 w8 ⟨rfl,hb8⟩;dsimp only)
     repeat' ((fail_if_success at_builtin);first|go_values|go_skip|go_guarded|go_step|go_upon|go_back)
     exact⟨rfl,HNO.out _ _ (decI_no (k:=k) HDI.out (by rw[HDEC.out,HDR.out,decF_num_no HONE.out HE2.out]) HE2.out) HE2.out (D7.fr.then_below hb8)⟩
  ·obtain rfl:j=(fds op).length:=by omega
   have hdec:=HDEC.out
   rw[List.drop_length] at hdec
   have HZ:=Lib.hid (hdec.trans (decF_nil x rr))
   have HOK:=Lib.hid (decI_ok (k:=k) HDI.out HZ.out)
   clear hdec HDEC hlt hj
   have l2:=HL2.out wr hD.fr
   have hop:x.op=(op:Int):=by
    have:=decF_op (fds op) { I.nil with op:=(op:Int) } r1
    rw[HZ.out] at this
    exact this
   have x0:wr.cell? ⟨w2.heap.size,0,none⟩=some (.int .i64 (op:Int)):=by have:=blk_cell hD.hx 0;rw[hop] at this;exact this
   clear hop
   have hrd:=hD.hr.le
   have HRD:=Lib.hid hrd
   have hRV:Hid (w2.heap.size≠w.heap.size+1):=Lib.hid (by omega)
   have hXX:Hid (w.heap.size<=w2.heap.size):=Lib.hid (by omega)
   clear hrd
   by_cases hV:hasV op=true
   ·have hok:=HOK.out
    rw[if_pos hV] at hok
    have HOK2:=Lib.hid hok
    rw[hV] at l2
    clear hok HOK hV
    repeat' ((fail_if_success at_builtin);first|go_values|go_skip|go_guarded|go_step|go_upon|go_back)
    go_quiet (fail)
    clear l2 x0
    have hD:=hD.drewN nq
    generalize wr.drewN nq=w5 at hD ⊢
    obtain⟨q0,q1,-,-⟩:=blk2 hD.hb
    have HB:=Lib.hid (show -9223372036854775808<=(all:Int)/\(all:Int)<9223372036854775808 by have:=HA.out;omega)
    repeat' ((fail_if_success (with_reducible (show Code.wp _ (Code.region 15 _ _) _ _ _)));(fail_if_success at_builtin);first|go_values|go_skip|go_guarded|go_step|go_upon|go_back)
    (refine(text_any w5 b _ hD.hr (all:Int) HB.out).mono ?_;rintro e1 w6 ⟨rfl,hR6,hF6⟩;dsimp only)
    have D6:=hD.read hF6 hR6
    clear hD hR6 hF6 q0 q1
    have hyl:=rr.text_len (all:Int)
    have HYL:=Lib.hid (Nat.le_trans hyl HRD.out)
    clear hyl
    obtain⟨y,r2,hty⟩:∃ y r2,rr.text (all:Int)=(y,r2):=⟨_,_,rfl⟩
    rw[hty] at D6 HYL HOK2 ⊢
    dsimp only at D6 HYL HOK2 ⊢
    clear hty
    obtain⟨q0,q1,-,-⟩:=blk2 D6.hb
    repeat' ((fail_if_success (with_reducible (show Code.wp _ (Code.region 15 _ _) _ _ _)));(fail_if_success at_builtin);first|go_values|go_skip|go_guarded|go_step|go_upon|go_back)
    by_cases hE:r2.e=0
    ·have HE2:=Lib.hid hE
     clear hE
     repeat' ((fail_if_success (with_reducible (show Code.wp _ (Code.region 16 _ _) _ _ _)));(fail_if_success at_builtin);first|go_values|go_skip|go_guarded|go_step|go_upon|go_back)
     (refine(psure_ok _ b _ all D6.hr HE2.out).mono ?_;rintro e1 w7 ⟨rfl,hb7⟩;dsimp only)
     have D7:=D6.below hb7
     clear D6 hb7 q0 q1
     obtain⟨hsb1,hsb2⟩:=sb_list w7 y
     have hcv:=run_sbytes w7 ⟨y.toArray⟩
     repeat' ((fail_if_success at_builtin);first|go_values|go_skip|go_guarded|go_step|go_upon|go_back)
     (refine(decV_any _ _ _ y hsb2 HYL.out).mono ?_;rintro e1 w8 ⟨rfl,hb8⟩;dsimp only)
     have D8:=(D7.below hsb1).below hb8
     clear hsb1 hsb2 hb8 D7 hcv
     have hok:=HOK2.out
     rw[if_neg (by rw[HE2.out];simp)] at hok
     have HOK3:=Lib.hid hok
     clear hok HOK2
     obtain⟨v,ev,hdv⟩:∃ v ev,decV y=(v,ev):=⟨_,_,rfl⟩
     rw[hdv] at HOK3 ⊢
     dsimp only [V.val] at HOK3 ⊢
     clear hdv
     have nw:=blk_new w8 (.cells #[.int .i64 v.k,.int .i64 v.i,.string ⟨v.t.toArray⟩] 177)
     have D9:=D8.below ((Below.refl _ w8).alloc (Nat.le_refl _) (.cells #[.int .i64 v.k,.int .i64 v.i,.string ⟨v.t.toArray⟩] 177))
     clear D8
     by_cases hE:ev=0
     ·have hok:=HOK3.out
      rw[if_neg (by rw[hE];simp)] at hok
      have HOK3:=Lib.hid hok
      subst hE
      clear hok
      repeat' ((fail_if_success (with_reducible (show Code.wp _ (Code.region 19 _ _) _ _ _)));(fail_if_success at_builtin);first|go_values|go_skip|go_guarded|go_step|go_upon|go_back)
      generalize w8.alloc (.cells #[.int .i64 v.k,.int .i64 v.i,.string ⟨v.t.toArray⟩] 177)=w9 at nw D9 ⊢
      obtain⟨n0,n1,n2,-⟩:=blk3 nw
      obtain⟨x0,x1,x2,x3,x4,x5,x6,x7⟩:=D9.hx.c
      obtain⟨f0,f1,f2,f3,f4,f5,f6,f7⟩:=D9.hx.f
      repeat' ((fail_if_success (with_reducible (show Code.wp _ (Code.region 20 _ _) _ _ _)));(fail_if_success at_builtin);first|go_values|go_skip|go_guarded|go_step|go_upon|go_back)
      have D10:=D9.setV hXX.out hRV.out v
      clear n0 n1 n2 x0 x1 x2 x3 x4 x5 x6 x7 f0 f1 f2 f3 f4 f5 f6 f7 D9 nw
      generalize ((w9.setCell ⟨w2.heap.size,5,none⟩ (.int .i64 v.k)).setCell ⟨w2.heap.size,6,none⟩ (.int .i64 v.i)).setCell ⟨w2.heap.size,7,none⟩ (.string ⟨v.t.toArray⟩)=w10 at D10 ⊢
      obtain⟨x0,x1,x2,x3,x4,x5,x6,x7⟩:=D10.hx.c
      obtain⟨v0,v1,v2,v3,v4,v5,v6,v7⟩:=D10.hv.c
      obtain⟨f0,f1,f2,f3,f4,f5,f6,f7⟩:=D10.hv.f
      dsimp only at x0 x1 x2 x3 x4 x5 x6 x7
      repeat' ((fail_if_success at_builtin);first|go_values|go_skip|go_guarded|go_step|go_upon|go_back)
      have hi:IB (setI w10 (w.heap.size+1) { x with v:=v }) (w.heap.size+1) { x with v:=v }:=D10.hv.set { x with v:=v }
      obtain⟨z0,z1,z2,z3,z4,z5,z6,z7⟩:=hi.c
      have hfin:=HYES.out { x with v:=v } r2 _ HOK3.out (setI_rd D10.hr D10.hv { x with v:=v }) (setI_fr D10.fr (by omega) { x with v:=v })
      unfold setI at z0 z1 z2 z3 z4 z5 z6 z7 hfin
      dsimp only at z0 z1 z2 z3 z4 z5 z6 z7 hfin
      clear x0 x1 x2 x3 x4 x5 x6 x7 v0 v1 v2 v3 v4 v5 v6 v7 f0 f1 f2 f3 f4 f5 f6 f7
      refine bodyPost_ret (v := .agg ({ x with v:=v }:I).cells) (by simp[results,Tryz.results258,go_sem,z0,z1,z2,z3,z4,z5,z6,z7,I.cells]) rfl hfin
     ·have hne:(ev != 0)=true:=by simpa using hE
      have HE3:=Lib.hid hE
      clear hE
      repeat' ((fail_if_success at_builtin);first|go_values|go_skip|go_guarded|go_step|go_upon|go_back)
      exact⟨rfl,HNO.out _ _ (by rw[HOK3.out,if_pos HE3.out]) HE3.out D9.fr⟩
    ·have HE2:=Lib.hid hE
     clear hE
     repeat' ((fail_if_success at_builtin);first|go_values|go_skip|go_guarded|go_step|go_upon|go_back)
     (refine(psure_no _ b _ all D6.hr HE2.out).mono ?_;rintro e1 w7 ⟨rfl,hb7⟩;dsimp only)
     repeat' ((fail_if_success at_builtin);first|go_values|go_skip|go_guarded|go_step|go_upon|go_back)
     exact⟨rfl,HNO.out _ _ (by rw[HOK2.out,if_pos HE2.out]) HE2.out (D6.fr.then_below hb7)⟩
   ·have hV':hasV op=false:=by simpa using hV
    have hok:=HOK.out
    rw[if_neg (by rw[hV'];simp)] at hok
    have HOK2:=Lib.hid hok
    rw[hV'] at l2
    clear hok HOK hV hV'
    repeat' ((fail_if_success at_builtin);first|go_values|go_skip|go_guarded|go_step|go_upon|go_back)
    go_quiet (fail)
    clear l2 x0
    have hD:=hD.drewN nq
    generalize wr.drewN nq=w5 at hD ⊢
    obtain⟨x0,x1,x2,x3,x4,x5,x6,x7⟩:=hD.hx.c
    obtain⟨v0,v1,v2,v3,v4,v5,v6,v7⟩:=hD.hv.c
    obtain⟨f0,f1,f2,f3,f4,f5,f6,f7⟩:=hD.hv.f
    repeat' ((fail_if_success at_builtin);first|go_values|go_skip|go_guarded|go_step|go_upon|go_back)
    have hi:IB (setI w5 (w.heap.size+1) x) (w.heap.size+1) x:=hD.hv.set x
    obtain⟨z0,z1,z2,z3,z4,z5,z6,z7⟩:=hi.c
    have hfin:=HYES.out x rr _ HOK2.out (setI_rd hD.hr hD.hv x) (setI_fr hD.fr (by omega) x)
    unfold setI at z0 z1 z2 z3 z4 z5 z6 z7 hfin
    clear x0 x1 x2 x3 x4 x5 x6 x7 v0 v1 v2 v3 v4 v5 v6 v7 f0 f1 f2 f3 f4 f5 f6 f7
    refine bodyPost_ret (v := .agg x.cells) (by simp[results,Tryz.results258,go_sem,z0,z1,z2,z3,z4,z5,z6,z7,I.cells]) rfl hfin
set_option maxRecDepth 20000 in
theorem rinstr_16(w:World)(b lb n0:Nat)(L:Array Value)(hL:w.heap[lb]? = some (.cells L 266 (0,0)))(hS:Shp w n0 L [1,2,3,4,5,6,7,8,9,10,11,12,13,14,15])(r:RS)(all:Nat)(hR:Rd w b r)(k:UInt8)(r1:RS)(he:r.byte=(k,r1))(h0:r1.e=0)(h1:k.toNat=16)(Q:Ending->World->Prop)
  (hyes:∀ x r2 w',decI all r=(x,r2,0)->Rd w' b r2->Fr w w' (fun k=>k=b)->Q (.returned (.agg x.cells)) w') :
  Calls Tryz.prog 258 #[.agg #[.pointer (some ⟨b,0,none⟩),.int .i64 (all:Int)],.pointer (some ⟨lb,0,none⟩)] w Q:=by
 have HDI:=Lib.hid ((decI_eq (all:=all) he h0 16 h1 (by omega) (by omega)).trans (show _=(({ I.nil with op:=((16:Nat):Int) }:I),r1,(0:Int)) from rfl))
 obtain⟨s1,s2⟩:=(hS.2 16 (by omega)).2 (by decide)
 have l1:∀ w',Fr w w' (fun k=>k=b)->w'.cell? ⟨lb,32,none⟩=some (.slice none 0 0):=fun w' hf=>(blk_cell (hf.blk hL (hR.ne hL (by decide))) _).trans s1
 have l2:∀ w',Fr w w' (fun k=>k=b)->w'.cell? ⟨lb,33,none⟩=some (.bool false):=fun w' hf=>(blk_cell (hf.blk hL (hR.ne hL (by decide))) _).trans s2
 have HL1:=Lib.hid l1
 have HL2:=Lib.hid l2
 have H1:=Lib.hid h1
 have HYES:=Lib.hid hyes
 have H0:=Lib.hid h0
 clear l1 l2 hL hS s1 s2 h1 hyes h0
 have HE:=Lib.hid he
 clear he
 have hb0:Below w.heap.size w ((w.alloc (.cells #[.pointer (some ⟨b,0,none⟩),.int .i64 (all:Int)] 347)).alloc (.cells #[.int .i64 0,.int .i64 0,.int .i64 0,.int .i64 0,.int .i64 0,.int .i64 0,.int .i64 0,.string ⟨#[]⟩] 179)):=by(repeat' (first|(with_reducible exact Below.refl _ _)|(with_reducible assumption)|(with_reducible refine Below.drew ?_)|(with_reducible refine bdrewN ?_ _)|(with_reducible refine Below.alloc ?_ ?_ _)|(with_reducible refine Below.setCell ?_ ?_ _)|omega|(simp;done)|(simp;omega)))
 have hR0:=hR.pure hb0
 have q0:((w.alloc (.cells #[.pointer (some ⟨b,0,none⟩),.int .i64 (all:Int)] 347)).alloc (.cells #[.int .i64 0,.int .i64 0,.int .i64 0,.int .i64 0,.int .i64 0,.int .i64 0,.int .i64 0,.string ⟨#[]⟩] 179)).heap[w.heap.size]? = some (.cells #[.pointer (some ⟨b,0,none⟩),.int .i64 (all:Int)] 347 (0,0)):=blk_alloc (blk_new _ _) _
 have v0:IB ((w.alloc (.cells #[.pointer (some ⟨b,0,none⟩),.int .i64 (all:Int)] 347)).alloc (.cells #[.int .i64 0,.int .i64 0,.int .i64 0,.int .i64 0,.int .i64 0,.int .i64 0,.int .i64 0,.string ⟨#[]⟩] 179)) (w.heap.size+1) I.nil:=blk_new1 _ _ _
 have hsz0:((w.alloc (.cells #[.pointer (some ⟨b,0,none⟩),.int .i64 (all:Int)] 347)).alloc (.cells #[.int .i64 0,.int .i64 0,.int .i64 0,.int .i64 0,.int .i64 0,.int .i64 0,.int .i64 0,.string ⟨#[]⟩] 179)).heap.size=w.heap.size+2:=by simp
 obtain⟨a0,a1,-,-⟩:=blk2 q0
 go_enter Tryz.func258,Tryz.ntmps258
 repeat' ((fail_if_success at_builtin);first|go_values|go_skip|go_guarded|go_step|go_upon|go_back)
 clear a0 a1
 generalize ((w.alloc (.cells #[.pointer (some ⟨b,0,none⟩),.int .i64 (all:Int)] 347)).alloc (.cells #[.int .i64 0,.int .i64 0,.int .i64 0,.int .i64 0,.int .i64 0,.int .i64 0,.int .i64 0,.string ⟨#[]⟩] 179))=W at hb0 hR0 q0 v0 hsz0 ⊢
 have HSZ:=Lib.hid hsz0
 clear hsz0
 (refine(byte_any W b _ hR0).mono ?_;rintro e1 w2 ⟨rfl,hR2,hF2⟩;dsimp only)
 rw[HE.out] at hR2 ⊢
 dsimp only at hR2 ⊢
 have q2:=hF2.blk q0 (hR0.ne q0 (by decide))
 have v2:IB w2 (w.heap.size+1) I.nil:=hF2.blk v0 (hR0.ne v0 (by decide))
 have hk:(k.toNat:Int)<256:=by have:=byte_lt k;omega
 have hk0:(0:Int)<=(k.toNat:Int):=Int.natCast_nonneg _
 have hs2:w.heap.size+2<=w2.heap.size:=by have:=hF2.size;have:=HSZ.out;omega
 have hF0:Fr w w2 (fun k=>k=b):=(Fr.pure hb0 _).trans hF2 (fun _ _ h _=>h)
 clear hb0 hR0 hF2 q0 v0
 repeat' ((fail_if_success (with_reducible (show Code.wp _ (Code.region 2 _ _) _ _ _)));(fail_if_success at_builtin);first|go_values|go_skip|go_guarded|go_step|go_upon|go_back)
 have hb3:Below w2.heap.size w2 (w2.alloc (.cells #[.int .i64 (k.toNat:Int),.int .i64 0,.int .i64 0,.int .i64 0,.int .i64 0,.int .i64 0,.int .i64 0,.string ⟨#[]⟩] 179)):=(Below.refl _ _).alloc (Nat.le_refl _) _
 have x3:IB (w2.alloc (.cells #[.int .i64 (k.toNat:Int),.int .i64 0,.int .i64 0,.int .i64 0,.int .i64 0,.int .i64 0,.int .i64 0,.string ⟨#[]⟩] 179)) w2.heap.size { I.nil with op:=(k.toNat:Int) }:=blk_new _ _
 have q3:=blk_below hb3 q2 (blk_lt q2)
 have v3:IB (w2.alloc (.cells #[.int .i64 (k.toNat:Int),.int .i64 0,.int .i64 0,.int .i64 0,.int .i64 0,.int .i64 0,.int .i64 0,.string ⟨#[]⟩] 179)) (w.heap.size+1) I.nil:=blk_below hb3 v2 (blk_lt v2)
 have hR3:=hR2.pure hb3
 have hF3:=hF0.then_below hb3
 clear q2 v2 hR2 hF0 hb3
 generalize w2.alloc (.cells #[.int .i64 (k.toNat:Int),.int .i64 0,.int .i64 0,.int .i64 0,.int .i64 0,.int .i64 0,.int .i64 0,.string ⟨#[]⟩] 179)=w3 at x3 q3 v3 hR3 hF3 ⊢
 obtain⟨b0,b1,-,-⟩:=blk2 q3
 rw[H1.out] at x3 ⊢
 repeat' ((fail_if_success (with_reducible (show Code.wp _ (Code.region 3 _ _) _ _ _)));(fail_if_success at_builtin);first|go_values|go_skip|go_guarded|go_step|go_upon|go_back)
 (refine(psure_ok _ b r1 all hR3 H0.out).mono ?_;rintro e1 w4 ⟨rfl,hb4⟩;dsimp only)
 have x4:IB w4 w2.heap.size ({ I.nil with op:=((16:Nat):Int) }:I):=blk_below hb4 x3 (blk_lt x3)
 have v4:IB w4 (w.heap.size+1) I.nil:=blk_below hb4 v3 (blk_lt v3)
 have hR4:=hR3.pure hb4
 have hF4:=hF3.then_below hb4
 clear x3 q3 v3 hR3 hF3 hb4 b0 b1 hk hk0
 have x0:w4.cell? ⟨w2.heap.size,0,none⟩=some (.int .i64 16):=blk_cell x4 0
 have l1:=HL1.out w4 hF4
 have l2:=HL2.out w4 hF4
 repeat' ((fail_if_success at_builtin);first|go_values|go_skip|go_guarded|go_step|go_upon|go_back)
 go_quiet (fail)
 clear x0 l1 l2
 have x5:IB (w4.drewN nq) w2.heap.size ({ I.nil with op:=((16:Nat):Int) }:I):=x4
 have v5:IB (w4.drewN nq) (w.heap.size+1) I.nil:=v4
 have hR5:=hR4.drewN nq
 have hF5:=hF4.drewN nq
 clear x4 v4 hR4 hF4
 generalize w4.drewN nq=w5 at x5 v5 hR5 hF5 ⊢
 have x0:w5.cell? ⟨w2.heap.size,0,none⟩=some (.int .i64 16):=blk_cell x5 0
 have l1:=HL1.out w5 hF5
 have l2:=HL2.out w5 hF5
 repeat' ((fail_if_success at_builtin);first|go_values|go_skip|go_guarded|go_step|go_upon|go_back)
 refine wp_loop_rounds 1 ?_;rw[rounds_succ]
 repeat' ((fail_if_success at_builtin);first|go_values|go_skip|go_guarded|go_step|go_upon|go_back)
 go_quiet (fail)
 clear x0 l1 l2
 have x6:IB (w5.drewN nq) w2.heap.size ({ I.nil with op:=((16:Nat):Int) }:I):=x5
 have v6:IB (w5.drewN nq) (w.heap.size+1) I.nil:=v5
 have hR6:=hR5.drewN nq
 have hF6:=hF5.drewN nq
 clear x5 v5 hR5 hF5
 generalize w5.drewN nq=w6 at x6 v6 hR6 hF6 ⊢
 generalize ({ I.nil with op:=((16:Nat):Int) }:I)=x at x6 HDI
 obtain⟨x0,x1,x2,x3,x4,x5,x6',x7⟩:=x6.c
 obtain⟨v0,v1,v2,v3,v4,v5,v6',v7⟩:=v6.c
 obtain⟨f0,f1,f2,f3,f4,f5,f6,f7⟩:=v6.f
 repeat' ((fail_if_success at_builtin);first|go_values|go_skip|go_guarded|go_step|go_upon|go_back)
 have hi:IB (setI w6 (w.heap.size+1) x) (w.heap.size+1) x:=v6.set x
 obtain⟨z0,z1,z2,z3,z4,z5,z6,z7⟩:=hi.c
 have hfin:=HYES.out x r1 _ HDI.out (setI_rd hR6 v6 x) (setI_fr hF6 (by omega) x)
 unfold setI at z0 z1 z2 z3 z4 z5 z6 z7 hfin
 clear x0 x1 x2 x3 x4 x5 x6' x7 v0 v1 v2 v3 v4 v5 v6' v7 f0 f1 f2 f3 f4 f5 f6 f7
 refine bodyPost_ret (v := .agg x.cells) (by simp[results,Tryz.results258,go_sem,z0,z1,z2,z3,z4,z5,z6,z7,I.cells]) rfl hfin
theorem rinstr_any(w:World)(b lb n0:Nat)(L:Array Value)(hL:w.heap[lb]? = some (.cells L 266 (0,0)))(hS:Shp w n0 L [1,2,3,4,5,6,7,8,9,10,11,12,13,14,15])(r:RS)(all:Nat)(hR:Rd w b r)(ha:all<=17592186044416)(Q:Ending->World->Prop)
  (hno:∀ e w',(decI all r).2.2=e->e≠0->Fr w w' (fun k=>k=b)->Q (refE e) w')
  (hyes:∀ x r2 w',decI all r=(x,r2,0)->Rd w' b r2->Fr w w' (fun k=>k=b)->Q (.returned (.agg x.cells)) w') :
  Calls Tryz.prog 258 #[.agg #[.pointer (some ⟨b,0,none⟩),.int .i64 (all:Int)],.pointer (some ⟨lb,0,none⟩)] w Q:=by
 obtain⟨k,r1,he⟩:∃ k r1,r.byte=(k,r1):=⟨_,_,rfl⟩
 by_cases h0:r1.e=0
 ·by_cases h1:k.toNat<1\/16<k.toNat
  ·refine(rinstr_op w b lb r all hR k r1 he h0 h1).mono ?_
   rintro e w' ⟨rfl,hF⟩
   refine hno 16 w' ?_ (by decide) hF
   unfold decI;rw[he];dsimp only;rw[if_neg (by simp[h0]),if_pos h1]
  ·by_cases h2:k.toNat=16
   ·exact rinstr_16 w b lb n0 L hL hS r all hR k r1 he h0 h2 Q hyes
   ·exact rinstr_go w b lb n0 L hL hS r all hR k r1 he h0 k.toNat rfl (by omega) (by omega) ha Q hno hyes
 ·refine(rinstr_byte w b lb r all hR k r1 he h0).mono ?_
  rintro e w' ⟨rfl,hF⟩
  refine hno r1.e w' ?_ h0 hF
  unfold decI;rw[he];dsimp only;rw[if_pos h0]
end Go.Proofs.YtbppnihcbcdglaaGreat
