/- manifest.Decode. No condition. -/
import Derived.Laws.EntriesVeiled
import Derived.Test.YtbppnihcbcdglaaGreatZ1
import Derived.Test.YtbppnihcbcdglaaGreatZ3
import Derived.Test.YtbppnihcbcdglaaGreatZ15
import Derived.Test.YtbppnihcbcdglaaGreatZ19
import Derived.Test.YtbppnihcbcdglaaGreatZ20
namespace Go.Proofs.YtbppnihcbcdglaaGreat
set_option maxHeartbeats 0
open Go.RowKit
set_option linter.unusedVariables false
set_option linter.unusedSimpArgs false
set_option maxRecDepth 20000 in
theorem form_any(w:World)(b:Bool):Calls Tryz.prog 209 #[.bool b] w fun e w'=>e = .returned (.int .i64 (if b then 0 else 3))/\w=w':=by
 cases b with
 | true =>
  go_enter Tryz.func209,Tryz.ntmps209
  repeat' ((fail_if_success at_builtin);first|go_values|go_skip|go_guarded|go_step|go_upon|go_back)
  refine bodyPost_ret (results_tmp rfl _ _ _) rfl ⟨rfl,rfl⟩
 | false =>
  go_enter Tryz.func209,Tryz.ntmps209
  repeat' ((fail_if_success at_builtin);first|go_values|go_skip|go_guarded|go_step|go_upon|go_back)
  refine bodyPost_ret (results_tmp rfl _ _ _) rfl ⟨rfl,rfl⟩
set_option maxRecDepth 20000 in
theorem numbers_any(w:World)(g:Nat):Calls Tryz.prog 214 #[.pointer (some ⟨g,0,none⟩)] w fun e w'=>∃ k,w.heap.size<=k/\e = .returned (.slice (some ⟨k,0,none⟩) 5 5)/\w'.heap[k]? = some (.cells #[.pointer (some ⟨g,0,none⟩),.pointer (some ⟨g,1,none⟩),.pointer (some ⟨g,2,none⟩),.pointer (some ⟨g,3,none⟩),.pointer (some ⟨g,4,none⟩)] 272 (0,0))/\Below w.heap.size w w':=by
 go_enter Tryz.func214,Tryz.ntmps214
 repeat' ((fail_if_success at_builtin);first|go_values|go_skip|go_guarded|go_step|go_upon|go_back)
 go_region
 repeat' ((fail_if_success at_builtin);first|go_values|go_skip|go_guarded|go_step|go_upon|go_back)
 refine bodyPost_ret (results_tmp rfl _ _ _) rfl ?_
 exact⟨_,Nat.le_refl _,rfl,blk_new _ _,((Below.refl _ w).alloc (Nat.le_refl _) _).drew⟩
structure MX (w:World) (n0 x b g f k h z:Nat) (zc:Array Value) (r:RS) (m:Mf) (s:Bs):Prop where
 nb:n0<=b
 ng:n0<=g
 nh:n0<=h
 hx:w.heap[x]? = some (.cells #[.pointer (some ⟨b,0,none⟩)] 99 (0,0))
 hm:w.heap[g]? = some (.cells m.cells 46 (0,0))
 hf:w.heap[f]? = some (.cells #[.func (.func 209) #[] #[]] 307 (0,0))
 hk:w.heap[k]? = some (.cells #[.func (.func 210) #[] #[.pointer (some ⟨x,0,none⟩)]] 103 (0,0))
 hh:w.heap[h]? = some (.cells #[.string ⟨s.toArray⟩] 9 (0,0))
 hz:w.heap[z]? = some (.cells zc 103 (0,0))
 rd:Rd w b r
theorem MX.pure{w w':World}{n0 x b g f k h z:Nat}{zc:Array Value}{r:RS}{m:Mf}{s:Bs}(H:MX w n0 x b g f k h z zc r m s)(hb:Below w.heap.size w w'):MX w' n0 x b g f k h z zc r m s :=
 ⟨H.nb,H.ng,H.nh,blk_below hb H.hx (blk_lt H.hx),blk_below hb H.hm (blk_lt H.hm),blk_below hb H.hf (blk_lt H.hf),blk_below hb H.hk (blk_lt H.hk),blk_below hb H.hh (blk_lt H.hh),blk_below hb H.hz (blk_lt H.hz),Rd.pure H.rd hb⟩
theorem MX.step{w w':World}{n0 x b g f k h z:Nat}{zc:Array Value}{r r':RS}{m:Mf}{s:Bs}(H:MX w n0 x b g f k h z zc r m s)(hr:Rd w' b r')(hF:Fr w w' (fun k=>k=b)):MX w' n0 x b g f k h z zc r' m s/\Below n0 w w':=by
 have key:∀ (j:Nat) (c:Array Value) (t:TypeId),w.heap[j]? = some (.cells c t (0,0))->t≠207->w'.heap[j]? = some (.cells c t (0,0)):=fun j c t hj ht=>(hF.block j (blk_lt hj) (fun e=>Rd.ne H.rd hj ht e)).trans hj
 refine⟨⟨H.nb,H.ng,H.nh,key _ _ _ H.hx (by decide),key _ _ _ H.hm (by decide),key _ _ _ H.hf (by decide),key _ _ _ H.hk (by decide),key _ _ _ H.hh (by decide),key _ _ _ H.hz (by decide),hr⟩,⟨hF.os,hF.tape,hF.output,hF.size,fun j hj=>?_⟩⟩
 by_cases e:j<w.heap.size
 ·exact hF.block j e (by have:=H.nb;omega)
 ·have:=Rd.lt H.rd;have:=H.nb;omega
theorem MX.head{w:World}{n0 x b g f k h z:Nat}{zc:Array Value}{r:RS}{m:Mf}{s:Bs}(H:MX w n0 x b g f k h z zc r m s)(s':Bs):MX (w.setCell ⟨h,0,none⟩ (.string ⟨s'.toArray⟩)) n0 x b g f k h z zc r m s'/\Below n0 w (w.setCell ⟨h,0,none⟩ (.string ⟨s'.toArray⟩)):=by
 have ne:∀ (j:Nat) (c:Array Value) (t:TypeId),w.heap[j]? = some (.cells c t (0,0))->t≠9->j≠h:=fun j c t hj ht=>blk_ne hj H.hh ht
 refine⟨⟨H.nb,H.ng,H.nh,blk_set_other H.hx (ne _ _ _ H.hx (by decide)) _ _,blk_set_other H.hm (ne _ _ _ H.hm (by decide)) _ _,blk_set_other H.hf (ne _ _ _ H.hf (by decide)) _ _,blk_set_other H.hk (ne _ _ _ H.hk (by decide)) _ _,blk_set H.hh 0 _,blk_set_other H.hz (ne _ _ _ H.hz (by decide)) _ _,Rd.setO H.rd H.hh ?_ (Rd.ne H.rd H.hh (by decide)).symm 0 _⟩,(Below.refl _ _).setCell (p:=⟨h,0,none⟩) H.nh _⟩
 intro v hv u
 obtain rfl:v=_:=by simpa using hv
 simp[B]
def Mf.set(m:Mf):Nat->Int->Mf
 | 0,v=>{ m with number:=v }
 | 1,v=>{ m with file:=v }
 | 2,v=>{ m with mark:=v }
 | 3,v=>{ m with prev:=v }
 | _,v=>{ m with pmark:=v }
theorem MX.num{w:World}{n0 x b g f k h z:Nat}{zc:Array Value}{r:RS}{m:Mf}{s:Bs}(H:MX w n0 x b g f k h z zc r m s)(i:Nat)(hi:i<5)(v:Int):MX (w.setCell ⟨g,i,none⟩ (.int .i64 v)) n0 x b g f k h z zc r (m.set i v) s/\Below n0 w (w.setCell ⟨g,i,none⟩ (.int .i64 v)):=by
 have ne:∀ (j:Nat) (c:Array Value) (t:TypeId),w.heap[j]? = some (.cells c t (0,0))->t≠46->j≠g:=fun j c t hj ht=>blk_ne hj H.hm ht
 refine⟨⟨H.nb,H.ng,H.nh,blk_set_other H.hx (ne _ _ _ H.hx (by decide)) _ _,(blk_set H.hm i _).trans ?_,blk_set_other H.hf (ne _ _ _ H.hf (by decide)) _ _,blk_set_other H.hk (ne _ _ _ H.hk (by decide)) _ _,blk_set_other H.hh (ne _ _ _ H.hh (by decide)) _ _,blk_set_other H.hz (ne _ _ _ H.hz (by decide)) _ _,Rd.setO H.rd H.hm ?_ (Rd.ne H.rd H.hm (by decide)).symm i _⟩,(Below.refl _ _).setCell (p:=⟨g,i,none⟩) H.ng _⟩
 ·match i,hi with
  | 0,_=>rfl
  | 1,_=>rfl
  | 2,_=>rfl
  | 3,_=>rfl
  | 4,_=>rfl
 ·intro v hv u
  simp only[Mf.cells,List.mem_cons,List.not_mem_nil,or_false] at hv
  rcases hv with rfl|rfl|rfl|rfl|rfl <;> simp[B]
theorem err_any(w:World)(b:Nat)(r:RS)(h:Rd w b r) :
  Calls Tryz.prog 120 #[.pointer (some ⟨b,0,none⟩)] w fun e' w'=>(∃ v,e' = .returned (.tuple #[.int .i64 r.e,v]))/\Below w.heap.size w w':=by
 by_cases h0:r.e=0
 ·refine(err_no w b r h h0).mono ?_
  rintro e w' ⟨rfl,n,rfl⟩
  exact⟨⟨_,by rw[h0]⟩,bdrewN (Below.refl _ _) n⟩
 ·refine(err_yes w b r h h0).mono ?_
  rintro e w' ⟨rfl,n,rfl⟩
  exact⟨⟨_,rfl⟩,bdrewN (Below.refl _ _) n⟩
set_option maxRecDepth 20000 in
theorem taken_any(w:World)(x b:Nat)(r:RS)(hx:w.heap[x]? = some (.cells #[.pointer (some ⟨b,0,none⟩)] 99 (0,0)))(hr:Rd w b r) :
  Calls Tryz.prog 210 #[.pointer (some ⟨x,0,none⟩)] w fun e' w'=>e' = .returned (.int .i64 r.e)/\Below w.heap.size w w':=by
 have q:=blk1 hx
 go_enter Tryz.func210,Tryz.ntmps210
 repeat' ((fail_if_success at_builtin);first|go_values|go_skip|go_guarded|go_step|go_upon|go_back)
 (refine(err_any w b r hr).mono ?_;rintro e1 w1 ⟨⟨v,rfl⟩,hb⟩;dsimp only)
 repeat' ((fail_if_success at_builtin);first|go_values|go_skip|go_guarded|go_step|go_upon|go_back)
 refine bodyPost_ret (results_tmp rfl _ _ _) rfl ⟨rfl,hb⟩
set_option maxRecDepth 20000 in
theorem head_any(w:World){n0 x b g f k h z:Nat}{zc:Array Value}{r:RS}{m:Mf}{s:Bs}(H:MX w n0 x b g f k h z zc r m s) :
  Calls Tryz.prog 211 #[.pointer (some ⟨x,0,none⟩),.pointer (some ⟨h,0,none⟩),.pointer (some ⟨k,0,none⟩)] w fun e' w'=>e' = .returned (.int .i64 (r.text 8).2.e)/\MX w' n0 x b g f k h z zc (r.text 8).2 m (r.text 8).1/\Below n0 w w':=by
 have q:=blk1 H.hx
 have HH:=Lib.hid H
 clear H
 go_enter Tryz.func211,Tryz.ntmps211
 repeat' ((fail_if_success at_builtin);first|go_values|go_skip|go_guarded|go_step|go_upon|go_back)
 (refine(text_any w b r HH.out.rd 8 (by omega)).mono ?_;rintro e1 w1 ⟨rfl,hR,hF⟩;dsimp only)
 obtain⟨hM1,hb1⟩:=HH.out.step hR hF
 obtain⟨hM2,hb2⟩:=hM1.head (r.text 8).1
 have q1:=blk1 hM1.hh
 have q2:=blk1 hM2.hk
 have HB2:=Lib.hid (hb1.trans hb2)
 have HM2:=Lib.hid hM2
 clear hM1 hb1 hM2 hb2 q hR hF
 repeat' ((fail_if_success at_builtin);first|go_values|go_skip|go_guarded|go_step|go_upon|go_back)
 (refine(taken_any _ x b _ HM2.out.hx HM2.out.rd).mono ?_;rintro e1 w3 ⟨rfl,hb3⟩;dsimp only)
 have HM3:=Lib.hid (HM2.out.pure hb3)
 have HB3:=Lib.hid (HB2.out.trans (hb3.mono (by have:=HM2.out.nb;have:=Rd.lt HM2.out.rd;omega)))
 clear hb3 q1 q2
 repeat' ((fail_if_success at_builtin);first|go_values|go_skip|go_guarded|go_step|go_upon|go_back)
 refine bodyPost_ret (results_tmp rfl _ _ _) rfl ⟨rfl,HM3.out,HB3.out⟩
set_option maxRecDepth 20000 in
theorem same_any(w:World){n0 x b g f k h z:Nat}{zc:Array Value}{r:RS}{m:Mf}{s:Bs}(H:MX w n0 x b g f k h z zc r m s) :
  Calls Tryz.prog 212 #[.pointer (some ⟨f,0,none⟩),.pointer (some ⟨h,0,none⟩)] w fun e' w'=>e' = .returned (.int .i64 (if s=manN then 0 else 3))/\w=w':=by
 have q1:=blk1 H.hf
 have q2:=blk1 H.hh
 clear H
 go_enter Tryz.func212,Tryz.ntmps212
 repeat' ((fail_if_success at_builtin);first|go_values|go_skip|go_guarded|go_step|go_upon|go_back)
 (refine(form_any w (s==[109,97,110,105,102,101,115,116])).mono ?_;rintro e1 w1 ⟨rfl,rfl⟩;dsimp only)
 repeat' ((fail_if_success at_builtin);first|go_values|go_skip|go_guarded|go_step|go_upon|go_back)
 refine bodyPost_ret (results_tmp rfl _ _ _) rfl ?_
 refine⟨congrArg (fun v=>Ending.returned (.int .i64 v)) ?_,rfl⟩
 by_cases h:s=manN
 ·rw[if_pos h,h];rfl
 ·rw[if_neg h,if_neg (by simpa [manN] using h)]
set_option maxRecDepth 20000 in
theorem nums_any(w:World){n0 x b g f k h z:Nat}{zc:Array Value}{r:RS}{m:Mf}{s:Bs}(H:MX w n0 x b g f k h z zc r m s) :
  Calls Tryz.prog 213 #[.pointer (some ⟨g,0,none⟩),.pointer (some ⟨x,0,none⟩),.pointer (some ⟨k,0,none⟩)] w fun e' w' =>
   e' = .returned (.int .i64 r.number.2.number.2.number.2.number.2.number.2.e)/\MX w' n0 x b g f k h z zc r.number.2.number.2.number.2.number.2.number.2 ⟨r.number.1,r.number.2.number.1,r.number.2.number.2.number.1,r.number.2.number.2.number.2.number.1,r.number.2.number.2.number.2.number.2.number.1⟩ s/\Below n0 w w':=by
 have HH:=Lib.hid H
 clear H
 go_enter Tryz.func213,Tryz.ntmps213
 repeat' ((fail_if_success at_builtin);first|go_values|go_skip|go_guarded|go_step|go_upon|go_back)
 (refine(numbers_any w g).mono ?_;rintro e1 w1 ⟨sk,hsk,rfl,hS,hb1⟩;dsimp only)
 have HM:=Lib.hid (HH.out.pure hb1)
 have HH0:=HH
 clear HH
 repeat' ((fail_if_success at_builtin);first|go_values|go_skip|go_guarded|go_step|go_upon|go_back)
 have HB:=Lib.hid (hb1.mono (Nat.le_of_lt (Nat.lt_of_le_of_lt HH0.out.nb (Rd.lt HH0.out.rd))))
 have ht:sk≠b/\sk≠g:=⟨Rd.ne HM.out.rd hS (by decide),blk_ne hS HM.out.hm (by decide)⟩
 clear hb1
 refine wp_loop_rounds 6 ?_
 (rw[rounds_succ];have q:=(blk1 HM.out.hx).1;have qs:=blk_cell hS 0;simp only[List.getElem?_toArray,List.getElem?_cons_zero,List.getElem?_cons_succ] at qs;(repeat' ((fail_if_success at_builtin);first|go_values|go_skip|go_guarded|go_step|go_upon|go_back));(refine(number_any _ b _ HM.out.rd).mono ?_;rintro e1 w2 ⟨rfl,hR,hF⟩;dsimp only);obtain⟨hM2,hb2⟩:=HM.out.step hR hF;have fz:=blk_free hM2.hm 0;have cz:w2.cell? ⟨g,0,none⟩=some (.int .i64 (m.number)):=blk_cell hM2.hm 0;obtain⟨hM3,hb3⟩:=hM2.num 0 (by omega) (((r).number.1:Nat):Int);have hS3:=blk_set_other ((hF.block sk (blk_lt hS) ht.1).trans hS) ht.2 0 (.int .i64 (((r).number.1:Nat):Int));have HM3:=Lib.hid hM3;have HB3:=Lib.hid ((HB.out.trans hb2).trans hb3);clear HM HB q qs hS hM2 hM3 hb2 hb3 hR hF;(repeat' ((fail_if_success at_builtin);first|go_values|go_skip|go_guarded|go_step|go_upon|go_back));clear fz cz;generalize w2.setCell ⟨g,0,none⟩ (.int .i64 (((r).number.1:Nat):Int))=w3 at hS3 HM3 HB3 ⊢;have HM:=HM3;have HB:=HB3;have hS:=hS3;clear HM3 HB3 hS3)
 (rw[rounds_succ];have q:=(blk1 HM.out.hx).1;have qs:=blk_cell hS 1;simp only[List.getElem?_toArray,List.getElem?_cons_zero,List.getElem?_cons_succ] at qs;(repeat' ((fail_if_success at_builtin);first|go_values|go_skip|go_guarded|go_step|go_upon|go_back));(refine(number_any _ b _ HM.out.rd).mono ?_;rintro e1 w2 ⟨rfl,hR,hF⟩;dsimp only);obtain⟨hM2,hb2⟩:=HM.out.step hR hF;have fz:=blk_free hM2.hm 1;have cz:w2.cell? ⟨g,1,none⟩=some (.int .i64 (m.file)):=blk_cell hM2.hm 1;obtain⟨hM3,hb3⟩:=hM2.num 1 (by omega) (((r.number.2).number.1:Nat):Int);have hS3:=blk_set_other ((hF.block sk (blk_lt hS) ht.1).trans hS) ht.2 1 (.int .i64 (((r.number.2).number.1:Nat):Int));have HM3:=Lib.hid hM3;have HB3:=Lib.hid ((HB.out.trans hb2).trans hb3);clear HM HB q qs hS hM2 hM3 hb2 hb3 hR hF;(repeat' ((fail_if_success at_builtin);first|go_values|go_skip|go_guarded|go_step|go_upon|go_back));clear fz cz;generalize w2.setCell ⟨g,1,none⟩ (.int .i64 (((r.number.2).number.1:Nat):Int))=w3 at hS3 HM3 HB3 ⊢;have HM:=HM3;have HB:=HB3;have hS:=hS3;clear HM3 HB3 hS3)
 (rw[rounds_succ];have q:=(blk1 HM.out.hx).1;have qs:=blk_cell hS 2;simp only[List.getElem?_toArray,List.getElem?_cons_zero,List.getElem?_cons_succ] at qs;(repeat' ((fail_if_success at_builtin);first|go_values|go_skip|go_guarded|go_step|go_upon|go_back));(refine(number_any _ b _ HM.out.rd).mono ?_;rintro e1 w2 ⟨rfl,hR,hF⟩;dsimp only);obtain⟨hM2,hb2⟩:=HM.out.step hR hF;have fz:=blk_free hM2.hm 2;have cz:w2.cell? ⟨g,2,none⟩=some (.int .i64 (m.mark)):=blk_cell hM2.hm 2;obtain⟨hM3,hb3⟩:=hM2.num 2 (by omega) (((r.number.2.number.2).number.1:Nat):Int);have hS3:=blk_set_other ((hF.block sk (blk_lt hS) ht.1).trans hS) ht.2 2 (.int .i64 (((r.number.2.number.2).number.1:Nat):Int));have HM3:=Lib.hid hM3;have HB3:=Lib.hid ((HB.out.trans hb2).trans hb3);clear HM HB q qs hS hM2 hM3 hb2 hb3 hR hF;(repeat' ((fail_if_success at_builtin);first|go_values|go_skip|go_guarded|go_step|go_upon|go_back));clear fz cz;generalize w2.setCell ⟨g,2,none⟩ (.int .i64 (((r.number.2.number.2).number.1:Nat):Int))=w3 at hS3 HM3 HB3 ⊢;have HM:=HM3;have HB:=HB3;have hS:=hS3;clear HM3 HB3 hS3)
 (rw[rounds_succ];have q:=(blk1 HM.out.hx).1;have qs:=blk_cell hS 3;simp only[List.getElem?_toArray,List.getElem?_cons_zero,List.getElem?_cons_succ] at qs;(repeat' ((fail_if_success at_builtin);first|go_values|go_skip|go_guarded|go_step|go_upon|go_back));(refine(number_any _ b _ HM.out.rd).mono ?_;rintro e1 w2 ⟨rfl,hR,hF⟩;dsimp only);obtain⟨hM2,hb2⟩:=HM.out.step hR hF;have fz:=blk_free hM2.hm 3;have cz:w2.cell? ⟨g,3,none⟩=some (.int .i64 (m.prev)):=blk_cell hM2.hm 3;obtain⟨hM3,hb3⟩:=hM2.num 3 (by omega) (((r.number.2.number.2.number.2).number.1:Nat):Int);have hS3:=blk_set_other ((hF.block sk (blk_lt hS) ht.1).trans hS) ht.2 3 (.int .i64 (((r.number.2.number.2.number.2).number.1:Nat):Int));have HM3:=Lib.hid hM3;have HB3:=Lib.hid ((HB.out.trans hb2).trans hb3);clear HM HB q qs hS hM2 hM3 hb2 hb3 hR hF;(repeat' ((fail_if_success at_builtin);first|go_values|go_skip|go_guarded|go_step|go_upon|go_back));clear fz cz;generalize w2.setCell ⟨g,3,none⟩ (.int .i64 (((r.number.2.number.2.number.2).number.1:Nat):Int))=w3 at hS3 HM3 HB3 ⊢;have HM:=HM3;have HB:=HB3;have hS:=hS3;clear HM3 HB3 hS3)
 (rw[rounds_succ];have q:=(blk1 HM.out.hx).1;have qs:=blk_cell hS 4;simp only[List.getElem?_toArray,List.getElem?_cons_zero,List.getElem?_cons_succ] at qs;(repeat' ((fail_if_success at_builtin);first|go_values|go_skip|go_guarded|go_step|go_upon|go_back));(refine(number_any _ b _ HM.out.rd).mono ?_;rintro e1 w2 ⟨rfl,hR,hF⟩;dsimp only);obtain⟨hM2,hb2⟩:=HM.out.step hR hF;have fz:=blk_free hM2.hm 4;have cz:w2.cell? ⟨g,4,none⟩=some (.int .i64 (m.pmark)):=blk_cell hM2.hm 4;obtain⟨hM3,hb3⟩:=hM2.num 4 (by omega) (((r.number.2.number.2.number.2.number.2).number.1:Nat):Int);have hS3:=blk_set_other ((hF.block sk (blk_lt hS) ht.1).trans hS) ht.2 4 (.int .i64 (((r.number.2.number.2.number.2.number.2).number.1:Nat):Int));have HM3:=Lib.hid hM3;have HB3:=Lib.hid ((HB.out.trans hb2).trans hb3);clear HM HB q qs hS hM2 hM3 hb2 hb3 hR hF;(repeat' ((fail_if_success at_builtin);first|go_values|go_skip|go_guarded|go_step|go_upon|go_back));clear fz cz;generalize w2.setCell ⟨g,4,none⟩ (.int .i64 (((r.number.2.number.2.number.2.number.2).number.1:Nat):Int))=w3 at hS3 HM3 HB3 ⊢;have HM:=HM3;have HB:=HB3;have hS:=hS3;clear HM3 HB3 hS3)
 rw[rounds_succ]
 have q:=(blk1 HM.out.hx).1
 have qk:=(blk1 HM.out.hk).1
 repeat' ((fail_if_success at_builtin);first|go_values|go_skip|go_guarded|go_step|go_upon|go_back)
 (refine(taken_any _ x b _ HM.out.hx HM.out.rd).mono ?_;rintro e1 w3 ⟨rfl,hb3⟩;dsimp only)
 have HM3:=Lib.hid (HM.out.pure hb3)
 have HB3:=Lib.hid (HB.out.trans (hb3.mono (by have:=HM.out.nb;have:=Rd.lt HM.out.rd;omega)))
 clear hb3 q qk HM HB hS
 repeat' ((fail_if_success at_builtin);first|go_values|go_skip|go_guarded|go_step|go_upon|go_back)
 refine bodyPost_ret (results_tmp rfl _ _ _) rfl ⟨rfl,HM3.out,HB3.out⟩
theorem mayX(w:World)(m:Mf):Calls Tryz.prog 216 #[.agg #[.int .i64 m.number,.int .i64 m.file,.int .i64 m.mark,.int .i64 m.prev,.int .i64 m.pmark]] w fun e w'=>e = .returned (.bool (mayM m))/\Below w.heap.size w w':=mayM_any w m
set_option maxRecDepth 20000 in
theorem valid_any(w:World){n0 x b g f k h z:Nat}{zc:Array Value}{r:RS}{m:Mf}{s:Bs}(H:MX w n0 x b g f k h z zc r m s) :
  Calls Tryz.prog 215 #[.pointer (some ⟨f,0,none⟩),.pointer (some ⟨g,0,none⟩)] w fun e' w'=>e' = .returned (.int .i64 (if mayM m then 0 else 3))/\Below w.heap.size w w':=by
 have q1:=(blk1 H.hf).1
 have c0:=blk_cell H.hm 0
 have c1:=blk_cell H.hm 1
 have c2:=blk_cell H.hm 2
 have c3:=blk_cell H.hm 3
 have c4:=blk_cell H.hm 4
 simp only[Mf.cells,List.getElem?_toArray,List.getElem?_cons_zero,List.getElem?_cons_succ] at c0 c1 c2 c3 c4
 have l1:=blk_lt H.hf
 have l2:=blk_lt H.hm
 have HS:∀ w',Below w.heap.size w w'->(Below w.heap.size w w'/\w'.cell? ⟨f,0,none⟩=some (.func (.func 209) #[] #[])/\w'.cell? ⟨g,0,none⟩=some (.int .i64 m.number)/\w'.cell? ⟨g,1,none⟩=some (.int .i64 m.file)/\w'.cell? ⟨g,2,none⟩=some (.int .i64 m.mark)/\w'.cell? ⟨g,3,none⟩=some (.int .i64 m.prev)/\w'.cell? ⟨g,4,none⟩=some (.int .i64 m.pmark)):=fun w' hb =>
  ⟨hb,(hb.cell (p:=⟨f,0,none⟩) l1).trans q1,(hb.cell (p:=⟨g,0,none⟩) l2).trans c0,(hb.cell (p:=⟨g,1,none⟩) l2).trans c1,(hb.cell (p:=⟨g,2,none⟩) l2).trans c2,(hb.cell (p:=⟨g,3,none⟩) l2).trans c3,(hb.cell (p:=⟨g,4,none⟩) l2).trans c4⟩
 clear H
 have HM:Hid (∀ w',Below w.heap.size w w'->Calls Tryz.prog 216 #[.agg #[.int .i64 m.number,.int .i64 m.file,.int .i64 m.mark,.int .i64 m.prev,.int .i64 m.pmark]] w' fun e w''=>e = .returned (.bool (mayM m))/\Below w.heap.size w w''):=Lib.hid (fun w' hb=>(mayX w' m).mono fun e w'' h=>⟨h.1,hb.trans (h.2.mono hb.size)⟩)
 obtain⟨vv,hvv⟩:∃ vv:Int,vv=(if mayM m then 0 else 3):=⟨_,rfl⟩
 obtain⟨bb,hbb⟩:∃ bb:Bool,bb=mayM m:=⟨_,rfl⟩
 rw[<-hbb] at hvv HM ⊢
 rw[<-hvv]
 have HF:Hid (∀ w',Calls Tryz.prog 209 #[.bool bb] w' fun e w''=>e = .returned (.int .i64 vv)/\w'=w''):=Lib.hid (fun w'=>by rw[hvv];exact form_any w' bb)
 clear hvv hbb
 go_enter Tryz.func215,Tryz.ntmps215
 repeat' ((fail_if_success at_builtin);first|go_values|go_skip|go_guarded|go_step|go_upon|go_back)
 go_region_held3 (fun w'=>Below w.heap.size w w'/\w'.cell? ⟨f,0,none⟩=some (.func (.func 209) #[] #[])/\w'.cell? ⟨g,0,none⟩=some (.int .i64 m.number)/\w'.cell? ⟨g,1,none⟩=some (.int .i64 m.file)/\w'.cell? ⟨g,2,none⟩=some (.int .i64 m.mark)/\w'.cell? ⟨g,3,none⟩=some (.int .i64 m.prev)/\w'.cell? ⟨g,4,none⟩=some (.int .i64 m.pmark)) (first|exact HS _ (by assumption)|exact HS _ (Below.refl _ _)|exact HS _ (Below.drew (Below.refl _ _))|exact HS _ (Below.drew (by assumption))|exact HS _ (bdrewN (by assumption) _)|exact HS _ (bdrewN (Below.refl _ _) _)) (first
  | (go_at_call 209;refine(HF.out _).mono ?_;rintro e1 w6 ⟨rfl,rfl⟩)
  | (go_at_call 216;refine(HM.out _ (by first|assumption|exact Below.refl _ _|exact Below.drew (Below.refl _ _)|exact Below.drew (by assumption)|exact bdrewN (by assumption) _|exact bdrewN (Below.refl _ _) _)).mono ?_;rintro e1 w5 ⟨rfl,hb5⟩))
 repeat' ((fail_if_success at_builtin);first|go_values|go_skip|go_guarded|go_step|go_upon|go_back)
 refine bodyPost_ret (results_tmp rfl _ _ _) rfl ⟨rfl,by assumption⟩
theorem blk5{w:World}{b:Nat}{x y z u v:Value}{t:TypeId}(h:w.heap[b]? = some (.cells #[x,y,z,u,v] t (0,0))) :
  w.cell? ⟨b,0,none⟩=some x/\w.cell? ⟨b,1,none⟩=some y/\w.cell? ⟨b,2,none⟩=some z/\w.cell? ⟨b,3,none⟩=some u/\w.cell? ⟨b,4,none⟩=some v/\w.frozen? ⟨b,0,none⟩=false/\w.frozen? ⟨b,1,none⟩=false/\w.frozen? ⟨b,2,none⟩=false/\w.frozen? ⟨b,3,none⟩=false/\w.frozen? ⟨b,4,none⟩=false :=
 ⟨blk_cell h 0,blk_cell h 1,blk_cell h 2,blk_cell h 3,blk_cell h 4,blk_free h 0,blk_free h 1,blk_free h 2,blk_free h 3,blk_free h 4⟩
theorem man_set{w w':World}{R:Nat}{c:Array Value}{m:Mf}(h:w'.heap[R]? = some (.cells c 46 (0,0)))(hc:c.size=5)(hb:Below w.heap.size w w')(hR:w.heap.size<=R)(v0 v1 v2 v3 v4:Value) :
  ((((((w'.setCell ⟨R,0,none⟩ v0).setCell ⟨R,1,none⟩ v1).setCell ⟨R,2,none⟩ v2).setCell ⟨R,3,none⟩ v3).setCell ⟨R,4,none⟩ v4).heap[R]? = some (.cells #[v0,v1,v2,v3,v4] 46 (0,0))) /\
  Below w.heap.size w (((((w'.setCell ⟨R,0,none⟩ v0).setCell ⟨R,1,none⟩ v1).setCell ⟨R,2,none⟩ v2).setCell ⟨R,3,none⟩ v3).setCell ⟨R,4,none⟩ v4):=by
 refine⟨(blk_set (blk_set (blk_set (blk_set (blk_set h 0 v0) 1 v1) 2 v2) 3 v3) 4 v4).trans ?_,(((((hb.setCell (p:=⟨R,0,none⟩) hR _).setCell (p:=⟨R,1,none⟩) hR _).setCell (p:=⟨R,2,none⟩) hR _).setCell (p:=⟨R,3,none⟩) hR _).setCell (p:=⟨R,4,none⟩) hR _)⟩
 match c,hc with
 | ⟨[_,_,_,_,_]⟩,_=>rfl
theorem man_mx(w2:World)(n0 b:Nat)(r:RS)(hn:n0<=w2.heap.size)(hb:n0<=b)(hr:Rd w2 b r):MX ((((((w2.alloc (.cells #[.pointer (some ⟨b,0,none⟩)] 99)).alloc (.cells #[.int .i64 0,.int .i64 0,.int .i64 0,.int .i64 0,.int .i64 0] (46))).alloc (.cells #[.func (.func 209) #[] #[]] 307)).alloc (.cells #[.func (.func 210) #[] #[.pointer (some ⟨w2.heap.size,0,none⟩)]] 103)).alloc (.cells #[.string ⟨#[]⟩] 9)).alloc (.cells #[.func (.func 211) #[] #[.pointer (some ⟨w2.heap.size,0,none⟩),.pointer (some ⟨w2.heap.size+1+1+1+1,0,none⟩),.pointer (some ⟨w2.heap.size+1+1+1,0,none⟩)],.func (.func 212) #[] #[.pointer (some ⟨w2.heap.size+1+1,0,none⟩),.pointer (some ⟨w2.heap.size+1+1+1+1,0,none⟩)],.func (.func 213) #[] #[.pointer (some ⟨w2.heap.size+1,0,none⟩),.pointer (some ⟨w2.heap.size,0,none⟩),.pointer (some ⟨w2.heap.size+1+1+1,0,none⟩)],.func (.func 57) #[.pointer (some ⟨b,0,none⟩)] #[],.func (.func 215) #[] #[.pointer (some ⟨w2.heap.size+1+1,0,none⟩),.pointer (some ⟨w2.heap.size+1,0,none⟩)]] 103)) n0 w2.heap.size b (w2.heap.size+1) (w2.heap.size+1+1) (w2.heap.size+1+1+1) (w2.heap.size+1+1+1+1) (w2.heap.size+1+1+1+1+1) #[.func (.func 211) #[] #[.pointer (some ⟨w2.heap.size,0,none⟩),.pointer (some ⟨w2.heap.size+1+1+1+1,0,none⟩),.pointer (some ⟨w2.heap.size+1+1+1,0,none⟩)],.func (.func 212) #[] #[.pointer (some ⟨w2.heap.size+1+1,0,none⟩),.pointer (some ⟨w2.heap.size+1+1+1+1,0,none⟩)],.func (.func 213) #[] #[.pointer (some ⟨w2.heap.size+1,0,none⟩),.pointer (some ⟨w2.heap.size,0,none⟩),.pointer (some ⟨w2.heap.size+1+1+1,0,none⟩)],.func (.func 57) #[.pointer (some ⟨b,0,none⟩)] #[],.func (.func 215) #[] #[.pointer (some ⟨w2.heap.size+1+1,0,none⟩),.pointer (some ⟨w2.heap.size+1,0,none⟩)]] (r) (Mf.nil) ([])/\Below w2.heap.size w2 ((((((w2.alloc (.cells #[.pointer (some ⟨b,0,none⟩)] 99)).alloc (.cells #[.int .i64 0,.int .i64 0,.int .i64 0,.int .i64 0,.int .i64 0] (46))).alloc (.cells #[.func (.func 209) #[] #[]] 307)).alloc (.cells #[.func (.func 210) #[] #[.pointer (some ⟨w2.heap.size,0,none⟩)]] 103)).alloc (.cells #[.string ⟨#[]⟩] 9)).alloc (.cells #[.func (.func 211) #[] #[.pointer (some ⟨w2.heap.size,0,none⟩),.pointer (some ⟨w2.heap.size+1+1+1+1,0,none⟩),.pointer (some ⟨w2.heap.size+1+1+1,0,none⟩)],.func (.func 212) #[] #[.pointer (some ⟨w2.heap.size+1+1,0,none⟩),.pointer (some ⟨w2.heap.size+1+1+1+1,0,none⟩)],.func (.func 213) #[] #[.pointer (some ⟨w2.heap.size+1,0,none⟩),.pointer (some ⟨w2.heap.size,0,none⟩),.pointer (some ⟨w2.heap.size+1+1+1,0,none⟩)],.func (.func 57) #[.pointer (some ⟨b,0,none⟩)] #[],.func (.func 215) #[] #[.pointer (some ⟨w2.heap.size+1+1,0,none⟩),.pointer (some ⟨w2.heap.size+1,0,none⟩)]] 103)):=by
 have b1:=blk_new w2 (.cells #[.pointer (some ⟨b,0,none⟩)] 99)
 have b2:=blk_new (w2.alloc (.cells #[.pointer (some ⟨b,0,none⟩)] 99)) (.cells #[.int .i64 0,.int .i64 0,.int .i64 0,.int .i64 0,.int .i64 0] (46))
 have b3:=blk_new ((w2.alloc (.cells #[.pointer (some ⟨b,0,none⟩)] 99)).alloc (.cells #[.int .i64 0,.int .i64 0,.int .i64 0,.int .i64 0,.int .i64 0] (46))) (.cells #[.func (.func 209) #[] #[]] 307)
 have b4:=blk_new (((w2.alloc (.cells #[.pointer (some ⟨b,0,none⟩)] 99)).alloc (.cells #[.int .i64 0,.int .i64 0,.int .i64 0,.int .i64 0,.int .i64 0] (46))).alloc (.cells #[.func (.func 209) #[] #[]] 307)) (.cells #[.func (.func 210) #[] #[.pointer (some ⟨w2.heap.size,0,none⟩)]] 103)
 have b5:=blk_new ((((w2.alloc (.cells #[.pointer (some ⟨b,0,none⟩)] 99)).alloc (.cells #[.int .i64 0,.int .i64 0,.int .i64 0,.int .i64 0,.int .i64 0] (46))).alloc (.cells #[.func (.func 209) #[] #[]] 307)).alloc (.cells #[.func (.func 210) #[] #[.pointer (some ⟨w2.heap.size,0,none⟩)]] 103)) (.cells #[.string ⟨#[]⟩] 9)
 have b6:=blk_new (((((w2.alloc (.cells #[.pointer (some ⟨b,0,none⟩)] 99)).alloc (.cells #[.int .i64 0,.int .i64 0,.int .i64 0,.int .i64 0,.int .i64 0] (46))).alloc (.cells #[.func (.func 209) #[] #[]] 307)).alloc (.cells #[.func (.func 210) #[] #[.pointer (some ⟨w2.heap.size,0,none⟩)]] 103)).alloc (.cells #[.string ⟨#[]⟩] 9)) (.cells #[.func (.func 211) #[] #[.pointer (some ⟨w2.heap.size,0,none⟩),.pointer (some ⟨w2.heap.size+1+1+1+1,0,none⟩),.pointer (some ⟨w2.heap.size+1+1+1,0,none⟩)],.func (.func 212) #[] #[.pointer (some ⟨w2.heap.size+1+1,0,none⟩),.pointer (some ⟨w2.heap.size+1+1+1+1,0,none⟩)],.func (.func 213) #[] #[.pointer (some ⟨w2.heap.size+1,0,none⟩),.pointer (some ⟨w2.heap.size,0,none⟩),.pointer (some ⟨w2.heap.size+1+1+1,0,none⟩)],.func (.func 57) #[.pointer (some ⟨b,0,none⟩)] #[],.func (.func 215) #[] #[.pointer (some ⟨w2.heap.size+1+1,0,none⟩),.pointer (some ⟨w2.heap.size+1,0,none⟩)]] 103)
 simp only[World.size_alloc] at b2 b3 b4 b5 b6
 have hB:Below w2.heap.size w2 ((((((w2.alloc (.cells #[.pointer (some ⟨b,0,none⟩)] 99)).alloc (.cells #[.int .i64 0,.int .i64 0,.int .i64 0,.int .i64 0,.int .i64 0] (46))).alloc (.cells #[.func (.func 209) #[] #[]] 307)).alloc (.cells #[.func (.func 210) #[] #[.pointer (some ⟨w2.heap.size,0,none⟩)]] 103)).alloc (.cells #[.string ⟨#[]⟩] 9)).alloc (.cells #[.func (.func 211) #[] #[.pointer (some ⟨w2.heap.size,0,none⟩),.pointer (some ⟨w2.heap.size+1+1+1+1,0,none⟩),.pointer (some ⟨w2.heap.size+1+1+1,0,none⟩)],.func (.func 212) #[] #[.pointer (some ⟨w2.heap.size+1+1,0,none⟩),.pointer (some ⟨w2.heap.size+1+1+1+1,0,none⟩)],.func (.func 213) #[] #[.pointer (some ⟨w2.heap.size+1,0,none⟩),.pointer (some ⟨w2.heap.size,0,none⟩),.pointer (some ⟨w2.heap.size+1+1+1,0,none⟩)],.func (.func 57) #[.pointer (some ⟨b,0,none⟩)] #[],.func (.func 215) #[] #[.pointer (some ⟨w2.heap.size+1+1,0,none⟩),.pointer (some ⟨w2.heap.size+1,0,none⟩)]] 103)):=(((((((Below.refl _ w2).alloc (Nat.le_refl _) _).alloc (by simp) _).alloc (by simp;omega) _).alloc (by simp;omega) _).alloc (by simp;omega) _).alloc (by simp;omega) _)
 exact⟨⟨hb,by omega,by omega,blk_alloc (blk_alloc (blk_alloc (blk_alloc (blk_alloc b1 _) _) _) _) _,blk_alloc (blk_alloc (blk_alloc (blk_alloc b2 _) _) _) _,blk_alloc (blk_alloc (blk_alloc b3 _) _) _,blk_alloc (blk_alloc b4 _) _,blk_alloc b5 _,b6,Rd.pure hr hB⟩,hB⟩
set_option maxRecDepth 20000 in
theorem decM_any(w:World)(a:Option Addr)(c:Nat)(xs:Bs)(hx:BS w a c xs)(hl:xs.length<=17592186044416) :
  Calls Tryz.prog 135 #[.slice a xs.length c] w fun e w'=>e = .returned (.tuple #[.agg (decM xs).1.cells,.int .i64 (decM xs).2])/\Below w.heap.size w w':=by
 have hmf:∀ (fn:Fn) (first cap:Array Value) (w:World),(Instr.makeFunc fn first cap).run Tryz.prog w = .ok (.func fn first cap) w:=fun _ _ _ _=>rfl
 have hA:Below w.heap.size w (w.alloc (.cells #[.int .i64 0,.int .i64 0,.int .i64 0,.int .i64 0,.int .i64 0] (46))):=(Below.refl _ w).alloc (Nat.le_refl _) _
 have hxA:=hx.below hA
 have hRA:=blk_new w (.cells #[.int .i64 0,.int .i64 0,.int .i64 0,.int .i64 0,.int .i64 0] (46))
 have HL:=Lib.hid hl
 clear hl hx
 obtain⟨body,j,e,hn⟩:∃ body j e,nextF xs 0=(body,j,e):=⟨_,_,_,rfl⟩
 have HN:=Lib.hid hn
 clear hn
 by_cases hE:e=0
 ·subst hE
  have hok:=nextF_ok HN.out
  by_cases hj:j<xs.length
  ·have HE:Hid (decM xs=(Mf.nil,3)):=Lib.hid (by unfold decM;simp only[HN.out];rw[if_neg (by simp),if_pos hj])
   have e1:decide (j<xs.length)=true:=decide_eq_true hj
   rw[HE.out]
   clear hok hj
   go_enter Tryz.func135,Tryz.ntmps135
   repeat' ((fail_if_success at_builtin);first|go_values|go_skip|go_guarded|go_step|go_upon|go_back)
   (refine(nextC_any _ a c xs hxA 0 (by have:=HL.out;omega) (by omega)).mono ?_;rintro e1 w1 ⟨v,rfl,-,hb1⟩;dsimp only)
   rw[HN.out]
   dsimp only
   have hR1:=blk_below hb1 hRA (blk_lt hRA)
   obtain⟨r0,r1,r2,r3,r4,f0,f1,f2,f3,f4⟩:=blk5 hR1
   have HB:=Lib.hid (hA.trans (hb1.mono hA.size))
   clear hb1 hRA hA hxA
   repeat' ((fail_if_success at_builtin);first|go_values|go_skip|go_guarded|go_step|go_upon|go_back)
   clear r0 r1 r2 r3 r4 f0 f1 f2 f3 f4
   (obtain⟨hz,hbz⟩:=man_set (m:=Mf.nil) hR1 rfl HB.out (Nat.le_refl _) (.int .i64 0) (.int .i64 0) (.int .i64 0) (.int .i64 0) (.int .i64 0);obtain⟨z0,z1,z2,z3,z4,-⟩:=blk5 hz;refine bodyPost_ret (v := .tuple #[.agg #[.int .i64 0,.int .i64 0,.int .i64 0,.int .i64 0,.int .i64 0],.int .i64 (3)]) (by simp[results,Tryz.results135,go_sem,z0,z1,z2,z3,z4]) rfl ⟨rfl,hbz⟩)
  ·have e1:decide (j<xs.length)=false:=decide_eq_false hj
   obtain⟨s,rr,hT⟩:∃ s rr,(⟨body,0,0⟩:RS).text 8=(s,rr):=⟨_,_,rfl⟩
   obtain⟨r5,hr5⟩:∃ r5,r5=rr.number.2.number.2.number.2.number.2.number.2:=⟨_,rfl⟩
   obtain⟨m5,hm5⟩:∃ m5:Mf,m5=⟨rr.number.1,rr.number.2.number.1,rr.number.2.number.2.number.1,rr.number.2.number.2.number.2.number.1,rr.number.2.number.2.number.2.number.2.number.1⟩:=⟨_,rfl⟩
   have HD:Hid (decM xs=if rr.e≠0 then (Mf.nil,rr.e) else if s≠manN then (Mf.nil,3) else if r5.e≠0 then (Mf.nil,r5.e) else if r5.end_≠0 then (Mf.nil,r5.end_) else if mayM m5 then (m5,0) else (Mf.nil,3)):=Lib.hid (by unfold decM;simp only[HN.out];rw[if_neg (by simp),if_neg hj,hT,hr5,hm5])
   have HT:=Lib.hid hT
   have HR5:=Lib.hid hr5
   have HM5:=Lib.hid hm5
   clear hT hr5 hm5
   have HBL:Hid (body.length<=65536):=Lib.hid hok.2.2.2.1
   clear hok hj
   go_enter Tryz.func135,Tryz.ntmps135
   repeat' ((fail_if_success at_builtin);first|go_values|go_skip|go_guarded|go_step|go_upon|go_back)
   (refine(nextC_any _ a c xs hxA 0 (by have:=HL.out;omega) (by omega)).mono ?_;rintro e1 w1 ⟨v,rfl,ho,hb1⟩;dsimp only)
   rw[HN.out] at ho ⊢
   dsimp only at ho ⊢
   obtain⟨a1,c1,rfl,hB1,-⟩:=ho.shape
   have hR1:=blk_below hb1 hRA (blk_lt hRA)
   have HB:=Lib.hid (hA.trans (hb1.mono hA.size))
   clear hb1 hRA hA hxA ho
   repeat' ((fail_if_success at_builtin);first|go_values|go_skip|go_guarded|go_step|go_upon|go_back)
   (refine(read_any w1 a1 c1 body hB1 (by have:=HBL.out;omega)).mono ?_;rintro e1 w2 ⟨b,rfl,hbb,hrd,hb2⟩;dsimp only)
   have hR2:=blk_below hb2 hR1 (blk_lt hR1)
   have HNR:Hid (w.heap.size<w1.heap.size):=Lib.hid (blk_lt hR1)
   clear hR1 hB1
   repeat' ((fail_if_success at_builtin);first|go_values|go_skip|go_guarded|go_step|go_upon|go_back)
   obtain⟨hM,hb7⟩:=man_mx w2 w1.heap.size b _ hb2.size hbb hrd
   have hR7:=blk_below hb7 hR2 (blk_lt hR2)
   have HB7:=Lib.hid ((HB.out.trans (hb2.mono HB.out.size)).trans (hb7.mono (HB.out.trans (hb2.mono HB.out.size)).size))
   have HM:=Lib.hid hM
   clear hM hb7 hR2 hb2 hrd hbb
   generalize ((((((w2.alloc (.cells #[.pointer (some ⟨b,0,none⟩)] 99)).alloc (.cells #[.int .i64 0,.int .i64 0,.int .i64 0,.int .i64 0,.int .i64 0] (46))).alloc (.cells #[.func (.func 209) #[] #[]] 307)).alloc (.cells #[.func (.func 210) #[] #[.pointer (some ⟨w2.heap.size,0,none⟩)]] 103)).alloc (.cells #[.string ⟨#[]⟩] 9)).alloc (.cells #[.func (.func 211) #[] #[.pointer (some ⟨w2.heap.size,0,none⟩),.pointer (some ⟨w2.heap.size+1+1+1+1,0,none⟩),.pointer (some ⟨w2.heap.size+1+1+1,0,none⟩)],.func (.func 212) #[] #[.pointer (some ⟨w2.heap.size+1+1,0,none⟩),.pointer (some ⟨w2.heap.size+1+1+1+1,0,none⟩)],.func (.func 213) #[] #[.pointer (some ⟨w2.heap.size+1,0,none⟩),.pointer (some ⟨w2.heap.size,0,none⟩),.pointer (some ⟨w2.heap.size+1+1+1,0,none⟩)],.func (.func 57) #[.pointer (some ⟨b,0,none⟩)] #[],.func (.func 215) #[] #[.pointer (some ⟨w2.heap.size+1+1,0,none⟩),.pointer (some ⟨w2.heap.size+1,0,none⟩)]] 103))=w7 at HM hR7 HB7 ⊢
   refine wp_loop_rounds 6 ?_
   rw[rounds_succ]
   have qz:=blk_cell HM.out.hz 0
   simp only[List.getElem?_toArray,List.getElem?_cons_zero,List.getElem?_cons_succ] at qz
   repeat' ((fail_if_success at_builtin);first|go_values|go_skip|go_guarded|go_step|go_upon|go_back)
   (refine(head_any w7 HM.out).mono ?_;rintro e1 w8 ⟨rfl,hM8,hb8⟩;dsimp only)
   rw[HT.out] at hM8 ⊢
   dsimp only at hM8 ⊢
   have HM8:=Lib.hid hM8
   have hR8:=(hb8.block _ HNR.out).trans hR7
   have HB8:Hid (Below w.heap.size w w8):=Lib.hid (HB7.out.trans (hb8.mono (by have:=HNR.out;omega)))
   clear hM8 hb8 hR7 qz HM HB7 HB
   by_cases hE1:rr.e=0
   ·rw[hE1]
    have hd:=HD.out
    rw[if_neg (by simp[hE1])] at hd
    have HD2:=Lib.hid hd
    clear hd hE1 HD
    repeat' ((fail_if_success at_builtin);first|go_values|go_skip|go_guarded|go_step|go_upon|go_back)
    rw[rounds_succ]
    have qz:=blk_cell HM8.out.hz 1
    simp only[List.getElem?_toArray,List.getElem?_cons_zero,List.getElem?_cons_succ] at qz
    repeat' ((fail_if_success at_builtin);first|go_values|go_skip|go_guarded|go_step|go_upon|go_back)
    (refine(same_any w8 HM8.out).mono ?_;rintro e1 w9 ⟨rfl,rfl⟩;dsimp only)
    clear qz
    by_cases hE2:s=manN
    ·rw[if_pos hE2]
     have hd:=HD2.out
     rw[if_neg (by simp[hE2])] at hd
     have HD3:=Lib.hid hd
     clear hd hE2 HD2
     repeat' ((fail_if_success at_builtin);first|go_values|go_skip|go_guarded|go_step|go_upon|go_back)
     rw[rounds_succ]
     have qz:=blk_cell HM8.out.hz 2
     simp only[List.getElem?_toArray,List.getElem?_cons_zero,List.getElem?_cons_succ] at qz
     repeat' ((fail_if_success at_builtin);first|go_values|go_skip|go_guarded|go_step|go_upon|go_back)
     (refine(nums_any w8 HM8.out).mono ?_;rintro e1 w9 ⟨rfl,hM9,hb9⟩;dsimp only)
     rw[<-HR5.out,<-HM5.out] at hM9
     rw[<-HR5.out]
     have HM9:=Lib.hid hM9
     have hR9:=(hb9.block _ HNR.out).trans hR8
     have HB9:Hid (Below w.heap.size w w9):=Lib.hid (HB8.out.trans (hb9.mono (by have:=HNR.out;omega)))
     clear hM9 hb9 hR8 qz HM8 HB8 HR5 HM5 HT
     by_cases hE3:r5.e=0
     ·rw[hE3]
      have hd:=HD3.out
      rw[if_neg (by simp[hE3])] at hd
      have HD4:=Lib.hid hd
      clear hd hE3 HD3
      repeat' ((fail_if_success at_builtin);first|go_values|go_skip|go_guarded|go_step|go_upon|go_back)
      rw[rounds_succ]
      have qz:=blk_cell HM9.out.hz 3
      simp only[List.getElem?_toArray,List.getElem?_cons_zero,List.getElem?_cons_succ] at qz
      repeat' ((fail_if_success at_builtin);first|go_values|go_skip|go_guarded|go_step|go_upon|go_back)
      (refine(end_any w9 b r5 HM9.out.rd).mono ?_;rintro e1 w10 ⟨rfl,nd,rfl⟩;dsimp only)
      clear qz
      have hbd:Below w9.heap.size w9 (w9.drewN nd):=bdrewN (Below.refl _ _) nd
      have HM10:=Lib.hid (HM9.out.pure hbd)
      have hR10:=blk_below hbd hR9 (blk_lt hR9)
      have HB10:Hid (Below w.heap.size w (w9.drewN nd)):=Lib.hid (HB9.out.trans (hbd.mono HB9.out.size))
      clear hbd hR9 HB9 HM9
      generalize w9.drewN nd=w11 at HM10 hR10 HB10 ⊢
      by_cases hE4:r5.end_=0
      ·rw[hE4]
       have hd:=HD4.out
       rw[if_neg (by simp[hE4])] at hd
       have HD5:=Lib.hid hd
       clear hd hE4 HD4
       repeat' ((fail_if_success at_builtin);first|go_values|go_skip|go_guarded|go_step|go_upon|go_back)
       rw[rounds_succ]
       have qz:=blk_cell HM10.out.hz 4
       simp only[List.getElem?_toArray,List.getElem?_cons_zero,List.getElem?_cons_succ] at qz
       repeat' ((fail_if_success at_builtin);first|go_values|go_skip|go_guarded|go_step|go_upon|go_back)
       (refine(valid_any w11 HM10.out).mono ?_;rintro e1 w12 ⟨rfl,hb12⟩;dsimp only)
       clear qz
       have HM12:=Lib.hid (HM10.out.pure hb12)
       have hR12:=blk_below hb12 hR10 (blk_lt hR10)
       have HB12:Hid (Below w.heap.size w w12):=Lib.hid (HB10.out.trans (hb12.mono HB10.out.size))
       clear hb12 hR10 HB10 HM10
       by_cases hE5:mayM m5=true
       ·rw[if_pos hE5]
        have hd:=HD5.out
        rw[if_pos hE5] at hd
        have HD6:=Lib.hid hd
        clear hd hE5 HD5
        repeat' ((fail_if_success at_builtin);first|go_values|go_skip|go_guarded|go_step|go_upon|go_back)
        rw[rounds_succ]
        have HRX:=Lib.hid hR12
        obtain⟨r0,r1,r2,r3,r4,f0,f1,f2,f3,f4⟩:=blk5 HRX.out
        obtain⟨m0,m1,m2,m3,m4,-⟩:=blk5 HM12.out.hm
        clear hR12
        repeat' ((fail_if_success at_builtin);first|go_values|go_skip|go_guarded|go_step|go_upon|go_back)
        clear r0 r1 r2 r3 r4 f0 f1 f2 f3 f4 m0 m1 m2 m3 m4
        obtain⟨hz,hbz⟩:=man_set (m:=Mf.nil) HRX.out rfl HB12.out (Nat.le_refl _) (.int .i64 m5.number) (.int .i64 m5.file) (.int .i64 m5.mark) (.int .i64 m5.prev) (.int .i64 m5.pmark)
        obtain⟨z0,z1,z2,z3,z4,-⟩:=blk5 hz
        refine bodyPost_ret (v := .tuple #[.agg m5.cells,.int .i64 0]) (by simp[results,Tryz.results135,go_sem,z0,z1,z2,z3,z4,Mf.cells]) rfl ?_
        exact⟨by rw[HD6.out],hbz⟩
       ·rw[if_neg hE5]
        have hE:decM xs=(Mf.nil,3):=by rw[HD5.out,if_neg hE5]
        have HE:=Lib.hid hE
        clear hE hE5
        (have HRX:=Lib.hid hR12;obtain⟨r0,r1,r2,r3,r4,f0,f1,f2,f3,f4⟩:=blk5 HRX.out;(repeat' ((fail_if_success at_builtin);first|go_values|go_skip|go_guarded|go_step|go_upon|go_back));clear r0 r1 r2 r3 r4 f0 f1 f2 f3 f4;(obtain⟨hz,hbz⟩:=man_set (m:=Mf.nil) HRX.out rfl HB12.out (Nat.le_refl _) (.int .i64 0) (.int .i64 0) (.int .i64 0) (.int .i64 0) (.int .i64 0);obtain⟨z0,z1,z2,z3,z4,-⟩:=blk5 hz;refine bodyPost_ret (v := .tuple #[.agg #[.int .i64 0,.int .i64 0,.int .i64 0,.int .i64 0,.int .i64 0],.int .i64 (3)]) (by simp[results,Tryz.results135,go_sem,z0,z1,z2,z3,z4]) rfl ?_;exact⟨by rw[(HE.out)];rfl,hbz⟩))
      ·have hE:decM xs=(Mf.nil,r5.end_):=by rw[HD4.out,if_pos hE4]
       have e2:(r5.end_ != 0)=true:=by simpa using hE4
       have HE:=Lib.hid hE
       clear hE hE4
       (have HRX:=Lib.hid hR10;obtain⟨r0,r1,r2,r3,r4,f0,f1,f2,f3,f4⟩:=blk5 HRX.out;(repeat' ((fail_if_success at_builtin);first|go_values|go_skip|go_guarded|go_step|go_upon|go_back));clear r0 r1 r2 r3 r4 f0 f1 f2 f3 f4;(obtain⟨hz,hbz⟩:=man_set (m:=Mf.nil) HRX.out rfl HB10.out (Nat.le_refl _) (.int .i64 0) (.int .i64 0) (.int .i64 0) (.int .i64 0) (.int .i64 0);obtain⟨z0,z1,z2,z3,z4,-⟩:=blk5 hz;refine bodyPost_ret (v := .tuple #[.agg #[.int .i64 0,.int .i64 0,.int .i64 0,.int .i64 0,.int .i64 0],.int .i64 (r5.end_)]) (by simp[results,Tryz.results135,go_sem,z0,z1,z2,z3,z4]) rfl ?_;exact⟨by rw[(HE.out)];rfl,hbz⟩))
     ·have hE:decM xs=(Mf.nil,r5.e):=by rw[HD3.out,if_pos hE3]
      have e2:(r5.e != 0)=true:=by simpa using hE3
      have HE:=Lib.hid hE
      clear hE hE3
      (have HRX:=Lib.hid hR9;obtain⟨r0,r1,r2,r3,r4,f0,f1,f2,f3,f4⟩:=blk5 HRX.out;(repeat' ((fail_if_success at_builtin);first|go_values|go_skip|go_guarded|go_step|go_upon|go_back));clear r0 r1 r2 r3 r4 f0 f1 f2 f3 f4;(obtain⟨hz,hbz⟩:=man_set (m:=Mf.nil) HRX.out rfl HB9.out (Nat.le_refl _) (.int .i64 0) (.int .i64 0) (.int .i64 0) (.int .i64 0) (.int .i64 0);obtain⟨z0,z1,z2,z3,z4,-⟩:=blk5 hz;refine bodyPost_ret (v := .tuple #[.agg #[.int .i64 0,.int .i64 0,.int .i64 0,.int .i64 0,.int .i64 0],.int .i64 (r5.e)]) (by simp[results,Tryz.results135,go_sem,z0,z1,z2,z3,z4]) rfl ?_;exact⟨by rw[(HE.out)];rfl,hbz⟩))
    ·rw[if_neg hE2]
     have hE:decM xs=(Mf.nil,3):=by rw[HD2.out,if_pos hE2]
     have HE:=Lib.hid hE
     clear hE hE2
     (have HRX:=Lib.hid hR8;obtain⟨r0,r1,r2,r3,r4,f0,f1,f2,f3,f4⟩:=blk5 HRX.out;(repeat' ((fail_if_success at_builtin);first|go_values|go_skip|go_guarded|go_step|go_upon|go_back));clear r0 r1 r2 r3 r4 f0 f1 f2 f3 f4;(obtain⟨hz,hbz⟩:=man_set (m:=Mf.nil) HRX.out rfl HB8.out (Nat.le_refl _) (.int .i64 0) (.int .i64 0) (.int .i64 0) (.int .i64 0) (.int .i64 0);obtain⟨z0,z1,z2,z3,z4,-⟩:=blk5 hz;refine bodyPost_ret (v := .tuple #[.agg #[.int .i64 0,.int .i64 0,.int .i64 0,.int .i64 0,.int .i64 0],.int .i64 (3)]) (by simp[results,Tryz.results135,go_sem,z0,z1,z2,z3,z4]) rfl ?_;exact⟨by rw[(HE.out)];rfl,hbz⟩))
   ·have hE:decM xs=(Mf.nil,rr.e):=by rw[HD.out,if_pos hE1]
    have e2:(rr.e != 0)=true:=by simpa using hE1
    have HE:=Lib.hid hE
    clear hE hE1
    (have HRX:=Lib.hid hR8;obtain⟨r0,r1,r2,r3,r4,f0,f1,f2,f3,f4⟩:=blk5 HRX.out;(repeat' ((fail_if_success at_builtin);first|go_values|go_skip|go_guarded|go_step|go_upon|go_back));clear r0 r1 r2 r3 r4 f0 f1 f2 f3 f4;(obtain⟨hz,hbz⟩:=man_set (m:=Mf.nil) HRX.out rfl HB8.out (Nat.le_refl _) (.int .i64 0) (.int .i64 0) (.int .i64 0) (.int .i64 0) (.int .i64 0);obtain⟨z0,z1,z2,z3,z4,-⟩:=blk5 hz;refine bodyPost_ret (v := .tuple #[.agg #[.int .i64 0,.int .i64 0,.int .i64 0,.int .i64 0,.int .i64 0],.int .i64 (rr.e)]) (by simp[results,Tryz.results135,go_sem,z0,z1,z2,z3,z4]) rfl ?_;exact⟨by rw[(HE.out)];rfl,hbz⟩))
 ·have HE:Hid (decM xs=(Mf.nil,e)):=Lib.hid (by unfold decM;simp only[HN.out];rw[if_pos hE])
  have e1:(e != 0)=true:=by simpa using hE
  rw[HE.out]
  go_enter Tryz.func135,Tryz.ntmps135
  repeat' ((fail_if_success at_builtin);first|go_values|go_skip|go_guarded|go_step|go_upon|go_back)
  (refine(nextC_any _ a c xs hxA 0 (by have:=HL.out;omega) (by omega)).mono ?_;rintro e1 w1 ⟨v,rfl,-,hb1⟩;dsimp only)
  rw[HN.out]
  dsimp only
  have hR1:=blk_below hb1 hRA (blk_lt hRA)
  obtain⟨r0,r1,r2,r3,r4,f0,f1,f2,f3,f4⟩:=blk5 hR1
  have HB:=Lib.hid (hA.trans (hb1.mono hA.size))
  clear hb1 hRA hA hxA
  repeat' ((fail_if_success at_builtin);first|go_values|go_skip|go_guarded|go_step|go_upon|go_back)
  clear r0 r1 r2 r3 r4 f0 f1 f2 f3 f4
  (obtain⟨hz,hbz⟩:=man_set (m:=Mf.nil) hR1 rfl HB.out (Nat.le_refl _) (.int .i64 0) (.int .i64 0) (.int .i64 0) (.int .i64 0) (.int .i64 0);obtain⟨z0,z1,z2,z3,z4,-⟩:=blk5 hz;refine bodyPost_ret (v := .tuple #[.agg #[.int .i64 0,.int .i64 0,.int .i64 0,.int .i64 0,.int .i64 0],.int .i64 (e)]) (by simp[results,Tryz.results135,go_sem,z0,z1,z2,z3,z4]) rfl ⟨rfl,hbz⟩)
end Go.Proofs.YtbppnihcbcdglaaGreat
