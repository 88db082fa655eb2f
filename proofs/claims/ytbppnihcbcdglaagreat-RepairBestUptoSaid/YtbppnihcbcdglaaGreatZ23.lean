/- page: what stays behind an append of an entry; datum.IsKey. No condition. -/
import Derived.Laws.EntriesVeiled
import Derived.Test.YtbppnihcbcdglaaGreatZ1
import Derived.Test.YtbppnihcbcdglaaGreatZ10
import Derived.Test.YtbppnihcbcdglaaGreatZ15
import Derived.Test.YtbppnihcbcdglaaGreatZ22
namespace Go.Proofs.YtbppnihcbcdglaaGreat
set_option maxHeartbeats 0
open Go.RowKit
set_option linter.unusedVariables false
set_option linter.unusedSimpArgs false
theorem und_kinds:Tryz.prog.underlying 162=some (.map 5 166):=by kernel_rfl
theorem und_u8:Tryz.prog.underlying 5=some (.int .u8):=by kernel_rfl
theorem MP.store_below{d:TypeDesc}{b n0:Nat}{P:Program}{w0 w:World}{l:List (Value×Value)}(h:MP w d b l)(hn:n0<=b)(hb:Below n0 w0 w)(t k e:TypeId)(ht:P.underlying t=some (.map k e))(hk:P.underlying k=some d)(key v:Value)(hkey:MapKept.IsKey d key)(hno:∀ x∈l,x.1≠key) :
  ∃ w',(Instr.mapUpdate t (.map (some b)) key v).run P w = .ok () w'/\MP w' d b (l++[(key,v)])/\Below n0 w0 w':=by
 obtain⟨w',h1,h2,h3,h4,h5,h6,h7⟩:=h.store_new (P:=P) t k e ht hk hkey hno (v:=v)
 exact⟨w',h1,h2,⟨h3.trans hb.os,h4.trans hb.tape,h5.trans hb.output,by have:=hb.size;omega,fun j hj=>(h7 j (by omega)).trans (hb.block j hj)⟩⟩
def kindsL(g:Nat):List (Value×Value):=[(.int .u8 1,.func (.func 166) #[.pointer (some ⟨g,0,none⟩)] #[]),(.int .u8 2,.func (.func 167) #[.pointer (some ⟨g,0,none⟩)] #[]),(.int .u8 3,.func (.func 168) #[.pointer (some ⟨g,0,none⟩)] #[]),(.int .u8 4,.func (.func 169) #[.pointer (some ⟨g,0,none⟩)] #[])]
set_option maxRecDepth 20000 in
theorem kinds_any(w:World)(g:Nat):Calls Tryz.prog 95 #[.pointer (some ⟨g,0,none⟩)] w fun e w'=>∃ b,w.heap.size<=b/\e = .returned (.map (some b))/\MP w' (.int .u8) b (kindsL g)/\Below w.heap.size w w':=by
 have hmf:∀ (fn:Fn) (first cap:Array Value) (w:World),(Instr.makeFunc fn first cap).run Tryz.prog w = .ok (.func fn first cap) w:=fun _ _ _ _=>rfl
 have hbA:Below w.heap.size w (w.alloc (.map #[] 0)):=(Below.refl _ w).alloc (Nat.le_refl _) _
 have h0:MP (w.alloc (.map #[] 0)) (.int .u8) w.heap.size []:=⟨#[],0,blk_new _ _,MapKept.stamped_empty 0,by simp,rfl⟩
 have hmk:(Instr.makeMap 162 none).run Tryz.prog w = .ok (.map (some w.heap.size)) (w.alloc (.map #[] 0)):=by simp[Instr.makeMap,Result.andThen]
 obtain⟨w1,s1,m1,b1⟩:=h0.store_below (P:=Tryz.prog) (Nat.le_refl _) hbA _ _ _ und_kinds und_u8 (.int .u8 1) (.func (.func 166) #[.pointer (some ⟨g,0,none⟩)] #[]) (by trivial) (by simp)
 obtain⟨w2,s2,m2,b2⟩:=m1.store_below (P:=Tryz.prog) (Nat.le_refl _) b1 _ _ _ und_kinds und_u8 (.int .u8 2) (.func (.func 167) #[.pointer (some ⟨g,0,none⟩)] #[]) (by trivial) (by simp)
 obtain⟨w3,s3,m3,b3⟩:=m2.store_below (P:=Tryz.prog) (Nat.le_refl _) b2 _ _ _ und_kinds und_u8 (.int .u8 3) (.func (.func 168) #[.pointer (some ⟨g,0,none⟩)] #[]) (by trivial) (by simp)
 obtain⟨w4,s4,m4,b4⟩:=m3.store_below (P:=Tryz.prog) (Nat.le_refl _) b3 _ _ _ und_kinds und_u8 (.int .u8 4) (.func (.func 169) #[.pointer (some ⟨g,0,none⟩)] #[]) (by trivial) (by simp)
 have HM:=Lib.hid m4
 have HB:=Lib.hid b4
 clear m1 m2 m3 m4 b1 b2 b3 b4 h0 hbA
 go_enter Tryz.func95,Tryz.ntmps95
 repeat' ((fail_if_success at_builtin);first|go_values|go_skip|go_guarded|go_step|go_upon|go_back)
 refine bodyPost_ret (results_tmp rfl _ _ _) rfl ⟨_,Nat.le_refl _,rfl,HM.out,HB.out⟩
def grefV(e:Int):Value := .iface 157 (.int .i64 e)
set_option maxRecDepth 20000 in
theorem pmay_ok(w:World):Calls Tryz.prog 98 #[.bool true] w fun e' w'=>e' = .returned (.tuple #[])/\w=w':=by
 go_enter Tryz.func98,Tryz.ntmps98
 repeat' ((fail_if_success at_builtin);first|go_values|go_skip|go_guarded|go_step|go_upon|go_back)
 refine bodyPost_end (results_none rfl _ _ _) rfl ⟨rfl,rfl⟩
set_option maxRecDepth 20000 in
theorem pmay_no(w:World):Calls Tryz.prog 98 #[.bool false] w fun e' w'=>e' = .panicked [{ v:=grefV 3,recovered:=false }]/\w=w':=by
 go_enter Tryz.func98,Tryz.ntmps98
 repeat' ((fail_if_success at_builtin);first|go_values|go_skip|go_guarded|go_step|go_upon|go_back)
 exact⟨rfl,rfl,rfl⟩
theorem assert_gref(W:World)(i:Int):(Instr.typeAssert (.iface 157 (.int .i64 i)) 20 157 true).run Tryz.prog W = .ok (.tuple #[.int .i64 i,.bool true]) W:=by
 simp[Instr.typeAssert,run_underlying Tryz.underlying157]
theorem assert_gnil(W:World):(Instr.typeAssert .nilIface 20 157 true).run Tryz.prog W = .ok (.tuple #[.int .i64 0,.bool false]) W:=by kernel_rfl
def gaveG(w:World)(p q:Nat)(i:Int):World:=((((w.setCell ⟨p,0,none⟩ (.int .i64 0)).setCell ⟨p,1,none⟩ (.int .i64 0)).setCell ⟨p,2,none⟩ (.slice none 0 0)).setCell ⟨p,3,none⟩ (.slice none 0 0)).setCell ⟨q,0,none⟩ (.int .i64 i)
set_option maxRecDepth 20000 in
theorem gcatch(w:World)(p q:Nat)(v0 v1 v2 v3 u:Value)(hp:w.heap[p]? = some (.cells #[v0,v1,v2,v3] 75 (0,0)))(hq:w.heap[q]? = some (.cells #[u] 28 (0,0)))(i:Int) :
  CallsD Tryz.prog 94 #[.pointer (some ⟨p,0,none⟩),.pointer (some ⟨q,0,none⟩)] (.panicking [{ v:=grefV i,recovered:=false }]) w fun e u' w' =>
   e = .returned (.tuple #[])/\u' = .panicking [{ v:=grefV i,recovered:=true }]/\w'=gaveG w p q i:=by
 have hne:=blk_ne hp hq (by decide)
 refine callsD_of_wpS Tryz.func94 rfl fun c₀ cs hu=>?_
 unfold grefV at hu
 apply wpS_seq
 apply wpS_region
 have hta:=assert_gref
 simp[wpOpsS,go_sem,recoverD,hu,Tryz.ntmps94,Exit.thenS,Array.replicate,List.replicate,hta]
 refine wpS_of_wp ?_
 obtain⟨p0,p1,p2,p3,f0,f1,f2,f3⟩:=blk4 hp
 obtain⟨q0,q1⟩:=blk1 hq
 repeat' ((fail_if_success at_builtin);first|go_values|go_skip|go_guarded|go_step|go_upon|go_back)
 clear p0 p1 p2 p3 f0 f1 f2 f3 q0 q1 hp hq hta
 cases c₀
 simp_all [bodyPostS,results,Tryz.results94,gaveG,grefV]
set_option maxRecDepth 20000 in
theorem gidle(p q:Addr)(w:World) :
  CallsD Tryz.prog 94 #[.pointer (some p),.pointer (some q)] .returning w fun e u' w'=>e = .returned (.tuple #[])/\u' = .returning/\w'=w:=by
 refine callsD_of_wpS Tryz.func94 rfl fun c₀ cs hu=>?_
 apply wpS_seq
 apply wpS_region
 have hta:=assert_gnil
 simp[wpOpsS,go_sem,recoverD,hu,Tryz.ntmps94,Exit.thenS,Array.replicate,List.replicate,hta]
 refine wpS_of_wp ?_
 repeat' ((fail_if_success at_builtin);first|go_values|go_skip|go_guarded|go_step|go_upon|go_back)
 cases c₀
 simp_all [bodyPostS,results,Tryz.results94]
def PXc(s:PS)(pv ev:Value):Array Value:=#[.int .i64 s.im.number,.int .i64 s.im.mark,pv,ev,.int .i64 (s.frames:Int),.string ⟨s.name.toArray⟩,.string ⟨s.key.toArray⟩,.bool s.over]
structure PX (w:World) (n0 g kb:Nat) (s:PS) (pv ev:Value) (pcs ecs:List Value):Prop where
 hg:w.heap[g]? = some (.cells (PXc s pv ev) 161 (0,0))
 po:w.ownsRow n0 172 3 pv s.im.procs.length pcs
 eo:w.ownsRow n0 331 4 ev s.im.entries.length ecs
 mp:MP w (.int .u8) kb (kindsL g)
 ng:n0<=g
 nk:n0<=kb
theorem PX.pure{w w':World}{n0 g kb:Nat}{s:PS}{pv ev:Value}{pcs ecs:List Value}(h:PX w n0 g kb s pv ev pcs ecs)(hb:Below w.heap.size w w'):PX w' n0 g kb s pv ev pcs ecs :=
 ⟨blk_below hb h.hg (blk_lt h.hg),own_below h.po hb,own_below h.eo hb,h.mp.below hb,h.ng,h.nk⟩
theorem PX.read{w w':World}{n0 g kb b:Nat}{s:PS}{pv ev:Value}{pcs ecs:List Value}{r:RS}(h:PX w n0 g kb s pv ev pcs ecs)(hr:Rd w b r)(hn:n0<=b)(hf:Fr w w' (fun k=>k=b)):PX w' n0 g kb s pv ev pcs ecs/\Below n0 w w':=by
 have hk:=Kb.of_fr hf
 obtain⟨c,hc⟩:=Rd.reader hr
 have hl:=Rd.lt hr
 refine⟨⟨hk _ _ h.hg (Rd.ne hr h.hg (by decide)),own_kb h.po hk hc (by decide),own_kb h.eo hk hc (by decide),h.mp.at_ (hf.block _ h.mp.lt (fun e=>h.mp.ne hc e.symm)),h.ng,h.nk⟩,⟨hf.os,hf.tape,hf.output,hf.size,fun j hj=>hf.block j (by omega) (by omega)⟩⟩
theorem PX.set{w:World}{n0 g kb b:Nat}{s s':PS}{pv ev:Value}{pcs ecs:List Value}{r:RS}(h:PX w n0 g kb s pv ev pcs ecs)(hr:Rd w b r)(i:Nat)(u:Value)(hc:(PXc s pv ev).setIfInBounds i u=PXc s' pv ev)(hp:s'.im.procs.length=s.im.procs.length)(he:s'.im.entries.length=s.im.entries.length) :
  PX (w.setCell ⟨g,i,none⟩ u) n0 g kb s' pv ev pcs ecs/\Rd (w.setCell ⟨g,i,none⟩ u) b r/\Below n0 w (w.setCell ⟨g,i,none⟩ u):=by
 have hk:Kb g w (w.setCell ⟨g,i,none⟩ u):=Kb.set
 refine⟨⟨by rw[<-hc];exact blk_set h.hg i u,by rw[hp];exact own_kb h.po hk h.hg (by decide),by rw[he];exact own_kb h.eo hk h.hg (by decide),h.mp.at_ (Below.heap_setCell _ _ _ _ (fun e=>h.mp.ne h.hg (by first|exact e|exact e.symm))),h.ng,h.nk⟩,Rd.setO hr h.hg ?_ (Rd.ne hr h.hg (by decide)).symm i u,(Below.refl _ _).setCell (p:=⟨g,i,none⟩) h.ng _⟩
 intro v hv x
 simp only[PXc,List.mem_cons,List.not_mem_nil,or_false] at hv
 rcases hv with rfl|rfl|rfl|rfl|rfl|rfl|rfl|rfl
 ·simp[B]
 ·simp[B]
 ·exact own_noB h.po x
 ·exact own_noB h.eo x
 all_goals simp[B]
theorem PX.c{w:World}{n0 g kb:Nat}{s:PS}{pv ev:Value}{pcs ecs:List Value}(h:PX w n0 g kb s pv ev pcs ecs) :
  w.cell? ⟨g,0,none⟩=some (.int .i64 s.im.number)/\w.cell? ⟨g,1,none⟩=some (.int .i64 s.im.mark)/\w.cell? ⟨g,2,none⟩=some pv/\w.cell? ⟨g,3,none⟩=some ev/\w.cell? ⟨g,4,none⟩=some (.int .i64 (s.frames:Int))/\w.cell? ⟨g,5,none⟩=some (.string ⟨s.name.toArray⟩)/\w.cell? ⟨g,6,none⟩=some (.string ⟨s.key.toArray⟩)/\w.cell? ⟨g,7,none⟩=some (.bool s.over) :=
 ⟨blk_cell h.hg 0,blk_cell h.hg 1,blk_cell h.hg 2,blk_cell h.hg 3,blk_cell h.hg 4,blk_cell h.hg 5,blk_cell h.hg 6,blk_cell h.hg 7⟩
theorem PX.f{w:World}{n0 g kb:Nat}{s:PS}{pv ev:Value}{pcs ecs:List Value}(h:PX w n0 g kb s pv ev pcs ecs)(i:Nat):w.frozen? ⟨g,i,none⟩=false:=blk_free h.hg i
def PgPost(n0 g kb b:Nat)(w:World):Option (PS×RS)->Ending->World->Prop
 | none,e,w'=>e = .panicked [{ v:=grefV 3,recovered:=false }]/\Below n0 w w'
 | some x,e,w'=>e = .returned (.tuple #[])/\(∃ pv ev pcs ecs,PX w' n0 g kb x.1 pv ev pcs ecs)/\Rd w' b x.2/\Below n0 w w'
set_option maxRecDepth 20000 in
theorem ghead_any(w:World){n0 g kb b:Nat}{s:PS}{pv ev:Value}{pcs ecs:List Value}{r:RS}(all:Int)(H:PX w n0 g kb s pv ev pcs ecs)(hr:Rd w b r)(hn:n0<=b) :
  Calls Tryz.prog 166 #[.pointer (some ⟨g,0,none⟩),.pointer (some ⟨b,0,none⟩),.int .i64 all] w (PgPost n0 g kb b w (pgHead s r)):=by
 have HX:=Lib.hid H
 clear H
 by_cases h1:s.frames=0
 ·have t1:((s.frames:Int)==0)=true:=by simp[h1]
  by_cases h2:1<=r.number.1
  ·have t2:decide ((1:Int)<=(r.number.1:Int))=true:=decide_eq_true (by omega)
   by_cases h3:r.number.1<=281474976710655
   ·have t3:decide ((r.number.1:Int)<=281474976710655)=true:=decide_eq_true (by omega)
    by_cases h4:r.number.2.number.1<=281474976710655
    ·have t4:decide ((r.number.2.number.1:Int)<=281474976710655)=true:=decide_eq_true (by omega)
     have e:pgHead s r=some ({ s with im:={ s.im with number:=(r.number.1:Int),mark:=(r.number.2.number.1:Int) } },r.number.2.number.2):=if_pos ⟨h1,h2,h3,h4⟩
     rw[e]
     clear h1 h2 h3 h4 e
     (go_enter Tryz.func166,Tryz.ntmps166;(repeat' ((fail_if_success at_builtin);first|go_values|go_skip|go_guarded|go_step|go_upon|go_back));(refine(number_any w b r hr).mono ?_;rintro e1 w1 ⟨rfl,hR1,hF1⟩;dsimp only);obtain⟨H1,hb1⟩:=HX.out.read hr hn hF1;(repeat' ((fail_if_success at_builtin);first|go_values|go_skip|go_guarded|go_step|go_upon|go_back));(refine(number_any _ b _ hR1).mono ?_;rintro e1 w2 ⟨rfl,hR2,hF2⟩;dsimp only);obtain⟨H2,hb2⟩:=H1.read hR1 hn hF2;obtain⟨c0,c1,c2,c3,c4,c5,c6,c7⟩:=H2.c;have f0:=H2.f 0;have f1:=H2.f 1;obtain⟨H3,hR3,hb3⟩:=H2.set hR2 (s':={ s with im:={ s.im with number:=(r.number.1:Int) } }) 0 (.int .i64 (r.number.1:Int)) rfl rfl rfl;obtain⟨H4,hR4,hb4⟩:=H3.set hR3 (s':={ s with im:={ s.im with number:=(r.number.1:Int),mark:=(r.number.2.number.1:Int) } }) 1 (.int .i64 (r.number.2.number.1:Int)) rfl rfl rfl;have HB:=Lib.hid (((hb1.trans hb2).trans hb3).trans hb4);have HH:=Lib.hid H4;have HR:=Lib.hid hR4;clear H1 H2 H3 H4 hb1 hb2 hb3 hb4 hR1 hR2 hR3 hR4 hF1 hF2 hr;(repeat' ((fail_if_success at_builtin);first|go_values|go_skip|go_guarded|go_step|go_upon|go_back)))
     (refine(pmay_ok _).mono ?_;rintro e1 w3 ⟨rfl,rfl⟩;dsimp only)
     repeat' ((fail_if_success at_builtin);first|go_values|go_skip|go_guarded|go_step|go_upon|go_back)
     refine bodyPost_end (results_none rfl _ _ _) rfl ⟨rfl,⟨_,_,_,_,HH.out⟩,HR.out,HB.out⟩
    ·have t4:decide ((r.number.2.number.1:Int)<=281474976710655)=false:=decide_eq_false (by omega)
     have e:pgHead s r=none:=if_neg (fun h=>h4 h.2.2.2)
     rw[e]
     clear h1 h2 h3 h4 e
     ((go_enter Tryz.func166,Tryz.ntmps166;(repeat' ((fail_if_success at_builtin);first|go_values|go_skip|go_guarded|go_step|go_upon|go_back));(refine(number_any w b r hr).mono ?_;rintro e1 w1 ⟨rfl,hR1,hF1⟩;dsimp only);obtain⟨H1,hb1⟩:=HX.out.read hr hn hF1;(repeat' ((fail_if_success at_builtin);first|go_values|go_skip|go_guarded|go_step|go_upon|go_back));(refine(number_any _ b _ hR1).mono ?_;rintro e1 w2 ⟨rfl,hR2,hF2⟩;dsimp only);obtain⟨H2,hb2⟩:=H1.read hR1 hn hF2;obtain⟨c0,c1,c2,c3,c4,c5,c6,c7⟩:=H2.c;have f0:=H2.f 0;have f1:=H2.f 1;obtain⟨H3,hR3,hb3⟩:=H2.set hR2 (s':={ s with im:={ s.im with number:=(r.number.1:Int) } }) 0 (.int .i64 (r.number.1:Int)) rfl rfl rfl;obtain⟨H4,hR4,hb4⟩:=H3.set hR3 (s':={ s with im:={ s.im with number:=(r.number.1:Int),mark:=(r.number.2.number.1:Int) } }) 1 (.int .i64 (r.number.2.number.1:Int)) rfl rfl rfl;have HB:=Lib.hid (((hb1.trans hb2).trans hb3).trans hb4);have HH:=Lib.hid H4;have HR:=Lib.hid hR4;clear H1 H2 H3 H4 hb1 hb2 hb3 hb4 hR1 hR2 hR3 hR4 hF1 hF2 hr;(repeat' ((fail_if_success at_builtin);first|go_values|go_skip|go_guarded|go_step|go_upon|go_back)));(refine(pmay_no _).mono ?_;rintro e1 w3 ⟨rfl,rfl⟩;dsimp only);exact⟨rfl,rfl,HB.out⟩)
   ·have t3:decide ((r.number.1:Int)<=281474976710655)=false:=decide_eq_false (by omega)
    have e:pgHead s r=none:=if_neg (fun h=>h3 h.2.2.1)
    rw[e]
    clear h1 h2 h3 e
    ((go_enter Tryz.func166,Tryz.ntmps166;(repeat' ((fail_if_success at_builtin);first|go_values|go_skip|go_guarded|go_step|go_upon|go_back));(refine(number_any w b r hr).mono ?_;rintro e1 w1 ⟨rfl,hR1,hF1⟩;dsimp only);obtain⟨H1,hb1⟩:=HX.out.read hr hn hF1;(repeat' ((fail_if_success at_builtin);first|go_values|go_skip|go_guarded|go_step|go_upon|go_back));(refine(number_any _ b _ hR1).mono ?_;rintro e1 w2 ⟨rfl,hR2,hF2⟩;dsimp only);obtain⟨H2,hb2⟩:=H1.read hR1 hn hF2;obtain⟨c0,c1,c2,c3,c4,c5,c6,c7⟩:=H2.c;have f0:=H2.f 0;have f1:=H2.f 1;obtain⟨H3,hR3,hb3⟩:=H2.set hR2 (s':={ s with im:={ s.im with number:=(r.number.1:Int) } }) 0 (.int .i64 (r.number.1:Int)) rfl rfl rfl;obtain⟨H4,hR4,hb4⟩:=H3.set hR3 (s':={ s with im:={ s.im with number:=(r.number.1:Int),mark:=(r.number.2.number.1:Int) } }) 1 (.int .i64 (r.number.2.number.1:Int)) rfl rfl rfl;have HB:=Lib.hid (((hb1.trans hb2).trans hb3).trans hb4);have HH:=Lib.hid H4;have HR:=Lib.hid hR4;clear H1 H2 H3 H4 hb1 hb2 hb3 hb4 hR1 hR2 hR3 hR4 hF1 hF2 hr;(repeat' ((fail_if_success at_builtin);first|go_values|go_skip|go_guarded|go_step|go_upon|go_back)));(refine(pmay_no _).mono ?_;rintro e1 w3 ⟨rfl,rfl⟩;dsimp only);exact⟨rfl,rfl,HB.out⟩)
  ·have t2:decide ((1:Int)<=(r.number.1:Int))=false:=decide_eq_false (by omega)
   have e:pgHead s r=none:=if_neg (fun h=>h2 h.2.1)
   rw[e]
   clear h1 h2 e
   ((go_enter Tryz.func166,Tryz.ntmps166;(repeat' ((fail_if_success at_builtin);first|go_values|go_skip|go_guarded|go_step|go_upon|go_back));(refine(number_any w b r hr).mono ?_;rintro e1 w1 ⟨rfl,hR1,hF1⟩;dsimp only);obtain⟨H1,hb1⟩:=HX.out.read hr hn hF1;(repeat' ((fail_if_success at_builtin);first|go_values|go_skip|go_guarded|go_step|go_upon|go_back));(refine(number_any _ b _ hR1).mono ?_;rintro e1 w2 ⟨rfl,hR2,hF2⟩;dsimp only);obtain⟨H2,hb2⟩:=H1.read hR1 hn hF2;obtain⟨c0,c1,c2,c3,c4,c5,c6,c7⟩:=H2.c;have f0:=H2.f 0;have f1:=H2.f 1;obtain⟨H3,hR3,hb3⟩:=H2.set hR2 (s':={ s with im:={ s.im with number:=(r.number.1:Int) } }) 0 (.int .i64 (r.number.1:Int)) rfl rfl rfl;obtain⟨H4,hR4,hb4⟩:=H3.set hR3 (s':={ s with im:={ s.im with number:=(r.number.1:Int),mark:=(r.number.2.number.1:Int) } }) 1 (.int .i64 (r.number.2.number.1:Int)) rfl rfl rfl;have HB:=Lib.hid (((hb1.trans hb2).trans hb3).trans hb4);have HH:=Lib.hid H4;have HR:=Lib.hid hR4;clear H1 H2 H3 H4 hb1 hb2 hb3 hb4 hR1 hR2 hR3 hR4 hF1 hF2 hr;(repeat' ((fail_if_success at_builtin);first|go_values|go_skip|go_guarded|go_step|go_upon|go_back)));(refine(pmay_no _).mono ?_;rintro e1 w3 ⟨rfl,rfl⟩;dsimp only);exact⟨rfl,rfl,HB.out⟩)
 ·have t1:((s.frames:Int)==0)=false:=by simp;omega
  have e:pgHead s r=none:=if_neg (fun h=>h1 h.1)
  rw[e]
  clear h1 e
  ((go_enter Tryz.func166,Tryz.ntmps166;(repeat' ((fail_if_success at_builtin);first|go_values|go_skip|go_guarded|go_step|go_upon|go_back));(refine(number_any w b r hr).mono ?_;rintro e1 w1 ⟨rfl,hR1,hF1⟩;dsimp only);obtain⟨H1,hb1⟩:=HX.out.read hr hn hF1;(repeat' ((fail_if_success at_builtin);first|go_values|go_skip|go_guarded|go_step|go_upon|go_back));(refine(number_any _ b _ hR1).mono ?_;rintro e1 w2 ⟨rfl,hR2,hF2⟩;dsimp only);obtain⟨H2,hb2⟩:=H1.read hR1 hn hF2;obtain⟨c0,c1,c2,c3,c4,c5,c6,c7⟩:=H2.c;have f0:=H2.f 0;have f1:=H2.f 1;obtain⟨H3,hR3,hb3⟩:=H2.set hR2 (s':={ s with im:={ s.im with number:=(r.number.1:Int) } }) 0 (.int .i64 (r.number.1:Int)) rfl rfl rfl;obtain⟨H4,hR4,hb4⟩:=H3.set hR3 (s':={ s with im:={ s.im with number:=(r.number.1:Int),mark:=(r.number.2.number.1:Int) } }) 1 (.int .i64 (r.number.2.number.1:Int)) rfl rfl rfl;have HB:=Lib.hid (((hb1.trans hb2).trans hb3).trans hb4);have HH:=Lib.hid H4;have HR:=Lib.hid hR4;clear H1 H2 H3 H4 hb1 hb2 hb3 hb4 hR1 hR2 hR3 hR4 hF1 hF2 hr;(repeat' ((fail_if_success at_builtin);first|go_values|go_skip|go_guarded|go_step|go_upon|go_back)));(refine(pmay_no _).mono ?_;rintro e1 w3 ⟨rfl,rfl⟩;dsimp only);exact⟨rfl,rfl,HB.out⟩)
set_option maxRecDepth 20000 in
theorem gend_any(w:World){n0 g kb b:Nat}{s:PS}{pv ev:Value}{pcs ecs:List Value}{r:RS}(all:Int)(H:PX w n0 g kb s pv ev pcs ecs)(hr:Rd w b r)(hn:n0<=b) :
  Calls Tryz.prog 169 #[.pointer (some ⟨g,0,none⟩),.pointer (some ⟨b,0,none⟩),.int .i64 all] w (PgPost n0 g kb b w (pgEnd s r)):=by
 obtain⟨pa,pc,rfl,-,-,-,-⟩:=own_rowT H.po
 obtain⟨ea,ec,rfl,-,-,-,-⟩:=own_rowT H.eo
 have HX:=Lib.hid H
 clear H
 by_cases h1:0<s.frames
 ·have t1:decide (0<s.frames)=true:=decide_eq_true h1
  by_cases h2:r.number.1=s.im.procs.length
  ·have t2:((r.number.1:Int)==(s.im.procs.length:Int))=true:=by simp[h2]
   by_cases h3:r.number.2.number.1=s.im.entries.length
   ·have t3:((r.number.2.number.1:Int)==(s.im.entries.length:Int))=true:=by simp[h3]
    have e:pgEnd s r=some ({ s with over:=true },r.number.2.number.2):=if_pos ⟨h1,h2,h3⟩
    rw[e]
    clear h1 h2 h3 e
    (go_enter Tryz.func169,Tryz.ntmps169;(repeat' ((fail_if_success at_builtin);first|go_values|go_skip|go_guarded|go_step|go_upon|go_back));(refine(number_any w b r hr).mono ?_;rintro e1 w1 ⟨rfl,hR1,hF1⟩;dsimp only);obtain⟨H1,hb1⟩:=HX.out.read hr hn hF1;(repeat' ((fail_if_success at_builtin);first|go_values|go_skip|go_guarded|go_step|go_upon|go_back));(refine(number_any _ b _ hR1).mono ?_;rintro e1 w2 ⟨rfl,hR2,hF2⟩;dsimp only);obtain⟨H2,hb2⟩:=H1.read hR1 hn hF2;obtain⟨c0,c1,c2,c3,c4,c5,c6,c7⟩:=H2.c;have f7:=H2.f 7;have HB:=Lib.hid (hb1.trans hb2);have HH:=Lib.hid H2;have HR:=Lib.hid hR2;clear H1 H2 hb1 hb2 hR1 hR2 hF1 hF2 hr;(repeat' ((fail_if_success at_builtin);first|go_values|go_skip|go_guarded|go_step|go_upon|go_back)))
    (refine(pmay_ok _).mono ?_;rintro e1 w3 ⟨rfl,rfl⟩;dsimp only)
    obtain⟨H4,hR4,hb4⟩:=HH.out.set HR.out (s':={ s with over:=true }) 7 (.bool true) rfl rfl rfl
    have HH4:=Lib.hid H4
    have HR4:=Lib.hid hR4
    have HB4:=Lib.hid (HB.out.trans hb4)
    clear H4 hR4 hb4 HH HR HB
    repeat' ((fail_if_success at_builtin);first|go_values|go_skip|go_guarded|go_step|go_upon|go_back)
    refine bodyPost_end (results_none rfl _ _ _) rfl ⟨rfl,⟨_,_,_,_,HH4.out⟩,HR4.out,HB4.out⟩
   ·have t3:((r.number.2.number.1:Int)==(s.im.entries.length:Int))=false:=by simp;omega
    have e:pgEnd s r=none:=if_neg (fun h=>h3 h.2.2)
    rw[e]
    clear h1 h2 h3 e
    ((go_enter Tryz.func169,Tryz.ntmps169;(repeat' ((fail_if_success at_builtin);first|go_values|go_skip|go_guarded|go_step|go_upon|go_back));(refine(number_any w b r hr).mono ?_;rintro e1 w1 ⟨rfl,hR1,hF1⟩;dsimp only);obtain⟨H1,hb1⟩:=HX.out.read hr hn hF1;(repeat' ((fail_if_success at_builtin);first|go_values|go_skip|go_guarded|go_step|go_upon|go_back));(refine(number_any _ b _ hR1).mono ?_;rintro e1 w2 ⟨rfl,hR2,hF2⟩;dsimp only);obtain⟨H2,hb2⟩:=H1.read hR1 hn hF2;obtain⟨c0,c1,c2,c3,c4,c5,c6,c7⟩:=H2.c;have f7:=H2.f 7;have HB:=Lib.hid (hb1.trans hb2);have HH:=Lib.hid H2;have HR:=Lib.hid hR2;clear H1 H2 hb1 hb2 hR1 hR2 hF1 hF2 hr;(repeat' ((fail_if_success at_builtin);first|go_values|go_skip|go_guarded|go_step|go_upon|go_back)));(refine(pmay_no _).mono ?_;rintro e1 w3 ⟨rfl,rfl⟩;dsimp only);exact⟨rfl,rfl,HB.out⟩)
  ·have t2:((r.number.1:Int)==(s.im.procs.length:Int))=false:=by simp;omega
   have e:pgEnd s r=none:=if_neg (fun h=>h2 h.2.1)
   rw[e]
   clear h1 h2 e
   ((go_enter Tryz.func169,Tryz.ntmps169;(repeat' ((fail_if_success at_builtin);first|go_values|go_skip|go_guarded|go_step|go_upon|go_back));(refine(number_any w b r hr).mono ?_;rintro e1 w1 ⟨rfl,hR1,hF1⟩;dsimp only);obtain⟨H1,hb1⟩:=HX.out.read hr hn hF1;(repeat' ((fail_if_success at_builtin);first|go_values|go_skip|go_guarded|go_step|go_upon|go_back));(refine(number_any _ b _ hR1).mono ?_;rintro e1 w2 ⟨rfl,hR2,hF2⟩;dsimp only);obtain⟨H2,hb2⟩:=H1.read hR1 hn hF2;obtain⟨c0,c1,c2,c3,c4,c5,c6,c7⟩:=H2.c;have f7:=H2.f 7;have HB:=Lib.hid (hb1.trans hb2);have HH:=Lib.hid H2;have HR:=Lib.hid hR2;clear H1 H2 hb1 hb2 hR1 hR2 hF1 hF2 hr;(repeat' ((fail_if_success at_builtin);first|go_values|go_skip|go_guarded|go_step|go_upon|go_back)));(refine(pmay_no _).mono ?_;rintro e1 w3 ⟨rfl,rfl⟩;dsimp only);exact⟨rfl,rfl,HB.out⟩)
 ·have t1:decide (0<s.frames)=false:=decide_eq_false h1
  have e:pgEnd s r=none:=if_neg (fun h=>h1 h.1)
  rw[e]
  clear h1 e
  ((go_enter Tryz.func169,Tryz.ntmps169;(repeat' ((fail_if_success at_builtin);first|go_values|go_skip|go_guarded|go_step|go_upon|go_back));(refine(number_any w b r hr).mono ?_;rintro e1 w1 ⟨rfl,hR1,hF1⟩;dsimp only);obtain⟨H1,hb1⟩:=HX.out.read hr hn hF1;(repeat' ((fail_if_success at_builtin);first|go_values|go_skip|go_guarded|go_step|go_upon|go_back));(refine(number_any _ b _ hR1).mono ?_;rintro e1 w2 ⟨rfl,hR2,hF2⟩;dsimp only);obtain⟨H2,hb2⟩:=H1.read hR1 hn hF2;obtain⟨c0,c1,c2,c3,c4,c5,c6,c7⟩:=H2.c;have f7:=H2.f 7;have HB:=Lib.hid (hb1.trans hb2);have HH:=Lib.hid H2;have HR:=Lib.hid hR2;clear H1 H2 hb1 hb2 hR1 hR2 hF1 hF2 hr;(repeat' ((fail_if_success at_builtin);first|go_values|go_skip|go_guarded|go_step|go_upon|go_back)));(refine(pmay_no _).mono ?_;rintro e1 w3 ⟨rfl,rfl⟩;dsimp only);exact⟨rfl,rfl,HB.out⟩)
theorem own_hk{w w':World}{n0 size n:Nat}{t:TypeId}{v:Value}{xs:List Value}(ho:w.ownsRow n0 t size v n xs)(hk:∀ (k:Nat) (c:Array Value) (f:Nat×Nat),w.heap[k]? = some (.cells c t f)->w'.heap[k]? = some (.cells c t f)):w'.ownsRow n0 t size v n xs:=by
 obtain⟨h1,h2⟩:=ho
 refine⟨h1,?_⟩
 rcases h2 with h2|⟨g,cap,cur,rfl,hg,hh,r⟩
 ·exact .inl h2
 ·exact .inr ⟨g,cap,cur,rfl,hg,hk _ _ _ hh,r⟩
theorem MP.own_ne{w:World}{d:TypeDesc}{b n0 size n:Nat}{t:TypeId}{v:Value}{xs:List Value}{l:List (Value×Value)}(h:MP w d b l)(ho:w.ownsRow n0 t size v n xs):some b≠v.ownBlock:=by
 rcases ho.2 with ⟨rfl,_⟩|⟨g,cap,cur,rfl,hg,hh,r⟩
 ·simp[Value.ownBlock]
 ·intro e
  have:b=g:=by simpa [Value.ownBlock] using e
  exact h.ne hh this.symm
theorem PX.appP{w w':World}{n0 g kb gg cap b:Nat}{s:PS}{pv ev:Value}{pcs ecs:List Value}{r:RS}(h:PX w n0 g kb s pv ev pcs ecs)(hr:Rd w b r)(hn:n0<=w.heap.size)(o:Obj)(hg:(w.alloc o).grownBy w' pv.ownBlock)(p:P)(row:List Value)
  (ho:w'.ownsRow n0 172 3 (.slice (some ⟨gg,0,none⟩) (s.im.procs.length+1) cap) (s.im.procs.length+1) (pcs++row)) :
  w'.cell? ⟨g,2,none⟩=some pv/\w'.frozen? ⟨g,2,none⟩=false/\PX (w'.setCell ⟨g,2,none⟩ (.slice (some ⟨gg,0,none⟩) (s.im.procs.length+1) cap)) n0 g kb { s with im:={ s.im with procs:=s.im.procs++[p] } } (.slice (some ⟨gg,0,none⟩) (s.im.procs.length+1) cap) ev (pcs++row) ecs /\
   Rd (w'.setCell ⟨g,2,none⟩ (.slice (some ⟨gg,0,none⟩) (s.im.procs.length+1) cap)) b r/\Below n0 w (w'.setCell ⟨g,2,none⟩ (.slice (some ⟨gg,0,none⟩) (s.im.procs.length+1) cap)):=by
 have hk:∀ {k:Nat} {c:Array Value} {t:TypeId} {f:Nat×Nat},w.heap[k]? = some (.cells c t f)->t≠172->w'.heap[k]? = some (.cells c t f):=fun{k c t f} hb ht=>blk_grown hg (blk_alloc hb o) (own_ne h.po hb ht)
 have p1:=hk h.hg (by decide)
 have hb':Below n0 w w':=((Below.refl _ w).alloc hn o).grown hg (by simp;omega) (fun k e=>own_ge h.po e)
 have hr':Rd w' b r:=by
  obtain⟨a,c,h1,h2,h3,h4,h5⟩:=hr
  refine⟨a,c,hk h1 (by decide),h2.kept fun g o' e hlt=>?_,h3,h4,h5.kept fun g cur f hg=>hk hg (by decide)⟩
  obtain⟨cur,f,hg⟩:=h5 g o' e
  exact(hk hg (by decide)).trans hg.symm
 have heo:w'.ownsRow n0 331 4 ev s.im.entries.length ecs:=own_hk h.eo (fun k c f hb=>hk hb (by decide))
 have hmp:MP w' (.int .u8) kb (kindsL g):=h.mp.at_ ((hg.block kb (by have:=h.mp.lt;simp;omega) (h.mp.own_ne h.po)).trans (Below.heap_alloc _ _ _ h.mp.lt))
 refine⟨blk_cell p1 2,blk_free p1 2,⟨(blk_set p1 2 _).trans rfl,?_,own_kb heo Kb.set p1 (by decide),hmp.at_ (Below.heap_setCell _ _ _ _ (fun e=>hmp.ne p1 (by first|exact e|exact e.symm))),h.ng,h.nk⟩,?_,hb'.setCell (p:=⟨g,2,none⟩) h.ng _⟩
 ·have:=own_kb ho (Kb.set (i:=2) (u := .slice (some ⟨gg,0,none⟩) (s.im.procs.length+1) cap)) p1 (by decide)
  simpa using this
 ·refine Rd.setO hr' p1 ?_ (Rd.ne hr' p1 (by decide)).symm 2 _
  intro v hv x
  simp only[PXc,List.mem_cons,List.not_mem_nil,or_false] at hv
  rcases hv with rfl|rfl|rfl|rfl|rfl|rfl|rfl|rfl
  ·simp[B]
  ·simp[B]
  ·exact own_noB h.po x
  ·exact own_noB h.eo x
  all_goals simp[B]
set_option maxRecDepth 20000 in
theorem iskey_any(w:World)(k:Bs):Calls Tryz.prog 236 #[.string ⟨k.toArray⟩] w fun e w'=>e = .returned (.bool (okKey k))/\w=w':=by
 have hs:(⟨k.toArray⟩:ByteArray).size=k.length:=str_size k
 unfold okKey
 by_cases h1:0<k.length
 ·have t1:decide (0<k.length)=true:=decide_eq_true h1
  by_cases h2:k.length<=64
  ·have t2:decide (k.length<=64)=true:=decide_eq_true h2
   have t3:decide ((k.length:Int)<=64)=true:=decide_eq_true (by omega)
   rw[t2,t1]
   clear h1 h2 t2
   go_enter Tryz.func236,Tryz.ntmps236
   repeat' ((fail_if_success at_builtin);first|go_values|go_skip|go_guarded|go_step|go_upon|go_back)
   refine bodyPost_ret (results_tmp rfl _ _ _) rfl ⟨rfl,rfl⟩
  ·have t2:decide (k.length<=64)=false:=decide_eq_false h2
   have t3:decide ((k.length:Int)<=64)=false:=decide_eq_false (by omega)
   rw[t2,t1]
   clear h1 h2 t2
   go_enter Tryz.func236,Tryz.ntmps236
   repeat' ((fail_if_success at_builtin);first|go_values|go_skip|go_guarded|go_step|go_upon|go_back)
   refine bodyPost_ret (results_tmp rfl _ _ _) rfl ⟨rfl,rfl⟩
 ·have t1:decide (0<k.length)=false:=decide_eq_false h1
  rw[t1]
  clear h1
  go_enter Tryz.func236,Tryz.ntmps236
  repeat' ((fail_if_success at_builtin);first|go_values|go_skip|go_guarded|go_step|go_upon|go_back)
  refine bodyPost_ret (results_tmp rfl _ _ _) rfl ⟨rfl,rfl⟩
theorem own_fresh{w:World}{n0 size n:Nat}{t:TypeId}{v:Value}{xs:List Value}(ho:w.ownsRow n0 t size v n xs):v.ownBlock≠some w.heap.size:=by
 rcases ho.2 with ⟨rfl,_⟩|⟨g,cap,cur,rfl,hg,hh,r⟩
 ·simp[Value.ownBlock]
 ·intro e
  have:g=w.heap.size:=by simpa [Value.ownBlock] using e
  have:=blk_lt hh
  omega
theorem PX.appE{w w':World}{n0 g kb gg cap b:Nat}{s:PS}{pv ev:Value}{pcs ecs:List Value}{r:RS}(h:PX w n0 g kb s pv ev pcs ecs)(hr:Rd w b r)(hn:n0<=w.heap.size)(o:Obj)(hg:(w.alloc o).grownBy w' ev.ownBlock)(p:En)(row:List Value)
  (ho:w'.ownsRow n0 331 4 (.slice (some ⟨gg,0,none⟩) (s.im.entries.length+1) cap) (s.im.entries.length+1) (ecs++row)) :
  w'.cell? ⟨g,3,none⟩=some ev/\w'.frozen? ⟨g,3,none⟩=false/\PX (w'.setCell ⟨g,3,none⟩ (.slice (some ⟨gg,0,none⟩) (s.im.entries.length+1) cap)) n0 g kb { s with im:={ s.im with entries:=s.im.entries++[p] } } pv (.slice (some ⟨gg,0,none⟩) (s.im.entries.length+1) cap) pcs (ecs++row) /\
   Rd (w'.setCell ⟨g,3,none⟩ (.slice (some ⟨gg,0,none⟩) (s.im.entries.length+1) cap)) b r/\Below n0 w (w'.setCell ⟨g,3,none⟩ (.slice (some ⟨gg,0,none⟩) (s.im.entries.length+1) cap)):=by
 have hk:∀ {k:Nat} {c:Array Value} {t:TypeId} {f:Nat×Nat},w.heap[k]? = some (.cells c t f)->t≠331->w'.heap[k]? = some (.cells c t f):=fun{k c t f} hb ht=>blk_grown hg (blk_alloc hb o) (own_ne h.eo hb ht)
 have p1:=hk h.hg (by decide)
 have hb':Below n0 w w':=((Below.refl _ w).alloc hn o).grown hg (by simp;omega) (fun k e=>own_ge h.eo e)
 have hr':Rd w' b r:=by
  obtain⟨a,c,h1,h2,h3,h4,h5⟩:=hr
  refine⟨a,c,hk h1 (by decide),h2.kept fun g o' e hlt=>?_,h3,h4,h5.kept fun g cur f hg=>hk hg (by decide)⟩
  obtain⟨cur,f,hg⟩:=h5 g o' e
  exact(hk hg (by decide)).trans hg.symm
 have hpo:w'.ownsRow n0 172 3 pv s.im.procs.length pcs:=own_hk h.po (fun k c f hb=>hk hb (by decide))
 have hmp:MP w' (.int .u8) kb (kindsL g):=h.mp.at_ ((hg.block kb (by have:=h.mp.lt;simp;omega) (h.mp.own_ne h.eo)).trans (Below.heap_alloc _ _ _ h.mp.lt))
 refine⟨blk_cell p1 3,blk_free p1 3,⟨(blk_set p1 3 _).trans rfl,own_kb hpo Kb.set p1 (by decide),?_,hmp.at_ (Below.heap_setCell _ _ _ _ (fun e=>hmp.ne p1 (by first|exact e|exact e.symm))),h.ng,h.nk⟩,?_,hb'.setCell (p:=⟨g,3,none⟩) h.ng _⟩
 ·have:=own_kb ho (Kb.set (i:=3) (u := .slice (some ⟨gg,0,none⟩) (s.im.entries.length+1) cap)) p1 (by decide)
  simpa using this
 ·refine Rd.setO hr' p1 ?_ (Rd.ne hr' p1 (by decide)).symm 3 _
  intro v hv x
  simp only[PXc,List.mem_cons,List.not_mem_nil,or_false] at hv
  rcases hv with rfl|rfl|rfl|rfl|rfl|rfl|rfl|rfl
  ·simp[B]
  ·simp[B]
  ·exact own_noB h.po x
  ·exact own_noB h.eo x
  all_goals simp[B]
theorem pgEntries_ok{all n:Nat}{s:PS}{r ra rb:RS}{k y:Bs}{v:V}(h1:r.text (all:Int)=(k,ra))(h2:ra.text (all:Int)=(y,rb))(h3:decV y=(v,0))(h4:okKey k=true)(h5:s.key<k)(h6:v.k≠0) :
  pgEntries all (n+1) s r=pgEntries all n { s with key:=k,im:={ s.im with entries:=s.im.entries++[⟨k,v⟩] } } rb:=by
 simp only[pgEntries,h1,h2,h3]
 exact if_pos ⟨trivial,h4,h5,h6⟩
theorem pgEntries_no{all n:Nat}{s:PS}{r ra rb:RS}{k y:Bs}{v:V}{e:Int}(h1:r.text (all:Int)=(k,ra))(h2:ra.text (all:Int)=(y,rb))(h3:decV y=(v,e))(h:¬ (e=0/\okKey k=true/\s.key<k/\v.k≠0)) :
  pgEntries all (n+1) s r=none:=by
 simp only[pgEntries,h1,h2,h3]
 exact if_neg h
end Go.Proofs.YtbppnihcbcdglaaGreat
