/- batch: a transaction's kind, and why its own parts are none. No condition. -/
import Derived.Test.YtbppnihcbcdglaaGreatZ13
namespace Go.Proofs.YtbppnihcbcdglaaGreat
set_option maxHeartbeats 0
open Go.RowKit
set_option linter.unusedVariables false
set_option linter.unusedSimpArgs false
def Code1(w:World)(a:Option Addr)(l:List I):Prop:=l=[]\/∃ g o,a=some ⟨g,o,none⟩/\∀ k x,l[k]? = some x->IA w g (o+k*8) x
theorem Code1.below{w w':World}{a:Option Addr}{l:List I}(h:Code1 w a l)(hb:Below w.heap.size w w'):Code1 w' a l:=by
 rcases h with rfl|⟨g,o,rfl,h⟩
 ·exact .inl rfl
 ·refine .inr ⟨g,o,rfl,fun k x hx=>?_⟩
  have hc:=h k x hx
  have hlt:=World.block_lt_of_cell? w _ hc.c0
  have e:∀ i,w'.cell? ⟨g,i,none⟩=w.cell? ⟨g,i,none⟩:=fun i=>World.cell?_of_block (hb.block g hlt)
  exact⟨(e _).trans hc.c0,(e _).trans hc.c1,(e _).trans hc.c2,(e _).trans hc.c3,(e _).trans hc.c4,(e _).trans hc.c5,(e _).trans hc.c6,(e _).trans hc.c7⟩
set_option maxRecDepth 20000 in
theorem chkP_name(w:World)(nm:ByteArray)(args:Int)(a:Option Addr)(n c:Nat)(hs:nm.size<=140737488355328)(h:okName nm.data.toList=false) :
  Calls Tryz.prog 176 #[.agg #[.string nm,.int .i64 args,.slice a n c]] w fun e' w'=>e' = .returned (.tuple #[.int .i64 (-1),.int .i64 5])/\Below w.heap.size w w':=by
 have HS:=Lib.hid hs
 clear hs
 have H:=Lib.hid h
 clear h
 go_enter Tryz.func176,Tryz.ntmps176
 repeat' ((fail_if_success at_builtin);first|go_values|go_skip|go_guarded|go_step|go_upon|go_back)
 (refine(isName_any _ nm HS.out).mono ?_;rintro e1 w1 ⟨rfl,rfl⟩;dsimp only)
 rw[H.out]
 repeat' ((fail_if_success at_builtin);first|go_values|go_skip|go_guarded|go_step|go_upon|go_back)
 refine bodyPost_ret (results_tmp2 rfl _ _ _) rfl ⟨rfl,by(repeat' (first|(with_reducible exact Below.refl _ _)|(with_reducible assumption)|(with_reducible refine Below.drew ?_)|(with_reducible refine bdrewN ?_ _)|(with_reducible refine Below.alloc ?_ ?_ _)|(with_reducible refine Below.setCell ?_ ?_ _)|omega|(simp;done)|(simp;omega)))⟩
set_option maxRecDepth 20000 in
theorem chkP_args(w:World)(nm:ByteArray)(args:Int)(a:Option Addr)(n c:Nat)(hs:nm.size<=140737488355328)(h:okName nm.data.toList=true)(ha:args<0\/16<args) :
  Calls Tryz.prog 176 #[.agg #[.string nm,.int .i64 args,.slice a n c]] w fun e' w'=>e' = .returned (.tuple #[.int .i64 (-1),.int .i64 1])/\Below w.heap.size w w':=by
 have HS:=Lib.hid hs
 clear hs
 have H:=Lib.hid h
 clear h
 have b1:decide (args<0)=true\/(decide (args<0)=false/\decide (16<args)=true):=by
  simp only[decide_eq_true_eq,decide_eq_false_iff_not];omega
 clear ha
 rcases b1 with g1|⟨g1,g2⟩
 ·go_enter Tryz.func176,Tryz.ntmps176
  repeat' ((fail_if_success at_builtin);first|go_values|go_skip|go_guarded|go_step|go_upon|go_back)
  (refine(isName_any _ nm HS.out).mono ?_;rintro e1 w1 ⟨rfl,rfl⟩;dsimp only)
  rw[H.out]
  repeat' ((fail_if_success at_builtin);first|go_values|go_skip|go_guarded|go_step|go_upon|go_back)
  refine bodyPost_ret (results_tmp2 rfl _ _ _) rfl ⟨rfl,by(repeat' (first|(with_reducible exact Below.refl _ _)|(with_reducible assumption)|(with_reducible refine Below.drew ?_)|(with_reducible refine bdrewN ?_ _)|(with_reducible refine Below.alloc ?_ ?_ _)|(with_reducible refine Below.setCell ?_ ?_ _)|omega|(simp;done)|(simp;omega)))⟩
 ·go_enter Tryz.func176,Tryz.ntmps176
  repeat' ((fail_if_success at_builtin);first|go_values|go_skip|go_guarded|go_step|go_upon|go_back)
  (refine(isName_any _ nm HS.out).mono ?_;rintro e1 w1 ⟨rfl,rfl⟩;dsimp only)
  rw[H.out]
  repeat' ((fail_if_success at_builtin);first|go_values|go_skip|go_guarded|go_step|go_upon|go_back)
  refine bodyPost_ret (results_tmp2 rfl _ _ _) rfl ⟨rfl,by(repeat' (first|(with_reducible exact Below.refl _ _)|(with_reducible assumption)|(with_reducible refine Below.drew ?_)|(with_reducible refine bdrewN ?_ _)|(with_reducible refine Below.alloc ?_ ?_ _)|(with_reducible refine Below.setCell ?_ ?_ _)|omega|(simp;done)|(simp;omega)))⟩
set_option maxRecDepth 20000 in
theorem chkP_long(w:World)(nm:ByteArray)(args:Int)(a:Option Addr)(n c:Nat)(hs:nm.size<=140737488355328)(h:okName nm.data.toList=true)(h0:0<=args)(h1:args<=16)(hn:64<n) :
  Calls Tryz.prog 176 #[.agg #[.string nm,.int .i64 args,.slice a n c]] w fun e' w'=>e' = .returned (.tuple #[.int .i64 (-1),.int .i64 4])/\Below w.heap.size w w':=by
 have HS:=Lib.hid hs
 clear hs
 have H:=Lib.hid h
 clear h
 have g1:decide (args<0)=false:=by simpa using h0
 have g2:decide (16<args)=false:=by simpa using h1
 have g3:decide ((64:Int)<(n:Int))=true:=by simp;omega
 clear h0 h1 hn
 go_enter Tryz.func176,Tryz.ntmps176
 repeat' ((fail_if_success at_builtin);first|go_values|go_skip|go_guarded|go_step|go_upon|go_back)
 (refine(isName_any _ nm HS.out).mono ?_;rintro e1 w1 ⟨rfl,rfl⟩;dsimp only)
 rw[H.out]
 repeat' ((fail_if_success at_builtin);first|go_values|go_skip|go_guarded|go_step|go_upon|go_back)
 refine bodyPost_ret (results_tmp2 rfl _ _ _) rfl ⟨rfl,by(repeat' (first|(with_reducible exact Below.refl _ _)|(with_reducible assumption)|(with_reducible refine Below.drew ?_)|(with_reducible refine bdrewN ?_ _)|(with_reducible refine Below.alloc ?_ ?_ _)|(with_reducible refine Below.setCell ?_ ?_ _)|omega|(simp;done)|(simp;omega)))⟩
theorem chkI_16{args:Int}{n k:Nat}{xa xb xc xn vk vi:Int}{vt:Bs}:chkI args n k ⟨16,xa,xb,xc,xn,⟨vk,vi,vt⟩⟩=if xa=0/\xb=0/\xc=0/\xn=0/\vk=0/\vi=0/\vt=[] then 0 else 16:=by
 unfold chkI
 dsimp only
 rw[if_neg (by omega)]
 rfl
set_option maxRecDepth 20000 in
theorem instr_16(w:World)(lb pb:Nat)(L:Array Value)(n0:Nat)(hL:w.heap[lb]? = some (.cells L 266 (0,0)))(hS:Shp w n0 L [1,2,3,4,5,6,7,8,9,10,11,12,13,14,15])(nm:ByteArray)(args:Int)(g o n c k:Nat)(x:I)(hp:PB w pb nm args (some ⟨g,o,none⟩) n c)(hk:k<n)(hn:n<=140737488355328)(hx:IA w g (o+k*8) x)(h1:x.op=16) :
  Calls Tryz.prog 240 #[.pointer (some ⟨lb,0,none⟩),.pointer (some ⟨pb,0,none⟩),.int .i64 (k:Int)] w fun e' w'=>e' = .returned (.int .i64 (chkI args n k x))/\Below w.heap.size w w':=by
 obtain⟨xo,xa,xb,xc,xn,⟨vk,vi,vt⟩⟩:=x
 dsimp only at h1
 subst h1
 rw[chkI_16]
 obtain⟨c0,c1,c2,c3,c4,c5,c6,c7⟩:=hx
 dsimp only at c0 c1 c2 c3 c4 c5 c6 c7
 have hc:w.cell? ⟨pb,2,none⟩=some (.slice (some ⟨g,o,none⟩) n c):=blk_cell hp 2
 have hk2:(k:Int)<(n:Int):=by omega
 have hn2:(n:Int)<=140737488355328:=by omega
 obtain⟨s1,s2⟩:=(hS.2 16 (by omega)).2 (by decide)
 have hlb:=blk_lt hL
 have l1:∀ ob,(w.alloc ob).cell? ⟨lb,32,none⟩=some (.slice none 0 0):=fun ob=>(blk_cell (blk_alloc hL ob) 32).trans s1
 have l2:∀ ob,(w.alloc ob).cell? ⟨lb,33,none⟩=some (.bool false):=fun ob=>(blk_cell (blk_alloc hL ob) 33).trans s2
 have l1a:∀ ob oc,((w.alloc ob).alloc oc).cell? ⟨lb,32,none⟩=some (.slice none 0 0):=fun ob oc=>(blk_cell (blk_alloc (blk_alloc hL ob) oc) 32).trans s1
 have l2a:∀ ob oc,((w.alloc ob).alloc oc).cell? ⟨lb,33,none⟩=some (.bool false):=fun ob oc=>(blk_cell (blk_alloc (blk_alloc hL ob) oc) 33).trans s2
 clear hL hS hp hk hn s1 s2
 have hq:=neqI
 have hl:=str_list vt
 by_cases hz:xa=0/\xb=0/\xc=0/\xn=0/\vk=0/\vi=0/\vt=[]
 ·rw[if_pos hz]
  obtain⟨rfl,rfl,rfl,rfl,rfl,rfl,rfl⟩:=hz
  go_enter Tryz.func240,Tryz.ntmps240
  repeat' ((fail_if_success (with_reducible (show Code.wp _ (Code.region 4 _ _) _ _ _)));(fail_if_success at_builtin);first|go_values|go_skip|go_guarded|go_step|go_upon|go_back)
  clear c0 c1 c2 c3 c4 c5 c6 c7 hc
  go_region
  repeat' ((fail_if_success at_builtin);first|go_values|go_skip|go_guarded|go_step|go_upon|go_back)
  refine wp_loop_rounds 1 ?_;rw[rounds_succ]
  repeat' ((fail_if_success at_builtin);first|go_values|go_skip|go_guarded|go_step|go_upon|go_back)
  refine bodyPost_ret (results_tmp rfl _ _ _) rfl ⟨rfl,by(repeat' (first|(with_reducible exact Below.refl _ _)|(with_reducible assumption)|(with_reducible refine Below.drew ?_)|(with_reducible refine bdrewN ?_ _)|(with_reducible refine Below.alloc ?_ ?_ _)|(with_reducible refine Below.setCell ?_ ?_ _)|omega|(simp;done)|(simp;omega)))⟩
 ·rw[if_neg hz]
  have e:(xa==0&&xb==0&&xc==0&&xn==0&&vk==0&&vi==0&&vt.isEmpty)=false:=by
   rw[Bool.eq_false_iff];simp only[ne_eq,Bool.and_eq_true,beq_iff_eq,List.isEmpty_iff];intro h;exact hz ⟨h.1.1.1.1.1.1,h.1.1.1.1.1.2,h.1.1.1.1.2,h.1.1.1.2,h.1.1.2,h.1.2,h.2⟩
  clear hz
  go_enter Tryz.func240,Tryz.ntmps240
  repeat' ((fail_if_success (with_reducible (show Code.wp _ (Code.region 4 _ _) _ _ _)));(fail_if_success at_builtin);first|go_values|go_skip|go_guarded|go_step|go_upon|go_back)
  clear c0 c1 c2 c3 c4 c5 c6 c7 hc
  go_region
  repeat' ((fail_if_success at_builtin);first|go_values|go_skip|go_guarded|go_step|go_upon|go_back)
  refine wp_loop_rounds 1 ?_;rw[rounds_succ]
  repeat' ((fail_if_success at_builtin);first|go_values|go_skip|go_guarded|go_step|go_upon|go_back)
  refine bodyPost_ret (results_tmp rfl _ _ _) rfl ⟨rfl,by(repeat' (first|(with_reducible exact Below.refl _ _)|(with_reducible assumption)|(with_reducible refine Below.drew ?_)|(with_reducible refine bdrewN ?_ _)|(with_reducible refine Below.alloc ?_ ?_ _)|(with_reducible refine Below.setCell ?_ ?_ _)|omega|(simp;done)|(simp;omega)))⟩
theorem instr_any(w:World)(lb pb:Nat)(L:Array Value)(n0:Nat)(hL:w.heap[lb]? = some (.cells L 266 (0,0)))(hS:Shp w n0 L [1,2,3,4,5,6,7,8,9,10,11,12,13,14,15])(nm:ByteArray)(args:Int)(g o n c k:Nat)(x:I)(hp:PB w pb nm args (some ⟨g,o,none⟩) n c)(hk:k<n)(hn:n<=140737488355328)(hx:IA w g (o+k*8) x) :
  Calls Tryz.prog 240 #[.pointer (some ⟨lb,0,none⟩),.pointer (some ⟨pb,0,none⟩),.int .i64 (k:Int)] w fun e' w'=>e' = .returned (.int .i64 (chkI args n k x))/\Below w.heap.size w w':=by
 by_cases h:x.op<1\/16<x.op
 ·have e:chkI args n k x=16:=by unfold chkI;rw[if_pos h]
  rw[e]
  exact instr_op w lb pb nm args g o n c k x hp hk hn hx h
 ·by_cases h2:x.op=16
  ·exact instr_16 w lb pb L n0 hL hS nm args g o n c k x hp hk hn hx h2
  ·exact instr_go w lb pb L n0 hL hS nm args g o n c k x hp hk hn hx x.op.toNat (by omega) (by omega) (by omega)
theorem shp_size(L:Array Value)(h:L.size=34):(Tryz.prog.info? 266).map (·.size)=some L.size:=by rw[h];kernel_rfl
set_option maxRecDepth 20000 in
theorem chkP_code(w:World)(nm:ByteArray)(args:Int)(a:Option Addr)(c:Nat)(l:List I)(hs:nm.size<=140737488355328)(h:okName nm.data.toList=true)(h0:0<=args)(h1:args<=16)(hn:l.length<=64)(hc:Code1 w a l) :
  Calls Tryz.prog 176 #[.agg #[.string nm,.int .i64 args,.slice a l.length c]] w fun e' w'=>e' = .returned (.tuple #[.int .i64 (chkGo args l.length l 0).1,.int .i64 (chkGo args l.length l 0).2])/\Below w.heap.size w w':=by
 have HS:=Lib.hid hs
 clear hs
 have H:=Lib.hid h
 clear h
 have g1:decide (args<0)=false:=by simpa using h0
 have g2:decide (16<args)=false:=by simpa using h1
 have g3:decide ((64:Int)<(l.length:Int))=false:=by simp;omega
 have hp0:PB (w.alloc (.cells #[.string nm,.int .i64 args,.slice a l.length c] 172)) w.heap.size nm args a l.length c:=blk_new _ _
 have hc0:Code1 (w.alloc (.cells #[.string nm,.int .i64 args,.slice a l.length c] 172)) a l:=hc.below ((Below.refl _ _).alloc (Nat.le_refl _) _)
 have hb0:Below w.heap.size w (w.alloc (.cells #[.string nm,.int .i64 args,.slice a l.length c] 172)):=(Below.refl _ _).alloc (Nat.le_refl _) _
 clear h0 h1
 go_enter Tryz.func176,Tryz.ntmps176
 repeat' ((fail_if_success at_builtin);first|go_values|go_skip|go_guarded|go_step|go_upon|go_back)
 (refine(isName_any _ nm HS.out).mono ?_;rintro e1 w1 ⟨rfl,rfl⟩;dsimp only)
 rw[H.out]
 repeat' ((fail_if_success at_builtin);first|go_values|go_skip|go_guarded|go_step|go_upon|go_back)
 (refine(shapes_any _).mono ?_;rintro e1 w2 ⟨⟨S,rfl,hS⟩,hb2⟩;dsimp only)
 have hp2:PB w2 w.heap.size nm args a l.length c:=blk_below hb2 hp0 (blk_lt hp0)
 have hc2:=hc0.below hb2
 have hb02:=hb0.trans (hb2.mono hb0.size)
 clear hp0 hc0
 have e1:=blk_new w2 (.cells #[.slice none 0 0,.bool false,.slice none 0 0,.bool false,.slice none 0 0,.bool false,.slice none 0 0,.bool false,.slice none 0 0,.bool false,.slice none 0 0,.bool false,.slice none 0 0,.bool false,.slice none 0 0,.bool false,.slice none 0 0,.bool false,.slice none 0 0,.bool false,.slice none 0 0,.bool false,.slice none 0 0,.bool false,.slice none 0 0,.bool false,.slice none 0 0,.bool false,.slice none 0 0,.bool false,.slice none 0 0,.bool false,.slice none 0 0,.bool false] 266)
 have HSZ:=Lib.hid (shp_size S hS.1)
 have HO:=Lib.hid hS.one
 have HL:=Lib.hid (show (#[.slice none 0 0,.bool false,.slice none 0 0,.bool false,.slice none 0 0,.bool false,.slice none 0 0,.bool false,.slice none 0 0,.bool false,.slice none 0 0,.bool false,.slice none 0 0,.bool false,.slice none 0 0,.bool false,.slice none 0 0,.bool false,.slice none 0 0,.bool false,.slice none 0 0,.bool false,.slice none 0 0,.bool false,.slice none 0 0,.bool false,.slice none 0 0,.bool false,.slice none 0 0,.bool false,.slice none 0 0,.bool false,.slice none 0 0,.bool false]:Array Value).size=S.size by rw[hS.1];rfl)
 repeat' ((fail_if_success (with_reducible (show Code.wp _ (Code.region 8 _ _) _ _ _)));(fail_if_success at_builtin);first|(with_reducible show wpList _ _ _ ((⟨none,_,_,_,_,_⟩:Oper) :: _) _ _;refine wpList_store_row (o:=⟨none,.store 266 (.tmp 4) (.tmp 26),_,_,_,none⟩) rfl 266 (.tmp 4) (.tmp 26) rfl w2.heap.size S rfl rfl 266 #[.slice none 0 0,.bool false,.slice none 0 0,.bool false,.slice none 0 0,.bool false,.slice none 0 0,.bool false,.slice none 0 0,.bool false,.slice none 0 0,.bool false,.slice none 0 0,.bool false,.slice none 0 0,.bool false,.slice none 0 0,.bool false,.slice none 0 0,.bool false,.slice none 0 0,.bool false,.slice none 0 0,.bool false,.slice none 0 0,.bool false,.slice none 0 0,.bool false,.slice none 0 0,.bool false,.slice none 0 0,.bool false,.slice none 0 0,.bool false] e1 HSZ.out HL.out HO.out ?_)|go_values|go_skip|go_guarded|go_step|go_upon|go_back)
 have k3:=setRow_heap (w2.alloc (.cells #[.slice none 0 0,.bool false,.slice none 0 0,.bool false,.slice none 0 0,.bool false,.slice none 0 0,.bool false,.slice none 0 0,.bool false,.slice none 0 0,.bool false,.slice none 0 0,.bool false,.slice none 0 0,.bool false,.slice none 0 0,.bool false,.slice none 0 0,.bool false,.slice none 0 0,.bool false,.slice none 0 0,.bool false,.slice none 0 0,.bool false,.slice none 0 0,.bool false,.slice none 0 0,.bool false,.slice none 0 0,.bool false,.slice none 0 0,.bool false] 266)) w2.heap.size #[.slice none 0 0,.bool false,.slice none 0 0,.bool false,.slice none 0 0,.bool false,.slice none 0 0,.bool false,.slice none 0 0,.bool false,.slice none 0 0,.bool false,.slice none 0 0,.bool false,.slice none 0 0,.bool false,.slice none 0 0,.bool false,.slice none 0 0,.bool false,.slice none 0 0,.bool false,.slice none 0 0,.bool false,.slice none 0 0,.bool false,.slice none 0 0,.bool false,.slice none 0 0,.bool false,.slice none 0 0,.bool false,.slice none 0 0,.bool false] S 266 (0,0) e1
 have hb23:Below w2.heap.size w2 ((w2.alloc (.cells #[.slice none 0 0,.bool false,.slice none 0 0,.bool false,.slice none 0 0,.bool false,.slice none 0 0,.bool false,.slice none 0 0,.bool false,.slice none 0 0,.bool false,.slice none 0 0,.bool false,.slice none 0 0,.bool false,.slice none 0 0,.bool false,.slice none 0 0,.bool false,.slice none 0 0,.bool false,.slice none 0 0,.bool false,.slice none 0 0,.bool false,.slice none 0 0,.bool false,.slice none 0 0,.bool false,.slice none 0 0,.bool false,.slice none 0 0,.bool false] 266)).setRow w2.heap.size S) :=
  ((Below.refl _ w2).alloc (Nat.le_refl _) _).trans ⟨rfl,rfl,rfl,by simp[World.setRow],fun k hk=>setRow_other _ _ _ _ (by omega)⟩
 have hS3:=(hS.pure ((Below.refl _ w2).alloc (Nat.le_refl _) (.cells #[.slice none 0 0,.bool false,.slice none 0 0,.bool false,.slice none 0 0,.bool false,.slice none 0 0,.bool false,.slice none 0 0,.bool false,.slice none 0 0,.bool false,.slice none 0 0,.bool false,.slice none 0 0,.bool false,.slice none 0 0,.bool false,.slice none 0 0,.bool false,.slice none 0 0,.bool false,.slice none 0 0,.bool false,.slice none 0 0,.bool false,.slice none 0 0,.bool false,.slice none 0 0,.bool false,.slice none 0 0,.bool false,.slice none 0 0,.bool false] 266))).row e1 S
 have hp3:PB ((w2.alloc (.cells #[.slice none 0 0,.bool false,.slice none 0 0,.bool false,.slice none 0 0,.bool false,.slice none 0 0,.bool false,.slice none 0 0,.bool false,.slice none 0 0,.bool false,.slice none 0 0,.bool false,.slice none 0 0,.bool false,.slice none 0 0,.bool false,.slice none 0 0,.bool false,.slice none 0 0,.bool false,.slice none 0 0,.bool false,.slice none 0 0,.bool false,.slice none 0 0,.bool false,.slice none 0 0,.bool false,.slice none 0 0,.bool false,.slice none 0 0,.bool false] 266)).setRow w2.heap.size S) w.heap.size nm args a l.length c:=blk_below hb23 hp2 (blk_lt hp2)
 have hc3:=hc2.below hb23
 have hb03:=hb02.trans (hb23.mono hb02.size)
 have hsz:=hb02.size
 clear e1 HSZ HO HL hS hp2 hc2 hb02 hb23 hb2 hb0
 generalize (w2.alloc (.cells #[.slice none 0 0,.bool false,.slice none 0 0,.bool false,.slice none 0 0,.bool false,.slice none 0 0,.bool false,.slice none 0 0,.bool false,.slice none 0 0,.bool false,.slice none 0 0,.bool false,.slice none 0 0,.bool false,.slice none 0 0,.bool false,.slice none 0 0,.bool false,.slice none 0 0,.bool false,.slice none 0 0,.bool false,.slice none 0 0,.bool false,.slice none 0 0,.bool false,.slice none 0 0,.bool false,.slice none 0 0,.bool false,.slice none 0 0,.bool false] 266)).setRow w2.heap.size S=w3 at k3 hS3 hp3 hc3 hb03 ⊢
 have p2:w3.cell? ⟨w.heap.size,2,none⟩=some (.slice a l.length c):=blk_cell hp3 2
 have hn':(l.length:Int)<=64:=by omega
 repeat' ((fail_if_success at_builtin);first|go_values|go_skip|go_guarded|go_step|go_upon|go_back)
 clear p2
 go_loopw [30] (fun i wr=>∃ j:Nat,j<=l.length/\i = .int .i64 j/\chkGo args l.length l 0=chkGo args l.length (l.drop j) j/\Below w.heap.size w wr/\Below w3.heap.size w3 wr) (fun i _=>l.length-(intOf i).toNat)
 case atStart=>exact⟨0,Nat.zero_le _,rfl,rfl,hb03,Below.refl _ _⟩
 case round =>
  obtain⟨j,hj,rfl,hgo,hbw,hbr⟩:=hrel
  have hp5:PB wr w.heap.size nm args a l.length c:=blk_below hbr hp3 (blk_lt hp3)
  by_cases hlt:j<l.length
  ·have hc5:=hc3.below hbr
   have k5:=blk_below hbr k3 (blk_lt k3)
   have hS5:=hS3.pure hbr
   obtain⟨x,hx⟩:∃ x,l[j]? = some x:=⟨_,List.getElem?_eq_getElem hlt⟩
   have hd:l.drop j=x :: l.drop (j+1):=by
    rw[List.drop_eq_getElem_cons hlt];congr 1
    rw[List.getElem?_eq_getElem hlt] at hx;exact Option.some.inj hx
   rw[hd,chkGo] at hgo
   rcases hc5 with rfl|⟨g,o,rfl,hc6⟩
   ·simp at hlt
   have hia:=hc6 j x hx
   have hlt':(j:Int)<(l.length:Int):=by omega
   have HN:=Lib.hid hn
   have HLT:=Lib.hid hlt
   have HBR:=Lib.hid hbr
   clear hd hc6 hx hn hbr hc3
   by_cases hE:chkI args l.length j x=0
   ·have e0:(chkI args l.length j x != 0)=false:=by simp[hE]
    rw[if_neg (by simp[hE])] at hgo
    have HGO:=Lib.hid hgo
    clear hgo hE
    repeat' ((fail_if_success at_builtin);first|go_values|go_skip|go_guarded|go_step|go_upon|go_back)
    (refine(instr_any wr _ _ S _ k5 hS5 nm args g o l.length c j x hp5 HLT.out (by have:=HN.out;omega) hia).mono ?_;rintro e1 w5 ⟨rfl,hb5⟩;dsimp only)
    repeat' ((fail_if_success at_builtin);first|go_values|go_skip|go_guarded|go_step|go_upon|go_back)
    go_roundw
    case rel=>exact⟨j+1,by have:=HLT.out;omega,by go_num,HGO.out,hbw.trans (hb5.mono hbw.size),HBR.out.trans (hb5.mono HBR.out.size)⟩
    case measure=>simp[intOf];omega
   ·have e0:(chkI args l.length j x != 0)=true:=by simpa using hE
    rw[if_pos hE] at hgo
    have HGO:=Lib.hid hgo
    clear hgo hE
    repeat' ((fail_if_success at_builtin);first|go_values|go_skip|go_guarded|go_step|go_upon|go_back)
    (refine(instr_any wr _ _ S _ k5 hS5 nm args g o l.length c j x hp5 HLT.out (by have:=HN.out;omega) hia).mono ?_;rintro e1 w5 ⟨rfl,hb5⟩;dsimp only)
    repeat' ((fail_if_success at_builtin);first|go_values|go_skip|go_guarded|go_step|go_upon|go_back)
    refine bodyPost_ret (results_tmp2 rfl _ _ _) rfl ⟨?_,hbw.trans (hb5.mono hbw.size)⟩
    rw[HGO.out]
    rfl
  ·obtain rfl:j=l.length:=by omega
   rw[List.drop_length,chkGo] at hgo
   have HGO:=Lib.hid hgo
   clear hgo
   repeat' ((fail_if_success at_builtin);first|go_values|go_skip|go_guarded|go_step|go_upon|go_back)
   refine bodyPost_ret (results_tmp2 rfl _ _ _) rfl ⟨?_,hbw⟩
   rw[HGO.out]
   rfl
theorem chkP_any(w:World)(nm:ByteArray)(args:Int)(a:Option Addr)(c:Nat)(l:List I)(hs:nm.size<=140737488355328)(hc:Code1 w a l) :
  Calls Tryz.prog 176 #[.agg #[.string nm,.int .i64 args,.slice a l.length c]] w fun e' w'=>e' = .returned (.tuple #[.int .i64 (chkP ⟨nm.data.toList,args,l⟩).1,.int .i64 (chkP ⟨nm.data.toList,args,l⟩).2])/\Below w.heap.size w w':=by
 unfold chkP
 dsimp only
 by_cases h1:okName nm.data.toList=false
 ·rw[if_pos h1]
  exact chkP_name w nm args a l.length c hs h1
 ·rw[if_neg h1]
  have h1':okName nm.data.toList=true:=by simpa using h1
  by_cases h2:args<0\/16<args
  ·rw[if_pos h2]
   exact chkP_args w nm args a l.length c hs h1' h2
  ·rw[if_neg h2]
   by_cases h3:64<l.length
   ·rw[if_pos h3]
    exact chkP_long w nm args a l.length c hs h1' (by omega) (by omega) h3
   ·rw[if_neg h3]
    exact chkP_code w nm args a c l hs h1' (by omega) (by omega) (by omega) hc
def RowT(w:World)(t:TypeId)(a:Option Addr)(cs:List Value):Prop :=
 cs=[]\/∃ g o cur f,a=some ⟨g,o,none⟩/\w.heap[g]? = some (.cells cur t f)/\∀ i u,cs[i]? = some u->cur[o+i]? = some u
theorem RowT.kept{w w':World}{t:TypeId}{a:Option Addr}{cs:List Value}(h:RowT w t a cs)(hk:∀ (g:Nat) (cur:Array Value) (f:Nat×Nat),w.heap[g]? = some (.cells cur t f)->w'.heap[g]? = w.heap[g]?):RowT w' t a cs:=by
 rcases h with rfl|⟨g,o,cur,f,rfl,hg,h⟩
 ·exact .inl rfl
 ·exact .inr ⟨g,o,cur,f,rfl,(hk g cur f hg).trans hg,h⟩
theorem RowT.below{w w':World}{t:TypeId}{a:Option Addr}{cs:List Value}(h:RowT w t a cs)(hb:Below w.heap.size w w'):RowT w' t a cs :=
 h.kept fun g cur f hg=>hb.block g (blk_lt hg)
theorem RowT.grown{w w':World}{t t':TypeId}{a:Option Addr}{cs:List Value}(h:RowT w t a cs){n0 size n:Nat}{v:Value}{xs:List Value}(ho:w.ownsRow n0 t' size v n xs)(hg:w.grownBy w' v.ownBlock)(ht:t≠t'):RowT w' t a cs :=
 h.kept fun g cur f hb=>hg.block g (blk_lt hb) (fun e=>by
  rcases ho.2 with ⟨rfl,_⟩|⟨g',cap,cur',rfl,hg',hh,r⟩
  ·simp[Value.ownBlock] at e
  ·have:g=g':=by simpa [Value.ownBlock] using e
   subst this
   rw[hb] at hh
   injection hh with hh
   injection hh with _ hh _
   exact ht hh)
theorem own_rowT{w:World}{n0:Nat}{t:TypeId}{size n:Nat}{v:Value}{xs:List Value}(ho:w.ownsRow n0 t size v n xs):∃ a c,v = .slice a n c/\n<=c/\(a=none->c=0)/\RowT w t a xs/\(∀ b o,a=some ⟨b,o,none⟩->n0<=b):=by
 rcases ho.2 with ⟨rfl,rfl⟩|⟨g,cap,cur,rfl,hg,hh,hn,hm,hs,ht⟩
 ·refine⟨none,0,rfl,Nat.le_refl _,fun _=>rfl,.inl ?_,fun b o e=>by cases e⟩
  exact List.eq_nil_of_length_eq_zero (by have:=ho.1;omega)
 ·refine⟨_,cap,rfl,hn,fun e=>(by cases e),.inr ⟨g,0,cur,_,rfl,hh,fun i u hu=>?_⟩,fun b o e=>by cases e;exact hg⟩
  rw[<-ht,List.getElem?_take] at hu
  split at hu
  ·rw[Nat.zero_add];simpa using hu
  ·cases hu
theorem RowT.cell{w:World}{t:TypeId}{g o:Nat}{cs:List Value}(h:RowT w t (some ⟨g,o,none⟩) cs){i:Nat}{u:Value}(hu:cs[i]? = some u):w.cell? ⟨g,o+i,none⟩=some u:=by
 rcases h with rfl|⟨g',o',cur,f,e,hg,h⟩
 ·simp at hu
 ·cases e
  exact(blk_cell hg _).trans (h i u hu)
theorem flat_at{α:Type}(row:α->List Value)(k:Nat)(hk:∀ x,(row x).length=k):∀ (l:List α) (j:Nat) (x:α) (i:Nat),l[j]? = some x->i<k->(l.flatMap row)[j*k+i]? = (row x)[i]?
 | [],j,x,i,h,_=>by simp at h
 | d :: t,0,x,i,h,hi=>by
  obtain rfl:d=x:=by simpa using h
  rw[Nat.zero_mul,Nat.zero_add,List.flatMap_cons,List.getElem?_append_left (by rw[hk];exact hi)]
 | d :: t,j+1,x,i,h,hi=>by
  have:=flat_at row k hk t j x i (by simpa using h) hi
  rw[List.flatMap_cons,List.getElem?_append_right (by rw[hk,Nat.add_mul,Nat.one_mul];omega),hk,show (j+1)*k+i-k=j*k+i by rw[Nat.add_mul];omega]
  exact this
theorem flat_len{α:Type}(row:α->List Value)(k:Nat)(hk:∀ x,(row x).length=k):∀ l:List α,(l.flatMap row).length=l.length*k
 | []=>by simp
 | d :: t=>by rw[List.flatMap_cons,List.length_append,hk,flat_len row k hk t,List.length_cons,Nat.add_mul];omega
def I.row(x:I):List Value:=[.int .i64 x.op,.int .i64 x.a,.int .i64 x.b,.int .i64 x.c,.int .i64 x.n,.int .i64 x.v.k,.int .i64 x.v.i,.string ⟨x.v.t.toArray⟩]
def V.row(v:V):List Value:=[.int .i64 v.k,.int .i64 v.i,.string ⟨v.t.toArray⟩]
def Code2(w:World)(a:Option Addr)(l:List I):Prop:=RowT w 179 a (l.flatMap I.row)
def Vals(w:World)(a:Option Addr)(l:List V):Prop:=RowT w 177 a (l.flatMap V.row)
theorem Code2.one{w:World}{a:Option Addr}{l:List I}(h:Code2 w a l):Code1 w a l:=by
 rcases h with h|⟨g,o,cur,f,rfl,hg,h⟩
 ·refine .inl ?_
  have:=flat_len I.row 8 (fun _=>rfl) l
  rw[h] at this
  exact List.eq_nil_of_length_eq_zero (by simp at this;omega)
 ·refine .inr ⟨g,o,rfl,fun k x hx=>?_⟩
  have c:∀ i,i<8->∀ u,(I.row x)[i]? = some u->w.cell? ⟨g,o+(k*8+i),none⟩=some u:=fun i hi u hu=>by
   refine(blk_cell hg _).trans (h _ _ ?_)
   rw[flat_at I.row 8 (fun _=>rfl) l k x i hx hi];exact hu
  exact⟨c 0 (by omega) _ rfl,c 1 (by omega) _ rfl,c 2 (by omega) _ rfl,c 3 (by omega) _ rfl,c 4 (by omega) _ rfl,c 5 (by omega) _ rfl,c 6 (by omega) _ rfl,c 7 (by omega) _ rfl⟩
theorem Vals.at{w:World}{g o:Nat}{l:List V}(h:Vals w (some ⟨g,o,none⟩) l){k:Nat}{v:V}(hv:l[k]? = some v):w.cell? ⟨g,o+k*3,none⟩=some (.int .i64 v.k)/\w.cell? ⟨g,o+k*3+1,none⟩=some (.int .i64 v.i)/\w.cell? ⟨g,o+k*3+2,none⟩=some (.string ⟨v.t.toArray⟩):=by
 have c:∀ i,i<3->∀ u,(V.row v)[i]? = some u->w.cell? ⟨g,o+(k*3+i),none⟩=some u:=fun i hi u hu=>h.cell (by rw[flat_at V.row 3 (fun _=>rfl) l k v i hv hi];exact hu)
 exact⟨c 0 (by omega) _ rfl,c 1 (by omega) _ rfl,c 2 (by omega) _ rfl⟩
structure TM where
 t:T
 ca:Option Addr
 cc:Nat
 aa:Option Addr
 ac:Nat
def TM.row(m:TM):List Value:=[.int .i64 m.t.kind,.string ⟨m.t.p.name.toArray⟩,.int .i64 m.t.p.args,.slice m.ca m.t.p.code.length m.cc,.string ⟨m.t.name.toArray⟩,.slice m.aa m.t.args.length m.ac]
structure TM.lies (w:World) (m:TM):Prop where
 code:Code2 w m.ca m.t.p.code
 args:Vals w m.aa m.t.args
def Txns(w:World)(a:Option Addr)(l:List T):Prop:=∃ ms:List TM,ms.map TM.t=l/\RowT w 175 a (ms.flatMap TM.row)/\∀ m∈ms,m.lies w
theorem TM.lies.below{w w':World}{m:TM}(h:m.lies w)(hb:Below w.heap.size w w'):m.lies w':=⟨RowT.below h.code hb,RowT.below h.args hb⟩
theorem Txns.below{w w':World}{a:Option Addr}{l:List T}(h:Txns w a l)(hb:Below w.heap.size w w'):Txns w' a l:=by
 obtain⟨ms,h1,h2,h3⟩:=h
 exact⟨ms,h1,h2.below hb,fun m hm=>(h3 m hm).below hb⟩
def refV(e:Int):Value := .iface 344 (.int .i64 e)
set_option maxRecDepth 20000 in
theorem psure_ok(w:World)(b:Nat)(r:RS)(all:Int)(h:Rd w b r)(h0:r.e=0) :
  Calls Tryz.prog 257 #[.agg #[.pointer (some ⟨b,0,none⟩),.int .i64 all]] w fun e' w'=>e' = .returned (.tuple #[])/\Below w.heap.size w w':=by
 have h1:=h.alloc (.cells #[.pointer (some ⟨b,0,none⟩),.int .i64 all] 347)
 go_enter Tryz.func257,Tryz.ntmps257
 repeat' ((fail_if_success at_builtin);first|go_values|go_skip|go_guarded|go_step|go_upon|go_back)
 (refine(err_no _ b _ h1 h0).mono ?_;rintro e1 w1 ⟨rfl,n,rfl⟩;dsimp only;(repeat' ((fail_if_success at_builtin);first|go_values|go_skip|go_guarded|go_step|go_upon|go_back)))
 refine bodyPost_end (results_none rfl _ _ _) rfl ⟨rfl,by(repeat' (first|(with_reducible exact Below.refl _ _)|(with_reducible assumption)|(with_reducible refine Below.drew ?_)|(with_reducible refine bdrewN ?_ _)|(with_reducible refine Below.alloc ?_ ?_ _)|(with_reducible refine Below.setCell ?_ ?_ _)|omega|(simp;done)|(simp;omega)))⟩
set_option maxRecDepth 20000 in
theorem psure_no(w:World)(b:Nat)(r:RS)(all:Int)(h:Rd w b r)(h0:r.e≠0) :
  Calls Tryz.prog 257 #[.agg #[.pointer (some ⟨b,0,none⟩),.int .i64 all]] w fun e' w'=>e' = .panicked [{ v:=refV r.e,recovered:=false }]/\Below w.heap.size w w':=by
 have h1:=h.alloc (.cells #[.pointer (some ⟨b,0,none⟩),.int .i64 all] 347)
 have e0:(r.e != 0)=true:=by simpa using h0
 go_enter Tryz.func257,Tryz.ntmps257
 repeat' ((fail_if_success at_builtin);first|go_values|go_skip|go_guarded|go_step|go_upon|go_back)
 (refine(err_yes _ b _ h1 h0).mono ?_;rintro e1 w1 ⟨rfl,n,rfl⟩;dsimp only;(repeat' ((fail_if_success at_builtin);first|go_values|go_skip|go_guarded|go_step|go_upon|go_back)))
 exact⟨rfl,rfl,by(repeat' (first|(with_reducible exact Below.refl _ _)|(with_reducible assumption)|(with_reducible refine Below.drew ?_)|(with_reducible refine bdrewN ?_ _)|(with_reducible refine Below.alloc ?_ ?_ _)|(with_reducible refine Below.setCell ?_ ?_ _)|omega|(simp;done)|(simp;omega)))⟩
def TM.cells(m:TM):Array Value:=#[.int .i64 m.t.kind,.string ⟨m.t.p.name.toArray⟩,.int .i64 m.t.p.args,.slice m.ca m.t.p.code.length m.cc,.string ⟨m.t.name.toArray⟩,.slice m.aa m.t.args.length m.ac]
set_option maxRecDepth 20000 in
theorem bare_any(w:World)(nm:Bs)(args:Int)(a:Option Addr)(n c:Nat):Calls Tryz.prog 303 #[.agg #[.string ⟨nm.toArray⟩,.int .i64 args,.slice a n c]] w fun e' w'=>e' = .returned (.bool (nm.isEmpty&&args==0&&n==0))/\Below w.heap.size w w':=by
 have hl:=str_list nm
 by_cases h1:nm=[]
 ·subst h1
  by_cases h2:args=0
  ·subst h2
   by_cases h3:n=0
   ·subst h3
    go_enter Tryz.func303,Tryz.ntmps303
    repeat' ((fail_if_success at_builtin);first|go_values|go_skip|go_guarded|go_step|go_upon|go_back)
    refine bodyPost_ret (results_tmp rfl _ _ _) rfl ⟨rfl,by(repeat' (first|(with_reducible exact Below.refl _ _)|(with_reducible assumption)|(with_reducible refine Below.drew ?_)|(with_reducible refine bdrewN ?_ _)|(with_reducible refine Below.alloc ?_ ?_ _)|(with_reducible refine Below.setCell ?_ ?_ _)|omega|(simp;done)|(simp;omega)))⟩
   ·have g3:((n:Int)==0)=false:=by simp;omega
    have g4:(n==0)=false:=by simp;omega
    rw[g4]
    clear h3
    go_enter Tryz.func303,Tryz.ntmps303
    repeat' ((fail_if_success at_builtin);first|go_values|go_skip|go_guarded|go_step|go_upon|go_back)
    refine bodyPost_ret (results_tmp rfl _ _ _) rfl ⟨rfl,by(repeat' (first|(with_reducible exact Below.refl _ _)|(with_reducible assumption)|(with_reducible refine Below.drew ?_)|(with_reducible refine bdrewN ?_ _)|(with_reducible refine Below.alloc ?_ ?_ _)|(with_reducible refine Below.setCell ?_ ?_ _)|omega|(simp;done)|(simp;omega)))⟩
  ·have g2:(args==0)=false:=by simpa using h2
   clear h2
   rw[g2]
   go_enter Tryz.func303,Tryz.ntmps303
   repeat' ((fail_if_success at_builtin);first|go_values|go_skip|go_guarded|go_step|go_upon|go_back)
   refine bodyPost_ret (results_tmp rfl _ _ _) rfl ⟨rfl,by(repeat' (first|(with_reducible exact Below.refl _ _)|(with_reducible assumption)|(with_reducible refine Below.drew ?_)|(with_reducible refine bdrewN ?_ _)|(with_reducible refine Below.alloc ?_ ?_ _)|(with_reducible refine Below.setCell ?_ ?_ _)|omega|(simp;done)|(simp;omega)))⟩
 ·have g1:nm.isEmpty=false:=by simpa using h1
  clear h1
  rw[g1]
  go_enter Tryz.func303,Tryz.ntmps303
  repeat' ((fail_if_success at_builtin);first|go_values|go_skip|go_guarded|go_step|go_upon|go_back)
  refine bodyPost_ret (results_tmp rfl _ _ _) rfl ⟨rfl,by(repeat' (first|(with_reducible exact Below.refl _ _)|(with_reducible assumption)|(with_reducible refine Below.drew ?_)|(with_reducible refine bdrewN ?_ _)|(with_reducible refine Below.alloc ?_ ?_ _)|(with_reducible refine Below.setCell ?_ ?_ _)|omega|(simp;done)|(simp;omega)))⟩
theorem chkP_name_only(s:Bs):(chkP ⟨s,0,[]⟩).2=if okName s=true then 0 else 5:=by
 unfold chkP
 by_cases h:okName s=true <;> simp[h,chkGo]
set_option maxRecDepth 20000 in
theorem bname_any(w:World)(s:Bs)(hs:s.length<=140737488355328):Calls Tryz.prog 304 #[.string ⟨s.toArray⟩] w fun e' w'=>e' = .returned (.bool (okName s))/\Below w.heap.size w w':=by
 have HS:=Lib.hid hs
 clear hs
 go_enter Tryz.func304,Tryz.ntmps304
 repeat' ((fail_if_success at_builtin);first|go_values|go_skip|go_guarded|go_step|go_upon|go_back)
 (refine(chkP_any _ ⟨s.toArray⟩ 0 none 0 [] (by rw[str_size];exact HS.out) (.inl rfl)).mono ?_;rintro e1 w1 ⟨rfl,hb⟩;dsimp only)
 rw[show (chkP ⟨(⟨s.toArray⟩:ByteArray).data.toList,0,[]⟩).2=if okName s=true then 0 else 5 from chkP_name_only s]
 by_cases h:okName s=true
 ·rw[if_pos h]
  have H:=Lib.hid h
  clear h
  repeat' ((fail_if_success at_builtin);first|go_values|go_skip|go_guarded|go_step|go_upon|go_back)
  refine bodyPost_ret (results_tmp rfl _ _ _) rfl ⟨by rw[H.out];rfl,hb⟩
 ·have h':okName s=false:=by simpa using h
  rw[if_neg h]
  have H:=Lib.hid h'
  clear h h'
  repeat' ((fail_if_success at_builtin);first|go_values|go_skip|go_guarded|go_step|go_upon|go_back)
  refine bodyPost_ret (results_tmp rfl _ _ _) rfl ⟨by rw[H.out];rfl,hb⟩
def kindT(k:Int):Nat:=if k=1 then 194 else if k=2 then 198 else 197
set_option maxRecDepth 20000 in
theorem kindOf_1(w:World)(pn nm:Bs)(pa:Int)(ca aa:Option Addr)(cn cc an ac:Nat):Calls Tryz.prog 106 #[.agg #[.int .i64 1,.string ⟨pn.toArray⟩,.int .i64 pa,.slice ca cn cc,.string ⟨nm.toArray⟩,.slice aa an ac]] w fun e' w'=>e' = .returned (.iface 194 (.agg #[.int .i64 1,.string ⟨pn.toArray⟩,.int .i64 pa,.slice ca cn cc,.string ⟨nm.toArray⟩,.slice aa an ac]))/\Below w.heap.size w w':=by
 go_enter Tryz.func106,Tryz.ntmps106
 repeat' ((fail_if_success at_builtin);first|go_values|go_skip|go_guarded|go_step|go_upon|go_back)
 refine bodyPost_ret (results_tmp rfl _ _ _) rfl ⟨rfl,by(repeat' (first|(with_reducible exact Below.refl _ _)|(with_reducible assumption)|(with_reducible refine Below.drew ?_)|(with_reducible refine bdrewN ?_ _)|(with_reducible refine Below.alloc ?_ ?_ _)|(with_reducible refine Below.setCell ?_ ?_ _)|omega|(simp;done)|(simp;omega)))⟩
set_option maxRecDepth 20000 in
theorem kindOf_2(w:World)(pn nm:Bs)(pa:Int)(ca aa:Option Addr)(cn cc an ac:Nat):Calls Tryz.prog 106 #[.agg #[.int .i64 2,.string ⟨pn.toArray⟩,.int .i64 pa,.slice ca cn cc,.string ⟨nm.toArray⟩,.slice aa an ac]] w fun e' w'=>e' = .returned (.iface 198 (.agg #[.int .i64 2,.string ⟨pn.toArray⟩,.int .i64 pa,.slice ca cn cc,.string ⟨nm.toArray⟩,.slice aa an ac]))/\Below w.heap.size w w':=by
 go_enter Tryz.func106,Tryz.ntmps106
 repeat' ((fail_if_success at_builtin);first|go_values|go_skip|go_guarded|go_step|go_upon|go_back)
 refine bodyPost_ret (results_tmp rfl _ _ _) rfl ⟨rfl,by(repeat' (first|(with_reducible exact Below.refl _ _)|(with_reducible assumption)|(with_reducible refine Below.drew ?_)|(with_reducible refine bdrewN ?_ _)|(with_reducible refine Below.alloc ?_ ?_ _)|(with_reducible refine Below.setCell ?_ ?_ _)|omega|(simp;done)|(simp;omega)))⟩
set_option maxRecDepth 20000 in
theorem kindOf_3(w:World)(pn nm:Bs)(pa:Int)(ca aa:Option Addr)(cn cc an ac:Nat):Calls Tryz.prog 106 #[.agg #[.int .i64 3,.string ⟨pn.toArray⟩,.int .i64 pa,.slice ca cn cc,.string ⟨nm.toArray⟩,.slice aa an ac]] w fun e' w'=>e' = .returned (.iface 197 (.agg #[.int .i64 3,.string ⟨pn.toArray⟩,.int .i64 pa,.slice ca cn cc,.string ⟨nm.toArray⟩,.slice aa an ac]))/\Below w.heap.size w w':=by
 go_enter Tryz.func106,Tryz.ntmps106
 repeat' ((fail_if_success at_builtin);first|go_values|go_skip|go_guarded|go_step|go_upon|go_back)
 refine bodyPost_ret (results_tmp rfl _ _ _) rfl ⟨rfl,by(repeat' (first|(with_reducible exact Below.refl _ _)|(with_reducible assumption)|(with_reducible refine Below.drew ?_)|(with_reducible refine bdrewN ?_ _)|(with_reducible refine Below.alloc ?_ ?_ _)|(with_reducible refine Below.setCell ?_ ?_ _)|omega|(simp;done)|(simp;omega)))⟩
set_option maxRecDepth 20000 in
theorem kindOf_0(w:World)(k:Int)(h1:k≠1)(h2:k≠2)(h3:k≠3)(pn nm:Bs)(pa:Int)(ca aa:Option Addr)(cn cc an ac:Nat):Calls Tryz.prog 106 #[.agg #[.int .i64 k,.string ⟨pn.toArray⟩,.int .i64 pa,.slice ca cn cc,.string ⟨nm.toArray⟩,.slice aa an ac]] w fun e' w'=>e' = .returned .nilIface/\Below w.heap.size w w':=by
 have g1:(k==1)=false:=by simpa using h1
 have g2:(k==2)=false:=by simpa using h2
 have g3:(k==3)=false:=by simpa using h3
 clear h1 h2 h3
 go_enter Tryz.func106,Tryz.ntmps106
 repeat' ((fail_if_success at_builtin);first|go_values|go_skip|go_guarded|go_step|go_upon|go_back)
 refine bodyPost_ret (results_tmp rfl _ _ _) rfl ⟨rfl,by(repeat' (first|(with_reducible exact Below.refl _ _)|(with_reducible assumption)|(with_reducible refine Below.drew ?_)|(with_reducible refine bdrewN ?_ _)|(with_reducible refine Below.alloc ?_ ?_ _)|(with_reducible refine Below.setCell ?_ ?_ _)|omega|(simp;done)|(simp;omega)))⟩
set_option maxRecDepth 20000 in
theorem def_check(w:World)(k:Int)(pn nm:Bs)(pa:Int)(code:List I)(ca aa:Option Addr)(cc an ac:Nat)(hc:Code1 w ca code)(hp:pn.length<=140737488355328) :
  Calls Tryz.prog 301 #[.agg #[.int .i64 k,.string ⟨pn.toArray⟩,.int .i64 pa,.slice ca code.length cc,.string ⟨nm.toArray⟩,.slice aa an ac]] w fun e' w'=>e' = .returned (.int .i64 (if nm≠[]\/an≠0 then 3 else (chkP ⟨pn,pa,code⟩).2))/\Below w.heap.size w w':=by
 have hl:=str_list nm
 have hc1:=hc.below ((Below.refl _ w).alloc (Nat.le_refl _) (.cells #[.int .i64 k,.string ⟨pn.toArray⟩,.int .i64 pa,.slice ca code.length cc,.string ⟨nm.toArray⟩,.slice aa an ac] 194))
 have HP:=Lib.hid hp
 have hbb:Below w.heap.size w (w.alloc (.cells #[.int .i64 k,.string ⟨pn.toArray⟩,.int .i64 pa,.slice ca code.length cc,.string ⟨nm.toArray⟩,.slice aa an ac] 194)):=by(repeat' (first|(with_reducible exact Below.refl _ _)|(with_reducible assumption)|(with_reducible refine Below.drew ?_)|(with_reducible refine bdrewN ?_ _)|(with_reducible refine Below.alloc ?_ ?_ _)|(with_reducible refine Below.setCell ?_ ?_ _)|omega|(simp;done)|(simp;omega)))
 clear hp hc
 by_cases h1:nm=[]
 ·subst h1
  by_cases h2:an=0
  ·subst h2
   rw[if_neg (by simp)]
   go_enter Tryz.func301,Tryz.ntmps301
   repeat' ((fail_if_success at_builtin);first|go_values|go_skip|go_guarded|go_step|go_upon|go_back)
   (refine(chkP_any _ ⟨pn.toArray⟩ pa ca cc code (by rw[str_size];exact HP.out) hc1).mono ?_;rintro e1 w1 ⟨rfl,hb⟩;dsimp only)
   repeat' ((fail_if_success at_builtin);first|go_values|go_skip|go_guarded|go_step|go_upon|go_back)
   refine bodyPost_ret (results_tmp rfl _ _ _) rfl ⟨rfl,hbb.trans (hb.mono hbb.size)⟩
  ·rw[if_pos (.inr h2)]
   have g2:0<an:=by omega
   clear h2
   go_enter Tryz.func301,Tryz.ntmps301
   repeat' ((fail_if_success at_builtin);first|go_values|go_skip|go_guarded|go_step|go_upon|go_back)
   refine bodyPost_ret (results_tmp rfl _ _ _) rfl ⟨rfl,by(repeat' (first|(with_reducible exact Below.refl _ _)|(with_reducible assumption)|(with_reducible refine Below.drew ?_)|(with_reducible refine bdrewN ?_ _)|(with_reducible refine Below.alloc ?_ ?_ _)|(with_reducible refine Below.setCell ?_ ?_ _)|omega|(simp;done)|(simp;omega)))⟩
 ·rw[if_pos (.inl h1)]
  have g1:nm.isEmpty=false:=by simpa using h1
  clear h1
  go_enter Tryz.func301,Tryz.ntmps301
  repeat' ((fail_if_success at_builtin);first|go_values|go_skip|go_guarded|go_step|go_upon|go_back)
  refine bodyPost_ret (results_tmp rfl _ _ _) rfl ⟨rfl,by(repeat' (first|(with_reducible exact Below.refl _ _)|(with_reducible assumption)|(with_reducible refine Below.drew ?_)|(with_reducible refine bdrewN ?_ _)|(with_reducible refine Below.alloc ?_ ?_ _)|(with_reducible refine Below.setCell ?_ ?_ _)|omega|(simp;done)|(simp;omega)))⟩
def bareC(pn:Bs)(pa:Int)(cn:Nat):Bool:=pn.isEmpty&&pa==0&&cn==0
set_option maxRecDepth 20000 in
theorem drop_check(w:World)(k:Int)(pn nm:Bs)(pa:Int)(ca aa:Option Addr)(cn cc an ac:Nat)(hn:nm.length<=140737488355328) :
  Calls Tryz.prog 302 #[.agg #[.int .i64 k,.string ⟨pn.toArray⟩,.int .i64 pa,.slice ca cn cc,.string ⟨nm.toArray⟩,.slice aa an ac]] w fun e' w'=>e' = .returned (.int .i64 (if an≠0\/bareC pn pa cn=false then 3 else if okName nm=false then 5 else 0))/\Below w.heap.size w w':=by
 have HN:=Lib.hid hn
 have hbb:Below w.heap.size w (w.alloc (.cells #[.int .i64 k,.string ⟨pn.toArray⟩,.int .i64 pa,.slice ca cn cc,.string ⟨nm.toArray⟩,.slice aa an ac] 197)):=by(repeat' (first|(with_reducible exact Below.refl _ _)|(with_reducible assumption)|(with_reducible refine Below.drew ?_)|(with_reducible refine bdrewN ?_ _)|(with_reducible refine Below.alloc ?_ ?_ _)|(with_reducible refine Below.setCell ?_ ?_ _)|omega|(simp;done)|(simp;omega)))
 have q:=blk_new w (.cells #[.int .i64 k,.string ⟨pn.toArray⟩,.int .i64 pa,.slice ca cn cc,.string ⟨nm.toArray⟩,.slice aa an ac] 197)
 clear hn
 by_cases h2:an=0
 ·subst h2
  by_cases h1:bareC pn pa cn=false
  ·rw[if_pos (.inr h1)]
   have H1:=Lib.hid h1
   clear h1
   go_enter Tryz.func302,Tryz.ntmps302
   repeat' ((fail_if_success at_builtin);first|go_values|go_skip|go_guarded|go_step|go_upon|go_back)
   (refine(bare_any _ pn pa ca cn cc).mono ?_;rintro e1 w1 ⟨rfl,hb⟩;dsimp only)
   rw[show (pn.isEmpty&&pa==0&&cn==0)=false from H1.out]
   repeat' ((fail_if_success at_builtin);first|go_values|go_skip|go_guarded|go_step|go_upon|go_back)
   refine bodyPost_ret (results_tmp rfl _ _ _) rfl ⟨rfl,hbb.trans (hb.mono hbb.size)⟩
  ·have h1':bareC pn pa cn=true:=by simpa using h1
   rw[if_neg (by rw[h1'];simp)]
   have H1:=Lib.hid h1'
   clear h1 h1'
   by_cases h3:okName nm=false
   ·rw[if_pos h3]
    have H3:=Lib.hid h3
    clear h3
    go_enter Tryz.func302,Tryz.ntmps302
    repeat' ((fail_if_success at_builtin);first|go_values|go_skip|go_guarded|go_step|go_upon|go_back)
    (refine(bare_any _ pn pa ca cn cc).mono ?_;rintro e1 w1 ⟨rfl,hb⟩;dsimp only)
    rw[show (pn.isEmpty&&pa==0&&cn==0)=true from H1.out]
    have q1:=blk_cell (blk_below hb q (blk_lt q)) 4
    repeat' ((fail_if_success at_builtin);first|go_values|go_skip|go_guarded|go_step|go_upon|go_back)
    (refine(bname_any _ nm HN.out).mono ?_;rintro e1 w2 ⟨rfl,hb2⟩;dsimp only)
    rw[H3.out]
    have hb3:=hbb.trans ((hb.trans (hb2.mono hb.size)).mono hbb.size)
    repeat' ((fail_if_success at_builtin);first|go_values|go_skip|go_guarded|go_step|go_upon|go_back)
    refine bodyPost_ret (results_tmp rfl _ _ _) rfl ⟨rfl,hb3⟩
   ·have h3':okName nm=true:=by simpa using h3
    rw[if_neg h3]
    have H3:=Lib.hid h3'
    clear h3 h3'
    go_enter Tryz.func302,Tryz.ntmps302
    repeat' ((fail_if_success at_builtin);first|go_values|go_skip|go_guarded|go_step|go_upon|go_back)
    (refine(bare_any _ pn pa ca cn cc).mono ?_;rintro e1 w1 ⟨rfl,hb⟩;dsimp only)
    rw[show (pn.isEmpty&&pa==0&&cn==0)=true from H1.out]
    have q1:=blk_cell (blk_below hb q (blk_lt q)) 4
    repeat' ((fail_if_success at_builtin);first|go_values|go_skip|go_guarded|go_step|go_upon|go_back)
    (refine(bname_any _ nm HN.out).mono ?_;rintro e1 w2 ⟨rfl,hb2⟩;dsimp only)
    rw[H3.out]
    have hb3:=hbb.trans ((hb.trans (hb2.mono hb.size)).mono hbb.size)
    repeat' ((fail_if_success at_builtin);first|go_values|go_skip|go_guarded|go_step|go_upon|go_back)
    refine bodyPost_ret (results_tmp rfl _ _ _) rfl ⟨rfl,hb3⟩
 ·rw[if_pos (.inl h2)]
  have g2:0<an:=by omega
  clear h2
  go_enter Tryz.func302,Tryz.ntmps302
  repeat' ((fail_if_success at_builtin);first|go_values|go_skip|go_guarded|go_step|go_upon|go_back)
  refine bodyPost_ret (results_tmp rfl _ _ _) rfl ⟨rfl,by(repeat' (first|(with_reducible exact Below.refl _ _)|(with_reducible assumption)|(with_reducible refine Below.drew ?_)|(with_reducible refine bdrewN ?_ _)|(with_reducible refine Below.alloc ?_ ?_ _)|(with_reducible refine Below.setCell ?_ ?_ _)|omega|(simp;done)|(simp;omega)))⟩
set_option maxRecDepth 20000 in
theorem call_check(w:World)(k:Int)(pn nm:Bs)(pa:Int)(ca aa:Option Addr)(cn cc an ac:Nat)(hn:nm.length<=140737488355328) :
  Calls Tryz.prog 305 #[.agg #[.int .i64 k,.string ⟨pn.toArray⟩,.int .i64 pa,.slice ca cn cc,.string ⟨nm.toArray⟩,.slice aa an ac]] w fun e' w'=>e' = .returned (.int .i64 (if bareC pn pa cn=false then 3 else if okName nm=false then 5 else if 16<an then 4 else 0))/\Below w.heap.size w w':=by
 have HN:=Lib.hid hn
 have hbb:Below w.heap.size w (w.alloc (.cells #[.int .i64 k,.string ⟨pn.toArray⟩,.int .i64 pa,.slice ca cn cc,.string ⟨nm.toArray⟩,.slice aa an ac] 198)):=by(repeat' (first|(with_reducible exact Below.refl _ _)|(with_reducible assumption)|(with_reducible refine Below.drew ?_)|(with_reducible refine bdrewN ?_ _)|(with_reducible refine Below.alloc ?_ ?_ _)|(with_reducible refine Below.setCell ?_ ?_ _)|omega|(simp;done)|(simp;omega)))
 have q:=blk_new w (.cells #[.int .i64 k,.string ⟨pn.toArray⟩,.int .i64 pa,.slice ca cn cc,.string ⟨nm.toArray⟩,.slice aa an ac] 198)
 clear hn
 by_cases h1:bareC pn pa cn=false
 ·rw[if_pos h1]
  have H1:=Lib.hid h1
  clear h1
  go_enter Tryz.func305,Tryz.ntmps305
  repeat' ((fail_if_success at_builtin);first|go_values|go_skip|go_guarded|go_step|go_upon|go_back)
  (refine(bare_any _ pn pa ca cn cc).mono ?_;rintro e1 w1 ⟨rfl,hb⟩;dsimp only)
  rw[show (pn.isEmpty&&pa==0&&cn==0)=false from H1.out]
  repeat' ((fail_if_success at_builtin);first|go_values|go_skip|go_guarded|go_step|go_upon|go_back)
  refine bodyPost_ret (results_tmp rfl _ _ _) rfl ⟨rfl,hbb.trans (hb.mono hbb.size)⟩
 ·have h1':bareC pn pa cn=true:=by simpa using h1
  rw[if_neg h1]
  have H1:=Lib.hid h1'
  clear h1 h1'
  by_cases h3:okName nm=false
  ·rw[if_pos h3]
   have H3:=Lib.hid h3
   clear h3
   go_enter Tryz.func305,Tryz.ntmps305
   repeat' ((fail_if_success at_builtin);first|go_values|go_skip|go_guarded|go_step|go_upon|go_back)
   (refine(bare_any _ pn pa ca cn cc).mono ?_;rintro e1 w1 ⟨rfl,hb⟩;dsimp only)
   rw[show (pn.isEmpty&&pa==0&&cn==0)=true from H1.out]
   have q0:=blk_below hb q (blk_lt q)
   have q1:=blk_cell q0 4
   repeat' ((fail_if_success at_builtin);first|go_values|go_skip|go_guarded|go_step|go_upon|go_back)
   (refine(bname_any _ nm HN.out).mono ?_;rintro e1 w2 ⟨rfl,hb2⟩;dsimp only)
   rw[H3.out]
   have q2:=blk_cell (blk_below hb2 q0 (blk_lt q0)) 5
   have hb3:=hbb.trans ((hb.trans (hb2.mono hb.size)).mono hbb.size)
   repeat' ((fail_if_success at_builtin);first|go_values|go_skip|go_guarded|go_step|go_upon|go_back)
   refine bodyPost_ret (results_tmp rfl _ _ _) rfl ⟨rfl,hb3⟩
  ·have h3':okName nm=true:=by simpa using h3
   rw[if_neg h3]
   have H3:=Lib.hid h3'
   clear h3 h3'
   by_cases h4:16<an
   ·rw[if_pos h4]
    have g4:decide ((16:Int)<(an:Int))=true:=by simp;omega
    clear h4
    go_enter Tryz.func305,Tryz.ntmps305
    repeat' ((fail_if_success at_builtin);first|go_values|go_skip|go_guarded|go_step|go_upon|go_back)
    (refine(bare_any _ pn pa ca cn cc).mono ?_;rintro e1 w1 ⟨rfl,hb⟩;dsimp only)
    rw[show (pn.isEmpty&&pa==0&&cn==0)=true from H1.out]
    have q0:=blk_below hb q (blk_lt q)
    have q1:=blk_cell q0 4
    repeat' ((fail_if_success at_builtin);first|go_values|go_skip|go_guarded|go_step|go_upon|go_back)
    (refine(bname_any _ nm HN.out).mono ?_;rintro e1 w2 ⟨rfl,hb2⟩;dsimp only)
    rw[H3.out]
    have q2:=blk_cell (blk_below hb2 q0 (blk_lt q0)) 5
    have hb3:=hbb.trans ((hb.trans (hb2.mono hb.size)).mono hbb.size)
    repeat' ((fail_if_success at_builtin);first|go_values|go_skip|go_guarded|go_step|go_upon|go_back)
    refine bodyPost_ret (results_tmp rfl _ _ _) rfl ⟨rfl,hb3⟩
   ·rw[if_neg h4]
    have g4:decide ((16:Int)<(an:Int))=false:=by simp;omega
    clear h4
    go_enter Tryz.func305,Tryz.ntmps305
    repeat' ((fail_if_success at_builtin);first|go_values|go_skip|go_guarded|go_step|go_upon|go_back)
    (refine(bare_any _ pn pa ca cn cc).mono ?_;rintro e1 w1 ⟨rfl,hb⟩;dsimp only)
    rw[show (pn.isEmpty&&pa==0&&cn==0)=true from H1.out]
    have q0:=blk_below hb q (blk_lt q)
    have q1:=blk_cell q0 4
    repeat' ((fail_if_success at_builtin);first|go_values|go_skip|go_guarded|go_step|go_upon|go_back)
    (refine(bname_any _ nm HN.out).mono ?_;rintro e1 w2 ⟨rfl,hb2⟩;dsimp only)
    rw[H3.out]
    have q2:=blk_cell (blk_below hb2 q0 (blk_lt q0)) 5
    have hb3:=hbb.trans ((hb.trans (hb2.mono hb.size)).mono hbb.size)
    repeat' ((fail_if_success at_builtin);first|go_values|go_skip|go_guarded|go_step|go_upon|go_back)
    refine bodyPost_ret (results_tmp rfl _ _ _) rfl ⟨rfl,hb3⟩
end Go.Proofs.YtbppnihcbcdglaaGreat
