/- repair: own, further. No condition. -/
import Derived.Test.YtbppnihcbcdglaaGreatZ7
import Derived.Test.YtbppnihcbcdglaaGreatV8
namespace Go.Proofs.YtbppnihcbcdglaaGreat
set_option maxHeartbeats 0
open Go.RowKit
set_option linter.unusedVariables false
set_option linter.unusedSimpArgs false
set_option maxRecDepth 20000 in
theorem rown_any(w:World)(s:ByteArray):Calls Tryz.prog 81 #[.string s] w fun e w'=>e = .returned (.bool (ownB s.data.toList))/\Below w.heap.size w w':=by
 obtain⟨n1,c1,h1⟩:∃ n c,numOfName ckptH s.data.toList=(n,c):=⟨_,_,rfl⟩
 obtain⟨n2,c2,h2⟩:∃ n c,numOfName logH s.data.toList=(n,c):=⟨_,_,rfl⟩
 unfold ownB
 rw[h1,h2]
 have H1:=Lib.hid h1
 have H2:=Lib.hid h2
 clear h1 h2
 have e3:∀ m:Bs,(s.toList==m)=(s.data.toList==m):=fun m=>by rw[bytes_list]
 have E3:=Lib.hid e3
 clear e3
 cases c1 <;> cases c2
 ·go_enter Tryz.func81,Tryz.ntmps81
  repeat' ((fail_if_success at_builtin);first|go_values|go_skip|go_guarded|go_step|go_upon|go_back)
  (refine(sfirst_any _ s).mono ?_;rintro e1 w1 ⟨rfl,hb1⟩;dsimp only)
  rw[H2.out]
  repeat' ((fail_if_success at_builtin);first|go_values|go_skip|go_guarded|go_step|go_upon|go_back)
  (refine(cnumber_any _ s).mono ?_;rintro e1 w2 ⟨rfl,hb2⟩;dsimp only)
  rw[H1.out]
  have hb:=hb1.trans (hb2.mono hb1.size)
  repeat' ((fail_if_success at_builtin);first|go_values|go_skip|go_guarded|go_step|go_upon|go_back)
  all_goals (
   refine bodyPost_ret (v := .bool (s.toList==manN||s.toList==manW)) (by first|rfl|(simp_all [results,Tryz.results81,go_sem,manN,manW])) rfl ?_
   exact⟨by rw[E3.out,E3.out];simp,hb⟩)
 all_goals (
  go_enter Tryz.func81,Tryz.ntmps81
  repeat' ((fail_if_success at_builtin);first|go_values|go_skip|go_guarded|go_step|go_upon|go_back)
  (refine(sfirst_any _ s).mono ?_;rintro e1 w1 ⟨rfl,hb1⟩;dsimp only)
  rw[H2.out]
  repeat' ((fail_if_success at_builtin);first|go_values|go_skip|go_guarded|go_step|go_upon|go_back)
  (refine(cnumber_any _ s).mono ?_;rintro e1 w2 ⟨rfl,hb2⟩;dsimp only)
  rw[H1.out]
  have hb:=hb1.trans (hb2.mono hb1.size)
  repeat' ((fail_if_success at_builtin);first|go_values|go_skip|go_guarded|go_step|go_upon|go_back)
  refine bodyPost_ret (results_tmp rfl _ _ _) rfl ?_
  exact⟨rfl,hb⟩)
def Road.val(r:Road)(lv:Value):Value := .agg #[.int .i64 r.number,.int .i64 r.mark,.int .i64 r.stop,lv]
set_option maxRecDepth 20000 in
theorem further_any(w:World)(a b:Road)(la lb:Value)(m1 m2:Option Nat)(h1:la = .map m1)(h2:lb = .map m2):Calls Tryz.prog 150 #[a.val la,b.val lb] w fun e w'=>e = .returned (.bool (furtherB a b))/\Below w.heap.size w w':=by
 subst h1 h2
 unfold Road.val
 have hb:Below w.heap.size w ((w.alloc (.cells #[.int .i64 a.number,.int .i64 a.mark,.int .i64 a.stop,.map m1] 241)).alloc (.cells #[.int .i64 b.number,.int .i64 b.mark,.int .i64 b.stop,.map m2] 241)):=((Below.refl _ w).alloc (Nat.le_refl _) _).alloc (by simp) _
 have HB:=Lib.hid hb
 clear hb
 unfold furtherB
 by_cases e1:a.stop=b.stop
 ·have t1:(a.stop != b.stop)=false:=by simp[e1]
  by_cases e2:a.mark=b.mark
  ·have t2:(a.mark != b.mark)=false:=by simp[e2]
   rw[if_neg (by simp[e1]),if_neg (by simp[e2])]
   clear e1 e2
   go_enter Tryz.func150,Tryz.ntmps150
   repeat' ((fail_if_success at_builtin);first|go_values|go_skip|go_guarded|go_step|go_upon|go_back)
   refine bodyPost_ret (results_tmp rfl _ _ _) rfl ⟨rfl,HB.out⟩
  ·have t2:(a.mark != b.mark)=true:=by simpa using e2
   rw[if_neg (by simp[e1]),if_pos e2]
   clear e1 e2
   go_enter Tryz.func150,Tryz.ntmps150
   repeat' ((fail_if_success at_builtin);first|go_values|go_skip|go_guarded|go_step|go_upon|go_back)
   refine bodyPost_ret (results_tmp rfl _ _ _) rfl ⟨rfl,HB.out⟩
 ·have t1:(a.stop != b.stop)=true:=by simpa using e1
  rw[if_pos e1]
  clear e1
  go_enter Tryz.func150,Tryz.ntmps150
  repeat' ((fail_if_success at_builtin);first|go_values|go_skip|go_guarded|go_step|go_upon|go_back)
  refine bodyPost_ret (results_tmp rfl _ _ _) rfl ⟨rfl,HB.out⟩
end Go.Proofs.YtbppnihcbcdglaaGreat
