/- Names of segments and checkpoints: Name. No condition. -/
import Derived.Lib.Strings
import Derived.Lib.Slices
import Derived.Lib.Walk
import Derived.Lib.Bytealg
import Derived.Test.YtbppnihcbcdglaaGreatZ1
import Derived.Test.YtbppnihcbcdglaaGreatZ3
namespace Go.Proofs.YtbppnihcbcdglaaGreat
set_option maxHeartbeats 0
open Go.RowKit
set_option linter.unusedVariables false
set_option linter.unusedSimpArgs false
set_option maxRecDepth 100000 in
theorem indexByte_0(s:ByteArray)(c:Int)(w:World) :
  Calls Tryz.prog 165 #[.string s,.int .u8 c] w fun e w'=>e = .returned (.int .i64 (Lib.indexByte s.data.toList c.toNat.toUInt8))/\w'=w:=by
 go_enter Tryz.func165,Tryz.ntmps165
 go_wp2
 rw[run_callFunc_extern Tryz.func235 (by kernel_rfl) (by kernel_rfl) (by kernel_rfl) (e:=Extern.BytealgIndexByte.indexByte) (by kernel_rfl),Lib.run_indexByteString]
 simp only[Result.andThen]
 rw[Oper.upon_value]
 go_wp2
 go_ret
 exact⟨rfl,rfl⟩
theorem indexByte_any(s:ByteArray)(c:Int)(w:World) :
  Calls Tryz.prog 92 #[.string s,.int .u8 c] w fun e w'=>e = .returned (.int .i64 (Lib.indexByte s.data.toList c.toNat.toUInt8))/\w'=w:=by
 go_enter Tryz.func92,Tryz.ntmps92
 go_wp2_with (go_at_call 165;refine(indexByte_0 _ _ _).mono ?_;rintro e w' ⟨rfl,rfl⟩)
 go_ret
 exact⟨rfl,rfl⟩
theorem cutPrefix_any(s p:ByteArray)(w:World) :
  Calls Tryz.prog 91 #[.string s,.string p] w fun e w'=>e = .returned (.tuple #[.string ⟨(Lib.trimPrefix s.data.toList p.data.toList).toArray⟩,.bool (Lib.hasPrefix s.data.toList p.data.toList)])/\w'=w:=by
 go_enter Tryz.func91,Tryz.ntmps91
 go_wp2
 ·have h2:(!((s.extract 0 p.size).toList==p.toList))=true:=by assumption
  have h3:(decide (p.size<=s.size)&&((s.extract 0 p.size).toList==p.toList))=false:=by
   have:((s.extract 0 p.size).toList==p.toList)=false:=by simpa using h2
   rw[this]
   simp
  go_ret2
  refine⟨?_,rfl⟩
  rw[Lib.trimPrefix_miss s p h3,<-Lib.hasPrefix_raw,h3]
  rfl
 ·have h1:p.size<=s.size:=by assumption
  have h2:(!((s.extract 0 p.size).toList==p.toList))=false:=by assumption
  have h2':((s.extract 0 p.size).toList==p.toList)=true:=by simpa using h2
  go_ret2
  refine⟨?_,rfl⟩
  rw[Lib.trimPrefix_hit s p h1 h2',<-Lib.hasPrefix_raw,h2',decide_eq_true h1]
  rfl
 ·have h1:¬ p.size<=s.size:=by assumption
  have h3:(decide (p.size<=s.size)&&((s.extract 0 p.size).toList==p.toList))=false:=by simp[h1]
  go_ret2
  refine⟨?_,rfl⟩
  rw[Lib.trimPrefix_miss s p h3,<-Lib.hasPrefix_raw,h3]
  rfl
def nmCells(n i:Nat):Array Value:=((List.range 12).map fun j=>if 12<=j+i then B (hexD (n / 16 ^ (11-j)%16)) else .int .u8 0).toArray
theorem nib15(n i k:Nat)(h:n<=281474976710655)(hk:k=n / 16 ^ i%16):bits BinOp.and IntKind.u64 ((n:Int) / 2 ^ (4*i)) 15=(k:Int):=by
 subst hk
 have e:(n:Int) / 2 ^ (4*i)=((n / 16 ^ i:Nat):Int):=by
  rw[show (16:Nat) ^ i=2 ^ (4*i) by rw[Nat.pow_mul]]
  simp
 rw[e]
 have hs:n / 16 ^ i<=n:=Nat.div_le_self _ _
 generalize n / 16 ^ i=m at hs ⊢
 rw[show bits BinOp.and IntKind.u64 (m:Int) 15=((m &&& 15:Nat):Int) from u64_and_nat m 15 (by omega) (by omega),show m &&& 15=m%16 from Nat.and_two_pow_sub_one_eq_mod m 4]
theorem hexAt(k:Nat)(hk:k<16):∀ h,(((⟨#[48,49,50,51,52,53,54,55,56,57,97,98,99,100,101,102]⟩:ByteArray)[(k:Int).toNat]'h).toNat:Int)=((hexD k).toNat:Int):=by
 have:=(by decide:∀ f:Fin 16,((#[48,49,50,51,52,53,54,55,56,57,97,98,99,100,101,102]:Array UInt8)[f.val]!)=hexD f.val) ⟨k,hk⟩
 intro h
 have h2:((⟨#[48,49,50,51,52,53,54,55,56,57,97,98,99,100,101,102]⟩:ByteArray)[(k:Int).toNat]'h)=hexD k:=by
  rw[<-this]
  show (#[48,49,50,51,52,53,54,55,56,57,97,98,99,100,101,102]:Array UInt8)[(k:Int).toNat]=_
  rw[getElem!_pos _ k (by simpa using hk)]
  simp
 rw[h2]
theorem nm_cell{w:World}{b n i:Nat}{t:TypeId}(h:w.heap[b]? = some (.cells (nmCells n i) t (0,0)))(hi:i<12):∃ v,w.cell? ⟨b,11-i,none⟩=some v:=by
 have hs:11-i<(nmCells n i).size:=by simp[nmCells];omega
 refine⟨(nmCells n i)[11-i],?_⟩
 rw[blk_cell h,Array.getElem?_eq_getElem hs]
theorem nm_step(n i:Nat)(hi:i<12):(nmCells n i).setIfInBounds (11-i) (B (hexD (n / 16 ^ i%16)))=nmCells n (i+1):=by
 refine Array.ext (by simp[nmCells]) fun j h1 h2=>?_
 simp only[nmCells,List.size_toArray,List.length_map,List.length_range,Array.size_setIfInBounds] at h1 h2
 rw[Array.getElem_setIfInBounds (by simpa [nmCells] using h1)]
 by_cases e:11-i=j
 ·subst e
  rw[if_pos rfl]
  simp only[nmCells,List.getElem_toArray,List.getElem_map,List.getElem_range]
  rw[if_pos (by omega),show 11-(11-i)=i by omega]
 ·rw[if_neg e]
  simp only[nmCells,List.getElem_toArray,List.getElem_map,List.getElem_range]
  by_cases h:12<=j+i
  ·rw[if_pos h,if_pos (by omega)]
  ·rw[if_neg h,if_neg (by omega)]
theorem nm_done(n:Nat):nmCells n 12=((hex12 n).map B).toArray:=by
 simp[nmCells,hex12]
theorem bs_blk{w:World}{b c:Nat}{xs:Bs}{t:TypeId}{f:Nat×Nat}(h:w.heap[b]? = some (.cells (xs.map B).toArray t f))(hc:xs.length<=c):BS w (some ⟨b,0,none⟩) c xs :=
 ⟨hc,(fun e=>by cases e),.inr ⟨b,0,rfl,fun i u hu=>by rw[blk_cell h];simp[hu]⟩⟩
theorem bytes_app(a b:Array UInt8):(⟨a⟩:ByteArray)++(⟨b⟩:ByteArray)=⟨a++b⟩:=by
 apply ByteArray.ext
 simp
set_option maxRecDepth 20000 in
theorem name_log(w:World)(n:Nat)(h1:1<=n)(h2:n<=281474976710655):Calls Tryz.prog 79 #[.int .i64 (n:Int)] w fun e w'=>e = .returned (.string ⟨(logH++hex12 n).toArray⟩)/\Below w.heap.size w w':=by
 have t1:decide ((n:Int)<1)=false:=by simp;omega
 have t2:decide ((281474976710655:Int)<(n:Int))=false:=by simp;omega
 have HN:=Lib.hid h2
 have hw:IntKind.u64.wrap (n:Int)=(n:Int):=by simp only[IntKind.wrap_u64];omega
 clear h1 h2
 go_enter Tryz.func79,Tryz.ntmps79
 repeat' ((fail_if_success at_builtin);first|go_values|go_skip|go_guarded|go_step|go_upon|go_back)
 go_loopw [14] (fun p wr=>∃ (i:Nat),p = .int .i64 (i:Int)/\i<=12/\wr.heap[w.heap.size]? = some (.cells (nmCells n i) 236 (0,0))/\Below w.heap.size w wr) (fun p _=>12-(intOf p).toNat)
 case atStart=>exact⟨0,rfl,Nat.zero_le _,blk_new _ _,(Below.refl _ w).alloc (Nat.le_refl _) _⟩
 case round =>
  obtain⟨i,rfl,hi,hc,hb⟩:=hrel
  by_cases hl:i<12
  ·obtain⟨k,hk⟩:∃ k,k=n / 16 ^ i%16:=⟨_,rfl⟩
   have hk16:k<16:=by omega
   have HB:=Lib.hid (nib15 n i k HN.out hk)
   have h11:(11:Int)-(i:Int)=((11-i:Nat):Int):=by omega
   have HK:=Lib.hid hk
   clear hk
   repeat' ((fail_if_success at_builtin);first|go_values|go_skip|go_guarded|go_step|go_upon|go_back)
   rw[HB.out,dif_pos (by omega)]
   rw[hexAt k hk16]
   simp only[Result.andThen]
   rw[Oper.upon_value]
   have f1:=blk_free hc (11-i)
   obtain⟨v1,c1⟩:=nm_cell hc hl
   have hc2:=nm_step n i hl
   rw[<-HK.out] at hc2
   repeat' ((fail_if_success at_builtin);first|go_values|go_skip|go_guarded|go_step|go_upon|go_back)
   go_roundw
   case rel=>exact⟨i+1,by simp,hl,(blk_set hc (11-i) _).trans (by rw[<-hc2];rfl),hb.setCell (p:=⟨w.heap.size,11-i,none⟩) (Nat.le_refl _) _⟩
   case measure=>simp[intOf];omega
  ·obtain rfl:i=12:=by omega
   rw[nm_done] at hc
   have hcv:=run_bstr (bs_blk hc (c:=12) (by simp[hex12]))
   rw[show (hex12 n).length=12 by simp[hex12]] at hcv
   have hsz:ByteArray.size ⟨(hex12 n).toArray⟩=12:=by simp[ByteArray.size,hex12]
   repeat' ((fail_if_success at_builtin);first|go_values|go_skip|go_guarded|go_step|go_upon|go_back)
   refine bodyPost_ret (results_tmp rfl _ _ _) rfl ?_
   exact⟨congrArg (fun x=>Ending.returned (.string x)) (bytes_app _ _),hb⟩
set_option maxRecDepth 20000 in
theorem name_ckpt(w:World)(n:Nat)(h1:1<=n)(h2:n<=281474976710655):Calls Tryz.prog 93 #[.int .i64 (n:Int)] w fun e w'=>e = .returned (.string ⟨(ckptH++hex12 n).toArray⟩)/\Below w.heap.size w w':=by
 have t1:decide ((n:Int)<1)=false:=by simp;omega
 have t2:decide ((281474976710655:Int)<(n:Int))=false:=by simp;omega
 have HN:=Lib.hid h2
 have hw:IntKind.u64.wrap (n:Int)=(n:Int):=by simp only[IntKind.wrap_u64];omega
 clear h1 h2
 go_enter Tryz.func93,Tryz.ntmps93
 repeat' ((fail_if_success at_builtin);first|go_values|go_skip|go_guarded|go_step|go_upon|go_back)
 go_loopw [14] (fun p wr=>∃ (i:Nat),p = .int .i64 (i:Int)/\i<=12/\wr.heap[w.heap.size]? = some (.cells (nmCells n i) 236 (0,0))/\Below w.heap.size w wr) (fun p _=>12-(intOf p).toNat)
 case atStart=>exact⟨0,rfl,Nat.zero_le _,blk_new _ _,(Below.refl _ w).alloc (Nat.le_refl _) _⟩
 case round =>
  obtain⟨i,rfl,hi,hc,hb⟩:=hrel
  by_cases hl:i<12
  ·obtain⟨k,hk⟩:∃ k,k=n / 16 ^ i%16:=⟨_,rfl⟩
   have hk16:k<16:=by omega
   have HB:=Lib.hid (nib15 n i k HN.out hk)
   have h11:(11:Int)-(i:Int)=((11-i:Nat):Int):=by omega
   have HK:=Lib.hid hk
   clear hk
   repeat' ((fail_if_success at_builtin);first|go_values|go_skip|go_guarded|go_step|go_upon|go_back)
   rw[HB.out,dif_pos (by omega)]
   rw[hexAt k hk16]
   simp only[Result.andThen]
   rw[Oper.upon_value]
   have f1:=blk_free hc (11-i)
   obtain⟨v1,c1⟩:=nm_cell hc hl
   have hc2:=nm_step n i hl
   rw[<-HK.out] at hc2
   repeat' ((fail_if_success at_builtin);first|go_values|go_skip|go_guarded|go_step|go_upon|go_back)
   go_roundw
   case rel=>exact⟨i+1,by simp,hl,(blk_set hc (11-i) _).trans (by rw[<-hc2];rfl),hb.setCell (p:=⟨w.heap.size,11-i,none⟩) (Nat.le_refl _) _⟩
   case measure=>simp[intOf];omega
  ·obtain rfl:i=12:=by omega
   rw[nm_done] at hc
   have hcv:=run_bstr (bs_blk hc (c:=12) (by simp[hex12]))
   rw[show (hex12 n).length=12 by simp[hex12]] at hcv
   have hsz:ByteArray.size ⟨(hex12 n).toArray⟩=12:=by simp[ByteArray.size,hex12]
   repeat' ((fail_if_success at_builtin);first|go_values|go_skip|go_guarded|go_step|go_upon|go_back)
   refine bodyPost_ret (results_tmp rfl _ _ _) rfl ?_
   exact⟨congrArg (fun x=>Ending.returned (.string x)) (bytes_app _ _),hb⟩
set_option maxRecDepth 20000 in
theorem name_log_no(w:World)(n:Int)(h:n<1\/281474976710655<n):Calls Tryz.prog 79 #[.int .i64 n] w fun e w'=>e = .returned (.string ⟨#[]⟩)/\w'=w:=by
 by_cases h1:n<1
 ·have t1:decide (n<1)=true:=by simpa using h1
  clear h
  go_enter Tryz.func79,Tryz.ntmps79
  repeat' ((fail_if_success at_builtin);first|go_values|go_skip|go_guarded|go_step|go_upon|go_back)
  refine bodyPost_ret (results_tmp rfl _ _ _) rfl ⟨rfl,rfl⟩
 ·have t1:decide (n<1)=false:=by simpa using h1
  have t2:decide ((281474976710655:Int)<n)=true:=by simp;omega
  clear h
  go_enter Tryz.func79,Tryz.ntmps79
  repeat' ((fail_if_success at_builtin);first|go_values|go_skip|go_guarded|go_step|go_upon|go_back)
  refine bodyPost_ret (results_tmp rfl _ _ _) rfl ⟨rfl,rfl⟩
set_option maxRecDepth 20000 in
theorem name_ckpt_no(w:World)(n:Int)(h:n<1\/281474976710655<n):Calls Tryz.prog 93 #[.int .i64 n] w fun e w'=>e = .returned (.string ⟨#[]⟩)/\w'=w:=by
 by_cases h1:n<1
 ·have t1:decide (n<1)=true:=by simpa using h1
  clear h
  go_enter Tryz.func93,Tryz.ntmps93
  repeat' ((fail_if_success at_builtin);first|go_values|go_skip|go_guarded|go_step|go_upon|go_back)
  refine bodyPost_ret (results_tmp rfl _ _ _) rfl ⟨rfl,rfl⟩
 ·have t1:decide (n<1)=false:=by simpa using h1
  have t2:decide ((281474976710655:Int)<n)=true:=by simp;omega
  clear h
  go_enter Tryz.func93,Tryz.ntmps93
  repeat' ((fail_if_success at_builtin);first|go_values|go_skip|go_guarded|go_step|go_upon|go_back)
  refine bodyPost_ret (results_tmp rfl _ _ _) rfl ⟨rfl,rfl⟩
theorem sname_any(w:World)(n:Int):Calls Tryz.prog 79 #[.int .i64 n] w fun e w'=>e = .returned (.string ⟨(nameOf logH n).toArray⟩)/\Below w.heap.size w w':=by
 by_cases h:n<1\/281474976710655<n
 ·refine(name_log_no w n h).mono ?_
  rintro e w' ⟨rfl,rfl⟩
  rw[nameOf,if_pos h]
  exact⟨rfl,Below.refl _ _⟩
 ·obtain⟨k,rfl⟩:=Int.eq_ofNat_of_zero_le (show 0<=n by omega)
  refine(name_log w k (by omega) (by omega)).mono ?_
  rintro e w' ⟨rfl,hb⟩
  rw[nameOf,if_neg h]
  exact⟨rfl,hb⟩
theorem cname_any(w:World)(n:Int):Calls Tryz.prog 93 #[.int .i64 n] w fun e w'=>e = .returned (.string ⟨(nameOf ckptH n).toArray⟩)/\Below w.heap.size w w':=by
 by_cases h:n<1\/281474976710655<n
 ·refine(name_ckpt_no w n h).mono ?_
  rintro e w' ⟨rfl,rfl⟩
  rw[nameOf,if_pos h]
  exact⟨rfl,Below.refl _ _⟩
 ·obtain⟨k,rfl⟩:=Int.eq_ofNat_of_zero_le (show 0<=n by omega)
  refine(name_ckpt w k (by omega) (by omega)).mono ?_
  rintro e w' ⟨rfl,hb⟩
  rw[nameOf,if_neg h]
  exact⟨rfl,hb⟩
end Go.Proofs.YtbppnihcbcdglaaGreat
