/- audit: own, sure. No condition. -/
import Derived.Test.YtbppnihcbcdglaaGreatZ1
import Derived.Test.YtbppnihcbcdglaaGreatZ4
import Derived.Test.YtbppnihcbcdglaaGreatZ6
namespace Go.Proofs.YtbppnihcbcdglaaGreat
set_option maxHeartbeats 0
open Go.RowKit
set_option linter.unusedVariables false
set_option linter.unusedSimpArgs false
def digI(c:UInt8):Int:=match hexV c with|some k=>(k:Int)|none => -1
theorem digI_eq(c:UInt8):Lib.indexByte [48,49,50,51,52,53,54,55,56,57,97,98,99,100,101,102] c=digI c:=by
 have h:=(by decide +kernel:∀ f:Fin 256,Lib.indexByte [48,49,50,51,52,53,54,55,56,57,97,98,99,100,101,102] (UInt8.ofNat f.val)=digI (UInt8.ofNat f.val)) ⟨c.toNat,c.toNat_lt⟩
 simpa using h
theorem digit_any(w:World)(c:UInt8):Calls Tryz.prog 92 #[.string ⟨#[48,49,50,51,52,53,54,55,56,57,97,98,99,100,101,102]⟩,.int .u8 (c.toNat:Int)] w fun e w'=>e = .returned (.int .i64 (digI c))/\w=w':=by
 refine(indexByte_any _ _ w).mono ?_
 rintro e w' ⟨rfl,rfl⟩
 refine⟨?_,rfl⟩
 rw[show ((c.toNat:Int)).toNat.toUInt8=c by simp]
 rw[digI_eq]
theorem hexV_lt{c:UInt8}{k:Nat}(h:hexV c=some k):k<16:=by
 unfold hexV at h
 split at h
 ·cases h;omega
 ·split at h
  ·cases h;omega
  ·cases h
theorem bytes_list(s:ByteArray):s.toList=s.data.toList:=ByteArray.toList_eq s
theorem or_i64(a b:Nat)(ha:a<9223372036854775808)(hb:b<9223372036854775808):bits BinOp.or IntKind.i64 (a:Int) (b:Int)=((a ||| b:Nat):Int):=by
 have hx:a ||| b<2 ^ 63:=Nat.or_lt_two_pow ha hb
 show IntKind.i64.wrap ((BitVec.ofInt 64 (a:Int) ||| BitVec.ofInt 64 (b:Int)).toNat:Int)=_
 rw[BitVec.toNat_or,BitVec.toNat_ofInt,BitVec.toNat_ofInt,IntKind.wrap_i64]
 rw[show (((a:Int)%((2 ^ 64:Nat):Int)).toNat)=a by omega,show (((b:Int)%((2 ^ 64:Nat):Int)).toNat)=b by omega]
 omega
theorem shl4or(v k:Nat)(hv:v<17592186044416)(hk:k<16):bits BinOp.or IntKind.i64 (wrap64 ((v:Int)*16)) (k:Int)=((v*16+k:Nat):Int):=by
 rw[show wrap64 ((v:Int)*16)=((v*16:Nat):Int) by unfold wrap64;omega,or_i64 (v*16) k (by omega) (by omega)]
 have:=Nat.shiftLeft_add_eq_or_of_lt (b:=k) (i:=4) hk v
 rw[Nat.shiftLeft_eq,show (2:Nat) ^ 4=16 from rfl] at this
 rw[<-this]
set_option maxRecDepth 20000 in
theorem sfirst_any(w:World)(s:ByteArray):Calls Tryz.prog 66 #[.string s] w fun e w'=>e = .returned (.tuple #[.int .i64 (numOfName logH s.data.toList).1,.bool (numOfName logH s.data.toList).2])/\Below w.heap.size w w':=by
 unfold numOfName
 by_cases hp:logH.isPrefixOf s.data.toList=false
 ·rw[if_pos hp]
  have hq:Lib.hasPrefix s.data.toList [108,111,103,45]=false:=hp
  have HQ:=Lib.hid hq
  clear hp hq
  go_enter Tryz.func66,Tryz.ntmps66
  repeat' ((fail_if_success at_builtin);first|go_values|go_skip|go_guarded|go_step|go_upon|go_back)
  (refine(cutPrefix_any s _ w).mono ?_;rintro e1 w1 ⟨rfl,rfl⟩;dsimp only)
  rw[HQ.out]
  repeat' ((fail_if_success at_builtin);first|go_values|go_skip|go_guarded|go_step|go_upon|go_back)
  refine bodyPost_ret (v:=(.tuple #[.int .i64 0,.bool false])) (by simp[results,Tryz.results66,go_sem]) rfl ⟨rfl,Below.refl _ _⟩
 ·rw[if_neg hp]
  have hq:Lib.hasPrefix s.data.toList [108,111,103,45]=true:=by simpa [Lib.hasPrefix,logH] using hp
  have HQ:=Lib.hid hq
  obtain⟨t,ht⟩:∃ t:ByteArray,t=⟨(s.data.toList.drop logH.length).toArray⟩:=⟨_,rfl⟩
  have ht2:s.data.toList.drop logH.length=t.data.toList:=by rw[ht]
  have HT:Hid ((⟨(Lib.trimPrefix s.data.toList [108,111,103,45]).toArray⟩:ByteArray)=t):=Lib.hid (by rw[ht,Lib.trimPrefix,if_pos hq];rfl)
  clear hp hq ht
  rw[ht2]
  by_cases hl:t.data.toList.length=12
  ·rw[if_neg (by simp[hl])]
   rw[str_len] at hl
   have e1:((t.size:Int) != 12)=false:=by simp[hl]
   clear ht2
   have hsz:t.size=12:=hl
   go_enter Tryz.func66,Tryz.ntmps66
   repeat' ((fail_if_success at_builtin);first|go_values|go_skip|go_guarded|go_step|go_upon|go_back)
   (refine(cutPrefix_any s _ w).mono ?_;rintro e1 w1 ⟨rfl,rfl⟩;dsimp only)
   rw[HQ.out,HT.out]
   repeat' ((fail_if_success at_builtin);first|go_values|go_skip|go_guarded|go_step|go_upon|go_back)
   go_loop [6,23] (fun p q=>∃ (i v:Nat),p = .int .i64 (v:Int)/\q = .int .i64 (i:Int)/\i<=12/\v<16 ^ i/\Hid (hexGo (t.data.toList.drop i) v=hexGo t.data.toList 0)) (fun _ q=>12-(intOf q).toNat)
   case atStart=>exact⟨0,0,rfl,rfl,Nat.zero_le _,by decide,Lib.hid rfl⟩
   case round =>
    obtain⟨i,v,rfl,rfl,hi,hv,HG⟩:=hrel
    by_cases hlt:i<12
    ·have hlt2:i<t.size:=by omega
     have hat:=str_at t i hlt2
     have hd:t.data.toList.drop i=t[i] :: t.data.toList.drop (i+1):=by
      rw[List.drop_eq_getElem_cons (by rw[str_len];exact hlt2)]
      congr 1
     have hg:=HG.out
     rw[hd] at hg
     obtain⟨d,hdg⟩:∃ d,hexV t[i]=d:=⟨_,rfl⟩
     simp only[hexGo,hdg] at hg
     have HD:=Lib.hid hdg
     clear hat hd hdg HG
     cases d with
     | none =>
      have HG:=Lib.hid hg
      clear hg
      repeat' ((fail_if_success at_builtin);first|go_values|go_skip|go_guarded|go_step|go_upon|go_back)
      (refine(digit_any _ t[i]).mono ?_;rintro e1 w1 ⟨rfl,rfl⟩;dsimp only)
      rw[digI,HD.out]
      repeat' ((fail_if_success at_builtin);first|go_values|go_skip|go_guarded|go_step|go_upon|go_back)
      refine bodyPost_ret (v:=(.tuple #[.int .i64 0,.bool false])) (by simp[results,Tryz.results66,go_sem]) rfl ?_
      rw[<-HG.out]
      exact⟨rfl,Below.refl _ _⟩
     | some k =>
      have HG:=Lib.hid hg
      have hk:=hexV_lt HD.out
      clear hg
      have hv2:v<17592186044416:=Nat.lt_of_lt_of_le hv (Nat.le_trans (Nat.pow_le_pow_right (by omega) (show i<=11 by omega)) (by decide))
      have e2:decide ((k:Int)<0)=false:=by simp
      have HS:=Lib.hid (shl4or v k hv2 hk)
      have HV:=Lib.hid hv
      clear hv hv2
      repeat' ((fail_if_success at_builtin);first|go_values|go_skip|go_guarded|go_step|go_upon|go_back)
      (refine(digit_any _ t[i]).mono ?_;rintro e1 w1 ⟨rfl,rfl⟩;dsimp only)
      rw[digI,HD.out]
      dsimp only
      repeat' ((fail_if_success at_builtin);first|go_values|go_skip|go_guarded|go_step|go_upon|go_back)
      go_round
      case rel=>exact⟨i+1,v*16+k,by rw[HS.out],by simp,by omega,by have:=HV.out;rw[Nat.pow_succ];omega,HG⟩
      case measure=>simp[intOf];omega
    ·obtain rfl:i=12:=by omega
     have hg:=HG.out
     rw[List.drop_eq_nil_of_le (by rw[str_len];omega)] at hg
     have HG2:=Lib.hid hg
     clear hg HG
     repeat' ((fail_if_success at_builtin);first|go_values|go_skip|go_guarded|go_step|go_upon|go_back)
     (refine(sname_any _ (v:Int)).mono ?_;rintro e1 w1 ⟨rfl,hb1⟩;dsimp only)
     repeat' ((fail_if_success at_builtin);first|go_values|go_skip|go_guarded|go_step|go_upon|go_back)
     refine bodyPost_ret (v := .tuple #[.int .i64 (v:Int),.bool (nameOf logH (v:Int)==s.toList)]) (by simp[results,Tryz.results66,go_sem]) rfl ?_
     rw[<-HG2.out,bytes_list]
     exact⟨rfl,hb1⟩
  ·rw[if_pos hl]
   rw[str_len] at hl
   have e1:((t.size:Int) != 12)=true:=by simp;omega
   have HL:=Lib.hid hl
   clear hl ht2
   go_enter Tryz.func66,Tryz.ntmps66
   repeat' ((fail_if_success at_builtin);first|go_values|go_skip|go_guarded|go_step|go_upon|go_back)
   (refine(cutPrefix_any s _ w).mono ?_;rintro e1 w1 ⟨rfl,rfl⟩;dsimp only)
   rw[HQ.out,HT.out]
   repeat' ((fail_if_success at_builtin);first|go_values|go_skip|go_guarded|go_step|go_upon|go_back)
   refine bodyPost_ret (v:=(.tuple #[.int .i64 0,.bool false])) (by simp[results,Tryz.results66,go_sem]) rfl ⟨rfl,Below.refl _ _⟩
set_option maxRecDepth 20000 in
theorem cnumber_any(w:World)(s:ByteArray):Calls Tryz.prog 39 #[.string s] w fun e w'=>e = .returned (.tuple #[.int .i64 (numOfName ckptH s.data.toList).1,.bool (numOfName ckptH s.data.toList).2])/\Below w.heap.size w w':=by
 unfold numOfName
 by_cases hp:ckptH.isPrefixOf s.data.toList=false
 ·rw[if_pos hp]
  have hq:Lib.hasPrefix s.data.toList [99,107,112,116,45]=false:=hp
  have HQ:=Lib.hid hq
  clear hp hq
  go_enter Tryz.func39,Tryz.ntmps39
  repeat' ((fail_if_success at_builtin);first|go_values|go_skip|go_guarded|go_step|go_upon|go_back)
  (refine(cutPrefix_any s _ w).mono ?_;rintro e1 w1 ⟨rfl,rfl⟩;dsimp only)
  rw[HQ.out]
  repeat' ((fail_if_success at_builtin);first|go_values|go_skip|go_guarded|go_step|go_upon|go_back)
  refine bodyPost_ret (v:=(.tuple #[.int .i64 0,.bool false])) (by simp[results,Tryz.results39,go_sem]) rfl ⟨rfl,Below.refl _ _⟩
 ·rw[if_neg hp]
  have hq:Lib.hasPrefix s.data.toList [99,107,112,116,45]=true:=by simpa [Lib.hasPrefix,ckptH] using hp
  have HQ:=Lib.hid hq
  obtain⟨t,ht⟩:∃ t:ByteArray,t=⟨(s.data.toList.drop ckptH.length).toArray⟩:=⟨_,rfl⟩
  have ht2:s.data.toList.drop ckptH.length=t.data.toList:=by rw[ht]
  have HT:Hid ((⟨(Lib.trimPrefix s.data.toList [99,107,112,116,45]).toArray⟩:ByteArray)=t):=Lib.hid (by rw[ht,Lib.trimPrefix,if_pos hq];rfl)
  clear hp hq ht
  rw[ht2]
  by_cases hl:t.data.toList.length=12
  ·rw[if_neg (by simp[hl])]
   rw[str_len] at hl
   have e1:((t.size:Int) != 12)=false:=by simp[hl]
   clear ht2
   have hsz:t.size=12:=hl
   go_enter Tryz.func39,Tryz.ntmps39
   repeat' ((fail_if_success at_builtin);first|go_values|go_skip|go_guarded|go_step|go_upon|go_back)
   (refine(cutPrefix_any s _ w).mono ?_;rintro e1 w1 ⟨rfl,rfl⟩;dsimp only)
   rw[HQ.out,HT.out]
   repeat' ((fail_if_success at_builtin);first|go_values|go_skip|go_guarded|go_step|go_upon|go_back)
   go_loop [6,23] (fun p q=>∃ (i v:Nat),p = .int .i64 (v:Int)/\q = .int .i64 (i:Int)/\i<=12/\v<16 ^ i/\Hid (hexGo (t.data.toList.drop i) v=hexGo t.data.toList 0)) (fun _ q=>12-(intOf q).toNat)
   case atStart=>exact⟨0,0,rfl,rfl,Nat.zero_le _,by decide,Lib.hid rfl⟩
   case round =>
    obtain⟨i,v,rfl,rfl,hi,hv,HG⟩:=hrel
    by_cases hlt:i<12
    ·have hlt2:i<t.size:=by omega
     have hat:=str_at t i hlt2
     have hd:t.data.toList.drop i=t[i] :: t.data.toList.drop (i+1):=by
      rw[List.drop_eq_getElem_cons (by rw[str_len];exact hlt2)]
      congr 1
     have hg:=HG.out
     rw[hd] at hg
     obtain⟨d,hdg⟩:∃ d,hexV t[i]=d:=⟨_,rfl⟩
     simp only[hexGo,hdg] at hg
     have HD:=Lib.hid hdg
     clear hat hd hdg HG
     cases d with
     | none =>
      have HG:=Lib.hid hg
      clear hg
      repeat' ((fail_if_success at_builtin);first|go_values|go_skip|go_guarded|go_step|go_upon|go_back)
      (refine(digit_any _ t[i]).mono ?_;rintro e1 w1 ⟨rfl,rfl⟩;dsimp only)
      rw[digI,HD.out]
      repeat' ((fail_if_success at_builtin);first|go_values|go_skip|go_guarded|go_step|go_upon|go_back)
      refine bodyPost_ret (v:=(.tuple #[.int .i64 0,.bool false])) (by simp[results,Tryz.results39,go_sem]) rfl ?_
      rw[<-HG.out]
      exact⟨rfl,Below.refl _ _⟩
     | some k =>
      have HG:=Lib.hid hg
      have hk:=hexV_lt HD.out
      clear hg
      have hv2:v<17592186044416:=Nat.lt_of_lt_of_le hv (Nat.le_trans (Nat.pow_le_pow_right (by omega) (show i<=11 by omega)) (by decide))
      have e2:decide ((k:Int)<0)=false:=by simp
      have HS:=Lib.hid (shl4or v k hv2 hk)
      have HV:=Lib.hid hv
      clear hv hv2
      repeat' ((fail_if_success at_builtin);first|go_values|go_skip|go_guarded|go_step|go_upon|go_back)
      (refine(digit_any _ t[i]).mono ?_;rintro e1 w1 ⟨rfl,rfl⟩;dsimp only)
      rw[digI,HD.out]
      dsimp only
      repeat' ((fail_if_success at_builtin);first|go_values|go_skip|go_guarded|go_step|go_upon|go_back)
      go_round
      case rel=>exact⟨i+1,v*16+k,by rw[HS.out],by simp,by omega,by have:=HV.out;rw[Nat.pow_succ];omega,HG⟩
      case measure=>simp[intOf];omega
    ·obtain rfl:i=12:=by omega
     have hg:=HG.out
     rw[List.drop_eq_nil_of_le (by rw[str_len];omega)] at hg
     have HG2:=Lib.hid hg
     clear hg HG
     repeat' ((fail_if_success at_builtin);first|go_values|go_skip|go_guarded|go_step|go_upon|go_back)
     (refine(cname_any _ (v:Int)).mono ?_;rintro e1 w1 ⟨rfl,hb1⟩;dsimp only)
     repeat' ((fail_if_success at_builtin);first|go_values|go_skip|go_guarded|go_step|go_upon|go_back)
     refine bodyPost_ret (v := .tuple #[.int .i64 (v:Int),.bool (nameOf ckptH (v:Int)==s.toList)]) (by simp[results,Tryz.results39,go_sem]) rfl ?_
     rw[<-HG2.out,bytes_list]
     exact⟨rfl,hb1⟩
  ·rw[if_pos hl]
   rw[str_len] at hl
   have e1:((t.size:Int) != 12)=true:=by simp;omega
   have HL:=Lib.hid hl
   clear hl ht2
   go_enter Tryz.func39,Tryz.ntmps39
   repeat' ((fail_if_success at_builtin);first|go_values|go_skip|go_guarded|go_step|go_upon|go_back)
   (refine(cutPrefix_any s _ w).mono ?_;rintro e1 w1 ⟨rfl,rfl⟩;dsimp only)
   rw[HQ.out,HT.out]
   repeat' ((fail_if_success at_builtin);first|go_values|go_skip|go_guarded|go_step|go_upon|go_back)
   refine bodyPost_ret (v:=(.tuple #[.int .i64 0,.bool false])) (by simp[results,Tryz.results39,go_sem]) rfl ⟨rfl,Below.refl _ _⟩
set_option maxRecDepth 20000 in
theorem own_any(w:World)(s:ByteArray):Calls Tryz.prog 134 #[.string s] w fun e w'=>e = .returned (.bool (ownB s.data.toList))/\Below w.heap.size w w':=by
 obtain⟨n1,c1,h1⟩:∃ n c,numOfName ckptH s.data.toList=(n,c):=⟨_,_,rfl⟩
 obtain⟨n2,c2,h2⟩:∃ n c,numOfName logH s.data.toList=(n,c):=⟨_,_,rfl⟩
 unfold ownB
 rw[h1,h2]
 have H1:=Lib.hid h1
 have H2:=Lib.hid h2
 clear h1 h2
 have e3:∀ m:Bs,(s.toList==m)=(s.data.toList==m):=fun m=>by rw[bytes_list]
 have E3:=Lib.hid e3
 clear e3
 cases c1 <;> cases c2
 ·go_enter Tryz.func134,Tryz.ntmps134
  repeat' ((fail_if_success at_builtin);first|go_values|go_skip|go_guarded|go_step|go_upon|go_back)
  (refine(cnumber_any _ s).mono ?_;rintro e1 w1 ⟨rfl,hb1⟩;dsimp only)
  rw[H1.out]
  repeat' ((fail_if_success at_builtin);first|go_values|go_skip|go_guarded|go_step|go_upon|go_back)
  (refine(sfirst_any _ s).mono ?_;rintro e1 w2 ⟨rfl,hb2⟩;dsimp only)
  rw[H2.out]
  have hb:=hb1.trans (hb2.mono hb1.size)
  repeat' ((fail_if_success at_builtin);first|go_values|go_skip|go_guarded|go_step|go_upon|go_back)
  all_goals (
   refine bodyPost_ret (v := .bool (s.toList==manN||s.toList==manW)) (by first|rfl|(simp_all [results,Tryz.results134,go_sem,manN,manW])) rfl ?_
   exact⟨by rw[E3.out,E3.out];simp,hb⟩)
 all_goals (
  go_enter Tryz.func134,Tryz.ntmps134
  repeat' ((fail_if_success at_builtin);first|go_values|go_skip|go_guarded|go_step|go_upon|go_back)
  (refine(cnumber_any _ s).mono ?_;rintro e1 w1 ⟨rfl,hb1⟩;dsimp only)
  rw[H1.out]
  repeat' ((fail_if_success at_builtin);first|go_values|go_skip|go_guarded|go_step|go_upon|go_back)
  (refine(sfirst_any _ s).mono ?_;rintro e1 w2 ⟨rfl,hb2⟩;dsimp only)
  rw[H2.out]
  have hb:=hb1.trans (hb2.mono hb1.size)
  repeat' ((fail_if_success at_builtin);first|go_values|go_skip|go_guarded|go_step|go_upon|go_back)
  refine bodyPost_ret (results_tmp rfl _ _ _) rfl ?_
  exact⟨rfl,hb⟩)
def damE:List PanicEntry:=[{ v := .iface 124 (.agg #[]),recovered:=false }]
set_option maxRecDepth 20000 in
theorem asure_ok(w:World):Calls Tryz.prog 137 #[.bool true] w fun e' w'=>e' = .returned (.tuple #[])/\w=w':=by
 go_enter Tryz.func137,Tryz.ntmps137
 repeat' ((fail_if_success at_builtin);first|go_values|go_skip|go_guarded|go_step|go_upon|go_back)
 refine bodyPost_end (results_none rfl _ _ _) rfl ⟨rfl,rfl⟩
set_option maxRecDepth 20000 in
theorem asure_no(w:World):Calls Tryz.prog 137 #[.bool false] w fun e' w'=>e' = .panicked damE/\w=w':=by
 go_enter Tryz.func137,Tryz.ntmps137
 repeat' ((fail_if_success at_builtin);first|go_values|go_skip|go_guarded|go_step|go_upon|go_back)
 exact⟨rfl,rfl,rfl⟩
end Go.Proofs.YtbppnihcbcdglaaGreat
