/- slices.Index and slices.Contains at []string. No condition. -/
import Derived.Lib.Strings
import Derived.Lib.Slices
import Derived.Lib.SlicesS
import Derived.Lib.Walk
import Derived.Test.YtbppnihcbcdglaaGreatZ2
namespace Go.Proofs.YtbppnihcbcdglaaGreat
set_option maxHeartbeats 0
open Go.RowKit
theorem indexS(b off n c:Nat)(zs:List ByteArray)(x:ByteArray)(w:World)(hz:n<=zs.length)(hbig:n<=9223372036854775807)(hc:∀ j,j<zs.length->w.cell? ⟨b,off+j,none⟩=some (.string (zs.getD j ByteArray.empty))) :
  Calls Tryz.prog 208 #[.slice (some ⟨b,off,none⟩) n c,.string x] w fun e w'=>e = .returned (.int .i64 (Lib.idxOfS (zs.take n) x))/\w'=w:=by
 go_enter Tryz.func208,Tryz.ntmps208
 go_wp2
 go_loop [5,8] (fun _ i=>∃ k:Nat,k<=n/\i = .int .i64 k/\∀ j,j<k->zs.getD j ByteArray.empty≠x) (fun _ i=>n-(intOf i).toNat)
 case atStart=>exact⟨0,Nat.zero_le _,rfl,fun j hj=>absurd hj (Nat.not_lt_zero _)⟩
 case round =>
  obtain⟨k,hk,rfl,hne⟩:=hrel
  have hcell:k<n->w.cell? ⟨b,off+k,none⟩=some (.string (zs.getD k ByteArray.empty)):=fun _=>hc k (by omega)
  go_wp2
  ·have hlt:k<n:=by assumption
   have heq:(x.toList==(zs[k]?.getD ByteArray.empty).toList)=true:=by assumption
   go_ret
   refine⟨?_,rfl⟩
   rw[Lib.idxOfS_hit zs n k x hlt hz (by simp only[List.getD];exact((Lib.bytes_beq_iff _ _).1 heq).symm) hne]
   rfl
  ·have hlt:k<n:=by assumption
   have hneq:(x.toList==(zs[k]?.getD ByteArray.empty).toList)=false:=by assumption
   go_round
   case rel =>
    refine⟨k+1,by omega,by go_num,fun j hj=>?_⟩
    by_cases e:j=k
    ·subst e
     intro he
     exact(Lib.bytes_beq_false_iff _ _).1 hneq (by simpa [List.getD] using he.symm)
    ·have:=hne j (by omega)
     simpa [List.getD] using this
   case measure=>simp[intOf];omega
  ·have hge:¬ k<n:=by assumption
   have:k=n:=by omega
   subst this
   go_ret
   refine⟨?_,rfl⟩
   rw[Lib.idxOfS_miss zs k x hne]
   rfl
theorem indexS_empty(a:Option Addr)(c:Nat)(x:ByteArray)(w:World) :
  Calls Tryz.prog 208 #[.slice a 0 c,.string x] w fun e w'=>e = .returned (.int .i64 (Lib.idxOfS [] x))/\w'=w:=by
 go_enter Tryz.func208,Tryz.ntmps208
 go_wp2
 go_loop [5,8] (fun _ i=>i = .int .i64 0) (fun _ _=>0)
 case atStart=>rfl
 case round =>
  subst hrel
  go_wp2
  go_ret
  exact⟨rfl,rfl⟩
theorem containsS(b off n c:Nat)(zs:List ByteArray)(x:ByteArray)(w:World)(hz:n<=zs.length)(hbig:n<=9223372036854775807)(hc:∀ j,j<zs.length->w.cell? ⟨b,off+j,none⟩=some (.string (zs.getD j ByteArray.empty))) :
  Calls Tryz.prog 133 #[.slice (some ⟨b,off,none⟩) n c,.string x] w fun e w'=>e = .returned (.bool (Lib.containsS (zs.take n) x))/\w'=w:=by
 unfold Lib.containsS
 go_enter Tryz.func133,Tryz.ntmps133
 go_wp2_with (go_at_call 208;refine(indexS b off n c zs x _ hz hbig hc).mono ?_;rintro e w' ⟨rfl,rfl⟩)
 go_ret
 exact⟨rfl,rfl⟩
theorem containsS_empty(a:Option Addr)(c:Nat)(x:ByteArray)(w:World) :
  Calls Tryz.prog 133 #[.slice a 0 c,.string x] w fun e w'=>e = .returned (.bool false)/\w'=w:=by
 go_enter Tryz.func133,Tryz.ntmps133
 go_wp2_with (go_at_call 208;refine(indexS_empty a c x _).mono ?_;rintro e w' ⟨rfl,rfl⟩)
 go_ret
 exact⟨rfl,rfl⟩
end Go.Proofs.YtbppnihcbcdglaaGreat
