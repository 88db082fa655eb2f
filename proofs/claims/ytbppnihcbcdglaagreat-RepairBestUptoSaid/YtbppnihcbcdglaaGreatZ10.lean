/- Maps whose entries are told by a list: look-up, store of a new key. No condition. -/
import Derived.Maps.Range
import Derived.Carry
import Derived.Test.YtbppnihcbcdglaaGreatZ2
namespace Go.Proofs.YtbppnihcbcdglaaGreat
open Go.RowKit
set_option linter.unusedVariables false
set_option linter.unusedSimpArgs false
def MP(w:World)(d:TypeDesc)(b:Nat)(l:List (Value×Value)):Prop :=
 ∃ (es:Array MapEntry) (clock:Nat),w.heap[b]? = some (.map es clock)/\MapKept.Stamped es clock/\(∀ x∈es.toList,MapKept.IsKey d x.key)/\es.toList.map (fun x=>(x.key,x.val))=l
theorem MP.lt{w:World}{d:TypeDesc}{b:Nat}{l:List (Value×Value)}(h:MP w d b l):b<w.heap.size:=by
 obtain⟨es,c,h1,-⟩:=h
 exact blk_lt h1
theorem MP.at_{w w':World}{d:TypeDesc}{b:Nat}{l:List (Value×Value)}(h:MP w d b l)(hb:w'.heap[b]? = w.heap[b]?):MP w' d b l:=by
 obtain⟨es,c,h1,h2⟩:=h
 exact⟨es,c,hb.trans h1,h2⟩
theorem MP.below{w w':World}{d:TypeDesc}{b:Nat}{l:List (Value×Value)}(h:MP w d b l)(hb:Below w.heap.size w w'):MP w' d b l:=h.at_ (hb.block b h.lt)
theorem MP.ne{w:World}{d:TypeDesc}{b:Nat}{l:List (Value×Value)}(h:MP w d b l){j:Nat}{c:Array Value}{t:TypeId}{f:Nat×Nat}(hj:w.heap[j]? = some (.cells c t f)):j≠b:=fun e=>by
 obtain⟨es,c',h1,-⟩:=h
 subst e
 rw[h1] at hj
 cases hj
variable {P:Program} {w:World}
theorem MP.lookup_has{d:TypeDesc}{b:Nat}{l:List (Value×Value)}(h:MP w d b l)(t k e:TypeId)(ht:P.underlying t=some (.map k e))(hk:P.underlying k=some d){key v:Value}(hkey:MapKept.IsKey d key)(hv:(key,v)∈l)(huniq:∀ x∈l,x.1=key->x.2=v)(ok:Bool) :
  (Instr.lookup t (.map (some b)) key ok).run P w = .ok (if ok then .tuple #[v,.bool true] else v) w:=by
 obtain⟨es,c,hb,hs,hks,rfl⟩:=h
 have h1:=fun q=>MapKept.run_checkKey (P:=P) (w:=w) hk hkey q 9999
 rcases MapKept.findNow_spec hkey es.toList 0 hks with ⟨g1,g2⟩|⟨j,e',g1,g2,g3⟩
 ·obtain⟨x,hx,e1⟩:=List.mem_map.1 hv
  exact absurd (congrArg Prod.fst e1) (g2 x hx)
 ·have h2:(Instr.findKey k key es.toList).run P w = .ok (some (0+j,e'.val)) w:=MapKept.run_findKey hk g1
  have e2:e'.val=v:=huniq (e'.key,e'.val) (List.mem_map.2 ⟨e',List.mem_of_getElem? g2,rfl⟩) g3
  subst e2
  simp[Instr.lookup,run_underlying ht,MapKept.run_getObj_map hb,h1,h2,Result.andThen]
theorem MP.lookup_no{d:TypeDesc}{b:Nat}{l:List (Value×Value)}(h:MP w d b l)(t k e:TypeId)(ht:P.underlying t=some (.map k e))(hk:P.underlying k=some d){key z:Value}(hkey:MapKept.IsKey d key)(hno:∀ x∈l,x.1≠key)(hz:(zeroValue e).run P w = .ok z w)(ok:Bool) :
  (Instr.lookup t (.map (some b)) key ok).run P w = .ok (if ok then .tuple #[z,.bool false] else z) w:=by
 obtain⟨es,c,hb,hs,hks,rfl⟩:=h
 have h1:=fun q=>MapKept.run_checkKey (P:=P) (w:=w) hk hkey q 9999
 rcases MapKept.findNow_spec hkey es.toList 0 hks with ⟨g1,g2⟩|⟨j,e',g1,g2,g3⟩
 ·have h2:(Instr.findKey k key es.toList).run P w = .ok none w:=MapKept.run_findKey hk g1
  simp[Instr.lookup,run_underlying ht,MapKept.run_getObj_map hb,h1,h2,hz,Result.andThen]
 ·exact absurd g3 (hno (e'.key,e'.val) (List.mem_map.2 ⟨e',List.mem_of_getElem? g2,rfl⟩))
theorem MP.store_new{d:TypeDesc}{b:Nat}{l:List (Value×Value)}(h:MP w d b l)(t k e:TypeId)(ht:P.underlying t=some (.map k e))(hk:P.underlying k=some d){key v:Value}(hkey:MapKept.IsKey d key)(hno:∀ x∈l,x.1≠key) :
  ∃ w',(Instr.mapUpdate t (.map (some b)) key v).run P w = .ok () w'/\MP w' d b (l++[(key,v)])/\w'.os=w.os/\w'.tape=w.tape/\w'.output=w.output/\w'.heap.size=w.heap.size/\∀ j,j≠b->w'.heap[j]? = w.heap[j]? := by
 obtain⟨es,c,hb,hs,hks,rfl⟩:=h
 have h1:=fun q=>MapKept.run_checkKey (P:=P) (w:=w) hk hkey q 9999
 rcases MapKept.findNow_spec hkey es.toList 0 hks with ⟨g1,g2⟩|⟨j,e',g1,g2,g3⟩
 ·have h2:(Instr.findKey k key es.toList).run P w = .ok none w:=MapKept.run_findKey hk g1
  refine⟨{ w with heap:=w.heap.setIfInBounds b (.map (es.push { key,val:=v,born:=c }) (c+1)) },?_,⟨_,_,(MapKept.heap_set hb).1,MapKept.stamped_push hs g2,?_,by simp⟩,rfl,rfl,rfl,by simp,fun j hj=>(MapKept.heap_set hb).2 j hj⟩
  ·simp[Instr.mapUpdate,run_underlying ht,MapKept.run_getObj_map hb,h1,h2,MapKept.run_setObj_map _ hb,Result.andThen]
  ·intro x hx
   simp only[Array.toList_push,List.mem_append,List.mem_singleton] at hx
   rcases hx with hx|rfl
   ·exact hks x hx
   ·exact hkey
 ·exact absurd g3 (hno (e'.key,e'.val) (List.mem_map.2 ⟨e',List.mem_of_getElem? g2,rfl⟩))
end Go.Proofs.YtbppnihcbcdglaaGreat
