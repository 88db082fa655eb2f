/- A range over a map whose entries are told by a list; a store at a key that is there. No condition. -/
import Derived.Maps.RangeRun
import Derived.Test.YtbppnihcbcdglaaGreatZ10
namespace Go.Proofs.YtbppnihcbcdglaaGreat
open Go.RowKit Go.MapKept
open Go.ChangeMaps (setBlock)
set_option linter.unusedVariables false
set_option linter.unusedSimpArgs false
def kvE(x:MapEntry):Value×Value:=(x.key,x.val)
def MR(w:World)(d:TypeDesc)(b r:Nat)(l todo:List (Value×Value)):Prop :=
 ∃ (es:Array MapEntry) (clock since c0:Nat) (seen:Array Nat),w.heap[b]? = some (.map es clock)/\Stamped es clock/\(∀ x∈es.toList,IsKey d x.key)/\es.toList.map kvE=l /\
  w.heap[r]? = some (.mapIter (some b) since seen c0)/\(∀ x∈es.toList,x.born<since)/\since<=c0/\since<=clock/\(Go.leftOf es seen).toList.map kvE=todo
theorem MR.mp{w:World}{d:TypeDesc}{b r:Nat}{l todo:List (Value×Value)}(h:MR w d b r l todo):MP w d b l:=by
 obtain⟨es,clock,since,c0,seen,hb,hs,hk,hl,-⟩:=h
 exact⟨es,clock,hb,hs,hk,hl⟩
theorem MR.lt{w:World}{d:TypeDesc}{b r:Nat}{l todo:List (Value×Value)}(h:MR w d b r l todo):r<w.heap.size:=by
 obtain⟨es,clock,since,c0,seen,hb,hs,hk,hl,hr,-⟩:=h
 exact blk_lt hr
theorem MR.kept{w w':World}{d:TypeDesc}{b r:Nat}{l todo:List (Value×Value)}(h:MR w d b r l todo)(hb':w'.heap[b]? = w.heap[b]?)(hr':w'.heap[r]? = w.heap[r]?):MR w' d b r l todo:=by
 obtain⟨es,clock,since,c0,seen,hb,hs,hk,hl,hr,rest⟩:=h
 exact⟨es,clock,since,c0,seen,hb'.trans hb,hs,hk,hl,hr'.trans hr,rest⟩
theorem MR.ne{w:World}{d:TypeDesc}{b r:Nat}{l todo:List (Value×Value)}(h:MR w d b r l todo){j:Nat}{c:Array Value}{t:TypeId}{f:Nat×Nat}(hj:w.heap[j]? = some (.cells c t f)):j≠r:=fun e=>by
 obtain⟨es,clock,since,c0,seen,hb,hs,hk,hl,hr,rest⟩:=h
 subst e
 rw[hr] at hj
 cases hj
variable {P:Program} {w:World}
theorem MP.range{d:TypeDesc}{b:Nat}{l:List (Value×Value)}(h:MP w d b l)(t k e:TypeId)(ht:P.underlying t=some (.map k e)) :
  ∃ o,(Instr.range t (.map (some b))).run P w = .ok (.pointer (some ⟨w.heap.size,0,none⟩)) (w.alloc o)/\MR (w.alloc o) d b w.heap.size l l:=by
 obtain⟨es,clock,hb,hs,hk,rfl⟩:=h
 refine⟨_,run_range_map w t k e b es clock ht hb,es,clock,clock,clock,#[],blk_alloc hb _,hs,hk,rfl,blk_new _ _,hs.1,Nat.le_refl _,Nat.le_refl _,?_⟩
 unfold Go.leftOf
 rw[Array.toList_filter,List.filter_eq_self.2 (fun x _=>by simp)]
 rfl
theorem left_push{es:List MapEntry}(hn:(es.map (·.born)).Nodup)(seen:Array Nat){e:MapEntry}(he:e∈es.filter fun x=>!seen.contains x.born) :
  (es.filter fun x=>!seen.contains x.born).Perm (e :: es.filter fun x=>!(seen.push e.born).contains x.born):=by
 have h1:(es.filter fun x=>!(seen.push e.born).contains x.born)=(es.filter fun x=>!seen.contains x.born).filter fun x=>x.born != e.born:=by
  rw[List.filter_filter]
  refine List.filter_congr fun x _=>?_
  simp only[Array.contains_push,Bool.not_or]
  rw[Bool.and_comm]
  rfl
 rw[h1]
 have hn2:((es.filter fun x=>!seen.contains x.born).map (·.born)).Nodup:=hn.sublist (List.filter_sublist.map _)
 generalize (es.filter fun x=>!seen.contains x.born)=L at he hn2
 clear h1 hn
 induction L with
 | nil=>cases he
 | cons x t ih =>
  rw[List.map_cons,List.nodup_cons] at hn2
  rcases List.mem_cons.1 he with rfl|he'
  ·rw[List.filter_cons_of_neg (by simp)]
   refine List.Perm.cons _ ?_
   rw[List.filter_eq_self.2]
   intro y hy
   rw[bne_iff_ne]
   exact fun e1=>hn2.1 (List.mem_map.2 ⟨y,hy,e1⟩)
  ·have hne:x.born≠e.born:=fun e1=>hn2.1 (List.mem_map.2 ⟨e,he',e1.symm⟩)
   rw[List.filter_cons_of_pos (by simpa using hne)]
   exact((ih he' hn2.2).cons x).trans (List.Perm.swap _ _ _)
theorem MR.next{d:TypeDesc}{b r:Nat}{l todo:List (Value×Value)}(h:MR w d b r l todo)(ty:TypeId) :
  (todo=[]/\(Instr.next (.pointer (some ⟨r,0,none⟩)) false ty).run P w = .ok (.tuple #[.bool false]) w) \/
  ∃ x todo' w',x∈todo/\todo.Perm (x :: todo')/\(Instr.next (.pointer (some ⟨r,0,none⟩)) false ty).run P w = .ok (.tuple #[.bool true,x.1,x.2]) w'/\MR w' d b r l todo' /\
   (Instr.entry (.pointer (some ⟨r,0,none⟩))).run P w' = .ok (.tuple #[x.1,x.2]) w'/\w'.os=w.os/\w'.tape=w.tape/\w'.output=w.output/\w'.heap.size=w.heap.size/\∀ j,j≠r->w'.heap[j]? = w.heap[j]? := by
 obtain⟨es,clock,since,c0,seen,hb,hs,hk,rfl,hr,hold,hsc,hsk,rfl⟩:=h
 rcases run_next_at (P:=P) w ty r b since c0 seen es clock hr hb hold hsc with ⟨h0,hrun⟩|⟨e,he,w1,hal,hrun⟩
 ·refine .inl ⟨?_,hrun⟩
  rw[Array.eq_empty_of_size_eq_zero h0]
  rfl
 ·right
  have hes:e∈es.toList.filter fun x=>!seen.contains x.born:=by
   unfold Go.leftOf at he
   rw[Array.toList_filter] at he
   exact he
  have hne:b≠r:=fun e1=>by rw[e1,hr] at hb;cases hb
  have hsz:w1.heap=w.heap:=by rcases hal with rfl|rfl <;> rfl
  have hos:w1.os=w.os/\w1.tape=w.tape/\w1.output=w.output:=by rcases hal with rfl|rfl <;> exact⟨rfl,rfl,rfl⟩
  have hrl:r<w1.heap.size:=by rw[hsz];exact blk_lt hr
  have hset:∀ j,j≠r->(setBlock w1 r (.mapIter (some b) since (seen.push e.born) clock)).heap[j]? = w.heap[j]? := by
   intro j hj
   show (w1.heap.setIfInBounds r _)[j]? = _
   rw[Array.getElem?_setIfInBounds_ne (fun e1=>hj e1.symm),hsz]
  have hself:(setBlock w1 r (.mapIter (some b) since (seen.push e.born) clock)).heap[r]? = some (.mapIter (some b) since (seen.push e.born) clock):=by
   show (w1.heap.setIfInBounds r _)[r]? = _
   rw[Array.getElem?_setIfInBounds_self,if_pos hrl]
  have hel:e∈es.toList:=(List.mem_filter.1 hes).1
  refine⟨kvE e,(Go.leftOf es (seen.push e.born)).toList.map kvE,_,List.mem_map.2 ⟨e,he,rfl⟩,?_,hrun,⟨es,clock,since,clock,seen.push e.born,(hset b hne).trans hb,hs,hk,rfl,hself,hold,hsk,hsk,rfl⟩,
   run_entry_at _ r b since seen es clock e hself ((hset b hne).trans hb) hel hs.2.1,hos.1,hos.2.1,hos.2.2,?_,hset⟩
  ·rw[<-List.map_cons]
   refine List.Perm.map _ ?_
   unfold Go.leftOf
   rw[Array.toList_filter,Array.toList_filter]
   exact left_push hs.2.1 seen hes
  ·show (w1.heap.setIfInBounds r _).size=_
   rw[Array.size_setIfInBounds,hsz]
theorem MP.store_there{d:TypeDesc}{b:Nat}{l:List (Value×Value)}(h:MP w d b l)(t k e:TypeId)(ht:P.underlying t=some (.map k e))(hk:P.underlying k=some d){key v:Value}(hkey:IsKey d key)(hin:∃ x∈l,x.1=key) :
  ∃ w' j y,l[j]? = some (key,y)/\(Instr.mapUpdate t (.map (some b)) key v).run P w = .ok () w'/\MP w' d b (l.set j (key,v))/\w'.os=w.os/\w'.tape=w.tape/\w'.output=w.output/\w'.heap.size=w.heap.size/\∀ j,j≠b->w'.heap[j]? = w.heap[j]? := by
 obtain⟨es,c,hb,hs,hks,rfl⟩:=h
 have h1:=fun q=>run_checkKey (P:=P) (w:=w) hk hkey q 9999
 rcases findNow_spec hkey es.toList 0 hks with ⟨g1,g2⟩|⟨j,e',g1,g2,g3⟩
 ·obtain⟨x,hx,e1⟩:=hin
  obtain⟨y,hy,rfl⟩:=List.mem_map.1 hx
  exact absurd e1 (g2 y hy)
 ·have h2:(Instr.findKey k key es.toList).run P w = .ok (some (0+j,e'.val)) w:=run_findKey hk g1
  have hj:es[j]? = some e':=by simpa using g2
  have hjl:j<es.size:=(Array.getElem?_eq_some_iff.1 hj).1
  have hkk:∀ e1,es[j]? = some e1->({ e1 with key:=key,val:=v }:MapEntry).key=e1.key:=fun e1 he1=>by rw[hj] at he1;cases he1;exact g3.symm
  have h3:=fun(W:World)=>run_keyThatStays (P:=P) (w:=W) hkey
  refine⟨{ w with heap:=w.heap.setIfInBounds b (.map (es.modify j fun e1=>{ e1 with key:=key,val:=v }) c) },j,e'.val,?_,?_,⟨_,_,(heap_set hb).1,stamped_modify hs _ _ (fun _ _=>rfl) (fun e1 _ he1=>hkk e1 he1),isKey_modify hks _ _ hkk,?_⟩,rfl,rfl,rfl,by simp,fun i hi=>(heap_set hb).2 i hi⟩
  ·rw[List.getElem?_map,g2]
   show some (e'.key,e'.val)=_
   rw[g3]
  ·simp[Instr.mapUpdate,run_underlying ht,MapKept.run_getObj_map hb,h1,h2,hj,g3,h3,MapKept.run_setObj_map _ hb,Result.andThen]
  ·refine List.ext_getElem? fun i=>?_
   rw[List.getElem?_map,Array.getElem?_toList,Array.getElem?_modify,List.getElem?_set,List.getElem?_map,Array.getElem?_toList]
   by_cases hi:j=i
   ·subst hi
    rw[if_pos rfl,if_pos rfl,if_pos (by simpa using hjl),hj]
    rfl
   ·rw[if_neg hi,if_neg hi]
theorem MR.left{w:World}{d:TypeDesc}{b r:Nat}{l todo:List (Value×Value)}(h:MR w d b r l todo):w.rangeLeft b r=todo.length:=by
 obtain⟨es,clock,since,c0,seen,hb,hs,hk,hl,hr,h1,h2,h3,rfl⟩:=h
 simp only[World.rangeLeft,hb,hr]
 rw[List.length_map]
 rfl
end Go.Proofs.YtbppnihcbcdglaaGreat
