/- audit: the names that are not needed. No condition. -/
import Derived.Ground.Names2Prog
import Derived.Shelf.Sort.Plain
import Derived.Shelf.Slices.In.SortNone
import Derived.Shelf.SlIter.Sorted
import Derived.Shelf.SlIter.Keys
import Derived.Ground.GgzProg
import Derived.Test.YtbppnihcbcdglaaGreatZ2
import Derived.Test.YtbppnihcbcdglaaGreatZ10
import Derived.Test.YtbppnihcbcdglaaGreatZ12
import Derived.Test.YtbppnihcbcdglaaGreatZ24
import Derived.Test.YtbppnihcbcdglaaGreatZ25
namespace Go.Proofs.YtbppnihcbcdglaaGreat
open Go.RowKit Go.Shelf
open Go.Sort
theorem sortInts_any(blk off cap:Nat)(zs:List Int)(w:World)(hH:Holds (Value.int .i64) w blk off zs.toArray)(hblk:blk<w.heap.size)(hsz:zs.length<4611686018427387904) :
  Calls Tryz.prog 67 #[.slice (some ⟨blk,off,none⟩) zs.length cap] w fun e w'=>e = .returned (.tuple #[])/\∃ n os,w'=grow (putRow (Value.int .i64) (Sort.ahead w n) blk off (zs.mergeSort fun x y=>decide (x<=y)).toArray) os:=Any.slices_Sort_int Tryz.lays189 blk off cap zs w hH hblk hsz
theorem sortInts_none(p:Option Addr)(cap:Nat)(w:World):Calls Tryz.prog 67 #[.slice p 0 cap] w fun e w'=>e = .returned (.tuple #[])/\w'=w:=Any.slices_Sort_int_none Tryz.lays189 p cap w
theorem sortStrings_any(blk off cap:Nat)(ss:List (List UInt8))(w:World)(hH:Holds encStr w blk off ss.toArray)(hblk:blk<w.heap.size)(hsz:ss.length<4611686018427387904) :
  Calls Tryz.prog 82 #[.slice (some ⟨blk,off,none⟩) ss.length cap] w fun e w'=>e = .returned (.tuple #[])/\∃ n os,w'=grow (putRow encStr (Sort.ahead w n) blk off (ss.mergeSort fun x y=>decide (x<=y)).toArray) os:=Any.slices_Sort_string Tryz.lays190 blk off cap ss w hH hblk hsz
theorem sortStrings_none(p:Option Addr)(cap:Nat)(w:World):Calls Tryz.prog 82 #[.slice p 0 cap] w fun e w'=>e = .returned (.tuple #[])/\w'=w:=Any.slices_Sort_string_none Tryz.lays190 p cap w
end Go.Proofs.YtbppnihcbcdglaaGreat
namespace Go.Proofs.YtbppnihcbcdglaaGreat
open Go.RowKit Go.Shelf Go.Sort
open Go.MapKept Go.WideElems
theorem insert_perm{H:Type}(x:Lit×DataW H):∀ l:List (Lit×DataW H),(DataW.insert x l).Perm (x :: l)
 | []=>List.Perm.refl _
 | y :: r=>by
  unfold DataW.insert
  split
  ·exact List.Perm.refl _
  ·exact((insert_perm x r).cons y).trans (List.Perm.swap x y r)
theorem fold_perm{H:Type}:∀ l:List (Lit×DataW H),(l.foldr DataW.insert []).Perm l
 | []=>List.Perm.refl _
 | x :: r=>(insert_perm x _).trans ((fold_perm r).cons x)
theorem sorts_wide(m:Nat):AnyZ.SortsIn Tryz.prog Tryz.sortedA_ren Fence.wide m :=
 ⟨fun blk off cap ss W hH hblk hsz=>callsIn_wide.2 (sortStrings_any blk off cap ss W hH hblk hsz),fun p cap W=>callsIn_wide.2 (sortStrings_none p cap W)⟩
def R0(H:Type):Value->Option (DataW H×List MemPlace):=fun _=>some (.nil,[])
theorem key_str{k:TypeId}(hk:Tryz.prog.underlying k=some .string)(s:ByteArray)(hs:s.size<=maxLen):keyOf Tryz.prog k (.string s)=some (.string s.data.toList):=by
 rw[keyOf_string hk]
 simp[mapKey,hk,hs]
theorem und_str:Tryz.prog.underlying 9=some .string:=by kernel_rfl
set_option maxRecDepth 20000 in
theorem MP.owns{w:World}{b:Nat}{l:List (Value×Value)}(h:MP w .string b l)(ks:List Bs)(hk:l.map Prod.fst=ks.map fun s => .string ⟨s.toArray⟩)(hs:∀ s∈ks,s.length<=maxLen)(hl:l.length<=maxLen) :
  ∃ D0:DataW Unit,w.ownsMap Tryz.prog 9 (R0 Unit) b l.length D0/\(strKeys D0).Perm ks/\Maps.size D0=l.length:=by
 obtain⟨es,clock,hb,hst,hks,rfl⟩:=h
 simp only[List.map_map] at hk
 have hkey:∀ x∈es.toList,∃ s∈ks,x.key = .string ⟨s.toArray⟩:=fun x hx=>by
  have:x.key∈es.toList.map (Prod.fst ∘ fun x=>(x.key,x.val)):=List.mem_map.2 ⟨x,hx,rfl⟩
  rw[hk,List.mem_map] at this
  obtain⟨s,h1,h2⟩:=this
  exact⟨s,h1,h2.symm⟩
 have hrd:∀ x∈es.toList,∀ s∈ks,x.key = .string ⟨s.toArray⟩->WideElems.rd (H:=Unit) Tryz.prog 9 (R0 Unit) x=some (.string s,.nil):=fun x hx s hs' e=>by
  unfold WideElems.rd
  rw[e,key_str und_str ⟨s.toArray⟩ (by have:=hs s hs';simpa [ByteArray.size] using this)]
  rfl
 refine⟨_,⟨es,clock,hb,⟨by simpa using hl,hst,fun x hx=>?_⟩,by simp,rfl⟩,?_,?_⟩
 ·obtain⟨s,h1,h2⟩:=hkey x hx
  exact⟨_,hrd x hx s h1 h2⟩
 ·refine((fold_perm _).map _).trans ?_
  rw[List.map_map]
  suffices h:∀ (L:List MapEntry) (K:List Bs),(∀ x∈L,x∈es.toList)->(∀ s∈K,s∈ks)->L.map (Prod.fst ∘ fun x=>(x.key,x.val))=K.map (fun s=>Value.string ⟨s.toArray⟩)->L.map ((fun p=>strOf p.1) ∘ WideElems.rg (H:=Unit) Tryz.prog 9 (R0 Unit))=K by
   exact List.Perm.of_eq (h es.toList ks (fun _ h=>h) (fun _ h=>h) hk)
  intro L
  induction L with
  | nil=>intro K _ _ e;cases K with
   | nil=>rfl
   | cons _ _=>cases e
  | cons x L ih =>
   intro K h1 h2 e
   cases K with
   | nil=>cases e
   | cons s K =>
    simp only[List.map_cons,List.cons.injEq] at e ⊢
    refine⟨?_,ih K (fun y hy=>h1 y (.tail _ hy)) (fun y hy=>h2 y (.tail _ hy)) e.2⟩
    show strOf (WideElems.rg (H:=Unit) Tryz.prog 9 (R0 Unit) x).1=s
    rw[WideElems.rg_of (hrd x (h1 x (.head _)) s (h2 s (.head _)) e.1)]
    rfl
 ·simp[Maps.size,(fold_perm _).length_eq]
end Go.Proofs.YtbppnihcbcdglaaGreat
namespace Go.Proofs.YtbppnihcbcdglaaGreat
open Go.RowKit Go.Shelf Go.Sort
set_option linter.unusedVariables false
theorem mapKeys_any(w:World)(mb:Option Nat):Calls Tryz.prog 84 #[.map mb] w fun e w'=>e = .returned (.func (.func 154) #[] #[.pointer (some ⟨w.heap.size,0,none⟩)])/\w'=w.alloc (.cells #[.map mb] 118) :=
 (callsIn_wide (n:=6)).1 (AnyZ.keys_in Tryz.keysA Fence.wide 6 trivial rfl mb w)
set_option maxRecDepth 20000 in
theorem sortedKeys_any(w:World)(Bm b:Nat)(l:List (Value×Value))(ks:List Bs)(hbox:w.cell? ⟨Bm,0,none⟩=some (.map (some b)))(hlt:Bm<w.heap.size)(h:MP w .string b l)(hk:l.map Prod.fst=ks.map fun s => .string ⟨s.toArray⟩)(hs:∀ s∈ks,s.length<=maxLen)(hl:l.length<=1000000) :
  Calls Tryz.prog 83 #[.func (.func 154) #[] #[.pointer (some ⟨Bm,0,none⟩)]] w fun e w'=>∃ v,e = .returned v /\
   w'.ownsRow w.heap.size 9 1 v ks.length ((ks.mergeSort (fun x y=>decide (x<=y))).map encStr)/\Below w.heap.size w w':=by
 obtain⟨D0,hown,hperm,hsz⟩:=h.owns ks hk hs (by unfold maxLen;omega)
 have hseq:SeqGives Fence.wide 3 Tryz.prog 154 #[.pointer (some ⟨Bm,0,none⟩)] encStr (fun ss=>ss.Perm (strKeys D0)) (Maps.size D0) w :=
  AnyZ.keys_gives (ρ:=Tryz.keysA_ren) { Tryz.keysA with } Fence.wide _ trivial rfl (by omega) Bm b _ _ w hlt hbox hown
 refine((callsIn_wide (n:=6)).1 (AnyZ.sorted_in Tryz.sortedA Fence.wide 6 trivial trivial trivial trivial rfl (by omega) (sorts_wide _) (enters_of Tryz.func82 (by kernel_rfl) rfl) _ _ trivial (enters_of Tryz.func154 (by kernel_rfl) rfl) _ _ (by rw[hsz];unfold maxLen;omega) (by rw[hsz];omega) w hseq)).mono ?_
 rintro e w' ⟨v,ss,rfl,hS,hrow,-,hb⟩
 have hp:=hS.trans hperm
 refine⟨v,rfl,?_,hb⟩
 rw[<-hp.length_eq,<-mergeSort_of_perm hp]
 exact hrow
end Go.Proofs.YtbppnihcbcdglaaGreat
namespace Go.Proofs.YtbppnihcbcdglaaGreat
open Go.RowKit
set_option linter.unusedSimpArgs false
def LRc(mb:Nat)(e o1 o2 o3 o4:Int)(s:AS)(fv gv nv lv ov sv:Value):Array Value:=#[.map (some mb),fv,.int .i64 e,.int .i64 o1,.int .i64 o2,.int .i64 o3,.int .i64 o4,.bool s.has,.int .i64 s.man.number,.int .i64 s.man.file,.int .i64 s.man.mark,.int .i64 s.man.prev,.int .i64 s.man.pmark,gv,nv,lv,ov,sv,.int .i64 s.torn,.int .i64 s.base,.int .i64 s.last]
def Apart(a b:Value):Prop:=∀ g,a.ownBlock=some g->b.ownBlock≠some g
theorem Apart.symm{a b:Value}(h:Apart a b):Apart b a:=fun g hb ha=>h g ha hb
theorem Apart.nil(a:Value):Apart a (.slice none 0 0):=fun g _ h=>by simp[Value.ownBlock] at h
structure AR (w:World) (n0 L mb:Nat) (fs:Fs) (e o1 o2 o3 o4:Int) (s:AS) (fv gv nv lv ov sv v:Value) (left others names:List Bs):Prop where
 hl:w.heap[L]? = some (.cells (LRc mb e o1 o2 o3 o4 s fv gv nv lv ov sv) 120 (0,0))
 no:w.ownsRow n0 9 1 nv s.needed.length (s.needed.map encS)
 so:w.ownsRow n0 61 2 sv s.segs.length (s.segs.flatMap segRow)
 lo:w.ownsRow n0 9 1 lv left.length (left.map encS)
 oo:w.ownsRow n0 9 1 ov others.length (others.map encS)
 vo:w.ownsRow n0 9 1 v names.length (names.map encS)
 nl:n0<=L
 dnl:Apart nv lv
 dno:Apart nv ov
 dlo:Apart lv ov
 dvl:Apart v lv
 dvo:Apart v ov
 bx:w.heap[L+1]? = some (.cells #[.pointer (some ⟨L,0,none⟩)] 117 (0,0))
theorem own_hk_at{w w':World}{n0 size n:Nat}{t:TypeId}{v:Value}{xs:List Value}(ho:w.ownsRow n0 t size v n xs)(hk:∀ (k:Nat) (c:Array Value),v.ownBlock=some k->w.heap[k]? = some (.cells c t (0,0))->w'.heap[k]? = some (.cells c t (0,0))):w'.ownsRow n0 t size v n xs:=by
 obtain⟨h1,h2⟩:=ho
 refine⟨h1,?_⟩
 rcases h2 with h2|⟨g,cap,cur,rfl,hg,hh,r⟩
 ·exact .inl h2
 ·exact .inr ⟨g,cap,cur,rfl,hg,hk g cur (by simp[Value.ownBlock]) hh,r⟩
theorem own_blk_lt{w:World}{n0 size n g:Nat}{t:TypeId}{v:Value}{xs:List Value}(ho:w.ownsRow n0 t size v n xs)(h:v.ownBlock=some g):g<w.heap.size:=by
 rcases ho.2 with ⟨rfl,_⟩|⟨g',cap,cur,rfl,hg,hh,r⟩
 ·simp[Value.ownBlock] at h
 ·have:g'=g:=by simpa [Value.ownBlock] using h
  subst this
  exact blk_lt hh
section
variable {w w':World} {n0 L mb gg cap:Nat} {fs:Fs} {e o1 o2 o3 o4:Int} {s:AS} {fv gv nv lv ov sv v:Value} {left others names:List Bs}
theorem AR.pure(h:AR w n0 L mb fs e o1 o2 o3 o4 s fv gv nv lv ov sv v left others names)(hb:Below w.heap.size w w'):AR w' n0 L mb fs e o1 o2 o3 o4 s fv gv nv lv ov sv v left others names :=
 ⟨blk_below hb h.hl (blk_lt h.hl),own_below h.no hb,own_below h.so hb,own_below h.lo hb,own_below h.oo hb,own_below h.vo hb,h.nl,h.dnl,h.dno,h.dlo,h.dvl,h.dvo,blk_below hb h.bx (blk_lt h.bx)⟩
theorem AR.size(h:AR w n0 L mb fs e o1 o2 o3 o4 s fv gv nv lv ov sv v left others names):n0<=w.heap.size:=by
 have:=h.nl
 have:=blk_lt h.hl
 omega
theorem AR.appO(h:AR w n0 L mb fs e o1 o2 o3 o4 s fv gv nv lv ov sv v left others names)(o:Obj)(hg:(w.alloc o).grownBy w' ov.ownBlock)(hat:ov.ownBlock=some gg\/gg=w.heap.size+1)(nm:Bs)
  (ho:w'.ownsRow n0 9 1 (.slice (some ⟨gg,0,none⟩) (others.length+1) cap) (others.length+1) (others.map encS++[encS nm])) :
  w'.cell? ⟨L,16,none⟩=some ov/\w'.frozen? ⟨L,16,none⟩=false/\AR (w'.setCell ⟨L,16,none⟩ (.slice (some ⟨gg,0,none⟩) (others.length+1) cap)) n0 L mb fs e o1 o2 o3 o4 s fv gv nv lv (.slice (some ⟨gg,0,none⟩) (others.length+1) cap) sv v left (others++[nm]) names /\
   Below n0 w (w'.setCell ⟨L,16,none⟩ (.slice (some ⟨gg,0,none⟩) (others.length+1) cap)):=by
 have hkn:∀ {k:Nat} {ob:Obj},w.heap[k]? = some ob->ov.ownBlock≠some k->w'.heap[k]? = some ob:=fun{k ob} hb hne=>blk_grown hg (blk_alloc hb o) hne
 have p1:=hkn h.hl (own_ne h.oo h.hl (by decide))
 have hb':Below n0 w w':=((Below.refl _ w).alloc h.size o).grown hg (by have:=h.size;simp;omega) (fun k e=>own_ge h.oo e)
 have hk2:Kb L w' (w'.setCell ⟨L,16,none⟩ (.slice (some ⟨gg,0,none⟩) (others.length+1) cap)):=Kb.set
 have hap:∀ {x:Value} {n1 size:Nat} {t:TypeId} {xs:List Value},w.ownsRow n0 t size x n1 xs->Apart x ov->Apart x (.slice (some ⟨gg,0,none⟩) (others.length+1) cap):=fun{x n1 size t xs} hx ha g h1 h2=>by
  have:gg=g:=by simpa [Value.ownBlock] using h2
  subst this
  rcases hat with h3|h3
  ·exact ha _ h1 h3
  ·have:=own_blk_lt hx h1
   omega
 refine⟨blk_cell p1 16,blk_free p1 16,⟨(blk_set p1 16 _).trans rfl,own_kb (own_hk_at h.no fun k c hk hb=>hkn hb (h.dno k hk)) hk2 p1 (by decide),own_kb (own_hk h.so fun k c f hb=>hkn hb (own_ne h.oo hb (by decide))) hk2 p1 (by decide),own_kb (own_hk_at h.lo fun k c hk hb=>hkn hb (h.dlo k hk)) hk2 p1 (by decide),?_,own_kb (own_hk_at h.vo fun k c hk hb=>hkn hb (h.dvo k hk)) hk2 p1 (by decide),h.nl,h.dnl,hap h.no h.dno,hap h.lo h.dlo,h.dvl,hap h.vo h.dvo,blk_set_other (hkn h.bx (own_ne h.oo h.bx (by decide))) (by omega) _ _⟩,hb'.setCell (p:=⟨L,16,none⟩) h.nl _⟩
 have:=own_kb ho hk2 p1 (by decide)
 simpa using this
theorem AR.appL(h:AR w n0 L mb fs e o1 o2 o3 o4 s fv gv nv lv ov sv v left others names)(o:Obj)(hg:(w.alloc o).grownBy w' lv.ownBlock)(hat:lv.ownBlock=some gg\/gg=w.heap.size+1)(nm:Bs)
  (ho:w'.ownsRow n0 9 1 (.slice (some ⟨gg,0,none⟩) (left.length+1) cap) (left.length+1) (left.map encS++[encS nm])) :
  w'.cell? ⟨L,15,none⟩=some lv/\w'.frozen? ⟨L,15,none⟩=false/\AR (w'.setCell ⟨L,15,none⟩ (.slice (some ⟨gg,0,none⟩) (left.length+1) cap)) n0 L mb fs e o1 o2 o3 o4 s fv gv nv (.slice (some ⟨gg,0,none⟩) (left.length+1) cap) ov sv v (left++[nm]) others names /\
   Below n0 w (w'.setCell ⟨L,15,none⟩ (.slice (some ⟨gg,0,none⟩) (left.length+1) cap)):=by
 have hkn:∀ {k:Nat} {ob:Obj},w.heap[k]? = some ob->lv.ownBlock≠some k->w'.heap[k]? = some ob:=fun{k ob} hb hne=>blk_grown hg (blk_alloc hb o) hne
 have p1:=hkn h.hl (own_ne h.lo h.hl (by decide))
 have hb':Below n0 w w':=((Below.refl _ w).alloc h.size o).grown hg (by have:=h.size;simp;omega) (fun k e=>own_ge h.lo e)
 have hk2:Kb L w' (w'.setCell ⟨L,15,none⟩ (.slice (some ⟨gg,0,none⟩) (left.length+1) cap)):=Kb.set
 have hap:∀ {x:Value} {n1 size:Nat} {t:TypeId} {xs:List Value},w.ownsRow n0 t size x n1 xs->Apart x lv->Apart x (.slice (some ⟨gg,0,none⟩) (left.length+1) cap):=fun{x n1 size t xs} hx ha g h1 h2=>by
  have:gg=g:=by simpa [Value.ownBlock] using h2
  subst this
  rcases hat with h3|h3
  ·exact ha _ h1 h3
  ·have:=own_blk_lt hx h1
   omega
 refine⟨blk_cell p1 15,blk_free p1 15,⟨(blk_set p1 15 _).trans rfl,own_kb (own_hk_at h.no fun k c hk hb=>hkn hb (h.dnl k hk)) hk2 p1 (by decide),own_kb (own_hk h.so fun k c f hb=>hkn hb (own_ne h.lo hb (by decide))) hk2 p1 (by decide),?_,own_kb (own_hk_at h.oo fun k c hk hb=>hkn hb (h.dlo.symm k hk)) hk2 p1 (by decide),own_kb (own_hk_at h.vo fun k c hk hb=>hkn hb (h.dvl k hk)) hk2 p1 (by decide),h.nl,hap h.no h.dnl,h.dno,(hap h.oo h.dlo.symm).symm,hap h.vo h.dvl,h.dvo,blk_set_other (hkn h.bx (own_ne h.lo h.bx (by decide))) (by omega) _ _⟩,hb'.setCell (p:=⟨L,15,none⟩) h.nl _⟩
 have:=own_kb ho hk2 p1 (by decide)
 simpa using this
end
theorem own_lower{w:World}{n0 n1 size n:Nat}{t:TypeId}{v:Value}{xs:List Value}(h:w.ownsRow n0 t size v n xs)(hn:n1<=n0):w.ownsRow n1 t size v n xs:=by
 obtain⟨h1,h2⟩:=h
 refine⟨h1,?_⟩
 rcases h2 with h2|⟨g,cap,cur,rfl,hg,r⟩
 ·exact .inl h2
 ·exact .inr ⟨g,cap,cur,rfl,by omega,r⟩
theorem own_cell2{w:World}{n0 size n g cap:Nat}{t:TypeId}{xs:List Value}(h:w.ownsRow n0 t size (.slice (some ⟨g,0,none⟩) n cap) n xs)(i:Nat)(u:Value)(hu:xs[i]? = some u):w.cell? ⟨g,i,none⟩=some u:=by
 rcases h.2 with ⟨e,_⟩|⟨g',cap',cur,e,hg,hh,hn,hm,hs,ht⟩
 ·cases e
 ·cases e
  refine(blk_cell hh i).trans ?_
  rw[<-ht,List.getElem?_take] at hu
  split at hu
  ·simpa using hu
  ·cases hu
theorem acontains_any(w:World){n0:Nat}{nv:Value}(l:List Bs)(nm:Bs)(h:w.ownsRow n0 9 1 nv l.length (l.map encS))(hl:l.length<=1000000) :
  Calls Tryz.prog 133 #[nv,.string ⟨nm.toArray⟩] w fun e w'=>e = .returned (.bool (l.contains nm))/\w=w':=by
 by_cases h0:0<l.length
 ·obtain⟨g,cap,rfl,hc,-⟩:=own_shape h h0
  refine(containsS g 0 l.length cap (l.map fun s=>(⟨s.toArray⟩:ByteArray)) ⟨nm.toArray⟩ w (by simp) (by omega) ?_).mono ?_
  ·intro j hj
   rw[List.length_map] at hj
   rw[Nat.zero_add]
   exact own_cell2 h j _ (by simp[List.getElem?_map,List.getD_eq_getElem?_getD,List.getElem?_eq_getElem hj,encS])
  ·rintro e w' ⟨rfl,rfl⟩
   refine⟨?_,rfl⟩
   congr 2
   have hm:(l.map fun s=>(⟨s.toArray⟩:ByteArray)).take l.length=l.map fun s=>(⟨s.toArray⟩:ByteArray):=List.take_of_length_le (by simp)
   rw[hm,Bool.eq_iff_iff,Lib.containsS_iff,List.contains_iff_mem,List.mem_map]
   constructor
   ·rintro⟨s,hs,e⟩
    have:s=nm:=encS_inj (congrArg Value.string e)
    rw[<-this];exact hs
   ·intro h;exact⟨nm,h,rfl⟩
 ·obtain rfl:l=[]:=List.length_eq_zero_iff.1 (by omega)
  obtain⟨a,c,rfl,-,-,-,-⟩:=own_rowT h
  refine(containsS_empty a c ⟨nm.toArray⟩ w).mono ?_
  rintro e w' ⟨rfl,rfl⟩
  exact⟨rfl,rfl⟩
theorem left_snoc(need l:List Bs)(n:Bs):leftOf need (l++[n])=if !need.contains n&&ownB n then leftOf need l++[n] else leftOf need l:=by
 unfold leftOf
 rw[List.filter_append,List.filter_cons,List.filter_nil]
 split <;> simp
theorem others_snoc(need l:List Bs)(n:Bs):othersOf need (l++[n])=if !need.contains n && !ownB n then othersOf need l++[n] else othersOf need l:=by
 unfold othersOf
 rw[List.filter_append,List.filter_cons,List.filter_nil]
 split <;> simp
set_option maxRecDepth 20000 in
set_option maxHeartbeats 4000000 in
theorem asorts_any(w:World){n0 L mb:Nat}{fs:Fs}{e o1 o2 o3 o4:Int}{s:AS}{fv gv nv sv:Value}(H:AR w n0 L mb fs e o1 o2 o3 o4 s fv gv nv (.slice none 0 0) (.slice none 0 0) sv (.slice none 0 0) [] [] [])(hfm:FM w mb fs)(hlen:fs.length<=1000000)(hnm:∀ x∈fs,x.1.length<=1000000)(hneed:s.needed.length<=1000000) :
  Calls Tryz.prog 69 #[.pointer (some ⟨L,0,none⟩)] w fun e' w'=>e' = .returned (.tuple #[])/\(∃ lv ov v,AR w' n0 L mb fs e o1 o2 o3 o4 s fv gv nv lv ov sv v (leftOf s.needed (sortN fs)) (othersOf s.needed (sortN fs)) (sortN fs))/\Below n0 w w':=by
 have HX:=Lib.hid H
 have HL:=Lib.hid hlen
 have HND:=Lib.hid hneed
 obtain⟨names,hnames⟩:∃ names,sortN fs=names:=⟨_,rfl⟩
 rw[hnames]
 have HNA:=Lib.hid hnames
 clear hnames
 obtain⟨ms,hms,hmp,hml⟩:=hfm
 have l0:w.cell? ⟨L,0,none⟩=some (.map (some mb)):=blk_cell H.hl 0
 have hbm:Below w.heap.size w (w.alloc (.cells #[.map (some mb)] 118)):=(Below.refl _ w).alloc (Nat.le_refl _) _
 have hmp1:=hmp.below hbm
 have hbx:(w.alloc (.cells #[.map (some mb)] 118)).cell? ⟨w.heap.size,0,none⟩=some (.map (some mb)):=(blk1 (blk_new w (.cells #[.map (some mb)] 118))).1
 have HX1:=Lib.hid (H.pure hbm)
 have HB1:=Lib.hid (hbm.mono H.size)
 have hsk:∀ s'∈fs.map Prod.fst,s'.length<=maxLen:=fun s' hs=>by
  obtain⟨x,hx,rfl⟩:=List.mem_map.1 hs
  have:=hnm x hx
  unfold maxLen
  omega
 have hks:(ms.map FBm.ent).map Prod.fst=(fs.map Prod.fst).map fun s=>Value.string ⟨s.toArray⟩:=by
  rw[<-hms,List.map_map,List.map_map,List.map_map]
  rfl
 have HSK:=Lib.hid (sortedKeys_any (w.alloc (.cells #[.map (some mb)] 118)) w.heap.size mb _ (fs.map Prod.fst) hbx (by simp) hmp1 hks hsk (by rw[List.length_map,show ms.length=fs.length by rw[<-hms,List.length_map]];exact hlen))
 clear H hlen hneed hmp hml hmp1 hbx hbm hks hsk hms hnm
 go_enter Tryz.func69,Tryz.ntmps69
 repeat' ((fail_if_success at_builtin);first|go_values|go_skip|go_guarded|go_step|go_upon|go_back)
 (refine(mapKeys_any w (some mb)).mono ?_;rintro e1 w1 ⟨rfl,rfl⟩;dsimp only)
 repeat' ((fail_if_success at_builtin);first|go_values|go_skip|go_guarded|go_step|go_upon|go_back)
 refine HSK.out.mono ?_
 rintro e1 w2 ⟨v,rfl,hvo,hb2⟩
 have hvo2:w2.ownsRow n0 9 1 v names.length (names.map encS):=by
  have:=own_lower hvo (n1:=n0) (by have:=HX1.out.size;exact this)
  rw[show (fs.map Prod.fst).length=(sortN fs).length from (List.mergeSort_perm _ _).length_eq.symm,HNA.out] at this
  rw[<-HNA.out] at this ⊢
  exact this
 have hx2:=HX1.out.pure hb2
 have HX2:Hid (AR w2 n0 L mb fs e o1 o2 o3 o4 s fv gv nv (.slice none 0 0) (.slice none 0 0) sv v [] [] names):=Lib.hid ⟨hx2.hl,hx2.no,hx2.so,hx2.lo,hx2.oo,hvo2,hx2.nl,hx2.dnl,hx2.dno,hx2.dlo,Apart.nil _,Apart.nil _,hx2.bx⟩
 have HB2:=Lib.hid (HB1.out.trans (hb2.mono HX1.out.size))
 have HNL:Hid (names.length<=1000000):=Lib.hid (by rw[<-HNA.out,show (sortN fs).length=(fs.map Prod.fst).length from (List.mergeSort_perm _ _).length_eq,List.length_map];exact HL.out)
 obtain⟨va,vc,rfl,-,-,-,-⟩:=own_rowT hvo2
 clear HSK hvo hvo2 hx2 hb2 HX1 HB1 l0
 dsimp only
 repeat' ((fail_if_success at_builtin);first|go_values|go_skip|go_guarded|go_step|go_upon|go_back)
 go_loopw [11] (fun c wr=>∃ (j:Nat) (lv ov:Value),c = .int .i64 j/\j<=names.length/\AR wr n0 L mb fs e o1 o2 o3 o4 s fv gv nv lv ov sv (.slice va names.length vc) (leftOf s.needed (names.take j)) (othersOf s.needed (names.take j)) names/\Below n0 w wr) (fun c _=>names.length-(intOf c).toNat)
 case atStart=>exact⟨0,_,_,rfl,Nat.zero_le _,HX2.out,HB2.out⟩
 case round =>
  clear HX2 HB2
  obtain⟨j,lv,ov,rfl,hj,hxj,hbj⟩:=hrel
  have HXJ:=Lib.hid hxj
  have HBJ:=Lib.hid hbj
  have hnl':(names.length:Int)<=1000000:=by have:=HNL.out;omega
  by_cases hlt:j<names.length
  ·have hlt':(j:Int)<(names.length:Int):=by omega
   have HLT:=Lib.hid hlt
   obtain⟨nm,hnm⟩:∃ nm,names.getD j []=nm:=⟨_,rfl⟩
   have hget:names[j]? = some nm:=by rw[<-hnm,List.getD_eq_getElem?_getD,List.getElem?_eq_getElem hlt];rfl
   obtain⟨vg,vcap,hv,-,-⟩:=own_shape hxj.vo (by omega)
   cases hv
   have vj:wr.cell? ⟨vg,j,none⟩=some (.string ⟨nm.toArray⟩):=own_cell2 hxj.vo j (encS nm) (by simp[hget])
   have l14:wr.cell? ⟨L,14,none⟩=some nv:=blk_cell hxj.hl 14
   have HTK:Hid (names.take (j+1)=names.take j++[nm]):=Lib.hid (by rw[List.take_add_one,hget];rfl)
   have HLL:Hid ((leftOf s.needed (names.take j)).length<=1000000):=Lib.hid (Nat.le_trans (List.length_filter_le _ _) (by rw[List.length_take];have:=HNL.out;omega))
   have HLO:Hid ((othersOf s.needed (names.take j)).length<=1000000):=Lib.hid (Nat.le_trans (List.length_filter_le _ _) (by rw[List.length_take];have:=HNL.out;omega))
   obtain⟨i0,hi0,hz0,hz1,hz2⟩:=info_parts Tryz.infoStr
   clear hxj hbj hlt hj hget hnm
   obtain⟨c1,hc1⟩:∃ c1,s.needed.contains nm=c1:=⟨_,rfl⟩
   have HC1:=Lib.hid hc1
   clear hc1
   repeat' ((fail_if_success at_builtin);first|go_values|go_skip|go_guarded|go_step|go_upon|go_back)
   (refine(acontains_any wr s.needed nm HXJ.out.no HND.out).mono ?_;rintro e1 w3 ⟨rfl,rfl⟩;dsimp only)
   rw[HC1.out]
   cases c1 with
   | true =>
    have HE1:Hid (leftOf s.needed (names.take (j+1))=leftOf s.needed (names.take j)):=Lib.hid (by rw[HTK.out,left_snoc,if_neg (by rw[HC1.out];simp)])
    have HE2:Hid (othersOf s.needed (names.take (j+1))=othersOf s.needed (names.take j)):=Lib.hid (by rw[HTK.out,others_snoc,if_neg (by rw[HC1.out];simp)])
    clear vj l14
    repeat' ((fail_if_success at_builtin);first|go_values|go_skip|go_guarded|go_step|go_upon|go_back)
    go_roundw
    case rel=>exact⟨j+1,_,_,by go_num,by have:=HLT.out;omega,by rw[HE1.out,HE2.out];exact HXJ.out,HBJ.out⟩
    case measure=>have:=HLT.out;simp[intOf];omega
   | false =>
    obtain⟨c2,hc2⟩:∃ c2,ownB nm=c2:=⟨_,rfl⟩
    have HC2:=Lib.hid hc2
    clear hc2 vj l14
    repeat' ((fail_if_success at_builtin);first|go_values|go_skip|go_guarded|go_step|go_upon|go_back)
    (refine(own_any wr ⟨nm.toArray⟩).mono ?_;rintro e1 w4 ⟨rfl,hb4⟩;dsimp only)
    rw[show ownB (⟨nm.toArray⟩:ByteArray).data.toList=c2 from HC2.out]
    have HX4:=Lib.hid (HXJ.out.pure hb4)
    have HB4:=Lib.hid (HBJ.out.trans (hb4.mono HXJ.out.size))
    clear hb4 HXJ HBJ
    have l15:w4.cell? ⟨L,15,none⟩=some lv:=blk_cell HX4.out.hl 15
    have l16:w4.cell? ⟨L,16,none⟩=some ov:=blk_cell HX4.out.hl 16
    cases c2 with
    | true =>
     have HE1:Hid (leftOf s.needed (names.take (j+1))=leftOf s.needed (names.take j)++[nm]):=Lib.hid (by rw[HTK.out,left_snoc,if_pos (by rw[HC1.out,HC2.out];simp)])
     have HE2:Hid (othersOf s.needed (names.take (j+1))=othersOf s.needed (names.take j)):=Lib.hid (by rw[HTK.out,others_snoc,if_neg (by rw[HC1.out,HC2.out];simp)])
     ((repeat' ((fail_if_success (with_reducible (show Code.wp _ (Code.region 7 _ _) _ _ _)));first|(at_builtin;refine wpList_append_lies _ rfl _ _ 48 rfl n0 9 i0 _ 1 16 Tryz.underlying48 hi0 hz0 hz1 hz2 rfl (by omega) lv ((leftOf s.needed (names.take j))).length (((leftOf s.needed (names.take j))).map encS) rfl (own_below HX4.out.lo ((Below.refl _ _).alloc (Nat.le_refl _) _)) ⟨w4.heap.size,0,none⟩ 1 1 [encS nm] rfl rfl (World.news_of_block (cs:=#[.string ⟨nm.toArray⟩]) (t:=9) (fr:=(0,0)) (heap_alloc_new w4 _)) (by simp[Value.oneCell',encS]) (by omega) (by unfold maxLen;have:=HLL.out;omega) (by have:=HLL.out;omega) (by have:=HX4.out.size;simp;omega) (w4.heap.size+1) (by simp) ?_;intro gg gcap w12 hown12 hgrow hat hlt12;obtain⟨s0,s1,X13,B13⟩:=HX4.out.appL _ hgrow hat nm hown12;have HX13:=Lib.hid X13;have HB13:=Lib.hid B13;clear X13 B13 hown12 hgrow hat hlt12)|((fail_if_success at_builtin);first|go_values|go_skip|go_guarded|go_step|go_upon|go_back))))
     clear s0 s1 l15 l16
     repeat' ((fail_if_success at_builtin);first|go_values|go_skip|go_guarded|go_step|go_upon|go_back)
     go_roundw
     case rel=>exact⟨j+1,_,_,by go_num,by have:=HLT.out;omega,by rw[HE1.out,HE2.out];exact HX13.out,HB4.out.trans HB13.out⟩
     case measure=>have:=HLT.out;simp[intOf];omega
    | false =>
     have HE1:Hid (leftOf s.needed (names.take (j+1))=leftOf s.needed (names.take j)):=Lib.hid (by rw[HTK.out,left_snoc,if_neg (by rw[HC1.out,HC2.out];simp)])
     have HE2:Hid (othersOf s.needed (names.take (j+1))=othersOf s.needed (names.take j)++[nm]):=Lib.hid (by rw[HTK.out,others_snoc,if_pos (by rw[HC1.out,HC2.out];simp)])
     ((repeat' ((fail_if_success (with_reducible (show Code.wp _ (Code.region 7 _ _) _ _ _)));first|(at_builtin;refine wpList_append_lies _ rfl _ _ 48 rfl n0 9 i0 _ 1 16 Tryz.underlying48 hi0 hz0 hz1 hz2 rfl (by omega) ov ((othersOf s.needed (names.take j))).length (((othersOf s.needed (names.take j))).map encS) rfl (own_below HX4.out.oo ((Below.refl _ _).alloc (Nat.le_refl _) _)) ⟨w4.heap.size,0,none⟩ 1 1 [encS nm] rfl rfl (World.news_of_block (cs:=#[.string ⟨nm.toArray⟩]) (t:=9) (fr:=(0,0)) (heap_alloc_new w4 _)) (by simp[Value.oneCell',encS]) (by omega) (by unfold maxLen;have:=HLO.out;omega) (by have:=HLO.out;omega) (by have:=HX4.out.size;simp;omega) (w4.heap.size+1) (by simp) ?_;intro gg gcap w12 hown12 hgrow hat hlt12;obtain⟨s0,s1,X13,B13⟩:=HX4.out.appO _ hgrow hat nm hown12;have HX13:=Lib.hid X13;have HB13:=Lib.hid B13;clear X13 B13 hown12 hgrow hat hlt12)|((fail_if_success at_builtin);first|go_values|go_skip|go_guarded|go_step|go_upon|go_back))))
     clear s0 s1 l15 l16
     repeat' ((fail_if_success at_builtin);first|go_values|go_skip|go_guarded|go_step|go_upon|go_back)
     go_roundw
     case rel=>exact⟨j+1,_,_,by go_num,by have:=HLT.out;omega,by rw[HE1.out,HE2.out];exact HX13.out,HB4.out.trans HB13.out⟩
     case measure=>have:=HLT.out;simp[intOf];omega
  ·obtain rfl:j=names.length:=by omega
   rw[List.take_length] at hxj
   have HXF:=Lib.hid hxj
   clear hxj hbj hlt hj HXJ
   repeat' ((fail_if_success at_builtin);first|go_values|go_skip|go_guarded|go_step|go_upon|go_back)
   refine bodyPost_end (results_none rfl _ _ _) rfl ⟨rfl,⟨_,_,_,HXF.out⟩,HBJ.out⟩
end Go.Proofs.YtbppnihcbcdglaaGreat
