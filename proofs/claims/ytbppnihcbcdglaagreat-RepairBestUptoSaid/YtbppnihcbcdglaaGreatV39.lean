/- audit.Look: how the files and the numbers come together. No condition. -/
import Derived.Sort.OwnSortedInts
import Derived.Test.YtbppnihcbcdglaaGreatZ26
import Derived.Test.YtbppnihcbcdglaaGreatV31
import Derived.Test.YtbppnihcbcdglaaGreatV38
namespace Go.Proofs.YtbppnihcbcdglaaGreat
open Go.RowKit
set_option linter.unusedVariables false
set_option linter.unusedSimpArgs false
theorem AX.appF{w w':World}{n0 L mb gg cap:Nat}{fs:Fs}{firsts:List Int}{s:AS}{fv nv sv:Value}(h:AX w n0 L mb fs firsts s fv nv sv)(o:Obj)(hg:(w.alloc o).grownBy w' fv.ownBlock)(x:Int)
  (ho:w'.ownsRow n0 3 1 (.slice (some ⟨gg,0,none⟩) (firsts.length+1) cap) (firsts.length+1) (firsts.map (Value.int .i64)++[.int .i64 x])) :
  w'.cell? ⟨L,1,none⟩=some fv/\w'.frozen? ⟨L,1,none⟩=false/\w'.cell? ⟨L+1,0,none⟩=some (.pointer (some ⟨L,0,none⟩))/\AX (w'.setCell ⟨L,1,none⟩ (.slice (some ⟨gg,0,none⟩) (firsts.length+1) cap)) n0 L mb fs (firsts++[x]) s (.slice (some ⟨gg,0,none⟩) (firsts.length+1) cap) nv sv /\
   Below n0 w (w'.setCell ⟨L,1,none⟩ (.slice (some ⟨gg,0,none⟩) (firsts.length+1) cap)):=by
 have hk:∀ {k:Nat} {c:Array Value} {t:TypeId} {f:Nat×Nat},w.heap[k]? = some (.cells c t f)->t≠3->w'.heap[k]? = some (.cells c t f):=fun{k c t f} hb ht=>blk_grown hg (blk_alloc hb o) (own_ne h.fo hb ht)
 have p1:=hk h.hl (by decide)
 have hb':Below n0 w w':=((Below.refl _ w).alloc h.size o).grown hg (by have:=h.size;simp;omega) (fun k e=>own_ge h.fo e)
 have hfm:FM w' mb fs:=h.fm.grown o h.fo (by decide) hg
 have hno:w'.ownsRow n0 9 1 nv s.needed.length (s.needed.map encS):=own_hk h.no (fun k c f hb=>hk hb (by decide))
 have hso:w'.ownsRow n0 61 2 sv s.segs.length (s.segs.flatMap segRow):=own_hk h.so (fun k c f hb=>hk hb (by decide))
 have hk2:Kb L w' (w'.setCell ⟨L,1,none⟩ (.slice (some ⟨gg,0,none⟩) (firsts.length+1) cap)):=Kb.set
 refine⟨blk_cell p1 1,blk_free p1 1,(blk1 (hk h.bx (by decide))).1,⟨(blk_set p1 1 _).trans rfl,?_,?_,own_kb hno hk2 p1 (by decide),own_kb hso hk2 p1 (by decide),h.nl,h.nm,blk_set_other (hk h.bx (by decide)) (by omega) _ _⟩,hb'.setCell (p:=⟨L,1,none⟩) h.nl _⟩
 ·exact hfm.kept (Below.heap_setCell _ _ _ _ (fun e=>hfm.ne p1 (by first|exact e|exact e.symm))) fun g cur f hg=>(hk2 g _ hg (blk_ne hg p1 (by decide))).trans hg.symm
 ·have:=own_kb ho hk2 p1 (by decide)
  simpa using this
theorem Tryz.infoInt:(Tryz.prog.info? 3).map (fun i=>(i.zero,i.size,i.bytes))=some (some (.int .i64 0),1,8):=by kernel_rfl
theorem AX.store{w:World}{n0 n1 L mb:Nat}{fs:Fs}{firsts:List Int}{s:AS}{fv nv sv v:Value}(h:AX w n0 L mb fs firsts s fv nv sv)(nm d:Bs)(hno:nm∉fs.map Prod.fst)(hv:OwnB w n1 v d) :
  ∃ w',(Instr.mapUpdate 118 (.map (some mb)) (.string ⟨nm.toArray⟩) v).run Tryz.prog w = .ok () w'/\AX w' n0 L mb (fs++[(nm,d)]) firsts s fv nv sv/\Below n0 w w'/\∀ (k:Nat) (c:Array Value) (t:TypeId) (f:Nat×Nat),w.heap[k]? = some (.cells c t f)->w'.heap[k]? = some (.cells c t f):=by
 obtain⟨a,c,rfl,hle,hnil,hrow,-⟩:=own_rowT hv
 obtain⟨ms,hms,hmp,hml⟩:=h.fm
 obtain⟨w',h1,h2,h3,h4,h5,h6,h7⟩:=hmp.store_new (P:=Tryz.prog) _ _ _ Tryz.underlying118 Tryz.underlying9 (key := .string ⟨nm.toArray⟩) (v := .slice a d.length c) (by simp[MapKept.IsKey]) (by
  intro x hx e
  obtain⟨m,hm,rfl⟩:=List.mem_map.1 hx
  refine hno ?_
  have e1:m.f.1=nm:=encS_inj e
  rw[<-hms,List.map_map]
  exact List.mem_map.2 ⟨m,hm,e1⟩)
 have hk:∀ {k:Nat} {cc:Array Value} {t:TypeId} {f:Nat×Nat},w.heap[k]? = some (.cells cc t f)->w'.heap[k]? = some (.cells cc t f):=fun{k cc t f} hb=>(h7 k (h.fm.ne hb)).trans hb
 refine⟨w',h1,⟨hk h.hl,⟨ms++[⟨(nm,d),a,c⟩],by rw[List.map_append,hms];rfl,by rw[List.map_append];exact h2,?_⟩,own_hk h.fo (fun k c f hb=>hk hb),own_hk h.no (fun k c f hb=>hk hb),own_hk h.so (fun k c f hb=>hk hb),h.nl,h.nm,hk h.bx⟩,⟨h3,h4,h5,by omega,fun k hkk=>h7 k (by have:=h.nm;omega)⟩,fun k c t f hb=>hk hb⟩
 have hrk:∀ {m:FBm},m.lies w->m.lies w':=fun{m} hl=>⟨hl.le,hl.nil,hl.row.kept fun g cur f hg=>(hk hg).trans hg.symm⟩
 intro m hm
 rcases List.mem_append.1 hm with hm|hm
 ·exact hrk (hml m hm)
 ·obtain rfl:m=⟨(nm,d),a,c⟩:=by simpa using hm
  exact hrk ⟨hle,hnil,hrow⟩
theorem asort_any(w:World){n0 L mb:Nat}{fs:Fs}{firsts:List Int}{s:AS}{fv nv sv:Value}(h:AX w n0 L mb fs firsts s fv nv sv)(hl:firsts.length<=1000000) :
  Calls Tryz.prog 67 #[fv] w fun e w'=>e = .returned (.tuple #[])/\AX w' n0 L mb fs (firsts.mergeSort leI) s fv nv sv/\Below n0 w w':=by
 by_cases h0:0<firsts.length
 ·have hfo:=h.fo
  obtain⟨h1,h2⟩:=hfo
  rcases h2 with ⟨_,e⟩|⟨g,cap,cur,rfl,hg,hh,hc,hm,hs,ht⟩
  ·omega
  ·have hp:=List.mergeSort_perm firsts leI
   refine(sortInts_any g 0 cap firsts w (holds_of_blockI hh (by rw[Nat.mul_one] at ht;exact ht)) (blk_lt hh) (by omega)).mono ?_
   rintro e w' ⟨rfl,n,os,rfl⟩
   have hgb:=grownBy_sortedI (w:=w) (g:=g) (n:=n) (os:=os) (firsts.mergeSort leI).toArray
   have hrow:=ownsRow_sortedI (base:=n0) (n:=n) (os:=os) (cap:=cap) (ts:=firsts.mergeSort leI) (ss:=firsts) hp.length_eq hg hh hc hm hs
   have hk:∀ {k:Nat} {ob:Obj},w.heap[k]? = some ob->k≠g->(Sort.grow (Sort.putRow (Value.int .i64) (Sort.ahead w n) g 0 (firsts.mergeSort leI).toArray) os).heap[k]? = some ob:=fun{k ob} hb hne=>(hgb.block k (blk_lt hb) (fun e=>hne (Option.some.inj e))).trans hb
   refine⟨rfl,⟨hk h.hl (blk_ne h.hl hh (by decide)),h.fm.kept (hgb.block _ h.fm.lt (fun e=>h.fm.ne hh (Option.some.inj e).symm)) (fun g' cur' f hg'=>(hk hg' (blk_ne hg' hh (by decide))).trans hg'.symm),?_,own_hk h.no (fun k c f hb=>hk hb (blk_ne hb hh (by decide))),own_hk h.so (fun k c f hb=>hk hb (blk_ne hb hh (by decide))),h.nl,h.nm,hk h.bx (blk_ne h.bx hh (by decide))⟩,?_⟩
   ·rw[hp.length_eq];exact hrow
   ·exact(Below.refl n0 w).grown hgb h.size (fun k e=>by cases e;exact hg)
 ·have hz:firsts=[]:=List.length_eq_zero_iff.1 (by omega)
  subst hz
  obtain⟨a,c,rfl,-,-,-,-⟩:=own_rowT h.fo
  refine(sortInts_none a c w).mono ?_
  rintro e w' ⟨rfl,rfl⟩
  exact⟨rfl,by simpa using h,Below.refl _ _⟩
end Go.Proofs.YtbppnihcbcdglaaGreat
