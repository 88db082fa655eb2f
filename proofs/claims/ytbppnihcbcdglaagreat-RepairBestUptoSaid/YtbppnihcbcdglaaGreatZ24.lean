/- audit: read, manifest. No condition. -/
import Derived.Test.YtbppnihcbcdglaaGreatZ1
import Derived.Test.YtbppnihcbcdglaaGreatZ7
import Derived.Test.YtbppnihcbcdglaaGreatZ21
import Derived.Test.YtbppnihcbcdglaaGreatZ23
namespace Go.Proofs.YtbppnihcbcdglaaGreat
set_option maxHeartbeats 0
open Go.RowKit
set_option linter.unusedVariables false
set_option linter.unusedSimpArgs false
structure FBm where
 f:Bs×Bs
 a:Option Addr
 c:Nat
def encS(s:Bs):Value := .string ⟨s.toArray⟩
def FBm.ent(m:FBm):Value×Value:=(encS m.f.1,.slice m.a m.f.2.length m.c)
structure FBm.lies (w:World) (m:FBm):Prop where
 le:m.f.2.length<=m.c
 nil:m.a=none->m.c=0
 row:RowT w 5 m.a (m.f.2.map B)
theorem bs_of_row{w:World}{a:Option Addr}{c:Nat}{xs:Bs}(h1:xs.length<=c)(h2:a=none->c=0)(h3:RowT w 5 a (xs.map B)):BS w a c xs:=by
 refine⟨h1,h2,?_⟩
 rcases h3 with h3|⟨g,o,cur,f,rfl,hg,h⟩
 ·exact .inl (by simpa using h3)
 ·exact .inr ⟨g,o,rfl,fun i u hu=>(blk_cell hg _).trans (h i _ (by simp[hu]))⟩
theorem FBm.lies.bs{w:World}{m:FBm}(h:m.lies w):BS w m.a m.c m.f.2:=bs_of_row h.le h.nil h.row
def FM(w:World)(mb:Nat)(fs:Fs):Prop:=∃ ms:List FBm,ms.map FBm.f=fs/\MP w .string mb (ms.map FBm.ent)/\∀ m∈ms,m.lies w
theorem FM.lt{w:World}{mb:Nat}{fs:Fs}(h:FM w mb fs):mb<w.heap.size:=by
 obtain⟨ms,-,h,-⟩:=h
 exact h.lt
theorem FM.kept{w w':World}{mb:Nat}{fs:Fs}(h:FM w mb fs)(hm:w'.heap[mb]? = w.heap[mb]?)(hk:∀ (g:Nat) (cur:Array Value) (f:Nat×Nat),w.heap[g]? = some (.cells cur 5 f)->w'.heap[g]? = w.heap[g]?):FM w' mb fs:=by
 obtain⟨ms,h1,h2,h3⟩:=h
 exact⟨ms,h1,h2.at_ hm,fun m hm=>⟨(h3 m hm).le,(h3 m hm).nil,(h3 m hm).row.kept hk⟩⟩
theorem FM.below{w w':World}{mb:Nat}{fs:Fs}(h:FM w mb fs)(hb:Below w.heap.size w w'):FM w' mb fs :=
 h.kept (hb.block _ h.lt) fun g cur f hg=>hb.block g (blk_lt hg)
theorem FM.ne{w:World}{mb:Nat}{fs:Fs}(h:FM w mb fs){j:Nat}{c:Array Value}{t:TypeId}{f:Nat×Nat}(hj:w.heap[j]? = some (.cells c t f)):j≠mb:=by
 obtain⟨ms,-,h,-⟩:=h
 exact h.ne hj
theorem encS_inj{a b:Bs}(h:encS a=encS b):a=b:=by
 unfold encS at h
 injection h with h
 injection h with h
 have:=congrArg Array.toList h
 simpa using this
theorem FM.has{w:World}{mb:Nat}{fs:Fs}(h:FM w mb fs)(hn:(fs.map Prod.fst).Nodup){k d:Bs}(hd:getF fs k=some d)(ok:Bool) :
  ∃ a c,BS w a c d/\(Instr.lookup 118 (.map (some mb)) (.string ⟨k.toArray⟩) ok).run Tryz.prog w = .ok (if ok then .tuple #[.slice a d.length c,.bool true] else .slice a d.length c) w:=by
 obtain⟨ms,rfl,h2,h3⟩:=h
 obtain⟨m,hm,hf⟩:=List.mem_map.1 (getF_mem hd)
 have huniq:∀ x∈ms.map FBm.ent,x.1 = .string ⟨k.toArray⟩->x.2 = .slice m.a d.length m.c:=by
  intro x hx e
  obtain⟨m',hm',rfl⟩:=List.mem_map.1 hx
  have e1:m'.f.1=k:=encS_inj e
  have:∀ (l:List FBm),(l.map FBm.f |>.map Prod.fst).Nodup->∀ p∈l,∀ q∈l,p.f.1=q.f.1->p=q:=by
   intro l
   induction l with
   | nil=>intro _ p hp;cases hp
   | cons z t ih =>
    intro hnd p hp q hq he
    rw[List.map_cons,List.map_cons,List.nodup_cons] at hnd
    rcases List.mem_cons.1 hp with h1|h1
    ·rcases List.mem_cons.1 hq with h2|h2
     ·rw[h1,h2]
     ·subst h1
      exact absurd (he ▸ List.mem_map.2 ⟨_,List.mem_map.2 ⟨q,h2,rfl⟩,rfl⟩) hnd.1
    ·rcases List.mem_cons.1 hq with h2|h2
     ·subst h2
      exact absurd (he ▸ List.mem_map.2 ⟨_,List.mem_map.2 ⟨p,h1,rfl⟩,rfl⟩) hnd.1
     ·exact ih hnd.2 p h1 q h2 he
  have e2:=this ms hn m' hm' m hm (by rw[e1,hf])
  subst e2
  show Value.slice _ _ _=_
  rw[hf]
 have hv:((.string ⟨k.toArray⟩:Value),(.slice m.a d.length m.c:Value))∈ms.map FBm.ent:=by
  refine List.mem_map.2 ⟨m,hm,?_⟩
  show (encS m.f.1,Value.slice m.a m.f.2.length m.c)=_
  rw[hf]
  rfl
 refine⟨m.a,m.c,?_,h2.lookup_has _ _ _ Tryz.underlying118 Tryz.underlying9 (by simp[MapKept.IsKey]) hv huniq ok⟩
 have:=(h3 m hm).bs
 rw[hf] at this
 exact this
theorem zero_bytes(w:World):(zeroValue 27).run Tryz.prog w = .ok (.slice none 0 0) w:=Tryz.zeroValue27 w
theorem FM.none{w:World}{mb:Nat}{fs:Fs}(h:FM w mb fs){k:Bs}(hd:getF fs k=none)(ok:Bool) :
  (Instr.lookup 118 (.map (some mb)) (.string ⟨k.toArray⟩) ok).run Tryz.prog w = .ok (if ok then .tuple #[.slice none 0 0,.bool false] else .slice none 0 0) w:=by
 obtain⟨ms,rfl,h2,h3⟩:=h
 refine h2.lookup_no _ _ _ Tryz.underlying118 Tryz.underlying9 (by simp[MapKept.IsKey]) ?_ (zero_bytes w) ok
 intro x hx e
 obtain⟨m',hm',rfl⟩:=List.mem_map.1 hx
 have e1:m'.f.1=k:=encS_inj e
 obtain⟨d,hd'⟩:=getF_some (fs:=ms.map FBm.f) (k:=k) (List.mem_map.2 ⟨_,List.mem_map.2 ⟨m',hm',rfl⟩,e1⟩)
 rw[hd'] at hd
 cases hd
def segRow(x:Int×Int):List Value:=[.int .i64 x.1,.int .i64 x.2]
def LKc(mb:Nat)(s:AS)(fv nv sv:Value):Array Value:=#[.map (some mb),fv,.int .i64 0,.int .i64 0,.int .i64 0,.int .i64 0,.int .i64 0,.bool s.has,.int .i64 s.man.number,.int .i64 s.man.file,.int .i64 s.man.mark,.int .i64 s.man.prev,.int .i64 s.man.pmark,.slice none 0 0,nv,.slice none 0 0,.slice none 0 0,sv,.int .i64 s.torn,.int .i64 s.base,.int .i64 s.last]
structure AX (w:World) (n0 L mb:Nat) (fs:Fs) (firsts:List Int) (s:AS) (fv nv sv:Value):Prop where
 hl:w.heap[L]? = some (.cells (LKc mb s fv nv sv) 120 (0,0))
 fm:FM w mb fs
 fo:w.ownsRow n0 3 1 fv firsts.length (firsts.map (Value.int .i64))
 no:w.ownsRow n0 9 1 nv s.needed.length (s.needed.map encS)
 so:w.ownsRow n0 61 2 sv s.segs.length (s.segs.flatMap segRow)
 nl:n0<=L
 nm:n0<=mb
 bx:w.heap[L+1]? = some (.cells #[.pointer (some ⟨L,0,none⟩)] 117 (0,0))
theorem AX.pure{w w':World}{n0 L mb:Nat}{fs:Fs}{firsts:List Int}{s:AS}{fv nv sv:Value}(h:AX w n0 L mb fs firsts s fv nv sv)(hb:Below w.heap.size w w'):AX w' n0 L mb fs firsts s fv nv sv :=
 ⟨blk_below hb h.hl (blk_lt h.hl),h.fm.below hb,own_below h.fo hb,own_below h.no hb,own_below h.so hb,h.nl,h.nm,blk_below hb h.bx (blk_lt h.bx)⟩
theorem AX.size{w:World}{n0 L mb:Nat}{fs:Fs}{firsts:List Int}{s:AS}{fv nv sv:Value}(h:AX w n0 L mb fs firsts s fv nv sv):n0<=w.heap.size:=by
 have:=h.nl
 have:=blk_lt h.hl
 omega
theorem AX.cells{w:World}{n0 L mb:Nat}{fs:Fs}{firsts:List Int}{s:AS}{fv nv sv:Value}(h:AX w n0 L mb fs firsts s fv nv sv)(i:Nat):w.cell? ⟨L,i,none⟩=(LKc mb s fv nv sv)[i]? := blk_cell h.hl i
theorem AX.free{w:World}{n0 L mb:Nat}{fs:Fs}{firsts:List Int}{s:AS}{fv nv sv:Value}(h:AX w n0 L mb fs firsts s fv nv sv)(i:Nat):w.frozen? ⟨L,i,none⟩=false:=blk_free h.hl i
theorem AX.set{w:World}{n0 L mb:Nat}{fs:Fs}{firsts:List Int}{s:AS}{fv nv sv:Value}(h:AX w n0 L mb fs firsts s fv nv sv)(s':AS)(i:Nat)(u:Value)(hc:(LKc mb s fv nv sv).setIfInBounds i u=LKc mb s' fv nv sv)(hn:s'.needed=s.needed)(hs:s'.segs=s.segs) :
  AX (w.setCell ⟨L,i,none⟩ u) n0 L mb fs firsts s' fv nv sv/\Below n0 w (w.setCell ⟨L,i,none⟩ u):=by
 have hk:Kb L w (w.setCell ⟨L,i,none⟩ u):=Kb.set
 refine⟨⟨by rw[<-hc];exact blk_set h.hl i u,?_,own_kb h.fo hk h.hl (by decide),by rw[hn];exact own_kb h.no hk h.hl (by decide),by rw[hs];exact own_kb h.so hk h.hl (by decide),h.nl,h.nm,blk_set_other h.bx (by omega) _ _⟩,(Below.refl _ _).setCell (p:=⟨L,i,none⟩) h.nl _⟩
 exact h.fm.kept (Below.heap_setCell _ _ _ _ (fun e=>h.fm.ne h.hl (by first|exact e|exact e.symm))) fun g cur f hg=>(hk g _ hg (blk_ne hg h.hl (by decide))).trans hg.symm
theorem FM.grown{w w':World}{mb n0 size n:Nat}{fs:Fs}{t:TypeId}{v:Value}{xs:List Value}(h:FM w mb fs)(o:Obj)(ho:w.ownsRow n0 t size v n xs)(ht:5≠t)(hg:(w.alloc o).grownBy w' v.ownBlock):FM w' mb fs:=by
 refine h.kept ?_ fun g cur f hb=>(blk_grown hg (blk_alloc hb o) (own_ne ho hb ht)).trans hb.symm
 refine(hg.block mb (by have:=h.lt;simp;omega) ?_).trans (Below.heap_alloc _ _ _ h.lt)
 obtain⟨ms,-,h,-⟩:=h
 exact h.own_ne ho
theorem AX.appN{w w':World}{n0 L mb gg cap:Nat}{fs:Fs}{firsts:List Int}{s:AS}{fv nv sv:Value}(h:AX w n0 L mb fs firsts s fv nv sv)(o:Obj)(hg:(w.alloc o).grownBy w' nv.ownBlock)(nm:Bs)
  (ho:w'.ownsRow n0 9 1 (.slice (some ⟨gg,0,none⟩) (s.needed.length+1) cap) (s.needed.length+1) (s.needed.map encS++[encS nm])) :
  w'.cell? ⟨L,14,none⟩=some nv/\w'.frozen? ⟨L,14,none⟩=false/\AX (w'.setCell ⟨L,14,none⟩ (.slice (some ⟨gg,0,none⟩) (s.needed.length+1) cap)) n0 L mb fs firsts (s.need nm) fv (.slice (some ⟨gg,0,none⟩) (s.needed.length+1) cap) sv /\
   Below n0 w (w'.setCell ⟨L,14,none⟩ (.slice (some ⟨gg,0,none⟩) (s.needed.length+1) cap)):=by
 have hk:∀ {k:Nat} {c:Array Value} {t:TypeId} {f:Nat×Nat},w.heap[k]? = some (.cells c t f)->t≠9->w'.heap[k]? = some (.cells c t f):=fun{k c t f} hb ht=>blk_grown hg (blk_alloc hb o) (own_ne h.no hb ht)
 have p1:=hk h.hl (by decide)
 have hb':Below n0 w w':=((Below.refl _ w).alloc h.size o).grown hg (by have:=h.size;simp;omega) (fun k e=>own_ge h.no e)
 have hfm:FM w' mb fs:=h.fm.grown o h.no (by decide) hg
 have hfo:w'.ownsRow n0 3 1 fv firsts.length (firsts.map (Value.int .i64)):=own_hk h.fo (fun k c f hb=>hk hb (by decide))
 have hso:w'.ownsRow n0 61 2 sv s.segs.length (s.segs.flatMap segRow):=own_hk h.so (fun k c f hb=>hk hb (by decide))
 have hk2:Kb L w' (w'.setCell ⟨L,14,none⟩ (.slice (some ⟨gg,0,none⟩) (s.needed.length+1) cap)):=Kb.set
 refine⟨blk_cell p1 14,blk_free p1 14,⟨(blk_set p1 14 _).trans rfl,?_,own_kb hfo hk2 p1 (by decide),?_,own_kb hso hk2 p1 (by decide),h.nl,h.nm,blk_set_other (hk h.bx (by decide)) (by omega) _ _⟩,hb'.setCell (p:=⟨L,14,none⟩) h.nl _⟩
 ·exact hfm.kept (Below.heap_setCell _ _ _ _ (fun e=>hfm.ne p1 (by first|exact e|exact e.symm))) fun g cur f hg=>(hk2 g _ hg (blk_ne hg p1 (by decide))).trans hg.symm
 ·have:=own_kb ho hk2 p1 (by decide)
  simpa [AS.need] using this
theorem AX.appS{w w':World}{n0 L mb gg cap:Nat}{fs:Fs}{firsts:List Int}{s:AS}{fv nv sv:Value}(h:AX w n0 L mb fs firsts s fv nv sv)(o:Obj)(hg:(w.alloc o).grownBy w' sv.ownBlock)(x:Int×Int)
  (ho:w'.ownsRow n0 61 2 (.slice (some ⟨gg,0,none⟩) (s.segs.length+1) cap) (s.segs.length+1) (s.segs.flatMap segRow++segRow x)) :
  w'.cell? ⟨L,17,none⟩=some sv/\w'.frozen? ⟨L,17,none⟩=false/\AX (w'.setCell ⟨L,17,none⟩ (.slice (some ⟨gg,0,none⟩) (s.segs.length+1) cap)) n0 L mb fs firsts { s with segs:=s.segs++[x] } fv nv (.slice (some ⟨gg,0,none⟩) (s.segs.length+1) cap) /\
   Below n0 w (w'.setCell ⟨L,17,none⟩ (.slice (some ⟨gg,0,none⟩) (s.segs.length+1) cap)):=by
 have hk:∀ {k:Nat} {c:Array Value} {t:TypeId} {f:Nat×Nat},w.heap[k]? = some (.cells c t f)->t≠61->w'.heap[k]? = some (.cells c t f):=fun{k c t f} hb ht=>blk_grown hg (blk_alloc hb o) (own_ne h.so hb ht)
 have p1:=hk h.hl (by decide)
 have hb':Below n0 w w':=((Below.refl _ w).alloc h.size o).grown hg (by have:=h.size;simp;omega) (fun k e=>own_ge h.so e)
 have hfm:FM w' mb fs:=h.fm.grown o h.so (by decide) hg
 have hfo:w'.ownsRow n0 3 1 fv firsts.length (firsts.map (Value.int .i64)):=own_hk h.fo (fun k c f hb=>hk hb (by decide))
 have hno:w'.ownsRow n0 9 1 nv s.needed.length (s.needed.map encS):=own_hk h.no (fun k c f hb=>hk hb (by decide))
 have hk2:Kb L w' (w'.setCell ⟨L,17,none⟩ (.slice (some ⟨gg,0,none⟩) (s.segs.length+1) cap)):=Kb.set
 refine⟨blk_cell p1 17,blk_free p1 17,⟨(blk_set p1 17 _).trans rfl,?_,own_kb hfo hk2 p1 (by decide),own_kb hno hk2 p1 (by decide),?_,h.nl,h.nm,blk_set_other (hk h.bx (by decide)) (by omega) _ _⟩,hb'.setCell (p:=⟨L,17,none⟩) h.nl _⟩
 ·exact hfm.kept (Below.heap_setCell _ _ _ _ (fun e=>hfm.ne p1 (by first|exact e|exact e.symm))) fun g cur f hg=>(hk2 g _ hg (blk_ne hg p1 (by decide))).trans hg.symm
 ·have:=own_kb ho hk2 p1 (by decide)
  simpa using this
theorem own_set{w:World}{n0 size n g cap:Nat}{t:TypeId}{xs:List Value}(h:w.ownsRow n0 t size (.slice (some ⟨g,0,none⟩) n cap) n xs)(i:Nat)(u:Value):(w.setCell ⟨g,i,none⟩ u).ownsRow n0 t size (.slice (some ⟨g,0,none⟩) n cap) n (xs.set i u):=by
 obtain⟨h1,h2⟩:=h
 refine⟨by rw[List.length_set];exact h1,?_⟩
 rcases h2 with ⟨e,_⟩|⟨g',cap',cur,e,hg,hh,hn,hm,hs,ht⟩
 ·cases e
 ·cases e
  refine .inr ⟨g,cap,cur.setIfInBounds i u,rfl,hg,blk_set hh i u,hn,hm,by simpa using hs,?_⟩
  rw[Array.toList_setIfInBounds,List.take_set,ht]
theorem own_shape{w:World}{n0 size n:Nat}{t:TypeId}{v:Value}{xs:List Value}(h:w.ownsRow n0 t size v n xs)(hn:0<n):∃ g cap,v = .slice (some ⟨g,0,none⟩) n cap/\n<=cap/\n0<=g:=by
 rcases h.2 with ⟨_,e⟩|⟨g,cap,cur,rfl,hg,hh,hc,_⟩
 ·omega
 ·exact⟨g,cap,rfl,hc,hg⟩
theorem flat_set{l:List (Int×Int)}{i:Nat}{f e:Int}(hi:i<l.length)(hf:l[i].1=f):(l.flatMap segRow).set (i*2+1) (.int .i64 e)=(l.set i (f,e)).flatMap segRow:=by
 induction l generalizing i with
 | nil=>simp at hi
 | cons x t ih =>
  cases i with
  | zero =>
   simp only[List.getElem_cons_zero] at hf
   subst hf
   rfl
  | succ i =>
   simp only[List.getElem_cons_succ] at hf
   rw[List.set_cons_succ,List.flatMap_cons,List.flatMap_cons,<-ih (by simpa using hi) hf]
   show (([Value.int .i64 x.1,.int .i64 x.2]++t.flatMap segRow).set ((i+1)*2+1) _)=_
   rw[show (i+1)*2+1=(i*2+1)+1+1 by omega]
   rfl
theorem AX.setS{w:World}{n0 L mb g cap n:Nat}{fs:Fs}{firsts:List Int}{s:AS}{fv nv:Value}(h:AX w n0 L mb fs firsts s fv nv (.slice (some ⟨g,0,none⟩) n cap))(i:Nat)(hi:i<s.segs.length)(f e:Int)(hf:s.segs[i].1=f) :
  AX (w.setCell ⟨g,i*2+1,none⟩ (.int .i64 e)) n0 L mb fs firsts { s with segs:=s.segs.set i (f,e) } fv nv (.slice (some ⟨g,0,none⟩) n cap)/\Below n0 w (w.setCell ⟨g,i*2+1,none⟩ (.int .i64 e)):=by
 have hso:=h.so
 obtain⟨h1,h2⟩:=hso
 rcases h2 with ⟨e1,_⟩|⟨g',cap',cur,e1,hg,hh,hn,hm,hs,ht⟩
 ·cases e1
 ·cases e1
  have hk:Kb g w (w.setCell ⟨g,i*2+1,none⟩ (.int .i64 e)):=Kb.set
  refine⟨⟨blk_set_other h.hl (blk_ne h.hl hh (by decide)) _ _,?_,own_kb h.fo hk hh (by decide),own_kb h.no hk hh (by decide),?_,h.nl,h.nm,blk_set_other h.bx (blk_ne h.bx hh (by decide)) _ _⟩,(Below.refl _ _).setCell (p:=⟨g,i*2+1,none⟩) hg _⟩
  ·exact h.fm.kept (Below.heap_setCell _ _ _ _ (fun e=>h.fm.ne hh (by first|exact e|exact e.symm))) fun g' cur f hg=>(hk g' _ hg (blk_ne hg hh (by decide))).trans hg.symm
  ·have h3:=own_set h.so (i*2+1) (.int .i64 e)
   rw[flat_set hi hf] at h3
   simpa using h3
def KpA(w w':World):Prop:=∀ (k:Nat) (c:Array Value) (t:TypeId) (f:Nat×Nat),w.heap[k]? = some (.cells c t f)->t≠120->t≠9->t≠61->w'.heap[k]? = some (.cells c t f)
theorem KpA.refl(w:World):KpA w w:=fun _ _ _ _ h _ _ _=>h
theorem KpA.trans{w w' w'':World}(h:KpA w w')(h':KpA w' w''):KpA w w'':=fun k c t f hk h1 h2 h3=>h' k c t f (h k c t f hk h1 h2 h3) h1 h2 h3
theorem KpA.of_below{w w':World}(h:Below w.heap.size w w'):KpA w w':=fun k c t f hk _ _ _=>blk_below h hk (blk_lt hk)
theorem AX.kset{w:World}{n0 L mb:Nat}{fs:Fs}{firsts:List Int}{s:AS}{fv nv sv:Value}(h:AX w n0 L mb fs firsts s fv nv sv)(i:Nat)(u:Value):KpA w (w.setCell ⟨L,i,none⟩ u):=fun k c t f hk h1 _ _=>blk_set_other hk (blk_ne hk h.hl h1) i u
theorem AX.kappN{w w':World}{n0 L mb:Nat}{fs:Fs}{firsts:List Int}{s:AS}{fv nv sv:Value}(h:AX w n0 L mb fs firsts s fv nv sv)(o:Obj)(hg:(w.alloc o).grownBy w' nv.ownBlock)(i:Nat)(u:Value):KpA w (w'.setCell ⟨L,i,none⟩ u):=fun k c t f hk h1 h2 _ =>
 blk_set_other (blk_grown hg (blk_alloc hk o) (own_ne h.no hk h2)) (blk_ne hk h.hl h1) i u
theorem AX.kkb{w w':World}{n0 L mb:Nat}{fs:Fs}{firsts:List Int}{s:AS}{fv nv sv:Value}(h:AX w n0 L mb fs firsts s fv nv sv)(hk:Kb L w w'):KpA w w':=fun k c t f hb h1 _ _=>(hk k _ hb (blk_ne hb h.hl h1))
def APost(n0 L mb:Nat)(fs:Fs)(firsts:List Int)(w:World)(r:AS×Bool)(e:Ending)(w':World):Prop :=
 e=(if r.2 then .returned (.tuple #[]) else .panicked damE)/\(∃ fv nv sv,AX w' n0 L mb fs firsts r.1 fv nv sv)/\Below n0 w w'
def APostK(n0 L mb:Nat)(fs:Fs)(firsts:List Int)(w:World)(r:AS×Bool)(e:Ending)(w':World):Prop :=
 APost n0 L mb fs firsts w r e w'/\(r.2=true->KpA w w')
theorem Tryz.infoStr:(Tryz.prog.info? 9).map (fun i=>(i.zero,i.size,i.bytes))=some (some (.string ⟨#[]⟩),1,16):=by kernel_rfl
set_option maxRecDepth 20000 in
theorem aread_any(w:World){n0 L mb:Nat}{fs:Fs}{firsts:List Int}{s:AS}{fv nv sv:Value}(H:AX w n0 L mb fs firsts s fv nv sv)(hn:(fs.map Prod.fst).Nodup)(nm d:Bs)(hlen:s.needed.length<=1000000)(hd:getF fs nm=some d) :
  Calls Tryz.prog 136 #[.pointer (some ⟨L,0,none⟩),.string ⟨nm.toArray⟩] w fun e w'=>∃ a c nv',e = .returned (.slice a d.length c)/\BS w' a c d/\AX w' n0 L mb fs firsts (s.need nm) fv nv' sv/\Below n0 w w'/\KpA w w':=by
 obtain⟨i0,hi0,hz0,hz1,hz2⟩:=info_parts Tryz.infoStr
 have HX:=Lib.hid H
 have HN:=Lib.hid hn
 have HD:=Lib.hid hd
 have HL:=Lib.hid hlen
 have c14:w.cell? ⟨L,14,none⟩=some nv:=H.cells 14
 clear H hn hd hlen
 go_enter Tryz.func136,Tryz.ntmps136
 repeat' ((fail_if_success (with_reducible (show Code.wp _ (Code.region 2 _ _) _ _ _)));first|(at_builtin;refine wpList_append_lies _ rfl _ _ 48 rfl n0 9 i0 _ 1 16 Tryz.underlying48 hi0 hz0 hz1 hz2 rfl (by omega) nv s.needed.length (s.needed.map encS) rfl (own_below HX.out.no ((Below.refl _ _).alloc (Nat.le_refl _) _)) ⟨w.heap.size,0,none⟩ 1 1 [encS nm] rfl rfl (World.news_of_block (cs:=#[.string ⟨nm.toArray⟩]) (t:=9) (fr:=(0,0)) (heap_alloc_new w _)) (by simp[Value.oneCell',encS]) (by omega) (by unfold maxLen;have:=HL.out;omega) (by have:=HL.out;omega) (by have:=HX.out.size;simp;omega) (w.heap.size+1) (by simp) ?_;intro gg cap w12 hown12 hgrow hat hlt12;obtain⟨s0,s1,X13,B13⟩:=HX.out.appN _ hgrow nm hown12;have HX13:=Lib.hid X13;have HB13:=Lib.hid B13;have HK13:=Lib.hid (HX.out.kappN _ hgrow 14 (.slice (some ⟨gg,0,none⟩) (s.needed.length+1) cap));clear X13 B13 hown12 hgrow hat hlt12)|((fail_if_success at_builtin);first|go_values|go_skip|go_guarded|go_step|go_upon|go_back))
 clear s0 s1 c14
 generalize w12.setCell ⟨L,14,none⟩ (.slice (some ⟨gg,0,none⟩) (s.needed.length+1) cap)=w13 at HX13 HB13 HK13 ⊢
 obtain⟨a,c,hbs,hlk⟩:=HX13.out.fm.has HN.out HD.out false
 simp only[Bool.false_eq_true,if_false] at hlk
 have c0:=HX13.out.cells 0
 simp only[LKc,List.getElem?_toArray,List.getElem?_cons_zero] at c0
 repeat' ((fail_if_success at_builtin);first|go_values|go_skip|go_guarded|go_step|go_upon|go_back)
 refine bodyPost_ret (v:=(.slice a d.length c)) (by simp[results,Tryz.results136,go_sem]) rfl ⟨_,_,_,rfl,hbs,HX13.out,HB13.out,HK13.out⟩
structure FsOk (fs:Fs):Prop where
 nodup:(fs.map Prod.fst).Nodup
 len:∀ k d,getF fs k=some d->d.length<=4294967296
theorem AX.setMan{w:World}{n0 L mb:Nat}{fs:Fs}{firsts:List Int}{s:AS}{fv nv sv:Value}(h:AX w n0 L mb fs firsts s fv nv sv)(m:Mf) :
  AX (((((w.setCell ⟨L,8,none⟩ (.int .i64 m.number)).setCell ⟨L,9,none⟩ (.int .i64 m.file)).setCell ⟨L,10,none⟩ (.int .i64 m.mark)).setCell ⟨L,11,none⟩ (.int .i64 m.prev)).setCell ⟨L,12,none⟩ (.int .i64 m.pmark)) n0 L mb fs firsts { s with man:=m } fv nv sv /\
   Below n0 w (((((w.setCell ⟨L,8,none⟩ (.int .i64 m.number)).setCell ⟨L,9,none⟩ (.int .i64 m.file)).setCell ⟨L,10,none⟩ (.int .i64 m.mark)).setCell ⟨L,11,none⟩ (.int .i64 m.prev)).setCell ⟨L,12,none⟩ (.int .i64 m.pmark)):=by
 obtain⟨h1,b1⟩:=h.set { s with man:={ s.man with number:=m.number } } 8 (.int .i64 m.number) rfl rfl rfl
 obtain⟨h2,b2⟩:=h1.set { s with man:={ s.man with number:=m.number,file:=m.file } } 9 (.int .i64 m.file) rfl rfl rfl
 obtain⟨h3,b3⟩:=h2.set { s with man:={ s.man with number:=m.number,file:=m.file,mark:=m.mark } } 10 (.int .i64 m.mark) rfl rfl rfl
 obtain⟨h4,b4⟩:=h3.set { s with man:={ s.man with number:=m.number,file:=m.file,mark:=m.mark,prev:=m.prev } } 11 (.int .i64 m.prev) rfl rfl rfl
 obtain⟨h5,b5⟩:=h4.set { s with man:=m } 12 (.int .i64 m.pmark) rfl rfl rfl
 exact⟨h5,(((b1.trans b2).trans b3).trans b4).trans b5⟩
theorem AX.c7{w:World}{n0 L mb:Nat}{fs:Fs}{firsts:List Int}{s:AS}{fv nv sv:Value}(h:AX w n0 L mb fs firsts s fv nv sv) :
  w.cell? ⟨L,7,none⟩=some (.bool s.has)/\w.cell? ⟨L,8,none⟩=some (.int .i64 s.man.number)/\w.cell? ⟨L,9,none⟩=some (.int .i64 s.man.file)/\w.cell? ⟨L,10,none⟩=some (.int .i64 s.man.mark)/\w.cell? ⟨L,11,none⟩=some (.int .i64 s.man.prev)/\w.cell? ⟨L,12,none⟩=some (.int .i64 s.man.pmark) :=
 ⟨h.cells 7,h.cells 8,h.cells 9,h.cells 10,h.cells 11,h.cells 12⟩
set_option maxRecDepth 20000 in
theorem aman_any(w:World){n0 L mb:Nat}{fs:Fs}{firsts:List Int}{s:AS}{fv nv sv:Value}(H:AX w n0 L mb fs firsts s fv nv sv)(hfs:FsOk fs)(hlen:s.needed.length<=1000000) :
  Calls Tryz.prog 70 #[.pointer (some ⟨L,0,none⟩)] w (APostK n0 L mb fs firsts w (aMan fs s)):=by
 have HX:=Lib.hid H
 have HF:=Lib.hid hfs
 have HL:=Lib.hid hlen
 have c0:w.cell? ⟨L,0,none⟩=some (.map (some mb)):=H.cells 0
 clear H hfs hlen
 cases hd:getF fs manN with
 | none =>
  have hlk:=HX.out.fm.none hd true
  simp only[if_true,manN] at hlk
  have e:aMan fs s=(s,true):=by unfold aMan;rw[hd]
  rw[e]
  clear e hd
  go_enter Tryz.func70,Tryz.ntmps70
  repeat' ((fail_if_success at_builtin);first|go_values|go_skip|go_guarded|go_step|go_upon|go_back)
  refine bodyPost_end (results_none rfl _ _ _) rfl ⟨⟨rfl,⟨_,_,_,HX.out⟩,Below.refl _ _⟩,fun _=>KpA.refl _⟩
 | some d =>
  obtain⟨a0,c0',hbs,hlk⟩:=HX.out.fm.has HF.out.nodup hd true
  simp only[if_true,manN] at hlk
  have HD:=Lib.hid hd
  obtain⟨m,em,hm⟩:∃ m em,decM d=(m,em):=⟨_,_,rfl⟩
  have HM:=Lib.hid hm
  have e:aMan fs s=if em=0 then ({ s.need manN with has:=true,man:=m },true) else (s.need manN,false):=by unfold aMan;rw[hd];simp only[hm]
  have HE:=Lib.hid e
  clear e hd hm hbs
  go_enter Tryz.func70,Tryz.ntmps70
  repeat' ((fail_if_success at_builtin);first|go_values|go_skip|go_guarded|go_step|go_upon|go_back)
  (refine(aread_any w HX.out HF.out.nodup manN d HL.out HD.out).mono ?_;rintro e1 w1 ⟨a,c,nv',rfl,hbs1,hx1,hb1,hk1⟩;dsimp only)
  have HX1:=Lib.hid hx1
  have HB1:=Lib.hid hb1
  have HK1:=Lib.hid hk1
  clear hx1 hb1 hk1 hlk c0
  repeat' ((fail_if_success at_builtin);first|go_values|go_skip|go_guarded|go_step|go_upon|go_back)
  (refine(decM_any w1 a c d hbs1 (by have:=HF.out.len _ _ HD.out;omega)).mono ?_;rintro e1 w2 ⟨rfl,hb2⟩;dsimp only)
  rw[HM.out]
  dsimp only [Mf.cells]
  have m0:=blk_new w2 (.cells #[.int .i64 m.number,.int .i64 m.file,.int .i64 m.mark,.int .i64 m.prev,.int .i64 m.pmark] 46)
  have hb3:Below w1.heap.size w1 (w2.alloc (.cells #[.int .i64 m.number,.int .i64 m.file,.int .i64 m.mark,.int .i64 m.prev,.int .i64 m.pmark] 46)):=hb2.alloc hb2.size _
  have HX3:=Lib.hid (HX1.out.pure hb3)
  have HB3:=Lib.hid (HB1.out.trans (hb3.mono HX1.out.size))
  have HK3:=Lib.hid (HK1.out.trans (KpA.of_below hb3))
  clear hbs1 hb2 hb3
  repeat' ((fail_if_success (with_reducible (show Code.wp _ (Code.region 3 _ _) _ _ _)));(fail_if_success at_builtin);first|go_values|go_skip|go_guarded|go_step|go_upon|go_back)
  generalize w2.alloc (.cells #[.int .i64 m.number,.int .i64 m.file,.int .i64 m.mark,.int .i64 m.prev,.int .i64 m.pmark] 46)=w3 at m0 HX3 HB3 HK3 ⊢
  by_cases hE:em=0
  ·subst hE
   have he:=HE.out
   rw[if_pos rfl] at he
   have HE2:=Lib.hid he
   clear he
   repeat' ((fail_if_success at_builtin);first|go_values|go_skip|go_guarded|go_step|go_upon|go_back)
   (refine(asure_ok _).mono ?_;rintro e1 w4 ⟨rfl,rfl⟩;dsimp only)
   obtain⟨p7,p8,p9,p10,p11,p12⟩:=HX3.out.c7
   have f7:=HX3.out.free 7
   have f8:=HX3.out.free 8
   have f9:=HX3.out.free 9
   have f10:=HX3.out.free 10
   have f11:=HX3.out.free 11
   have f12:=HX3.out.free 12
   have m0':=m0
   obtain⟨m0,m1,m2,m3,m4,-⟩:=blk5 m0
   repeat' ((fail_if_success at_builtin);first|go_values|go_skip|go_guarded|go_step|go_upon|go_back)
   have NG:w2.heap.size≠L:=blk_ne m0' HX3.out.hl (by decide)
   clear m0'
   go_region
   clear m0 m1 m2 m3 m4 p7 p8 p9 p10 p11 p12 f7 f8 f9 f10 f11 f12
   obtain⟨hx4,b4⟩:=HX3.out.set { s.need manN with has:=true } 7 (.bool true) rfl rfl rfl
   obtain⟨hx5,b5⟩:=hx4.setMan m
   refine bodyPost_end (results_none rfl _ _ _) rfl ?_
   rw[HE2.out]
   exact⟨⟨rfl,⟨_,_,_,hx5.pure (Below.refl _ _).drew⟩,((HB3.out.trans b4).trans b5).drew⟩,fun _=>(HK3.out.trans (HX3.out.kkb Kb.set.set'.set'.set'.set'.set')).trans (KpA.of_below (Below.refl _ _).drew)⟩
  ·have t1:(em==0)=false:=by simpa using hE
   have he:=HE.out
   rw[if_neg hE] at he
   have HE2:=Lib.hid he
   clear he hE
   repeat' ((fail_if_success at_builtin);first|go_values|go_skip|go_guarded|go_step|go_upon|go_back)
   (refine(asure_no _).mono ?_;rintro e1 w4 ⟨rfl,rfl⟩;dsimp only)
   exact⟨rfl,by rw[HE2.out];exact⟨⟨rfl,⟨_,_,_,HX3.out⟩,HB3.out⟩,fun h=>by cases h⟩⟩
end Go.Proofs.YtbppnihcbcdglaaGreat
