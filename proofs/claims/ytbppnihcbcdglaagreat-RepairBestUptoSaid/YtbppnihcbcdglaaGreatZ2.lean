/- The Reader of package octet: what each of its methods takes. -/
import Derived.Test.YtbppnihcbcdglaaGreatProg
import Derived.WalkKit
import Derived.WalkLawsBesides
import Derived.WalkSpells
import Derived.KernelRfl
import Derived.Lib.Hide
import Derived.Maps.AppendAt
import Derived.Laws.AppendOwnNone
import Derived.Deep.QuietTactic
import Derived.BigQuiet
import Derived.BigRegion
import Derived.Deep.RegionWith
import Derived.Deep.RegionHeld3
import Derived.StillTailTactics
import Derived.Test.YtbppnihcbcdglaaGreatZ1
namespace Go.Proofs.YtbppnihcbcdglaaGreat
set_option maxHeartbeats 0
open Go.RowKit
def B(b:UInt8):Value := .int .u8 (b.toNat:Int)
theorem B_eq(b:UInt8):B b = .int .u8 (b.toNat:Int):=rfl
def Bts(w:World)(a:Option Addr)(xs:Bs):Prop :=
 xs=[]\/∃ b o,a=some ⟨b,o,none⟩/\∀ i u,xs[i]? = some u->w.cell? ⟨b,o+i,none⟩=some (B u)
theorem Bts.at{w:World}{a:Option Addr}{xs:Bs}(h:Bts w a xs)(hn:0<xs.length) :
  ∃ b o,a=some ⟨b,o,none⟩/\b<w.heap.size/\∀ i u,xs[i]? = some u->w.cell? ⟨b,o+i,none⟩=some (B u):=by
 rcases h with rfl|⟨b,o,rfl,h⟩
 ·simp at hn
 ·refine⟨b,o,rfl,?_,h⟩
  exact World.block_lt_of_cell? w _ (h 0 xs[0] (List.getElem?_eq_getElem hn))
theorem Bts.kept{w w':World}{a:Option Addr}{xs:Bs}(h:Bts w a xs)(hk:∀ b o,a=some ⟨b,o,none⟩->b<w.heap.size->w'.heap[b]? = w.heap[b]?):Bts w' a xs:=by
 rcases h with rfl|⟨b,o,rfl,h⟩
 ·exact .inl rfl
 ·refine .inr ⟨b,o,rfl,fun i u hu=>?_⟩
  have hc:=h i u hu
  exact(World.cell?_of_block (hk b o rfl (World.block_lt_of_cell? w _ hc))).trans hc
theorem Bts.below{w w':World}{a:Option Addr}{xs:Bs}(h:Bts w a xs)(hb:Below w.heap.size w w'):Bts w' a xs:=h.kept fun b _ _ hlt=>hb.block b hlt
structure BS (w:World) (a:Option Addr) (c:Nat) (xs:Bs):Prop where
 le:xs.length<=c
 nil:a=none->c=0
 at_:Bts w a xs
theorem BS.below{w w':World}{a:Option Addr}{c:Nat}{xs:Bs}(h:BS w a c xs)(hb:Below w.heap.size w w'):BS w' a c xs:=⟨h.le,h.nil,h.at_.below hb⟩
theorem BS.nil_{w:World}{c:Nat}{xs:Bs}(h:BS w none c xs):c=0/\xs=[]:=by
 have h1:=h.nil rfl
 have h2:=h.le
 subst h1
 exact⟨rfl,by cases xs with|nil=>rfl|cons a b=>simp at h2⟩
def OwnB(w:World)(n0:Nat)(v:Value)(xs:Bs):Prop:=w.ownsRow n0 5 1 v xs.length (xs.map B)
theorem OwnB.nil(w:World)(n0:Nat):OwnB w n0 (.slice none 0 0) []:=World.ownsRow_nil _ _ _ _
theorem OwnB.shape{w:World}{n0:Nat}{v:Value}{xs:Bs}(h:OwnB w n0 v xs):∃ a c,v = .slice a xs.length c/\BS w a c xs/\∀ b o,a=some ⟨b,o,none⟩->n0<=b:=by
 have h2:=h.2
 rcases h2 with ⟨rfl,h0⟩|⟨g,cap,cur,rfl,hg,hh,hn,hm,hs,ht⟩
 ·have:xs=[]:=by simpa using h0
  subst this
  exact⟨none,0,rfl,⟨by simp,fun _=>rfl,.inl rfl⟩,fun b o e=>by cases e⟩
 ·refine⟨some ⟨g,0,none⟩,cap,rfl,⟨hn,fun e=>(by cases e),.inr ⟨g,0,rfl,fun i u hu=>?_⟩⟩,fun b o e=>by cases e;exact hg⟩
  have:=World.ownsRow.cells (w:=w) h (g:=g) (by simp[Value.ownBlock]) i (B u) (by simp[hu])
  rw[Addr.add_lit] at this
  simpa using this
theorem OwnB.kept{w w':World}{n0:Nat}{v:Value}{xs:Bs}(h:OwnB w n0 v xs)(hk:∀ b,v.ownBlock=some b->b<w.heap.size->w'.heap[b]? = w.heap[b]?):OwnB w' n0 v xs:=by
 obtain⟨h1,h2⟩:=h
 refine⟨h1,?_⟩
 rcases h2 with h2|⟨g,cap,cur,rfl,hg,hh,r⟩
 ·exact .inl h2
 ·exact .inr ⟨g,cap,cur,rfl,hg,(hk g (by simp[Value.ownBlock]) (Array.getElem?_eq_some_iff.1 hh).1).trans hh,r⟩
theorem OwnB.lower{w:World}{n0 n1:Nat}{v:Value}{xs:Bs}(h:OwnB w n0 v xs)(hn:n1<=n0):OwnB w n1 v xs:=by
 obtain⟨h1,h2⟩:=h
 refine⟨h1,?_⟩
 rcases h2 with h2|⟨g,cap,cur,rfl,hg,r⟩
 ·exact .inl h2
 ·exact .inr ⟨g,cap,cur,rfl,by omega,r⟩
theorem Tryz.info5:(Tryz.prog.info? 5).map (fun i=>(i.zero,i.size,i.bytes))=some (some (.int .u8 0),1,1):=by kernel_rfl
theorem wp_appB{w:World}{ops:Array Oper}{rest:List Oper}{o:Oper}{a:Act}{Q:Exit->Act->World->Prop}(hgd:o.guard=none)(s x:Operand)
  (ho:o.op = .call { callee := .builtin .append,args:=#[s,x],argTypes:=#[27,27] })
  (n0:Nat) (v:Value) (xs ys:Bs) (hs:a.eval s=v) (hown:OwnB w n0 v xs) (ax:Option Addr) (c:Nat) (hx:a.eval x = .slice ax ys.length c) (hy:BS w ax c ys)
  (hl:xs.length+ys.length<=100000000000000) (hbase:n0<=w.heap.size)
  (h:∀ v' w',OwnB w' n0 v' (xs++ys)->w.grownBy w' v.ownBlock->wpList Tryz.prog ops Q rest (a.put o.dst v') w'):wpList Tryz.prog ops Q (o :: rest) a w:=by
 obtain⟨i0,hi,hz0,hz1,hz2⟩:=info_parts Tryz.info5
 cases ax with
 | none =>
  obtain⟨rfl,rfl⟩:=hy.nil_
  refine wpList_append_own_none hgd s x 27 ho n0 5 i0 1 Tryz.underlying27 hi v xs.length (xs.map B) hs hown hx ?_
  exact h v w (by simpa using hown) ⟨rfl,rfl,rfl,Nat.le_refl _,fun _ _ _=>rfl⟩
 | some ad =>
  refine wpList_append_own w hgd s x 27 ho n0 5 i0 (.int .u8 0) 1 1 Tryz.underlying27 hi hz0 hz1 hz2 rfl (by decide) v xs.length (xs.map B) hs hown ad ys.length c (ys.map B) hx (by simp) ?_ ?_ (by unfold maxLen;omega) (by omega) hbase ?_
  ·intro j u hj
   rw[List.getElem?_map] at hj
   cases hyj:ys[j]? with
   | none=>rw[hyj] at hj;cases hj
   | some b =>
    rw[hyj] at hj
    obtain rfl:B b=u:=by simpa using hj
    rcases hy.at_ with rfl|⟨g,off,e,hyy⟩
    ·simp at hyj
    ·cases e
     rw[Addr.add_lit]
     exact hyy j b hyj
  ·intro u hu
   obtain⟨b,_,rfl⟩:=List.mem_map.1 hu
   rfl
  ·intro v' w' hown' hg _
   refine h v' w' ?_ hg
   unfold OwnB
   simpa using hown'
structure Fr (w w':World) (S:Nat->Prop):Prop where
 os:w'.os=w.os
 tape:w'.tape=w.tape
 output:w'.output=w.output
 size:w.heap.size<=w'.heap.size
 block:∀ k,k<w.heap.size->¬ S k->w'.heap[k]? = w.heap[k]?
section
variable {w w' w'':World} {S S':Nat->Prop}
theorem Fr.refl(w:World)(S:Nat->Prop):Fr w w S:=⟨rfl,rfl,rfl,Nat.le_refl _,fun _ _ _=>rfl⟩
theorem Fr.trans(h:Fr w w' S)(h':Fr w' w'' S')(hs:∀ k,k<w.heap.size->¬ S k->w'.heap[k]? = w.heap[k]? -> ¬ S' k):Fr w w'' S :=
 ⟨h'.os.trans h.os,h'.tape.trans h.tape,h'.output.trans h.output,Nat.le_trans h.size h'.size,fun k hk hn =>
  have e:=h.block k hk hn
  (h'.block k (Nat.lt_of_lt_of_le hk h.size) (hs k hk hn e)).trans e⟩
theorem Fr.pure(h:Below w.heap.size w w')(S:Nat->Prop):Fr w w' S:=⟨h.os,h.tape,h.output,h.size,fun k hk _=>h.block k hk⟩
theorem Fr.then_below(h:Fr w w' S)(h':Below w'.heap.size w' w''):Fr w w'' S:=h.trans (Fr.pure h' (fun _=>False)) (fun _ _ _ _ h=>h)
theorem Fr.below{B0:Nat}(h:Fr w w' S)(hB:B0<=w.heap.size)(hs:∀ k,k<w.heap.size->S k->B0<=k):Below B0 w w' :=
 ⟨h.os,h.tape,h.output,h.size,fun k hk=>h.block k (by omega) (fun h'=>by have:=hs k (by omega) h';omega)⟩
theorem Fr.blk(h:Fr w w' S){k:Nat}{o:Obj}(hb:w.heap[k]? = some o)(hn:¬ S k):w'.heap[k]? = some o:=(h.block k (Array.getElem?_eq_some_iff.1 hb).1 hn).trans hb
theorem Fr.alloc(h:Fr w w' S)(o:Obj):Fr w (w'.alloc o) S:=h.then_below ((Below.refl _ _).alloc (Nat.le_refl _) o)
theorem Fr.drewN(h:Fr w w' S)(n:Nat):Fr w (w'.drewN n) S:=⟨h.os,h.tape,h.output,h.size,h.block⟩
theorem Fr.setCell(h:Fr w w' S){p:Addr}(hp:S p.block\/w.heap.size<=p.block)(u:Value):Fr w (w'.setCell p u) S :=
 h.trans (S':=fun k=>k=p.block) ⟨rfl,rfl,rfl,by simp[World.setCell],fun k _ hn=>Below.heap_setCell _ _ _ _ hn⟩ (fun k hk hn _ e=>by subst e;rcases hp with hp|hp;exact hn hp;omega)
theorem Fr.grown(h:Fr w w' S){row:Option Nat}(hg:w'.grownBy w'' row)(hr:∀ k,row=some k->S k\/w.heap.size<=k):Fr w w'' S :=
 h.trans (S':=fun k=>row=some k) ⟨hg.os,hg.tape,hg.output,hg.size,fun k hk hn=>hg.block k hk (fun e=>hn e.symm)⟩ (fun k hk hn _ e=>by rcases hr k e with h|h;exact hn h;omega)
end
theorem blk_lt{w:World}{k:Nat}{o:Obj}(h:w.heap[k]? = some o):k<w.heap.size:=(Array.getElem?_eq_some_iff.1 h).1
theorem blk_cell{w:World}{b:Nat}{c:Array Value}{t:TypeId}{f:Nat×Nat}(h:w.heap[b]? = some (.cells c t f))(i:Nat):w.cell? ⟨b,i,none⟩=c[i]? := by simp[World.cell?,h]
theorem blk_free{w:World}{b:Nat}{c:Array Value}{t:TypeId}(h:w.heap[b]? = some (.cells c t (0,0)))(i:Nat):w.frozen? ⟨b,i,none⟩=false:=by simp[World.frozen?,h]
theorem blk_set{w:World}{b:Nat}{c:Array Value}{t:TypeId}{f:Nat×Nat}(h:w.heap[b]? = some (.cells c t f))(i:Nat)(u:Value):(w.setCell ⟨b,i,none⟩ u).heap[b]? = some (.cells (c.setIfInBounds i u) t f):=by
 simp only[World.setCell,Array.getElem?_modify,if_true,h,Option.map_some]
 rfl
theorem blk_set_other{w:World}{b b':Nat}{o:Obj}(h:w.heap[b]? = some o)(hne:b≠b')(i:Nat)(u:Value):(w.setCell ⟨b',i,none⟩ u).heap[b]? = some o:=by rw[Below.heap_setCell _ _ _ _ hne];exact h
theorem blk_alloc{w:World}{b:Nat}{o:Obj}(h:w.heap[b]? = some o)(o':Obj):(w.alloc o').heap[b]? = some o:=by rw[Below.heap_alloc _ _ _ (blk_lt h)];exact h
theorem blk_new(w:World)(o:Obj):(w.alloc o).heap[w.heap.size]? = some o:=heap_alloc_new w o
def U8blk(w:World)(n0 k:Nat):Prop:=n0<=k/\∃ c f,w.heap[k]? = some (.cells c 5 f)
theorem not_U8{w:World}{n0 k:Nat}{c:Array Value}{t:TypeId}{f:Nat×Nat}(h:w.heap[k]? = some (.cells c t f))(ht:t≠5):¬ U8blk w n0 k:=by
 rintro⟨_,c',f',h'⟩
 rw[h] at h'
 injection h' with h'
 injection h' with _ h'
 exact ht h'
def FrW(b n0:Nat)(w w':World):Prop:=Fr w w' (fun k=>k=b\/U8blk w n0 k)
theorem FrW.trans{b n0:Nat}{w w' w'':World}(h:FrW b n0 w w')(h':FrW b n0 w' w''):FrW b n0 w w'' :=
 Fr.trans h h' (fun k _ hn he hs=>hn (by
  rcases hs with hs|⟨h1,c,f,h2⟩
  ·exact .inl hs
  ·exact .inr ⟨h1,c,f,by rw[<-he];exact h2⟩))
theorem OwnB.row{w:World}{n0:Nat}{v:Value}{xs:Bs}(h:OwnB w n0 v xs)(k:Nat)(hk:v.ownBlock=some k):U8blk w n0 k:=by
 rcases h.2 with ⟨rfl,_⟩|⟨g,cap,cur,rfl,hg,hh,r⟩
 ·simp[Value.ownBlock] at hk
 ·have:g=k:=by simpa [Value.ownBlock] using hk
  subst this
  exact⟨hg,cur,_,hh⟩
theorem OwnB.ne{w:World}{n0 b:Nat}{v:Value}{xs:Bs}{c:Array Value}{t:TypeId}{f:Nat×Nat}(ho:OwnB w n0 v xs)(h:w.heap[b]? = some (.cells c t f))(ht:t≠5):v.ownBlock≠some b :=
 fun hb=>not_U8 h ht (ho.row b hb)
theorem bts_conv(w:World)(s:ByteArray)(c:Nat)(f:Nat×Nat):Bts (w.alloc (.cells (bytesRow s c) 5 f)) (some ⟨w.heap.size,0,none⟩) s.data.toList:=by
 refine .inr ⟨_,_,rfl,fun i u hu=>?_⟩
 have hl:i<s.data.size:=by
  rcases Nat.lt_or_ge i s.data.size with h|h
  ·exact h
  ·rw[List.getElem?_eq_none (by simpa using h)] at hu;cases hu
 rw[blk_cell (blk_new w _),Nat.zero_add,bytesRow_at s c i hl]
 have:s.data[i]=u:=by rw[Array.getElem?_toList,Array.getElem?_eq_getElem hl] at hu;exact Option.some.inj hu
 rw[this]
 rfl
theorem grownCap_size(w:World)(n o:Nat)(e:TypeId):n<=grownCap w n o e:=grownCap_ge w n o e
theorem run_sbytes(W:World)(s:ByteArray):(convert 9 27 (.string s)).run Tryz.prog W = .ok (.slice (some ⟨W.heap.size,0,none⟩) s.size (grownCap W s.size 0 5))
   (W.drew.alloc (.cells (bytesRow s (grownCap W s.size 0 5)) 5 ((bytesRow s (grownCap W s.size 0 5)).size,(bytesRow s (grownCap W s.size 0 5)).size+1))) :=
 run_bytes_of_string W 9 27 5 s Tryz.underlying9 Tryz.underlying27 Tryz.underlying5
theorem run_bnil(W:World)(a:Option Addr)(n c:Nat):(binOp .eql 27 (.slice a n c) (.slice none 0 0)).run Tryz.prog W = .ok (.bool a.isNone) W :=
 Lib.run_eql_slice_nil W 27 5 a n c 0 0 Tryz.underlying27
theorem own_empty(w:World)(n0:Nat)(h:n0<=w.heap.size):OwnB (w.alloc (.cells #[] 5)) n0 (.slice (some ⟨w.heap.size,0,none⟩) 0 0) [] :=
 World.ownsRow_made w #[] 0 h (by unfold maxLen;omega) rfl
theorem bts_one{w:World}{x:Int}{u:UInt8}(h:x=u.toNat):BS (w.alloc (.cells #[.int .u8 x] 5)) (some ⟨w.heap.size,0,none⟩) 1 [u]:=by
 subst h
 refine⟨Nat.le_refl _,(fun h=>nomatch h),.inr ⟨_,_,rfl,fun i y hy=>?_⟩⟩
 match i,hy with
 | 0,hy =>
  obtain rfl:u=y:=by simpa using hy
  simp[B]
theorem FrW.before{b n0:Nat}{w w' w'':World}(hb:Below w.heap.size w w')(h:FrW b n0 w' w''):FrW b n0 w w'':=FrW.trans (Fr.pure hb _) h
theorem FrW.blk{b n0:Nat}{w w':World}(h:FrW b n0 w w'){k:Nat}{c:Array Value}{t:TypeId}{f:Nat×Nat}(hk:w.heap[k]? = some (.cells c t f))(hne:k≠b)(ht:t≠5):w'.heap[k]? = some (.cells c t f) :=
 Fr.blk h hk (fun hs=>hs.elim hne (not_U8 hk ht))
theorem FrW.below{b n0:Nat}{w w':World}(h:FrW b n0 w w'){n:Nat}(hb:n<=b)(hn:n<=n0)(hs:n<=w.heap.size):Below n w w' :=
 Fr.below h hs (fun k _ hk=>by rcases hk with rfl|⟨h1,_⟩ <;> omega)
theorem blk_new1(w:World)(o1 o2:Obj):((w.alloc o1).alloc o2).heap[w.heap.size+1]? = some o2:=by rw[<-World.size_alloc w o1];exact blk_new _ _
theorem blk_new2(w:World)(o1 o2 o3:Obj):(((w.alloc o1).alloc o2).alloc o3).heap[w.heap.size+1+1]? = some o3:=by rw[<-World.size_alloc w o1];exact blk_new1 _ _ _
theorem blk_new3(w:World)(o1 o2 o3 o4:Obj):((((w.alloc o1).alloc o2).alloc o3).alloc o4).heap[w.heap.size+1+1+1]? = some o4:=by rw[<-World.size_alloc w o1];exact blk_new2 _ _ _ _
theorem blk_grown{w w':World}{row:Option Nat}{k:Nat}{o:Obj}(hg:w.grownBy w' row)(h:w.heap[k]? = some o)(hn:row≠some k):w'.heap[k]? = some o:=(hg.block k (blk_lt h) (fun e=>hn e.symm)).trans h
theorem blk_below{w w':World}{k n:Nat}{o:Obj}(hb:Below n w w')(h:w.heap[k]? = some o)(hn:k<n):w'.heap[k]? = some o:=(hb.block k hn).trans h
theorem OwnB.set{w:World}{n0:Nat}{v:Value}{xs:Bs}(ho:OwnB w n0 v xs){b:Nat}{c:Array Value}{t:TypeId}{f:Nat×Nat}(h:w.heap[b]? = some (.cells c t f))(ht:t≠5)(i:Nat)(u:Value):OwnB (w.setCell ⟨b,i,none⟩ u) n0 v xs :=
 ho.kept fun k hk _=>Below.heap_setCell _ _ _ _ (fun e=>ho.ne h ht (by rw[hk];exact congrArg some e))
theorem OwnB.bs{w:World}{n0:Nat}{a:Option Addr}{n c:Nat}{xs:Bs}(h:OwnB w n0 (.slice a n c) xs):BS w a c xs:=by
 obtain⟨a',c',e,h1,-⟩:=h.shape
 cases e
 exact h1
theorem blk2{w:World}{b:Nat}{x y:Value}{t:TypeId}(h:w.heap[b]? = some (.cells #[x,y] t (0,0))) :
  w.cell? ⟨b,0,none⟩=some x/\w.cell? ⟨b,1,none⟩=some y/\w.frozen? ⟨b,0,none⟩=false/\w.frozen? ⟨b,1,none⟩=false :=
 ⟨blk_cell h 0,blk_cell h 1,blk_free h 0,blk_free h 1⟩
theorem blk1{w:World}{b:Nat}{x:Value}{t:TypeId}(h:w.heap[b]? = some (.cells #[x] t (0,0))) :
  w.cell? ⟨b,0,none⟩=some x/\w.frozen? ⟨b,0,none⟩=false:=⟨blk_cell h 0,blk_free h 0⟩
theorem blk3{w:World}{b:Nat}{x y z:Value}{t:TypeId}(h:w.heap[b]? = some (.cells #[x,y,z] t (0,0))) :
  w.cell? ⟨b,0,none⟩=some x/\w.cell? ⟨b,1,none⟩=some y/\w.cell? ⟨b,2,none⟩=some z/\w.frozen? ⟨b,0,none⟩=false/\w.frozen? ⟨b,1,none⟩=false/\w.frozen? ⟨b,2,none⟩=false :=
 ⟨blk_cell h 0,blk_cell h 1,blk_cell h 2,blk_free h 0,blk_free h 1,blk_free h 2⟩
theorem blk4{w:World}{b:Nat}{x y z u:Value}{t:TypeId}(h:w.heap[b]? = some (.cells #[x,y,z,u] t (0,0))) :
  w.cell? ⟨b,0,none⟩=some x/\w.cell? ⟨b,1,none⟩=some y/\w.cell? ⟨b,2,none⟩=some z/\w.cell? ⟨b,3,none⟩=some u/\w.frozen? ⟨b,0,none⟩=false/\w.frozen? ⟨b,1,none⟩=false/\w.frozen? ⟨b,2,none⟩=false/\w.frozen? ⟨b,3,none⟩=false :=
 ⟨blk_cell h 0,blk_cell h 1,blk_cell h 2,blk_cell h 3,blk_free h 0,blk_free h 1,blk_free h 2,blk_free h 3⟩
theorem BS.kept{w w':World}{a:Option Addr}{c:Nat}{xs:Bs}(h:BS w a c xs)(hk:∀ b o,a=some ⟨b,o,none⟩->b<w.heap.size->w'.heap[b]? = w.heap[b]?):BS w' a c xs:=⟨h.le,h.nil,h.at_.kept hk⟩
theorem BS.set{w:World}{a:Option Addr}{c:Nat}{xs:Bs}(h:BS w a c xs){b:Nat}{cs:Array Value}{t:TypeId}{f:Nat×Nat}(hb:w.heap[b]? = some (.cells cs t f))(hn:∀ v,v∈cs.toList->∀ u,v≠B u)(i:Nat)(u:Value):BS (w.setCell ⟨b,i,none⟩ u) a c xs:=by
 refine⟨h.le,h.nil,?_⟩
 rcases h.at_ with h0|⟨g,o,rfl,hc⟩
 ·exact .inl h0
 ·by_cases hg:g=b
  ·subst hg
   refine .inl ?_
   cases hx:xs with
   | nil=>rfl
   | cons y ys =>
    have h0:=hc 0 y (by rw[hx];rfl)
    rw[blk_cell hb] at h0
    exact absurd rfl (hn (B y) (Array.mem_toList_iff.2 (Array.mem_of_getElem? h0)) y)
  ·exact .inr ⟨g,o,rfl,fun i u hu=>by rw[World.cell?_setCell_other _ _ _ _ (fun e=>hg (congrArg Addr.block e).symm)];exact hc i u hu⟩
theorem box1(w:World)(o1:Obj):∃ W,Hid (W=w.alloc o1)/\Below w.heap.size w W/\W.heap[w.heap.size]? = some o1/\W.heap.size=w.heap.size+1 :=
 ⟨_,Lib.hid rfl,(Below.refl _ _).alloc (Nat.le_refl _) _,blk_new _ _,World.size_alloc _ _⟩
theorem box2(w:World)(o1 o2:Obj):∃ W,Hid (W=(w.alloc o1).alloc o2)/\Below w.heap.size w W/\W.heap[w.heap.size]? = some o1/\W.heap[w.heap.size+1]? = some o2/\W.heap.size=w.heap.size+2 :=
 ⟨_,Lib.hid rfl,((Below.refl _ _).alloc (Nat.le_refl _) _).alloc (by simp) _,blk_alloc (blk_new _ _) _,blk_new1 _ _ _,by simp⟩
def Dr(w w':World):Prop:=∃ n,w.drewN n=w'
theorem Dr.refl(w:World):Dr w w:=⟨0,rfl⟩
theorem Dr.drewN{w w':World}(h:Dr w w')(m:Nat):Dr w (w'.drewN m):=by
 obtain⟨n,rfl⟩:=h
 exact⟨n+m,by simp[World.drewN,Nat.add_assoc]⟩
theorem Dr.of(w:World)(n:Nat):Dr w (w.drewN n):=⟨n,rfl⟩
theorem bdrewN{B0:Nat}{a w:World}(h:Below B0 a w)(n:Nat):Below B0 a (w.drewN n):=⟨h.os,h.tape,h.output,h.size,h.block⟩
set_option linter.unusedVariables false
set_option linter.unusedSimpArgs false
def Wr(w:World)(n0 b:Nat)(e:Int)(xs:Bs):Prop :=
 n0<=b/\∃ v,w.heap[b]? = some (.cells #[v,.int .i64 e] 83 (0,0))/\OwnB w n0 v xs
theorem Wr.below{w w':World}{n0 b:Nat}{e:Int}{xs:Bs}(h:Wr w n0 b e xs)(hb:Below w.heap.size w w'):Wr w' n0 b e xs:=by
 obtain⟨h1,v,h2,h3⟩:=h
 exact⟨h1,v,(hb.block b (blk_lt h2)).trans h2,h3.kept fun k _ hk=>hb.block k hk⟩
theorem lay_any(w:World)(n0 b:Nat)(e:Int)(xs:Bs)(hW:Wr w n0 b e xs)(ax:Option Addr)(c:Nat)(ys:Bs)(hy:BS w ax c ys)
  (hl:xs.length+ys.length<=100000000000000) :
  Calls Tryz.prog 101 #[.pointer (some ⟨b,0,none⟩),.slice ax ys.length c] w fun e' w'=>e' = .returned (.tuple #[]) /\
   Wr w' n0 b e (lay e xs ys)/\FrW b n0 w w':=by
 obtain⟨hb,v,hblk,hown⟩:=hW
 have c0:=blk_cell hblk 0
 have c1:=blk_cell hblk 1
 have f0:=blk_free hblk 0
 simp at c0 c1
 have hrow:=hown.ne hblk (by decide)
 by_cases h0:e=0
 ·subst h0
  go_enter Tryz.func101,Tryz.ntmps101
  repeat' (first|(at_builtin;refine wp_appB rfl _ _ rfl n0 v xs ys rfl hown ax c rfl hy hl (by have:=blk_lt hblk;omega) ?_;intro v' w' hown' hg';obtain⟨a',c',rfl,-,-⟩:=hown'.shape;simp only[List.length_append] at hown';have hblk':=(hg'.block b (blk_lt hblk) (fun e=>hrow e.symm)).trans hblk;have d0:=blk_cell hblk' 0;have g0:=blk_free hblk' 0;simp at d0)|((fail_if_success at_builtin);first|go_values|go_skip|go_guarded|go_step|go_upon|go_back))
  refine bodyPost_end (results_none rfl _ _ _) rfl ⟨rfl,⟨hb,_,blk_set hblk' 0 _,?_⟩,?_⟩
  ·rw[lay_0]
   exact hown'.kept fun k hk _=>Below.heap_setCell _ _ _ _ (fun e=>hown'.ne hblk' (by decide) (by rw[hk];exact congrArg some e))
  ·exact((Fr.refl w _).grown hg' (fun k hk => .inl (.inr (hown.row k hk)))).setCell (.inl (.inl rfl)) _
 ·go_enter Tryz.func101,Tryz.ntmps101
  have h0':(e==0)=false:=by simpa using h0
  repeat' (first|fail|((fail_if_success at_builtin);first|go_values|go_skip|go_guarded|go_step|go_upon|go_back))
  go_end0
  exact⟨rfl,⟨hb,v,hblk,by rw[lay_ne h0];exact hown⟩,Fr.refl _ _⟩
theorem or128:∀ x,x<256->x ||| 128=x%128+128:=by decide +kernel
theorem byte_or(m:Nat):bits BinOp.or IntKind.u8 ((m:Int)%256) 128=((UInt8.ofNat (m%128+128)).toNat:Int):=by
 have h:=u8_or_nat (m%256) 128 (by omega) (by omega)
 rw[or128 _ (by omega)] at h
 rw[show ((m:Int)%256)=((m%256:Nat):Int) by omega,show (128:Int)=((128:Nat):Int) from rfl,h]
 simp;omega
set_option maxRecDepth 20000 in
theorem sevens_any(u:Nat)(w:World)(hu:u<18446744073709551616) :
  Calls Tryz.prog 102 #[.int .u64 u] w fun e w'=>∃ v,e = .returned v/\OwnB w' w.heap.size v (sevens u)/\Below w.heap.size w w':=by
 have HU:=Lib.hid hu
 clear hu
 go_enter Tryz.func102,Tryz.ntmps102
 repeat' (first|fail|((fail_if_success at_builtin);first|go_values|go_skip|go_guarded|go_step|go_upon|go_back))
 go_loopw [0,3] (fun x v wr=>∃ (m:Nat) (pre:Bs),x = .int .u64 m/\m<=u/\sevens u=pre++sevens m/\OwnB wr w.heap.size v pre/\Below w.heap.size w wr)
  (fun x _ _=>(intOf x).toNat)
 case atStart=>exact⟨u,[],rfl,Nat.le_refl _,rfl,OwnB.nil _ _,Below.refl _ _⟩
 case round =>
  obtain⟨m,pre,rfl,hm,hs,hown,hb⟩:=hrel
  have hpl:pre.length<=10:=by have:=congrArg List.length hs;have:=sevens_len HU.out;simp at *;omega
  have HS:=Lib.hid hs
  clear hs
  have hsz:=hb.size
  by_cases h:m<128
  ·have hx:Hid ((m:Int)=((UInt8.ofNat m).toNat:Int)):=Lib.hid (by simp;omega)
   repeat' (first|(at_builtin;refine wp_appB rfl _ _ rfl w.heap.size _ pre [UInt8.ofNat m] rfl (hown.kept (fun b hb hlt=>Below.heap_alloc _ _ _ hlt)) (some ⟨wr.heap.size,0,none⟩) 1 rfl (bts_one hx.out) (by show pre.length+1<=_;omega) (by rw[World.size_alloc];omega) ?_;intro v' w' hown' hg')|((fail_if_success at_builtin);first|go_values|go_skip|go_guarded|go_step|go_upon|go_back))
   refine bodyPost_ret (results_tmp rfl _ _ _) rfl ⟨_,rfl,?_,?_⟩
   ·rw[HS.out,sevens_lt h];exact hown'
   ·exact(hb.alloc hsz _).grown hg' (by rw[World.size_alloc];omega) (fun k hk=>(hown.row k hk).1)
  ·have hx:Hid (bits BinOp.or IntKind.u8 ((m:Int)%256) 128=((UInt8.ofNat (m%128+128)).toNat:Int)):=Lib.hid (byte_or m)
   repeat' (first|(at_builtin;refine wp_appB rfl _ _ rfl w.heap.size _ pre [UInt8.ofNat (m%128+128)] rfl (hown.kept (fun b hb hlt=>Below.heap_alloc _ _ _ hlt)) (some ⟨wr.heap.size,0,none⟩) 1 rfl (bts_one hx.out) (by show pre.length+1<=_;omega) (by rw[World.size_alloc];omega) ?_;intro v' w' hown' hg')|((fail_if_success at_builtin);first|go_values|go_skip|go_guarded|go_step|go_upon|go_back))
   go_roundw
   case rel=>exact⟨m / 128,pre++[UInt8.ofNat (m%128+128)],by simp,by omega,by rw[HS.out,sevens_ge (by omega)];simp,hown',(hb.alloc hsz _).grown hg' (by rw[World.size_alloc];omega) (fun k hk=>(hown.row k hk).1)⟩
   case measure=>simp[intOf];omega
theorem clone_any(w:World)(ax:Option Addr)(c:Nat)(ys:Bs)(hy:BS w ax c ys)(hl:ys.length<=35184372088832) :
  Calls Tryz.prog 65 #[.slice ax ys.length c] w fun e w'=>∃ v,e = .returned v/\OwnB w' w.heap.size v ys/\Below w.heap.size w w':=by
 have HL:=Lib.hid hl
 clear hl
 cases ax with
 | none =>
  obtain⟨rfl,rfl⟩:=hy.nil_
  have hn:∀ W,(binOp .eql 27 (.slice none 0 0) (.slice none 0 0)).run Tryz.prog W = .ok (.bool true) W:=fun W=>run_bnil W none 0 0
  go_enter Tryz.func65,Tryz.ntmps65
  repeat' (first|fail|((fail_if_success at_builtin);first|go_values|go_skip|go_guarded|go_step|go_upon|go_back))
  refine bodyPost_ret (results_tmp rfl _ _ _) rfl ⟨_,rfl,OwnB.nil _ _,Below.refl _ _⟩
 | some ad =>
  have hn:∀ W,(binOp .eql 27 (.slice (some ad) ys.length c) (.slice none 0 0)).run Tryz.prog W = .ok (.bool false) W:=fun W=>run_bnil W (some ad) ys.length c
  have hb1:=(Below.refl w.heap.size w).alloc (Nat.le_refl _) (.cells #[] 5)
  have ho:=own_empty w w.heap.size (Nat.le_refl _)
  go_enter Tryz.func65,Tryz.ntmps65
  repeat' (first|(at_builtin;refine wp_appB rfl _ _ rfl w.heap.size _ [] ys rfl ho (some ad) c rfl (hy.below hb1) (by have:=HL.out;simp;omega) (by rw[World.size_alloc];omega) ?_;intro v' w' hown' hg')|((fail_if_success at_builtin);first|go_values|go_skip|go_guarded|go_step|go_upon|go_back))
  refine bodyPost_ret (results_tmp rfl _ _ _) rfl ⟨v',rfl,hown',hb1.grown hg' (by rw[World.size_alloc];omega) (fun k hk=>(ho.row k hk).1)⟩
theorem wnumber_any(w:World)(n0 b:Nat)(e:Int)(xs:Bs)(hW:Wr w n0 b e xs)(x:Nat)(hx:x<9223372036854775808)(hl:xs.length<=35184372088832)(hn:n0<=w.heap.size) :
  Calls Tryz.prog 43 #[.pointer (some ⟨b,0,none⟩),.int .i64 x] w fun e' w'=>e' = .returned (.tuple #[]) /\
   Wr w' n0 b e (lay e xs (sevens x))/\FrW b n0 w w':=by
 have HX:Hid (x<18446744073709551616):=Lib.hid (by omega)
 have HL:=Lib.hid hl
 clear hx hl
 have hsl:=sevens_len HX.out
 go_enter Tryz.func43,Tryz.ntmps43
 repeat' (first|(go_at_call 102;rw[show IntKind.u64.wrap (x:Int)=x from IntWalk.u64_in _ (by have:=HX.out;omega)];refine(sevens_any x _ HX.out).mono ?_;rintro e1 w1 ⟨v,rfl,ho,hb⟩;obtain⟨a,c,rfl,hbt,-⟩:=ho.shape;dsimp only)|(go_at_call 101;refine(lay_any _ n0 b e xs (hW.below hb) a c (sevens x) hbt (by have:=HL.out;omega)).mono ?_;rintro e1 w2 ⟨rfl,hW2,hf2⟩;skip;dsimp only)|((fail_if_success at_builtin);first|go_values|go_skip|go_guarded|go_step|go_upon|go_back))
 refine bodyPost_end (results_none rfl _ _ _) rfl ⟨rfl,hW2,FrW.before hb hf2⟩
theorem wdata_any(w:World)(n0 b:Nat)(e:Int)(xs:Bs)(hW:Wr w n0 b e xs)(hl:xs.length<=35184372088832) :
  Calls Tryz.prog 45 #[.pointer (some ⟨b,0,none⟩)] w fun e' w'=>∃ v,e' = .returned v/\OwnB w' w.heap.size v xs/\Below w.heap.size w w':=by
 obtain⟨hb,v,hblk,hown⟩:=hW
 obtain⟨a,c,rfl,hbt,-⟩:=hown.shape
 have HL:=Lib.hid hl
 clear hl
 have c0:=blk_cell hblk 0
 simp at c0
 go_enter Tryz.func45,Tryz.ntmps45
 repeat' (first|(go_at_call 65;refine(clone_any _ a c xs hbt HL.out).mono ?_;rintro e1 w1 ⟨v,rfl,ho,hb⟩;skip;dsimp only)|((fail_if_success at_builtin);first|go_values|go_skip|go_guarded|go_step|go_upon|go_back))
 refine bodyPost_ret (results_tmp rfl _ _ _) rfl ⟨v,rfl,ho,hb⟩
theorem wtext1_any(w:World)(n0 b:Nat)(e:Int)(xs:Bs)(hW:Wr w n0 b e xs)(s:ByteArray)(b1 b2:Nat)(hl:xs.length<=35184372088832)(hs:s.size<=35184372088832)(hn:n0<=w.heap.size)
  (h1:w.heap[b1]? = some (.cells #[.pointer (some ⟨b,0,none⟩)] 181 (0,0))) (h2:w.heap[b2]? = some (.cells #[.string s] 9 (0,0))) :
  Calls Tryz.prog 178 #[.pointer (some ⟨b1,0,none⟩),.pointer (some ⟨b2,0,none⟩)] w fun e' w'=>e' = .returned (.tuple #[]) /\
   Wr w' n0 b e (lay e xs (sevens s.size))/\FrW b n0 w w':=by
 have c1:=blk_cell h1 0
 have c2:=blk_cell h2 0
 simp at c1 c2
 have HL:=Lib.hid hl
 have HS:=Lib.hid hs
 clear hl hs
 go_enter Tryz.func178,Tryz.ntmps178
 repeat' (first|(go_at_call 43;refine(wnumber_any _ n0 b e xs hW s.size (by have:=HS.out;omega) HL.out hn).mono ?_;rintro e1 w2 ⟨rfl,hW2,hf2⟩;skip;dsimp only)|((fail_if_success at_builtin);first|go_values|go_skip|go_guarded|go_step|go_upon|go_back))
 refine bodyPost_end (results_none rfl _ _ _) rfl ⟨rfl,hW2,hf2⟩
theorem wtext2_any(w:World)(n0 b:Nat)(e:Int)(xs:Bs)(hW:Wr w n0 b e xs)(s:ByteArray)(b1 b2:Nat)(hl:xs.length<=35184372088842)(hs:s.size<=35184372088832)
  (h1:w.heap[b1]? = some (.cells #[.pointer (some ⟨b,0,none⟩)] 181 (0,0))) (h2:w.heap[b2]? = some (.cells #[.string s] 9 (0,0))) :
  Calls Tryz.prog 179 #[.pointer (some ⟨b1,0,none⟩),.pointer (some ⟨b2,0,none⟩)] w fun e' w'=>e' = .returned (.tuple #[]) /\
   Wr w' n0 b e (lay e xs (s.data.toList))/\FrW b n0 w w':=by
 have c1:=blk_cell h1 0
 have c2:=blk_cell h2 0
 simp at c1 c2
 have HL:=Lib.hid hl
 have HS:=Lib.hid hs
 clear hl hs
 have hcv:=fun W=>run_sbytes W s
 have hb1:Below w.heap.size w (w.alloc (.cells (bytesRow s (grownCap w s.size 0 5)) 5 ((bytesRow s (grownCap w s.size 0 5)).size,(bytesRow s (grownCap w s.size 0 5)).size+1))).drew:=((Below.refl _ _).alloc (Nat.le_refl _) _).drew
 go_enter Tryz.func179,Tryz.ntmps179
 repeat' ((fail_if_success at_builtin);first|go_values|go_skip|go_guarded|go_step|go_upon|go_back)
 (refine(lay_any _ n0 b e xs (hW.below hb1) (some ⟨w.heap.size,0,none⟩) (grownCap w s.size 0 5) s.data.toList ⟨grownCap_size _ _ _ _,(fun h=>nomatch h),bts_conv _ _ _ _⟩ (by have:=HL.out;have:=HS.out;show xs.length+s.size<=_;omega)).mono ?_;rintro e1 w2 ⟨rfl,hW2,hf2⟩;dsimp only;(repeat' ((fail_if_success at_builtin);first|go_values|go_skip|go_guarded|go_step|go_upon|go_back)))
 refine bodyPost_end (results_none rfl _ _ _) rfl ⟨rfl,hW2,FrW.before hb1 hf2⟩
theorem wtext_any(w:World)(n0 b:Nat)(e:Int)(xs:Bs)(hW:Wr w n0 b e xs)(s:ByteArray)(hl:xs.length<=35184372088832)(hs:s.size<=35184372088832)(hn:n0<=w.heap.size) :
  Calls Tryz.prog 108 #[.pointer (some ⟨b,0,none⟩),.string s] w fun e' w'=>e' = .returned (.tuple #[]) /\
   Wr w' n0 b e (lay e xs (text s.data.toList))/\FrW b n0 w w':=by
 have HL:=Lib.hid hl
 have HS:=Lib.hid hs
 clear hl hs
 have hbl:=blk_lt hW.2.choose_spec.1
 have hsl:=sevens_len (u:=s.size) (by have:=HS.out;omega)
 obtain⟨W1,hW1⟩:∃ W1,W1=((w.alloc (.cells #[.pointer (some ⟨b,0,none⟩)] 181)).alloc (.cells #[.string s] 9)).alloc (.cells #[.func (.func 178) #[] #[.pointer (some ⟨w.heap.size,0,none⟩),.pointer (some ⟨w.heap.size+1,0,none⟩)],.func (.func 179) #[] #[.pointer (some ⟨w.heap.size,0,none⟩),.pointer (some ⟨w.heap.size+1,0,none⟩)]] 1):=⟨_,rfl⟩
 have hb1:Below w.heap.size w W1:=by rw[hW1];exact(((Below.refl _ _).alloc (Nat.le_refl _) _).alloc (by simp) _).alloc (by simp;omega) _
 have k0:W1.heap[w.heap.size]? = some (.cells #[.pointer (some ⟨b,0,none⟩)] 181 (0,0)):=by rw[hW1];exact blk_alloc (blk_alloc (blk_new _ _) _) _
 have k1:W1.heap[w.heap.size+1]? = some (.cells #[.string s] 9 (0,0)):=by rw[hW1,<-World.size_alloc w (.cells #[.pointer (some ⟨b,0,none⟩)] 181)];exact blk_alloc (blk_new _ _) _
 have k2:W1.heap[w.heap.size+1+1]? = some (.cells #[.func (.func 178) #[] #[.pointer (some ⟨w.heap.size,0,none⟩),.pointer (some ⟨w.heap.size+1,0,none⟩)],.func (.func 179) #[] #[.pointer (some ⟨w.heap.size,0,none⟩),.pointer (some ⟨w.heap.size+1,0,none⟩)]] 1 (0,0)):=by
  rw[hW1,show w.heap.size+1+1=((w.alloc (.cells #[.pointer (some ⟨b,0,none⟩)] 181)).alloc (.cells #[.string s] 9)).heap.size by simp];exact blk_new _ _
 have hn1:n0<=W1.heap.size:=Nat.le_trans hn hb1.size
 have HW1:=Lib.hid hW1
 clear hW1
 go_enter Tryz.func108,Tryz.ntmps108
 repeat' ((fail_if_success at_builtin);first|go_values|go_skip|go_guarded|go_step|go_upon|go_back)
 refine wp_loop_rounds 3 ?_
 rw[rounds_succ]
 repeat' ((fail_if_success at_builtin);first|go_values|go_skip|go_guarded|go_step|go_upon|go_back)
 rw[<-HW1.out]
 refine(wtext1_any W1 n0 b e xs (hW.below hb1) s _ _ HL.out HS.out hn1 k0 k1).mono ?_
 rintro e1 w1 ⟨rfl,hW2,hf2⟩
 dsimp only
 have m0:=hf2.blk k0 (by omega) (by decide)
 have m1:=hf2.blk k1 (by omega) (by decide)
 have m2:=hf2.blk k2 (by omega) (by decide)
 have d1:=blk_cell m2 1
 simp at d1
 repeat' ((fail_if_success at_builtin);first|go_values|go_skip|go_guarded|go_step|go_upon|go_back)
 rw[rounds_succ]
 repeat' ((fail_if_success at_builtin);first|go_values|go_skip|go_guarded|go_step|go_upon|go_back)
 refine(wtext2_any w1 n0 b e _ hW2 s _ _ ?_ HS.out m0 m1).mono ?_
 ·have:=HL.out
  have:=lay_len e xs (sevens s.size)
  omega
 rintro e1 w3 ⟨rfl,hW3,hf3⟩
 dsimp only
 repeat' ((fail_if_success at_builtin);first|go_values|go_skip|go_guarded|go_step|go_upon|go_back)
 rw[rounds_succ]
 repeat' ((fail_if_success at_builtin);first|go_values|go_skip|go_guarded|go_step|go_upon|go_back)
 refine bodyPost_end (results_none rfl _ _ _) rfl ⟨rfl,?_,FrW.before hb1 (FrW.trans hf2 hf3)⟩
 have:(s.data.toList).length=s.size:=rfl
 rw[lay_lay,<-this] at hW3
 exact hW3
def TyB(w:World)(a:Option Addr):Prop:=∀ (g o:Nat),a=some ⟨g,o,none⟩->∃ (cur:Array Value) (f:Nat×Nat),w.heap[g]? = some (.cells cur 5 f)
theorem TyB.kept{w w':World}{a:Option Addr}(h:TyB w a)(hk:∀ (g:Nat) (cur:Array Value) (f:Nat×Nat),w.heap[g]? = some (.cells cur 5 f)->w'.heap[g]? = some (.cells cur 5 f)):TyB w' a:=fun g o e=>by
 obtain⟨cur,f,hg⟩:=h g o e
 exact⟨cur,f,hk g cur f hg⟩
theorem TyB.set{w:World}{a:Option Addr}(h:TyB w a)(b i:Nat)(u:Value):TyB (w.setCell ⟨b,i,none⟩ u) a:=fun g o e=>by
 obtain⟨cur,f,hg⟩:=h g o e
 by_cases hb:g=b
 ·subst hb;exact⟨_,_,blk_set hg i u⟩
 ·exact⟨cur,f,blk_set_other hg hb i u⟩
theorem TyB.below{w w':World}{a:Option Addr}(h:TyB w a)(hb:Below w.heap.size w w'):TyB w' a:=h.kept fun g cur f hg=>blk_below hb hg (blk_lt hg)
def Rd(w:World)(b:Nat)(r:RS):Prop :=
 ∃ a c,w.heap[b]? = some (.cells #[.slice a r.d.length c,.int .i64 (r.i:Int),.int .i64 r.e] 207 (0,0))/\BS w a c r.d/\r.i<=r.d.length/\r.d.length<=17592186044416/\TyB w a
theorem BS.drewN{w:World}{a:Option Addr}{c:Nat}{xs:Bs}(h:BS w a c xs)(n:Nat):BS (w.drewN n) a c xs:=⟨h.le,h.nil,h.at_⟩
theorem Rd.drewN{w:World}{b:Nat}{r:RS}(h:Rd w b r)(n:Nat):Rd (w.drewN n) b r:=by
 obtain⟨a,c,h1,h2,h3⟩:=h
 exact⟨a,c,h1,h2.drewN n,h3⟩
theorem Rd.lt{w:World}{b:Nat}{r:RS}(h:Rd w b r):b<w.heap.size:=by obtain⟨a,c,h1,_⟩:=h;exact blk_lt h1
theorem BS.not_in{w:World}{a:Option Addr}{c:Nat}{xs:Bs}(h:BS w a c xs){b:Nat}{x:Value}{e:Int}{cs:Array Value}{t:TypeId}{f:Nat×Nat}(hb:w.heap[b]? = some (.cells cs t f))(hn:∀ v,v∈cs.toList->∀ u,v≠B u):xs=[]\/∃ g o,a=some ⟨g,o,none⟩/\g≠b:=by
 rcases h.at_ with h0|⟨g,o,rfl,hc⟩
 ·exact .inl h0
 ·by_cases hg:g=b
  ·subst hg
   refine .inl ?_
   cases hx:xs with
   | nil=>rfl
   | cons y ys =>
    have h0:=hc 0 y (by rw[hx];rfl)
    rw[blk_cell hb] at h0
    exact absurd rfl (hn (B y) (Array.mem_toList_iff.2 (Array.mem_of_getElem? h0)) y)
  ·exact .inr ⟨g,o,rfl,hg⟩
theorem Rd.setAt{w:World}{b:Nat}{r:RS}(h:Rd w b r)(i:Nat)(hi:i<=r.d.length):Rd (w.setCell ⟨b,1,none⟩ (.int .i64 (i:Int))) b { r with i:=i }:=by
 obtain⟨a,c,h1,h2,h3,h4⟩:=h
 exact⟨a,c,blk_set h1 1 _,h2.set h1 (by simp[B]) _ _,hi,h4.1,h4.2.set _ _ _⟩
theorem Rd.setE{w:World}{b:Nat}{r:RS}(h:Rd w b r)(e:Int):Rd (w.setCell ⟨b,2,none⟩ (.int .i64 e)) b { r with e:=e }:=by
 obtain⟨a,c,h1,h2,h3,h4⟩:=h
 exact⟨a,c,blk_set h1 2 _,h2.set h1 (by simp[B]) _ _,h3,h4.1,h4.2.set _ _ _⟩
theorem Rd.cells{w:World}{b:Nat}{r:RS}(h:Rd w b r):∃ a c,w.cell? ⟨b,0,none⟩=some (.slice a r.d.length c)/\w.cell? ⟨b,1,none⟩=some (.int .i64 (r.i:Int))/\w.cell? ⟨b,2,none⟩=some (.int .i64 r.e)/\w.frozen? ⟨b,1,none⟩=false/\w.frozen? ⟨b,2,none⟩=false/\BS w a c r.d/\r.i<=r.d.length/\r.d.length<=17592186044416:=by
 obtain⟨a,c,h1,h2,h3,h4⟩:=h
 obtain⟨p0,p1,p2,f0,f1,f2⟩:=blk3 h1
 exact⟨a,c,p0,p1,p2,f1,f2,h2,h3,h4.1⟩
theorem Rd.byteAt{w:World}{b:Nat}{r:RS}(h:Rd w b r){i:Nat}(hi:i<r.d.length):∃ g o c,w.cell? ⟨b,0,none⟩=some (.slice (some ⟨g,o,none⟩) r.d.length c)/\g≠b/\w.cell? ⟨g,o+i,none⟩=some (.int .u8 (r.d[i].toNat:Int)):=by
 obtain⟨a,c,h1,h2,h3,h4⟩:=h
 rcases h2.not_in (x := .nilIface) (e:=0) h1 (by simp[B]) with h5|⟨g,o,rfl,hg⟩
 ·rw[h5] at hi;simp at hi
 ·refine⟨g,o,c,blk_cell h1 0,hg,?_⟩
  rcases h2.at_ with h5|⟨g',o',e,hc⟩
  ·rw[h5] at hi;simp at hi
  ·cases e
   exact hc i _ (List.getElem?_eq_getElem hi)
theorem Fr.setB{w w':World}{b:Nat}(h:Fr w w' (fun k=>k=b))(i:Nat)(u:Value):Fr w (w'.setCell ⟨b,i,none⟩ u) (fun k=>k=b):=Fr.setCell (p:=⟨b,i,none⟩) h (.inl rfl) u
theorem stopped_no(w:World)(b:Nat)(r:RS)(h:Rd w b r)(h0:r.e=0) :
  Calls Tryz.prog 170 #[.pointer (some ⟨b,0,none⟩)] w fun e' w'=>e' = .returned (.bool false)/\w=w':=by
 obtain⟨a,c,p0,p1,p2,f1,f2,hs,hi,hl⟩:=h.cells
 rw[h0] at p2
 clear hl hi hs
 go_enter Tryz.func170,Tryz.ntmps170
 repeat' ((fail_if_success at_builtin);first|go_values|go_skip|go_guarded|go_step|go_upon|go_back)
 refine bodyPost_ret (results_tmp rfl _ _ _) rfl ⟨rfl,rfl⟩
theorem stopped_yes(w:World)(b:Nat)(r:RS)(h:Rd w b r)(h0:r.e≠0) :
  Calls Tryz.prog 170 #[.pointer (some ⟨b,0,none⟩)] w fun e' w'=>e' = .returned (.bool true)/\w=w':=by
 obtain⟨a,c,p0,p1,p2,f1,f2,hs,hi,hl⟩:=h.cells
 clear hl hi hs
 have h0':(r.e != 0)=true:=by simpa using h0
 go_enter Tryz.func170,Tryz.ntmps170
 repeat' ((fail_if_success at_builtin);first|go_values|go_skip|go_guarded|go_step|go_upon|go_back)
 refine bodyPost_ret (results_tmp rfl _ _ _) rfl ⟨rfl,rfl⟩
theorem left_any(w:World)(b:Nat)(r:RS)(h:Rd w b r) :
  Calls Tryz.prog 121 #[.pointer (some ⟨b,0,none⟩)] w fun e' w'=>e' = .returned (.int .i64 ((r.d.length-r.i:Nat):Int))/\∃ n,w.drewN n=w':=by
 obtain⟨a,c,p0,p1,p2,f1,f2,hs,hi,hl⟩:=h.cells
 go_enter Tryz.func121,Tryz.ntmps121
 repeat' ((fail_if_success at_builtin);first|go_values|go_skip|go_guarded|go_step|go_upon|go_back)
 go_quiet (fail)
 repeat' ((fail_if_success at_builtin);first|go_values|go_skip|go_guarded|go_step|go_upon|go_back)
 refine bodyPost_ret (results_tmp rfl _ _ _) rfl ⟨?_,_,rfl⟩
 show Ending.returned (.int .i64 _)=Ending.returned (.int .i64 _)
 congr 2
 omega
theorem err_no(w:World)(b:Nat)(r:RS)(h:Rd w b r)(h0:r.e=0) :
  Calls Tryz.prog 120 #[.pointer (some ⟨b,0,none⟩)] w fun e' w'=>e' = .returned (.tuple #[.int .i64 0,.int .i64 0])/\∃ n,w.drewN n=w':=by
 obtain⟨a,c,p0,p1,p2,f1,f2,hs,hi,hl⟩:=h.cells
 rw[h0] at p2
 clear hl hi hs
 go_enter Tryz.func120,Tryz.ntmps120
 repeat' ((fail_if_success at_builtin);first|go_values|go_skip|go_guarded|go_step|go_upon|go_back)
 refine bodyPost_ret (results_tmp2 rfl _ _ _) rfl ⟨rfl,0,rfl⟩
theorem err_yes(w:World)(b:Nat)(r:RS)(h:Rd w b r)(h0:r.e≠0) :
  Calls Tryz.prog 120 #[.pointer (some ⟨b,0,none⟩)] w fun e' w'=>e' = .returned (.tuple #[.int .i64 r.e,.int .i64 (r.i:Int)])/\∃ n,w.drewN n=w':=by
 obtain⟨a,c,p0,p1,p2,f1,f2,hs,hi,hl⟩:=h.cells
 clear hl hi hs
 have h0':(r.e==0)=false:=by simpa using h0
 go_enter Tryz.func120,Tryz.ntmps120
 repeat' ((fail_if_success at_builtin);first|go_values|go_skip|go_guarded|go_step|go_upon|go_back)
 go_quiet (fail)
 repeat' ((fail_if_success at_builtin);first|go_values|go_skip|go_guarded|go_step|go_upon|go_back)
 refine bodyPost_ret (results_tmp2 rfl _ _ _) rfl ⟨rfl,_,rfl⟩
theorem end_any(w:World)(b:Nat)(r:RS)(h:Rd w b r) :
  Calls Tryz.prog 57 #[.pointer (some ⟨b,0,none⟩)] w fun e' w'=>e' = .returned (.int .i64 r.end_)/\∃ n,w.drewN n=w':=by
 by_cases h0:r.e=0
 ·go_enter Tryz.func57,Tryz.ntmps57
  repeat' ((fail_if_success at_builtin);first|go_values|go_skip|go_guarded|go_step|go_upon|go_back)
  (refine(err_no w b r h h0).mono ?_;rintro e1 w1 ⟨rfl,n1,rfl⟩;dsimp only;(repeat' ((fail_if_success at_builtin);first|go_values|go_skip|go_guarded|go_step|go_upon|go_back)))
  refine(left_any _ b r (h.drewN n1)).mono ?_
  rintro e1 w2 ⟨rfl,n2,rfl⟩
  dsimp only
  by_cases h1:r.i<r.d.length
  ·have h2:0<r.d.length-r.i:=by omega
   have h3:r.end_=3:=by simp[RS.end_,h0,h1]
   repeat' ((fail_if_success at_builtin);first|go_values|go_skip|go_guarded|go_step|go_upon|go_back)
   refine bodyPost_ret (results_tmp rfl _ _ _) rfl ⟨by rw[h3];rfl,n1+n2,rfl⟩
  ·have h2:r.d.length-r.i=0:=by omega
   have h3:r.end_=0:=by simp[RS.end_,h0,h1]
   rw[h2]
   clear h2
   repeat' ((fail_if_success at_builtin);first|go_values|go_skip|go_guarded|go_step|go_upon|go_back)
   refine bodyPost_ret (results_tmp rfl _ _ _) rfl ⟨by rw[h3];rfl,n1+n2,rfl⟩
 ·have h0':(r.e==0)=false:=by simpa using h0
  have h3:r.end_=r.e:=by simp[RS.end_,h0]
  have H3:=Lib.hid h3
  clear h3
  go_enter Tryz.func57,Tryz.ntmps57
  repeat' ((fail_if_success at_builtin);first|go_values|go_skip|go_guarded|go_step|go_upon|go_back)
  (refine(err_yes w b r h h0).mono ?_;rintro e1 w1 ⟨rfl,n1,rfl⟩;dsimp only;(repeat' ((fail_if_success at_builtin);first|go_values|go_skip|go_guarded|go_step|go_upon|go_back)))
  refine bodyPost_ret (results_tmp rfl _ _ _) rfl ⟨by rw[H3.out];rfl,n1,rfl⟩
theorem byte_any(w:World)(b:Nat)(r:RS)(h:Rd w b r) :
  Calls Tryz.prog 97 #[.pointer (some ⟨b,0,none⟩)] w fun e' w'=>e' = .returned (.int .u8 (r.byte.1.toNat:Int))/\Rd w' b r.byte.2/\Fr w w' (fun k=>k=b):=by
 obtain⟨a,c,p0,p1,p2,f1,f2,hs,hi,hl⟩:=h.cells
 by_cases h0:r.e=0
 ·rcases Nat.lt_or_ge r.i r.d.length with h1|h1
  ·obtain⟨g,o,c',p0,hne,hc⟩:=h.byteAt h1
   have hb:r.byte=(r.d[r.i],{ r with i:=r.i+1 }):=by simp[RS.byte,h0,List.getElem?_eq_getElem h1]
   have HB:=Lib.hid hb
   clear hb
   have hR:=fun(n:Nat)=>(h.drewN n).setAt (r.i+1) h1
   go_enter Tryz.func97,Tryz.ntmps97
   repeat' ((fail_if_success at_builtin);first|go_values|go_skip|go_guarded|go_step|go_upon|go_back)
   (refine(stopped_no w b r h h0).mono ?_;rintro e1 w1 ⟨rfl,rfl⟩;dsimp only;(repeat' ((fail_if_success at_builtin);first|go_values|go_skip|go_guarded|go_step|go_upon|go_back)))
   go_quiet (fail)
   repeat' ((fail_if_success at_builtin);first|go_values|go_skip|go_guarded|go_step|go_upon|go_back)
   have h1':(r.i:Int)<(r.d.length:Int):=by omega
   have hi0:(0:Int)<=(r.i:Int):=Int.natCast_nonneg _
   have hR1:=hR nq
   have hF:=(((Fr.refl w (fun k=>k=b)).drewN nq).setB 1 (.int .i64 ((r.i+1:Nat):Int)))
   rw[show ((r.i:Int)+1)=((r.i+1:Nat):Int) from by omega]
   generalize (w.drewN nq).setCell ⟨b,1,none⟩ (.int .i64 ((r.i+1:Nat):Int))=W1 at *
   clear p0 p1 p2 f1 f2 hc hR
   obtain⟨g,o,c',p0,hne,hc⟩:=hR1.byteAt (i:=r.i) h1
   obtain⟨-,-,-,p1,-⟩:=hR1.cells
   dsimp only at p0 p1 hc
   go_quiet (fail)
   repeat' ((fail_if_success at_builtin);first|go_values|go_skip|go_guarded|go_step|go_upon|go_back)
   refine bodyPost_ret (results_tmp rfl _ _ _) rfl ⟨by rw[HB.out];rfl,by rw[HB.out];exact hR1.drewN _,hF.drewN _⟩
  ·have hb:r.byte=(0,{ r with e:=2 }):=by simp[RS.byte,h0,h1]
   have HB:=Lib.hid hb
   clear hb
   go_enter Tryz.func97,Tryz.ntmps97
   repeat' ((fail_if_success at_builtin);first|go_values|go_skip|go_guarded|go_step|go_upon|go_back)
   (refine(stopped_no w b r h h0).mono ?_;rintro e1 w1 ⟨rfl,rfl⟩;dsimp only;(repeat' ((fail_if_success at_builtin);first|go_values|go_skip|go_guarded|go_step|go_upon|go_back)))
   go_quiet (fail)
   repeat' ((fail_if_success at_builtin);first|go_values|go_skip|go_guarded|go_step|go_upon|go_back)
   refine bodyPost_ret (results_tmp rfl _ _ _) rfl ⟨by rw[HB.out];rfl,by rw[HB.out];exact(h.drewN nq).setE 2,((Fr.refl w _).drewN nq).setB 2 _⟩
 ·have hb:r.byte=(0,r):=by simp[RS.byte,h0]
  have HB:=Lib.hid hb
  clear hb
  go_enter Tryz.func97,Tryz.ntmps97
  repeat' ((fail_if_success at_builtin);first|go_values|go_skip|go_guarded|go_step|go_upon|go_back)
  (refine(stopped_yes w b r h h0).mono ?_;rintro e1 w1 ⟨rfl,rfl⟩;dsimp only;(repeat' ((fail_if_success at_builtin);first|go_values|go_skip|go_guarded|go_step|go_upon|go_back)))
  refine bodyPost_ret (results_tmp rfl _ _ _) rfl ⟨by rw[HB.out];rfl,by rw[HB.out];exact h,Fr.refl _ _⟩
end Go.Proofs.YtbppnihcbcdglaaGreat
