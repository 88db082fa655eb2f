import Derived.Sort.OwnSorted
import Derived.Test.YtbppnihcbcdglaaGreatD45
import Derived.Test.YtbppnihcbcdglaaGreatD46
import Derived.Test.YtbppnihcbcdglaaGreatD47
namespace Go.Proofs.YtbppnihcbcdglaaGreat
open Go.RowKit
set_option linter.unusedVariables false
set_option linter.unusedSimpArgs false
def mendB(fv:Value)(b l r t:Int)(dv:Value):Obj := .cells #[fv,.int .i64 b,.int .i64 l,.int .i64 r,.int .i64 t,dv] 66 (0,0)
structure M1 (w0:World) (d:Fs) (ms:List FBm) (lv:Value) (w:World):Prop where
 hr:w.heap[w0.heap.size]?=some (mendB (.slice none 0 0) 0 0 0 0 (.slice none 0 0))
 hd:DM w w0.heap.size (w0.heap.size+1) d
 lo:w.ownsRow w0.heap.size 55 2 lv ms.length (ms.flatMap FBm.row)
 hb:Below w0.heap.size w0 w
theorem M1.size{w0 w:World}{d:Fs}{ms:List FBm}{lv:Value}(h:M1 w0 d ms lv w):w0.heap.size+1<w.heap.size:=h.hd.lt
theorem M1.below{w0 w w':World}{d:Fs}{ms:List FBm}{lv:Value}(h:M1 w0 d ms lv w)(hb:Below w.heap.size w w'):M1 w0 d ms lv w' :=
 ⟨blk_below hb h.hr (blk_lt h.hr),h.hd.below hb,own_below h.lo hb,h.hb.trans (hb.mono h.hb.size)⟩
theorem M1.put{w0 w:World}{d:Fs}{ms:List FBm}{lv:Value}(h:M1 w0 d ms lv w)(hn:(d.map Prod.fst).Nodup)(m:FBm)(hs:m.stays w w0.heap.size)(hno:getF d m.f.1=none) :
  ∃ w',(Instr.mapUpdate 137 (.map (some (w0.heap.size+1))) (.string ⟨m.f.1.toArray⟩) (.slice m.a m.f.2.length m.c)).run Tryz.prog w = .ok () w'/\M1 w0 (d++[m.f]) ms lv w'/\∀ (k:Nat) (c:Array Value) (t:TypeId) (f:Nat×Nat),w.heap[k]?=some (.cells c t f)->w'.heap[k]?=some (.cells c t f):=by
 obtain⟨w',hrun,hD,hos,htp,hou,hsz,hblk,hk⟩:=h.hd.put hn (Nat.le_succ _) m hs
 have hset:setF d m.f.1 m.f.2=d++[m.f]:=by
  unfold setF
  rw[if_neg (fun hin=>by obtain⟨v,hv⟩:=getF_some hin;rw[hno] at hv;cases hv)]
 rw[hset] at hD
 have hc:∀ (k:Nat) (c:Array Value) (t:TypeId) (f:Nat×Nat),w.heap[k]?=some (.cells c t f)->w'.heap[k]?=some (.cells c t f):=fun k c t f hk=>(hblk k (h.hd.ne hk)).trans hk
 exact⟨w',(update_dir _ _ _ _).trans hrun,⟨hc _ _ _ _ h.hr,hD,own_hk h.lo (fun k c f=>hc k c _ f),h.hb.trans ⟨hos,htp,hou,by omega,fun k hk=>hblk k (by omega)⟩⟩,hc⟩
theorem KpD.grown{w w':World}{n1 n0 size n:Nat}{t:TypeId}{v:Value}{xs:List Value}(o:Obj)(ho:w.ownsRow n0 t size v n xs)(ht:5≠t)(hn:n1<=n0)(hg:(w.alloc o).grownBy w' v.ownBlock):KpD n1 w w':=by
 refine⟨fun k h1 h2=>?_,fun g cur f hk=>blk_grown hg (blk_alloc hk o) (own_ne ho hk ht)⟩
 refine(hg.block k (by simp;omega) (fun e=>?_)).trans (Below.heap_alloc _ _ _ h2)
 have:=own_ge ho e.symm
 omega
theorem DM.notcells{w:World}{n1 mb:Nat}{fs:Fs}(h:DM w n1 mb fs){n0 size n:Nat}{t:TypeId}{v:Value}{xs:List Value}(ho:w.ownsRow n0 t size v n xs):v.ownBlock≠some mb:=by
 obtain⟨ms,-,⟨es,c,h1,-⟩,-⟩:=h
 exact own_neo ho h1 (fun c t f e=>by cases e)
theorem DM.grown{w w':World}{n1 mb n0 size n:Nat}{fs:Fs}{t:TypeId}{v:Value}{xs:List Value}(h:DM w n1 mb fs)(o:Obj)(ho:w.ownsRow n0 t size v n xs)(ht:5≠t)(hn:n1<=n0)(hg:(w.alloc o).grownBy w' v.ownBlock):DM w' n1 mb fs :=
 h.kept ((hg.block mb (by have:=h.lt;simp;omega) (Ne.symm (h.notcells ho))).trans (Below.heap_alloc _ _ _ h.lt)) (KpD.grown o ho ht hn hg)
theorem M1.app{w0 w w':World}{d:Fs}{ms:List FBm}{lv lv':Value}(h:M1 w0 d ms lv w)(o:Obj)(hg:(w.alloc o).grownBy w' lv.ownBlock)(m:FBm)(ho:w'.ownsRow w0.heap.size 55 2 lv' (ms.length+1) (ms.flatMap FBm.row++m.row)):M1 w0 d (ms++[m]) lv' w' :=
 ⟨blk_grown hg (blk_alloc h.hr o) (own_ne h.lo h.hr (by decide)),h.hd.grown o h.lo (by decide) (Nat.le_refl _) hg,by simpa using ho,
  (h.hb.alloc (by have:=h.size;omega) o).grown hg (by have:=h.size;simp;omega) (fun k e=>own_ge h.lo e)⟩
structure M2 (w0:World) (sb O:Nat) (d st:Fs) (fv:Value) (b l r t:Int) (dv:Value) (w:World):Prop where
 hr:w.heap[w0.heap.size]?=some (mendB (.slice none 0 0) 0 0 0 0 (.slice none 0 0))
 hd:DM w w0.heap.size (w0.heap.size+1) d
 hs:DM w w0.heap.size sb st
 ho:w.heap[O]?=some (mendB fv b l r t dv)
 hb:Below w0.heap.size w0 w
 ls:w0.heap.size+1<sb
 lo:w0.heap.size+1<O
variable {w0 w w':World} {sb O:Nat} {d st:Fs} {fv dv:Value} {b l r t:Int}
theorem M2.size(h:M2 w0 sb O d st fv b l r t dv w):w0.heap.size<w.heap.size:=blk_lt h.hr
theorem M2.below(h:M2 w0 sb O d st fv b l r t dv w)(hb:Below w.heap.size w w'):M2 w0 sb O d st fv b l r t dv w' :=
 ⟨blk_below hb h.hr (blk_lt h.hr),h.hd.below hb,h.hs.below hb,blk_below hb h.ho (blk_lt h.ho),h.hb.trans (hb.mono (Nat.le_of_lt h.size)),h.ls,h.lo⟩
theorem M2.put(h:M2 w0 sb O d st fv b l r t dv w)(hn:(st.map Prod.fst).Nodup)(m:FBm)(hs:m.stays w w0.heap.size) :
  ∃ w',(Instr.mapUpdate 118 (.map (some sb)) (.string ⟨m.f.1.toArray⟩) (.slice m.a m.f.2.length m.c)).run Tryz.prog w = .ok () w'/\M2 w0 sb O d (setF st m.f.1 m.f.2) fv b l r t dv w'/\w'.heap.size=w.heap.size/\∀ j,j≠sb->w'.heap[j]?=w.heap[j]? := by
 obtain⟨w',hrun,hD,hos,htp,hou,hsz,hblk,hk⟩:=h.hs.put hn (by have:=h.ls;omega) m hs
 have h1:=h.ls
 exact⟨w',hrun,⟨(hblk _ (by omega)).trans h.hr,h.hd.kept (hblk _ (by omega)) hk,hD,(hblk _ (h.hs.ne h.ho)).trans h.ho,h.hb.trans ⟨hos,htp,hou,by omega,fun k hk=>hblk k (by omega)⟩,h.ls,h.lo⟩,hsz,hblk⟩
theorem M2.turn(h:M2 w0 sb O d st fv b l r t dv w){g:Nat}(hg:w0.heap.size+1<g)(hgo:g≠O)(hgs:g≠sb)(hu:∀ cur f,w.heap[g]? ≠ some (.cells cur 5 f))
  (hos:w'.os=w.os) (htp:w'.tape=w.tape) (hou:w'.output=w.output) (hsz:w'.heap.size=w.heap.size) (hb:∀ j,j≠g->w'.heap[j]?=w.heap[j]?):M2 w0 sb O d st fv b l r t dv w':=by
 have hk:KpD w0.heap.size w w':=⟨fun k q1 _=>hb k (by omega),fun k cur f hk=>(hb k (fun e=>by subst e;exact hu _ _ hk)).trans hk⟩
 exact⟨(hb _ (by omega)).trans h.hr,h.hd.kept (hb _ (by omega)) hk,h.hs.kept (hb _ hgs.symm) hk,(hb _ hgo.symm).trans h.ho,h.hb.trans ⟨hos,htp,hou,by omega,fun k hk=>hb k (by omega)⟩,h.ls,h.lo⟩
theorem M2.set(h:M2 w0 sb O d st fv b l r t dv w)(i:Nat)(u:Value){fv' dv':Value}{b' l' r' t':Int}(hc:(#[fv,.int .i64 b,.int .i64 l,.int .i64 r,.int .i64 t,dv]:Array Value).setIfInBounds i u=#[fv',.int .i64 b',.int .i64 l',.int .i64 r',.int .i64 t',dv']) :
  M2 w0 sb O d st fv' b' l' r' t' dv' (w.setCell ⟨O,i,none⟩ u):=by
 have h1:=h.lo
 have hk:KpD w0.heap.size w (w.setCell ⟨O,i,none⟩ u):=⟨fun k q1 _=>Below.heap_setCell _ _ _ _ (by show k≠O;omega),fun k cur f hk=>(Below.heap_setCell _ _ _ _ (fun e=>by
  have he:k=O:=e
  subst he
  have h2:=h.ho
  rw[h2] at hk
  unfold mendB at hk
  injection hk with hk
  injection hk with _ h3
  exact absurd h3 (by decide))).trans hk⟩
 have hse:sb≠O:=fun e=>h.hs.ne h.ho e.symm
 refine⟨(Below.heap_setCell _ _ _ _ (by show w0.heap.size≠O;omega)).trans h.hr,h.hd.kept (Below.heap_setCell _ _ _ _ (by show w0.heap.size+1≠O;omega)) hk,h.hs.kept (Below.heap_setCell _ _ _ _ hse) hk,?_,h.hb.setCell (p:=⟨O,i,none⟩) (by show w0.heap.size<=O;omega) u,h.ls,h.lo⟩
 have:=blk_set h.ho i u
 rw[hc] at this
 exact this
theorem M2.grown{n0 size n:Nat}{ty:TypeId}{v:Value}{xs:List Value}(h:M2 w0 sb O d st fv b l r t dv w)(o:Obj)(ho:w.ownsRow n0 ty size v n xs)(ht:5≠ty)(ht2:66≠ty)(hn:w0.heap.size<=n0)(hg:(w.alloc o).grownBy w' v.ownBlock):M2 w0 sb O d st fv b l r t dv w' :=
 ⟨blk_grown hg (blk_alloc h.hr o) (own_ne ho h.hr ht2),h.hd.grown o ho ht hn hg,h.hs.grown o ho ht hn hg,blk_grown hg (blk_alloc h.ho o) (own_ne ho h.ho ht2),
  (h.hb.alloc (Nat.le_of_lt h.size) o).grown hg (by have:=h.size;simp;omega) (fun k e=>by have:=own_ge ho e;omega),h.ls,h.lo⟩
theorem M2.led{st0:Fs}(h:M2 w0 sb O d st0 fv b l r t dv w)(hfr:Fr w w' (fun k=>k=sb))(hD:DM w' w0.heap.size sb st):M2 w0 sb O d st fv b l r t dv w':=by
 have h1:=h.ls
 have h2:=h.size
 have hk:KpD w0.heap.size w w':=⟨fun k q1 q2=>hfr.block k q2 (by omega),fun g cur f hg=>hfr.blk hg (h.hs.ne hg)⟩
 exact⟨hfr.blk h.hr (by omega),h.hd.kept (hfr.block _ h.hd.lt (by omega)) hk,hD,hfr.blk h.ho (h.hs.ne h.ho),h.hb.trans ⟨hfr.os,hfr.tape,hfr.output,hfr.size,fun k hk=>hfr.block k (by omega) (by omega)⟩,h.ls,h.lo⟩
theorem M2.grown0{n0 size n:Nat}{ty:TypeId}{v:Value}{xs:List Value}(h:M2 w0 sb O d st fv b l r t dv w)(ho:w.ownsRow n0 ty size v n xs)(ht:5≠ty)(ht2:66≠ty)(hn:w0.heap.size<=n0)(hg:w.grownBy w' v.ownBlock):M2 w0 sb O d st fv b l r t dv w':=by
 have hk:KpD w0.heap.size w w':=⟨fun k h1 h2=>hg.block k h2 (fun e=>by have:=own_ge ho e.symm;omega),fun g cur f hk=>blk_grown hg hk (own_ne ho hk ht)⟩
 exact⟨blk_grown hg h.hr (own_ne ho h.hr ht2),h.hd.kept (hg.block _ h.hd.lt (Ne.symm (h.hd.notcells ho))) hk,h.hs.kept (hg.block _ h.hs.lt (Ne.symm (h.hs.notcells ho))) hk,blk_grown hg h.ho (own_ne ho h.ho ht2),
  h.hb.grown hg (Nat.le_of_lt h.size) (fun k e=>by have:=own_ge ho e;omega),h.ls,h.lo⟩
theorem KpD.turn{n1 g:Nat}{w w':World}(hg:n1<=g)(hu:∀ cur f,w.heap[g]? ≠ some (.cells cur 5 f))(hb:∀ j,j≠g->w'.heap[j]?=w.heap[j]?):KpD n1 w w' :=
 ⟨fun k q1 _=>hb k (by omega),fun k cur f hk=>(hb k (fun e=>by subst e;exact hu _ _ hk)).trans hk⟩
theorem wp_appS{w:World}{ops:Array Oper}{rest:List Oper}{o:Oper}{a:Act}{Q:Exit->Act->World->Prop}(hgd:o.guard=none)(s x:Operand)
  (ho:o.op = .call { callee := .builtin .append,args:=#[s,x],argTypes:=#[48,48] })
  (n0:Nat) (v:Value) (l:List Bs) (hs:a.eval s=v) (hown:w.ownsRow n0 9 1 v l.length (l.map encS)) (g:Nat) (n:Bs) (hx:a.eval x = .slice (some ⟨g,0,none⟩) 1 1) (hc:w.cell? ⟨g,0,none⟩=some (.string ⟨n.toArray⟩))
  (hl:l.length<=1000000) (hbase:n0<=w.heap.size)
  (h:∀ v' w',w'.ownsRow n0 9 1 v' (l++[n]).length ((l++[n]).map encS)->w.grownBy w' v.ownBlock->wpList Tryz.prog ops Q rest (a.put o.dst v') w'):wpList Tryz.prog ops Q (o :: rest) a w:=by
 obtain⟨i0,hi,hz0,hz1,hz2⟩:=info_parts Tryz.infoStr
 refine wpList_append_own w hgd s x 48 ho n0 9 i0 (.string ⟨#[]⟩) 1 16 Tryz.underlying48 hi hz0 hz1 hz2 rfl (by decide) v l.length (l.map encS) hs hown ⟨g,0,none⟩ 1 1 [.string ⟨n.toArray⟩] hx rfl ?_ (by simp[Value.oneCell']) (by unfold maxLen;omega) (by omega) hbase ?_
 ·intro j u hj
  match j,hj with
  | 0,hj=>cases hj;exact hc
 ·intro v' w' hown' hg _
  refine h v' w' ?_ hg
  rw[List.length_append,List.map_append]
  exact hown'
theorem own_sortS(w:World){n0:Nat}{v:Value}{l:List Bs}(h:w.ownsRow n0 9 1 v l.length (l.map encS))(hl:l.length<=1000000) :
  Calls Tryz.prog 82 #[v] w fun e w'=>e = .returned (.tuple #[])/\w'.ownsRow n0 9 1 v l.length ((l.mergeSort leN).map encS)/\w.grownBy w' v.ownBlock:=by
 by_cases h0:0<l.length
 ·obtain⟨h1,h2⟩:=h
  rcases h2 with⟨_,e⟩|⟨g,cap,cur,rfl,hg,hh,hc,hm,hs,ht⟩
  ·omega
  ·have hp:=List.mergeSort_perm l leN
   refine(sortStrings_any g 0 cap l w (Go.holds_of_block hh (by rw[Nat.mul_one] at ht;exact ht)) (blk_lt hh) (by omega)).mono ?_
   rintro e w' ⟨rfl,n,os,rfl⟩
   have hgb:=Go.grownBy_sorted (w:=w) (g:=g) (n:=n) (os:=os) (l.mergeSort leN).toArray
   have hrow:=Go.ownsRow_sorted (base:=n0) (n:=n) (os:=os) (cap:=cap) (ts:=l.mergeSort leN) (ss:=l) hp.length_eq hg hh hc hm hs
   exact⟨rfl,hrow,hgb⟩
 ·have hz:l=[]:=List.length_eq_zero_iff.1 (by omega)
  subst hz
  obtain⟨a,c,rfl,-,-,-,-⟩:=own_rowT h
  refine(sortStrings_none a c w).mono ?_
  rintro e w' ⟨rfl,rfl⟩
  exact⟨rfl,by simpa using h,⟨rfl,rfl,rfl,Nat.le_refl _,fun _ _ _=>rfl⟩⟩
theorem M2.appF{gg cap n:Nat}{xs news:List Value}(h:M2 w0 sb O d st fv b l r t dv w)(o:Obj)(hf:w.ownsRow w0.heap.size 55 2 fv n xs)(hg:(w.alloc o).grownBy w' fv.ownBlock)(ho:w'.ownsRow w0.heap.size 55 2 (.slice (some ⟨gg,0,none⟩) (n+1) cap) (n+1) (xs++news)) :
  M2 w0 sb O d st (.slice (some ⟨gg,0,none⟩) (n+1) cap) b l r t dv (w'.setCell ⟨O,0,none⟩ (.slice (some ⟨gg,0,none⟩) (n+1) cap)) /\
  (w'.setCell ⟨O,0,none⟩ (.slice (some ⟨gg,0,none⟩) (n+1) cap)).ownsRow w0.heap.size 55 2 (.slice (some ⟨gg,0,none⟩) (n+1) cap) (n+1) (xs++news) /\
  KpD w0.heap.size w (w'.setCell ⟨O,0,none⟩ (.slice (some ⟨gg,0,none⟩) (n+1) cap)) /\
  ∀ {n0 size m:Nat} {ty:TypeId} {v:Value} {ys:List Value},ty≠55->ty≠66->w.ownsRow n0 ty size v m ys->(w'.setCell ⟨O,0,none⟩ (.slice (some ⟨gg,0,none⟩) (n+1) cap)).ownsRow n0 ty size v m ys:=by
 have h1:=h.grown o hf (by decide) (by decide) (Nat.le_refl _) hg
 have h2:=h1.lo
 have hkO:KpD w0.heap.size w' (w'.setCell ⟨O,0,none⟩ (.slice (some ⟨gg,0,none⟩) (n+1) cap)):=KpD.turn (g:=O) (by omega) (fun cur f e=>by have h3:=h1.ho;rw[h3] at e;unfold mendB at e;injection e with e;injection e with _ h4;exact absurd h4 (by decide)) (fun j hj=>Below.heap_setCell _ _ _ _ hj)
 refine⟨h1.set 0 _ rfl,own_kb ho Kb.set h1.ho (by decide),(KpD.grown o hf (by decide) (Nat.le_refl _) hg).trans hkO (by have:=hg.size;simp at this;omega),fun hne1 hne2 hrow=>?_⟩
 have hr2:=own_hk hrow (w':=w') (fun k c f hb=>blk_grown hg (blk_alloc hb o) (own_ne hf hb hne1))
 exact own_kb hr2 Kb.set h1.ho (Ne.symm hne2)
theorem OwnB.kpd{n0 n1:Nat}{v:Value}{xs:Bs}(h:OwnB w n0 v xs)(hk:KpD n1 w w'):OwnB w' n0 v xs :=
 h.kept fun k hb _=>by
  obtain⟨-,c,f,hc⟩:=h.row k hb
  rw[hk.u8 k c f hc,hc]
theorem set6_mend{N:Nat}(h:w.heap[N]?=some (mendB (.slice none 0 0) 0 0 0 0 (.slice none 0 0)))(fv dv:Value)(b l r t:Int) :
  ((((((w.setCell ⟨N,0,none⟩ fv).setCell ⟨N,1,none⟩ (.int .i64 b)).setCell ⟨N,2,none⟩ (.int .i64 l)).setCell ⟨N,3,none⟩ (.int .i64 r)).setCell ⟨N,4,none⟩ (.int .i64 t)).setCell ⟨N,5,none⟩ dv).heap[N]?=some (mendB fv b l r t dv):=by
 have:=blk_set (blk_set (blk_set (blk_set (blk_set (blk_set h 0 fv) 1 (.int .i64 b)) 2 (.int .i64 l)) 3 (.int .i64 r)) 4 (.int .i64 t)) 5 dv
 simpa [mendB] using this
theorem below6{a:World}{N:Nat}(h:Below N a w)(fv dv:Value)(b l r t:Int):Below N a ((((((w.setCell ⟨N,0,none⟩ fv).setCell ⟨N,1,none⟩ (.int .i64 b)).setCell ⟨N,2,none⟩ (.int .i64 l)).setCell ⟨N,3,none⟩ (.int .i64 r)).setCell ⟨N,4,none⟩ (.int .i64 t)).setCell ⟨N,5,none⟩ dv):=((((((h.setCell (p:=⟨N,0,none⟩) (Nat.le_refl N) fv).setCell (p:=⟨N,1,none⟩) (Nat.le_refl N) (.int .i64 b)).setCell (p:=⟨N,2,none⟩) (Nat.le_refl N) (.int .i64 l)).setCell (p:=⟨N,3,none⟩) (Nat.le_refl N) (.int .i64 r)).setCell (p:=⟨N,4,none⟩) (Nat.le_refl N) (.int .i64 t)).setCell (p:=⟨N,5,none⟩) (Nat.le_refl N) dv)
theorem kpd6{N:Nat}(h:w.heap[N]?=some (mendB (.slice none 0 0) 0 0 0 0 (.slice none 0 0)))(fv dv:Value)(b l r t:Int):KpD N w ((((((w.setCell ⟨N,0,none⟩ fv).setCell ⟨N,1,none⟩ (.int .i64 b)).setCell ⟨N,2,none⟩ (.int .i64 l)).setCell ⟨N,3,none⟩ (.int .i64 r)).setCell ⟨N,4,none⟩ (.int .i64 t)).setCell ⟨N,5,none⟩ dv)/\∀ (k:Nat) (c:Array Value) (ty:TypeId) (f:Nat×Nat),ty≠66->w.heap[k]?=some (.cells c ty f)->((((((w.setCell ⟨N,0,none⟩ fv).setCell ⟨N,1,none⟩ (.int .i64 b)).setCell ⟨N,2,none⟩ (.int .i64 l)).setCell ⟨N,3,none⟩ (.int .i64 r)).setCell ⟨N,4,none⟩ (.int .i64 t)).setCell ⟨N,5,none⟩ dv).heap[k]?=some (.cells c ty f):=by
 have hk:∀ (k:Nat) (c:Array Value) (ty:TypeId) (f:Nat×Nat),ty≠66->w.heap[k]?=some (.cells c ty f)->((((((w.setCell ⟨N,0,none⟩ fv).setCell ⟨N,1,none⟩ (.int .i64 b)).setCell ⟨N,2,none⟩ (.int .i64 l)).setCell ⟨N,3,none⟩ (.int .i64 r)).setCell ⟨N,4,none⟩ (.int .i64 t)).setCell ⟨N,5,none⟩ dv).heap[k]?=some (.cells c ty f):=by
  intro k c ty f ht hc
  have hne:k≠N:=fun e=>by
   rw[e,h] at hc
   unfold mendB at hc
   injection hc with hc
   injection hc with _ h2
   exact ht h2.symm
  exact blk_set_other (blk_set_other (blk_set_other (blk_set_other (blk_set_other (blk_set_other hc hne _ _) hne _ _) hne _ _) hne _ _) hne _ _) hne _ _
 refine⟨⟨fun k h1 _=>?_,fun g cur f hg=>hk g cur _ f (by decide) hg⟩,hk⟩
 rw[Below.heap_setCell _ _ _ _ (by show k≠N;omega),Below.heap_setCell _ _ _ _ (by show k≠N;omega),Below.heap_setCell _ _ _ _ (by show k≠N;omega),Below.heap_setCell _ _ _ _ (by show k≠N;omega),Below.heap_setCell _ _ _ _ (by show k≠N;omega),Below.heap_setCell _ _ _ _ (by show k≠N;omega)]
end Go.Proofs.YtbppnihcbcdglaaGreat
