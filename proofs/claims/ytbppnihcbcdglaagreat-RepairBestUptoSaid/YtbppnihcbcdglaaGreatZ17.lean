/- proc: a procedure is read: what the walk holds, and how it gives up. No condition. -/
import Derived.Deep.AppendLies
import Derived.Defers
import Derived.Recover
import Derived.Test.YtbppnihcbcdglaaGreatZ16
namespace Go.Proofs.YtbppnihcbcdglaaGreat
set_option maxHeartbeats 0
open Go.RowKit
set_option linter.unusedVariables false
set_option linter.unusedSimpArgs false
def Kb(b:Nat)(w w':World):Prop:=∀ k ob,w.heap[k]? = some ob->k≠b->w'.heap[k]? = some ob
theorem Kb.of_fr{b:Nat}{w w':World}(h:Fr w w' (fun k=>k=b)):Kb b w w':=fun k ob hk hne=>h.blk hk hne
theorem Shp.kb{w w':World}{n0 b:Nat}{L:Array Value}{D:List Nat}(h:Shp w n0 L D)(hk:Kb b w w'){c:Array Value}{t:TypeId}{f:Nat×Nat}(hb:w.heap[b]? = some (.cells c t f))(ht:t≠271):Shp w' n0 L D:=by
 refine⟨h.1,fun op ho=>⟨fun hm=>?_,(h.2 op ho).2⟩⟩
 obtain⟨g,g1,g2,g3,g4⟩:=(h.2 op ho).1 hm
 exact⟨g,g1,g2,g3,hk g _ g4 (blk_ne g4 hb (Ne.symm ht))⟩
theorem own_kb{w w':World}{n0 b size n:Nat}{t t':TypeId}{v:Value}{xs:List Value}(ho:w.ownsRow n0 t' size v n xs)(hk:Kb b w w'){c:Array Value}{f:Nat×Nat}(hb:w.heap[b]? = some (.cells c t f))(ht:t≠t'):w'.ownsRow n0 t' size v n xs:=by
 obtain⟨h1,h2⟩:=ho
 refine⟨h1,?_⟩
 rcases h2 with h2|⟨g,cap,cur,rfl,hg,hh,r⟩
 ·exact .inl h2
 ·exact .inr ⟨g,cap,cur,rfl,hg,hk g _ hh (blk_ne hh hb (Ne.symm ht)),r⟩
theorem own_below{w w':World}{n0 size n:Nat}{t':TypeId}{v:Value}{xs:List Value}(ho:w.ownsRow n0 t' size v n xs)(hb:Below w.heap.size w w'):w'.ownsRow n0 t' size v n xs:=by
 obtain⟨h1,h2⟩:=ho
 refine⟨h1,?_⟩
 rcases h2 with h2|⟨g,cap,cur,rfl,hg,hh,r⟩
 ·exact .inl h2
 ·exact .inr ⟨g,cap,cur,rfl,hg,blk_below hb hh (blk_lt hh),r⟩
theorem Kb.set{w:World}{b i:Nat}{u:Value}:Kb b w (w.setCell ⟨b,i,none⟩ u):=fun k ob hk hne=>blk_set_other hk hne _ _
theorem Kb.trans{w w' w'':World}{b:Nat}(h:Kb b w w')(h':Kb b w' w''):Kb b w w'':=fun k ob hk hne=>h' k ob (h k ob hk hne) hne
theorem Tryz.info179:(Tryz.prog.info? 179).map (fun i=>(i.zero,i.size,i.bytes))=some (some (.agg #[.int .i64 0,.int .i64 0,.int .i64 0,.int .i64 0,.int .i64 0,.int .i64 0,.int .i64 0,.string ⟨#[]⟩]),8,72):=by kernel_rfl
theorem assert_ref(W:World)(i:Int):(Instr.typeAssert (.iface 344 (.int .i64 i)) 20 344 true).run Tryz.prog W = .ok (.tuple #[.int .i64 i,.bool true]) W:=by
 simp[Instr.typeAssert,run_underlying Tryz.underlying344]
def gaveP(w:World)(p q:Nat)(i:Int):World:=(((w.setCell ⟨p,0,none⟩ (.string ⟨#[]⟩)).setCell ⟨p,1,none⟩ (.int .i64 0)).setCell ⟨p,2,none⟩ (.slice none 0 0)).setCell ⟨q,0,none⟩ (.int .i64 i)
set_option maxRecDepth 20000 in
theorem pcatch(w:World)(p q:Nat)(v0 v1 v2 u:Value)(hp:w.heap[p]? = some (.cells #[v0,v1,v2] 172 (0,0)))(hq:w.heap[q]? = some (.cells #[u] 28 (0,0)))(i:Int) :
  CallsD Tryz.prog 256 #[.pointer (some ⟨p,0,none⟩),.pointer (some ⟨q,0,none⟩)] (.panicking [{ v:=refV i,recovered:=false }]) w fun e u' w' =>
   e = .returned (.tuple #[])/\u' = .panicking [{ v:=refV i,recovered:=true }]/\w'=gaveP w p q i:=by
 have hne:=blk_ne hp hq (by decide)
 refine callsD_of_wpS Tryz.func256 rfl fun c₀ cs hu=>?_
 unfold refV at hu
 apply wpS_seq
 apply wpS_region
 simp[wpOpsS,go_sem,recoverD,hu,Tryz.ntmps256,Exit.thenS,Array.replicate,List.replicate]
 have hta:=assert_ref
 obtain⟨p0,p1,p2,f0,f1,f2⟩:=blk3 hp
 have hq2:((((w.setCell ⟨p,0,none⟩ (.string ⟨#[]⟩)).setCell ⟨p,1,none⟩ (.int .i64 0)).setCell ⟨p,2,none⟩ (.slice none 0 0))).cell? ⟨q,0,none⟩=some u :=
  blk_cell (blk_set_other (blk_set_other (blk_set_other hq hne.symm 0 _) hne.symm 1 _) hne.symm 2 _) 0
 obtain⟨q0,q1⟩:=blk1 hq
 refine wpS_of_wp ?_
 repeat' ((fail_if_success at_builtin);first|go_values|go_skip|go_guarded|go_step|go_upon|go_back)
 cases c₀
 simp_all [bodyPostS,results,Tryz.results256,gaveP,refV]
set_option maxRecDepth 20000 in
theorem pidle(p q:Addr)(w:World) :
  CallsD Tryz.prog 256 #[.pointer (some p),.pointer (some q)] .returning w fun e u' w'=>e = .returned (.tuple #[])/\u' = .returning/\w'=w:=by
 refine callsD_of_wpS Tryz.func256 rfl fun c₀ cs hu=>?_
 apply wpS_seq
 apply wpS_region
 simp[wpOpsS,go_sem,recoverD,hu,Tryz.ntmps256,Exit.thenS,Array.replicate,List.replicate]
 refine wpS_of_wp ?_
 repeat' ((fail_if_success at_builtin);first|go_values|go_skip|go_guarded|go_step|go_upon|go_back)
 cases c₀
 simp_all [bodyPostS,results,Tryz.results256]
theorem rinstr_ok(w:World)(b lb n0:Nat)(L:Array Value)(hL:w.heap[lb]? = some (.cells L 266 (0,0)))(hS:Shp w n0 L [1,2,3,4,5,6,7,8,9,10,11,12,13,14,15])(r:RS)(all:Nat)(hR:Rd w b r)(ha:all<=17592186044416)(x:I)(r2:RS)(hd:decI all r=(x,r2,0)) :
  Calls Tryz.prog 258 #[.agg #[.pointer (some ⟨b,0,none⟩),.int .i64 (all:Int)],.pointer (some ⟨lb,0,none⟩)] w fun e' w'=>e' = .returned (.agg x.cells)/\Rd w' b r2/\Fr w w' (fun k=>k=b):=by
 refine rinstr_any w b lb n0 L hL hS r all hR ha _ (fun e w' h1 h2 _=>?_) (fun x' r2' w' h1 h2 h3=>?_)
 ·rw[hd] at h1;exact absurd h1.symm h2
 ·rw[hd] at h1;cases h1;exact⟨rfl,h2,h3⟩
theorem rinstr_no(w:World)(b lb n0:Nat)(L:Array Value)(hL:w.heap[lb]? = some (.cells L 266 (0,0)))(hS:Shp w n0 L [1,2,3,4,5,6,7,8,9,10,11,12,13,14,15])(r:RS)(all:Nat)(hR:Rd w b r)(ha:all<=17592186044416)(x:I)(r2:RS)(e:Int)(hd:decI all r=(x,r2,e))(he:e≠0) :
  Calls Tryz.prog 258 #[.agg #[.pointer (some ⟨b,0,none⟩),.int .i64 (all:Int)],.pointer (some ⟨lb,0,none⟩)] w fun e' w'=>e' = .panicked [{ v:=refV e,recovered:=false }]/\Fr w w' (fun k=>k=b):=by
 refine rinstr_any w b lb n0 L hL hS r all hR ha _ (fun e' w' h1 h2 h3=>?_) (fun x' r2' w' h1 h2 h3=>?_)
 ·rw[hd] at h1;dsimp only at h1;subst h1;exact⟨rfl,h3⟩
 ·rw[hd] at h1;simp only[Prod.mk.injEq] at h1;exact absurd h1.2.2 he
structure PD (w0 w:World) (b lb RB n0:Nat) (nm:Bs) (args:Int) (cv:Value) (code:List I) (r:RS) (all:Nat) (L:Array Value):Prop where
 hp:w.heap[w0.heap.size]? = some (.cells #[.string ⟨nm.toArray⟩,.int .i64 args,cv] 172 (0,0))
 he:w.heap[w0.heap.size+1]? = some (.cells #[.int .i64 0] 28 (0,0))
 hr:Rd w b r
 hb:w.heap[RB]? = some (.cells #[.pointer (some ⟨b,0,none⟩),.int .i64 (all:Int)] 347 (0,0))
 hl:w.heap[lb]? = some (.cells L 266 (0,0))
 hs:Shp w n0 L [1,2,3,4,5,6,7,8,9,10,11,12,13,14,15]
 own:w.ownsRow w0.heap.size 179 8 cv code.length (code.flatMap I.row)
 below:Below w0.heap.size w0 w
 ble:w0.heap.size<=b
theorem PD.read{w0 w w':World}{b lb RB n0 all:Nat}{nm:Bs}{args:Int}{cv:Value}{code:List I}{r r':RS}{L:Array Value}(h:PD w0 w b lb RB n0 nm args cv code r all L)(hf:Fr w w' (fun k=>k=b))(hr:Rd w' b r'):PD w0 w' b lb RB n0 nm args cv code r' all L:=by
 have hk:=Kb.of_fr hf
 obtain⟨c,hc⟩:=h.hr.reader
 exact⟨hk _ _ h.hp (h.hr.ne h.hp (by decide)),hk _ _ h.he (h.hr.ne h.he (by decide)),hr,hk _ _ h.hb (h.hr.ne h.hb (by decide)),hk _ _ h.hl (h.hr.ne h.hl (by decide)),h.hs.kb hk hc (by decide),own_kb h.own hk hc (by decide),h.below.trans (Fr.toBelow hf h.ble h.below.size),h.ble⟩
structure PG (w0 w:World) (nm:Bs) (args:Int) (cv:Value):Prop where
 hp:w.heap[w0.heap.size]? = some (.cells #[.string ⟨nm.toArray⟩,.int .i64 args,cv] 172 (0,0))
 he:w.heap[w0.heap.size+1]? = some (.cells #[.int .i64 0] 28 (0,0))
 below:Below w0.heap.size w0 w
theorem PD.gone{w0 w w':World}{b lb RB n0 all:Nat}{nm:Bs}{args:Int}{cv:Value}{code:List I}{r:RS}{L:Array Value}(h:PD w0 w b lb RB n0 nm args cv code r all L)(hf:Fr w w' (fun k=>k=b)):PG w0 w' nm args cv:=by
 have hk:=Kb.of_fr hf
 exact⟨hk _ _ h.hp (h.hr.ne h.hp (by decide)),hk _ _ h.he (h.hr.ne h.he (by decide)),h.below.trans (Fr.toBelow hf h.ble h.below.size)⟩
theorem PD.pg{w0 w:World}{b lb RB n0 all:Nat}{nm:Bs}{args:Int}{cv:Value}{code:List I}{r:RS}{L:Array Value}(h:PD w0 w b lb RB n0 nm args cv code r all L):PG w0 w nm args cv:=⟨h.hp,h.he,h.below⟩
theorem PD.pure{w0 w w':World}{b lb RB n0 all:Nat}{nm:Bs}{args:Int}{cv:Value}{code:List I}{r:RS}{L:Array Value}(h:PD w0 w b lb RB n0 nm args cv code r all L)(hb:Below w.heap.size w w'):PD w0 w' b lb RB n0 nm args cv code r all L :=
 ⟨blk_below hb h.hp (blk_lt h.hp),blk_below hb h.he (blk_lt h.he),h.hr.pure hb,blk_below hb h.hb (blk_lt h.hb),blk_below hb h.hl (blk_lt h.hl),h.hs.pure hb,own_below h.own hb,h.below.trans (hb.mono h.below.size),h.ble⟩
theorem PD.drewN{w0 w:World}{b lb RB n0 all:Nat}{nm:Bs}{args:Int}{cv:Value}{code:List I}{r:RS}{L:Array Value}(h:PD w0 w b lb RB n0 nm args cv code r all L)(n:Nat):PD w0 (w.drewN n) b lb RB n0 nm args cv code r all L:=h.pure (bdrewN (Below.refl _ _) n)
theorem Rd.setP{w:World}{b g i:Nat}{r:RS}{u v0 v1 v2:Value}(h:Rd w b r)(hg:w.heap[g]? = some (.cells #[v0,v1,v2] 172 (0,0)))(h0:∀ u,v0≠B u)(h1:∀ u,v1≠B u)(h2:∀ u,v2≠B u):Rd (w.setCell ⟨g,i,none⟩ u) b r :=
 h.setO hg (by
  intro v hv
  have:v=v0\/v=v1\/v=v2:=by simpa using hv
  rcases this with rfl|rfl|rfl
  ·exact h0
  ·exact h1
  ·exact h2) (h.ne hg (by decide)).symm i u
theorem own_noB{w:World}{n0 size n:Nat}{t:TypeId}{v:Value}{xs:List Value}(h:w.ownsRow n0 t size v n xs):∀ u,v≠B u:=by
 intro u
 rcases h.2 with ⟨rfl,_⟩|⟨g,cap,cur,rfl,r⟩ <;> simp[B]
theorem PD.name{w0 w:World}{b lb RB n0 all:Nat}{nm:Bs}{args:Int}{cv:Value}{code:List I}{r:RS}{L:Array Value}(h:PD w0 w b lb RB n0 nm args cv code r all L)(s:Bs):PD w0 (w.setCell ⟨w0.heap.size,0,none⟩ (.string ⟨s.toArray⟩)) b lb RB n0 s args cv code r all L :=
 ⟨blk_set h.hp 0 _,blk_set_other h.he (by omega) _ _,h.hr.setP h.hp (by simp[B]) (by simp[B]) (own_noB h.own),blk_set_other h.hb (blk_ne h.hb h.hp (by decide)) _ _,blk_set_other h.hl (blk_ne h.hl h.hp (by decide)) _ _,h.hs.kb Kb.set h.hp (by decide),own_kb h.own Kb.set h.hp (by decide),h.below.setCell (Nat.le_refl _) _,h.ble⟩
theorem PD.args{w0 w:World}{b lb RB n0 all:Nat}{nm:Bs}{args:Int}{cv:Value}{code:List I}{r:RS}{L:Array Value}(h:PD w0 w b lb RB n0 nm args cv code r all L)(y:Int):PD w0 (w.setCell ⟨w0.heap.size,1,none⟩ (.int .i64 y)) b lb RB n0 nm y cv code r all L :=
 ⟨blk_set h.hp 1 _,blk_set_other h.he (by omega) _ _,h.hr.setP h.hp (by simp[B]) (by simp[B]) (own_noB h.own),blk_set_other h.hb (blk_ne h.hb h.hp (by decide)) _ _,blk_set_other h.hl (blk_ne h.hl h.hp (by decide)) _ _,h.hs.kb Kb.set h.hp (by decide),own_kb h.own Kb.set h.hp (by decide),h.below.setCell (Nat.le_refl _) _,h.ble⟩
theorem own_ne{w:World}{n0 size n b:Nat}{t t':TypeId}{v:Value}{xs:List Value}{c:Array Value}{f:Nat×Nat}(ho:w.ownsRow n0 t' size v n xs)(hb:w.heap[b]? = some (.cells c t f))(ht:t≠t'):v.ownBlock≠some b:=by
 rcases ho.2 with ⟨rfl,_⟩|⟨g,cap,cur,rfl,hg,hh,r⟩
 ·simp[Value.ownBlock]
 ·intro e
  have:g=b:=by simpa [Value.ownBlock] using e
  exact blk_ne hh hb (Ne.symm ht) this
theorem own_ge{w:World}{n0 size n b:Nat}{t':TypeId}{v:Value}{xs:List Value}(ho:w.ownsRow n0 t' size v n xs)(hb:v.ownBlock=some b):n0<=b:=by
 rcases ho.2 with ⟨rfl,_⟩|⟨g,cap,cur,rfl,hg,hh,r⟩
 ·simp[Value.ownBlock] at hb
 ·have:g=b:=by simpa [Value.ownBlock] using hb
  exact this ▸ hg
theorem PD.app0{w0 w w':World}{b lb RB n0 all:Nat}{nm:Bs}{args:Int}{cv:Value}{code:List I}{r:RS}{L:Array Value}(h:PD w0 w b lb RB n0 nm args cv code r all L)(o:Obj)(hg:(w.alloc o).grownBy w' cv.ownBlock) :
  w'.heap[w0.heap.size]? = some (.cells #[.string ⟨nm.toArray⟩,.int .i64 args,cv] 172 (0,0))/\w'.heap[RB]? = some (.cells #[.pointer (some ⟨b,0,none⟩),.int .i64 (all:Int)] 347 (0,0)) :=
 ⟨blk_grown hg (blk_alloc h.hp o) (own_ne h.own h.hp (by decide)),blk_grown hg (blk_alloc h.hb o) (own_ne h.own h.hb (by decide))⟩
theorem PD.app{w0 w w':World}{b lb RB n0 all gg cap:Nat}{nm:Bs}{args:Int}{cv:Value}{code:List I}{r:RS}{L:Array Value}(h:PD w0 w b lb RB n0 nm args cv code r all L)(o:Obj)(hg:(w.alloc o).grownBy w' cv.ownBlock)(x:I)
  (ho:w'.ownsRow w0.heap.size 179 8 (.slice (some ⟨gg,0,none⟩) (code.length+1) cap) (code.length+1) (code.flatMap I.row++I.row x)) :
  PD w0 (w'.setCell ⟨w0.heap.size,2,none⟩ (.slice (some ⟨gg,0,none⟩) (code.length+1) cap)) b lb RB n0 nm args (.slice (some ⟨gg,0,none⟩) (code.length+1) cap) (code++[x]) r all L:=by
 have hk:∀ {k:Nat} {c:Array Value} {t:TypeId} {f:Nat×Nat},w.heap[k]? = some (.cells c t f)->t≠179->w'.heap[k]? = some (.cells c t f):=fun{k c t f} hb ht=>blk_grown hg (blk_alloc hb o) (own_ne h.own hb ht)
 obtain⟨p1,-⟩:=h.app0 o hg
 have hb':Below w0.heap.size w0 w':=(h.below.alloc h.below.size o).grown hg (by have:=h.below.size;simp;omega) (fun k e=>own_ge h.own e)
 have hr':Rd w' b r:=by
  obtain⟨a,c,h1,h2,h3,h4,h5⟩:=h.hr
  refine⟨a,c,hk h1 (by decide),h2.kept fun g o' e hlt=>?_,h3,h4,h5.kept fun g cur f hg=>hk hg (by decide)⟩
  obtain⟨cur,f,hg⟩:=h5 g o' e
  exact(hk hg (by decide)).trans hg.symm
 refine⟨blk_set p1 2 _,blk_set_other (hk h.he (by decide)) (by omega) _ _,hr'.setP p1 (by simp[B]) (by simp[B]) (own_noB h.own),blk_set_other (hk h.hb (by decide)) (blk_ne h.hb h.hp (by decide)) _ _,blk_set_other (hk h.hl (by decide)) (blk_ne h.hl h.hp (by decide)) _ _,?_,?_,hb'.setCell (Nat.le_refl _) _,h.ble⟩
 ·refine Shp.kb (b:=w0.heap.size) (w:=w') ?_ Kb.set p1 (by decide)
  refine⟨h.hs.1,fun op ho=>⟨fun hm=>?_,(h.hs.2 op ho).2⟩⟩
  obtain⟨g,g1,g2,g3,g4⟩:=(h.hs.2 op ho).1 hm
  exact⟨g,g1,g2,g3,hk g4 (by decide)⟩
 ·have ho':=own_kb ho (Kb.set (i:=2) (u := .slice (some ⟨gg,0,none⟩) (code.length+1) cap)) p1 (by decide)
  rw[List.length_append,List.flatMap_append]
  simpa using ho'
def tookP(w:World)(p q:Nat)(s:Bs)(y:Int)(v:Value):World:=(((w.setCell ⟨p,0,none⟩ (.string ⟨s.toArray⟩)).setCell ⟨p,1,none⟩ (.int .i64 y)).setCell ⟨p,2,none⟩ v).setCell ⟨q,0,none⟩ (.int .i64 0)
theorem took_cells{w0 w:World}{b lb RB n0 all:Nat}{nm:Bs}{args:Int}{cv:Value}{code:List I}{r:RS}{L:Array Value}(h:PD w0 w b lb RB n0 nm args cv code r all L) :
  (tookP w w0.heap.size (w0.heap.size+1) nm args cv).cell? ⟨w0.heap.size,0,none⟩=some (.string ⟨nm.toArray⟩)/\(tookP w w0.heap.size (w0.heap.size+1) nm args cv).cell? ⟨w0.heap.size,1,none⟩=some (.int .i64 args)/\(tookP w w0.heap.size (w0.heap.size+1) nm args cv).cell? ⟨w0.heap.size,2,none⟩=some cv/\(tookP w w0.heap.size (w0.heap.size+1) nm args cv).cell? ⟨w0.heap.size+1,0,none⟩=some (.int .i64 0)/\Below w0.heap.size w0 (tookP w w0.heap.size (w0.heap.size+1) nm args cv) /\
  (tookP w w0.heap.size (w0.heap.size+1) nm args cv).ownsRow w0.heap.size 179 8 cv code.length (code.flatMap I.row):=by
 have h1:=blk_set h.hp 0 (.string ⟨nm.toArray⟩)
 have h2:=blk_set h1 1 (.int .i64 args)
 have h3:=blk_set h2 2 cv
 have h4:=blk_set_other h3 (by omega:w0.heap.size≠w0.heap.size+1) 0 (.int .i64 0)
 have e1:=blk_set_other h.he (by omega:w0.heap.size+1≠w0.heap.size) 0 (.string ⟨nm.toArray⟩)
 have e2:=blk_set_other e1 (by omega:w0.heap.size+1≠w0.heap.size) 1 (.int .i64 args)
 have e3:=blk_set_other e2 (by omega:w0.heap.size+1≠w0.heap.size) 2 cv
 have e4:=blk_set e3 0 (.int .i64 0)
 exact⟨blk_cell h4 0,blk_cell h4 1,blk_cell h4 2,blk_cell e4 0,(((h.below.setCell (p:=⟨w0.heap.size,0,none⟩) (Nat.le_refl _) _).setCell (p:=⟨w0.heap.size,1,none⟩) (Nat.le_refl _) _).setCell (p:=⟨w0.heap.size,2,none⟩) (Nat.le_refl _) _).setCell (p:=⟨w0.heap.size+1,0,none⟩) (by show w0.heap.size<=w0.heap.size+1;omega) _,
  own_kb (own_kb (own_kb (own_kb h.own Kb.set h.hp (by decide)) Kb.set h1 (by decide)) Kb.set h2 (by decide)) Kb.set e3 (by decide)⟩
theorem gave_cells{w0 w:World}{nm:Bs}{args:Int}{cv:Value}(h:PG w0 w nm args cv)(e:Int) :
  (gaveP w w0.heap.size (w0.heap.size+1) e).cell? ⟨w0.heap.size,0,none⟩=some (.string ⟨#[]⟩)/\(gaveP w w0.heap.size (w0.heap.size+1) e).cell? ⟨w0.heap.size,1,none⟩=some (.int .i64 0)/\(gaveP w w0.heap.size (w0.heap.size+1) e).cell? ⟨w0.heap.size,2,none⟩=some (.slice none 0 0)/\(gaveP w w0.heap.size (w0.heap.size+1) e).cell? ⟨w0.heap.size+1,0,none⟩=some (.int .i64 e)/\Below w0.heap.size w0 (gaveP w w0.heap.size (w0.heap.size+1) e):=by
 have h1:=blk_set h.hp 0 (.string ⟨#[]⟩)
 have h2:=blk_set h1 1 (.int .i64 0)
 have h3:=blk_set h2 2 (.slice none 0 0)
 have h4:=blk_set_other h3 (by omega:w0.heap.size≠w0.heap.size+1) 0 (.int .i64 e)
 have e1:=blk_set_other h.he (by omega:w0.heap.size+1≠w0.heap.size) 0 (.string ⟨#[]⟩)
 have e2:=blk_set_other e1 (by omega:w0.heap.size+1≠w0.heap.size) 1 (.int .i64 0)
 have e3:=blk_set_other e2 (by omega:w0.heap.size+1≠w0.heap.size) 2 (.slice none 0 0)
 have e4:=blk_set e3 0 (.int .i64 e)
 exact⟨blk_cell h4 0,blk_cell h4 1,blk_cell h4 2,blk_cell e4 0,(((h.below.setCell (p:=⟨w0.heap.size,0,none⟩) (Nat.le_refl _) _).setCell (p:=⟨w0.heap.size,1,none⟩) (Nat.le_refl _) _).setCell (p:=⟨w0.heap.size,2,none⟩) (Nat.le_refl _) _).setCell (p:=⟨w0.heap.size+1,0,none⟩) (by show w0.heap.size<=w0.heap.size+1;omega) _⟩
end Go.Proofs.YtbppnihcbcdglaaGreat
