/- proc: the fields of an instruction, and what may stand in them. No condition. -/
import Derived.Outline
import Derived.Laws.EntriesVeiled
import Derived.Test.YtbppnihcbcdglaaGreatZ5
namespace Go.Proofs.YtbppnihcbcdglaaGreat
set_option maxHeartbeats 0
open Go.RowKit
set_option linter.unusedVariables false
set_option linter.unusedSimpArgs false
def fnV(k:Nat):Value := .func (.func k) #[] #[]
def Fd.atF:Fd->Nat
 | .ra=>241 | .rb=>243 | .rc=>244 | .arg=>245 | .how=>245 | .many=>245 | .skip=>241
def Fd.mayF:Fd->Nat
 | .ra=>242 | .rb=>242 | .rc=>242 | .arg=>246 | .how=>247 | .many=>248 | .skip=>249
def fdC(f:Fd):List Value:=[fnV f.atF,fnV f.mayF,.bool f.one]
def FB(w:World)(g:Nat)(f:Fd):Prop:=w.heap[g]? = some (.cells #[fnV f.atF,fnV f.mayF,.bool f.one] 271 (0,0))
def Shp(w:World)(n0:Nat)(L:Array Value)(D:List Nat):Prop :=
 L.size=34/\∀ op,op<17 ->
  (op∈D->∃ g,n0<=g/\L[2*op]? = some (.slice (some ⟨g,0,none⟩) (fds op).length (fds op).length)/\L[2*op+1]? = some (.bool (hasV op))/\w.heap[g]? = some (.cells ((fds op).flatMap fdC).toArray 271 (0,0))) /\
  (op∉D->L[2*op]? = some (.slice none 0 0)/\L[2*op+1]? = some (.bool false))
theorem Shp.step{w:World}{n0 l:Nat}{L:Array Value}{D:List Nat}(h:Shp w n0 L D)(hl:w.heap[l]? = some (.cells L 266 (0,0)))(hn:n0<=w.heap.size)(op:Nat)(ho:op<17)(C:Array Value)(hC:C=((fds op).flatMap fdC).toArray)(k:Nat)(hk:k=(fds op).length)(v:Bool)(hv:v=hasV op)(i1 i2:Nat)(h1:i1=2*op)(h2:i2=2*op+1) :
  ∃ L',Shp (((w.alloc (.cells C 271)).setCell ⟨l,i1,none⟩ (.slice (some ⟨w.heap.size,0,none⟩) k k)).setCell ⟨l,i2,none⟩ (.bool v)) n0 L' (op :: D) /\
   (((w.alloc (.cells C 271)).setCell ⟨l,i1,none⟩ (.slice (some ⟨w.heap.size,0,none⟩) k k)).setCell ⟨l,i2,none⟩ (.bool v)).heap[l]? = some (.cells L' 266 (0,0)):=by
 subst hC hk hv h1 h2
 have hlt:=blk_lt hl
 have hl1:(w.alloc (.cells ((fds op).flatMap fdC).toArray 271)).heap[l]? = _:=blk_alloc hl _
 have hl2:=blk_set (blk_set hl1 (2*op) (.slice (some ⟨w.heap.size,0,none⟩) (fds op).length (fds op).length)) (2*op+1) (.bool (hasV op))
 refine⟨_,⟨by simp[h.1],fun o hoo=>⟨fun hm=>?_,fun hm=>?_⟩⟩,hl2⟩
 ·by_cases he:o=op
  ·subst he
   refine⟨w.heap.size,hn,?_,?_,?_⟩
   ·rw[Array.getElem?_setIfInBounds_ne (by omega)]
    exact Array.getElem?_setIfInBounds_self_of_lt (by rw[h.1];omega)
   ·exact Array.getElem?_setIfInBounds_self_of_lt (by simp[h.1];omega)
   ·exact blk_set_other (blk_set_other (blk_new w _) (by omega) _ _) (by omega) _ _
  ·have hm':o∈D:=by simpa [he] using hm
   obtain⟨g,g1,g2,g3,g4⟩:=(h.2 o hoo).1 hm'
   have hgl:g≠l:=by
    rintro rfl
    rw[hl] at g4
    injection g4 with g4
    injection g4 with _ g5
    exact absurd g5 (by decide)
   refine⟨g,g1,?_,?_,?_⟩
   ·rw[Array.getElem?_setIfInBounds_ne (by omega),Array.getElem?_setIfInBounds_ne (by omega)];exact g2
   ·rw[Array.getElem?_setIfInBounds_ne (by omega),Array.getElem?_setIfInBounds_ne (by omega)];exact g3
   ·exact blk_set_other (blk_set_other (blk_alloc g4 _) hgl _ _) hgl _ _
 ·have he:o≠op:=fun e=>hm (by simp[e])
  have hm':o∉D:=fun e=>hm (by simp[e])
  obtain⟨g2,g3⟩:=(h.2 o hoo).2 hm'
  exact⟨by rw[Array.getElem?_setIfInBounds_ne (by omega),Array.getElem?_setIfInBounds_ne (by omega)];exact g2,by rw[Array.getElem?_setIfInBounds_ne (by omega),Array.getElem?_setIfInBounds_ne (by omega)];exact g3⟩
structure SW (w0 w:World) (n:Nat) (D:List Nat):Prop where
 f1:FB w (n+1) .ra
 f2:FB w (n+1+1) .rb
 f3:FB w (n+1+1+1) .rc
 f4:FB w (n+1+1+1+1) .arg
 f5:FB w (n+1+1+1+1+1) .how
 f6:FB w (n+1+1+1+1+1+1) .many
 f7:FB w (n+1+1+1+1+1+1+1) .skip
 hl:∃ L,w.heap[n+1+1+1+1+1+1+1+1]? = some (.cells L 266 (0,0))/\Shp w n L D
 r0:∃ Z,Z.size=34/\w.heap[n]? = some (.cells Z 266 (0,0))
 below:Below n w0 w
 size:n+9<=w.heap.size
theorem SW.step{w0 w:World}{n:Nat}{D:List Nat}(h:SW w0 w n D)(op:Nat)(ho:op<17)(C:Array Value)(hC:C=((fds op).flatMap fdC).toArray)(k:Nat)(hk:k=(fds op).length)(v:Bool)(hv:v=hasV op)(i1 i2:Nat)(h1:i1=2*op)(h2:i2=2*op+1) :
  SW w0 (((w.alloc (.cells C 271)).setCell ⟨n+1+1+1+1+1+1+1+1,i1,none⟩ (.slice (some ⟨w.heap.size,0,none⟩) k k)).setCell ⟨n+1+1+1+1+1+1+1+1,i2,none⟩ (.bool v)) n (op :: D):=by
 obtain⟨L,hl,hs⟩:=h.hl
 have hsz:=h.size
 obtain⟨L',e1,e2⟩:=hs.step hl (by omega) op ho C hC k hk v hv i1 i2 h1 h2
 have kp:∀ j o,j≠n+1+1+1+1+1+1+1+1->w.heap[j]? = some o->(((w.alloc (.cells C 271)).setCell ⟨n+1+1+1+1+1+1+1+1,i1,none⟩ (.slice (some ⟨w.heap.size,0,none⟩) k k)).setCell ⟨n+1+1+1+1+1+1+1+1,i2,none⟩ (.bool v)).heap[j]? = some o :=
  fun j o hj ho=>blk_set_other (blk_set_other (blk_alloc ho _) hj _ _) hj _ _
 obtain⟨Z,hz1,hz2⟩:=h.r0
 exact⟨kp _ _ (by omega) h.f1,kp _ _ (by omega) h.f2,kp _ _ (by omega) h.f3,kp _ _ (by omega) h.f4,kp _ _ (by omega) h.f5,kp _ _ (by omega) h.f6,kp _ _ (by omega) h.f7,⟨L',e2,e1⟩,⟨Z,hz1,kp _ _ (by omega) hz2⟩,((h.below.alloc (by omega) _).setCell (by show n<=n+1+1+1+1+1+1+1+1;omega) _).setCell (by show n<=n+1+1+1+1+1+1+1+1;omega) _,by simp;omega⟩
theorem SW.pure{w0 w w':World}{n:Nat}{D:List Nat}(h:SW w0 w n D)(hb:Below w.heap.size w w'):SW w0 w' n D:=by
 obtain⟨L,hl,hs⟩:=h.hl
 have hsz:=h.size
 obtain⟨Z,hz1,hz2⟩:=h.r0
 have kp:∀ j o,w.heap[j]? = some o->w'.heap[j]? = some o:=fun j o ho=>blk_below hb ho (blk_lt ho)
 refine⟨kp _ _ h.f1,kp _ _ h.f2,kp _ _ h.f3,kp _ _ h.f4,kp _ _ h.f5,kp _ _ h.f6,kp _ _ h.f7,⟨L,kp _ _ hl,hs.1,fun op ho=>⟨fun hm=>?_,(hs.2 op ho).2⟩⟩,⟨Z,hz1,kp _ _ hz2⟩,h.below.trans (hb.mono (by omega)),by have:=hb.size;omega⟩
 obtain⟨g,g1,g2,g3,g4⟩:=(hs.2 op ho).1 hm
 exact⟨g,g1,g2,g3,kp _ _ g4⟩
theorem Shp.one{w:World}{n0:Nat}{L:Array Value}{D:List Nat}(h:Shp w n0 L D):L.all (·.oneCell')=true:=by
 rw[Array.all_eq_true]
 intro i hi
 have h34:=h.1
 obtain⟨o,ho,hio⟩:∃ o,o<17/\(i=2*o\/i=2*o+1):=⟨i / 2,by omega,by omega⟩
 have hget:L[i]? = some L[i]:=Array.getElem?_eq_getElem hi
 by_cases hD:o∈D
 ·obtain⟨g,_,g2,g3,_⟩:=(h.2 o ho).1 hD
  rcases hio with rfl|rfl
  ·rw[g2] at hget;injection hget with hget;rw[<-hget];rfl
  ·rw[g3] at hget;injection hget with hget;rw[<-hget];rfl
 ·obtain⟨g2,g3⟩:=(h.2 o ho).2 hD
  rcases hio with rfl|rfl
  ·rw[g2] at hget;injection hget with hget;rw[<-hget];rfl
  ·rw[g3] at hget;injection hget with hget;rw[<-hget];rfl
theorem Shp.row{w:World}{n0 l:Nat}{L Z:Array Value}{D:List Nat}(h:Shp w n0 L D)(hl:w.heap[l]? = some (.cells Z 266 (0,0)))(C:Array Value):Shp (w.setRow l C) n0 L D:=by
 refine⟨h.1,fun o ho=>⟨fun hm=>?_,(h.2 o ho).2⟩⟩
 obtain⟨g,g1,g2,g3,g4⟩:=(h.2 o ho).1 hm
 have hgl:g≠l:=by
  rintro rfl
  rw[hl] at g4
  injection g4 with g4
  injection g4 with _ g5
  exact absurd g5 (by decide)
 exact⟨g,g1,g2,g3,(setRow_other _ _ _ _ hgl).trans g4⟩
theorem Shp.pure{w w':World}{n0:Nat}{L:Array Value}{D:List Nat}(h:Shp w n0 L D)(hb:Below w.heap.size w w'):Shp w' n0 L D:=by
 refine⟨h.1,fun o ho=>⟨fun hm=>?_,(h.2 o ho).2⟩⟩
 obtain⟨g,g1,g2,g3,g4⟩:=(h.2 o ho).1 hm
 exact⟨g,g1,g2,g3,blk_below hb g4 (blk_lt g4)⟩
theorem SW.wp{w0 w:World}{n:Nat}{D:List Nat}(h:SW w0 w n D){code:Code}{Q:Exit->Act->World->Prop}{a:Act}(op:Nat)(ho:op<17){C:Array Value}(hC:C=((fds op).flatMap fdC).toArray){k:Nat}(hk:k=(fds op).length){v:Bool}(hv:v=hasV op){i1 i2:Nat}(h1:i1=2*op)(h2:i2=2*op+1)
  (K:∀ w',SW w0 w' n (op :: D)->(∀ j o,j≠n+1+1+1+1+1+1+1+1->w.heap[j]? = some o->w'.heap[j]? = some o)->code.wp Tryz.prog Q a w') :
  code.wp Tryz.prog Q a (((w.alloc (.cells C 271)).setCell ⟨n+1+1+1+1+1+1+1+1,i1,none⟩ (.slice (some ⟨w.heap.size,0,none⟩) k k)).setCell ⟨n+1+1+1+1+1+1+1+1,i2,none⟩ (.bool v)) :=
 K _ (h.step op ho C hC k hk v hv i1 i2 h1 h2) (fun j o hj ho=>blk_set_other (blk_set_other (blk_alloc ho _) hj _ _) hj _ _)
theorem SW.at{w0 w:World}{n:Nat}{D:List Nat}(h:SW w0 w n D)(op:Nat)(ho:op<17)(hD:op∉D){i1 i2:Nat}(h1:2*op=i1)(h2:2*op+1=i2) :
  (∀ o,(w.alloc o).cell? ⟨n+1+1+1+1+1+1+1+1,i1,none⟩=some (.slice none 0 0))/\(∀ o,(w.alloc o).cell? ⟨n+1+1+1+1+1+1+1+1,i2,none⟩=some (.bool false)) /\
  (∀ o,(w.alloc o).frozen? ⟨n+1+1+1+1+1+1+1+1,i1,none⟩=false)/\(∀ o,(w.alloc o).frozen? ⟨n+1+1+1+1+1+1+1+1,i2,none⟩=false):=by
 subst h1 h2
 obtain⟨L,hl,hs⟩:=h.hl
 obtain⟨g2,g3⟩:=(hs.2 op ho).2 hD
 exact⟨fun o=>(blk_cell (blk_alloc hl o) _).trans g2,fun o=>(blk_cell (blk_alloc hl o) _).trans g3,fun o=>blk_free (blk_alloc hl o) _,fun o=>blk_free (blk_alloc hl o) _⟩
theorem FB.c{w:World}{g:Nat}{f:Fd}(h:FB w g f):w.cell? ⟨g,0,none⟩=some (fnV f.atF)/\w.cell? ⟨g,1,none⟩=some (fnV f.mayF)/\w.cell? ⟨g,2,none⟩=some (.bool f.one):=⟨blk_cell h 0,blk_cell h 1,blk_cell h 2⟩
theorem sw_start(w:World):SW w (((((((((w.alloc (.cells #[.slice none 0 0,.bool false,.slice none 0 0,.bool false,.slice none 0 0,.bool false,.slice none 0 0,.bool false,.slice none 0 0,.bool false,.slice none 0 0,.bool false,.slice none 0 0,.bool false,.slice none 0 0,.bool false,.slice none 0 0,.bool false,.slice none 0 0,.bool false,.slice none 0 0,.bool false,.slice none 0 0,.bool false,.slice none 0 0,.bool false,.slice none 0 0,.bool false,.slice none 0 0,.bool false,.slice none 0 0,.bool false,.slice none 0 0,.bool false] 266)).alloc (.cells #[.func (.func 241) #[] #[],.func (.func 242) #[] #[],.bool true] 271)).alloc (.cells #[.func (.func 243) #[] #[],.func (.func 242) #[] #[],.bool true] 271)).alloc (.cells #[.func (.func 244) #[] #[],.func (.func 242) #[] #[],.bool true] 271)).alloc (.cells #[.func (.func 245) #[] #[],.func (.func 246) #[] #[],.bool false] 271)).alloc (.cells #[.func (.func 245) #[] #[],.func (.func 247) #[] #[],.bool false] 271)).alloc (.cells #[.func (.func 245) #[] #[],.func (.func 248) #[] #[],.bool false] 271)).alloc (.cells #[.func (.func 241) #[] #[],.func (.func 249) #[] #[],.bool false] 271)).alloc (.cells #[.slice none 0 0,.bool false,.slice none 0 0,.bool false,.slice none 0 0,.bool false,.slice none 0 0,.bool false,.slice none 0 0,.bool false,.slice none 0 0,.bool false,.slice none 0 0,.bool false,.slice none 0 0,.bool false,.slice none 0 0,.bool false,.slice none 0 0,.bool false,.slice none 0 0,.bool false,.slice none 0 0,.bool false,.slice none 0 0,.bool false,.slice none 0 0,.bool false,.slice none 0 0,.bool false,.slice none 0 0,.bool false,.slice none 0 0,.bool false] 266)) w.heap.size []:=by
 have b0:Below w.heap.size w (w.alloc (.cells #[.slice none 0 0,.bool false,.slice none 0 0,.bool false,.slice none 0 0,.bool false,.slice none 0 0,.bool false,.slice none 0 0,.bool false,.slice none 0 0,.bool false,.slice none 0 0,.bool false,.slice none 0 0,.bool false,.slice none 0 0,.bool false,.slice none 0 0,.bool false,.slice none 0 0,.bool false,.slice none 0 0,.bool false,.slice none 0 0,.bool false,.slice none 0 0,.bool false,.slice none 0 0,.bool false,.slice none 0 0,.bool false,.slice none 0 0,.bool false] 266)):=(Below.refl _ _).alloc (Nat.le_refl _) _
 have e0:(w.alloc (.cells #[.slice none 0 0,.bool false,.slice none 0 0,.bool false,.slice none 0 0,.bool false,.slice none 0 0,.bool false,.slice none 0 0,.bool false,.slice none 0 0,.bool false,.slice none 0 0,.bool false,.slice none 0 0,.bool false,.slice none 0 0,.bool false,.slice none 0 0,.bool false,.slice none 0 0,.bool false,.slice none 0 0,.bool false,.slice none 0 0,.bool false,.slice none 0 0,.bool false,.slice none 0 0,.bool false,.slice none 0 0,.bool false,.slice none 0 0,.bool false] 266)).heap.size=w.heap.size+1:=World.size_alloc _ _
 have z0:(w.alloc (.cells #[.slice none 0 0,.bool false,.slice none 0 0,.bool false,.slice none 0 0,.bool false,.slice none 0 0,.bool false,.slice none 0 0,.bool false,.slice none 0 0,.bool false,.slice none 0 0,.bool false,.slice none 0 0,.bool false,.slice none 0 0,.bool false,.slice none 0 0,.bool false,.slice none 0 0,.bool false,.slice none 0 0,.bool false,.slice none 0 0,.bool false,.slice none 0 0,.bool false,.slice none 0 0,.bool false,.slice none 0 0,.bool false,.slice none 0 0,.bool false] 266)).heap[w.heap.size]? = some (.cells #[.slice none 0 0,.bool false,.slice none 0 0,.bool false,.slice none 0 0,.bool false,.slice none 0 0,.bool false,.slice none 0 0,.bool false,.slice none 0 0,.bool false,.slice none 0 0,.bool false,.slice none 0 0,.bool false,.slice none 0 0,.bool false,.slice none 0 0,.bool false,.slice none 0 0,.bool false,.slice none 0 0,.bool false,.slice none 0 0,.bool false,.slice none 0 0,.bool false,.slice none 0 0,.bool false,.slice none 0 0,.bool false,.slice none 0 0,.bool false] 266 (0,0)):=blk_new _ _
 generalize (w.alloc (.cells #[.slice none 0 0,.bool false,.slice none 0 0,.bool false,.slice none 0 0,.bool false,.slice none 0 0,.bool false,.slice none 0 0,.bool false,.slice none 0 0,.bool false,.slice none 0 0,.bool false,.slice none 0 0,.bool false,.slice none 0 0,.bool false,.slice none 0 0,.bool false,.slice none 0 0,.bool false,.slice none 0 0,.bool false,.slice none 0 0,.bool false,.slice none 0 0,.bool false,.slice none 0 0,.bool false,.slice none 0 0,.bool false,.slice none 0 0,.bool false] 266))=A0 at b0 e0 z0 ⊢
 have n1:FB (A0.alloc (.cells #[.func (.func 241) #[] #[],.func (.func 242) #[] #[],.bool true] 271)) (w.heap.size+1) .ra:=by have:=blk_new A0 (.cells #[.func (.func 241) #[] #[],.func (.func 242) #[] #[],.bool true] 271);rw[e0] at this;exact this
 replace z0:(A0.alloc (.cells #[.func (.func 241) #[] #[],.func (.func 242) #[] #[],.bool true] 271)).heap[w.heap.size]? = _:=blk_alloc z0 _
 have b1:Below w.heap.size w (A0.alloc (.cells #[.func (.func 241) #[] #[],.func (.func 242) #[] #[],.bool true] 271)):=b0.alloc (by omega) _
 have e1:(A0.alloc (.cells #[.func (.func 241) #[] #[],.func (.func 242) #[] #[],.bool true] 271)).heap.size=w.heap.size+1+1:=by rw[World.size_alloc,e0]
 generalize A0.alloc (.cells #[.func (.func 241) #[] #[],.func (.func 242) #[] #[],.bool true] 271)=A1 at b1 e1 z0 n1 ⊢
 have n2:FB (A1.alloc (.cells #[.func (.func 243) #[] #[],.func (.func 242) #[] #[],.bool true] 271)) (w.heap.size+1+1) .rb:=by have:=blk_new A1 (.cells #[.func (.func 243) #[] #[],.func (.func 242) #[] #[],.bool true] 271);rw[e1] at this;exact this
 replace n1:FB (A1.alloc (.cells #[.func (.func 243) #[] #[],.func (.func 242) #[] #[],.bool true] 271)) _ _:=blk_alloc n1 _
 replace z0:(A1.alloc (.cells #[.func (.func 243) #[] #[],.func (.func 242) #[] #[],.bool true] 271)).heap[w.heap.size]? = _:=blk_alloc z0 _
 have b2:Below w.heap.size w (A1.alloc (.cells #[.func (.func 243) #[] #[],.func (.func 242) #[] #[],.bool true] 271)):=b1.alloc (by omega) _
 have e2:(A1.alloc (.cells #[.func (.func 243) #[] #[],.func (.func 242) #[] #[],.bool true] 271)).heap.size=w.heap.size+1+1+1:=by rw[World.size_alloc,e1]
 generalize A1.alloc (.cells #[.func (.func 243) #[] #[],.func (.func 242) #[] #[],.bool true] 271)=A2 at b2 e2 z0 n1 n2 ⊢
 have n3:FB (A2.alloc (.cells #[.func (.func 244) #[] #[],.func (.func 242) #[] #[],.bool true] 271)) (w.heap.size+1+1+1) .rc:=by have:=blk_new A2 (.cells #[.func (.func 244) #[] #[],.func (.func 242) #[] #[],.bool true] 271);rw[e2] at this;exact this
 replace n1:FB (A2.alloc (.cells #[.func (.func 244) #[] #[],.func (.func 242) #[] #[],.bool true] 271)) _ _:=blk_alloc n1 _
 replace n2:FB (A2.alloc (.cells #[.func (.func 244) #[] #[],.func (.func 242) #[] #[],.bool true] 271)) _ _:=blk_alloc n2 _
 replace z0:(A2.alloc (.cells #[.func (.func 244) #[] #[],.func (.func 242) #[] #[],.bool true] 271)).heap[w.heap.size]? = _:=blk_alloc z0 _
 have b3:Below w.heap.size w (A2.alloc (.cells #[.func (.func 244) #[] #[],.func (.func 242) #[] #[],.bool true] 271)):=b2.alloc (by omega) _
 have e3:(A2.alloc (.cells #[.func (.func 244) #[] #[],.func (.func 242) #[] #[],.bool true] 271)).heap.size=w.heap.size+1+1+1+1:=by rw[World.size_alloc,e2]
 generalize A2.alloc (.cells #[.func (.func 244) #[] #[],.func (.func 242) #[] #[],.bool true] 271)=A3 at b3 e3 z0 n1 n2 n3 ⊢
 have n4:FB (A3.alloc (.cells #[.func (.func 245) #[] #[],.func (.func 246) #[] #[],.bool false] 271)) (w.heap.size+1+1+1+1) .arg:=by have:=blk_new A3 (.cells #[.func (.func 245) #[] #[],.func (.func 246) #[] #[],.bool false] 271);rw[e3] at this;exact this
 replace n1:FB (A3.alloc (.cells #[.func (.func 245) #[] #[],.func (.func 246) #[] #[],.bool false] 271)) _ _:=blk_alloc n1 _
 replace n2:FB (A3.alloc (.cells #[.func (.func 245) #[] #[],.func (.func 246) #[] #[],.bool false] 271)) _ _:=blk_alloc n2 _
 replace n3:FB (A3.alloc (.cells #[.func (.func 245) #[] #[],.func (.func 246) #[] #[],.bool false] 271)) _ _:=blk_alloc n3 _
 replace z0:(A3.alloc (.cells #[.func (.func 245) #[] #[],.func (.func 246) #[] #[],.bool false] 271)).heap[w.heap.size]? = _:=blk_alloc z0 _
 have b4:Below w.heap.size w (A3.alloc (.cells #[.func (.func 245) #[] #[],.func (.func 246) #[] #[],.bool false] 271)):=b3.alloc (by omega) _
 have e4:(A3.alloc (.cells #[.func (.func 245) #[] #[],.func (.func 246) #[] #[],.bool false] 271)).heap.size=w.heap.size+1+1+1+1+1:=by rw[World.size_alloc,e3]
 generalize A3.alloc (.cells #[.func (.func 245) #[] #[],.func (.func 246) #[] #[],.bool false] 271)=A4 at b4 e4 z0 n1 n2 n3 n4 ⊢
 have n5:FB (A4.alloc (.cells #[.func (.func 245) #[] #[],.func (.func 247) #[] #[],.bool false] 271)) (w.heap.size+1+1+1+1+1) .how:=by have:=blk_new A4 (.cells #[.func (.func 245) #[] #[],.func (.func 247) #[] #[],.bool false] 271);rw[e4] at this;exact this
 replace n1:FB (A4.alloc (.cells #[.func (.func 245) #[] #[],.func (.func 247) #[] #[],.bool false] 271)) _ _:=blk_alloc n1 _
 replace n2:FB (A4.alloc (.cells #[.func (.func 245) #[] #[],.func (.func 247) #[] #[],.bool false] 271)) _ _:=blk_alloc n2 _
 replace n3:FB (A4.alloc (.cells #[.func (.func 245) #[] #[],.func (.func 247) #[] #[],.bool false] 271)) _ _:=blk_alloc n3 _
 replace n4:FB (A4.alloc (.cells #[.func (.func 245) #[] #[],.func (.func 247) #[] #[],.bool false] 271)) _ _:=blk_alloc n4 _
 replace z0:(A4.alloc (.cells #[.func (.func 245) #[] #[],.func (.func 247) #[] #[],.bool false] 271)).heap[w.heap.size]? = _:=blk_alloc z0 _
 have b5:Below w.heap.size w (A4.alloc (.cells #[.func (.func 245) #[] #[],.func (.func 247) #[] #[],.bool false] 271)):=b4.alloc (by omega) _
 have e5:(A4.alloc (.cells #[.func (.func 245) #[] #[],.func (.func 247) #[] #[],.bool false] 271)).heap.size=w.heap.size+1+1+1+1+1+1:=by rw[World.size_alloc,e4]
 generalize A4.alloc (.cells #[.func (.func 245) #[] #[],.func (.func 247) #[] #[],.bool false] 271)=A5 at b5 e5 z0 n1 n2 n3 n4 n5 ⊢
 have n6:FB (A5.alloc (.cells #[.func (.func 245) #[] #[],.func (.func 248) #[] #[],.bool false] 271)) (w.heap.size+1+1+1+1+1+1) .many:=by have:=blk_new A5 (.cells #[.func (.func 245) #[] #[],.func (.func 248) #[] #[],.bool false] 271);rw[e5] at this;exact this
 replace n1:FB (A5.alloc (.cells #[.func (.func 245) #[] #[],.func (.func 248) #[] #[],.bool false] 271)) _ _:=blk_alloc n1 _
 replace n2:FB (A5.alloc (.cells #[.func (.func 245) #[] #[],.func (.func 248) #[] #[],.bool false] 271)) _ _:=blk_alloc n2 _
 replace n3:FB (A5.alloc (.cells #[.func (.func 245) #[] #[],.func (.func 248) #[] #[],.bool false] 271)) _ _:=blk_alloc n3 _
 replace n4:FB (A5.alloc (.cells #[.func (.func 245) #[] #[],.func (.func 248) #[] #[],.bool false] 271)) _ _:=blk_alloc n4 _
 replace n5:FB (A5.alloc (.cells #[.func (.func 245) #[] #[],.func (.func 248) #[] #[],.bool false] 271)) _ _:=blk_alloc n5 _
 replace z0:(A5.alloc (.cells #[.func (.func 245) #[] #[],.func (.func 248) #[] #[],.bool false] 271)).heap[w.heap.size]? = _:=blk_alloc z0 _
 have b6:Below w.heap.size w (A5.alloc (.cells #[.func (.func 245) #[] #[],.func (.func 248) #[] #[],.bool false] 271)):=b5.alloc (by omega) _
 have e6:(A5.alloc (.cells #[.func (.func 245) #[] #[],.func (.func 248) #[] #[],.bool false] 271)).heap.size=w.heap.size+1+1+1+1+1+1+1:=by rw[World.size_alloc,e5]
 generalize A5.alloc (.cells #[.func (.func 245) #[] #[],.func (.func 248) #[] #[],.bool false] 271)=A6 at b6 e6 z0 n1 n2 n3 n4 n5 n6 ⊢
 have n7:FB (A6.alloc (.cells #[.func (.func 241) #[] #[],.func (.func 249) #[] #[],.bool false] 271)) (w.heap.size+1+1+1+1+1+1+1) .skip:=by have:=blk_new A6 (.cells #[.func (.func 241) #[] #[],.func (.func 249) #[] #[],.bool false] 271);rw[e6] at this;exact this
 replace n1:FB (A6.alloc (.cells #[.func (.func 241) #[] #[],.func (.func 249) #[] #[],.bool false] 271)) _ _:=blk_alloc n1 _
 replace n2:FB (A6.alloc (.cells #[.func (.func 241) #[] #[],.func (.func 249) #[] #[],.bool false] 271)) _ _:=blk_alloc n2 _
 replace n3:FB (A6.alloc (.cells #[.func (.func 241) #[] #[],.func (.func 249) #[] #[],.bool false] 271)) _ _:=blk_alloc n3 _
 replace n4:FB (A6.alloc (.cells #[.func (.func 241) #[] #[],.func (.func 249) #[] #[],.bool false] 271)) _ _:=blk_alloc n4 _
 replace n5:FB (A6.alloc (.cells #[.func (.func 241) #[] #[],.func (.func 249) #[] #[],.bool false] 271)) _ _:=blk_alloc n5 _
 replace n6:FB (A6.alloc (.cells #[.func (.func 241) #[] #[],.func (.func 249) #[] #[],.bool false] 271)) _ _:=blk_alloc n6 _
 replace z0:(A6.alloc (.cells #[.func (.func 241) #[] #[],.func (.func 249) #[] #[],.bool false] 271)).heap[w.heap.size]? = _:=blk_alloc z0 _
 have b7:Below w.heap.size w (A6.alloc (.cells #[.func (.func 241) #[] #[],.func (.func 249) #[] #[],.bool false] 271)):=b6.alloc (by omega) _
 have e7:(A6.alloc (.cells #[.func (.func 241) #[] #[],.func (.func 249) #[] #[],.bool false] 271)).heap.size=w.heap.size+1+1+1+1+1+1+1+1:=by rw[World.size_alloc,e6]
 generalize A6.alloc (.cells #[.func (.func 241) #[] #[],.func (.func 249) #[] #[],.bool false] 271)=A7 at b7 e7 z0 n1 n2 n3 n4 n5 n6 n7 ⊢
 have hl:(A7.alloc (.cells #[.slice none 0 0,.bool false,.slice none 0 0,.bool false,.slice none 0 0,.bool false,.slice none 0 0,.bool false,.slice none 0 0,.bool false,.slice none 0 0,.bool false,.slice none 0 0,.bool false,.slice none 0 0,.bool false,.slice none 0 0,.bool false,.slice none 0 0,.bool false,.slice none 0 0,.bool false,.slice none 0 0,.bool false,.slice none 0 0,.bool false,.slice none 0 0,.bool false,.slice none 0 0,.bool false,.slice none 0 0,.bool false,.slice none 0 0,.bool false] 266)).heap[w.heap.size+1+1+1+1+1+1+1+1]? = some (.cells #[.slice none 0 0,.bool false,.slice none 0 0,.bool false,.slice none 0 0,.bool false,.slice none 0 0,.bool false,.slice none 0 0,.bool false,.slice none 0 0,.bool false,.slice none 0 0,.bool false,.slice none 0 0,.bool false,.slice none 0 0,.bool false,.slice none 0 0,.bool false,.slice none 0 0,.bool false,.slice none 0 0,.bool false,.slice none 0 0,.bool false,.slice none 0 0,.bool false,.slice none 0 0,.bool false,.slice none 0 0,.bool false,.slice none 0 0,.bool false] 266 (0,0)):=by have:=blk_new A7 (.cells #[.slice none 0 0,.bool false,.slice none 0 0,.bool false,.slice none 0 0,.bool false,.slice none 0 0,.bool false,.slice none 0 0,.bool false,.slice none 0 0,.bool false,.slice none 0 0,.bool false,.slice none 0 0,.bool false,.slice none 0 0,.bool false,.slice none 0 0,.bool false,.slice none 0 0,.bool false,.slice none 0 0,.bool false,.slice none 0 0,.bool false,.slice none 0 0,.bool false,.slice none 0 0,.bool false,.slice none 0 0,.bool false,.slice none 0 0,.bool false] 266);rw[e7] at this;exact this
 refine⟨blk_alloc n1 _,blk_alloc n2 _,blk_alloc n3 _,blk_alloc n4 _,blk_alloc n5 _,blk_alloc n6 _,blk_alloc n7 _,⟨_,hl,rfl,fun op ho=>⟨fun hm=>absurd hm (by simp),fun _=>?_⟩⟩,⟨_,rfl,blk_alloc z0 _⟩,b7.alloc (by omega) _,by rw[World.size_alloc,e7];omega⟩
 rcases op with _|_|_|_|_|_|_|_|_|_|_|_|_|_|_|_|_|op
 all_goals first|exact⟨rfl,rfl⟩|omega
theorem SW.wp0{w:World}{code:Code}{Q:Exit->Act->World->Prop}{a:Act}(K:∀ w',SW w w' w.heap.size []->code.wp Tryz.prog Q a w'):code.wp Tryz.prog Q a (((((((((w.alloc (.cells #[.slice none 0 0,.bool false,.slice none 0 0,.bool false,.slice none 0 0,.bool false,.slice none 0 0,.bool false,.slice none 0 0,.bool false,.slice none 0 0,.bool false,.slice none 0 0,.bool false,.slice none 0 0,.bool false,.slice none 0 0,.bool false,.slice none 0 0,.bool false,.slice none 0 0,.bool false,.slice none 0 0,.bool false,.slice none 0 0,.bool false,.slice none 0 0,.bool false,.slice none 0 0,.bool false,.slice none 0 0,.bool false,.slice none 0 0,.bool false] 266)).alloc (.cells #[.func (.func 241) #[] #[],.func (.func 242) #[] #[],.bool true] 271)).alloc (.cells #[.func (.func 243) #[] #[],.func (.func 242) #[] #[],.bool true] 271)).alloc (.cells #[.func (.func 244) #[] #[],.func (.func 242) #[] #[],.bool true] 271)).alloc (.cells #[.func (.func 245) #[] #[],.func (.func 246) #[] #[],.bool false] 271)).alloc (.cells #[.func (.func 245) #[] #[],.func (.func 247) #[] #[],.bool false] 271)).alloc (.cells #[.func (.func 245) #[] #[],.func (.func 248) #[] #[],.bool false] 271)).alloc (.cells #[.func (.func 241) #[] #[],.func (.func 249) #[] #[],.bool false] 271)).alloc (.cells #[.slice none 0 0,.bool false,.slice none 0 0,.bool false,.slice none 0 0,.bool false,.slice none 0 0,.bool false,.slice none 0 0,.bool false,.slice none 0 0,.bool false,.slice none 0 0,.bool false,.slice none 0 0,.bool false,.slice none 0 0,.bool false,.slice none 0 0,.bool false,.slice none 0 0,.bool false,.slice none 0 0,.bool false,.slice none 0 0,.bool false,.slice none 0 0,.bool false,.slice none 0 0,.bool false,.slice none 0 0,.bool false,.slice none 0 0,.bool false] 266)):=K _ (sw_start w)
theorem SW.wpI{w0 w:World}{n:Nat}{D:List Nat}(h:SW w0 w n D){code:Code}{Q:Exit->Act->World->Prop}{a:Act}{o:Obj}(K:∀ w',SW w0 w' n D->n+9<=w.heap.size->w'.heap[w.heap.size]? = some o->code.wp Tryz.prog Q a w'):code.wp Tryz.prog Q a (w.alloc o) :=
 K _ (h.pure ((Below.refl _ _).alloc (Nat.le_refl _) _)) h.size (blk_new _ _)
theorem Shp_perm{w:World}{n0:Nat}{L:Array Value}{D D':List Nat}(h:Shp w n0 L D)(hp:∀ o,o<17->(o∈D↔o∈D'):=by decide):Shp w n0 L D' :=
 ⟨h.1,fun o ho=>⟨fun hm=>(h.2 o ho).1 ((hp o ho).2 hm),fun hm=>(h.2 o ho).2 (fun e=>hm ((hp o ho).1 e))⟩⟩
set_option maxRecDepth 100000 in
theorem shapes_any(w:World):Calls Tryz.prog 177 #[] w fun e' w'=>(∃ S,e' = .returned (.agg S)/\Shp w' w.heap.size S [1,2,3,4,5,6,7,8,9,10,11,12,13,14,15])/\Below w.heap.size w w':=by
 go_enter Tryz.func177,Tryz.ntmps177
 repeat' ((fail_if_success (with_reducible (show Code.wp _ (Code.region 9 _ _) _ _ _)));(fail_if_success at_builtin);first|go_values|go_skip|go_guarded|go_step|go_upon|go_back)
 refine SW.wp0 fun w1 s1=>?_
 obtain⟨u1,u2,u3,u4⟩:=s1.at 1 (by decide) (by decide) rfl rfl
 obtain⟨p1,q1,r1⟩:=s1.f1.c
 repeat' ((fail_if_success (with_reducible (show Code.wp _ (Code.region 10 _ _) _ _ _)));(fail_if_success at_builtin);first|go_values|go_skip|go_guarded|go_step|go_upon|go_back)
 clear u1 u2 u3 u4 p1 q1 r1
 refine s1.wp 1 (by decide) rfl rfl rfl rfl rfl fun w2 s2 k2=>?_
 obtain⟨u1,u2,u3,u4⟩:=s2.at 2 (by decide) (by decide) rfl rfl
 obtain⟨p1,q1,r1⟩:=s2.f1.c
 obtain⟨p4,q4,r4⟩:=s2.f4.c
 repeat' ((fail_if_success (with_reducible (show Code.wp _ (Code.region 11 _ _) _ _ _)));(fail_if_success at_builtin);first|go_values|go_skip|go_guarded|go_step|go_upon|go_back)
 clear u1 u2 u3 u4 p1 q1 r1 p4 q4 r4
 refine s2.wp 2 (by decide) rfl rfl rfl rfl rfl fun w3 s3 k3=>?_
 repeat' ((fail_if_success at_builtin);first|go_values|go_skip|go_guarded|go_step|go_upon|go_back)
 refine s3.wpI fun w4 s4 z4 j4=>?_
 refine wp_loop_rounds 4 ?_;rw[rounds_succ]
 have i4:=blk_cell j4 0
 obtain⟨u1,u2,u3,u4⟩:=s4.at 3 (by decide) (by decide) rfl rfl
 obtain⟨p1,q1,r1⟩:=s4.f1.c
 obtain⟨p2,q2,r2⟩:=s4.f2.c
 repeat' ((fail_if_success (with_reducible (show Code.wp _ (Code.region 15 _ _) _ _ _)));(fail_if_success at_builtin);first|go_values|go_skip|go_guarded|go_step|go_upon|go_back)
 clear u1 u2 u3 u4 p1 q1 r1 p2 q2 r2
 refine s4.wp 3 (by decide) rfl rfl rfl rfl rfl fun w5 s5 k5=>?_
 clear i4
 have j5:=k5 _ _ (by omega) j4
 repeat' ((fail_if_success (with_reducible (show Code.wp _ (Code.region 12 _ _) _ _ _)));(fail_if_success at_builtin);first|go_values|go_skip|go_guarded|go_step|go_upon|go_back)
 rw[rounds_succ]
 have i5:=blk_cell j5 1
 obtain⟨u1,u2,u3,u4⟩:=s5.at 14 (by decide) (by decide) rfl rfl
 obtain⟨p1,q1,r1⟩:=s5.f1.c
 obtain⟨p2,q2,r2⟩:=s5.f2.c
 repeat' ((fail_if_success (with_reducible (show Code.wp _ (Code.region 15 _ _) _ _ _)));(fail_if_success at_builtin);first|go_values|go_skip|go_guarded|go_step|go_upon|go_back)
 clear u1 u2 u3 u4 p1 q1 r1 p2 q2 r2
 refine s5.wp 14 (by decide) rfl rfl rfl rfl rfl fun w6 s6 k6=>?_
 clear i5
 have j6:=k6 _ _ (by omega) j5
 repeat' ((fail_if_success (with_reducible (show Code.wp _ (Code.region 12 _ _) _ _ _)));(fail_if_success at_builtin);first|go_values|go_skip|go_guarded|go_step|go_upon|go_back)
 rw[rounds_succ]
 have i6:=blk_cell j6 2
 obtain⟨u1,u2,u3,u4⟩:=s6.at 4 (by decide) (by decide) rfl rfl
 obtain⟨p1,q1,r1⟩:=s6.f1.c
 obtain⟨p2,q2,r2⟩:=s6.f2.c
 repeat' ((fail_if_success (with_reducible (show Code.wp _ (Code.region 15 _ _) _ _ _)));(fail_if_success at_builtin);first|go_values|go_skip|go_guarded|go_step|go_upon|go_back)
 clear u1 u2 u3 u4 p1 q1 r1 p2 q2 r2
 refine s6.wp 4 (by decide) rfl rfl rfl rfl rfl fun w7 s7 k7=>?_
 clear i6
 have j7:=k7 _ _ (by omega) j6
 repeat' ((fail_if_success (with_reducible (show Code.wp _ (Code.region 12 _ _) _ _ _)));(fail_if_success at_builtin);first|go_values|go_skip|go_guarded|go_step|go_upon|go_back)
 rw[rounds_succ]
 repeat' ((fail_if_success (with_reducible (show Code.wp _ (Code.region 16 _ _) _ _ _)));(fail_if_success at_builtin);first|go_values|go_skip|go_guarded|go_step|go_upon|go_back)
 repeat' ((fail_if_success at_builtin);first|go_values|go_skip|go_guarded|go_step|go_upon|go_back)
 refine s7.wpI fun w8 s8 z8 j8=>?_
 refine wp_loop_rounds 3 ?_;rw[rounds_succ]
 have i8:=blk_cell j8 0
 obtain⟨u1,u2,u3,u4⟩:=s8.at 5 (by decide) (by decide) rfl rfl
 obtain⟨p1,q1,r1⟩:=s8.f1.c
 repeat' ((fail_if_success (with_reducible (show Code.wp _ (Code.region 20 _ _) _ _ _)));(fail_if_success at_builtin);first|go_values|go_skip|go_guarded|go_step|go_upon|go_back)
 clear u1 u2 u3 u4 p1 q1 r1
 refine s8.wp 5 (by decide) rfl rfl rfl rfl rfl fun w9 s9 k9=>?_
 clear i8
 have j9:=k9 _ _ (by omega) j8
 repeat' ((fail_if_success (with_reducible (show Code.wp _ (Code.region 17 _ _) _ _ _)));(fail_if_success at_builtin);first|go_values|go_skip|go_guarded|go_step|go_upon|go_back)
 rw[rounds_succ]
 have i9:=blk_cell j9 1
 obtain⟨u1,u2,u3,u4⟩:=s9.at 15 (by decide) (by decide) rfl rfl
 obtain⟨p1,q1,r1⟩:=s9.f1.c
 repeat' ((fail_if_success (with_reducible (show Code.wp _ (Code.region 20 _ _) _ _ _)));(fail_if_success at_builtin);first|go_values|go_skip|go_guarded|go_step|go_upon|go_back)
 clear u1 u2 u3 u4 p1 q1 r1
 refine s9.wp 15 (by decide) rfl rfl rfl rfl rfl fun w10 s10 k10=>?_
 clear i9
 have j10:=k10 _ _ (by omega) j9
 repeat' ((fail_if_success (with_reducible (show Code.wp _ (Code.region 17 _ _) _ _ _)));(fail_if_success at_builtin);first|go_values|go_skip|go_guarded|go_step|go_upon|go_back)
 rw[rounds_succ]
 repeat' ((fail_if_success (with_reducible (show Code.wp _ (Code.region 21 _ _) _ _ _)));(fail_if_success at_builtin);first|go_values|go_skip|go_guarded|go_step|go_upon|go_back)
 repeat' ((fail_if_success at_builtin);first|go_values|go_skip|go_guarded|go_step|go_upon|go_back)
 refine s10.wpI fun w11 s11 z11 j11=>?_
 refine wp_loop_rounds 5 ?_;rw[rounds_succ]
 have i11:=blk_cell j11 0
 obtain⟨u1,u2,u3,u4⟩:=s11.at 6 (by decide) (by decide) rfl rfl
 obtain⟨p1,q1,r1⟩:=s11.f1.c
 obtain⟨p2,q2,r2⟩:=s11.f2.c
 obtain⟨p3,q3,r3⟩:=s11.f3.c
 repeat' ((fail_if_success (with_reducible (show Code.wp _ (Code.region 25 _ _) _ _ _)));(fail_if_success at_builtin);first|go_values|go_skip|go_guarded|go_step|go_upon|go_back)
 clear u1 u2 u3 u4 p1 q1 r1 p2 q2 r2 p3 q3 r3
 refine s11.wp 6 (by decide) rfl rfl rfl rfl rfl fun w12 s12 k12=>?_
 clear i11
 have j12:=k12 _ _ (by omega) j11
 repeat' ((fail_if_success (with_reducible (show Code.wp _ (Code.region 22 _ _) _ _ _)));(fail_if_success at_builtin);first|go_values|go_skip|go_guarded|go_step|go_upon|go_back)
 rw[rounds_succ]
 have i12:=blk_cell j12 1
 obtain⟨u1,u2,u3,u4⟩:=s12.at 7 (by decide) (by decide) rfl rfl
 obtain⟨p1,q1,r1⟩:=s12.f1.c
 obtain⟨p2,q2,r2⟩:=s12.f2.c
 obtain⟨p3,q3,r3⟩:=s12.f3.c
 repeat' ((fail_if_success (with_reducible (show Code.wp _ (Code.region 25 _ _) _ _ _)));(fail_if_success at_builtin);first|go_values|go_skip|go_guarded|go_step|go_upon|go_back)
 clear u1 u2 u3 u4 p1 q1 r1 p2 q2 r2 p3 q3 r3
 refine s12.wp 7 (by decide) rfl rfl rfl rfl rfl fun w13 s13 k13=>?_
 clear i12
 have j13:=k13 _ _ (by omega) j12
 repeat' ((fail_if_success (with_reducible (show Code.wp _ (Code.region 22 _ _) _ _ _)));(fail_if_success at_builtin);first|go_values|go_skip|go_guarded|go_step|go_upon|go_back)
 rw[rounds_succ]
 have i13:=blk_cell j13 2
 obtain⟨u1,u2,u3,u4⟩:=s13.at 8 (by decide) (by decide) rfl rfl
 obtain⟨p1,q1,r1⟩:=s13.f1.c
 obtain⟨p2,q2,r2⟩:=s13.f2.c
 obtain⟨p3,q3,r3⟩:=s13.f3.c
 repeat' ((fail_if_success (with_reducible (show Code.wp _ (Code.region 25 _ _) _ _ _)));(fail_if_success at_builtin);first|go_values|go_skip|go_guarded|go_step|go_upon|go_back)
 clear u1 u2 u3 u4 p1 q1 r1 p2 q2 r2 p3 q3 r3
 refine s13.wp 8 (by decide) rfl rfl rfl rfl rfl fun w14 s14 k14=>?_
 clear i13
 have j14:=k14 _ _ (by omega) j13
 repeat' ((fail_if_success (with_reducible (show Code.wp _ (Code.region 22 _ _) _ _ _)));(fail_if_success at_builtin);first|go_values|go_skip|go_guarded|go_step|go_upon|go_back)
 rw[rounds_succ]
 have i14:=blk_cell j14 3
 obtain⟨u1,u2,u3,u4⟩:=s14.at 9 (by decide) (by decide) rfl rfl
 obtain⟨p1,q1,r1⟩:=s14.f1.c
 obtain⟨p2,q2,r2⟩:=s14.f2.c
 obtain⟨p3,q3,r3⟩:=s14.f3.c
 repeat' ((fail_if_success (with_reducible (show Code.wp _ (Code.region 25 _ _) _ _ _)));(fail_if_success at_builtin);first|go_values|go_skip|go_guarded|go_step|go_upon|go_back)
 clear u1 u2 u3 u4 p1 q1 r1 p2 q2 r2 p3 q3 r3
 refine s14.wp 9 (by decide) rfl rfl rfl rfl rfl fun w15 s15 k15=>?_
 clear i14
 have j15:=k15 _ _ (by omega) j14
 repeat' ((fail_if_success (with_reducible (show Code.wp _ (Code.region 22 _ _) _ _ _)));(fail_if_success at_builtin);first|go_values|go_skip|go_guarded|go_step|go_upon|go_back)
 rw[rounds_succ]
 repeat' ((fail_if_success (with_reducible (show Code.wp _ (Code.region 26 _ _) _ _ _)));(fail_if_success at_builtin);first|go_values|go_skip|go_guarded|go_step|go_upon|go_back)
 obtain⟨u1,u2,u3,u4⟩:=s15.at 10 (by decide) (by decide) rfl rfl
 obtain⟨p2,q2,r2⟩:=s15.f2.c
 obtain⟨p3,q3,r3⟩:=s15.f3.c
 obtain⟨p5,q5,r5⟩:=s15.f5.c
 repeat' ((fail_if_success (with_reducible (show Code.wp _ (Code.region 27 _ _) _ _ _)));(fail_if_success at_builtin);first|go_values|go_skip|go_guarded|go_step|go_upon|go_back)
 clear u1 u2 u3 u4 p2 q2 r2 p3 q3 r3 p5 q5 r5
 refine s15.wp 10 (by decide) rfl rfl rfl rfl rfl fun w16 s16 k16=>?_
 obtain⟨u1,u2,u3,u4⟩:=s16.at 11 (by decide) (by decide) rfl rfl
 obtain⟨p7,q7,r7⟩:=s16.f7.c
 obtain⟨p2,q2,r2⟩:=s16.f2.c
 obtain⟨p3,q3,r3⟩:=s16.f3.c
 obtain⟨p5,q5,r5⟩:=s16.f5.c
 repeat' ((fail_if_success (with_reducible (show Code.wp _ (Code.region 28 _ _) _ _ _)));(fail_if_success at_builtin);first|go_values|go_skip|go_guarded|go_step|go_upon|go_back)
 clear u1 u2 u3 u4 p7 q7 r7 p2 q2 r2 p3 q3 r3 p5 q5 r5
 refine s16.wp 11 (by decide) rfl rfl rfl rfl rfl fun w17 s17 k17=>?_
 repeat' ((fail_if_success at_builtin);first|go_values|go_skip|go_guarded|go_step|go_upon|go_back)
 refine s17.wpI fun w18 s18 z18 j18=>?_
 refine wp_loop_rounds 3 ?_;rw[rounds_succ]
 have i18:=blk_cell j18 0
 obtain⟨u1,u2,u3,u4⟩:=s18.at 12 (by decide) (by decide) rfl rfl
 obtain⟨p1,q1,r1⟩:=s18.f1.c
 obtain⟨p2,q2,r2⟩:=s18.f2.c
 obtain⟨p3,q3,r3⟩:=s18.f3.c
 obtain⟨p6,q6,r6⟩:=s18.f6.c
 repeat' ((fail_if_success (with_reducible (show Code.wp _ (Code.region 32 _ _) _ _ _)));(fail_if_success at_builtin);first|go_values|go_skip|go_guarded|go_step|go_upon|go_back)
 clear u1 u2 u3 u4 p1 q1 r1 p2 q2 r2 p3 q3 r3 p6 q6 r6
 refine s18.wp 12 (by decide) rfl rfl rfl rfl rfl fun w19 s19 k19=>?_
 clear i18
 have j19:=k19 _ _ (by omega) j18
 repeat' ((fail_if_success (with_reducible (show Code.wp _ (Code.region 29 _ _) _ _ _)));(fail_if_success at_builtin);first|go_values|go_skip|go_guarded|go_step|go_upon|go_back)
 rw[rounds_succ]
 have i19:=blk_cell j19 1
 obtain⟨u1,u2,u3,u4⟩:=s19.at 13 (by decide) (by decide) rfl rfl
 obtain⟨p1,q1,r1⟩:=s19.f1.c
 obtain⟨p2,q2,r2⟩:=s19.f2.c
 obtain⟨p3,q3,r3⟩:=s19.f3.c
 obtain⟨p6,q6,r6⟩:=s19.f6.c
 repeat' ((fail_if_success (with_reducible (show Code.wp _ (Code.region 32 _ _) _ _ _)));(fail_if_success at_builtin);first|go_values|go_skip|go_guarded|go_step|go_upon|go_back)
 clear u1 u2 u3 u4 p1 q1 r1 p2 q2 r2 p3 q3 r3 p6 q6 r6
 refine s19.wp 13 (by decide) rfl rfl rfl rfl rfl fun w20 s20 k20=>?_
 clear i19
 have j20:=k20 _ _ (by omega) j19
 repeat' ((fail_if_success (with_reducible (show Code.wp _ (Code.region 29 _ _) _ _ _)));(fail_if_success at_builtin);first|go_values|go_skip|go_guarded|go_step|go_upon|go_back)
 rw[rounds_succ]
 repeat' ((fail_if_success (with_reducible (show Code.wp _ (Code.region 33 _ _) _ _ _)));(fail_if_success at_builtin);first|go_values|go_skip|go_guarded|go_step|go_upon|go_back)
 obtain⟨L,hl,hs⟩:=s20.hl
 obtain⟨Z,hz1,hz2⟩:=s20.r0
 have hsz:(Tryz.prog.info? 266).map (·.size)=some L.size:=by rw[hs.1];kernel_rfl
 have h1:=hs.one
 have h34:Z.size=L.size:=by rw[hz1,hs.1]
 have hb:=s20.below
 have H34:=Lib.hid h34
 have HSZ:=Lib.hid hsz
 have HZ:=Lib.hid hz1
 clear h34 hsz hz1
 repeat' (first|(with_reducible show wpList _ _ _ ((⟨some 100,_,_,_,_,_⟩:Oper) :: _) _ _;refine wpList_load_row (o:=⟨some 100,.load 266 (.tmp 8),_,_,_,none⟩) rfl 266 (.tmp 8) rfl (w.heap.size+1+1+1+1+1+1+1+1) rfl 266 L (0,0) _ hl Tryz.underlying266 rfl HSZ.out ?_)|(with_reducible show wpList _ _ _ ((⟨none,_,_,_,_,_⟩:Oper) :: _) _ _;refine wpList_store_row (o:=⟨none,.store 266 (.tmp 0) (.tmp 100),_,_,_,none⟩) rfl 266 (.tmp 0) (.tmp 100) rfl w.heap.size L rfl rfl 266 Z hz2 HSZ.out H34.out h1 ?_)|go_values|go_skip|go_guarded|go_step|go_upon)
 have k3:=setRow_heap w20 w.heap.size Z L 266 (0,0) hz2
 refine bodyPost_ret (v := .agg L) ?_ rfl ⟨⟨L,rfl,?_⟩,?_⟩
 ·exact results_cell_row (fn:=Tryz.f177) rfl _ _ w.heap.size 266 L (0,0) _ rfl k3 Tryz.underlying266 rfl HSZ.out
 ·exact Shp_perm (hs.row hz2 L)
 ·exact hb.trans ⟨rfl,rfl,rfl,by simp[World.setRow],fun k hk=>setRow_other _ _ _ _ (by omega)⟩
set_option maxRecDepth 20000 in
theorem letter_any(w:World)(c:UInt8):Calls Tryz.prog 275 #[.int .u8 (c.toNat:Int)] w fun e' w'=>e' = .returned (.bool (letterB c))/\w=w':=by
 have hk:(c.toNat:Int)<256:=by have:=byte_lt c;omega
 unfold letterB
 by_cases h1:97<=c.toNat <;> by_cases h2:c.toNat<=122 <;> by_cases h3:65<=c.toNat <;> by_cases h4:c.toNat<=90 <;> (try (exfalso;omega)) <;>
 (
  have a1:decide (97<=c.toNat)=decide (97<=c.toNat):=rfl
  simp only[h1,h2,h3,h4]
  have g1:decide ((97:Int)<=(c.toNat:Int))=decide (97<=c.toNat):=by simp;omega
  have g2:decide ((c.toNat:Int)<=122)=decide (c.toNat<=122):=by simp;omega
  have g3:decide ((65:Int)<=(c.toNat:Int))=decide (65<=c.toNat):=by simp;omega
  have g4:decide ((c.toNat:Int)<=90)=decide (c.toNat<=90):=by simp;omega
  simp only[h1,h2,h3,h4] at g1 g2 g3 g4
  clear h1 h2 h3 h4 a1
  go_enter Tryz.func275,Tryz.ntmps275
  repeat' ((fail_if_success at_builtin);first|go_values|go_skip|go_guarded|go_step|go_upon|go_back)
  refine bodyPost_ret (results_tmp rfl _ _ _) rfl ⟨rfl,rfl⟩)
theorem okName_eq(s:Bs)(n:Nat)(c:UInt8)(hn:s.length=n)(hc:s[0]? = some c):okName s=(decide (n<=32)&&letterB c&&s.all nameB):=by
 subst hn
 cases s with
 | nil=>simp at hc
 | cons d t=>simp only[List.getElem?_cons_zero,Option.some.injEq] at hc;subst hc;rfl
theorem str_len(s:ByteArray):s.data.toList.length=s.size:=by rw[Array.length_toList];rfl
theorem str_at(s:ByteArray)(k:Nat)(h:k<s.size):s.data.toList[k]? = some s[k]:=by
 rw[List.getElem?_eq_getElem (by rw[str_len];exact h),Array.getElem_toList];rfl
theorem name_cases(c:UInt8):(nameB c=true/\letterB c=true)\/(nameB c=true/\letterB c=false/\48<=c.toNat/\c.toNat<=57)\/(nameB c=true/\letterB c=false/\(c.toNat<48\/57<c.toNat)/\c.toNat=95)\/(nameB c=true/\letterB c=false/\c.toNat<48/\c.toNat=45)\/(nameB c=true/\letterB c=false/\c.toNat<48/\c.toNat=46) \/
  (nameB c=false/\letterB c=false/\(c.toNat<48\/57<c.toNat)/\c.toNat≠95/\c.toNat≠45/\c.toNat≠46):=by
 unfold nameB
 by_cases hL:letterB c=true
 ·exact .inl ⟨by simp[hL],hL⟩
 ·have hL':letterB c=false:=by simpa using hL
  rw[hL']
  by_cases h1:48<=c.toNat/\c.toNat<=57
  ·exact .inr (.inl ⟨by simp[h1.1,h1.2],rfl,h1.1,h1.2⟩)
  ·by_cases h2:c.toNat=95
   ·exact .inr (.inr (.inl ⟨by simp[h2],rfl,by omega,h2⟩))
   ·by_cases h3:c.toNat=45
    ·exact .inr (.inr (.inr (.inl ⟨by simp[h3],rfl,by omega,h3⟩)))
    ·by_cases h4:c.toNat=46
     ·exact .inr (.inr (.inr (.inr (.inl ⟨by simp[h4],rfl,by omega,h4⟩))))
     ·refine .inr (.inr (.inr (.inr (.inr ⟨?_,rfl,by omega,h2,h3,h4⟩))))
      have e1:(decide (48<=c.toNat)&&decide (c.toNat<=57))=false:=by
       rw[Bool.and_eq_false_iff];simp only[decide_eq_false_iff_not];omega
      rw[e1];simp[h2,h3,h4]
theorem take_all{s:ByteArray}{k:Nat}(h:k<s.size):(s.data.toList.take (k+1)).all nameB=((s.data.toList.take k).all nameB&&nameB s[k]):=by
 rw[List.take_succ_eq_append_getElem (by simpa using h),List.all_append]
 simp
 rfl
theorem all_step{s:ByteArray}{k:Nat}(h:k<s.size)(h1:(s.data.toList.take k).all nameB=true)(h2:nameB s[k]=true):(s.data.toList.take (k+1)).all nameB=true:=by rw[take_all h,h1,h2];rfl
theorem all_no{s:ByteArray}{k:Nat}(h:k<s.size)(h2:nameB s[k]=false):s.data.toList.all nameB=false:=by
 rw[Bool.eq_false_iff]
 intro ha
 rw[List.all_eq_true] at ha
 have:=ha s[k] (List.mem_of_getElem? (str_at s k h))
 rw[h2] at this;cases this
set_option maxRecDepth 20000 in
theorem isName_any(w:World)(s:ByteArray)(hs:s.size<=140737488355328):Calls Tryz.prog 239 #[.string s] w fun e' w'=>e' = .returned (.bool (okName s.data.toList))/\w=w':=by
 by_cases h0:s.size=0
 ·have e:okName s.data.toList=false:=by
   have:s.data.toList=[]:=List.eq_nil_of_length_eq_zero (by rw[str_len];exact h0)
   rw[this];rfl
  rw[e]
  have h1:decide ((s.size:Int)<1)=true:=by simp;omega
  clear h0 e
  go_enter Tryz.func239,Tryz.ntmps239
  repeat' ((fail_if_success at_builtin);first|go_values|go_skip|go_guarded|go_step|go_upon|go_back)
  refine bodyPost_ret (results_tmp rfl _ _ _) rfl ⟨rfl,rfl⟩
 ·have hz:0<s.size:=by omega
  have h1:decide ((s.size:Int)<1)=false:=by simp;omega
  have e:=okName_eq s.data.toList s.size s[0] (str_len s) (str_at s 0 hz)
  by_cases h2:s.size<=32
  ·have h3:decide ((32:Int)<(s.size:Int))=false:=by simp;omega
   by_cases h4:letterB s[0]=true
   ·have e':okName s.data.toList=s.data.toList.all nameB:=by rw[e,h4];simp[h2]
    rw[e']
    have hsz:(s.size:Int)<=32:=by omega
    clear e e' h0 h2
    go_enter Tryz.func239,Tryz.ntmps239
    repeat' ((fail_if_success at_builtin);first|go_values|go_skip|go_guarded|go_step|go_upon|go_back)
    (refine(letter_any _ s[0]).mono ?_;rintro e1 w1 ⟨rfl,rfl⟩;dsimp only)
    rw[h4]
    repeat' ((fail_if_success at_builtin);first|go_values|go_skip|go_guarded|go_step|go_upon|go_back)
    go_loop [21] (fun i=>∃ k:Nat,k<=s.size/\i = .int .i64 k/\(s.data.toList.take k).all nameB=true) (fun i=>s.size-(intOf i).toNat)
    case atStart=>exact⟨0,Nat.zero_le _,rfl,rfl⟩
    case round =>
     obtain⟨k,hk,rfl,hall⟩:=hrel
     have HALL:=Lib.hid hall
     clear hall
     by_cases hlt:k<s.size
     ·have hlt':(k:Int)<(s.size:Int):=by omega
      have hc:=byte_lt s[k]
      rcases name_cases s[k] with ⟨n1,n2⟩|⟨n1,n2,n3,n4⟩|⟨n1,n2,n3,n4⟩|⟨n1,n2,n3,n4⟩|⟨n1,n2,n3,n4⟩|⟨n1,n2,n3,n4,n5,n6⟩
      ·have HN:=Lib.hid (all_step hlt HALL.out n1)
       clear n1 hc
       ((repeat' ((fail_if_success at_builtin);first|go_values|go_skip|go_guarded|go_step|go_upon|go_back));(refine(letter_any _ s[k]).mono ?_;rintro e1 w1 ⟨rfl,rfl⟩;dsimp only);rw[n2];(repeat' ((fail_if_success at_builtin);first|go_values|go_skip|go_guarded|go_step|go_upon|go_back));go_round;(case rel=>exact⟨k+1,by omega,by go_num,HN.out⟩);(case measure=>simp[intOf];omega))
      ·have HN:=Lib.hid (all_step hlt HALL.out n1)
       have g1:decide ((s[k].toNat:Int)<48)=false:=by simp;omega
       have g2:decide ((57:Int)<(s[k].toNat:Int))=false:=by simp;omega
       clear n1 n3 n4 hc
       ((repeat' ((fail_if_success at_builtin);first|go_values|go_skip|go_guarded|go_step|go_upon|go_back));(refine(letter_any _ s[k]).mono ?_;rintro e1 w1 ⟨rfl,rfl⟩;dsimp only);rw[n2];(repeat' ((fail_if_success at_builtin);first|go_values|go_skip|go_guarded|go_step|go_upon|go_back));go_round;(case rel=>exact⟨k+1,by omega,by go_num,HN.out⟩);(case measure=>simp[intOf];omega))
      ·have HN:=Lib.hid (all_step hlt HALL.out n1)
       have g1:((s[k].toNat:Int) != 95)=false:=by simp;omega
       rcases n3 with n3|n3
       ·have g2:decide ((s[k].toNat:Int)<48)=true:=by simp;omega
        clear n1 n3 n4 hc
        ((repeat' ((fail_if_success at_builtin);first|go_values|go_skip|go_guarded|go_step|go_upon|go_back));(refine(letter_any _ s[k]).mono ?_;rintro e1 w1 ⟨rfl,rfl⟩;dsimp only);rw[n2];(repeat' ((fail_if_success at_builtin);first|go_values|go_skip|go_guarded|go_step|go_upon|go_back));go_round;(case rel=>exact⟨k+1,by omega,by go_num,HN.out⟩);(case measure=>simp[intOf];omega))
       ·have g2:decide ((s[k].toNat:Int)<48)=false:=by simp;omega
        have g3:decide ((57:Int)<(s[k].toNat:Int))=true:=by simp;omega
        clear n1 n3 n4 hc
        ((repeat' ((fail_if_success at_builtin);first|go_values|go_skip|go_guarded|go_step|go_upon|go_back));(refine(letter_any _ s[k]).mono ?_;rintro e1 w1 ⟨rfl,rfl⟩;dsimp only);rw[n2];(repeat' ((fail_if_success at_builtin);first|go_values|go_skip|go_guarded|go_step|go_upon|go_back));go_round;(case rel=>exact⟨k+1,by omega,by go_num,HN.out⟩);(case measure=>simp[intOf];omega))
      ·have HN:=Lib.hid (all_step hlt HALL.out n1)
       have g1:((s[k].toNat:Int) != 45)=false:=by simp;omega
       have g0:((s[k].toNat:Int) != 95)=true:=by simp;omega
       have g2:decide ((s[k].toNat:Int)<48)=true:=by simp;omega
       clear n1 n3 n4 hc
       ((repeat' ((fail_if_success at_builtin);first|go_values|go_skip|go_guarded|go_step|go_upon|go_back));(refine(letter_any _ s[k]).mono ?_;rintro e1 w1 ⟨rfl,rfl⟩;dsimp only);rw[n2];(repeat' ((fail_if_success at_builtin);first|go_values|go_skip|go_guarded|go_step|go_upon|go_back));go_round;(case rel=>exact⟨k+1,by omega,by go_num,HN.out⟩);(case measure=>simp[intOf];omega))
      ·have HN:=Lib.hid (all_step hlt HALL.out n1)
       have g1:((s[k].toNat:Int) != 46)=false:=by simp;omega
       have g0:((s[k].toNat:Int) != 95)=true:=by simp;omega
       have g3:((s[k].toNat:Int) != 45)=true:=by simp;omega
       have g2:decide ((s[k].toNat:Int)<48)=true:=by simp;omega
       clear n1 n3 n4 hc
       ((repeat' ((fail_if_success at_builtin);first|go_values|go_skip|go_guarded|go_step|go_upon|go_back));(refine(letter_any _ s[k]).mono ?_;rintro e1 w1 ⟨rfl,rfl⟩;dsimp only);rw[n2];(repeat' ((fail_if_success at_builtin);first|go_values|go_skip|go_guarded|go_step|go_upon|go_back));go_round;(case rel=>exact⟨k+1,by omega,by go_num,HN.out⟩);(case measure=>simp[intOf];omega))
      ·have HN:=Lib.hid (all_no hlt n1)
       have g0:((s[k].toNat:Int) != 95)=true:=by simp;omega
       have g1:((s[k].toNat:Int) != 45)=true:=by simp;omega
       have g4:((s[k].toNat:Int) != 46)=true:=by simp;omega
       rcases n3 with n3|n3
       ·have g2:decide ((s[k].toNat:Int)<48)=true:=by simp;omega
        clear n1 n3 n4 n5 n6 hc
        ((repeat' ((fail_if_success at_builtin);first|go_values|go_skip|go_guarded|go_step|go_upon|go_back));(refine(letter_any _ s[k]).mono ?_;rintro e1 w1 ⟨rfl,rfl⟩;dsimp only);rw[n2];(repeat' ((fail_if_success at_builtin);first|go_values|go_skip|go_guarded|go_step|go_upon|go_back));refine bodyPost_ret (results_tmp rfl _ _ _) rfl ⟨?_,rfl⟩;refine congrArg (fun x=>Ending.returned (.bool x)) ?_;exact HN.out.symm)
       ·have g2:decide ((s[k].toNat:Int)<48)=false:=by simp;omega
        have g3:decide ((57:Int)<(s[k].toNat:Int))=true:=by simp;omega
        clear n1 n3 n4 n5 n6 hc
        ((repeat' ((fail_if_success at_builtin);first|go_values|go_skip|go_guarded|go_step|go_upon|go_back));(refine(letter_any _ s[k]).mono ?_;rintro e1 w1 ⟨rfl,rfl⟩;dsimp only);rw[n2];(repeat' ((fail_if_success at_builtin);first|go_values|go_skip|go_guarded|go_step|go_upon|go_back));refine bodyPost_ret (results_tmp rfl _ _ _) rfl ⟨?_,rfl⟩;refine congrArg (fun x=>Ending.returned (.bool x)) ?_;exact HN.out.symm)
     ·obtain rfl:k=s.size:=by omega
      have e2:s.data.toList.all nameB=true:=by
       have:=HALL.out
       rwa [List.take_of_length_le (by rw[str_len];exact Nat.le_refl _)] at this
      have E2:=Lib.hid e2
      clear e2
      repeat' ((fail_if_success at_builtin);first|go_values|go_skip|go_guarded|go_step|go_upon|go_back)
      refine bodyPost_ret (results_tmp rfl _ _ _) rfl ⟨?_,rfl⟩
      refine congrArg (fun x=>Ending.returned (.bool x)) ?_
      exact E2.out.symm
   ·have h4':letterB s[0]=false:=by simpa using h4
    have e':okName s.data.toList=false:=by rw[e,h4'];simp
    rw[e']
    have hsz:(s.size:Int)<=32:=by omega
    clear e e' h0 h2 h4
    go_enter Tryz.func239,Tryz.ntmps239
    repeat' ((fail_if_success at_builtin);first|go_values|go_skip|go_guarded|go_step|go_upon|go_back)
    (refine(letter_any _ s[0]).mono ?_;rintro e1 w1 ⟨rfl,rfl⟩;dsimp only)
    rw[h4']
    repeat' ((fail_if_success at_builtin);first|go_values|go_skip|go_guarded|go_step|go_upon|go_back)
    refine bodyPost_ret (results_tmp rfl _ _ _) rfl ⟨rfl,rfl⟩
  ·have e':okName s.data.toList=false:=by rw[e];simp[h2]
   have h3:decide ((32:Int)<(s.size:Int))=true:=by simp;omega
   rw[e']
   clear e e' h0 h2
   go_enter Tryz.func239,Tryz.ntmps239
   repeat' ((fail_if_success at_builtin);first|go_values|go_skip|go_guarded|go_step|go_upon|go_back)
   refine bodyPost_ret (results_tmp rfl _ _ _) rfl ⟨rfl,rfl⟩
def Fd.off:Fd->Nat
 | .ra=>1 | .rb=>2 | .rc=>3 | .arg=>4 | .how=>4 | .many=>4 | .skip=>1
theorem fieldA_any(w:World)(b:Nat):Calls Tryz.prog 241 #[.pointer (some ⟨b,0,none⟩)] w fun e' w'=>e' = .returned (.pointer (some ⟨b,1,none⟩))/\w=w':=by
 go_enter Tryz.func241,Tryz.ntmps241
 repeat' ((fail_if_success at_builtin);first|go_values|go_skip|go_guarded|go_step|go_upon|go_back)
 refine bodyPost_ret (results_tmp rfl _ _ _) rfl ⟨rfl,rfl⟩
theorem fieldB_any(w:World)(b:Nat):Calls Tryz.prog 243 #[.pointer (some ⟨b,0,none⟩)] w fun e' w'=>e' = .returned (.pointer (some ⟨b,2,none⟩))/\w=w':=by
 go_enter Tryz.func243,Tryz.ntmps243
 repeat' ((fail_if_success at_builtin);first|go_values|go_skip|go_guarded|go_step|go_upon|go_back)
 refine bodyPost_ret (results_tmp rfl _ _ _) rfl ⟨rfl,rfl⟩
theorem fieldC_any(w:World)(b:Nat):Calls Tryz.prog 244 #[.pointer (some ⟨b,0,none⟩)] w fun e' w'=>e' = .returned (.pointer (some ⟨b,3,none⟩))/\w=w':=by
 go_enter Tryz.func244,Tryz.ntmps244
 repeat' ((fail_if_success at_builtin);first|go_values|go_skip|go_guarded|go_step|go_upon|go_back)
 refine bodyPost_ret (results_tmp rfl _ _ _) rfl ⟨rfl,rfl⟩
theorem fieldN_any(w:World)(b:Nat):Calls Tryz.prog 245 #[.pointer (some ⟨b,0,none⟩)] w fun e' w'=>e' = .returned (.pointer (some ⟨b,4,none⟩))/\w=w':=by
 go_enter Tryz.func245,Tryz.ntmps245
 repeat' ((fail_if_success at_builtin);first|go_values|go_skip|go_guarded|go_step|go_upon|go_back)
 refine bodyPost_ret (results_tmp rfl _ _ _) rfl ⟨rfl,rfl⟩
theorem at_any(f:Fd)(w:World)(b:Nat):Calls Tryz.prog f.atF #[.pointer (some ⟨b,0,none⟩)] w fun e' w'=>e' = .returned (.pointer (some ⟨b,f.off,none⟩))/\w=w':=by
 cases f
 ·exact fieldA_any w b
 ·exact fieldB_any w b
 ·exact fieldC_any w b
 ·exact fieldN_any w b
 ·exact fieldN_any w b
 ·exact fieldN_any w b
 ·exact fieldA_any w b
set_option maxRecDepth 20000 in
theorem register_any(w:World)(v:Int)(p k:Value):Calls Tryz.prog 242 #[.int .i64 v,p,k] w fun e' w'=>e' = .returned (.bool (decide (0<=v)&&decide (v<16)))/\w=w':=by
 by_cases h1:0<=v <;> by_cases h2:v<16 <;> (simp only[h1,h2,decide_true,decide_false,Bool.and_true,Bool.and_false,Bool.true_and,Bool.false_and])
 ·go_enter Tryz.func242,Tryz.ntmps242
  repeat' ((fail_if_success at_builtin);first|go_values|go_skip|go_guarded|go_step|go_upon|go_back)
  refine bodyPost_ret (results_tmp rfl _ _ _) rfl ⟨rfl,rfl⟩
 ·go_enter Tryz.func242,Tryz.ntmps242
  repeat' ((fail_if_success at_builtin);first|go_values|go_skip|go_guarded|go_step|go_upon|go_back)
  refine bodyPost_ret (results_tmp rfl _ _ _) rfl ⟨rfl,rfl⟩
 ·go_enter Tryz.func242,Tryz.ntmps242
  repeat' ((fail_if_success at_builtin);first|go_values|go_skip|go_guarded|go_step|go_upon|go_back)
  refine bodyPost_ret (results_tmp rfl _ _ _) rfl ⟨rfl,rfl⟩
 ·omega
def PB(w:World)(b:Nat)(nm:ByteArray)(args:Int)(a:Option Addr)(n c:Nat):Prop:=w.heap[b]? = some (.cells #[.string nm,.int .i64 args,.slice a n c] 172 (0,0))
set_option maxRecDepth 20000 in
theorem sh2_any(w:World)(v:Int)(p k:Value):Calls Tryz.prog 247 #[.int .i64 v,p,k] w fun e' w'=>e' = .returned (.bool (decide (1<=v)&&decide (v<=6)))/\w=w':=by
 by_cases h1:1<=v <;> by_cases h2:v<=6 <;> (simp only[h1,h2,decide_true,decide_false,Bool.and_true,Bool.and_false,Bool.true_and,Bool.false_and])
 all_goals (try (exfalso;omega))
 all_goals (go_enter Tryz.func247,Tryz.ntmps247)
 all_goals ((repeat' ((fail_if_success at_builtin);first|go_values|go_skip|go_guarded|go_step|go_upon|go_back)))
 all_goals (refine bodyPost_ret (results_tmp rfl _ _ _) rfl ⟨rfl,rfl⟩)
set_option maxRecDepth 20000 in
theorem sh3_any(w:World)(v:Int)(p k:Value):Calls Tryz.prog 248 #[.int .i64 v,p,k] w fun e' w'=>e' = .returned (.bool (decide (1<=v)&&decide (v<=64)))/\w=w':=by
 by_cases h1:1<=v <;> by_cases h2:v<=64 <;> (simp only[h1,h2,decide_true,decide_false,Bool.and_true,Bool.and_false,Bool.true_and,Bool.false_and])
 all_goals (try (exfalso;omega))
 all_goals (go_enter Tryz.func248,Tryz.ntmps248)
 all_goals ((repeat' ((fail_if_success at_builtin);first|go_values|go_skip|go_guarded|go_step|go_upon|go_back)))
 all_goals (refine bodyPost_ret (results_tmp rfl _ _ _) rfl ⟨rfl,rfl⟩)
set_option maxRecDepth 20000 in
theorem sh1_any(w:World)(v:Int)(k:Value)(b:Nat)(nm:ByteArray)(args:Int)(a:Option Addr)(n c:Nat)(h:PB w b nm args a n c):Calls Tryz.prog 246 #[.int .i64 v,.pointer (some ⟨b,0,none⟩),k] w fun e' w'=>e' = .returned (.bool (decide (0<=v)&&decide (v<args)))/\w=w':=by
 have hc:w.cell? ⟨b,1,none⟩=some (.int .i64 args):=blk_cell h 1
 clear h
 by_cases h1:0<=v <;> by_cases h2:v<args <;> (simp only[h1,h2,decide_true,decide_false,Bool.and_true,Bool.and_false,Bool.true_and,Bool.false_and])
 all_goals (try (exfalso;omega))
 all_goals (go_enter Tryz.func246,Tryz.ntmps246)
 all_goals ((repeat' ((fail_if_success at_builtin);first|go_values|go_skip|go_guarded|go_step|go_upon|go_back)))
 all_goals (refine bodyPost_ret (results_tmp rfl _ _ _) rfl ⟨rfl,rfl⟩)
set_option maxRecDepth 20000 in
theorem sh4_any(w:World)(v:Int)(k:Nat)(b:Nat)(nm:ByteArray)(args:Int)(a:Option Addr)(n c:Nat)(h:PB w b nm args a n c)(hn:n<=140737488355328)(hk:k<=n):Calls Tryz.prog 249 #[.int .i64 v,.pointer (some ⟨b,0,none⟩),.int .i64 (k:Int)] w fun e' w'=>e' = .returned (.bool (decide (1<=v)&&decide (v<(n:Int)-(k:Int))))/\w=w':=by
 have hc:w.cell? ⟨b,2,none⟩=some (.slice a n c):=blk_cell h 2
 have hn2:(n:Int)<=140737488355328:=by omega
 have hk2:(k:Int)<=(n:Int):=by omega
 clear h hn hk
 by_cases h1:1<=v <;> by_cases h2:v<(n:Int)-(k:Int) <;> (simp only[h1,h2,decide_true,decide_false,Bool.and_true,Bool.and_false,Bool.true_and,Bool.false_and])
 all_goals (try (exfalso;omega))
 all_goals (go_enter Tryz.func249,Tryz.ntmps249)
 all_goals ((repeat' ((fail_if_success at_builtin);first|go_values|go_skip|go_guarded|go_step|go_upon|go_back)))
 all_goals (refine bodyPost_ret (results_tmp rfl _ _ _) rfl ⟨rfl,rfl⟩)
theorem may_any(f:Fd)(w:World)(v:Int)(k b:Nat)(nm:ByteArray)(args:Int)(a:Option Addr)(n c:Nat)(h:PB w b nm args a n c)(hn:n<=140737488355328)(hk:k<=n) :
  Calls Tryz.prog f.mayF #[.int .i64 v,.pointer (some ⟨b,0,none⟩),.int .i64 (k:Int)] w fun e' w'=>e' = .returned (.bool (f.may args n k v))/\w=w':=by
 cases f
 ·exact register_any w v _ _
 ·exact register_any w v _ _
 ·exact register_any w v _ _
 ·exact sh1_any w v _ b nm args a n c h
 ·exact sh2_any w v _ _
 ·exact sh3_any w v _ _
 ·exact sh4_any w v k b nm args a n c h hn hk
end Go.Proofs.YtbppnihcbcdglaaGreat
