/- A range over a function whose round lays what it is handed into memory of its own. No condition. -/
import Derived.RangeFuncFrom
import Derived.RangeFuncLeaves
import Derived.RangeFuncBound
import Derived.RangeFuncCalls
import Derived.OwnWalkIn
import Derived.TacticsInMore
import Derived.LoopNIn
import Derived.LoopIn
import Derived.Test.YtbppnihcbcdglaaGreatZ2
namespace Go.Proofs.YtbppnihcbcdglaaGreat
open Go.RowKit
set_option linter.unusedVariables false
structure Keeps (TW:List TypeId) (N:Nat) (A B:World):Prop where
 os:B.os=A.os
 tape:B.tape=A.tape
 output:B.output=A.output
 size:A.heap.size<=B.heap.size
 low:∀ (k:Nat) (ob:Obj),A.heap[k]? = some ob->k<N->B.heap[k]? = some ob
 same:∀ (k:Nat) (c:Array Value) (t:TypeId) (f:Nat×Nat),A.heap[k]? = some (.cells c t f)->t∉TW->B.heap[k]? = some (.cells c t f)
theorem Keeps.of_below{TW:List TypeId}{N:Nat}{A B:World}(h:Below A.heap.size A B):Keeps TW N A B:=⟨h.os,h.tape,h.output,h.size,fun k ob hk _=>blk_below h hk (blk_lt hk),fun k c t f hk _=>blk_below h hk (blk_lt hk)⟩
theorem Keeps.put{TW:List TypeId}{N:Nat}{A:World}{l:Nat}{o:Obj}(o':Obj)(hl:A.heap[l]? = some o)(ho:o.isCells=false)(hN:N<=l):Keeps TW N A (A.putObj l o') :=
 ⟨rfl,rfl,rfl,by simp,fun k ob hk hc=>(World.putObj_heap_other (by omega)).trans hk,fun k c t f hk _=>by
  by_cases e:k=l
  ·subst e
   rw[hl] at hk
   cases hk
   cases ho
  ·exact(World.putObj_heap_other e).trans hk⟩
theorem Keeps.set{TW:List TypeId}{N:Nat}{A:World}{b:Nat}{c:Array Value}{t:TypeId}{f:Nat×Nat}(hb:A.heap[b]? = some (.cells c t f))(ht:t∈TW)(hN:N<=b)(i:Nat)(u:Value):Keeps TW N A (A.setCell ⟨b,i,none⟩ u) :=
 ⟨rfl,rfl,rfl,by simp,fun k ob hk hc=>blk_set_other hk (by omega) i u,fun k c' t' f' hk hn=>by
  by_cases e:k=b
  ·subst e
   rw[hb] at hk
   cases hk
   exact absurd ht hn
  ·exact blk_set_other hk e i u⟩
def KpW(Wr:Nat->TypeId->Prop)(W W':World):Prop:=∀ (k:Nat) (c:Array Value) (t:TypeId) (f:Nat×Nat),W.heap[k]? = some (.cells c t f)->¬ Wr k t->W'.heap[k]? = some (.cells c t f)
theorem KpW.trans{Wr:Nat->TypeId->Prop}{A B C:World}(h:KpW Wr A B)(h':KpW Wr B C):KpW Wr A C:=fun k c t f hk hn=>h' k c t f (h k c t f hk hn) hn
theorem KpW.of_below{Wr:Nat->TypeId->Prop}{A B:World}(h:Below A.heap.size A B):KpW Wr A B:=fun k c t f hk _=>blk_below h hk (blk_lt hk)
theorem KpW.set{Wr:Nat->TypeId->Prop}{A:World}{b:Nat}(hb:∀ c t f,A.heap[b]? = some (.cells c t f)->Wr b t)(i:Nat)(u:Value):KpW Wr A (A.setCell ⟨b,i,none⟩ u):=fun k c t f hk hn=>by
 by_cases e:k=b
 ·subst e;exact absurd (hb c t f hk) hn
 ·exact blk_set_other hk e i u
theorem KpW.put{Wr:Nat->TypeId->Prop}{A:World}{l:Nat}{o:Obj}(o':Obj)(hl:A.heap[l]? = some o)(ho:o.isCells=false):KpW Wr A (A.putObj l o'):=fun k c t f hk _=>by
 by_cases e:k=l
 ·subst e
  rw[hl] at hk
  cases hk
  cases ho
 ·exact(World.putObj_heap_other e).trans hk
theorem KpW.mono{Wr Wr':Nat->TypeId->Prop}{A B:World}(h:KpW Wr A B)(hw:∀ k t,Wr k t->Wr' k t):KpW Wr' A B:=fun k c t f hk hn=>h k c t f hk (fun h=>hn (hw _ _ h))
def Mine(T:List TypeId)(N s0 m k:Nat)(t:TypeId):Prop:=k<N\/s0<=k/\k<m\/t∉T
theorem Mine.grow{T:List TypeId}{N s0 m m' k:Nat}{t:TypeId}(h:Mine T N s0 m k t)(hm:m<=m'):Mine T N s0 m' k t:=h.imp id (Or.imp (fun h=>⟨h.1,by omega⟩) id)
theorem Mine.fewer{T T':List TypeId}{N s0 m k:Nat}{t:TypeId}(h:Mine T N s0 m k t)(hT:∀ t∈T',t∈T):Mine T' N s0 m k t:=h.imp id (Or.imp id (fun h h'=>h (hT _ h')))
theorem RoundIn.nest{m m' l l':Nat}{P:Program}{f:FuncId}{tmps:Array Value}{assign body:Code}{w:World}{R:Ending->World->Prop}
  (h:RoundIn Fence.wide m P l f tmps assign body w R):RoundIn (Fence.wide.inRound l') m' P l f tmps assign body w R:=⟨h.1,fun c cs _=>h.2 c cs (fun d hd=>by cases hd)⟩
theorem Keeps.lower{TW TW':List TypeId}{N M:Nat}{A B:World}(h:Keeps TW N A B)(hm:M<=N)(ht:∀ t∈TW,t∈TW'):Keeps TW' M A B:=⟨h.os,h.tape,h.output,h.size,fun k ob hk hc=>h.low k ob hk (by omega),fun k c t f hk hn=>h.same k c t f hk (fun h=>hn (ht _ h))⟩
structure KpN (N:Nat) (A B:World):Prop where
 size:A.heap.size<=B.heap.size
 same:∀ (k:Nat) (ob:Obj),A.heap[k]? = some ob->ob.isCells=false->N<=k->B.heap[k]? = some ob
theorem KpN.trans{N:Nat}{A B C:World}(h:KpN N A B)(h':KpN N B C):KpN N A C:=⟨Nat.le_trans h.size h'.size,fun k ob hk hc hn=>h'.same k ob (h.same k ob hk hc hn) hc hn⟩
theorem KpN.raise{N M:Nat}{A B:World}(h:KpN N A B)(hm:N<=M):KpN M A B:=⟨h.size,fun k ob hk hc hn=>h.same k ob hk hc (by omega)⟩
theorem KpN.of_others{N:Nat}{A B:World}(h:KeepsOthers A B):KpN N A B:=⟨h.size,fun k ob hk hc _=>h.same k ob hk hc⟩
theorem KpN.of_below{N:Nat}{A B:World}(h:Below A.heap.size A B):KpN N A B:=⟨h.size,fun k ob hk _ _=>blk_below h hk (blk_lt hk)⟩
theorem KpN.put{N:Nat}{A:World}{l:Nat}(o':Obj)(hl:l<N):KpN N A (A.putObj l o') :=
 ⟨by simp,fun k ob hk _ hn=>(World.putObj_heap_other (by omega)).trans hk⟩
def SeqG(P:Program)(n:Nat)(gf:Nat)(lb:Array Value){α:Type}(encs:α->Array Value)(T TW:List TypeId)(N s0:Nat)(G:α->World->Prop)(Sd Sx:List α->Prop)(w:World):Prop :=
 ∀ (l:Nat) (J Jx:List α->World->Prop) (Wr:Nat->TypeId->Prop) (W:World),Below w.heap.size w W->(∀ k t,Wr k t->Mine T N s0 W.heap.size k t) ->
  (∀ s A B,J s A->Keeps TW W.heap.size A B->J s B)->(∀ s A B,Jx s A->Keeps TW W.heap.size A B->Jx s B) ->
  (∀ pre x W1,J pre W1->G x W1->YieldAt Fence.wide (n-1) P l (encs x) W1 fun e W'=>(e = .returned (.bool true)/\J (pre++[x]) W'/\KpW Wr W1 W'/\KpN W.heap.size W1 W')\/(e = .returned (.bool false)/\Jx (pre++[x]) W'/\KpN W.heap.size W1 W')) ->
  J [] W ->
  CallsIn Fence.wide n P gf (#[.func (.yield l) #[] #[]]++lb) W fun e W'=>(∃ v,e = .returned v)/\((∃ xs,Sd xs/\J xs W')\/(∃ pre,Sx pre/\Jx pre W'))
def BodyPost{α:Type}(N:Nat)(Wr:Nat->TypeId->Prop)(I:List α->World->Prop)(Ix:Code->List α->World->Prop)(xs:List α)(W:World):Exit->Act->World->Prop
 | .normal,_,W'=>KpN N W W'/\KpW Wr W W'/\I xs W'
 | .ret,_,W'=>KpN N W W'/\Ix .ret xs W'
 | .exit id,_,W'=>KpN N W W'/\Ix (.exit id) xs W'
 | .goto t,_,W'=>KpN N W W'/\Ix (.goto t) xs W'
 | .panic _,_,_=>False
 | .outgrown,_,_=>False
theorem range_law{P:Program}{n:Nat}{α:Type}{g:Operand}{ps:Array Tmp}{assign body:Code}{Q:Exit->Act->World->Prop}{a:Act}{w:World}{gf:Nat}{lb:Array Value}
  (hg:a.eval g = .func (.func gf) #[] lb) (eg:∀ args w,(callFunc gf args).run P w = .ok (.enter gf args) w) {encs:α->Array Value} {T TW:List TypeId} {N s0:Nat} {G:α->World->Prop} {Sd Sx:List α->Prop} {w0:World}
  (hseq:SeqG P (n-1) gf lb encs T TW N s0 G Sd Sx w0) (Wr:Nat->TypeId->Prop) (hWr:∀ k t,Wr k t->Mine T N s0 w.heap.size k t) (hb0:Below w0.heap.size w0 w) (hps:∀ x,(encs x).size=ps.size)
  (I:List α->World->Prop) (Ix:Code->List α->World->Prop) (hI:∀ s A B,I s A->Keeps TW w.heap.size A B->I s B) (hIx:∀ c s A B,Ix c s A->Keeps TW w.heap.size A B->Ix c s B)
  (hG:∀ x A B,G x A->Keeps TW w.heap.size A B->G x B) (h0:I [] w) (a₁:α->Act)
  (hassign:∀ (l:Nat) (x:α) (W:World) (K:Act->World->Prop),K (a₁ x) W->assign.wpIn (Fence.wide.inRound l) (n-1-1) P (Exit.then K (fun _ _ _=>False)) { tmps:=(ps.zip (encs x)).foldl (fun t (p,v)=>t.setIfInBounds p v) a.tmps,defers:=[] } W)
  (hbody:∀ (l:Nat) (pre:List α) (x:α) (W:World),I pre W->G x W->w.heap.size<=W.heap.size->body.wpIn (Fence.wide.inRound l) (n-1-1) P (BodyPost w.heap.size Wr I Ix (pre++[x]) W) (a₁ x) W)
  (hdone:∀ (D:Nat) (xs:List α) (W:World),w.heap.size<=D->Sd xs->I xs W->W.heap[D]? = some (.deferred (some []))->Q .normal { a with defers:={ target := .collected D,args:=#[] } :: a.defers } W)
  (hstop:∀ (D:Nat) (c:Code) (pre:List α) (W:World),w.heap.size<=D->Sx pre->Ix c pre W->W.heap[D]? = some (.deferred (some []))->c.wpIn Fence.wide n P Q { a with defers:={ target := .collected D,args:=#[] } :: a.defers } W) :
  (Code.rangeFunc g ps assign body).wpIn Fence.wide n P Q a w:=by
 refine wpIn_rangeFunc fun fn _=>?_
 let lp:LoopState->Option Code->Obj:=fun st pe => .loop { state:=st,pending:=pe,fn:=fn,tmps:=a.tmps,params:=ps,assign:=assign,body:=body,defers:=w.heap.size }
 let wl:World:=(w.alloc (.deferred (some []))).alloc (lp .ready none)
 have hwl:Below w.heap.size w wl:=((Below.refl _ w).alloc (Nat.le_refl _) _).alloc (by simp) _
 have hsz:wl.heap.size=w.heap.size+2:=by simp[wl]
 have hD0:wl.heap[w.heap.size]? = some (.deferred (some [])):=blk_alloc (blk_new _ _) _
 have hL0:wl.heap[w.heap.size+1]? = some (lp .ready none):=blk_new1 _ _ _
 refine⟨w.heap.size+1,[{ target := .collected w.heap.size,args:=#[] }],wl,{ target := .fn (.func gf) lb,args:=#[.func (.yield (w.heap.size+1)) #[] #[]] },wl,gf,#[.func (.yield (w.heap.size+1)) #[] #[]]++lb,wl,?_,?_,?_,?_,fun h=>(by cases h),?_⟩
 ·exact run_enterLoop_outer _ _ _ _ _
 ·simp only[resolve,hg];simp[go_sem]
 ·intro f' _;trivial
 ·simp[invoke,go_sem,eg]
 refine(hseq (w.heap.size+1)
  (fun pre W=>I pre W/\W.heap[w.heap.size+1]? = some (lp .ready none)/\W.heap[w.heap.size]? = some (.deferred (some [])))
  (fun pre W=>∃ c,Ix c pre W/\W.heap[w.heap.size+1]? = some (lp .done (some c))/\W.heap[w.heap.size]? = some (.deferred (some [])))
  Wr wl (hb0.trans (hwl.mono hb0.size)) (fun k t h=>(hWr k t h).grow (by omega))
  (fun s A B ⟨i1,i2,i3⟩ hb=>⟨hI s A B i1 (hb.lower (by omega) (fun _ h=>h)),hb.low _ _ i2 (by omega),hb.low _ _ i3 (by omega)⟩)
  (fun s A B ⟨c,i1,i2,i3⟩ hb=>⟨c,hIx c s A B i1 (hb.lower (by omega) (fun _ h=>h)),hb.low _ _ i2 (by omega),hb.low _ _ i3 (by omega)⟩)
  ?_ ⟨hI [] w wl h0 (.of_below hwl),hL0,hD0⟩).mono ?_
 ·-- a round
  rintro pre x W ⟨hi,hl,hd⟩ hgx
  have hlW:=blk_lt hl
  refine⟨fn,_,assign,body,run_yield hl (hps x),roundIn_of_wpIn trivial (hassign _ x W _ ⟨_,run_beginRound hl rfl,?_⟩)⟩
  have hkb:Keeps TW w.heap.size W (W.putObj (w.heap.size+1) (lp .busy none)):=Keeps.put _ hl rfl (by omega)
  have hl2:(W.putObj (w.heap.size+1) (lp .busy none)).heap[w.heap.size+1]? = some (lp .busy none):=World.putObj_heap_same hlW
  have hd2:(W.putObj (w.heap.size+1) (lp .busy none)).heap[w.heap.size]? = some (.deferred (some [])):=(World.putObj_heap_other (by omega)).trans hd
  refine wpIn_mono (hbody _ pre x _ (hI pre W _ hi hkb) (hG x W _ hgx hkb) (by simp;omega)) ?_
  have out:∀ (jump:Option Code) (V:World),KpN w.heap.size (W.putObj (w.heap.size+1) (lp .busy none)) V ->
    (Instr.endRound (w.heap.size+1) jump).run P V = .ok (.bool jump.isNone) (V.putObj (w.heap.size+1) (lp (if jump.isNone then .ready else .done) jump)) /\
    Keeps TW w.heap.size V (V.putObj (w.heap.size+1) (lp (if jump.isNone then .ready else .done) jump)) /\
    (V.putObj (w.heap.size+1) (lp (if jump.isNone then .ready else .done) jump)).heap[w.heap.size+1]? = some (lp (if jump.isNone then .ready else .done) jump) /\
    (V.putObj (w.heap.size+1) (lp (if jump.isNone then .ready else .done) jump)).heap[w.heap.size]? = some (.deferred (some [])):=by
   intro jump V hk
   have hl3:=hk.same _ _ hl2 rfl (by omega)
   exact⟨run_endRound jump hl3,Keeps.put _ hl3 rfl (by omega),World.putObj_heap_same (blk_lt hl3),(World.putObj_heap_other (by omega)).trans (hk.same _ _ hd2 rfl (Nat.le_refl _))⟩
  have all:∀ (V V':World) (o':Obj),KpN w.heap.size (W.putObj (w.heap.size+1) (lp .busy none)) V->V'=V.putObj (w.heap.size+1) o'->KpN wl.heap.size W V':=fun V V' o' hk e =>
   e ▸ ((KpN.put _ (by omega)).trans (hk.raise (by omega))).trans (KpN.put _ (by omega))
  rintro e b V hp
  cases e with
  | normal =>
   obtain⟨hk,hkp,hi'⟩:=hp
   obtain⟨r1,r2,r3,r4⟩:=out none V hk
   exact⟨_,_,r1,.inl ⟨rfl,⟨hI _ _ _ hi' r2,r3,r4⟩,((KpW.put _ hl rfl).trans hkp).trans (KpW.put _ (hk.same _ _ hl2 rfl (by omega)) rfl),all _ _ _ hk rfl⟩⟩
  | ret =>
   obtain⟨hk,hi'⟩:=hp
   obtain⟨r1,r2,r3,r4⟩:=out (some .ret) V hk
   exact⟨_,_,r1,.inr ⟨rfl,⟨.ret,hIx _ _ _ _ hi' r2,r3,r4⟩,all _ _ _ hk rfl⟩⟩
  | exit id =>
   obtain⟨hk,hi'⟩:=hp
   obtain⟨r1,r2,r3,r4⟩:=out (some (.exit id)) V hk
   exact⟨_,_,r1,.inr ⟨rfl,⟨.exit id,hIx _ _ _ _ hi' r2,r3,r4⟩,all _ _ _ hk rfl⟩⟩
  | goto t =>
   obtain⟨hk,hi'⟩:=hp
   obtain⟨r1,r2,r3,r4⟩:=out (some (.goto t)) V hk
   exact⟨_,_,r1,.inr ⟨rfl,⟨.goto t,hIx _ _ _ _ hi' r2,r3,r4⟩,all _ _ _ hk rfl⟩⟩
  | panic ch=>exact hp.elim
  | outgrown=>exact hp.elim
 ·-- the iterator has ended
  rintro e V ⟨⟨v,rfl⟩,h|h⟩
  ·obtain⟨xs,hS,hi,hl,hd⟩:=h
   have hk:Keeps TW w.heap.size V (V.putObj (w.heap.size+1) (lp .exhausted none)):=Keeps.put _ hl rfl (by omega)
   exact⟨none,_,run_endLoop hl (by simp),hdone _ xs _ (Nat.le_refl _) hS (hI _ _ _ hi hk) ((World.putObj_heap_other (by omega)).trans hd)⟩
  ·obtain⟨pre,hS,c,hi,hl,hd⟩:=h
   have hk:Keeps TW w.heap.size V (V.putObj (w.heap.size+1) (lp .exhausted (some c))):=Keeps.put _ hl rfl (by omega)
   exact⟨some c,_,run_endLoop hl (by simp),hstop _ c pre _ (Nat.le_refl _) hS (hIx _ _ _ _ hi hk) ((World.putObj_heap_other (by omega)).trans hd)⟩
theorem range_law_alloc{P:Program}{n:Nat}{α:Type}{g:Operand}{ps:Array Tmp}{assign body:Code}{Q:Exit->Act->World->Prop}{a:Act}{w:World}{gf:Nat}{lb:Array Value}
  (hg:a.eval g = .func (.func gf) #[] lb) (eg:∀ args w,(callFunc gf args).run P w = .ok (.enter gf args) w) {encs:α->Array Value} {T TW:List TypeId} {N s0:Nat} {G:α->World->Prop} {Sd Sx:List α->Prop} {w0:World}
  (hseq:SeqG P (n-1) gf lb encs T TW N s0 G Sd Sx w0) (Wr:Nat->TypeId->Prop) (hWr:∀ k t,Wr k t->Mine T N s0 w.heap.size k t) (hb0:Below w0.heap.size w0 w) (hps:∀ x,(encs x).size=ps.size)
  (I:List α->World->Prop) (Ix:Code->List α->World->Prop) (hI:∀ s A B,I s A->Keeps TW w.heap.size A B->I s B) (hIx:∀ c s A B,Ix c s A->Keeps TW w.heap.size A B->Ix c s B)
  (hG:∀ x A B,G x A->Keeps TW w.heap.size A B->G x B) (h0:I [] w) (a₁:α->Nat->Act) (Al:α->Nat->World->Prop) (hAl:∀ x p A B,Al x p A->Keeps TW w.heap.size A B->Al x p B)
  (hassign:∀ (l:Nat) (x:α) (W:World) (K:Act->World->Prop),(∀ p V,Below W.heap.size W V->Al x p V->W.heap.size<=p->K (a₁ x p) V)->assign.wpIn (Fence.wide.inRound l) (n-1-1) P (Exit.then K (fun _ _ _=>False)) { tmps:=(ps.zip (encs x)).foldl (fun t (p,v)=>t.setIfInBounds p v) a.tmps,defers:=[] } W)
  (hbody:∀ (l:Nat) (pre:List α) (x:α) (p:Nat) (W:World),I pre W->G x W->Al x p W->w.heap.size<=p->w.heap.size<=W.heap.size->body.wpIn (Fence.wide.inRound l) (n-1-1) P (BodyPost w.heap.size Wr I Ix (pre++[x]) W) (a₁ x p) W)
  (hdone:∀ (D:Nat) (xs:List α) (W:World),w.heap.size<=D->Sd xs->I xs W->W.heap[D]? = some (.deferred (some []))->Q .normal { a with defers:={ target := .collected D,args:=#[] } :: a.defers } W)
  (hstop:∀ (D:Nat) (c:Code) (pre:List α) (W:World),w.heap.size<=D->Sx pre->Ix c pre W->W.heap[D]? = some (.deferred (some []))->c.wpIn Fence.wide n P Q { a with defers:={ target := .collected D,args:=#[] } :: a.defers } W) :
  (Code.rangeFunc g ps assign body).wpIn Fence.wide n P Q a w:=by
 refine wpIn_rangeFunc fun fn _=>?_
 let lp:LoopState->Option Code->Obj:=fun st pe => .loop { state:=st,pending:=pe,fn:=fn,tmps:=a.tmps,params:=ps,assign:=assign,body:=body,defers:=w.heap.size }
 let wl:World:=(w.alloc (.deferred (some []))).alloc (lp .ready none)
 have hwl:Below w.heap.size w wl:=((Below.refl _ w).alloc (Nat.le_refl _) _).alloc (by simp) _
 have hsz:wl.heap.size=w.heap.size+2:=by simp[wl]
 have hD0:wl.heap[w.heap.size]? = some (.deferred (some [])):=blk_alloc (blk_new _ _) _
 have hL0:wl.heap[w.heap.size+1]? = some (lp .ready none):=blk_new1 _ _ _
 refine⟨w.heap.size+1,[{ target := .collected w.heap.size,args:=#[] }],wl,{ target := .fn (.func gf) lb,args:=#[.func (.yield (w.heap.size+1)) #[] #[]] },wl,gf,#[.func (.yield (w.heap.size+1)) #[] #[]]++lb,wl,?_,?_,?_,?_,fun h=>(by cases h),?_⟩
 ·exact run_enterLoop_outer _ _ _ _ _
 ·simp only[resolve,hg];simp[go_sem]
 ·intro f' _;trivial
 ·simp[invoke,go_sem,eg]
 refine(hseq (w.heap.size+1)
  (fun pre W=>I pre W/\W.heap[w.heap.size+1]? = some (lp .ready none)/\W.heap[w.heap.size]? = some (.deferred (some [])))
  (fun pre W=>∃ c,Ix c pre W/\W.heap[w.heap.size+1]? = some (lp .done (some c))/\W.heap[w.heap.size]? = some (.deferred (some [])))
  Wr wl (hb0.trans (hwl.mono hb0.size)) (fun k t h=>(hWr k t h).grow (by omega))
  (fun s A B ⟨i1,i2,i3⟩ hb=>⟨hI s A B i1 (hb.lower (by omega) (fun _ h=>h)),hb.low _ _ i2 (by omega),hb.low _ _ i3 (by omega)⟩)
  (fun s A B ⟨c,i1,i2,i3⟩ hb=>⟨c,hIx c s A B i1 (hb.lower (by omega) (fun _ h=>h)),hb.low _ _ i2 (by omega),hb.low _ _ i3 (by omega)⟩)
  ?_ ⟨hI [] w wl h0 (.of_below hwl),hL0,hD0⟩).mono ?_
 ·-- a round
  rintro pre x W0 ⟨hi0,hl0,hd0⟩ hgx0
  refine⟨fn,_,assign,body,run_yield hl0 (hps x),roundIn_of_wpIn trivial (hassign _ x W0 _ ?_)⟩
  intro p W hV hal hp
  have hl:=blk_below hV hl0 (blk_lt hl0)
  have hd:=blk_below hV hd0 (blk_lt hd0)
  have hk0:Keeps TW w.heap.size W0 W := .of_below hV
  have hi:=hI pre W0 W hi0 hk0
  have hgx:=hG x W0 W hgx0 hk0
  have hlW:=blk_lt hl
  have hpw:w.heap.size<=p:=by have:=blk_lt hl0;omega
  refine⟨_,run_beginRound hl rfl,?_⟩
  have hkb:Keeps TW w.heap.size W (W.putObj (w.heap.size+1) (lp .busy none)):=Keeps.put _ hl rfl (by omega)
  have hl2:(W.putObj (w.heap.size+1) (lp .busy none)).heap[w.heap.size+1]? = some (lp .busy none):=World.putObj_heap_same hlW
  have hd2:(W.putObj (w.heap.size+1) (lp .busy none)).heap[w.heap.size]? = some (.deferred (some [])):=(World.putObj_heap_other (by omega)).trans hd
  refine wpIn_mono (hbody _ pre x p _ (hI pre W _ hi hkb) (hG x W _ hgx hkb) (hAl x p W _ hal hkb) hpw (by simp;omega)) ?_
  have out:∀ (jump:Option Code) (V:World),KpN w.heap.size (W.putObj (w.heap.size+1) (lp .busy none)) V ->
    (Instr.endRound (w.heap.size+1) jump).run P V = .ok (.bool jump.isNone) (V.putObj (w.heap.size+1) (lp (if jump.isNone then .ready else .done) jump)) /\
    Keeps TW w.heap.size V (V.putObj (w.heap.size+1) (lp (if jump.isNone then .ready else .done) jump)) /\
    (V.putObj (w.heap.size+1) (lp (if jump.isNone then .ready else .done) jump)).heap[w.heap.size+1]? = some (lp (if jump.isNone then .ready else .done) jump) /\
    (V.putObj (w.heap.size+1) (lp (if jump.isNone then .ready else .done) jump)).heap[w.heap.size]? = some (.deferred (some [])):=by
   intro jump V hk
   have hl3:=hk.same _ _ hl2 rfl (by omega)
   exact⟨run_endRound jump hl3,Keeps.put _ hl3 rfl (by omega),World.putObj_heap_same (blk_lt hl3),(World.putObj_heap_other (by omega)).trans (hk.same _ _ hd2 rfl (Nat.le_refl _))⟩
  have all:∀ (V V':World) (o':Obj),KpN w.heap.size (W.putObj (w.heap.size+1) (lp .busy none)) V->V'=V.putObj (w.heap.size+1) o'->KpN wl.heap.size W0 V':=fun V V' o' hk e =>
   e ▸ (KpN.of_below hV).trans (((KpN.put _ (by omega)).trans (hk.raise (by omega))).trans (KpN.put _ (by omega)))
  rintro e b V hp
  cases e with
  | normal =>
   obtain⟨hk,hkp,hi'⟩:=hp
   obtain⟨r1,r2,r3,r4⟩:=out none V hk
   exact⟨_,_,r1,.inl ⟨rfl,⟨hI _ _ _ hi' r2,r3,r4⟩,(KpW.of_below hV).trans (((KpW.put _ hl rfl).trans hkp).trans (KpW.put _ (hk.same _ _ hl2 rfl (by omega)) rfl)),all _ _ _ hk rfl⟩⟩
  | ret =>
   obtain⟨hk,hi'⟩:=hp
   obtain⟨r1,r2,r3,r4⟩:=out (some .ret) V hk
   exact⟨_,_,r1,.inr ⟨rfl,⟨.ret,hIx _ _ _ _ hi' r2,r3,r4⟩,all _ _ _ hk rfl⟩⟩
  | exit id =>
   obtain⟨hk,hi'⟩:=hp
   obtain⟨r1,r2,r3,r4⟩:=out (some (.exit id)) V hk
   exact⟨_,_,r1,.inr ⟨rfl,⟨.exit id,hIx _ _ _ _ hi' r2,r3,r4⟩,all _ _ _ hk rfl⟩⟩
  | goto t =>
   obtain⟨hk,hi'⟩:=hp
   obtain⟨r1,r2,r3,r4⟩:=out (some (.goto t)) V hk
   exact⟨_,_,r1,.inr ⟨rfl,⟨.goto t,hIx _ _ _ _ hi' r2,r3,r4⟩,all _ _ _ hk rfl⟩⟩
  | panic ch=>exact hp.elim
  | outgrown=>exact hp.elim
 ·-- the iterator has ended
  rintro e V ⟨⟨v,rfl⟩,h|h⟩
  ·obtain⟨xs,hS,hi,hl,hd⟩:=h
   have hk:Keeps TW w.heap.size V (V.putObj (w.heap.size+1) (lp .exhausted none)):=Keeps.put _ hl rfl (by omega)
   exact⟨none,_,run_endLoop hl (by simp),hdone _ xs _ (Nat.le_refl _) hS (hI _ _ _ hi hk) ((World.putObj_heap_other (by omega)).trans hd)⟩
  ·obtain⟨pre,hS,c,hi,hl,hd⟩:=h
   have hk:Keeps TW w.heap.size V (V.putObj (w.heap.size+1) (lp .exhausted (some c))):=Keeps.put _ hl rfl (by omega)
   exact⟨some c,_,run_endLoop hl (by simp),hstop _ c pre _ (Nat.le_refl _) hS (hIx _ _ _ _ hi hk) ((World.putObj_heap_other (by omega)).trans hd)⟩
end Go.Proofs.YtbppnihcbcdglaaGreat
