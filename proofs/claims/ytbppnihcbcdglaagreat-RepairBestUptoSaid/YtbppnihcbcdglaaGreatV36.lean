/- In a round of a range over a function: a drawn region that only reads, but for its last operation, a store. No condition. -/
import Derived.OrdersIn
import Derived.RangeFuncCalls
import Derived.Test.YtbppnihcbcdglaaGreatZ3
import Derived.Test.YtbppnihcbcdglaaGreatV30
import Derived.Test.YtbppnihcbcdglaaGreatZ32
import Derived.Test.YtbppnihcbcdglaaGreatZ35
namespace Go.Proofs.YtbppnihcbcdglaaGreat
open Go.RowKit
set_option linter.unusedVariables false
set_option linter.unusedSimpArgs false
theorem SeqG.shrink{P:Program}{n gf:Nat}{lb:Array Value}{α:Type}{encs:α->Array Value}{T TW:List TypeId}{N s0 N' s0':Nat}{G:α->World->Prop}{Sd Sx:List α->Prop}{w:World}
  (h:SeqG P n gf lb encs T TW N s0 G Sd Sx w) (hN:N'<=N) (hs:s0<=s0'):SeqG P n gf lb encs T TW N' s0' G Sd Sx w :=
 fun l J Jx Wr W hW hWr=>h l J Jx Wr W hW (fun k t hk=>(hWr k t hk).imp (fun h=>by omega) (Or.imp (fun h=>⟨by omega,h.2⟩) id))
def SSeq(b:Bs)(first:Int)(N s0 B1 B2:Nat)(w:World):Prop :=
 ∀ (n:Nat) (W:World),Below w.heap.size w W->SeqG Tryz.prog n 163 #[.pointer (some ⟨B1,0,none⟩),.pointer (some ⟨B2,0,none⟩)] BE.encs [5,27,3,253,81] [3] N s0 (BE.G b.length) (fun xs=>xs.map BE.val=scan b first) (fun pre=>∃ pre0 x,pre=pre0++[x]/\pre.map BE.val <+: scan b first) W
set_option maxRecDepth 20000 in
set_option maxHeartbeats 2000000 in
theorem sscan_any(w:World)(a:Option Addr)(c:Nat)(b:Bs)(first:Int)(hb:BS w a c b)(hl:b.length<=17592186044416) :
  Calls Tryz.prog 90 #[.slice a b.length c,.int .i64 first] w fun e w'=>∃ B1 B2,e = .returned (.func (.func 163) #[] #[.pointer (some ⟨B1,0,none⟩),.pointer (some ⟨B2,0,none⟩)])/\SSeq b first w.heap.size w'.heap.size B1 B2 w'/\Below w.heap.size w w':=by
 have hmf:∀ (fn:Fn) (first cap:Array Value) (w:World),(Instr.makeFunc fn first cap).run Tryz.prog w = .ok (.func fn first cap) w:=fun _ _ _ _=>rfl
 have hA:Below w.heap.size w (w.alloc (.cells #[.int .i64 first] 3 (0,0))):=(Below.refl _ w).alloc (Nat.le_refl _) _
 have hbA:=hb.below hA
 have hqA:=blk_new w (.cells #[.int .i64 first] 3 (0,0))
 have HL:=Lib.hid hl
 clear hl hb
 go_enter Tryz.func90,Tryz.ntmps90
 repeat' ((fail_if_success at_builtin);first|go_values|go_skip|go_guarded|go_step|go_upon|go_back)
 (refine(fscan_any _ a c b hbA HL.out).mono ?_;rintro e1 w2 ⟨B,rfl,hF,hb2⟩;dsimp only)
 have hB2:Below w.heap.size w w2:=hA.trans (hb2.mono hA.size)
 have hq2:=blk_below hb2 hqA (blk_lt hqA)
 have hb3:Below w2.heap.size w2 (w2.alloc (.cells #[.func (.func 117) #[] #[.pointer (some ⟨B,0,none⟩)]] 97)):=(Below.refl _ w2).alloc (Nat.le_refl _) _
 have hB3:Below w.heap.size w (w2.alloc (.cells #[.func (.func 117) #[] #[.pointer (some ⟨B,0,none⟩)]] 97)):=hB2.alloc hB2.size _
 have HF:Hid (SSeq b first w.heap.size (w2.alloc (.cells #[.func (.func 117) #[] #[.pointer (some ⟨B,0,none⟩)]] 97)).heap.size w.heap.size w2.heap.size (w2.alloc (.cells #[.func (.func 117) #[] #[.pointer (some ⟨B,0,none⟩)]] 97))):=Lib.hid (by
  intro n W hW
  refine SeqG.shrink (sscan1 n b first _ B w.heap.size w2.heap.size w2 W hF (hb3.trans (hW.mono hb3.size)) (blk_below hW (blk_below hb3 hq2 (blk_lt hq2)) (blk_lt (blk_below hb3 hq2 (blk_lt hq2)))) (blk_below hW (blk_new _ _) (blk_lt (blk_new _ _))) HL.out) (by simp) (by simp))
 have HB3:=Lib.hid hB3
 clear hB3 hb3 hq2 hB2 hF hb2 hqA hbA hA
 repeat' ((fail_if_success at_builtin);first|go_values|go_skip|go_guarded|go_step|go_upon|go_back)
 refine bodyPost_ret (results_tmp rfl _ _ _) rfl ⟨_,_,rfl,HF.out,HB3.out⟩
theorem own_keeps{w w':World}{TW:List TypeId}{N n0 size n:Nat}{t:TypeId}{v:Value}{xs:List Value}(ho:w.ownsRow n0 t size v n xs)(hk:Keeps TW N w w')(ht:t∉TW):w'.ownsRow n0 t size v n xs :=
 own_hk ho (fun k c f hb=>hk.same _ _ _ _ hb ht)
theorem own_keeps_low{w w':World}{TW:List TypeId}{N n0 size n:Nat}{t:TypeId}{v:Value}{xs:List Value}(ho:w.ownsRow n0 t size v n xs)(hk:Keeps TW N w w')(hl:∀ g,v.ownBlock=some g->g<N):w'.ownsRow n0 t size v n xs:=by
 obtain⟨h1,h2⟩:=ho
 refine⟨h1,?_⟩
 rcases h2 with h2|⟨g,cap,cur,rfl,hg,hh,r⟩
 ·exact .inl h2
 ·exact .inr ⟨g,cap,cur,rfl,hg,hk.low _ _ hh (hl g (by simp[Value.ownBlock])),r⟩
theorem FM.keeps{w w':World}{N mb:Nat}{fs:Fs}(h:FM w mb fs)(hk:Keeps [3] N w w')(hm:mb<N):FM w' mb fs:=by
 obtain⟨ms,h1,h2,h3⟩:=h
 refine⟨ms,h1,?_,fun m hm=>⟨(h3 m hm).le,(h3 m hm).nil,(h3 m hm).row.keeps hk (by decide)⟩⟩
 obtain⟨es,c,h4,h5⟩:=h2
 exact⟨es,c,hk.low _ _ h4 hm,h5⟩
theorem AX.keeps{w w':World}{N n0 L mb:Nat}{fs:Fs}{firsts:List Int}{s:AS}{fv nv sv:Value}(h:AX w n0 L mb fs firsts s fv nv sv)(hk:Keeps [3] N w w')(hm:mb<N)(hf:∀ g,fv.ownBlock=some g->g<N):AX w' n0 L mb fs firsts s fv nv sv :=
 ⟨hk.same _ _ _ _ h.hl (by decide),h.fm.keeps hk hm,own_keeps_low h.fo hk hf,own_keeps h.no hk (by decide),own_keeps h.so hk (by decide),h.nl,h.nm,hk.same _ _ _ _ h.bx (by decide)⟩
theorem Below.keeps{TW:List TypeId}{N n0:Nat}{w w' w'':World}(h:Below n0 w w')(hk:Keeps TW N w' w'')(hn:n0<=N)(hs:n0<=w'.heap.size):Below n0 w w'' :=
 ⟨hk.os.trans h.os,hk.tape.trans h.tape,hk.output.trans h.output,Nat.le_trans h.size hk.size,fun k hkk=>by
  obtain⟨ob,hob⟩:∃ ob,w'.heap[k]? = some ob:=⟨_,Array.getElem?_eq_getElem (by omega)⟩
  rw[hk.low k ob hob (by omega),<-hob]
  exact h.block k hkk⟩
structure SI (w0:World) (n0 N L mb E C X:Nat) (fs:Fs) (firsts:List Int) (s:AS) (fv nv sv:Value) (r:Int×Nat×Bool) (V:World):Prop where
 ax:AX V n0 L mb fs firsts { s with last:=r.1 } fv nv sv
 he:V.heap[E]? = some (.cells #[.int .i64 (r.2.1:Int)] 3 (0,0))
 hc:V.heap[C]? = some (.cells #[.bool r.2.2] 4 (0,0))
 hx:V.heap[X]? = some (.cells #[.pointer (some ⟨L,0,none⟩)] 117 (0,0))
 hb:Below n0 w0 V
structure SN (N n0 mb E C X L:Nat) (fv:Value):Prop where
 n0N:n0<=N
 mbN:mb<N
 EN:E<N
 fvN:∀ g,fv.ownBlock=some g->g<N
 nE:n0<=E
 nC:n0<=C
 EC:E≠C
 EX:E≠X
 CX:C≠X
 EL:E≠L
 CL:C≠L
 XL:X≠L
 CM:C≠mb
 EF:fv.ownBlock≠some E
theorem SI.keeps{w0 A B:World}{n0 N L mb E C X:Nat}{fs:Fs}{firsts:List Int}{s:AS}{fv nv sv:Value}{r:Int×Nat×Bool}(h:SI w0 n0 N L mb E C X fs firsts s fv nv sv r A)(hn:SN N n0 mb E C X L fv)(hk:Keeps [3] N A B):SI w0 n0 N L mb E C X fs firsts s fv nv sv r B :=
 ⟨h.ax.keeps hk hn.mbN hn.fvN,hk.low _ _ h.he hn.EN,hk.same _ _ _ _ h.hc (by decide),hk.same _ _ _ _ h.hx (by decide),Below.keeps h.hb hk hn.n0N h.ax.size⟩
theorem SI.put{w0 V:World}{n0 N L mb E C X:Nat}{fs:Fs}{firsts:List Int}{s:AS}{fv nv sv:Value}{r:Int×Nat×Bool}(h:SI w0 n0 N L mb E C X fs firsts s fv nv sv r V)(hn:SN N n0 mb E C X L fv)(la:Int)(en:Nat)(cr:Bool) :
  SI w0 n0 N L mb E C X fs firsts s fv nv sv (la,en,cr) (((V.setCell ⟨C,0,none⟩ (.bool cr)).setCell ⟨L,20,none⟩ (.int .i64 la)).setCell ⟨E,0,none⟩ (.int .i64 (en:Int))):=by
 have k1:Kb C V (V.setCell ⟨C,0,none⟩ (.bool cr)):=Kb.set
 have hf1:∀ (g:Nat) (cur:Array Value) (f:Nat×Nat),V.heap[g]? = some (.cells cur 5 f)->(V.setCell ⟨C,0,none⟩ (.bool cr)).heap[g]? = V.heap[g]? := fun g cur f hg=>(k1 g _ hg (blk_ne hg h.hc (by decide))).trans hg.symm
 have a1:AX (V.setCell ⟨C,0,none⟩ (.bool cr)) n0 L mb fs firsts { s with last:=r.1 } fv nv sv :=
  ⟨blk_set_other h.ax.hl hn.CL.symm _ _,h.ax.fm.kept (Below.heap_setCell _ _ _ _ hn.CM.symm) hf1,own_kb h.ax.fo k1 h.hc (by decide),own_kb h.ax.no k1 h.hc (by decide),own_kb h.ax.so k1 h.hc (by decide),h.ax.nl,h.ax.nm,blk_set_other h.ax.bx (blk_ne h.ax.bx h.hc (by decide)) _ _⟩
 obtain⟨a2,b2⟩:=a1.set { s with last:=la } 20 (.int .i64 la) rfl rfl rfl
 have e1:=blk_set_other (blk_set_other h.he hn.EC 0 (.bool cr)) hn.EL 20 (.int .i64 la)
 have c1:=blk_set_other (blk_set h.hc 0 (.bool cr)) hn.CL 20 (.int .i64 la)
 have x1:=blk_set_other (blk_set_other h.hx hn.CX.symm 0 (.bool cr)) hn.XL 20 (.int .i64 la)
 have hw2:∀ w,w=(V.setCell ⟨C,0,none⟩ (.bool cr)).setCell ⟨L,20,none⟩ (.int .i64 la)->SI w0 n0 N L mb E C X fs firsts s fv nv sv (la,en,cr) (w.setCell ⟨E,0,none⟩ (.int .i64 (en:Int))):=by
  intro w hw
  rw[<-hw] at a2 e1 c1 x1 b2
  have k2:Kb E w (w.setCell ⟨E,0,none⟩ (.int .i64 (en:Int))):=Kb.set
  have hf2:∀ (g:Nat) (cur:Array Value) (f:Nat×Nat),w.heap[g]? = some (.cells cur 5 f)->(w.setCell ⟨E,0,none⟩ (.int .i64 (en:Int))).heap[g]? = w.heap[g]? := fun g cur f hg=>(k2 g _ hg (blk_ne hg e1 (by decide))).trans hg.symm
  have hfo:(w.setCell ⟨E,0,none⟩ (.int .i64 (en:Int))).ownsRow n0 3 1 fv firsts.length (firsts.map (Value.int .i64)):=by
   obtain⟨h1,h2⟩:=a2.fo
   refine⟨h1,?_⟩
   rcases h2 with h2|⟨g,cap,cur,e,hg,hh,r⟩
   ·exact .inl h2
   ·exact .inr ⟨g,cap,cur,e,hg,blk_set_other hh (fun e2=>hn.EF (by rw[e,e2];simp[Value.ownBlock])) _ _,r⟩
  refine⟨⟨blk_set_other a2.hl hn.EL.symm _ _,a2.fm.kept (Below.heap_setCell _ _ _ _ (fun e2=>a2.fm.ne e1 (by first|exact e2|exact e2.symm))) hf2,hfo,own_kb a2.no k2 e1 (by decide),own_kb a2.so k2 e1 (by decide),a2.nl,a2.nm,blk_set_other a2.bx (blk_ne a2.bx e1 (by decide)) _ _⟩,blk_set e1 0 _,blk_set_other c1 hn.EC.symm _ _,blk_set_other x1 hn.EX.symm _ _,?_⟩
  exact(((h.hb.setCell (p:=⟨C,0,none⟩) hn.nC _).trans b2).setCell (p:=⟨E,0,none⟩) hn.nE _)
 exact hw2 _ rfl
variable {P:Program} {md:Region.Mode}
theorem operIn_of_wp{l n:Nat}{o:Oper}{a:Act}{w:World}{K K':Act->World->Prop}{Q:Exit->Act->World->Prop}(hd:∀ c,o.op ≠ .defer c)(hK:∀ a w,K a w->K' a w)(h:o.wp P a w K Q):o.wpIn (Fence.wide.inRound l) n P a w K' Q:=by
 refine⟨fun _ _=>trivial,?_⟩
 rw[show (Fence.wide.inRound l).round=some l from rfl,Oper.semAt_some l _ o hd]
 unfold Oper.wp at h
 generalize (execOp a.eval o).run P w=r at h ⊢
 cases r with
 | ok x w' =>
  cases x with
  | value v=>exact hK _ _ h
  | skip=>exact hK _ _ h
  | defer d=>exact hK _ _ h
  | enter f args =>
   refine⟨fun h=>(by cases h),CallsIn.inRound l (callsIn_wide.2 (h.mono ?_))⟩
   intro e w'' he
   cases e with
   | returned v=>exact hK _ _ he
   | panicked c=>exact he
   | outgrown=>exact he
  | row r args =>
   have h':Rows P r args w' fun v w''=>K (a.put o.dst v) w'':=h
   refine⟨fun h=>(by cases h),fun c cs _=>?_⟩
   obtain⟨v,w'',hr,hs⟩:=h' c cs
   exact⟨v,w'',hK _ _ hr,stepsIn_wide.2 hs⟩
  | _=>exact h.elim
 | halt x w' =>
  cases x with
  | panic v=>exact h
  | _=>exact h.elim
def ClosedL(md:Region.Mode)(ops:Array Oper)(listed:Array Bool):Prop:=∀ (k:Nat) (o:Oper),ops[k]? = some o->listed.getD k false=true->∀ e∈o.after,Region.binds md e=true->listed.getD e.on false=true
theorem closed_set{ops:Array Oper}{listed:Array Bool}{i:Nat}(h:ClosedL md ops listed)(hi:i∈Region.ready md ops listed):ClosedL md ops (listed.setIfInBounds i true):=by
 obtain⟨hun,oi,hoi,haf⟩:=mem_ready.1 hi
 intro k o hk hl e he hb
 by_cases hki:k=i
 ·subst hki
  rw[hoi] at hk
  cases hk
  exact getD_set_true (haf e he hb)
 ·rw[getD_set_ne false (fun h=>hki h.symm)] at hl
  exact getD_set_true (h k o hk hl e he hb)
theorem ready_some{ops:Array Oper}{listed:Array Bool}(hacy:∀ (j:Nat) (o:Oper),ops[j]? = some o->∀ e∈o.after,Region.binds md e=true->e.on<j)(hsz:∀ j,j<ops.size->listed.getD j true=listed.getD j false):∀ (p:Nat),p<ops.size->listed.getD p true=false->Region.ready md ops listed≠[]:=by
 intro p
 induction p using Nat.strongRecOn with
 | _ p ih =>
  intro hp hl
  by_cases h:∀ e∈(ops[p]'hp).after,Region.binds md e=true->listed.getD e.on false=true
  ·intro h0
   have:p∈Region.ready md ops listed:=mem_ready.2 ⟨hl,_,Array.getElem?_eq_getElem hp,h⟩
   rw[h0] at this
   cases this
  ·have:∃ e,e∈(ops[p]'hp).after/\Region.binds md e=true/\listed.getD e.on false=false:=by
    apply Classical.byContradiction
    intro hne
    refine h (fun e he hb=>?_)
    cases hv:listed.getD e.on false with
    | true=>rfl
    | false=>exact absurd ⟨e,he,hb,hv⟩ hne
   obtain⟨e,he,hb,hv⟩:=this
   have hlt:=hacy p _ (Array.getElem?_eq_getElem hp) e he hb
   exact ih e.on hlt (by omega) (by rw[hsz e.on (by omega)];exact hv)
theorem all_listed{ops:Array Oper}{listed:Array Bool}{p:Nat}(hc:ClosedL md ops listed)(hp:p∈Region.ready md ops listed)
  (hsucc:∀ j,j<p->∃ k o e,j<k/\k<=p/\ops[k]? = some o/\e∈o.after/\Region.binds md e=true/\e.on=j):∀ d j,j<p->p-j<=d->listed.getD j false=true:=by
 intro d
 induction d with
 | zero=>intro j hj hd;omega
 | succ d ih =>
  intro j hj hd
  obtain⟨k,o,e,h1,h2,h3,h4,h5,rfl⟩:=hsucc j hj
  by_cases hk:k=p
  ·subst hk
   obtain⟨_,oi,hoi,haf⟩:=mem_ready.1 hp
   rw[hoi] at h3
   cases h3
   exact haf e h4 h5
  ·exact hc k o h3 (ih k (by omega) (by omega)) e h4 h5
theorem qstore_any{l n:Nat}{ops:Array Oper}{C:World->Prop}{p:Nat}{o:Oper}{x:Operand}{Q':Exit->Act->World->Prop}(hsize:ops.size=p+1)(hop:ops[p]? = some o)(hg:o.guard=none)(hod:o.dst=none)
  (hdef:∀ (i:Nat) (o:Oper),ops[i]? = some o->∀ c,o.op ≠ .defer c)
  (hacy:∀ (j:Nat) (o:Oper),ops[j]? = some o->∀ e∈o.after,Region.binds md e=true->e.on<j)
  (hsucc:∀ j,j<p->∃ k o e,j<k/\k<=p/\ops[k]? = some o/\e∈o.after/\Region.binds md e=true/\e.on=j) :
  ∀ (fuel:Nat) (listed:Array Bool) (a:Act) (w:World),C w->listed.size=ops.size->ClosedL md ops listed->listed.getD p true=false ->
   wpAnyQ P md (dummyAt ops p o x) C (fun a'=>∀ w',C w'->o.wpIn (Fence.wide.inRound l) n P a' w' (fun a'' w''=>Q' .normal a'' w'') Q') fuel listed a->wpAnyIn (Fence.wide.inRound l) n P md ops Q' fuel listed a w:=by
 have hsame:∀ listed:Array Bool,listed.size=ops.size->∀ j,j<ops.size->listed.getD j true=listed.getD j false:=fun listed hs j hj=>by
  rw[Array.getD_eq_getD_getElem?,Array.getD_eq_getD_getElem?,Array.getElem?_eq_getElem (by omega)]
  rfl
 intro fuel
 induction fuel with
 | zero =>
  intro listed a w hw hs hc hl h
  have h1:=h.1
  rw[dummy_ready hop] at h1
  exact absurd h1 (ready_some hacy (hsame listed hs) p (by omega) hl)
 | succ fuel ih =>
  intro listed a w hw hs hc hl h
  refine⟨fun h0=>absurd h0 (ready_some hacy (hsame listed hs) p (by omega) hl),fun i hi=>?_⟩
  have h1:=h.2 i (by rw[dummy_ready hop];exact hi)
  obtain⟨hun,oi,hoi,-⟩:=mem_ready.1 hi
  by_cases hip:i=p
  ·subst hip
   have hall:=all_listed hc hi hsucc i
   have hr0:Region.ready md ops (listed.setIfInBounds i true)=[]:=by
    apply Classical.byContradiction
    intro hne
    obtain⟨j,hj⟩:=List.exists_mem_of_ne_nil _ hne
    obtain⟨hun2,oj,hoj,-⟩:=mem_ready.1 hj
    have hlt:=(Array.getElem?_eq_some_iff.1 hoj).1
    by_cases hji:j=i
    ·subst hji
     rw[Array.getD_eq_getD_getElem?,Array.getElem?_setIfInBounds_self_of_lt (by omega)] at hun2
     cases hun2
    ·rw[getD_set_ne true (fun h=>hji h.symm),hsame listed hs j hlt,hall j (by omega) (by omega)] at hun2
     cases hun2
   unfold qOp at h1
   rw[dummy_get hop,if_pos rfl] at h1
   dsimp only at h1
   rw[if_pos (by unfold Region.wanted;rw[hg])] at h1
   obtain⟨v,hv,h2⟩:=h1
   have hq:∀ w',C w'->o.wpIn (Fence.wide.inRound l) n P a w' (fun a'' w''=>Q' .normal a'' w'') Q':=by
    have he:a.put o.dst v=a:=by rw[hod];rfl
    cases fuel with
    | zero=>have:=h2.2;rwa [he] at this
    | succ f=>have:=h2.1 (by rw[dummy_ready hop];exact hr0);rwa [he] at this
   unfold wpOpIn
   rw[hop]
   dsimp only
   rw[if_pos (by unfold Region.wanted;rw[hg])]
   refine Oper.wpIn_mono (fun a'' w'' hQ=>?_) (hq w hw)
   cases fuel with
   | zero=>exact⟨hr0,hQ⟩
   | succ f=>exact⟨fun _=>hQ,by rw[hr0];intro i h;cases h⟩
  ·have hl2:(listed.setIfInBounds i true).getD p true=false:=by rw[getD_set_ne true hip];exact hl
   have hc2:=closed_set hc hi
   have hs2:(listed.setIfInBounds i true).size=ops.size:=by simpa using hs
   unfold qOp at h1
   rw[dummy_get hop,if_neg hip,hoi,dummy_yielded hop] at h1
   dsimp only at h1
   unfold wpOpIn
   rw[hoi]
   dsimp only
   split
   ·rename_i hwt
    rw[if_pos hwt] at h1
    obtain⟨v,hv,h2⟩:=h1
    refine operIn_of_wp (hdef i oi hoi) ?_ (Oper.wp_of_quiet (C:=C) (Q':=Q') (K:=fun a'=>wpAnyQ P md (dummyAt ops p o x) C (fun a'=>∀ w',C w'->o.wpIn (Fence.wide.inRound l) n P a' w' (fun a'' w''=>Q' .normal a'' w'') Q') fuel (listed.setIfInBounds i true) a') (K':=fun a' w'=>C w'/\wpAnyQ P md (dummyAt ops p o x) C (fun a'=>∀ w',C w'->o.wpIn (Fence.wide.inRound l) n P a' w' (fun a'' w''=>Q' .normal a'' w'') Q') fuel (listed.setIfInBounds i true) a') hw ?_ ⟨v,hv,h2⟩)
    ·rintro a' w' ⟨hw',h5⟩
     exact ih _ a' w' hw' hs2 hc2 hl2 h5
    ·rintro a' w' hw' h5
     exact⟨hw',h5⟩
   ·rename_i hwt
    rw[if_neg hwt] at h1
    exact⟨fun _ _=>trivial,ih _ _ w hw hs2 hc2 hl2 h1⟩
theorem wpIn_region_qstore{l n id:Nat}{a:Act}{w:World}{ls:List Oper}{Q':Exit->Act->World->Prop}(p:Nat)(o:Oper)(x:Operand)(hm:P.follows .mixedOrders=true)(hB:Region.lexB .any (ls.set p { o with op := .move x }).toArray=true)
  (hlen:ls.length=p+1) (hop:ls[p]? = some o) (hg:o.guard=none) (hod:o.dst=none)
  (hdefB:(ls.all fun o=>match o.op with | .defer _=>false|_=>true)=true)
  (hacyB:(ls.zipIdx.all fun q=>q.1.after.all fun e=>!(Region.binds .any e)||decide (e.on<q.2))=true)
  (hsuccB:((List.range p).all fun j=>ls.zipIdx.any fun q=>decide (j<q.2)&&decide (q.2<=p)&&q.1.after.toList.any fun e=>Region.binds .any e&&e.on==j)=true)
  (h:wpQuiet P (ls.set p { o with op := .move x }).toArray (fun w'=>∃ k,w'=w.drewN k) (fun a'=>∀ w',(∃ k,w'=w.drewN k)->o.wpIn (Fence.wide.inRound l) n P a' w' (fun a'' w''=>Q' .normal a'' w'') Q') (ls.set p { o with op := .move x }) a) :
  (Code.region id ls.toArray true).wpIn (Fence.wide.inRound l) n P Q' a w:=by
 have hzip:∀ (j:Nat) (oj:Oper),ls.toArray[j]? = some oj->(oj,j)∈ls.zipIdx:=fun j oj hj=>by
  have hj':ls[j]? = some oj:=by simpa using hj
  exact List.mem_iff_getElem?.2 ⟨j,by rw[List.getElem?_zipIdx,hj'];simp⟩
 have hl':dummyAt ls.toArray p o x=(ls.set p { o with op := .move x }).toArray:=by simp[dummyAt]
 simp only[Region.lexB,Bool.and_eq_true] at hB
 have hsz:(ls.set p { o with op := .move x }).length=ls.length:=by simp
 refine wpIn_region_any hm (qstore_any (C:=fun w'=>∃ k,w'=w.drewN k) (x:=x) (p:=p) (o:=o) (by simpa using hlen) (by simpa using hop) hg hod ?_ ?_ ?_ _ _ a _ ⟨1,rfl⟩ (by simp) ?_ (by simp[hlen]) ?_)
 ·intro i oi hi c hc
  have:=List.all_eq_true.1 hdefB oi (List.mem_of_getElem? (by simpa using hi))
  rw[hc] at this
  cases this
 ·intro j oj hj e he hb
  have:=List.all_eq_true.1 hacyB _ (hzip j oj hj)
  have:=(Array.all_eq_true_iff_forall_mem.1 this) e he
  simp[hb] at this
  exact this
 ·intro j hj
  have:=List.all_eq_true.1 hsuccB j (List.mem_range.2 hj)
  obtain⟨q,hq,h2⟩:=List.any_eq_true.1 this
  simp only[Bool.and_eq_true,decide_eq_true_eq] at h2
  obtain⟨⟨h3,h4⟩,h5⟩:=h2
  obtain⟨e,he,h6⟩:=List.any_eq_true.1 h5
  simp only[Bool.and_eq_true,beq_iff_eq] at h6
  obtain⟨i,hi⟩:=List.mem_iff_getElem?.1 hq
  rw[List.getElem?_zipIdx] at hi
  cases hls:ls[i]? with
  | none=>rw[hls] at hi;cases hi
  | some oi =>
   rw[hls] at hi
   simp only[Option.map_some,Option.some.injEq] at hi
   subst hi
   exact⟨0+i,oi,e,h3,h4,by simpa using hls,by simpa using he,h6.1,h6.2⟩
 ·intro k oj hk hl
  rw[Array.getD_eq_getD_getElem?] at hl
  simp[Array.getElem?_replicate] at hl
  split at hl <;> simp at hl
 ·have:=wpAnyQ_lex (C:=fun w'=>∃ k,w'=w.drewN k) (P:=P) (md := .any) (Q:=fun a'=>∀ w',(∃ k,w'=w.drewN k)->o.wpIn (Fence.wide.inRound l) n P a' w' (fun a'' w''=>Q' .normal a'' w'') Q') hB.1 (ls.set p { o with op := .move x }) 0 (Array.replicate (ls.set p { o with op := .move x }).length false) a (by simp) (by simpa using hB.2) h
  rw[hl']
  simpa [hsz] using this
end Go.Proofs.YtbppnihcbcdglaaGreat
