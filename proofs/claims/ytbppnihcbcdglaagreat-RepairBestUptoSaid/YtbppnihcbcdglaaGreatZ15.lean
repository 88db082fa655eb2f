/- proc: an instruction is read: the heads. No condition. -/
import Derived.Shelf.Abstract
import Derived.Test.YtbppnihcbcdglaaGreatZ14
namespace Go.Proofs.YtbppnihcbcdglaaGreat
set_option maxHeartbeats 0
open Go.RowKit
set_option linter.unusedVariables false
set_option linter.unusedSimpArgs false
theorem atF_enters(f:Fd)(args:Array Value)(w:World):(callFunc f.atF args).run Tryz.prog w = .ok (.enter f.atF args) w:=by
 cases f
 ·exact enters_of Tryz.func241 (by kernel_rfl) rfl args w
 ·exact enters_of Tryz.func243 (by kernel_rfl) rfl args w
 ·exact enters_of Tryz.func244 (by kernel_rfl) rfl args w
 ·exact enters_of Tryz.func245 (by kernel_rfl) rfl args w
 ·exact enters_of Tryz.func245 (by kernel_rfl) rfl args w
 ·exact enters_of Tryz.func245 (by kernel_rfl) rfl args w
 ·exact enters_of Tryz.func241 (by kernel_rfl) rfl args w
structure DL (w0 w:World) (X RB RV b lb sg:Nat) (x:I) (r:RS) (op all:Nat) (L:Array Value):Prop where
 hx:IB w X x
 hr:Rd w b r
 hb:w.heap[RB]? = some (.cells #[.pointer (some ⟨b,0,none⟩),.int .i64 (all:Int)] 347 (0,0))
 hv:IB w RV I.nil
 hf:w.heap[sg]? = some (.cells ((fds op).flatMap fdC).toArray 271 (0,0))
 hl:w.heap[lb]? = some (.cells L 266 (0,0))
 fr:Fr w0 w (fun k=>k=b)
theorem Rd.le{w:World}{b:Nat}{r:RS}(h:Rd w b r):r.d.length<=17592186044416:=by
 obtain⟨a,c,h1,h2,h3,h4,h5⟩:=h
 exact h4
theorem Rd.reader{w:World}{b:Nat}{r:RS}(h:Rd w b r):∃ c,w.heap[b]? = some (.cells c 207 (0,0)):=by
 obtain⟨a,c,h1,_⟩:=h
 exact⟨_,h1⟩
theorem Rd.ne{w:World}{b:Nat}{r:RS}(h:Rd w b r){k:Nat}{c:Array Value}{t:TypeId}{f:Nat×Nat}(hk:w.heap[k]? = some (.cells c t f))(ht:t≠207):k≠b:=by
 obtain⟨c',h'⟩:=h.reader
 exact blk_ne hk h' ht
theorem DL.read{w0 w w':World}{X RB RV b lb sg op all:Nat}{x:I}{r r':RS}{L:Array Value}(h:DL w0 w X RB RV b lb sg x r op all L)(hf:Fr w w' (fun k=>k=b))(hr:Rd w' b r'):DL w0 w' X RB RV b lb sg x r' op all L:=by
 refine⟨hf.blk h.hx (h.hr.ne h.hx (by decide)),hr,hf.blk h.hb (h.hr.ne h.hb (by decide)),hf.blk h.hv (h.hr.ne h.hv (by decide)),hf.blk h.hf (h.hr.ne h.hf (by decide)),hf.blk h.hl (h.hr.ne h.hl (by decide)),h.fr.trans hf (fun _ _ h _=>h)⟩
theorem DL.below{w0 w w':World}{X RB RV b lb sg op all:Nat}{x:I}{r:RS}{L:Array Value}(h:DL w0 w X RB RV b lb sg x r op all L)(hb:Below w.heap.size w w'):DL w0 w' X RB RV b lb sg x r op all L:=by
 refine⟨blk_below hb h.hx (blk_lt h.hx),h.hr.pure hb,blk_below hb h.hb (blk_lt h.hb),blk_below hb h.hv (blk_lt h.hv),blk_below hb h.hf (blk_lt h.hf),blk_below hb h.hl (blk_lt h.hl),h.fr.then_below hb⟩
theorem IB.noB(x:I):∀ v,v∈(#[.int .i64 x.op,.int .i64 x.a,.int .i64 x.b,.int .i64 x.c,.int .i64 x.n,.int .i64 x.v.k,.int .i64 x.v.i,.string ⟨x.v.t.toArray⟩]:Array Value).toList->∀ u,v≠B u:=by simp[B]
theorem DL.put{w0 w:World}{X RB RV b lb sg op all:Nat}{x:I}{r:RS}{L:Array Value}(h:DL w0 w X RB RV b lb sg x r op all L)(hX:w0.heap.size<=X)(hXR:X≠RV)(f:Fd)(y:Int):DL w0 (w.setCell ⟨X,f.off,none⟩ (.int .i64 y)) X RB RV b lb sg (f.put x y) r op all L:=by
 have hx:=blk_set h.hx f.off (.int .i64 y)
 refine⟨?_,h.hr.setO h.hx (IB.noB x) (h.hr.ne h.hx (by decide)).symm f.off _,blk_set_other h.hb (blk_ne h.hb h.hx (by decide)) _ _,blk_set_other h.hv (Ne.symm hXR) _ _,blk_set_other h.hf (blk_ne h.hf h.hx (by decide)) _ _,blk_set_other h.hl (blk_ne h.hl h.hx (by decide)) _ _,h.fr.setCell (p:=⟨X,f.off,none⟩) (.inr hX) _⟩
 cases f <;> exact hx
theorem IB.get{w:World}{X:Nat}{x:I}(h:IB w X x)(f:Fd):w.cell? ⟨X,f.off,none⟩=some (.int .i64 (f.get x))/\w.frozen? ⟨X,f.off,none⟩=false:=by
 refine⟨?_,blk_free h _⟩
 cases f
 ·exact blk_cell h 1
 ·exact blk_cell h 2
 ·exact blk_cell h 3
 ·exact blk_cell h 4
 ·exact blk_cell h 4
 ·exact blk_cell h 4
 ·exact blk_cell h 1
theorem DL.drewN{w0 w:World}{X RB RV b lb sg op all:Nat}{x:I}{r:RS}{L:Array Value}(h:DL w0 w X RB RV b lb sg x r op all L)(n:Nat):DL w0 (w.drewN n) X RB RV b lb sg x r op all L:=h.below (bdrewN (Below.refl _ _) n)
theorem decF_nil(x:I)(r:RS):decF [] x r=(x,r,0):=rfl
theorem decF_byte{f:Fd}{t:List Fd}{x:I}{r:RS}(h1:f.one=true)(h2:r.byte.2.e=0):decF (f :: t) x r=decF t (f.put x (r.byte.1.toNat:Int)) r.byte.2:=by simp[decF,h1,h2]
theorem decF_byte_no{f:Fd}{t:List Fd}{x:I}{r:RS}(h1:f.one=true)(h2:r.byte.2.e≠0):decF (f :: t) x r=(x,r.byte.2,r.byte.2.e):=by simp[decF,h1,h2]
theorem decF_num{f:Fd}{t:List Fd}{x:I}{r:RS}(h1:f.one=false)(h2:r.number.2.e=0):decF (f :: t) x r=decF t (f.put x (r.number.1:Int)) r.number.2:=by simp[decF,h1,h2]
theorem decF_num_no{f:Fd}{t:List Fd}{x:I}{r:RS}(h1:f.one=false)(h2:r.number.2.e≠0):decF (f :: t) x r=(x,r.number.2,r.number.2.e):=by simp[decF,h1,h2]
theorem IB.c{w:World}{g:Nat}{x:I}(h:IB w g x):(w.cell? ⟨g,0,none⟩=some (.int .i64 x.op)/\w.cell? ⟨g,1,none⟩=some (.int .i64 x.a)/\w.cell? ⟨g,2,none⟩=some (.int .i64 x.b)/\w.cell? ⟨g,3,none⟩=some (.int .i64 x.c)/\w.cell? ⟨g,4,none⟩=some (.int .i64 x.n)/\w.cell? ⟨g,5,none⟩=some (.int .i64 x.v.k)/\w.cell? ⟨g,6,none⟩=some (.int .i64 x.v.i)/\w.cell? ⟨g,7,none⟩=some (.string ⟨x.v.t.toArray⟩)) :=
 ⟨blk_cell h 0,blk_cell h 1,blk_cell h 2,blk_cell h 3,blk_cell h 4,blk_cell h 5,blk_cell h 6,blk_cell h 7⟩
theorem IB.f{w:World}{g:Nat}{x:I}(h:IB w g x):w.frozen? ⟨g,0,none⟩=false/\w.frozen? ⟨g,1,none⟩=false/\w.frozen? ⟨g,2,none⟩=false/\w.frozen? ⟨g,3,none⟩=false/\w.frozen? ⟨g,4,none⟩=false/\w.frozen? ⟨g,5,none⟩=false/\w.frozen? ⟨g,6,none⟩=false/\w.frozen? ⟨g,7,none⟩=false :=
 ⟨blk_free h 0,blk_free h 1,blk_free h 2,blk_free h 3,blk_free h 4,blk_free h 5,blk_free h 6,blk_free h 7⟩
def setI(w:World)(g:Nat)(x:I):World:=(((((((w.setCell ⟨g,0,none⟩ (.int .i64 x.op)).setCell ⟨g,1,none⟩ (.int .i64 x.a)).setCell ⟨g,2,none⟩ (.int .i64 x.b)).setCell ⟨g,3,none⟩ (.int .i64 x.c)).setCell ⟨g,4,none⟩ (.int .i64 x.n)).setCell ⟨g,5,none⟩ (.int .i64 x.v.k)).setCell ⟨g,6,none⟩ (.int .i64 x.v.i)).setCell ⟨g,7,none⟩ (.string ⟨x.v.t.toArray⟩)
theorem IB.set{w:World}{g:Nat}{y:I}(h:IB w g y)(x:I):IB (setI w g x) g x:=by
 unfold IB at h
 have h0:(w.setCell ⟨g,0,none⟩ (.int .i64 x.op)).heap[g]? = some (.cells #[.int .i64 x.op,.int .i64 y.a,.int .i64 y.b,.int .i64 y.c,.int .i64 y.n,.int .i64 y.v.k,.int .i64 y.v.i,.string ⟨y.v.t.toArray⟩] 179 (0,0)):=blk_set h 0 _
 have h1:((w.setCell ⟨g,0,none⟩ (.int .i64 x.op)).setCell ⟨g,1,none⟩ (.int .i64 x.a)).heap[g]? = some (.cells #[.int .i64 x.op,.int .i64 x.a,.int .i64 y.b,.int .i64 y.c,.int .i64 y.n,.int .i64 y.v.k,.int .i64 y.v.i,.string ⟨y.v.t.toArray⟩] 179 (0,0)):=blk_set h0 1 _
 have h2:(((w.setCell ⟨g,0,none⟩ (.int .i64 x.op)).setCell ⟨g,1,none⟩ (.int .i64 x.a)).setCell ⟨g,2,none⟩ (.int .i64 x.b)).heap[g]? = some (.cells #[.int .i64 x.op,.int .i64 x.a,.int .i64 x.b,.int .i64 y.c,.int .i64 y.n,.int .i64 y.v.k,.int .i64 y.v.i,.string ⟨y.v.t.toArray⟩] 179 (0,0)):=blk_set h1 2 _
 have h3:((((w.setCell ⟨g,0,none⟩ (.int .i64 x.op)).setCell ⟨g,1,none⟩ (.int .i64 x.a)).setCell ⟨g,2,none⟩ (.int .i64 x.b)).setCell ⟨g,3,none⟩ (.int .i64 x.c)).heap[g]? = some (.cells #[.int .i64 x.op,.int .i64 x.a,.int .i64 x.b,.int .i64 x.c,.int .i64 y.n,.int .i64 y.v.k,.int .i64 y.v.i,.string ⟨y.v.t.toArray⟩] 179 (0,0)):=blk_set h2 3 _
 have h4:(((((w.setCell ⟨g,0,none⟩ (.int .i64 x.op)).setCell ⟨g,1,none⟩ (.int .i64 x.a)).setCell ⟨g,2,none⟩ (.int .i64 x.b)).setCell ⟨g,3,none⟩ (.int .i64 x.c)).setCell ⟨g,4,none⟩ (.int .i64 x.n)).heap[g]? = some (.cells #[.int .i64 x.op,.int .i64 x.a,.int .i64 x.b,.int .i64 x.c,.int .i64 x.n,.int .i64 y.v.k,.int .i64 y.v.i,.string ⟨y.v.t.toArray⟩] 179 (0,0)):=blk_set h3 4 _
 have h5:((((((w.setCell ⟨g,0,none⟩ (.int .i64 x.op)).setCell ⟨g,1,none⟩ (.int .i64 x.a)).setCell ⟨g,2,none⟩ (.int .i64 x.b)).setCell ⟨g,3,none⟩ (.int .i64 x.c)).setCell ⟨g,4,none⟩ (.int .i64 x.n)).setCell ⟨g,5,none⟩ (.int .i64 x.v.k)).heap[g]? = some (.cells #[.int .i64 x.op,.int .i64 x.a,.int .i64 x.b,.int .i64 x.c,.int .i64 x.n,.int .i64 x.v.k,.int .i64 y.v.i,.string ⟨y.v.t.toArray⟩] 179 (0,0)):=blk_set h4 5 _
 have h6:(((((((w.setCell ⟨g,0,none⟩ (.int .i64 x.op)).setCell ⟨g,1,none⟩ (.int .i64 x.a)).setCell ⟨g,2,none⟩ (.int .i64 x.b)).setCell ⟨g,3,none⟩ (.int .i64 x.c)).setCell ⟨g,4,none⟩ (.int .i64 x.n)).setCell ⟨g,5,none⟩ (.int .i64 x.v.k)).setCell ⟨g,6,none⟩ (.int .i64 x.v.i)).heap[g]? = some (.cells #[.int .i64 x.op,.int .i64 x.a,.int .i64 x.b,.int .i64 x.c,.int .i64 x.n,.int .i64 x.v.k,.int .i64 x.v.i,.string ⟨y.v.t.toArray⟩] 179 (0,0)):=blk_set h5 6 _
 have h7:((((((((w.setCell ⟨g,0,none⟩ (.int .i64 x.op)).setCell ⟨g,1,none⟩ (.int .i64 x.a)).setCell ⟨g,2,none⟩ (.int .i64 x.b)).setCell ⟨g,3,none⟩ (.int .i64 x.c)).setCell ⟨g,4,none⟩ (.int .i64 x.n)).setCell ⟨g,5,none⟩ (.int .i64 x.v.k)).setCell ⟨g,6,none⟩ (.int .i64 x.v.i)).setCell ⟨g,7,none⟩ (.string ⟨x.v.t.toArray⟩)).heap[g]? = some (.cells #[.int .i64 x.op,.int .i64 x.a,.int .i64 x.b,.int .i64 x.c,.int .i64 x.n,.int .i64 x.v.k,.int .i64 x.v.i,.string ⟨x.v.t.toArray⟩] 179 (0,0)):=blk_set h6 7 _
 exact h7
theorem setI_other{w:World}{g k:Nat}{o:Obj}(h:w.heap[k]? = some o)(hne:k≠g)(x:I):(setI w g x).heap[k]? = some o :=
 blk_set_other (blk_set_other (blk_set_other (blk_set_other (blk_set_other (blk_set_other (blk_set_other (blk_set_other h hne 0 _) hne 1 _) hne 2 _) hne 3 _) hne 4 _) hne 5 _) hne 6 _) hne 7 _
theorem setI_fr{w0 w:World}{S:Nat->Prop}{g:Nat}(h:Fr w0 w S)(hg:w0.heap.size<=g)(x:I):Fr w0 (setI w g x) S :=
 (((((((h.setCell (p:=⟨g,0,none⟩) (.inr hg) _).setCell (p:=⟨g,1,none⟩) (.inr hg) _).setCell (p:=⟨g,2,none⟩) (.inr hg) _).setCell (p:=⟨g,3,none⟩) (.inr hg) _).setCell (p:=⟨g,4,none⟩) (.inr hg) _).setCell (p:=⟨g,5,none⟩) (.inr hg) _).setCell (p:=⟨g,6,none⟩) (.inr hg) _).setCell (p:=⟨g,7,none⟩) (.inr hg) _
theorem BS.other{w w':World}{a:Option Addr}{c:Nat}{xs:Bs}(h:BS w a c xs){b:Nat}{cs:Array Value}{t:TypeId}{f:Nat×Nat}(hb:w.heap[b]? = some (.cells cs t f))(hn:∀ v,v∈cs.toList->∀ u,v≠B u)(hk:∀ k ob,w.heap[k]? = some ob->k≠b->w'.heap[k]? = some ob):BS w' a c xs:=by
 refine⟨h.le,h.nil,?_⟩
 rcases h.at_ with h0|⟨g,o,rfl,hc⟩
 ·exact .inl h0
 ·by_cases hg:g=b
  ·subst hg
   refine .inl ?_
   cases hx:xs with
   | nil=>rfl
   | cons u us =>
    have h0:=hc 0 u (by rw[hx];rfl)
    rw[blk_cell hb] at h0
    exact absurd rfl (hn (B u) (Array.mem_toList_iff.2 (Array.mem_of_getElem? h0)) u)
  ·refine .inr ⟨g,o,rfl,fun i u hu=>?_⟩
   have hlt:=World.block_lt_of_cell? w _ (hc i u hu)
   obtain⟨ob,hob⟩:∃ ob,w.heap[g]? = some ob:=⟨_,Array.getElem?_eq_getElem hlt⟩
   exact(World.cell?_of_block ((hk g ob hob hg).trans hob.symm)).trans (hc i u hu)
theorem setI_rd{w:World}{g b:Nat}{r:RS}{y:I}(h:Rd w b r)(hy:IB w g y)(x:I):Rd (setI w g x) b r:=by
 have hne:=(h.ne hy (by decide)).symm
 obtain⟨a,c,h1,h2,h3,h4,h5⟩:=h
 exact⟨a,c,setI_other h1 hne x,h2.other hy (IB.noB y) (fun k ob hob hk=>setI_other hob hk x),h3,h4,(((((((h5.set _ _ _).set _ _ _).set _ _ _).set _ _ _).set _ _ _).set _ _ _).set _ _ _).set _ _ _⟩
theorem IB.setV{w:World}{g:Nat}{y:I}(h:IB w g y)(v:V):IB (((w.setCell ⟨g,5,none⟩ (.int .i64 v.k)).setCell ⟨g,6,none⟩ (.int .i64 v.i)).setCell ⟨g,7,none⟩ (.string ⟨v.t.toArray⟩)) g { y with v:=v } :=
 blk_set (blk_set (blk_set h 5 _) 6 _) 7 _
theorem DL.setV{w0 w:World}{X RB RV b lb sg op all:Nat}{x:I}{r:RS}{L:Array Value}(h:DL w0 w X RB RV b lb sg x r op all L)(hX:w0.heap.size<=X)(hXR:X≠RV)(v:V) :
  DL w0 (((w.setCell ⟨X,5,none⟩ (.int .i64 v.k)).setCell ⟨X,6,none⟩ (.int .i64 v.i)).setCell ⟨X,7,none⟩ (.string ⟨v.t.toArray⟩)) X RB RV b lb sg { x with v:=v } r op all L:=by
 have ho:∀ k ob,w.heap[k]? = some ob->k≠X->(((w.setCell ⟨X,5,none⟩ (.int .i64 v.k)).setCell ⟨X,6,none⟩ (.int .i64 v.i)).setCell ⟨X,7,none⟩ (.string ⟨v.t.toArray⟩)).heap[k]? = some ob:=fun k ob hk hne =>
  blk_set_other (blk_set_other (blk_set_other hk hne _ _) hne _ _) hne _ _
 have hne:=(h.hr.ne h.hx (by decide)).symm
 have hr:=h.hr
 obtain⟨a,c,h1,h2,h3,h4,h5⟩:=hr
 exact⟨h.hx.setV v,⟨a,c,ho _ _ h1 hne,h2.other h.hx (IB.noB x) ho,h3,h4,((h5.set _ _ _).set _ _ _).set _ _ _⟩,ho _ _ h.hb (blk_ne h.hb h.hx (by decide)),ho _ _ h.hv (Ne.symm hXR),ho _ _ h.hf (blk_ne h.hf h.hx (by decide)),ho _ _ h.hl (blk_ne h.hl h.hx (by decide)),((h.fr.setCell (p:=⟨X,5,none⟩) (.inr hX) _).setCell (p:=⟨X,6,none⟩) (.inr hX) _).setCell (p:=⟨X,7,none⟩) (.inr hX) _⟩
theorem decF_op:∀ (l:List Fd) (x:I) (r:RS),(decF l x r).1.op=x.op
 | [],_,_=>rfl
 | f :: t,x,r=>by
  simp only[decF]
  split
  ·split
   ·rfl
   ·rw[decF_op t,put_op]
  ·split
   ·rfl
   ·rw[decF_op t,put_op]
theorem sb_new(w:World)(s:ByteArray):Below w.heap.size w (w.alloc (.cells (bytesRow s (grownCap w s.size 0 5)) 5 ((bytesRow s (grownCap w s.size 0 5)).size,(bytesRow s (grownCap w s.size 0 5)).size+1))).drew /\
  BS (w.alloc (.cells (bytesRow s (grownCap w s.size 0 5)) 5 ((bytesRow s (grownCap w s.size 0 5)).size,(bytesRow s (grownCap w s.size 0 5)).size+1))).drew (some ⟨w.heap.size,0,none⟩) (grownCap w s.size 0 5) s.data.toList :=
 ⟨((Below.refl _ _).alloc (Nat.le_refl _) _).drew,⟨grownCap_size _ _ _ _,(fun h=>nomatch h),bts_conv _ _ _ _⟩⟩
theorem sb_list(w:World)(y:Bs):Below w.heap.size w (w.alloc (.cells (bytesRow ⟨y.toArray⟩ (grownCap w y.length 0 5)) 5 ((bytesRow ⟨y.toArray⟩ (grownCap w y.length 0 5)).size,(bytesRow ⟨y.toArray⟩ (grownCap w y.length 0 5)).size+1))).drew /\
  BS (w.alloc (.cells (bytesRow ⟨y.toArray⟩ (grownCap w y.length 0 5)) 5 ((bytesRow ⟨y.toArray⟩ (grownCap w y.length 0 5)).size,(bytesRow ⟨y.toArray⟩ (grownCap w y.length 0 5)).size+1))).drew (some ⟨w.heap.size,0,none⟩) (grownCap w y.length 0 5) y:=by
 have:=sb_new w ⟨y.toArray⟩
 rw[str_size] at this
 exact this
theorem RS.text_len(r:RS)(m:Int):(r.text m).1.length<=r.d.length:=by
 unfold RS.text
 split
 ·simp
 ·dsimp only
  split
  ·simp
  ·split
   ·simp
   ·split
    ·simp
    ·simp;omega
theorem TM.at{w:World}{g o:Nat}{ms:List TM}(h:RowT w 175 (some ⟨g,o,none⟩) (ms.flatMap TM.row)){k:Nat}{m:TM}(hm:ms[k]? = some m) :
  w.cell? ⟨g,o+k*6,none⟩=some (.int .i64 m.t.kind)/\w.cell? ⟨g,o+k*6+1,none⟩=some (.string ⟨m.t.p.name.toArray⟩)/\w.cell? ⟨g,o+k*6+2,none⟩=some (.int .i64 m.t.p.args)/\w.cell? ⟨g,o+k*6+3,none⟩=some (.slice m.ca m.t.p.code.length m.cc)/\w.cell? ⟨g,o+k*6+4,none⟩=some (.string ⟨m.t.name.toArray⟩)/\w.cell? ⟨g,o+k*6+5,none⟩=some (.slice m.aa m.t.args.length m.ac):=by
 have c:∀ i,i<6->∀ u,(TM.row m)[i]? = some u->w.cell? ⟨g,o+(k*6+i),none⟩=some u:=fun i hi u hu=>h.cell (by rw[flat_at TM.row 6 (fun _=>rfl) ms k m i hm hi];exact hu)
 exact⟨c 0 (by omega) _ rfl,c 1 (by omega) _ rfl,c 2 (by omega) _ rfl,c 3 (by omega) _ rfl,c 4 (by omega) _ rfl,c 5 (by omega) _ rfl⟩
theorem Txns.at{w:World}{g o:Nat}{l:List T}(h:Txns w (some ⟨g,o,none⟩) l){j:Nat}(hlt:j<l.length) :
  ∃ m:TM,l.drop j=m.t :: l.drop (j+1)/\m.lies w/\m.t∈l/\w.cell? ⟨g,o+j*6,none⟩=some (.int .i64 m.t.kind)/\w.cell? ⟨g,o+j*6+1,none⟩=some (.string ⟨m.t.p.name.toArray⟩)/\w.cell? ⟨g,o+j*6+2,none⟩=some (.int .i64 m.t.p.args)/\w.cell? ⟨g,o+j*6+3,none⟩=some (.slice m.ca m.t.p.code.length m.cc)/\w.cell? ⟨g,o+j*6+4,none⟩=some (.string ⟨m.t.name.toArray⟩)/\w.cell? ⟨g,o+j*6+5,none⟩=some (.slice m.aa m.t.args.length m.ac):=by
 obtain⟨ms,rfl,hrow,hlies⟩:=h
 obtain⟨m,hm⟩:∃ m,ms[j]? = some m:=⟨_,List.getElem?_eq_getElem (by simpa using hlt)⟩
 refine⟨m,?_,hlies m (List.mem_of_getElem? hm),List.mem_map_of_mem (List.mem_of_getElem? hm),TM.at hrow hm⟩
 rw[List.drop_eq_getElem_cons (by simpa using hlt)];congr 1
 rw[List.getElem_map];congr 1
 rw[List.getElem?_eq_getElem (by simpa using hlt)] at hm;exact Option.some.inj hm
def FitsLen(t:T):Prop:=t.p.name.length<=140737488355328/\t.name.length<=140737488355328/\t.args.length<=140737488355328
theorem meth_def(C:Array Value)(w:World):(method 490 194 (.agg C) "treadle/batch.check").run Tryz.prog w = .ok (301,.agg C) w:=by kernel_rfl
theorem meth_call(C:Array Value)(w:World):(method 490 198 (.agg C) "treadle/batch.check").run Tryz.prog w = .ok (305,.agg C) w:=by kernel_rfl
theorem meth_drop(C:Array Value)(w:World):(method 490 197 (.agg C) "treadle/batch.check").run Tryz.prog w = .ok (302,.agg C) w:=by kernel_rfl
def chkF(k:Int):Nat:=if k=1 then 301 else if k=2 then 305 else 302
theorem chkF_enters(k:Int)(args:Array Value)(w:World):(callFunc (chkF k) args).run Tryz.prog w = .ok (.enter (chkF k) args) w:=by
 unfold chkF
 split
 ·exact enters_of Tryz.func301 (by kernel_rfl) rfl args w
 ·split
  ·exact enters_of Tryz.func305 (by kernel_rfl) rfl args w
  ·exact enters_of Tryz.func302 (by kernel_rfl) rfl args w
theorem meth_any{k:Int}(hk:k=1\/k=2\/k=3)(C:Array Value)(w:World):(method 490 (kindT k) (.agg C) "treadle/batch.check").run Tryz.prog w = .ok (chkF k,.agg C) w:=by
 rcases hk with rfl|rfl|rfl
 ·exact meth_def C w
 ·exact meth_call C w
 ·exact meth_drop C w
theorem kindOf_any(w:World)(k:Int)(hk:k=1\/k=2\/k=3)(pn nm:Bs)(pa:Int)(ca aa:Option Addr)(cn cc an ac:Nat):Calls Tryz.prog 106 #[.agg #[.int .i64 k,.string ⟨pn.toArray⟩,.int .i64 pa,.slice ca cn cc,.string ⟨nm.toArray⟩,.slice aa an ac]] w fun e' w'=>e' = .returned (.iface (kindT k) (.agg #[.int .i64 k,.string ⟨pn.toArray⟩,.int .i64 pa,.slice ca cn cc,.string ⟨nm.toArray⟩,.slice aa an ac]))/\Below w.heap.size w w':=by
 rcases hk with rfl|rfl|rfl
 ·exact kindOf_1 w pn nm pa ca aa cn cc an ac
 ·exact kindOf_2 w pn nm pa ca aa cn cc an ac
 ·exact kindOf_3 w pn nm pa ca aa cn cc an ac
theorem own_check(w:World)(k:Int)(hk:k=1\/k=2\/k=3)(pn nm:Bs)(pa:Int)(code:List I)(args:List V)(ca aa:Option Addr)(cc ac:Nat)(hc:Code1 w ca code)(hf:FitsLen ⟨k,⟨pn,pa,code⟩,nm,args⟩) :
  Calls Tryz.prog (chkF k) #[.agg #[.int .i64 k,.string ⟨pn.toArray⟩,.int .i64 pa,.slice ca code.length cc,.string ⟨nm.toArray⟩,.slice aa args.length ac]] w fun e' w'=>e' = .returned (.int .i64 (chkT0 ⟨k,⟨pn,pa,code⟩,nm,args⟩))/\Below w.heap.size w w':=by
 have hb:bareC pn pa code.length=bareP ⟨pn,pa,code⟩:=by unfold bareC bareP;cases code <;> simp
 have ha:(args≠[])↔args.length≠0:=by cases args <;> simp
 rcases hk with rfl|rfl|rfl
 ·refine(def_check w 1 pn nm pa code ca aa cc args.length ac hc hf.1).mono ?_
  rintro e w' ⟨rfl,h⟩
  refine⟨?_,h⟩
  unfold chkT0
  simp only[ha,if_pos]
 ·refine(call_check w 2 pn nm pa ca aa code.length cc args.length ac hf.2.1).mono ?_
  rintro e w' ⟨rfl,h⟩
  refine⟨?_,h⟩
  have:chkT0 ⟨2,⟨pn,pa,code⟩,nm,args⟩=if bareC pn pa code.length=false then 3 else if okName nm=false then 5 else if 16<args.length then 4 else 0:=by
   unfold chkT0;dsimp only;rw[if_neg (show ¬ (2:Int)=1 by decide),if_pos rfl,hb]
  rw[this]
 ·refine(drop_check w 3 pn nm pa ca aa code.length cc args.length ac hf.2.1).mono ?_
  rintro e w' ⟨rfl,h⟩
  refine⟨?_,h⟩
  have:chkT0 ⟨3,⟨pn,pa,code⟩,nm,args⟩=if args.length≠0\/bareC pn pa code.length=false then 3 else if okName nm=false then 5 else 0:=by
   unfold chkT0;dsimp only;rw[if_neg (show ¬ (3:Int)=1 by decide),if_neg (show ¬ (3:Int)=2 by decide),if_pos rfl,hb];simp only[ha]
  rw[this]
theorem Vals.cells{w:World}{a:Option Addr}{l:List V}(h:Vals w a l){j:Nat}{v:V}(hv:l[j]? = some v):∃ g o,a=some ⟨g,o,none⟩/\w.cell? ⟨g,o+j*3,none⟩=some (.int .i64 v.k)/\w.cell? ⟨g,o+j*3+1,none⟩=some (.int .i64 v.i)/\w.cell? ⟨g,o+j*3+2,none⟩=some (.string ⟨v.t.toArray⟩):=by
 rcases h with h|⟨g,o,cur,f,rfl,hg,h⟩
 ·have:=flat_len V.row 3 (fun _=>rfl) l
  rw[h] at this
  have:l=[]:=List.eq_nil_of_length_eq_zero (by simp at this;omega)
  rw[this] at hv;simp at hv
 ·exact⟨g,o,rfl,Vals.at (w:=w) (g:=g) (o:=o) (l:=l) (.inr ⟨g,o,cur,f,rfl,hg,h⟩) hv⟩
theorem chkTs_0{t:T}{l:List T}(h:chkT0 t≠0):chkTs (t :: l)=chkT0 t:=by
 unfold chkTs chkT;rw[if_pos h,if_pos h]
theorem chkTs_a{t:T}{l:List T}(h:chkT0 t=0)(h2:chkVs t.args≠0):chkTs (t :: l)=chkVs t.args:=by
 simp[chkTs,chkT,h,h2]
theorem chkTs_1{t:T}{l:List T}(h:chkT0 t=0)(h2:chkVs t.args=0):chkTs (t :: l)=chkTs l:=by
 simp[chkTs,chkT,h,h2]
set_option maxRecDepth 20000 in
theorem chkB_go(w:World)(first:Int)(g o c:Nat)(l:List T)(h:Txns w (some ⟨g,o,none⟩) l)(hf:∀ t∈l,FitsLen t)(h0:1<=first)(h1:first<=281474976710655)(h2:1<=l.length)(h3:l.length<=64)(h4:first+l.length-1<=281474976710655) :
  Calls Tryz.prog 99 #[.agg #[.int .i64 first,.slice (some ⟨g,o,none⟩) l.length c]] w fun e' w'=>e' = .returned (.int .i64 (chkTs l))/\Below w.heap.size w w':=by
 have g1:decide (first<1)=false:=decide_eq_false (by omega)
 have g2:decide (281474976710655<first)=false:=decide_eq_false (by omega)
 have g3:((l.length:Int)==0)=false:=by rw[beq_eq_false_iff_ne];omega
 have g4:decide ((64:Int)<(l.length:Int))=false:=decide_eq_false (by omega)
 have g5:decide (281474976710655<first+(l.length:Int)-1)=false:=decide_eq_false (by omega)
 have b1:(l.length:Int)<=64:=by omega
 have b2:(1:Int)<=(l.length:Int):=by omega
 have HF:=Lib.hid hf
 have HH:=Lib.hid h
 have H2:=Lib.hid h2
 have H3:=Lib.hid h3
 clear hf h h2 h3 h4
 go_enter Tryz.func99,Tryz.ntmps99
 repeat' ((fail_if_success at_builtin);first|go_values|go_skip|go_guarded|go_step|go_upon|go_back)
 go_step3
 repeat' ((fail_if_success at_builtin);first|go_values|go_skip|go_guarded|go_step|go_upon|go_back)
 go_step3
 repeat' ((fail_if_success at_builtin);first|go_values|go_skip|go_guarded|go_step|go_upon|go_back)
 have hw1:Below w.heap.size w (w.alloc (.cells #[.int .i64 first,.slice (some ⟨g,o,none⟩) l.length c] 81)):=by(repeat' (first|(with_reducible exact Below.refl _ _)|(with_reducible assumption)|(with_reducible refine Below.drew ?_)|(with_reducible refine bdrewN ?_ _)|(with_reducible refine Below.alloc ?_ ?_ _)|(with_reducible refine Below.setCell ?_ ?_ _)|omega|(simp;done)|(simp;omega)))
 have hT1:=HH.out.below hw1
 generalize w.alloc (.cells #[.int .i64 first,.slice (some ⟨g,o,none⟩) l.length c] 81)=w1 at hw1 hT1 ⊢
 have hsz:=hw1.size
 go_loopw [3,40] (fun e i wr=>∃ j:Nat,j<=l.length/\e = .int .i64 0/\i = .int .i64 j/\chkTs l=chkTs (l.drop j)/\Below w1.heap.size w1 wr) (fun _ i _=>l.length-(intOf i).toNat)
 case atStart=>exact⟨0,Nat.zero_le _,rfl,rfl,rfl,Below.refl _ _⟩
 case round =>
  obtain⟨wo,rfl⟩:∃ wo:World,wo=wr:=⟨_,rfl⟩
  obtain⟨j,hj,rfl,rfl,hgo,hbr⟩:=hrel
  have HGO:=Lib.hid hgo
  have hb0:=hw1.trans (hbr.mono hsz)
  clear hgo
  by_cases hlt:j<l.length
  ·obtain⟨m,hdr,hl1,hf1,c0,c1,c2,c3,c4,c5⟩:=(hT1.below hbr).at hlt
   have hf1:=HF.out _ hf1
   have HDR:=Lib.hid hdr
   have hlt':(j:Int)<(l.length:Int):=by omega
   have hb64:(l.length:Int)<=64:=b1
   clear hdr hT1
   obtain⟨⟨kd,⟨pn,pa,code⟩,nm,args⟩,ca,cc,aa,ac⟩:=m
   dsimp only at c0 c1 c2 c3 c4 c5 hf1 HDR
   obtain⟨hcode,hargs⟩:=hl1
   dsimp only at hcode hargs
   repeat' ((fail_if_success (with_reducible (show Code.wp _ (Code.region 9 _ _) _ _ _)));(fail_if_success at_builtin);first|go_values|go_skip|go_guarded|go_step|go_upon|go_back)
   clear c0 c1 c2 c3 c4 c5
   have N5:=blk_new wo (.cells #[.int .i64 kd,.string ⟨pn.toArray⟩,.int .i64 pa,.slice ca code.length cc,.string ⟨nm.toArray⟩,.slice aa args.length ac] 175)
   have hb5:Below wo.heap.size wo (wo.alloc (.cells #[.int .i64 kd,.string ⟨pn.toArray⟩,.int .i64 pa,.slice ca code.length cc,.string ⟨nm.toArray⟩,.slice aa args.length ac] 175)):=(Below.refl _ wo).alloc (Nat.le_refl _) _
   generalize wo.alloc (.cells #[.int .i64 kd,.string ⟨pn.toArray⟩,.int .i64 pa,.slice ca code.length cc,.string ⟨nm.toArray⟩,.slice aa args.length ac] 175)=w5 at N5 hb5 ⊢
   have d0:=blk_cell N5 0
   have d1:=blk_cell N5 1
   have d2:=blk_cell N5 2
   have d3:=blk_cell N5 3
   have d4:=blk_cell N5 4
   have d5:=blk_cell N5 5
   have HHF:=Lib.hid hf1
   have HAL:=Lib.hid (show args.length<=140737488355328 from hf1.2.2)
   clear hf1
   by_cases hk:kd=1\/kd=2\/kd=3
   ·have HK:=Lib.hid hk
    have hme:=meth_any hk
    have hen:=chkF_enters kd
    clear hk
    repeat' ((fail_if_success (with_reducible (show Code.wp _ (Code.region 10 _ _) _ _ _)));(fail_if_success at_builtin);first|go_values|go_skip|go_guarded|go_step|go_upon|go_back)
    (refine(kindOf_any _ kd HK.out pn nm pa ca aa code.length cc args.length ac).mono ?_;rintro e1 w6 ⟨rfl,hb6⟩;dsimp only)
    have hb56:=hb5.trans (hb6.mono hb5.size)
    have hc6:Code2 w6 ca code:=RowT.below hcode hb56
    have hv6:Vals w6 aa args:=RowT.below hargs hb56
    have N6:=blk_below hb6 N5 (blk_lt N5)
    clear d0 d1 d2 d3 d4 d5 hcode hargs N5 hb5 hb6
    repeat' ((fail_if_success at_builtin);first|go_values|go_skip|go_guarded|go_step|go_upon|go_back)
    (refine(own_check _ kd HK.out pn nm pa code args ca aa cc ac hc6.one HHF.out).mono ?_;rintro e1 w7 ⟨rfl,hb7⟩;dsimp only)
    have hb57:=hb56.trans (hb7.mono hb56.size)
    have hv7:Vals w7 aa args:=RowT.below hv6 hb7
    have d5:=blk_cell (blk_below hb7 N6 (blk_lt N6)) 5
    have hbw:=hbr.trans (hb57.mono hbr.size)
    clear hc6 hv6 hb56 hb7 N6 hme hen hb57
    by_cases hE:chkT0 ⟨kd,⟨pn,pa,code⟩,nm,args⟩=0
    ·have e0:(chkT0 ⟨kd,⟨pn,pa,code⟩,nm,args⟩ != 0)=false:=by simp[hE]
     have HE:=Lib.hid hE
     clear hE
     repeat' ((fail_if_success at_builtin);first|go_values|go_skip|go_guarded|go_step|go_upon|go_back)
     rw[HE.out]
     clear d5 e0
     go_loopw [3,55] (fun e i wr=>∃ k:Nat,k<=args.length/\e = .int .i64 0/\i = .int .i64 k/\chkVs args=chkVs (args.drop k)/\Below w7.heap.size w7 wr) (fun _ i _=>args.length-(intOf i).toNat)
     case atStart=>exact⟨0,Nat.zero_le _,rfl,rfl,rfl,Below.refl _ _⟩
     case round =>
      obtain⟨k,hk,rfl,rfl,hvs,hbx⟩:=hrel
      have HVS:=Lib.hid hvs
      have hbwr:=hbw.trans (hbx.mono hbw.size)
      clear hvs hbw
      by_cases hlk:k<args.length
      ·obtain⟨v,hv⟩:∃ v,args[k]? = some v:=⟨_,List.getElem?_eq_getElem hlk⟩
       have hdk:args.drop k=v :: args.drop (k+1):=by
        rw[List.drop_eq_getElem_cons hlk];congr 1
        rw[List.getElem?_eq_getElem hlk] at hv;exact Option.some.inj hv
       have HDK:=Lib.hid hdk
       obtain⟨ga,oa,rfl,v0,v1,v2⟩:=Vals.cells (RowT.below hv7 hbx) hv
       have hlk':(k:Int)<(args.length:Int):=by omega
       have hal:(args.length:Int)<=140737488355328:=by have:=HAL.out;omega
       clear hdk hv hv7
       by_cases hE2:chkV v=0
       ·have e0:(chkV v != 0)=false:=by simp[hE2]
        have HE2:=Lib.hid hE2
        clear hE2
        repeat' ((fail_if_success (with_reducible (show Code.wp _ (Code.region 17 _ _) _ _ _)));(fail_if_success at_builtin);first|go_values|go_skip|go_guarded|go_step|go_upon|go_back)
        clear v0 v1 v2
        have nv:=blk_new wr (.cells #[.int .i64 v.k,.int .i64 v.i,.string ⟨v.t.toArray⟩] 177)
        have hbn:Below wr.heap.size wr (wr.alloc (.cells #[.int .i64 v.k,.int .i64 v.i,.string ⟨v.t.toArray⟩] 177)):=(Below.refl _ wr).alloc (Nat.le_refl _) _
        generalize wr.alloc (.cells #[.int .i64 v.k,.int .i64 v.i,.string ⟨v.t.toArray⟩] 177)=w8 at nv hbn ⊢
        obtain⟨n0,n1,n2,-⟩:=blk3 nv
        repeat' ((fail_if_success at_builtin);first|go_values|go_skip|go_guarded|go_step|go_upon|go_back)
        (refine(check_any _ v).mono ?_;rintro e1 w9 ⟨rfl,hb9⟩;dsimp only)
        repeat' ((fail_if_success at_builtin);first|go_values|go_skip|go_guarded|go_step|go_upon|go_back)
        go_roundw
        case rel=>exact⟨k+1,by omega,by rw[HE2.out],by go_num,by rw[HVS.out,HDK.out,chkVs,if_neg (by simp[HE2.out])],hbx.trans ((hbn.trans (hb9.mono hbn.size)).mono hbx.size)⟩
        case measure=>simp[intOf];omega
       ·have e0:(chkV v != 0)=true:=by simpa using hE2
        have HE2:=Lib.hid hE2
        clear hE2
        repeat' ((fail_if_success (with_reducible (show Code.wp _ (Code.region 17 _ _) _ _ _)));(fail_if_success at_builtin);first|go_values|go_skip|go_guarded|go_step|go_upon|go_back)
        clear v0 v1 v2
        have nv:=blk_new wr (.cells #[.int .i64 v.k,.int .i64 v.i,.string ⟨v.t.toArray⟩] 177)
        have hbn:Below wr.heap.size wr (wr.alloc (.cells #[.int .i64 v.k,.int .i64 v.i,.string ⟨v.t.toArray⟩] 177)):=(Below.refl _ wr).alloc (Nat.le_refl _) _
        generalize wr.alloc (.cells #[.int .i64 v.k,.int .i64 v.i,.string ⟨v.t.toArray⟩] 177)=w8 at nv hbn ⊢
        obtain⟨n0,n1,n2,-⟩:=blk3 nv
        repeat' ((fail_if_success at_builtin);first|go_values|go_skip|go_guarded|go_step|go_upon|go_back)
        (refine(check_any _ v).mono ?_;rintro e1 w9 ⟨rfl,hb9⟩;dsimp only)
        repeat' ((fail_if_success at_builtin);first|go_values|go_skip|go_guarded|go_step|go_upon|go_back)
        rw[Exit.noGoto_ret]
        have HV2:=Lib.hid (show chkVs args=chkV v by rw[HVS.out,HDK.out,chkVs,if_pos HE2.out])
        refine bodyPost_ret (results_tmp rfl _ _ _) rfl ⟨?_,hw1.trans ((hbwr.trans ((hbn.trans (hb9.mono hbn.size)).mono hbwr.size)).mono hsz)⟩
        refine congrArg (fun x=>Ending.returned (.int .i64 x)) ?_
        rw[HGO.out,HDR.out,chkTs_a HE.out (by rw[HV2.out];exact HE2.out)]
        exact HV2.out.symm
      ·obtain rfl:k=args.length:=by omega
       rw[List.drop_length,chkVs] at HVS
       have HN:=Lib.hid (show chkTs l=chkTs (l.drop (j+1)) by rw[HGO.out,HDR.out,chkTs_1 HE.out HVS.out])
       repeat' ((fail_if_success at_builtin);first|go_values|go_skip|go_guarded|go_step|go_upon|go_back)
       go_roundw
       case rel=>exact⟨j+1,by omega,rfl,by go_num,HN.out,hbwr⟩
       case measure=>simp[intOf];omega
    ·have e0:(chkT0 ⟨kd,⟨pn,pa,code⟩,nm,args⟩ != 0)=true:=by simpa using hE
     have HE:=Lib.hid hE
     clear hE
     repeat' ((fail_if_success at_builtin);first|go_values|go_skip|go_guarded|go_step|go_upon|go_back)
     rw[Exit.noGoto_ret]
     refine bodyPost_ret (results_tmp rfl _ _ _) rfl ⟨?_,hw1.trans (hbw.mono hsz)⟩
     refine congrArg (fun x=>Ending.returned (.int .i64 x)) ?_
     rw[HGO.out,HDR.out,chkTs_0 HE.out]
   ·have HK:=Lib.hid hk
    have h1:chkT0 ⟨kd,⟨pn,pa,code⟩,nm,args⟩=1:=by
     unfold chkT0
     dsimp only
     rw[if_neg (fun h=>hk (.inl h)),if_neg (fun h=>hk (.inr (.inl h))),if_neg (fun h=>hk (.inr (.inr h)))]
    have HE:=Lib.hid (show chkTs l=1 by rw[HGO.out,HDR.out,chkTs_0 (by rw[h1];decide),h1])
    clear hk h1
    repeat' ((fail_if_success (with_reducible (show Code.wp _ (Code.region 10 _ _) _ _ _)));(fail_if_success at_builtin);first|go_values|go_skip|go_guarded|go_step|go_upon|go_back)
    (refine(kindOf_0 _ kd (fun h=>HK.out (.inl h)) (fun h=>HK.out (.inr (.inl h))) (fun h=>HK.out (.inr (.inr h))) pn nm pa ca aa code.length cc args.length ac).mono ?_;rintro e1 w6 ⟨rfl,hb6⟩;dsimp only)
    repeat' ((fail_if_success at_builtin);first|go_values|go_skip|go_guarded|go_step|go_upon|go_back)
    rw[Exit.noGoto_ret]
    refine bodyPost_ret (results_tmp rfl _ _ _) rfl ⟨?_,hw1.trans ((hbr.trans ((hb5.trans (hb6.mono hb5.size)).mono hbr.size)).mono hsz)⟩
    refine congrArg (fun x=>Ending.returned (.int .i64 x)) ?_
    exact HE.out.symm
  ·obtain rfl:j=l.length:=by omega
   rw[List.drop_length,chkTs] at HGO
   repeat' ((fail_if_success at_builtin);first|go_values|go_skip|go_guarded|go_step|go_upon|go_back)
   rw[Exit.noGoto_ret]
   refine bodyPost_ret (results_tmp rfl _ _ _) rfl ⟨?_,hb0⟩
   refine congrArg (fun x=>Ending.returned (.int .i64 x)) ?_
   exact HGO.out.symm
set_option maxRecDepth 20000 in
theorem chkB_1(w:World)(first:Int)(a:Option Addr)(n c:Nat)(g1:decide (first<1)=true) :
  Calls Tryz.prog 99 #[.agg #[.int .i64 first,.slice a n c]] w fun e' w'=>e' = .returned (.int .i64 1)/\Below w.heap.size w w':=by
 go_enter Tryz.func99,Tryz.ntmps99
 repeat' ((fail_if_success at_builtin);first|go_values|go_skip|go_guarded|go_step|go_upon|go_back)
 go_step3
 repeat' ((fail_if_success at_builtin);first|go_values|go_skip|go_guarded|go_step|go_upon|go_back)
 rw[Exit.noGoto_ret]
 refine bodyPost_ret (results_tmp rfl _ _ _) rfl ⟨rfl,by(repeat' (first|(with_reducible exact Below.refl _ _)|(with_reducible assumption)|(with_reducible refine Below.drew ?_)|(with_reducible refine bdrewN ?_ _)|(with_reducible refine Below.alloc ?_ ?_ _)|(with_reducible refine Below.setCell ?_ ?_ _)|omega|(simp;done)|(simp;omega)))⟩
set_option maxRecDepth 20000 in
theorem chkB_2(w:World)(first:Int)(a:Option Addr)(n c:Nat)(g1:decide (first<1)=false)(g2:decide (281474976710655<first)=true) :
  Calls Tryz.prog 99 #[.agg #[.int .i64 first,.slice a n c]] w fun e' w'=>e' = .returned (.int .i64 1)/\Below w.heap.size w w':=by
 go_enter Tryz.func99,Tryz.ntmps99
 repeat' ((fail_if_success at_builtin);first|go_values|go_skip|go_guarded|go_step|go_upon|go_back)
 go_step3
 repeat' ((fail_if_success at_builtin);first|go_values|go_skip|go_guarded|go_step|go_upon|go_back)
 rw[Exit.noGoto_ret]
 refine bodyPost_ret (results_tmp rfl _ _ _) rfl ⟨rfl,by(repeat' (first|(with_reducible exact Below.refl _ _)|(with_reducible assumption)|(with_reducible refine Below.drew ?_)|(with_reducible refine bdrewN ?_ _)|(with_reducible refine Below.alloc ?_ ?_ _)|(with_reducible refine Below.setCell ?_ ?_ _)|omega|(simp;done)|(simp;omega)))⟩
set_option maxRecDepth 20000 in
theorem chkB_3(w:World)(first:Int)(a:Option Addr)(n c:Nat)(g1:decide (first<1)=false)(g2:decide (281474976710655<first)=false)(g3:((n:Int)==0)=true) :
  Calls Tryz.prog 99 #[.agg #[.int .i64 first,.slice a n c]] w fun e' w'=>e' = .returned (.int .i64 1)/\Below w.heap.size w w':=by
 go_enter Tryz.func99,Tryz.ntmps99
 repeat' ((fail_if_success at_builtin);first|go_values|go_skip|go_guarded|go_step|go_upon|go_back)
 go_step3
 repeat' ((fail_if_success at_builtin);first|go_values|go_skip|go_guarded|go_step|go_upon|go_back)
 rw[Exit.noGoto_ret]
 refine bodyPost_ret (results_tmp rfl _ _ _) rfl ⟨rfl,by(repeat' (first|(with_reducible exact Below.refl _ _)|(with_reducible assumption)|(with_reducible refine Below.drew ?_)|(with_reducible refine bdrewN ?_ _)|(with_reducible refine Below.alloc ?_ ?_ _)|(with_reducible refine Below.setCell ?_ ?_ _)|omega|(simp;done)|(simp;omega)))⟩
set_option maxRecDepth 20000 in
theorem chkB_4(w:World)(first:Int)(a:Option Addr)(n c:Nat)(g1:decide (first<1)=false)(g2:decide (281474976710655<first)=false)(g3:((n:Int)==0)=false)(g4:decide ((64:Int)<(n:Int))=true) :
  Calls Tryz.prog 99 #[.agg #[.int .i64 first,.slice a n c]] w fun e' w'=>e' = .returned (.int .i64 1)/\Below w.heap.size w w':=by
 go_enter Tryz.func99,Tryz.ntmps99
 repeat' ((fail_if_success at_builtin);first|go_values|go_skip|go_guarded|go_step|go_upon|go_back)
 go_step3
 repeat' ((fail_if_success at_builtin);first|go_values|go_skip|go_guarded|go_step|go_upon|go_back)
 rw[Exit.noGoto_ret]
 refine bodyPost_ret (results_tmp rfl _ _ _) rfl ⟨rfl,by(repeat' (first|(with_reducible exact Below.refl _ _)|(with_reducible assumption)|(with_reducible refine Below.drew ?_)|(with_reducible refine bdrewN ?_ _)|(with_reducible refine Below.alloc ?_ ?_ _)|(with_reducible refine Below.setCell ?_ ?_ _)|omega|(simp;done)|(simp;omega)))⟩
set_option maxRecDepth 20000 in
theorem chkB_5(w:World)(first:Int)(a:Option Addr)(n c:Nat)(g1:decide (first<1)=false)(g2:decide (281474976710655<first)=false)(g3:((n:Int)==0)=false)(g4:decide ((64:Int)<(n:Int))=false)(b0:1<=first)(b1:first<=281474976710655)(b2:(n:Int)<=64)(g5:decide (281474976710655<first+(n:Int)-1)=true) :
  Calls Tryz.prog 99 #[.agg #[.int .i64 first,.slice a n c]] w fun e' w'=>e' = .returned (.int .i64 23)/\Below w.heap.size w w':=by
 go_enter Tryz.func99,Tryz.ntmps99
 repeat' ((fail_if_success at_builtin);first|go_values|go_skip|go_guarded|go_step|go_upon|go_back)
 go_step3
 repeat' ((fail_if_success at_builtin);first|go_values|go_skip|go_guarded|go_step|go_upon|go_back)
 rw[Exit.noGoto_ret]
 refine bodyPost_ret (results_tmp rfl _ _ _) rfl ⟨rfl,by(repeat' (first|(with_reducible exact Below.refl _ _)|(with_reducible assumption)|(with_reducible refine Below.drew ?_)|(with_reducible refine bdrewN ?_ _)|(with_reducible refine Below.alloc ?_ ?_ _)|(with_reducible refine Below.setCell ?_ ?_ _)|omega|(simp;done)|(simp;omega)))⟩
theorem chkB_any(w:World)(first:Int)(a:Option Addr)(c:Nat)(l:List T)(h:Txns w a l)(hf:∀ t∈l,FitsLen t) :
  Calls Tryz.prog 99 #[.agg #[.int .i64 first,.slice a l.length c]] w fun e' w'=>e' = .returned (.int .i64 (chkB ⟨first,l⟩))/\Below w.heap.size w w':=by
 unfold chkB
 dsimp only
 by_cases h1:first<1
 ·rw[if_pos (.inl h1)];exact chkB_1 w first a _ c (decide_eq_true h1)
 ·by_cases h2:281474976710655<first
  ·rw[if_pos (.inr (.inl h2))];exact chkB_2 w first a _ c (decide_eq_false h1) (decide_eq_true h2)
  ·by_cases h3:l=[]
   ·rw[if_pos (.inr (.inr (.inl h3)))]
    exact chkB_3 w first a _ c (decide_eq_false h1) (decide_eq_false h2) (by subst h3;rfl)
   ·have hl:l.length≠0:=fun e=>h3 (List.eq_nil_of_length_eq_zero e)
    have g3:((l.length:Int)==0)=false:=by rw[beq_eq_false_iff_ne];omega
    by_cases h4:64<l.length
    ·rw[if_pos (.inr (.inr (.inr h4)))]
     exact chkB_4 w first a _ c (decide_eq_false h1) (decide_eq_false h2) g3 (decide_eq_true (by omega))
    ·rw[if_neg (by simp only[not_or];exact⟨h1,h2,h3,h4⟩)]
     by_cases h5:281474976710655<first+(l.length:Int)-1
     ·rw[if_pos h5]
      exact chkB_5 w first a _ c (decide_eq_false h1) (decide_eq_false h2) g3 (decide_eq_false (by omega)) (by omega) (by omega) (by omega) (decide_eq_true h5)
     ·rw[if_neg h5]
      have hh:=h
      obtain⟨ms,hms,hrow,hlies⟩:=h
      rcases hrow with h0|⟨g,o,cur,f,rfl,hg,hc⟩
      ·have:=flat_len TM.row 6 (fun _=>rfl) ms
       rw[h0] at this
       have:ms=[]:=List.eq_nil_of_length_eq_zero (by simp at this;omega)
       subst this
       exact absurd hms.symm h3
      ·exact chkB_go w first g o c l hh hf (by omega) (by omega) (by omega) (by omega) (by omega)
set_option maxRecDepth 20000 in
theorem rinstr_byte(w:World)(b lb:Nat)(r:RS)(all:Nat)(hR:Rd w b r)(k:UInt8)(r1:RS)(he:r.byte=(k,r1))(h0:r1.e≠0) :
  Calls Tryz.prog 258 #[.agg #[.pointer (some ⟨b,0,none⟩),.int .i64 (all:Int)],.pointer (some ⟨lb,0,none⟩)] w fun e' w'=>e' = .panicked [{ v:=refV r1.e,recovered:=false }]/\Fr w w' (fun k=>k=b):=by
 have HE:=Lib.hid he
 clear he
 have hb0:Below w.heap.size w ((w.alloc (.cells #[.pointer (some ⟨b,0,none⟩),.int .i64 (all:Int)] 347)).alloc (.cells #[.int .i64 0,.int .i64 0,.int .i64 0,.int .i64 0,.int .i64 0,.int .i64 0,.int .i64 0,.string ⟨#[]⟩] 179)):=by(repeat' (first|(with_reducible exact Below.refl _ _)|(with_reducible assumption)|(with_reducible refine Below.drew ?_)|(with_reducible refine bdrewN ?_ _)|(with_reducible refine Below.alloc ?_ ?_ _)|(with_reducible refine Below.setCell ?_ ?_ _)|omega|(simp;done)|(simp;omega)))
 have hR0:=hR.pure hb0
 have q0:((w.alloc (.cells #[.pointer (some ⟨b,0,none⟩),.int .i64 (all:Int)] 347)).alloc (.cells #[.int .i64 0,.int .i64 0,.int .i64 0,.int .i64 0,.int .i64 0,.int .i64 0,.int .i64 0,.string ⟨#[]⟩] 179)).heap[w.heap.size]? = some (.cells #[.pointer (some ⟨b,0,none⟩),.int .i64 (all:Int)] 347 (0,0)):=blk_alloc (blk_new _ _) _
 have v0:IB ((w.alloc (.cells #[.pointer (some ⟨b,0,none⟩),.int .i64 (all:Int)] 347)).alloc (.cells #[.int .i64 0,.int .i64 0,.int .i64 0,.int .i64 0,.int .i64 0,.int .i64 0,.int .i64 0,.string ⟨#[]⟩] 179)) (w.heap.size+1) I.nil:=blk_new1 _ _ _
 have hsz0:((w.alloc (.cells #[.pointer (some ⟨b,0,none⟩),.int .i64 (all:Int)] 347)).alloc (.cells #[.int .i64 0,.int .i64 0,.int .i64 0,.int .i64 0,.int .i64 0,.int .i64 0,.int .i64 0,.string ⟨#[]⟩] 179)).heap.size=w.heap.size+2:=by simp
 obtain⟨a0,a1,-,-⟩:=blk2 q0
 go_enter Tryz.func258,Tryz.ntmps258
 repeat' ((fail_if_success at_builtin);first|go_values|go_skip|go_guarded|go_step|go_upon|go_back)
 clear a0 a1
 generalize ((w.alloc (.cells #[.pointer (some ⟨b,0,none⟩),.int .i64 (all:Int)] 347)).alloc (.cells #[.int .i64 0,.int .i64 0,.int .i64 0,.int .i64 0,.int .i64 0,.int .i64 0,.int .i64 0,.string ⟨#[]⟩] 179))=W at hb0 hR0 q0 v0 hsz0 ⊢
 have HSZ:=Lib.hid hsz0
 clear hsz0
 (refine(byte_any W b _ hR0).mono ?_;rintro e1 w2 ⟨rfl,hR2,hF2⟩;dsimp only)
 rw[HE.out] at hR2 ⊢
 dsimp only at hR2 ⊢
 have q2:=hF2.blk q0 (hR0.ne q0 (by decide))
 have v2:IB w2 (w.heap.size+1) I.nil:=hF2.blk v0 (hR0.ne v0 (by decide))
 have hk:(k.toNat:Int)<256:=by have:=byte_lt k;omega
 have hk0:(0:Int)<=(k.toNat:Int):=Int.natCast_nonneg _
 have hs2:w.heap.size+2<=w2.heap.size:=by have:=hF2.size;have:=HSZ.out;omega
 have hF0:Fr w w2 (fun k=>k=b):=(Fr.pure hb0 _).trans hF2 (fun _ _ h _=>h)
 clear hb0 hR0 hF2 q0 v0
 repeat' ((fail_if_success (with_reducible (show Code.wp _ (Code.region 2 _ _) _ _ _)));(fail_if_success at_builtin);first|go_values|go_skip|go_guarded|go_step|go_upon|go_back)
 have hb3:Below w2.heap.size w2 (w2.alloc (.cells #[.int .i64 (k.toNat:Int),.int .i64 0,.int .i64 0,.int .i64 0,.int .i64 0,.int .i64 0,.int .i64 0,.string ⟨#[]⟩] 179)):=(Below.refl _ _).alloc (Nat.le_refl _) _
 have x3:IB (w2.alloc (.cells #[.int .i64 (k.toNat:Int),.int .i64 0,.int .i64 0,.int .i64 0,.int .i64 0,.int .i64 0,.int .i64 0,.string ⟨#[]⟩] 179)) w2.heap.size { I.nil with op:=(k.toNat:Int) }:=blk_new _ _
 have q3:=blk_below hb3 q2 (blk_lt q2)
 have v3:IB (w2.alloc (.cells #[.int .i64 (k.toNat:Int),.int .i64 0,.int .i64 0,.int .i64 0,.int .i64 0,.int .i64 0,.int .i64 0,.string ⟨#[]⟩] 179)) (w.heap.size+1) I.nil:=blk_below hb3 v2 (blk_lt v2)
 have hR3:=hR2.pure hb3
 have hF3:=hF0.then_below hb3
 clear q2 v2 hR2 hF0 hb3
 generalize w2.alloc (.cells #[.int .i64 (k.toNat:Int),.int .i64 0,.int .i64 0,.int .i64 0,.int .i64 0,.int .i64 0,.int .i64 0,.string ⟨#[]⟩] 179)=w3 at x3 q3 v3 hR3 hF3 ⊢
 obtain⟨b0,b1,-,-⟩:=blk2 q3
 repeat' ((fail_if_success at_builtin);first|go_values|go_skip|go_guarded|go_step|go_upon|go_back)
 (refine(psure_no _ b r1 all hR3 h0).mono ?_;rintro e1 w4 ⟨rfl,hb4⟩;dsimp only;(repeat' ((fail_if_success at_builtin);first|go_values|go_skip|go_guarded|go_step|go_upon|go_back)))
 exact⟨rfl,rfl,hF3.then_below hb4⟩
set_option maxRecDepth 20000 in
theorem rinstr_opA(w:World)(b lb:Nat)(r:RS)(all:Nat)(hR:Rd w b r)(k:UInt8)(r1:RS)(he:r.byte=(k,r1))(h0:r1.e=0)(g1:decide ((k.toNat:Int)<1)=true) :
  Calls Tryz.prog 258 #[.agg #[.pointer (some ⟨b,0,none⟩),.int .i64 (all:Int)],.pointer (some ⟨lb,0,none⟩)] w fun e' w'=>e' = .panicked [{ v:=refV 16,recovered:=false }]/\Fr w w' (fun k=>k=b):=by
 have HE:=Lib.hid he
 clear he
 have hb0:Below w.heap.size w ((w.alloc (.cells #[.pointer (some ⟨b,0,none⟩),.int .i64 (all:Int)] 347)).alloc (.cells #[.int .i64 0,.int .i64 0,.int .i64 0,.int .i64 0,.int .i64 0,.int .i64 0,.int .i64 0,.string ⟨#[]⟩] 179)):=by(repeat' (first|(with_reducible exact Below.refl _ _)|(with_reducible assumption)|(with_reducible refine Below.drew ?_)|(with_reducible refine bdrewN ?_ _)|(with_reducible refine Below.alloc ?_ ?_ _)|(with_reducible refine Below.setCell ?_ ?_ _)|omega|(simp;done)|(simp;omega)))
 have hR0:=hR.pure hb0
 have q0:((w.alloc (.cells #[.pointer (some ⟨b,0,none⟩),.int .i64 (all:Int)] 347)).alloc (.cells #[.int .i64 0,.int .i64 0,.int .i64 0,.int .i64 0,.int .i64 0,.int .i64 0,.int .i64 0,.string ⟨#[]⟩] 179)).heap[w.heap.size]? = some (.cells #[.pointer (some ⟨b,0,none⟩),.int .i64 (all:Int)] 347 (0,0)):=blk_alloc (blk_new _ _) _
 have v0:IB ((w.alloc (.cells #[.pointer (some ⟨b,0,none⟩),.int .i64 (all:Int)] 347)).alloc (.cells #[.int .i64 0,.int .i64 0,.int .i64 0,.int .i64 0,.int .i64 0,.int .i64 0,.int .i64 0,.string ⟨#[]⟩] 179)) (w.heap.size+1) I.nil:=blk_new1 _ _ _
 have hsz0:((w.alloc (.cells #[.pointer (some ⟨b,0,none⟩),.int .i64 (all:Int)] 347)).alloc (.cells #[.int .i64 0,.int .i64 0,.int .i64 0,.int .i64 0,.int .i64 0,.int .i64 0,.int .i64 0,.string ⟨#[]⟩] 179)).heap.size=w.heap.size+2:=by simp
 obtain⟨a0,a1,-,-⟩:=blk2 q0
 go_enter Tryz.func258,Tryz.ntmps258
 repeat' ((fail_if_success at_builtin);first|go_values|go_skip|go_guarded|go_step|go_upon|go_back)
 clear a0 a1
 generalize ((w.alloc (.cells #[.pointer (some ⟨b,0,none⟩),.int .i64 (all:Int)] 347)).alloc (.cells #[.int .i64 0,.int .i64 0,.int .i64 0,.int .i64 0,.int .i64 0,.int .i64 0,.int .i64 0,.string ⟨#[]⟩] 179))=W at hb0 hR0 q0 v0 hsz0 ⊢
 have HSZ:=Lib.hid hsz0
 clear hsz0
 (refine(byte_any W b _ hR0).mono ?_;rintro e1 w2 ⟨rfl,hR2,hF2⟩;dsimp only)
 rw[HE.out] at hR2 ⊢
 dsimp only at hR2 ⊢
 have q2:=hF2.blk q0 (hR0.ne q0 (by decide))
 have v2:IB w2 (w.heap.size+1) I.nil:=hF2.blk v0 (hR0.ne v0 (by decide))
 have hk:(k.toNat:Int)<256:=by have:=byte_lt k;omega
 have hk0:(0:Int)<=(k.toNat:Int):=Int.natCast_nonneg _
 have hs2:w.heap.size+2<=w2.heap.size:=by have:=hF2.size;have:=HSZ.out;omega
 have hF0:Fr w w2 (fun k=>k=b):=(Fr.pure hb0 _).trans hF2 (fun _ _ h _=>h)
 clear hb0 hR0 hF2 q0 v0
 repeat' ((fail_if_success (with_reducible (show Code.wp _ (Code.region 2 _ _) _ _ _)));(fail_if_success at_builtin);first|go_values|go_skip|go_guarded|go_step|go_upon|go_back)
 have hb3:Below w2.heap.size w2 (w2.alloc (.cells #[.int .i64 (k.toNat:Int),.int .i64 0,.int .i64 0,.int .i64 0,.int .i64 0,.int .i64 0,.int .i64 0,.string ⟨#[]⟩] 179)):=(Below.refl _ _).alloc (Nat.le_refl _) _
 have x3:IB (w2.alloc (.cells #[.int .i64 (k.toNat:Int),.int .i64 0,.int .i64 0,.int .i64 0,.int .i64 0,.int .i64 0,.int .i64 0,.string ⟨#[]⟩] 179)) w2.heap.size { I.nil with op:=(k.toNat:Int) }:=blk_new _ _
 have q3:=blk_below hb3 q2 (blk_lt q2)
 have v3:IB (w2.alloc (.cells #[.int .i64 (k.toNat:Int),.int .i64 0,.int .i64 0,.int .i64 0,.int .i64 0,.int .i64 0,.int .i64 0,.string ⟨#[]⟩] 179)) (w.heap.size+1) I.nil:=blk_below hb3 v2 (blk_lt v2)
 have hR3:=hR2.pure hb3
 have hF3:=hF0.then_below hb3
 clear q2 v2 hR2 hF0 hb3
 generalize w2.alloc (.cells #[.int .i64 (k.toNat:Int),.int .i64 0,.int .i64 0,.int .i64 0,.int .i64 0,.int .i64 0,.int .i64 0,.string ⟨#[]⟩] 179)=w3 at x3 q3 v3 hR3 hF3 ⊢
 obtain⟨b0,b1,-,-⟩:=blk2 q3
 repeat' ((fail_if_success at_builtin);first|go_values|go_skip|go_guarded|go_step|go_upon|go_back)
 (refine(psure_ok _ b r1 all hR3 h0).mono ?_;rintro e1 w4 ⟨rfl,hb4⟩;dsimp only)
 have x4:IB w4 w2.heap.size _:=blk_below hb4 x3 (blk_lt x3)
 have x0:w4.cell? ⟨w2.heap.size,0,none⟩=some (.int .i64 (k.toNat:Int)):=blk_cell x4 0
 repeat' ((fail_if_success at_builtin);first|go_values|go_skip|go_guarded|go_step|go_upon|go_back)
 exact⟨rfl,rfl,hF3.then_below hb4⟩
set_option maxRecDepth 20000 in
theorem rinstr_opB(w:World)(b lb:Nat)(r:RS)(all:Nat)(hR:Rd w b r)(k:UInt8)(r1:RS)(he:r.byte=(k,r1))(h0:r1.e=0)(g1:decide ((k.toNat:Int)<1)=false)(g2:decide (16<(k.toNat:Int))=true) :
  Calls Tryz.prog 258 #[.agg #[.pointer (some ⟨b,0,none⟩),.int .i64 (all:Int)],.pointer (some ⟨lb,0,none⟩)] w fun e' w'=>e' = .panicked [{ v:=refV 16,recovered:=false }]/\Fr w w' (fun k=>k=b):=by
 have HE:=Lib.hid he
 clear he
 have hb0:Below w.heap.size w ((w.alloc (.cells #[.pointer (some ⟨b,0,none⟩),.int .i64 (all:Int)] 347)).alloc (.cells #[.int .i64 0,.int .i64 0,.int .i64 0,.int .i64 0,.int .i64 0,.int .i64 0,.int .i64 0,.string ⟨#[]⟩] 179)):=by(repeat' (first|(with_reducible exact Below.refl _ _)|(with_reducible assumption)|(with_reducible refine Below.drew ?_)|(with_reducible refine bdrewN ?_ _)|(with_reducible refine Below.alloc ?_ ?_ _)|(with_reducible refine Below.setCell ?_ ?_ _)|omega|(simp;done)|(simp;omega)))
 have hR0:=hR.pure hb0
 have q0:((w.alloc (.cells #[.pointer (some ⟨b,0,none⟩),.int .i64 (all:Int)] 347)).alloc (.cells #[.int .i64 0,.int .i64 0,.int .i64 0,.int .i64 0,.int .i64 0,.int .i64 0,.int .i64 0,.string ⟨#[]⟩] 179)).heap[w.heap.size]? = some (.cells #[.pointer (some ⟨b,0,none⟩),.int .i64 (all:Int)] 347 (0,0)):=blk_alloc (blk_new _ _) _
 have v0:IB ((w.alloc (.cells #[.pointer (some ⟨b,0,none⟩),.int .i64 (all:Int)] 347)).alloc (.cells #[.int .i64 0,.int .i64 0,.int .i64 0,.int .i64 0,.int .i64 0,.int .i64 0,.int .i64 0,.string ⟨#[]⟩] 179)) (w.heap.size+1) I.nil:=blk_new1 _ _ _
 have hsz0:((w.alloc (.cells #[.pointer (some ⟨b,0,none⟩),.int .i64 (all:Int)] 347)).alloc (.cells #[.int .i64 0,.int .i64 0,.int .i64 0,.int .i64 0,.int .i64 0,.int .i64 0,.int .i64 0,.string ⟨#[]⟩] 179)).heap.size=w.heap.size+2:=by simp
 obtain⟨a0,a1,-,-⟩:=blk2 q0
 go_enter Tryz.func258,Tryz.ntmps258
 repeat' ((fail_if_success at_builtin);first|go_values|go_skip|go_guarded|go_step|go_upon|go_back)
 clear a0 a1
 generalize ((w.alloc (.cells #[.pointer (some ⟨b,0,none⟩),.int .i64 (all:Int)] 347)).alloc (.cells #[.int .i64 0,.int .i64 0,.int .i64 0,.int .i64 0,.int .i64 0,.int .i64 0,.int .i64 0,.string ⟨#[]⟩] 179))=W at hb0 hR0 q0 v0 hsz0 ⊢
 have HSZ:=Lib.hid hsz0
 clear hsz0
 (refine(byte_any W b _ hR0).mono ?_;rintro e1 w2 ⟨rfl,hR2,hF2⟩;dsimp only)
 rw[HE.out] at hR2 ⊢
 dsimp only at hR2 ⊢
 have q2:=hF2.blk q0 (hR0.ne q0 (by decide))
 have v2:IB w2 (w.heap.size+1) I.nil:=hF2.blk v0 (hR0.ne v0 (by decide))
 have hk:(k.toNat:Int)<256:=by have:=byte_lt k;omega
 have hk0:(0:Int)<=(k.toNat:Int):=Int.natCast_nonneg _
 have hs2:w.heap.size+2<=w2.heap.size:=by have:=hF2.size;have:=HSZ.out;omega
 have hF0:Fr w w2 (fun k=>k=b):=(Fr.pure hb0 _).trans hF2 (fun _ _ h _=>h)
 clear hb0 hR0 hF2 q0 v0
 repeat' ((fail_if_success (with_reducible (show Code.wp _ (Code.region 2 _ _) _ _ _)));(fail_if_success at_builtin);first|go_values|go_skip|go_guarded|go_step|go_upon|go_back)
 have hb3:Below w2.heap.size w2 (w2.alloc (.cells #[.int .i64 (k.toNat:Int),.int .i64 0,.int .i64 0,.int .i64 0,.int .i64 0,.int .i64 0,.int .i64 0,.string ⟨#[]⟩] 179)):=(Below.refl _ _).alloc (Nat.le_refl _) _
 have x3:IB (w2.alloc (.cells #[.int .i64 (k.toNat:Int),.int .i64 0,.int .i64 0,.int .i64 0,.int .i64 0,.int .i64 0,.int .i64 0,.string ⟨#[]⟩] 179)) w2.heap.size { I.nil with op:=(k.toNat:Int) }:=blk_new _ _
 have q3:=blk_below hb3 q2 (blk_lt q2)
 have v3:IB (w2.alloc (.cells #[.int .i64 (k.toNat:Int),.int .i64 0,.int .i64 0,.int .i64 0,.int .i64 0,.int .i64 0,.int .i64 0,.string ⟨#[]⟩] 179)) (w.heap.size+1) I.nil:=blk_below hb3 v2 (blk_lt v2)
 have hR3:=hR2.pure hb3
 have hF3:=hF0.then_below hb3
 clear q2 v2 hR2 hF0 hb3
 generalize w2.alloc (.cells #[.int .i64 (k.toNat:Int),.int .i64 0,.int .i64 0,.int .i64 0,.int .i64 0,.int .i64 0,.int .i64 0,.string ⟨#[]⟩] 179)=w3 at x3 q3 v3 hR3 hF3 ⊢
 obtain⟨b0,b1,-,-⟩:=blk2 q3
 repeat' ((fail_if_success at_builtin);first|go_values|go_skip|go_guarded|go_step|go_upon|go_back)
 (refine(psure_ok _ b r1 all hR3 h0).mono ?_;rintro e1 w4 ⟨rfl,hb4⟩;dsimp only)
 have x4:IB w4 w2.heap.size _:=blk_below hb4 x3 (blk_lt x3)
 have x0:w4.cell? ⟨w2.heap.size,0,none⟩=some (.int .i64 (k.toNat:Int)):=blk_cell x4 0
 repeat' ((fail_if_success at_builtin);first|go_values|go_skip|go_guarded|go_step|go_upon|go_back)
 exact⟨rfl,rfl,hF3.then_below hb4⟩
theorem rinstr_op(w:World)(b lb:Nat)(r:RS)(all:Nat)(hR:Rd w b r)(k:UInt8)(r1:RS)(he:r.byte=(k,r1))(h0:r1.e=0)(h1:k.toNat<1\/16<k.toNat) :
  Calls Tryz.prog 258 #[.agg #[.pointer (some ⟨b,0,none⟩),.int .i64 (all:Int)],.pointer (some ⟨lb,0,none⟩)] w fun e' w'=>e' = .panicked [{ v:=refV 16,recovered:=false }]/\Fr w w' (fun k=>k=b):=by
 by_cases h2:k.toNat<1
 ·exact rinstr_opA w b lb r all hR k r1 he h0 (by simp;omega)
 ·exact rinstr_opB w b lb r all hR k r1 he h0 (by simp;omega) (by simp;omega)
end Go.Proofs.YtbppnihcbcdglaaGreat
