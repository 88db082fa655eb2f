/- Leaving a function whose loop held ranges over functions: the marks that lie among the deferred calls. No condition. -/
import Derived.Laws.EntriesVeiled
import Derived.Test.YtbppnihcbcdglaaGreatZ32
import Derived.Test.YtbppnihcbcdglaaGreatZ33
import Derived.Test.YtbppnihcbcdglaaGreatZ34
namespace Go.Proofs.YtbppnihcbcdglaaGreat
set_option maxHeartbeats 0
open Go.RowKit
set_option linter.unusedVariables false
set_option linter.unusedSimpArgs false
def FSeq(b:Bs)(N B:Nat)(w:World):Prop :=
 N<=B/\B<w.heap.size/\∀ (n:Nat) (W:World),Below w.heap.size w W->SeqG Tryz.prog n 117 #[.pointer (some ⟨B,0,none⟩)] FE.encs [5,27] [] N w.heap.size (FE.G b.length) (fun xs=>xs.map FE.val=frames b (b.length+1) 0) (fun pre=>∃ pre0 x,pre=pre0++[x]/\pre.map FE.val <+: frames b (b.length+1) 0) W
set_option maxRecDepth 20000 in
theorem fscan_any(w:World)(a:Option Addr)(c:Nat)(b:Bs)(hb:BS w a c b)(hl:b.length<=17592186044416) :
  Calls Tryz.prog 53 #[.slice a b.length c] w fun e w'=>∃ B,e = .returned (.func (.func 117) #[] #[.pointer (some ⟨B,0,none⟩)])/\FSeq b w.heap.size B w'/\Below w.heap.size w w':=by
 have hmf:∀ (fn:Fn) (first cap:Array Value) (w:World),(Instr.makeFunc fn first cap).run Tryz.prog w = .ok (.func fn first cap) w:=fun _ _ _ _=>rfl
 have hA:Below w.heap.size w (w.alloc (.cells #[.slice a b.length c] 27 (0,0))):=(Below.refl _ w).alloc (Nat.le_refl _) _
 have hbA:=hb.below hA
 have HL:=Lib.hid hl
 clear hl hb
 go_enter Tryz.func53,Tryz.ntmps53
 have q0:=blk1 (blk_new w (.cells #[.slice a b.length c] 27 (0,0)))
 repeat' ((fail_if_success at_builtin);first|go_values|go_skip|go_guarded|go_step|go_upon|go_back)
 (refine(clone_any _ a c b hbA (by have:=HL.out;omega)).mono ?_;rintro e1 w2 ⟨v,rfl,ho,hb2⟩;dsimp only)
 obtain⟨a5,c5,rfl,-,hlo⟩:=ho.shape
 have hq:=blk_below hb2 (blk_new w (.cells #[.slice a b.length c] 27 (0,0))) (blk_lt (blk_new _ _))
 have q1:=blk1 hq
 have hs2:=hb2.size
 have hB2:Below w.heap.size w w2:=hA.trans (hb2.mono hA.size)
 have ho3:=ho.set hq (by decide) 0 (.slice a5 b.length c5)
 have hq3:=blk_set hq 0 (.slice a5 b.length c5)
 have hB3:Below w.heap.size w (w2.setCell ⟨w.heap.size,0,none⟩ (.slice a5 b.length c5)):=hB2.setCell (p:=⟨w.heap.size,0,none⟩) (Nat.le_refl _) _
 simp only[World.size_alloc] at hlo
 have HF:Hid (FSeq b w.heap.size w.heap.size (w2.setCell ⟨w.heap.size,0,none⟩ (.slice a5 b.length c5))):=Lib.hid (by
  refine⟨Nat.le_refl _,blk_lt hq3,fun n W hW=>?_⟩
  refine fscan1 n _ b a5 c5 W _ _ (blk_below hW hq3 (blk_lt hq3)) (ho3.bs.below hW) (ho3.ty.below hW) HL.out ⟨Nat.le_refl _,blk_lt hq3⟩ (fun g o e=>?_)
  have h1:=hlo g o e
  obtain⟨cur,f,hg⟩:=ho3.ty g o e
  have:=blk_lt hg
  exact⟨by omega,this⟩)
 have HB3:=Lib.hid hB3
 clear q0 hB3 ho3 hq3 hB2 hlo ho hbA hA hb2 hq
 repeat' ((fail_if_success at_builtin);first|go_values|go_skip|go_guarded|go_step|go_upon|go_back)
 refine bodyPost_ret (results_tmp rfl _ _ _) rfl ⟨_,rfl,HF.out,HB3.out⟩
attribute [local go_sem] Oper.semAt_some
structure BE where
 x:Bt
 ta:Option Addr
 tc:Nat
 i:Nat
def BE.val(y:BE):Bt×Nat:=(y.x,y.i)
def BE.encs(y:BE):Array Value:=#[.agg #[.int .i64 y.x.first,.slice y.ta y.x.txns.length y.tc],.int .i64 (y.i:Int)]
def BE.G(L:Nat)(y:BE)(w:World):Prop:=Txns w y.ta y.x.txns/\y.x.txns.length<=y.tc/\(y.ta=none->y.tc=0)/\chkB y.x=0/\y.i<=L
theorem RowT.keeps{TW:List TypeId}{N:Nat}{w w':World}{t:TypeId}{a:Option Addr}{vs:List Value}(h:RowT w t a vs)(hk:Keeps TW N w w')(ht:t∉TW):RowT w' t a vs :=
 h.kept fun g cur f hg=>(hk.same _ _ _ _ hg ht).trans hg.symm
theorem TM.lies.keeps{N:Nat}{w w':World}{m:TM}(h:m.lies w)(hb:Keeps [3] N w w'):m.lies w':=⟨RowT.keeps h.code hb (by decide),RowT.keeps h.args hb (by decide)⟩
theorem Txns.keeps{N:Nat}{w w':World}{a:Option Addr}{l:List T}(h:Txns w a l)(hb:Keeps [3] N w w'):Txns w' a l:=by
 obtain⟨ms,h1,h2,h3⟩:=h
 exact⟨ms,h1,h2.keeps hb (by decide),fun m hm=>(h3 m hm).keeps hb⟩
theorem BE.G.keeps{L N:Nat}{x:BE}{A B:World}(h:BE.G L x A)(hk:Keeps [3] N A B):BE.G L x B:=⟨h.1.keeps hk,h.2⟩
set_option maxRecDepth 20000 in
theorem sscan1(n:Nat)(b:Bs)(first:Int)(N B B1 B2:Nat)(w0 w:World)(hF:FSeq b N B w0)(hb0:Below w0.heap.size w0 w)(h1:w.heap[B1]? = some (.cells #[.int .i64 first] 3 (0,0)))
  (h2:w.heap[B2]? = some (.cells #[.func (.func 117) #[] #[.pointer (some ⟨B,0,none⟩)]] 97 (0,0))) (hl:b.length<=17592186044416) :
  SeqG Tryz.prog n 163 #[.pointer (some ⟨B1,0,none⟩),.pointer (some ⟨B2,0,none⟩)] BE.encs [5,27,3,253,81] [3] N w0.heap.size (BE.G b.length) (fun xs=>xs.map BE.val=scan b first) (fun pre=>∃ pre0 x,pre=pre0++[x]/\pre.map BE.val <+: scan b first) w:=by
 have hdp:∀ k:Nat,Fence.wide.depth.isSome=true->1<=k:=fun k h=>by cases h
 intro l J Jx Wr W hW hWr hJ hJx hY h0
 have h1W:=blk_below hW h1 (blk_lt h1)
 have h2W:=blk_below hW h2 (blk_lt h2)
 have hWb:=hb0.trans (hW.mono hb0.size)
 have HL:=Lib.hid hl
 have HF:=Lib.hid hF
 have HWR:=Lib.hid hWr
 have HNW:Hid (∀ k t,W.heap.size<=k->t∈[5,27,3,253,81]->¬ Wr k t):=Lib.hid (fun k t h1 h2 h=>by
  have h3:=hF.1
  have h4:=hF.2.1
  have h5:=hWb.size
  rcases hWr _ _ h with h|h|h <;> first|omega|exact h h2)
 have HJ:=Lib.hid hJ
 have HJx:=Lib.hid hJx
 have HY:=Lib.hid hY
 have HWB:=Lib.hid hWb
 clear h1 h2 hb0 hF hl hWr hJ hJx hY hW hWb
 refine callsIn_of_wp_marks Tryz.func163 rfl trivial ?_ rfl
 simp only[Tryz.ntmps163,List.size_toArray,List.length_cons,List.length_nil,Nat.reduceAdd,Nat.reduceSub,Array.replicate_succ,Array.replicate_zero,List.push_toArray,List.append_toArray,List.nil_append,List.cons_append]
 have hbA:Below W.heap.size W ((W.alloc (.cells #[.func (.yield l) #[] #[]] 253)).alloc (.cells #[.int .i64 first] 3)):=((Below.refl _ W).alloc (Nat.le_refl _) _).alloc (by simp) _
 have hy3:((W.alloc (.cells #[.func (.yield l) #[] #[]] 253)).alloc (.cells #[.int .i64 first] 3)).heap[W.heap.size]? = some (.cells #[.func (.yield l) #[] #[]] 253 (0,0)):=blk_alloc (blk_new _ _) _
 have hn3:((W.alloc (.cells #[.func (.yield l) #[] #[]] 253)).alloc (.cells #[.int .i64 first] 3)).heap[W.heap.size+1]? = some (.cells #[.int .i64 first] 3 (0,0)):=blk_new1 _ _ _
 have a1:=blk1 (blk_alloc h1W (.cells #[.func (.yield l) #[] #[]] 253))
 have a3:=blk1 (blk_below hbA h2W (blk_lt h2W))
 have hs3:W.heap.size+2=((W.alloc (.cells #[.func (.yield l) #[] #[]] 253)).alloc (.cells #[.int .i64 first] 3)).heap.size:=by simp
 gi_wp2
 refine(wpIn_wide (n:=n)).2 (wp_scope_straight ((wpIn_wide (n:=n)).1 ?_))
 gi_wp2
 refine wpIn_label ?_
 gi_wp2
 have HB3:=Lib.hid (HWB.out.trans (hbA.mono HWB.out.size))
 have HJ3:=Lib.hid (HJ.out _ _ _ h0 (.of_below hbA))
 have HS3:=Lib.hid hs3
 clear h0 hbA h1W h2W a1 a3 hs3
 generalize (W.alloc (.cells #[.func (.yield l) #[] #[]] 253)).alloc (.cells #[.int .i64 first] 3)=W3 at hy3 hn3 HB3 HJ3 HS3 ⊢
 have HY3:=Lib.hid hy3
 have HN3:=Lib.hid hn3
 clear hy3 hn3
 refine range_law (w0:=W3) (n:=n) rfl (enters_of Tryz.func117 (by kernel_rfl) rfl) 
  (HF.out.2.2 (n-1) W3 HB3.out) (fun k t=>Wr k t\/k=W.heap.size+1)
  (fun k t hk=>hk.elim (fun h=>((HWR.out k t h).grow (by have:=HS3.out;omega)).fewer (by decide)) (fun h => .inr (.inl ⟨by have:=HWB.out.size;omega,by have:=HS3.out;omega⟩))) (Below.refl _ _) (fun _=>rfl)
  (fun pre V=>∃ (qs:List BE) (nx:Int),qs.map BE.val=scanL (pre.map FE.val) first/\nextL (pre.map FE.val) first=some nx/\J qs V/\V.heap[W.heap.size+1]? = some (.cells #[.int .i64 nx] 3 (0,0))/\V.heap[W.heap.size]? = some (.cells #[.func (.yield l) #[] #[]] 253 (0,0)))
  (fun c pre V=>c = .exit 0/\∃ (qs:List BE),(J qs V/\∀ r,scanL (pre.map FE.val++r) first=qs.map BE.val)\/((∃ q0 y,qs=q0++[y])/\Jx qs V/\∀ r,qs.map BE.val <+: scanL (pre.map FE.val++r) first))
  ?hI ?hIx (fun x A V h hk=>h.keeps hk) ⟨[],first,rfl,rfl,HJ3.out,HN3.out,HY3.out⟩ (fun(x:FE)=>({ tmps:=#[.func (.yield l) #[] #[],.pointer (some ⟨B1,0,none⟩),.pointer (some ⟨B2,0,none⟩),.pointer (some ⟨W.heap.size,0,none⟩),.pointer (some ⟨W.heap.size+1,0,none⟩),.int .i64 (x.i:Int),.slice x.a x.xs.length x.c,undef,undef,.int .i64 first,.func (.func 117) #[] #[.pointer (some ⟨B,0,none⟩)],.int .i64 (x.i:Int),.slice x.a x.xs.length x.c,undef,undef,undef,undef,undef,undef,undef,undef,undef,undef,undef,undef,undef,undef,undef,undef,undef,undef,undef,undef,undef,undef,undef,undef,undef,undef,undef,undef,undef],defers:=[] }:Act)) ?ha ?hb ?hd ?hs
 case hI =>
  rintro s A V ⟨qs,nx,i1,i2,i3,i4,i5⟩ hk
  exact⟨qs,nx,i1,i2,HJ.out _ _ _ i3 (hk.lower (by have:=HS3.out;omega) (by simp)),hk.same _ _ _ _ i4 (by simp),hk.same _ _ _ _ i5 (by simp)⟩
 case hIx =>
  rintro c s A V ⟨rfl,qs,⟨i1,i2⟩|⟨i0,i1,i2⟩⟩ hk
  ·exact⟨rfl,qs,.inl ⟨HJ.out _ _ _ i1 (hk.lower (by have:=HS3.out;omega) (by simp)),i2⟩⟩
  ·exact⟨rfl,qs,.inr ⟨i0,HJx.out _ _ _ i1 (hk.lower (by have:=HS3.out;omega) (by simp)),i2⟩⟩
 case ha =>
  intro l' x V K hK
  simp only[FE.encs,List.zip_toArray,List.zip_cons_cons,List.zip_nil_left,List.foldl_toArray,List.foldl_cons,List.foldl_nil,List.setIfInBounds_toArray,List.set_cons_succ,List.set_cons_zero]
  gi_wp2
  exact hK
 case hb =>
  rintro l' pre x V ⟨qs,nx,i1,i2,i3,i4,i5⟩ hG hsz
  have HI1:=Lib.hid i1
  have HI2:=Lib.hid i2
  have HI3:=Lib.hid i3
  have HG:=Lib.hid hG
  have HSZ:=Lib.hid hsz
  clear i1 i2 i3 hG hsz
  obtain⟨y,e,hd⟩:∃ y e,decB x.xs=(y,e):=⟨_,_,rfl⟩
  have HD:=Lib.hid hd
  clear hd
  obtain⟨n0,-⟩:=blk1 i4
  obtain⟨y0,-⟩:=blk1 i5
  by_cases hE:e=0
  ·subst hE
   have HCK:=Lib.hid (chkB_ok (decB_ok HD.out).1)
   by_cases hF1:y.first=nx
   ·subst hF1
    have w1:IntKind.i64.wrap ((x.i:Int)+8)=(x.i:Int)+8:=IntWalk.i64_in _ (by have:=HG.out.2.2.2.2;have:=HL.out;omega)
    have w2:IntKind.i64.wrap ((x.i:Int)+8+(x.xs.length:Int))=(x.i:Int)+8+(x.xs.length:Int):=IntWalk.i64_in _ (by have:=HG.out.2.2.2.2;have:=HL.out;omega)
    have w3:IntKind.i64.wrap (y.first+(y.txns.length:Int))=y.first+(y.txns.length:Int):=IntWalk.i64_in _ (by have:=HCK.out;omega)
    have hcast:((x.i+8+x.xs.length:Nat):Int)=(x.i:Int)+8+(x.xs.length:Int):=by omega
    gi_wp2_with (first|(refine⟨trivial,hdp _,?_⟩;gi_at_call 58;refine(callsIn_wide.2 (decB_any V x.a x.c x.xs HG.out.1 (by have:=HG.out.2.2.1;omega) _ ?_));intro ta tc V2 hT1 hT2 hT3 hb2;rw[HD.out] at hT1 hT2 ⊢;dsimp only at hT1 hT2 ⊢;have hb3:Below V.heap.size V (V2.alloc (.cells #[.int .i64 y.first,.slice ta y.txns.length tc] 81)):=hb2.alloc hb2.size _;have n2:=(blk1 (blk_below hb3 i4 (blk_lt i4))).1;have y2:=(blk1 (blk_below hb3 i5 (blk_lt i5))).1;obtain⟨fn,tmps,assign,bd,hy,hR⟩:=HY.out qs ⟨y,ta,tc,x.i+8+x.xs.length⟩ (V2.alloc (.cells #[.int .i64 y.first,.slice ta y.txns.length tc] 81)) (HJ.out _ _ _ HI3.out (.of_below hb3)) ⟨hT1.below ((Below.refl _ _).alloc (Nat.le_refl _) _),hT2,hT3,(decB_ok HD.out).1,HG.out.2.2.2.2⟩;dsimp only [BE.encs] at hy;rw[hcast] at hy))
    refine⟨fun h=>(by cases h),?_⟩
    refine RoundIn.nest (hR.mono ?_)
    rintro e6 W6 (⟨rfl,hJ6,hkw,hkn⟩|⟨rfl,hJx6,hkn⟩)
    ·have HJ6:=Lib.hid hJ6
     have i6:=hkw _ _ _ _ (blk_below hb3 i4 (blk_lt i4)) (HNW.out _ _ (by omega) (by decide))
     have i7:=hkw _ _ _ _ (blk_below hb3 i5 (blk_lt i5)) (HNW.out _ _ (Nat.le_refl _) (by decide))
     have i8:=hkw _ _ _ _ (blk_new V2 (.cells #[.int .i64 y.first,.slice ta y.txns.length tc] 81)) (HNW.out _ _ (by have:=HS3.out;have:=HSZ.out;have:=hb2.size;omega) (by decide))
     have HKN:Hid (KpN W3.heap.size V W6):=Lib.hid ((KpN.of_below hb3).trans (hkn.raise (by have:=HS3.out;omega)))
     have HKW:Hid (KpW Wr V W6):=Lib.hid ((KpW.of_below hb3).trans hkw)
     clear hJ6 hkw hkn hR hy hT1 hT2 hT3 hb3 hb2 n2 y2 i4 i5 n0 y0
     obtain⟨c0,d0⟩:=blk1 i6
     obtain⟨c1,c2,-,-⟩:=blk2 i8
     gi_wp2
     refine⟨HKN.out.trans (.of_others (KeepsOthers.setCell _ _ _)),(HKW.out.mono (fun _ _ h => .inl h)).trans (KpW.set (fun _ _ _ _ => .inr rfl) _ _),qs++[⟨y,ta,tc,x.i+8+x.xs.length⟩],y.first+(y.txns.length:Int),?_,?_,HJ.out _ _ _ HJ6.out (Keeps.set i6 (by decide) (by omega) _ _),blk_set i6 0 _,blk_set_other i7 (by omega) _ _⟩
     ·rw[List.map_append,List.map_append,scanL_append HI2.out,HI1.out]
      congr 1
      show _=scanL ((x.i,x.xs) :: []) y.first
      rw[scanL,if_neg (by rw[HD.out];simp),HD.out]
      rfl
     ·rw[List.map_append,nextL_append HI2.out]
      show nextL ((x.i,x.xs) :: []) y.first=_
      rw[nextL,if_neg (by rw[HD.out];simp),HD.out]
      rfl
    ·have HJx6:=Lib.hid hJx6
     have HKN:Hid (KpN W3.heap.size V W6):=Lib.hid ((KpN.of_below hb3).trans (hkn.raise (by have:=HS3.out;omega)))
     clear hJx6 hkn hR hy hT1 hT2 hT3 hb3 hb2 n2 y2 i4 i5 n0 y0
     gi_wp2
     refine⟨HKN.out,rfl,qs++[⟨y,ta,tc,x.i+8+x.xs.length⟩],.inr ⟨⟨_,_,rfl⟩,HJx6.out,fun r=>?_⟩⟩
     rw[List.map_append,List.map_append,List.append_assoc,scanL_append HI2.out,HI1.out]
     refine(List.prefix_append_right_inj _).2 ?_
     show _ <+: scanL ((x.i,x.xs) :: r) y.first
     rw[scanL,if_neg (by rw[HD.out];simp),HD.out]
     exact⟨_,rfl⟩
   ·have f0:(y.first != nx)=true:=by simpa using hF1
    gi_wp2_with (refine⟨trivial,hdp _,?_⟩;gi_at_call 58;refine(callsIn_wide.2 (decB_any V x.a x.c x.xs HG.out.1 (by have:=HG.out.2.2.1;omega) _ ?_));intro ta tc V2 hT1 hT2 hT3 hb2;rw[HD.out] at hT1 hT2 ⊢;dsimp only at hT1 hT2 ⊢;have n2:=(blk1 (blk_alloc (blk_below hb2 i4 (blk_lt i4)) (.cells #[.int .i64 y.first,.slice ta y.txns.length tc] 81))).1)
    refine⟨fun _ h=>(by cases h),?_⟩
    gi_wp2
    have hb3:Below V.heap.size V (V2.alloc (.cells #[.int .i64 y.first,.slice ta y.txns.length tc] 81)):=hb2.alloc hb2.size _
    refine⟨.of_below hb3,rfl,qs,.inl ⟨HJ.out _ _ _ HI3.out (.of_below hb3),fun r=>?_⟩⟩
    rw[List.map_append,List.append_assoc,scanL_append HI2.out,HI1.out]
    show _++scanL ((x.i,x.xs) :: r) nx=_
    rw[scanL,if_pos (.inr (by rw[HD.out];exact hF1)),List.append_nil]
  ·have e0:(e != 0)=true:=by simpa using hE
   gi_wp2_with (refine⟨trivial,hdp _,?_⟩;gi_at_call 58;refine(callsIn_wide.2 (decB_any V x.a x.c x.xs HG.out.1 (by have:=HG.out.2.2.1;omega) _ ?_));intro ta tc V2 hT1 hT2 hT3 hb2;rw[HD.out] at hT1 hT2 ⊢;dsimp only at hT1 hT2 ⊢)
   have hb3:Below V.heap.size V (V2.alloc (.cells #[.int .i64 y.first,.slice ta y.txns.length tc] 81)):=hb2.alloc hb2.size _
   refine⟨fun _ h=>(by cases h),?_⟩
   gi_wp2
   refine⟨.of_below hb3,rfl,qs,.inl ⟨HJ.out _ _ _ HI3.out (.of_below hb3),fun r=>?_⟩⟩
   rw[List.map_append,List.append_assoc,scanL_append HI2.out,HI1.out]
   show _++scanL ((x.i,x.xs) :: r) nx=_
   rw[scanL,if_pos (.inl (by rw[HD.out];exact hE)),List.append_nil]
 case hd =>
  rintro D xs V hD hS ⟨qs,nx,i1,i2,i3,i4,i5⟩ hDD
  gi_wp2
  rw[Exit.noGoto_normal]
  refine⟨by simp,.inl ⟨_,_,rfl,run_takeDeferred hDD,?_⟩⟩
  refine⟨_,results_none rfl _ _ _,⟨_,rfl⟩,.inl ⟨qs,?_,HJ.out _ _ _ i3 (Keeps.put _ hDD rfl (by have:=HS3.out;omega))⟩⟩
  rw[i1,hS,scanL_scan]
 case hs =>
  rintro D c pre V hD hS ⟨rfl,hI⟩ hDD
  gi_wp2
  rw[Exit.noGoto_normal]
  refine⟨by simp,.inl ⟨_,_,rfl,run_takeDeferred hDD,?_⟩⟩
  refine⟨_,results_none rfl _ _ _,⟨_,rfl⟩,?_⟩
  obtain⟨-,-,-,r,hr⟩:=hS
  rcases hI with ⟨qs,⟨j1,j2⟩|⟨j0,j1,j2⟩⟩
  ·refine .inl ⟨qs,?_,HJ.out _ _ _ j1 (Keeps.put _ hDD rfl (by have:=HS3.out;omega))⟩
   rw[<-j2 r,hr,scanL_scan]
  ·refine .inr ⟨qs,⟨j0.choose,j0.choose_spec.choose,j0.choose_spec.choose_spec,?_⟩,HJx.out _ _ _ j1 (Keeps.put _ hDD rfl (by have:=HS3.out;omega))⟩
   have:=j2 r
   rwa [hr,scanL_scan] at this
abbrev markOf(D:Nat):Deferred:={ target := .collected D,args:=#[] }
structure Marks (w:World) (N:Nat) (ds:List Nat):Prop where
 open_:∀ D∈ds,w.heap[D]? = some (Obj.deferred (some []))
 high:∀ D∈ds,N<=D
 once:ds.Nodup
theorem Marks.nil(w:World)(N:Nat):Marks w N []:=⟨by simp,by simp,List.nodup_nil⟩
theorem Marks.cons{w:World}{N D:Nat}{ds:List Nat}(h:Marks w N ds)(hD:w.heap[D]? = some (Obj.deferred (some [])))(hN:N<=D)(hn:D∉ds):Marks w N (D :: ds) :=
 ⟨fun x hx=>by rcases List.mem_cons.1 hx with rfl|hx;exact hD;exact h.open_ _ hx,fun x hx=>by rcases List.mem_cons.1 hx with rfl|hx;exact hN;exact h.high _ hx,List.nodup_cons.2 ⟨hn,h.once⟩⟩
theorem Marks.kept{w w':World}{N:Nat}{ds:List Nat}(h:Marks w N ds)(hk:∀ D:Nat,w.heap[D]? = some (Obj.deferred (some []))->w'.heap[D]? = some (Obj.deferred (some []))):Marks w' N ds :=
 ⟨fun x hx=>hk _ (h.open_ x hx),h.high,h.once⟩
theorem Marks.below{w w':World}{N n:Nat}{ds:List Nat}(h:Marks w N ds)(hb:Below n w w')(hn:w.heap.size<=n):Marks w' N ds :=
 h.kept fun D hD=>(hb.block D (by have:=blk_lt hD;omega)).trans hD
theorem Marks.others{w w':World}{N:Nat}{ds:List Nat}(h:Marks w N ds)(hk:KeepsOthers w w'):Marks w' N ds:=h.kept fun D hD=>hk.same _ _ hD rfl
theorem Marks.keeps{TW:List TypeId}{w w':World}{N M:Nat}{ds:List Nat}(h:Marks w N ds)(hk:Keeps TW M w w')(hM:∀ D∈ds,D<M):Marks w' N ds :=
 ⟨fun x hx=>hk.low _ _ (h.open_ x hx) (hM x hx),h.high,h.once⟩
theorem Marks.lt{w:World}{N:Nat}{ds:List Nat}(h:Marks w N ds):∀ D∈ds,D<w.heap.size:=fun D hD=>blk_lt (h.open_ D hD)
theorem leaves_marks{P:Program}{F:Fence}{n:Nat}{fn:Func}{tmps:Array Value}{R:Ending->World->Prop}(S:World->Prop)(N:Nat)
  (hS:∀ w D,S w->N<=D->w.heap[D]? = some (Obj.deferred (some []))->S (w.putObj D (.deferred none))) (hR:∀ w,S w->LeavesInM F n P fn tmps R [] .returning w) :
  ∀ (ds:List Nat) (w:World),Marks w N ds->S w->LeavesInM F n P fn tmps R (ds.map markOf) .returning w
 | [],w,_,h=>hR w h
 | D :: ds,w,hm,h=>by
  refine⟨by simp,.inl ⟨_,_,rfl,run_takeDeferred (hm.open_ D (.head _)),?_⟩⟩
  refine leaves_marks S N hS hR ds _ ⟨fun x hx=>?_,fun x hx=>hm.high x (.tail _ hx),(List.nodup_cons.1 hm.once).2⟩ (hS w D h (hm.high D (.head _)) (hm.open_ D (.head _)))
  have hne:D≠x:=fun e=>(List.nodup_cons.1 hm.once).1 (e ▸ hx)
  exact(World.putObj_heap_other (by first|exact hne|exact hne.symm)).trans (hm.open_ x (.tail _ hx))
end Go.Proofs.YtbppnihcbcdglaaGreat
