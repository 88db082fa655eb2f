/- audit: a segment. No condition. -/
import Derived.Shelf.RegionOpen
import Derived.Test.YtbppnihcbcdglaaGreatV36
namespace Go.Proofs.YtbppnihcbcdglaaGreat
open Go.RowKit
set_option linter.unusedVariables false
set_option linter.unusedSimpArgs false
attribute [local go_sem] Oper.semAt_some
theorem own_cell{w:World}{n0 size n g cap:Nat}{t:TypeId}{xs:List Value}(h:w.ownsRow n0 t size (.slice (some ⟨g,0,none⟩) n cap) n xs)(i:Nat)(u:Value)(hu:xs[i]? = some u):w.cell? ⟨g,i,none⟩=some u/\w.frozen? ⟨g,i,none⟩=false/\∃ cur,w.heap[g]? = some (.cells cur t (0,0)):=by
 rcases h.2 with ⟨e,_⟩|⟨g',cap',cur,e,hg,hh,hn,hm,hs,ht⟩
 ·cases e
 ·cases e
  refine⟨(blk_cell hh i).trans ?_,blk_free hh i,_,hh⟩
  rw[<-ht,List.getElem?_take] at hu
  split at hu
  ·simpa using hu
  ·cases hu
theorem datF_of{fs:Fs}{f:Int}{d:Bs}(h:getF fs (nameOf logH f)=some d):datF fs f=d:=by unfold datF;rw[h];rfl
set_option maxRecDepth 20000 in
set_option maxHeartbeats 4000000 in
theorem aseg_any(w:World){n0 L mb:Nat}{fs:Fs}{firsts:List Int}{s:AS}{fv nv sv:Value}(H:AX w n0 L mb fs firsts s fv nv sv)(hfs:FsOk fs)(i:Nat)(hi:i<firsts.length)(first:Bool)(hlen:s.needed.length<=1000000)(hsegs:s.segs.map Prod.fst=firsts)(hfi:FirstIs fs (firsts.getD i 0))(hfl:firsts.length<=1000000)
  (hla : -1000000000000000000<=s.last/\s.last<=1000000000000000000) (hba : -1000000000000000000<=s.base/\s.base<=1000000000000000000) :
  Calls Tryz.prog 139 #[.pointer (some ⟨L,0,none⟩),.int .i64 (i:Int),.bool first] w (APost n0 L mb fs firsts w (aSeg fs firsts i first s)):=by
 obtain⟨f,hf⟩:∃ f,firsts.getD i 0=f:=⟨_,rfl⟩
 rw[hf] at hfi
 obtain⟨d,hd⟩:=getF_some hfi.there
 have HX:=Lib.hid H
 have HF:=Lib.hid hfs
 have HL:=Lib.hid hlen
 have HD:=Lib.hid hd
 have HSG:=Lib.hid hsegs
 have HI:=Lib.hid hi
 have HLA:=Lib.hid hla
 have HBA:=Lib.hid hba
 have HFL:=Lib.hid hfl
 have HFF:=Lib.hid hf
 have HA:Hid (aSeg fs firsts i first s=if first||f==s.last+1 then
   ({ (s.need (nameOf logH f)) with last:=(segGo s.base (scan d f) (s.last,0,false)).1,segs:=s.segs.set i (f,((segGo s.base (scan d f) (s.last,0,false)).2.1:Int)),torn:=(d.length:Int)-(segGo s.base (scan d f) (s.last,0,false)).2.1 },!(segGo s.base (scan d f) (s.last,0,false)).2.2&&(d.length==(segGo s.base (scan d f) (s.last,0,false)).2.1||i+1==firsts.length))
   else (s.need (nameOf logH f),false)):=Lib.hid (by unfold aSeg;rw[hf];dsimp only;rw[datF_of hd];rfl)
 obtain⟨g,cap,rfl,hg,hcap,hcells⟩:=H.first (by omega)
 have gi:w.cell? ⟨g,i,none⟩=some (.int .i64 f):=by rw[<-hf];exact hcells i hi
 have c1:w.cell? ⟨L,1,none⟩=some (.slice (some ⟨g,0,none⟩) firsts.length cap):=H.c1
 have x0:=blk_new w (.cells #[.pointer (some ⟨L,0,none⟩)] 117)
 have hbx:Below w.heap.size w (w.alloc (.cells #[.pointer (some ⟨L,0,none⟩)] 117)):=(Below.refl _ w).alloc (Nat.le_refl _) _
 have HX1:=Lib.hid (H.pure hbx)
 have HB1:=Lib.hid (hbx.mono H.size)
 have gi1:=(hbx.cell (p:=⟨g,i,none⟩) hg).trans gi
 have hiI:(i:Int)<(firsts.length:Int):=by omega
 have hlX:L≠w.heap.size:=by have:=blk_lt H.hl;omega
 have hgX:g≠w.heap.size:=by omega
 clear H hfs hlen hd hsegs hla hba hfl hf hfi hcells gi c1 hbx hcap
 refine(callsIn_wide (n:=6)).1 ?_
 refine callsIn_of_wp_marks Tryz.func139 rfl trivial ?_ rfl
 refine(wpIn_wide (n:=6)).2 ?_
 simp only[Tryz.ntmps139,List.size_toArray,List.length_cons,List.length_nil,Nat.reduceAdd,Nat.reduceSub,Array.replicate_succ,Array.replicate_zero,List.push_toArray,List.append_toArray,List.nil_append,List.cons_append]
 repeat' ((fail_if_success (with_reducible (show Code.wp _ (Code.region 1 _ _) _ _ _)));(fail_if_success at_builtin);first|go_values|go_skip|go_guarded|go_step|go_upon|go_back)
 generalize w.alloc (.cells #[.pointer (some ⟨L,0,none⟩)] 117)=w1 at x0 HX1 HB1 gi1 ⊢
 have bx:=(blk1 x0).1
 have c1:w1.cell? ⟨L,1,none⟩=some (.slice (some ⟨g,0,none⟩) firsts.length cap):=HX1.out.c1
 repeat' ((fail_if_success (with_reducible (show Code.wp _ (Code.region 2 _ _) _ _ _)));(fail_if_success at_builtin);first|go_values|go_skip|go_guarded|go_step|go_upon|go_back)
 go_region_held3 (fun w'=>w'.cell? ⟨w.heap.size,0,none⟩=some (.pointer (some ⟨L,0,none⟩))) (first|exact bx|exact(blk1 x2).1|exact(blk1 x3).1) (first
  | (go_at_call 79;refine(sname_any _ f).mono ?_;rintro e1 w2 ⟨rfl,hb2x⟩;have hb2:Below w1.heap.size w1 w2:=(by first|exact hb2x|exact(Below.refl _ _).drew.trans hb2x|exact(bdrewN (Below.refl _ _) _).trans hb2x);have x2:=blk_below hb2 x0 (blk_lt x0);have HX2:=Lib.hid (HX1.out.pure hb2);have HB2:=Lib.hid (HB1.out.trans (hb2.mono HX1.out.size));clear hb2x hb2)
  | (go_at_call 136;refine(aread_any _ (by first|exact HX2.out|exact HX2.out.pure (Below.refl _ _).drew|exact HX2.out.pure (bdrewN (Below.refl _ _) _)) HF.out.nodup (nameOf logH f) d HL.out HD.out).mono ?_;rintro e1 w3 ⟨da,dc,nv3,rfl,hbs3,hx3,hb3x,hk3x⟩;have x3:w3.heap[w.heap.size]? = some (.cells #[.pointer (some ⟨L,0,none⟩)] 117 (0,0)):=hk3x _ _ _ _ x2 (by decide) (by decide) (by decide);have HX3:=Lib.hid hx3;have HB3:Hid (Below n0 w w3):=Lib.hid (HB2.out.trans ⟨hb3x.os,hb3x.tape,hb3x.output,hb3x.size,hb3x.block⟩);clear hx3 hb3x hk3x))
 clear x2 HX2 HB2 x0 HX1 HB1 bx c1 gi1
 have bx:=(blk1 x3).1
 have c20:w3.cell? ⟨L,20,none⟩=some (.int .i64 s.last):=HX3.out.c19.2.2
 have hw20:IntKind.i64.wrap (s.last+1)=s.last+1:=IntWalk.i64_in _ (by have:=HLA.out;omega)
 cases first with
 | true =>
  repeat' ((fail_if_success at_builtin);first|go_values|go_skip|go_guarded|go_step|go_upon|go_back)
  (refine(asure_ok _).mono ?_;rintro e1 w5 ⟨rfl,rfl⟩;dsimp only)
  have HA2:=Lib.hid (HA.out.trans (if_pos (by simp)))
  clear HA bx c20
  have hbE:Below w3.heap.size w3 ((w3.alloc (.cells #[.int .i64 0] 3)).alloc (.cells #[.bool false] 4)):=((Below.refl _ w3).alloc (Nat.le_refl _) _).alloc (by simp) _
  have e6:((w3.alloc (.cells #[.int .i64 0] 3)).alloc (.cells #[.bool false] 4)).heap[w3.heap.size]? = some (.cells #[.int .i64 0] 3 (0,0)):=blk_alloc (blk_new _ _) _
  have c6:((w3.alloc (.cells #[.int .i64 0] 3)).alloc (.cells #[.bool false] 4)).heap[w3.heap.size+1]? = some (.cells #[.bool false] 4 (0,0)):=blk_new1 _ _ _
  have x6:=blk_below hbE x3 (blk_lt x3)
  have HX6:=Lib.hid (HX3.out.pure hbE)
  have HB6:=Lib.hid (HB3.out.trans (hbE.mono HX3.out.size))
  have hbs6:=hbs3.below hbE
  have hs6:((w3.alloc (.cells #[.int .i64 0] 3)).alloc (.cells #[.bool false] 4)).heap.size=w3.heap.size+2:=by simp
  have HSZ:=Lib.hid (And.intro HX3.out.size (And.intro (blk_lt x3) (And.intro (blk_lt HX3.out.hl) HX3.out.fm.lt)))
  have HOF:Hid (g<w3.heap.size):=Lib.hid (by have:=HB3.out.size;omega)
  clear hbE x3 HX3 HB3 hbs3
  repeat' ((fail_if_success (with_reducible (show Code.wp _ (Code.region 5 _ _) _ _ _)));(fail_if_success at_builtin);first|go_values|go_skip|go_guarded|go_step|go_upon|go_back)
  generalize (w3.alloc (.cells #[.int .i64 0] 3)).alloc (.cells #[.bool false] 4)=w6 at e6 c6 x6 HX6 HB6 hbs6 hs6 ⊢
  repeat' ((fail_if_success at_builtin);first|go_values|go_skip|go_guarded|go_step|go_upon|go_back)
  (refine(sscan_any w6 da dc d f hbs6 (by have:=HF.out.len _ _ HD.out;omega)).mono ?_;rintro e1 w7 ⟨B1,B2,rfl,hS,hb7⟩;dsimp only)
  have HS:=Lib.hid hS
  have e7:=blk_below hb7 e6 (blk_lt e6)
  have c7:=blk_below hb7 c6 (blk_lt c6)
  have x7:=blk_below hb7 x6 (blk_lt x6)
  have HX7:=Lib.hid (HX6.out.pure hb7)
  have HB7:=Lib.hid (HB6.out.trans (hb7.mono HX6.out.size))
  have HSZ7:=Lib.hid hb7.size
  clear hS hbs6 hb7 e6 c6 x6 HX6 HB6
  repeat' ((fail_if_success at_builtin);first|go_values|go_skip|go_guarded|go_step|go_upon|go_back)
  have HSN:SN w7.heap.size n0 mb w3.heap.size (w3.heap.size+1) w.heap.size L (.slice (some ⟨g,0,none⟩) firsts.length cap):=by
   have h1:=HSZ.out;have h2:=HSZ7.out;have h3:=HOF.out
   exact⟨by omega,by omega,by omega,fun g' e=>(by have h5:g=g':=(by simpa [Value.ownBlock] using e);omega),by omega,by omega,by omega,by omega,by omega,by omega,by omega,hlX.symm,by omega,fun e=>(by have h5:g=w3.heap.size:=(by simpa [Value.ownBlock] using e);omega)⟩
  have HSN:=Lib.hid HSN
  have HL7:Hid (L<w6.heap.size):=Lib.hid (by have:=HSZ.out;omega)
  refine(wpIn_wide (n:=6)).1 ?_
  refine range_law_alloc (w0:=w7) (n:=6) rfl (enters_of Tryz.func163 (by kernel_rfl) rfl) (HS.out 5 w7 (Below.refl _ _)) (fun k t=>k=w3.heap.size\/k=w3.heap.size+1\/k=L)
   (fun k t hk => .inl (by have:=HL7.out;rcases hk with h|h|h <;> omega)) (Below.refl _ _) (fun _=>rfl)
   (fun pre V=>SI w n0 w7.heap.size L mb w3.heap.size (w3.heap.size+1) w.heap.size fs firsts (s.need (nameOf logH f)) (.slice (some ⟨g,0,none⟩) firsts.length cap) nv3 sv (segGo s.base (pre.map BE.val) (s.last,0,false)) V)
   (fun _ _ _=>False) (fun _ _ _ h hk=>h.keeps HSN.out hk) (fun _ _ _ _ h _=>h) (fun x A V h hk=>h.keeps hk) ⟨HX7.out,e7,c7,x7,HB7.out⟩
   (fun(x:BE) (p:Nat)=>({ tmps:=#[.pointer (some ⟨L,0,none⟩),.int .i64 (i:Int),.bool true,.pointer (some ⟨w.heap.size,0,none⟩),undef,undef,.int .i64 f,.slice da d.length dc,.pointer (some ⟨w3.heap.size,0,none⟩),.pointer (some ⟨w3.heap.size+1,0,none⟩),.pointer (some ⟨p,0,none⟩),.int .i64 (x.i:Int),undef,.pointer (some ⟨L,0,none⟩),.pointer (some ⟨L,0,none⟩),.pointer (some ⟨L,1,none⟩),.slice (some ⟨g,0,none⟩) firsts.length cap,.int .i64 (i:Int),.pointer (some ⟨g,i,none⟩),.int .i64 f,.pointer (some ⟨L,0,none⟩),.int .i64 f,.string ⟨(nameOf logH f).toArray⟩,.slice da d.length dc,.bool true,.bool true,undef,undef,undef,undef,undef,undef,undef,.bool true,.tuple #[],.slice da d.length dc,.int .i64 f,.func (.func 163) #[] #[.pointer (some ⟨B1,0,none⟩),.pointer (some ⟨B2,0,none⟩)],.agg #[.int .i64 x.x.first,.slice x.ta x.x.txns.length x.tc],.int .i64 (x.i:Int),undef,undef,undef,undef,undef,undef,undef,undef,undef,undef,undef,undef,undef,undef,undef,undef,undef,undef,undef,undef,undef,undef,undef,undef,undef,undef,undef,undef,undef,undef,undef,undef,undef,undef,undef,undef,undef,undef,undef,undef,undef,undef,undef,undef,undef,undef,undef,undef,undef,undef,undef,undef,undef,undef,undef,undef,undef,undef,undef,undef,undef,undef,undef,undef,undef],defers:=[] }:Act))
   (fun x p V=>V.heap[p]? = some (.cells #[.int .i64 x.x.first,.slice x.ta x.x.txns.length x.tc] 81 (0,0))) (fun x p A V h hk=>hk.same _ _ _ _ h (by decide)) ?ha ?hb ?hd (fun D c pre V _ _ h _=>h.elim)
  case ha =>
   intro l x V K hK
   simp only[BE.encs,List.zip_toArray,List.zip_cons_cons,List.zip_nil_left,List.foldl_toArray,List.foldl_cons,List.foldl_nil,List.setIfInBounds_toArray,List.set_cons_succ,List.set_cons_zero]
   gi_wp2
   exact hK _ _ ((Below.refl _ _).alloc (Nat.le_refl _) _) (blk_new _ _) (Nat.le_refl _)
  case hb =>
   rintro l pre x p V hSI hG hAl hp hsz
   have hnext:segGo s.base ((pre++[x]).map BE.val) (s.last,0,false)=segStep s.base (segGo s.base (pre.map BE.val) (s.last,0,false)) (x.x,x.i):=by simp[segGo,BE.val,List.foldl_append]
   obtain⟨⟨la,en,cr⟩,hr⟩:∃ r,segGo s.base (pre.map BE.val) (s.last,0,false)=r:=⟨_,rfl⟩
   rw[hr] at hSI hnext
   have HNX:=Lib.hid hnext
   have HSI:=Lib.hid hSI
   have HCK:=Lib.hid (chkB_ok hG.2.2.2.1)
   have w1:IntKind.i64.wrap (x.x.first+(x.x.txns.length:Int))=x.x.first+(x.x.txns.length:Int):=IntWalk.i64_in _ (by have:=HCK.out;omega)
   have w2:IntKind.i64.wrap (x.x.first+(x.x.txns.length:Int)-1)=x.x.first+(x.x.txns.length:Int)-1:=IntWalk.i64_in _ (by have:=HCK.out;omega)
   obtain⟨p0,p1,-,-⟩:=blk2 hAl
   obtain⟨e0,ef⟩:=blk1 hSI.he
   obtain⟨c0,cf⟩:=blk1 hSI.hc
   have x0:=(blk1 hSI.hx).1
   have l19:V.cell? ⟨L,19,none⟩=some (.int .i64 s.base):=hSI.ax.c19.2.1
   have l20:V.cell? ⟨L,20,none⟩=some (.int .i64 la):=hSI.ax.c19.2.2
   have f20:=hSI.ax.free 20
   clear hnext hr hSI hG
   gi_wp2
   obtain⟨nx,hnx⟩:∃ nx,x.x.first+(x.x.txns.length:Int)-1=nx:=⟨_,rfl⟩
   have HNXE:=Lib.hid hnx
   rw[hnx]
   clear w1 w2 hnx
   have fin:∀ (cc:Bool) (kd:Nat),segStep s.base (la,en,cr) (x.x,x.i)=(nx,x.i,cc)->∀ W',W'=((((V.drewN kd).setCell ⟨w3.heap.size+1,0,none⟩ (.bool cc)).setCell ⟨L,20,none⟩ (.int .i64 nx)).setCell ⟨w3.heap.size,0,none⟩ (.int .i64 (x.i:Int))) ->
     KpN w7.heap.size V W'/\KpW (fun k t=>k=w3.heap.size\/k=w3.heap.size+1\/k=L) V W'/\SI w n0 w7.heap.size L mb w3.heap.size (w3.heap.size+1) w.heap.size fs firsts (s.need (nameOf logH f)) (.slice (some ⟨g,0,none⟩) firsts.length cap) nv3 sv (segGo s.base ((pre++[x]).map BE.val) (s.last,0,false)) W':=by
    intro cc kd hst W' hW
    have hb:Below V.heap.size V (V.drewN kd):=bdrewN (Below.refl _ _) kd
    have hSd:=HSI.out.keeps HSN.out (Keeps.of_below hb)
    rw[HNX.out,hst,hW]
    exact⟨(((KpN.of_below hb).trans (.of_others (KeepsOthers.setCell _ _ _))).trans (.of_others (KeepsOthers.setCell _ _ _))).trans (.of_others (KeepsOthers.setCell _ _ _)),(((KpW.of_below hb).trans (KpW.set (fun _ _ _ _ => .inr (.inl rfl)) _ _)).trans (KpW.set (fun _ _ _ _ => .inr (.inr rfl)) _ _)).trans (KpW.set (fun _ _ _ _ => .inl rfl) _ _),hSd.put HSN.out nx x.i cc⟩
   have mid:∀ (cc:Bool) (kd:Nat),∃ W1,W1=(V.drewN kd).setCell ⟨w3.heap.size+1,0,none⟩ (.bool cc)/\W1.cell? ⟨w3.heap.size,0,none⟩=some (.int .i64 (en:Int))/\W1.frozen? ⟨w3.heap.size,0,none⟩=false/\W1.cell? ⟨w.heap.size,0,none⟩=some (.pointer (some ⟨L,0,none⟩))/\W1.cell? ⟨L,20,none⟩=some (.int .i64 la)/\W1.frozen? ⟨L,20,none⟩=false:=by
    intro cc kd
    have hb:Below V.heap.size V (V.drewN kd):=bdrewN (Below.refl _ _) kd
    have hSd:=HSI.out.keeps HSN.out (Keeps.of_below hb)
    have e1:=blk1 (blk_set_other hSd.he HSN.out.EC 0 (.bool cc))
    have l1:=blk_set_other hSd.ax.hl HSN.out.CL.symm 0 (.bool cc)
    exact⟨_,rfl,e1.1,e1.2,(blk1 (blk_set_other hSd.hx HSN.out.CX.symm 0 (.bool cc))).1,blk_cell l1 20,blk_free l1 20⟩
   have FIN:=Lib.hid fin
   have MID:=Lib.hid mid
   clear fin mid
   cases cr with
   | true =>
    (refine wpIn_region_qstore 18 _ (.const (.bool true)) (by kernel_rfl) (by kernel_rfl) rfl rfl rfl rfl (by kernel_rfl) (by kernel_rfl) (by kernel_rfl) ?_;simp only[List.set_cons_succ,List.set_cons_zero];((repeat ((with_reducible refine wpQuiet_step (fun K hK=>?_));go_simp;(first|(with_reducible refine hK _ ?_)|(rw[if_neg (by simp[undef])];(try go_simp);(with_reducible refine hK _ ?_)));clear hK K));(with_reducible refine wpQuiet_nil ?_));rintro w' ⟨kd,rfl⟩;refine⟨fun _ _=>trivial,?_⟩;go_simp)
    (obtain⟨W1,hW1,e1,f1,x1,l1,g1⟩:=MID.out true kd;rw[<-hW1];have HW1:=Lib.hid hW1;clear hW1 p0 p1 e0 ef c0 cf x0 l19 l20 f20;gi_wp2;exact FIN.out true kd (by simp[segStep,HNXE.out]) _ (by rw[HW1.out]))
   | false =>
    rcases Bool.eq_false_or_eq_true (decide (x.x.first<=s.base)) with t1|t1
    ·rcases Bool.eq_false_or_eq_true (decide (s.base<nx)) with t2|t2
     ·(refine wpIn_region_qstore 18 _ (.const (.bool true)) (by kernel_rfl) (by kernel_rfl) rfl rfl rfl rfl (by kernel_rfl) (by kernel_rfl) (by kernel_rfl) ?_;simp only[List.set_cons_succ,List.set_cons_zero];((repeat ((with_reducible refine wpQuiet_step (fun K hK=>?_));go_simp;(first|(with_reducible refine hK _ ?_)|(rw[if_neg (by simp[undef])];(try go_simp);(with_reducible refine hK _ ?_)));clear hK K));(with_reducible refine wpQuiet_nil ?_));rintro w' ⟨kd,rfl⟩;refine⟨fun _ _=>trivial,?_⟩;go_simp)
      (obtain⟨W1,hW1,e1,f1,x1,l1,g1⟩:=MID.out true kd;rw[<-hW1];have HW1:=Lib.hid hW1;clear hW1 p0 p1 e0 ef c0 cf x0 l19 l20 f20;gi_wp2;exact FIN.out true kd (by simp only[segStep,HNXE.out,t1,t2];rfl) _ (by rw[HW1.out]))
     ·(refine wpIn_region_qstore 18 _ (.const (.bool true)) (by kernel_rfl) (by kernel_rfl) rfl rfl rfl rfl (by kernel_rfl) (by kernel_rfl) (by kernel_rfl) ?_;simp only[List.set_cons_succ,List.set_cons_zero];((repeat ((with_reducible refine wpQuiet_step (fun K hK=>?_));go_simp;(first|(with_reducible refine hK _ ?_)|(rw[if_neg (by simp[undef])];(try go_simp);(with_reducible refine hK _ ?_)));clear hK K));(with_reducible refine wpQuiet_nil ?_));rintro w' ⟨kd,rfl⟩;refine⟨fun _ _=>trivial,?_⟩;go_simp)
      (obtain⟨W1,hW1,e1,f1,x1,l1,g1⟩:=MID.out false kd;rw[<-hW1];have HW1:=Lib.hid hW1;clear hW1 p0 p1 e0 ef c0 cf x0 l19 l20 f20;gi_wp2;exact FIN.out false kd (by simp only[segStep,HNXE.out,t1,t2];rfl) _ (by rw[HW1.out]))
    ·(refine wpIn_region_qstore 18 _ (.const (.bool true)) (by kernel_rfl) (by kernel_rfl) rfl rfl rfl rfl (by kernel_rfl) (by kernel_rfl) (by kernel_rfl) ?_;simp only[List.set_cons_succ,List.set_cons_zero];((repeat ((with_reducible refine wpQuiet_step (fun K hK=>?_));go_simp;(first|(with_reducible refine hK _ ?_)|(rw[if_neg (by simp[undef])];(try go_simp);(with_reducible refine hK _ ?_)));clear hK K));(with_reducible refine wpQuiet_nil ?_));rintro w' ⟨kd,rfl⟩;refine⟨fun _ _=>trivial,?_⟩;go_simp)
     (obtain⟨W1,hW1,e1,f1,x1,l1,g1⟩:=MID.out false kd;rw[<-hW1];have HW1:=Lib.hid hW1;clear hW1 p0 p1 e0 ef c0 cf x0 l19 l20 f20;gi_wp2;exact FIN.out false kd (by simp only[segStep,HNXE.out,t1];rfl) _ (by rw[HW1.out]))
  case hd =>
   rintro D xs V hD hS' hSI hDD
   rw[hS'] at hSI
   obtain⟨⟨la,en,cr⟩,hr⟩:∃ r,segGo s.base (scan d f) (s.last,0,false)=r:=⟨_,rfl⟩
   have hen:en<=d.length:=by have h1:=seg_end d f s.base s.last;rw[hr] at h1;have h2:=h1.1;dsimp only at h2;omega
   have ha3:=HA2.out
   rw[hr] at hSI ha3
   have HA3:=Lib.hid ha3
   have hsl:s.segs.length=firsts.length:=by rw[<-HSG.out];simp
   obtain⟨sg,scap,hsv,hscap,hsgn⟩:=own_shape hSI.ax.so (by show 0<s.segs.length;rw[hsl];omega)
   have hsv2:sv = .slice (some ⟨sg,0,none⟩) firsts.length scap:=by rw[hsv];show Value.slice _ s.segs.length _=_;rw[hsl]
   subst hsv2
   have HSI:=Lib.hid hSI
   have HDD:=Lib.hid hDD
   have HHD:=Lib.hid hD
   have HEN:=Lib.hid hen
   have bx:=(blk1 hSI.hx).1
   obtain⟨e0,ef⟩:=blk1 hSI.he
   obtain⟨c0,cf⟩:=blk1 hSI.hc
   have l17:V.cell? ⟨L,17,none⟩=some (.slice (some ⟨sg,0,none⟩) firsts.length scap):=hSI.ax.cells 17
   have hsegi:s.segs[i]'(by rw[hsl];exact HI.out)=(f,(s.segs[i]'(by rw[hsl];exact HI.out)).2):=by
    refine Prod.ext ?_ rfl
    have h1:=HFF.out
    rw[<-HSG.out,List.getD_eq_getElem?_getD,List.getElem?_map,List.getElem?_eq_getElem (by rw[hsl];exact HI.out)] at h1
    exact h1
   have hso:=hSI.ax.so
   rw[show (s.need (nameOf logH f)).segs.length=firsts.length from hsl] at hso
   obtain⟨sz,hsz⟩:∃ sz,s.segs[i]'(by rw[hsl];exact HI.out)=(f,sz):=⟨_,hsegi⟩
   have hflat:(s.segs.flatMap segRow)[i*2+1]? = some (.int .i64 sz):=by
    rw[flat_at segRow 2 (fun _=>rfl) s.segs i (f,sz) 1 (by rw[List.getElem?_eq_getElem (by rw[hsl];exact HI.out),hsz]) (by omega)]
    rfl
   obtain⟨s0,sf,scur,hsgb⟩:=own_cell hso (i*2+1) _ hflat
   have HSEG:Hid (∃ h:i<s.segs.length,(s.segs[i]'h).1=f):=Lib.hid ⟨by rw[hsl];exact HI.out,by rw[hsz]⟩
   have hX:=HSI.out.ax
   obtain⟨hx8,b8⟩:=hX.setS i HSEG.out.choose f (en:Int) HSEG.out.choose_spec
   have HX8:=Lib.hid hx8
   have HB8:=Lib.hid (HSI.out.hb.trans b8)
   clear hX hx8 b8 hso hflat hsegi hsz hSI hr ha3 hS' hsl hsv hen HA2
   dsimp only
   repeat' ((fail_if_success (with_reducible (show Code.wp _ (Code.region 11 _ _) _ _ _)));(fail_if_success at_builtin);first|go_values|go_skip|go_guarded|go_step|go_upon|go_back)
   go_region
   have hbd:Below (V.setCell ⟨sg,i*2+1,none⟩ (.int .i64 (en:Int))).heap.size (V.setCell ⟨sg,i*2+1,none⟩ (.int .i64 (en:Int))) (V.setCell ⟨sg,i*2+1,none⟩ (.int .i64 (en:Int))).drew:=(Below.refl _ _).drew
   have HX9:=Lib.hid (HX8.out.pure hbd)
   have HB9:=Lib.hid HB8.out.drew
   have x9:(V.setCell ⟨sg,i*2+1,none⟩ (.int .i64 (en:Int))).drew.heap[w.heap.size]? = some (.cells #[.pointer (some ⟨L,0,none⟩)] 117 (0,0)):=blk_set_other HSI.out.hx (blk_ne HSI.out.hx hsgb (by decide)) _ _
   have e9:(V.setCell ⟨sg,i*2+1,none⟩ (.int .i64 (en:Int))).drew.heap[w3.heap.size]? = some (.cells #[.int .i64 (en:Int)] 3 (0,0)):=blk_set_other HSI.out.he (blk_ne HSI.out.he hsgb (by decide)) _ _
   have c9:(V.setCell ⟨sg,i*2+1,none⟩ (.int .i64 (en:Int))).drew.heap[w3.heap.size+1]? = some (.cells #[.bool cr] 4 (0,0)):=blk_set_other HSI.out.hc (blk_ne HSI.out.hc hsgb (by decide)) _ _
   have HDD9:Hid ((V.setCell ⟨sg,i*2+1,none⟩ (.int .i64 (en:Int))).drew.heap[D]? = some (.deferred (some []))):=Lib.hid ((KeepsOthers.setCell _ _ _).same _ _ HDD.out rfl)
   clear bx e0 ef c0 cf l17 s0 sf hsgb hbd HSI HX8 HB8
   generalize (V.setCell ⟨sg,i*2+1,none⟩ (.int .i64 (en:Int))).drew=W9 at HX9 HB9 x9 e9 c9 HDD9 ⊢
   have bx:=(blk1 x9).1
   have e0:=(blk1 e9).1
   have l18:=HX9.out.c19.1
   have f18:=HX9.out.free 18
   have wt:IntKind.i64.wrap ((d.length:Int)-(en:Int))=(d.length:Int)-(en:Int):=IntWalk.i64_in _ (by have:=HEN.out;have:=HF.out.len _ _ HD.out;omega)
   obtain⟨hx10,b10⟩:=HX9.out.set { s.need (nameOf logH f) with last:=la,segs:=s.segs.set i (f,(en:Int)),torn:=(d.length:Int)-(en:Int) } 18 (.int .i64 ((d.length:Int)-(en:Int))) rfl rfl rfl
   have x10:=blk_set_other x9 (blk_ne x9 HX9.out.hl (by decide)) 18 (.int .i64 ((d.length:Int)-(en:Int)))
   have c10:=blk_set_other c9 (blk_ne c9 HX9.out.hl (by decide)) 18 (.int .i64 ((d.length:Int)-(en:Int)))
   have HDD10:=Lib.hid ((KeepsOthers.setCell W9 ⟨L,18,none⟩ (.int .i64 ((d.length:Int)-(en:Int)))).same _ _ HDD9.out rfl)
   have HX10:=Lib.hid hx10
   have HB10:=Lib.hid (HB9.out.trans b10)
   clear x9 e9 c9 hx10 b10 HX9 HB9 HDD9
   repeat' ((fail_if_success (with_reducible (show Code.wp _ (Code.region 13 _ _) _ _ _)));(fail_if_success at_builtin);first|go_values|go_skip|go_guarded|go_step|go_upon|go_back)
   clear bx e0 l18 f18 wt
   generalize W9.setCell ⟨L,18,none⟩ (.int .i64 ((d.length:Int)-(en:Int)))=W10 at HX10 HB10 x10 c10 HDD10 ⊢
   have HDD9:=HDD10
   have bx:=(blk1 x10).1
   have c0:=(blk1 c10).1
   have l18:W10.cell? ⟨L,18,none⟩=some (.int .i64 ((d.length:Int)-(en:Int))):=HX10.out.c19.1
   have l1:=HX10.out.c1
   have wf:IntKind.i64.wrap ((firsts.length:Int)-1)=(firsts.length:Int)-1:=IntWalk.i64_in _ (by have:=HFL.out;omega)
   cases cr with
   | true =>
    repeat' ((fail_if_success at_builtin);first|(rename_i hK;have hK2:some undef=some (Value.bool _):=hK;exact absurd hK2 (by simp[undef]))|go_values|go_skip|go_guarded|go_step|go_upon|go_back)
    (refine(asure_no _).mono ?_;rintro e1 w11 ⟨rfl,rfl⟩;dsimp only)
    (have hd9:(W10).heap[D]? = some (.deferred (some [])):=HDD9.out;have hk9:Keeps [3] w7.heap.size (W10) ((W10).putObj D (.deferred none)):=Keeps.put _ hd9 rfl HHD.out;refine⟨by simp,.inl ⟨_,_,rfl,run_takeDeferred hd9,?_⟩⟩;refine(show APost n0 L mb fs firsts w (aSeg fs firsts i _ s) _ _ from ?_);rw[HA3.out];refine⟨by simp[],⟨_,_,_,(HX10.out).keeps hk9 HSN.out.mbN HSN.out.fvN⟩,Below.keeps (HB10.out) hk9 HSN.out.n0N (HX10.out).size⟩)
   | false =>
    rcases Bool.eq_false_or_eq_true ((d.length:Int)-(en:Int)==0) with t1|t1
    ·have n1:(d.length==en)=true:=by simp at t1 ⊢;omega
     repeat' ((fail_if_success at_builtin);first|(rename_i hK;have hK2:some undef=some (Value.bool _):=hK;exact absurd hK2 (by simp[undef]))|go_values|go_skip|go_guarded|go_step|go_upon|go_back)
     (refine(asure_ok _).mono ?_;rintro e1 w11 ⟨rfl,rfl⟩;dsimp only)
     repeat' ((fail_if_success at_builtin);first|(rename_i hK;have hK2:some undef=some (Value.bool _):=hK;exact absurd hK2 (by simp[undef]))|go_values|go_skip|go_guarded|go_step|go_upon|go_back)
     (have hd9:(W10).heap[D]? = some (.deferred (some [])):=HDD9.out;have hk9:Keeps [3] w7.heap.size (W10) ((W10).putObj D (.deferred none)):=Keeps.put _ hd9 rfl HHD.out;refine⟨by simp,.inl ⟨_,_,rfl,run_takeDeferred hd9,?_⟩⟩;refine⟨_,results_none rfl _ _ _,?_⟩;refine(show APost n0 L mb fs firsts w (aSeg fs firsts i _ s) _ _ from ?_);rw[HA3.out];refine⟨by simp[n1],⟨_,_,_,(HX10.out).keeps hk9 HSN.out.mbN HSN.out.fvN⟩,Below.keeps (HB10.out) hk9 HSN.out.n0N (HX10.out).size⟩)
    ·have n1:(d.length==en)=false:=by simp at t1 ⊢;omega
     rcases Bool.eq_false_or_eq_true ((i:Int)==(firsts.length:Int)-1) with t2|t2
     ·have n2:(i+1==firsts.length)=true:=by simp at t2 ⊢;omega
      repeat' ((fail_if_success at_builtin);first|(rename_i hK;have hK2:some undef=some (Value.bool _):=hK;exact absurd hK2 (by simp[undef]))|go_values|go_skip|go_guarded|go_step|go_upon|go_back)
      (refine(asure_ok _).mono ?_;rintro e1 w11 ⟨rfl,rfl⟩;dsimp only)
      repeat' ((fail_if_success at_builtin);first|(rename_i hK;have hK2:some undef=some (Value.bool _):=hK;exact absurd hK2 (by simp[undef]))|go_values|go_skip|go_guarded|go_step|go_upon|go_back)
      (have hd9:(W10).heap[D]? = some (.deferred (some [])):=HDD9.out;have hk9:Keeps [3] w7.heap.size (W10) ((W10).putObj D (.deferred none)):=Keeps.put _ hd9 rfl HHD.out;refine⟨by simp,.inl ⟨_,_,rfl,run_takeDeferred hd9,?_⟩⟩;refine⟨_,results_none rfl _ _ _,?_⟩;refine(show APost n0 L mb fs firsts w (aSeg fs firsts i _ s) _ _ from ?_);rw[HA3.out];refine⟨by simp[n1,n2],⟨_,_,_,(HX10.out).keeps hk9 HSN.out.mbN HSN.out.fvN⟩,Below.keeps (HB10.out) hk9 HSN.out.n0N (HX10.out).size⟩)
     ·have n2:(i+1==firsts.length)=false:=by simp at t2 ⊢;omega
      repeat' ((fail_if_success at_builtin);first|(rename_i hK;have hK2:some undef=some (Value.bool _):=hK;exact absurd hK2 (by simp[undef]))|go_values|go_skip|go_guarded|go_step|go_upon|go_back)
      (refine(asure_no _).mono ?_;rintro e1 w11 ⟨rfl,rfl⟩;dsimp only)
      (have hd9:(W10).heap[D]? = some (.deferred (some [])):=HDD9.out;have hk9:Keeps [3] w7.heap.size (W10) ((W10).putObj D (.deferred none)):=Keeps.put _ hd9 rfl HHD.out;refine⟨by simp,.inl ⟨_,_,rfl,run_takeDeferred hd9,?_⟩⟩;refine(show APost n0 L mb fs firsts w (aSeg fs firsts i _ s) _ _ from ?_);rw[HA3.out];refine⟨by simp[n1,n2],⟨_,_,_,(HX10.out).keeps hk9 HSN.out.mbN HSN.out.fvN⟩,Below.keeps (HB10.out) hk9 HSN.out.n0N (HX10.out).size⟩)
 | false =>
  by_cases ht:f=s.last+1
  ·have t1:(f==s.last+1)=true:=by simp[ht]
   have HT:=Lib.hid ht
   clear ht
   repeat' ((fail_if_success at_builtin);first|go_values|go_skip|go_guarded|go_step|go_upon|go_back)
   (refine(asure_ok _).mono ?_;rintro e1 w5 ⟨rfl,rfl⟩;dsimp only)
   have HA2:=Lib.hid (HA.out.trans (if_pos (by simp[HT.out])))
   clear HA bx c20
   have hbE:Below w3.heap.size w3 ((w3.alloc (.cells #[.int .i64 0] 3)).alloc (.cells #[.bool false] 4)):=((Below.refl _ w3).alloc (Nat.le_refl _) _).alloc (by simp) _
   have e6:((w3.alloc (.cells #[.int .i64 0] 3)).alloc (.cells #[.bool false] 4)).heap[w3.heap.size]? = some (.cells #[.int .i64 0] 3 (0,0)):=blk_alloc (blk_new _ _) _
   have c6:((w3.alloc (.cells #[.int .i64 0] 3)).alloc (.cells #[.bool false] 4)).heap[w3.heap.size+1]? = some (.cells #[.bool false] 4 (0,0)):=blk_new1 _ _ _
   have x6:=blk_below hbE x3 (blk_lt x3)
   have HX6:=Lib.hid (HX3.out.pure hbE)
   have HB6:=Lib.hid (HB3.out.trans (hbE.mono HX3.out.size))
   have hbs6:=hbs3.below hbE
   have hs6:((w3.alloc (.cells #[.int .i64 0] 3)).alloc (.cells #[.bool false] 4)).heap.size=w3.heap.size+2:=by simp
   have HSZ:=Lib.hid (And.intro HX3.out.size (And.intro (blk_lt x3) (And.intro (blk_lt HX3.out.hl) HX3.out.fm.lt)))
   have HOF:Hid (g<w3.heap.size):=Lib.hid (by have:=HB3.out.size;omega)
   clear hbE x3 HX3 HB3 hbs3
   repeat' ((fail_if_success (with_reducible (show Code.wp _ (Code.region 5 _ _) _ _ _)));(fail_if_success at_builtin);first|go_values|go_skip|go_guarded|go_step|go_upon|go_back)
   generalize (w3.alloc (.cells #[.int .i64 0] 3)).alloc (.cells #[.bool false] 4)=w6 at e6 c6 x6 HX6 HB6 hbs6 hs6 ⊢
   repeat' ((fail_if_success at_builtin);first|go_values|go_skip|go_guarded|go_step|go_upon|go_back)
   (refine(sscan_any w6 da dc d f hbs6 (by have:=HF.out.len _ _ HD.out;omega)).mono ?_;rintro e1 w7 ⟨B1,B2,rfl,hS,hb7⟩;dsimp only)
   have HS:=Lib.hid hS
   have e7:=blk_below hb7 e6 (blk_lt e6)
   have c7:=blk_below hb7 c6 (blk_lt c6)
   have x7:=blk_below hb7 x6 (blk_lt x6)
   have HX7:=Lib.hid (HX6.out.pure hb7)
   have HB7:=Lib.hid (HB6.out.trans (hb7.mono HX6.out.size))
   have HSZ7:=Lib.hid hb7.size
   clear hS hbs6 hb7 e6 c6 x6 HX6 HB6
   repeat' ((fail_if_success at_builtin);first|go_values|go_skip|go_guarded|go_step|go_upon|go_back)
   have HSN:SN w7.heap.size n0 mb w3.heap.size (w3.heap.size+1) w.heap.size L (.slice (some ⟨g,0,none⟩) firsts.length cap):=by
    have h1:=HSZ.out;have h2:=HSZ7.out;have h3:=HOF.out
    exact⟨by omega,by omega,by omega,fun g' e=>(by have h5:g=g':=(by simpa [Value.ownBlock] using e);omega),by omega,by omega,by omega,by omega,by omega,by omega,by omega,hlX.symm,by omega,fun e=>(by have h5:g=w3.heap.size:=(by simpa [Value.ownBlock] using e);omega)⟩
   have HSN:=Lib.hid HSN
   have HL7:Hid (L<w6.heap.size):=Lib.hid (by have:=HSZ.out;omega)
   refine(wpIn_wide (n:=6)).1 ?_
   refine range_law_alloc (w0:=w7) (n:=6) rfl (enters_of Tryz.func163 (by kernel_rfl) rfl) (HS.out 5 w7 (Below.refl _ _)) (fun k t=>k=w3.heap.size\/k=w3.heap.size+1\/k=L)
    (fun k t hk => .inl (by have:=HL7.out;rcases hk with h|h|h <;> omega)) (Below.refl _ _) (fun _=>rfl)
    (fun pre V=>SI w n0 w7.heap.size L mb w3.heap.size (w3.heap.size+1) w.heap.size fs firsts (s.need (nameOf logH f)) (.slice (some ⟨g,0,none⟩) firsts.length cap) nv3 sv (segGo s.base (pre.map BE.val) (s.last,0,false)) V)
    (fun _ _ _=>False) (fun _ _ _ h hk=>h.keeps HSN.out hk) (fun _ _ _ _ h _=>h) (fun x A V h hk=>h.keeps hk) ⟨HX7.out,e7,c7,x7,HB7.out⟩
    (fun(x:BE) (p:Nat)=>({ tmps:=#[.pointer (some ⟨L,0,none⟩),.int .i64 (i:Int),.bool false,.pointer (some ⟨w.heap.size,0,none⟩),undef,undef,.int .i64 f,.slice da d.length dc,.pointer (some ⟨w3.heap.size,0,none⟩),.pointer (some ⟨w3.heap.size+1,0,none⟩),.pointer (some ⟨p,0,none⟩),.int .i64 (x.i:Int),undef,.pointer (some ⟨L,0,none⟩),.pointer (some ⟨L,0,none⟩),.pointer (some ⟨L,1,none⟩),.slice (some ⟨g,0,none⟩) firsts.length cap,.int .i64 (i:Int),.pointer (some ⟨g,i,none⟩),.int .i64 f,.pointer (some ⟨L,0,none⟩),.int .i64 f,.string ⟨(nameOf logH f).toArray⟩,.slice da d.length dc,.bool false,.bool false,.int .i64 f,.pointer (some ⟨L,0,none⟩),.pointer (some ⟨L,0,none⟩),.pointer (some ⟨L,20,none⟩),.int .i64 s.last,.int .i64 (s.last+1),.bool true,.bool true,.tuple #[],.slice da d.length dc,.int .i64 f,.func (.func 163) #[] #[.pointer (some ⟨B1,0,none⟩),.pointer (some ⟨B2,0,none⟩)],.agg #[.int .i64 x.x.first,.slice x.ta x.x.txns.length x.tc],.int .i64 (x.i:Int),undef,undef,undef,undef,undef,undef,undef,undef,undef,undef,undef,undef,undef,undef,undef,undef,undef,undef,undef,undef,undef,undef,undef,undef,undef,undef,undef,undef,undef,undef,undef,undef,undef,undef,undef,undef,undef,undef,undef,undef,undef,undef,undef,undef,undef,undef,undef,undef,undef,undef,undef,undef,undef,undef,undef,undef,undef,undef,undef,undef,undef,undef,undef,undef,undef],defers:=[] }:Act))
    (fun x p V=>V.heap[p]? = some (.cells #[.int .i64 x.x.first,.slice x.ta x.x.txns.length x.tc] 81 (0,0))) (fun x p A V h hk=>hk.same _ _ _ _ h (by decide)) ?ha ?hb ?hd (fun D c pre V _ _ h _=>h.elim)
   case ha =>
    intro l x V K hK
    simp only[BE.encs,List.zip_toArray,List.zip_cons_cons,List.zip_nil_left,List.foldl_toArray,List.foldl_cons,List.foldl_nil,List.setIfInBounds_toArray,List.set_cons_succ,List.set_cons_zero]
    gi_wp2
    exact hK _ _ ((Below.refl _ _).alloc (Nat.le_refl _) _) (blk_new _ _) (Nat.le_refl _)
   case hb =>
    rintro l pre x p V hSI hG hAl hp hsz
    have hnext:segGo s.base ((pre++[x]).map BE.val) (s.last,0,false)=segStep s.base (segGo s.base (pre.map BE.val) (s.last,0,false)) (x.x,x.i):=by simp[segGo,BE.val,List.foldl_append]
    obtain⟨⟨la,en,cr⟩,hr⟩:∃ r,segGo s.base (pre.map BE.val) (s.last,0,false)=r:=⟨_,rfl⟩
    rw[hr] at hSI hnext
    have HNX:=Lib.hid hnext
    have HSI:=Lib.hid hSI
    have HCK:=Lib.hid (chkB_ok hG.2.2.2.1)
    have w1:IntKind.i64.wrap (x.x.first+(x.x.txns.length:Int))=x.x.first+(x.x.txns.length:Int):=IntWalk.i64_in _ (by have:=HCK.out;omega)
    have w2:IntKind.i64.wrap (x.x.first+(x.x.txns.length:Int)-1)=x.x.first+(x.x.txns.length:Int)-1:=IntWalk.i64_in _ (by have:=HCK.out;omega)
    obtain⟨p0,p1,-,-⟩:=blk2 hAl
    obtain⟨e0,ef⟩:=blk1 hSI.he
    obtain⟨c0,cf⟩:=blk1 hSI.hc
    have x0:=(blk1 hSI.hx).1
    have l19:V.cell? ⟨L,19,none⟩=some (.int .i64 s.base):=hSI.ax.c19.2.1
    have l20:V.cell? ⟨L,20,none⟩=some (.int .i64 la):=hSI.ax.c19.2.2
    have f20:=hSI.ax.free 20
    clear hnext hr hSI hG
    gi_wp2
    obtain⟨nx,hnx⟩:∃ nx,x.x.first+(x.x.txns.length:Int)-1=nx:=⟨_,rfl⟩
    have HNXE:=Lib.hid hnx
    rw[hnx]
    clear w1 w2 hnx
    have fin:∀ (cc:Bool) (kd:Nat),segStep s.base (la,en,cr) (x.x,x.i)=(nx,x.i,cc)->∀ W',W'=((((V.drewN kd).setCell ⟨w3.heap.size+1,0,none⟩ (.bool cc)).setCell ⟨L,20,none⟩ (.int .i64 nx)).setCell ⟨w3.heap.size,0,none⟩ (.int .i64 (x.i:Int))) ->
      KpN w7.heap.size V W'/\KpW (fun k t=>k=w3.heap.size\/k=w3.heap.size+1\/k=L) V W'/\SI w n0 w7.heap.size L mb w3.heap.size (w3.heap.size+1) w.heap.size fs firsts (s.need (nameOf logH f)) (.slice (some ⟨g,0,none⟩) firsts.length cap) nv3 sv (segGo s.base ((pre++[x]).map BE.val) (s.last,0,false)) W':=by
     intro cc kd hst W' hW
     have hb:Below V.heap.size V (V.drewN kd):=bdrewN (Below.refl _ _) kd
     have hSd:=HSI.out.keeps HSN.out (Keeps.of_below hb)
     rw[HNX.out,hst,hW]
     exact⟨(((KpN.of_below hb).trans (.of_others (KeepsOthers.setCell _ _ _))).trans (.of_others (KeepsOthers.setCell _ _ _))).trans (.of_others (KeepsOthers.setCell _ _ _)),(((KpW.of_below hb).trans (KpW.set (fun _ _ _ _ => .inr (.inl rfl)) _ _)).trans (KpW.set (fun _ _ _ _ => .inr (.inr rfl)) _ _)).trans (KpW.set (fun _ _ _ _ => .inl rfl) _ _),hSd.put HSN.out nx x.i cc⟩
    have mid:∀ (cc:Bool) (kd:Nat),∃ W1,W1=(V.drewN kd).setCell ⟨w3.heap.size+1,0,none⟩ (.bool cc)/\W1.cell? ⟨w3.heap.size,0,none⟩=some (.int .i64 (en:Int))/\W1.frozen? ⟨w3.heap.size,0,none⟩=false/\W1.cell? ⟨w.heap.size,0,none⟩=some (.pointer (some ⟨L,0,none⟩))/\W1.cell? ⟨L,20,none⟩=some (.int .i64 la)/\W1.frozen? ⟨L,20,none⟩=false:=by
     intro cc kd
     have hb:Below V.heap.size V (V.drewN kd):=bdrewN (Below.refl _ _) kd
     have hSd:=HSI.out.keeps HSN.out (Keeps.of_below hb)
     have e1:=blk1 (blk_set_other hSd.he HSN.out.EC 0 (.bool cc))
     have l1:=blk_set_other hSd.ax.hl HSN.out.CL.symm 0 (.bool cc)
     exact⟨_,rfl,e1.1,e1.2,(blk1 (blk_set_other hSd.hx HSN.out.CX.symm 0 (.bool cc))).1,blk_cell l1 20,blk_free l1 20⟩
    have FIN:=Lib.hid fin
    have MID:=Lib.hid mid
    clear fin mid
    cases cr with
    | true =>
     (refine wpIn_region_qstore 18 _ (.const (.bool true)) (by kernel_rfl) (by kernel_rfl) rfl rfl rfl rfl (by kernel_rfl) (by kernel_rfl) (by kernel_rfl) ?_;simp only[List.set_cons_succ,List.set_cons_zero];((repeat ((with_reducible refine wpQuiet_step (fun K hK=>?_));go_simp;(first|(with_reducible refine hK _ ?_)|(rw[if_neg (by simp[undef])];(try go_simp);(with_reducible refine hK _ ?_)));clear hK K));(with_reducible refine wpQuiet_nil ?_));rintro w' ⟨kd,rfl⟩;refine⟨fun _ _=>trivial,?_⟩;go_simp)
     (obtain⟨W1,hW1,e1,f1,x1,l1,g1⟩:=MID.out true kd;rw[<-hW1];have HW1:=Lib.hid hW1;clear hW1 p0 p1 e0 ef c0 cf x0 l19 l20 f20;gi_wp2;exact FIN.out true kd (by simp[segStep,HNXE.out]) _ (by rw[HW1.out]))
    | false =>
     rcases Bool.eq_false_or_eq_true (decide (x.x.first<=s.base)) with t1|t1
     ·rcases Bool.eq_false_or_eq_true (decide (s.base<nx)) with t2|t2
      ·(refine wpIn_region_qstore 18 _ (.const (.bool true)) (by kernel_rfl) (by kernel_rfl) rfl rfl rfl rfl (by kernel_rfl) (by kernel_rfl) (by kernel_rfl) ?_;simp only[List.set_cons_succ,List.set_cons_zero];((repeat ((with_reducible refine wpQuiet_step (fun K hK=>?_));go_simp;(first|(with_reducible refine hK _ ?_)|(rw[if_neg (by simp[undef])];(try go_simp);(with_reducible refine hK _ ?_)));clear hK K));(with_reducible refine wpQuiet_nil ?_));rintro w' ⟨kd,rfl⟩;refine⟨fun _ _=>trivial,?_⟩;go_simp)
       (obtain⟨W1,hW1,e1,f1,x1,l1,g1⟩:=MID.out true kd;rw[<-hW1];have HW1:=Lib.hid hW1;clear hW1 p0 p1 e0 ef c0 cf x0 l19 l20 f20;gi_wp2;exact FIN.out true kd (by simp only[segStep,HNXE.out,t1,t2];rfl) _ (by rw[HW1.out]))
      ·(refine wpIn_region_qstore 18 _ (.const (.bool true)) (by kernel_rfl) (by kernel_rfl) rfl rfl rfl rfl (by kernel_rfl) (by kernel_rfl) (by kernel_rfl) ?_;simp only[List.set_cons_succ,List.set_cons_zero];((repeat ((with_reducible refine wpQuiet_step (fun K hK=>?_));go_simp;(first|(with_reducible refine hK _ ?_)|(rw[if_neg (by simp[undef])];(try go_simp);(with_reducible refine hK _ ?_)));clear hK K));(with_reducible refine wpQuiet_nil ?_));rintro w' ⟨kd,rfl⟩;refine⟨fun _ _=>trivial,?_⟩;go_simp)
       (obtain⟨W1,hW1,e1,f1,x1,l1,g1⟩:=MID.out false kd;rw[<-hW1];have HW1:=Lib.hid hW1;clear hW1 p0 p1 e0 ef c0 cf x0 l19 l20 f20;gi_wp2;exact FIN.out false kd (by simp only[segStep,HNXE.out,t1,t2];rfl) _ (by rw[HW1.out]))
     ·(refine wpIn_region_qstore 18 _ (.const (.bool true)) (by kernel_rfl) (by kernel_rfl) rfl rfl rfl rfl (by kernel_rfl) (by kernel_rfl) (by kernel_rfl) ?_;simp only[List.set_cons_succ,List.set_cons_zero];((repeat ((with_reducible refine wpQuiet_step (fun K hK=>?_));go_simp;(first|(with_reducible refine hK _ ?_)|(rw[if_neg (by simp[undef])];(try go_simp);(with_reducible refine hK _ ?_)));clear hK K));(with_reducible refine wpQuiet_nil ?_));rintro w' ⟨kd,rfl⟩;refine⟨fun _ _=>trivial,?_⟩;go_simp)
      (obtain⟨W1,hW1,e1,f1,x1,l1,g1⟩:=MID.out false kd;rw[<-hW1];have HW1:=Lib.hid hW1;clear hW1 p0 p1 e0 ef c0 cf x0 l19 l20 f20;gi_wp2;exact FIN.out false kd (by simp only[segStep,HNXE.out,t1];rfl) _ (by rw[HW1.out]))
   case hd =>
    rintro D xs V hD hS' hSI hDD
    rw[hS'] at hSI
    obtain⟨⟨la,en,cr⟩,hr⟩:∃ r,segGo s.base (scan d f) (s.last,0,false)=r:=⟨_,rfl⟩
    have hen:en<=d.length:=by have h1:=seg_end d f s.base s.last;rw[hr] at h1;have h2:=h1.1;dsimp only at h2;omega
    have ha3:=HA2.out
    rw[hr] at hSI ha3
    have HA3:=Lib.hid ha3
    have hsl:s.segs.length=firsts.length:=by rw[<-HSG.out];simp
    obtain⟨sg,scap,hsv,hscap,hsgn⟩:=own_shape hSI.ax.so (by show 0<s.segs.length;rw[hsl];omega)
    have hsv2:sv = .slice (some ⟨sg,0,none⟩) firsts.length scap:=by rw[hsv];show Value.slice _ s.segs.length _=_;rw[hsl]
    subst hsv2
    have HSI:=Lib.hid hSI
    have HDD:=Lib.hid hDD
    have HHD:=Lib.hid hD
    have HEN:=Lib.hid hen
    have bx:=(blk1 hSI.hx).1
    obtain⟨e0,ef⟩:=blk1 hSI.he
    obtain⟨c0,cf⟩:=blk1 hSI.hc
    have l17:V.cell? ⟨L,17,none⟩=some (.slice (some ⟨sg,0,none⟩) firsts.length scap):=hSI.ax.cells 17
    have hsegi:s.segs[i]'(by rw[hsl];exact HI.out)=(f,(s.segs[i]'(by rw[hsl];exact HI.out)).2):=by
     refine Prod.ext ?_ rfl
     have h1:=HFF.out
     rw[<-HSG.out,List.getD_eq_getElem?_getD,List.getElem?_map,List.getElem?_eq_getElem (by rw[hsl];exact HI.out)] at h1
     exact h1
    have hso:=hSI.ax.so
    rw[show (s.need (nameOf logH f)).segs.length=firsts.length from hsl] at hso
    obtain⟨sz,hsz⟩:∃ sz,s.segs[i]'(by rw[hsl];exact HI.out)=(f,sz):=⟨_,hsegi⟩
    have hflat:(s.segs.flatMap segRow)[i*2+1]? = some (.int .i64 sz):=by
     rw[flat_at segRow 2 (fun _=>rfl) s.segs i (f,sz) 1 (by rw[List.getElem?_eq_getElem (by rw[hsl];exact HI.out),hsz]) (by omega)]
     rfl
    obtain⟨s0,sf,scur,hsgb⟩:=own_cell hso (i*2+1) _ hflat
    have HSEG:Hid (∃ h:i<s.segs.length,(s.segs[i]'h).1=f):=Lib.hid ⟨by rw[hsl];exact HI.out,by rw[hsz]⟩
    have hX:=HSI.out.ax
    obtain⟨hx8,b8⟩:=hX.setS i HSEG.out.choose f (en:Int) HSEG.out.choose_spec
    have HX8:=Lib.hid hx8
    have HB8:=Lib.hid (HSI.out.hb.trans b8)
    clear hX hx8 b8 hso hflat hsegi hsz hSI hr ha3 hS' hsl hsv hen HA2
    dsimp only
    repeat' ((fail_if_success (with_reducible (show Code.wp _ (Code.region 11 _ _) _ _ _)));(fail_if_success at_builtin);first|go_values|go_skip|go_guarded|go_step|go_upon|go_back)
    go_region
    have hbd:Below (V.setCell ⟨sg,i*2+1,none⟩ (.int .i64 (en:Int))).heap.size (V.setCell ⟨sg,i*2+1,none⟩ (.int .i64 (en:Int))) (V.setCell ⟨sg,i*2+1,none⟩ (.int .i64 (en:Int))).drew:=(Below.refl _ _).drew
    have HX9:=Lib.hid (HX8.out.pure hbd)
    have HB9:=Lib.hid HB8.out.drew
    have x9:(V.setCell ⟨sg,i*2+1,none⟩ (.int .i64 (en:Int))).drew.heap[w.heap.size]? = some (.cells #[.pointer (some ⟨L,0,none⟩)] 117 (0,0)):=blk_set_other HSI.out.hx (blk_ne HSI.out.hx hsgb (by decide)) _ _
    have e9:(V.setCell ⟨sg,i*2+1,none⟩ (.int .i64 (en:Int))).drew.heap[w3.heap.size]? = some (.cells #[.int .i64 (en:Int)] 3 (0,0)):=blk_set_other HSI.out.he (blk_ne HSI.out.he hsgb (by decide)) _ _
    have c9:(V.setCell ⟨sg,i*2+1,none⟩ (.int .i64 (en:Int))).drew.heap[w3.heap.size+1]? = some (.cells #[.bool cr] 4 (0,0)):=blk_set_other HSI.out.hc (blk_ne HSI.out.hc hsgb (by decide)) _ _
    have HDD9:Hid ((V.setCell ⟨sg,i*2+1,none⟩ (.int .i64 (en:Int))).drew.heap[D]? = some (.deferred (some []))):=Lib.hid ((KeepsOthers.setCell _ _ _).same _ _ HDD.out rfl)
    clear bx e0 ef c0 cf l17 s0 sf hsgb hbd HSI HX8 HB8
    generalize (V.setCell ⟨sg,i*2+1,none⟩ (.int .i64 (en:Int))).drew=W9 at HX9 HB9 x9 e9 c9 HDD9 ⊢
    have bx:=(blk1 x9).1
    have e0:=(blk1 e9).1
    have l18:=HX9.out.c19.1
    have f18:=HX9.out.free 18
    have wt:IntKind.i64.wrap ((d.length:Int)-(en:Int))=(d.length:Int)-(en:Int):=IntWalk.i64_in _ (by have:=HEN.out;have:=HF.out.len _ _ HD.out;omega)
    obtain⟨hx10,b10⟩:=HX9.out.set { s.need (nameOf logH f) with last:=la,segs:=s.segs.set i (f,(en:Int)),torn:=(d.length:Int)-(en:Int) } 18 (.int .i64 ((d.length:Int)-(en:Int))) rfl rfl rfl
    have x10:=blk_set_other x9 (blk_ne x9 HX9.out.hl (by decide)) 18 (.int .i64 ((d.length:Int)-(en:Int)))
    have c10:=blk_set_other c9 (blk_ne c9 HX9.out.hl (by decide)) 18 (.int .i64 ((d.length:Int)-(en:Int)))
    have HDD10:=Lib.hid ((KeepsOthers.setCell W9 ⟨L,18,none⟩ (.int .i64 ((d.length:Int)-(en:Int)))).same _ _ HDD9.out rfl)
    have HX10:=Lib.hid hx10
    have HB10:=Lib.hid (HB9.out.trans b10)
    clear x9 e9 c9 hx10 b10 HX9 HB9 HDD9
    repeat' ((fail_if_success (with_reducible (show Code.wp _ (Code.region 13 _ _) _ _ _)));(fail_if_success at_builtin);first|go_values|go_skip|go_guarded|go_step|go_upon|go_back)
    clear bx e0 l18 f18 wt
    generalize W9.setCell ⟨L,18,none⟩ (.int .i64 ((d.length:Int)-(en:Int)))=W10 at HX10 HB10 x10 c10 HDD10 ⊢
    have HDD9:=HDD10
    have bx:=(blk1 x10).1
    have c0:=(blk1 c10).1
    have l18:W10.cell? ⟨L,18,none⟩=some (.int .i64 ((d.length:Int)-(en:Int))):=HX10.out.c19.1
    have l1:=HX10.out.c1
    have wf:IntKind.i64.wrap ((firsts.length:Int)-1)=(firsts.length:Int)-1:=IntWalk.i64_in _ (by have:=HFL.out;omega)
    cases cr with
    | true =>
     repeat' ((fail_if_success at_builtin);first|(rename_i hK;have hK2:some undef=some (Value.bool _):=hK;exact absurd hK2 (by simp[undef]))|go_values|go_skip|go_guarded|go_step|go_upon|go_back)
     (refine(asure_no _).mono ?_;rintro e1 w11 ⟨rfl,rfl⟩;dsimp only)
     (have hd9:(W10).heap[D]? = some (.deferred (some [])):=HDD9.out;have hk9:Keeps [3] w7.heap.size (W10) ((W10).putObj D (.deferred none)):=Keeps.put _ hd9 rfl HHD.out;refine⟨by simp,.inl ⟨_,_,rfl,run_takeDeferred hd9,?_⟩⟩;refine(show APost n0 L mb fs firsts w (aSeg fs firsts i _ s) _ _ from ?_);rw[HA3.out];refine⟨by simp[],⟨_,_,_,(HX10.out).keeps hk9 HSN.out.mbN HSN.out.fvN⟩,Below.keeps (HB10.out) hk9 HSN.out.n0N (HX10.out).size⟩)
    | false =>
     rcases Bool.eq_false_or_eq_true ((d.length:Int)-(en:Int)==0) with t1|t1
     ·have n1:(d.length==en)=true:=by simp at t1 ⊢;omega
      repeat' ((fail_if_success at_builtin);first|(rename_i hK;have hK2:some undef=some (Value.bool _):=hK;exact absurd hK2 (by simp[undef]))|go_values|go_skip|go_guarded|go_step|go_upon|go_back)
      (refine(asure_ok _).mono ?_;rintro e1 w11 ⟨rfl,rfl⟩;dsimp only)
      repeat' ((fail_if_success at_builtin);first|(rename_i hK;have hK2:some undef=some (Value.bool _):=hK;exact absurd hK2 (by simp[undef]))|go_values|go_skip|go_guarded|go_step|go_upon|go_back)
      (have hd9:(W10).heap[D]? = some (.deferred (some [])):=HDD9.out;have hk9:Keeps [3] w7.heap.size (W10) ((W10).putObj D (.deferred none)):=Keeps.put _ hd9 rfl HHD.out;refine⟨by simp,.inl ⟨_,_,rfl,run_takeDeferred hd9,?_⟩⟩;refine⟨_,results_none rfl _ _ _,?_⟩;refine(show APost n0 L mb fs firsts w (aSeg fs firsts i _ s) _ _ from ?_);rw[HA3.out];refine⟨by simp[n1],⟨_,_,_,(HX10.out).keeps hk9 HSN.out.mbN HSN.out.fvN⟩,Below.keeps (HB10.out) hk9 HSN.out.n0N (HX10.out).size⟩)
     ·have n1:(d.length==en)=false:=by simp at t1 ⊢;omega
      rcases Bool.eq_false_or_eq_true ((i:Int)==(firsts.length:Int)-1) with t2|t2
      ·have n2:(i+1==firsts.length)=true:=by simp at t2 ⊢;omega
       repeat' ((fail_if_success at_builtin);first|(rename_i hK;have hK2:some undef=some (Value.bool _):=hK;exact absurd hK2 (by simp[undef]))|go_values|go_skip|go_guarded|go_step|go_upon|go_back)
       (refine(asure_ok _).mono ?_;rintro e1 w11 ⟨rfl,rfl⟩;dsimp only)
       repeat' ((fail_if_success at_builtin);first|(rename_i hK;have hK2:some undef=some (Value.bool _):=hK;exact absurd hK2 (by simp[undef]))|go_values|go_skip|go_guarded|go_step|go_upon|go_back)
       (have hd9:(W10).heap[D]? = some (.deferred (some [])):=HDD9.out;have hk9:Keeps [3] w7.heap.size (W10) ((W10).putObj D (.deferred none)):=Keeps.put _ hd9 rfl HHD.out;refine⟨by simp,.inl ⟨_,_,rfl,run_takeDeferred hd9,?_⟩⟩;refine⟨_,results_none rfl _ _ _,?_⟩;refine(show APost n0 L mb fs firsts w (aSeg fs firsts i _ s) _ _ from ?_);rw[HA3.out];refine⟨by simp[n1,n2],⟨_,_,_,(HX10.out).keeps hk9 HSN.out.mbN HSN.out.fvN⟩,Below.keeps (HB10.out) hk9 HSN.out.n0N (HX10.out).size⟩)
      ·have n2:(i+1==firsts.length)=false:=by simp at t2 ⊢;omega
       repeat' ((fail_if_success at_builtin);first|(rename_i hK;have hK2:some undef=some (Value.bool _):=hK;exact absurd hK2 (by simp[undef]))|go_values|go_skip|go_guarded|go_step|go_upon|go_back)
       (refine(asure_no _).mono ?_;rintro e1 w11 ⟨rfl,rfl⟩;dsimp only)
       (have hd9:(W10).heap[D]? = some (.deferred (some [])):=HDD9.out;have hk9:Keeps [3] w7.heap.size (W10) ((W10).putObj D (.deferred none)):=Keeps.put _ hd9 rfl HHD.out;refine⟨by simp,.inl ⟨_,_,rfl,run_takeDeferred hd9,?_⟩⟩;refine(show APost n0 L mb fs firsts w (aSeg fs firsts i _ s) _ _ from ?_);rw[HA3.out];refine⟨by simp[n1,n2],⟨_,_,_,(HX10.out).keeps hk9 HSN.out.mbN HSN.out.fvN⟩,Below.keeps (HB10.out) hk9 HSN.out.n0N (HX10.out).size⟩)
  ·have t1:(f==s.last+1)=false:=by simpa using ht
   have HA2:Hid (aSeg fs firsts i false s=(s.need (nameOf logH f),false)):=Lib.hid (by rw[HA.out,if_neg (by simp[ht])])
   clear ht HA
   repeat' ((fail_if_success at_builtin);first|go_values|go_skip|go_guarded|go_step|go_upon|go_back)
   (refine(asure_no _).mono ?_;rintro e1 w5 ⟨rfl,rfl⟩;dsimp only)
   exact(by rw[HA2.out];exact⟨rfl,⟨_,_,_,HX3.out⟩,HB3.out⟩)
end Go.Proofs.YtbppnihcbcdglaaGreat
