/- audit.Look. No condition. -/
import Derived.Deep.RegionLaw
import Derived.Test.YtbppnihcbcdglaaGreatV8
import Derived.Test.YtbppnihcbcdglaaGreatV39
import Derived.Test.YtbppnihcbcdglaaGreatV40
namespace Go.Proofs.YtbppnihcbcdglaaGreat
set_option maxHeartbeats 0
open Go.RowKit
set_option linter.unusedVariables false
set_option linter.unusedSimpArgs false
def FBm.row(m:FBm):List Value:=[encS m.f.1,.slice m.a m.f.2.length m.c]
def RowC(w:World)(a:Option Addr)(cs:List Value):Prop:=cs=[]\/∃ g o,a=some ⟨g,o,none⟩/\∀ i u,cs[i]? = some u->w.cell? ⟨g,o+i,none⟩=some u
theorem RowT.c{w:World}{t:TypeId}{a:Option Addr}{cs:List Value}(h:RowT w t a cs):RowC w a cs:=by
 rcases h with rfl|⟨g,o,cur,f,rfl,hg,hh⟩
 ·exact .inl rfl
 ·exact .inr ⟨g,o,rfl,fun i u hu=>(blk_cell hg _).trans (hh i u hu)⟩
theorem RowC.below{w w':World}{a:Option Addr}{cs:List Value}(h:RowC w a cs)(hb:Below w.heap.size w w'):RowC w' a cs:=by
 rcases h with rfl|⟨g,o,rfl,hh⟩
 ·exact .inl rfl
 ·exact .inr ⟨g,o,rfl,fun i u hu=>(hb.cell (p:=⟨g,o+i,none⟩) (World.block_lt_of_cell? w _ (hh i u hu))).trans (hh i u hu)⟩
structure Files (w:World) (fa:Option Addr) (fc:Nat) (ms:List FBm):Prop where
 row:RowC w fa (ms.flatMap FBm.row)
 le:ms.length<=fc
 nil:fa=none->fc=0
 bs:∀ m∈ms,BS w m.a m.c m.f.2
theorem Files.below{w w':World}{fa:Option Addr}{fc:Nat}{ms:List FBm}(h:Files w fa fc ms)(hb:Below w.heap.size w w'):Files w' fa fc ms:=⟨h.row.below hb,h.le,h.nil,fun m hm=>(h.bs m hm).below hb⟩
theorem Files.at{w:World}{fa:Option Addr}{fc:Nat}{ms:List FBm}(h:Files w fa fc ms){j:Nat}{m:FBm}(hm:ms[j]? = some m):∃ g o,fa=some ⟨g,o,none⟩/\w.cell? ⟨g,o+j*2,none⟩=some (.string ⟨m.f.1.toArray⟩)/\w.cell? ⟨g,o+j*2+1,none⟩=some (.slice m.a m.f.2.length m.c):=by
 have h0:=flat_at FBm.row 2 (fun _=>rfl) ms j m 0 hm (by omega)
 have h1:=flat_at FBm.row 2 (fun _=>rfl) ms j m 1 hm (by omega)
 rcases h.row with he|⟨g,o,rfl,hh⟩
 ·rw[he] at h0;cases h0
 ·exact⟨g,o,rfl,hh _ _ h0,hh _ _ h1⟩
theorem raw_snoc(l:Fs)(x:Bs×Bs):rawFirsts (l++[x])=rawFirsts l++(firstOf x.1).toList:=by
 unfold rawFirsts
 rw[List.filterMap_append]
 cases h:firstOf x.1 <;> simp[h]
theorem look_start(w:World):AX ((((w.alloc (.cells ZR 50)).alloc (.map #[] 0)).alloc (.cells #[.map (some (w.heap.size+1)),.slice none 0 0,.int .i64 0,.int .i64 0,.int .i64 0,.int .i64 0,.int .i64 0,.bool false,.int .i64 0,.int .i64 0,.int .i64 0,.int .i64 0,.int .i64 0,.slice none 0 0,.slice none 0 0,.slice none 0 0,.slice none 0 0,.slice none 0 0,.int .i64 0,.int .i64 0,.int .i64 0] 120)).alloc (.cells #[.pointer (some ⟨w.heap.size+1+1,0,none⟩)] 117)) (w.heap.size+1) (w.heap.size+1+1) (w.heap.size+1) [] [] AS.nil (.slice none 0 0) (.slice none 0 0) (.slice none 0 0)/\((((w.alloc (.cells ZR 50)).alloc (.map #[] 0)).alloc (.cells #[.map (some (w.heap.size+1)),.slice none 0 0,.int .i64 0,.int .i64 0,.int .i64 0,.int .i64 0,.int .i64 0,.bool false,.int .i64 0,.int .i64 0,.int .i64 0,.int .i64 0,.int .i64 0,.slice none 0 0,.slice none 0 0,.slice none 0 0,.slice none 0 0,.slice none 0 0,.int .i64 0,.int .i64 0,.int .i64 0] 120)).alloc (.cells #[.pointer (some ⟨w.heap.size+1+1,0,none⟩)] 117)).heap[w.heap.size]? = some (.cells ZR 50 (0,0))/\Below w.heap.size w ((((w.alloc (.cells ZR 50)).alloc (.map #[] 0)).alloc (.cells #[.map (some (w.heap.size+1)),.slice none 0 0,.int .i64 0,.int .i64 0,.int .i64 0,.int .i64 0,.int .i64 0,.bool false,.int .i64 0,.int .i64 0,.int .i64 0,.int .i64 0,.int .i64 0,.slice none 0 0,.slice none 0 0,.slice none 0 0,.slice none 0 0,.slice none 0 0,.int .i64 0,.int .i64 0,.int .i64 0] 120)).alloc (.cells #[.pointer (some ⟨w.heap.size+1+1,0,none⟩)] 117)):=by
 have b1:=blk_new w (.cells ZR 50)
 have b2:=blk_new1 w (.cells ZR 50) (.map #[] 0)
 have b3:=blk_new2 w (.cells ZR 50) (.map #[] 0) (.cells #[.map (some (w.heap.size+1)),.slice none 0 0,.int .i64 0,.int .i64 0,.int .i64 0,.int .i64 0,.int .i64 0,.bool false,.int .i64 0,.int .i64 0,.int .i64 0,.int .i64 0,.int .i64 0,.slice none 0 0,.slice none 0 0,.slice none 0 0,.slice none 0 0,.slice none 0 0,.int .i64 0,.int .i64 0,.int .i64 0] 120)
 have b4:=blk_new3 w (.cells ZR 50) (.map #[] 0) (.cells #[.map (some (w.heap.size+1)),.slice none 0 0,.int .i64 0,.int .i64 0,.int .i64 0,.int .i64 0,.int .i64 0,.bool false,.int .i64 0,.int .i64 0,.int .i64 0,.int .i64 0,.int .i64 0,.slice none 0 0,.slice none 0 0,.slice none 0 0,.slice none 0 0,.slice none 0 0,.int .i64 0,.int .i64 0,.int .i64 0] 120) (.cells #[.pointer (some ⟨w.heap.size+1+1,0,none⟩)] 117)
 refine⟨⟨blk_alloc b3 _,⟨[],rfl,⟨#[],0,blk_alloc (blk_alloc b2 _) _,MapKept.stamped_empty 0,by simp,rfl⟩,fun m h=>by cases h⟩,World.ownsRow_nil _ _ _ _,World.ownsRow_nil _ _ _ _,World.ownsRow_nil _ _ _ _,Nat.le_succ _,Nat.le_refl _,b4⟩,blk_alloc (blk_alloc (blk_alloc b1 _) _) _,?_⟩
 exact((((Below.refl _ w).alloc (Nat.le_refl _) _).alloc (by simp) _).alloc (by simp;omega) _).alloc (by simp;omega) _
set_option maxRecDepth 20000 in
theorem res_look(w':World)(R:Nat)(r:Rp){sv nv lv ov:Value}{n0:Nat}(hr:RepV w' n0 r sv nv lv ov)(h:w'.heap[R]? = some (.cells (RPc r sv nv lv ov) 50 (0,0)))(T:Array Value)(hT:T[2]? = some (.pointer (some ⟨R,0,none⟩))) :
  (results Tryz.f24 T).run Tryz.prog w' = .ok (.agg (RPc r sv nv lv ov)) w':=by
 obtain⟨sa,sc,rfl,-,-,-,-⟩:=own_rowT hr.so
 obtain⟨na,nc,rfl,-,-,-,-⟩:=own_rowT hr.no
 obtain⟨la,lc,rfl,-,-,-,-⟩:=own_rowT hr.lo
 obtain⟨oa,oc,rfl,-,-,-,-⟩:=own_rowT hr.oo
 unfold RPc at h ⊢
 have r0:=blk_cell h 0
 have r1:=blk_cell h 1
 have r2:=blk_cell h 2
 have r3:=blk_cell h 3
 have r4:=blk_cell h 4
 have r5:=blk_cell h 5
 have r6:=blk_cell h 6
 have r7:=blk_cell h 7
 have r8:=blk_cell h 8
 have r9:=blk_cell h 9
 have r10:=blk_cell h 10
 have r11:=blk_cell h 11
 have r12:=blk_cell h 12
 have r13:=blk_cell h 13
 have r14:=blk_cell h 14
 simp only[List.getElem?_toArray,List.getElem?_cons_zero,List.getElem?_cons_succ] at r0 r1 r2 r3 r4 r5 r6 r7 r8 r9 r10 r11 r12 r13 r14
 simp[results,Tryz.results24,go_sem,hT,r0,r1,r2,r3,r4,r5,r6,r7,r8,r9,r10,r11,r12,r13,r14]
set_option maxRecDepth 20000 in
theorem alook_cps(w:World)(fa:Option Addr)(fc:Nat)(ms:List FBm)(hF:Files w fa fc ms)(hlen:ms.length<=100000)(hnm:∀ m∈ms,m.f.1.length<=1000000)(hdl:∀ m∈ms,m.f.2.length<=4294967296)(Q:Ending->World->Prop)
  (hQ:∀ sv nv lv ov w',RepV w' (w.heap.size+1) (lookF (ms.map FBm.f)) sv nv lv ov->Below w.heap.size w w'->Q (.returned (.agg (RPc (lookF (ms.map FBm.f)) sv nv lv ov))) w') :
  Calls Tryz.prog 24 #[.slice fa ms.length fc] w Q:=by
 have hmf:∀ (fn:Fn) (first cap:Array Value) (w:World),(Instr.makeFunc fn first cap).run Tryz.prog w = .ok (.func fn first cap) w:=fun _ _ _ _=>rfl
 have hmk:∀ W:World,(Instr.makeMap 118 none).run Tryz.prog W = .ok (.map (some W.heap.size)) (W.alloc (.map #[] 0)):=fun W=>by simp[Instr.makeMap,Result.andThen]
 have HQ:=Lib.hid hQ
 have HL:=Lib.hid hlen
 have HN:=Lib.hid hnm
 have HDL:=Lib.hid hdl
 have HFI:=Lib.hid hF
 clear hQ hlen hnm hdl hF
 go_enter_defers Tryz.func24,Tryz.ntmps24
 repeat' ((fail_if_success (with_reducible (show Code.wp _ (Code.region 2 _ _) _ _ _)));(fail_if_success at_builtin);first|go_values|go_skip|go_guarded|go_step|go_upon|go_back)
 obtain⟨hx0,hr0,hb0⟩:=look_start w
 unfold ZR at hx0 hb0
 unfold ZR at hr0
 obtain⟨L,hL⟩:∃ L,w.heap.size+1+1=L:=⟨_,rfl⟩
 rw[hL] at hx0 hr0 hb0 ⊢
 have HX0:=Lib.hid hx0
 have HR0:=Lib.hid hr0
 have HB0:=Lib.hid hb0
 clear hx0 hr0 hb0
 generalize ((((w.alloc (.cells #[.int .i64 0,.int .i64 0,.int .i64 0,.int .i64 0,.int .i64 0,.bool false,.int .i64 0,.int .i64 0,.int .i64 0,.int .i64 0,.int .i64 0,.slice none 0 0,.slice none 0 0,.slice none 0 0,.slice none 0 0] 50)).alloc (.map #[] 0)).alloc (.cells #[.map (some (w.heap.size+1)),.slice none 0 0,.int .i64 0,.int .i64 0,.int .i64 0,.int .i64 0,.int .i64 0,.bool false,.int .i64 0,.int .i64 0,.int .i64 0,.int .i64 0,.int .i64 0,.slice none 0 0,.slice none 0 0,.slice none 0 0,.slice none 0 0,.slice none 0 0,.int .i64 0,.int .i64 0,.int .i64 0] 120)).alloc (.cells #[.pointer (some ⟨L,0,none⟩)] 117))=w1 at HX0 HR0 HB0 ⊢
 have HLW:Hid (w.heap.size+1<=L):=Lib.hid (by omega)
 clear hL
 repeat' ((fail_if_success at_builtin);first|go_values|go_skip|go_guarded|go_step|go_upon|go_back)
 go_loopw [17] (fun c wr=>∃ (j:Nat) (fv:Value),c = .int .i64 j/\j<=ms.length/\AX wr (w.heap.size+1) L (w.heap.size+1) ((ms.take j).map FBm.f) (rawFirsts ((ms.take j).map FBm.f)) AS.nil fv (.slice none 0 0) (.slice none 0 0)/\wr.heap[w.heap.size]? = some (.cells ZR 50 (0,0))/\Below w.heap.size w wr/\Hid (((ms.take j).map FBm.f).map Prod.fst).Nodup) (fun c _=>ms.length-(intOf c).toNat)
 case atStart=>exact⟨0,_,rfl,Nat.zero_le _,HX0.out,HR0.out,HB0.out,Lib.hid List.nodup_nil⟩
 case round =>
  clear HX0 HR0 HB0
  obtain⟨j,fv,rfl,hj,hx,hr,hb,HND⟩:=hrel
  obtain⟨fj,hfj⟩:∃ fj,(ms.take j).map FBm.f=fj:=⟨_,rfl⟩
  rw[hfj] at hx HND
  obtain⟨rf,hrf⟩:∃ rf,rawFirsts fj=rf:=⟨_,rfl⟩
  rw[hrf] at hx
  have HFJ:=Lib.hid hfj
  have HRF:=Lib.hid hrf
  clear hfj hrf
  have hlI:(ms.length:Int)<=100000:=by have:=HL.out;omega
  by_cases hlt:j<ms.length
  ·have hlt':(j:Int)<(ms.length:Int):=by omega
   have HLT:=Lib.hid hlt
   obtain⟨m,hm⟩:∃ m,ms[j]? = some m:=⟨_,List.getElem?_eq_getElem hlt⟩
   have hmm:m∈ms:=List.mem_of_getElem? hm
   obtain⟨fg,fo,rfl,q0,q1⟩:=(HFI.out.below (hb.mono (Nat.le_refl _))).at hm
   have hbs:=(HFI.out.bs m hmm).below hb
   have hfb:Below wr.heap.size wr (wr.alloc (.cells #[.string ⟨m.f.1.toArray⟩,.slice m.a m.f.2.length m.c] 55)):=(Below.refl _ wr).alloc (Nat.le_refl _) _
   have n0:=blk_new wr (.cells #[.string ⟨m.f.1.toArray⟩,.slice m.a m.f.2.length m.c] 55)
   have HX1:=Lib.hid (hx.pure hfb)
   have HR1:=Lib.hid (blk_below hfb hr (blk_lt hr))
   have HB1:=Lib.hid (hb.trans (hfb.mono hb.size))
   have HBS:=Lib.hid (hbs.below hfb)
   have HTK:Hid ((ms.take (j+1)).map FBm.f=fj++[m.f]):=Lib.hid (by rw[List.take_add_one,hm,List.map_append,HFJ.out];rfl)
   have HM:=Lib.hid (And.intro (HN.out m hmm) (HDL.out m hmm))
   have hfc':=HFI.out.le
   clear hfb hx hr hb hbs hmm hlt hj
   repeat' ((fail_if_success (with_reducible (show Code.wp _ (Code.region 5 _ _) _ _ _)));(fail_if_success at_builtin);first|go_values|go_skip|go_guarded|go_step|go_upon|go_back)
   clear q0 q1
   generalize wr.alloc (.cells #[.string ⟨m.f.1.toArray⟩,.slice m.a m.f.2.length m.c] 55)=w3 at n0 HX1 HR1 HB1 HBS ⊢
   obtain⟨⟨nm,d⟩,da,dc⟩:=m
   dsimp only at n0 HBS HTK HM ⊢
   have bx:=(blk1 HX1.out.bx).1
   have l0:w3.cell? ⟨L,0,none⟩=some (.map (some (w.heap.size+1))):=HX1.out.cells 0
   obtain⟨q0,q1,-,-⟩:=blk2 n0
   have hbd:Below w3.heap.size w3 w3.drew:=(Below.refl _ _).drew
   cases hd:getF fj nm with
   | some d0 =>
    obtain⟨a0,c0,-,hlk⟩:=(HX1.out.pure hbd).fm.has HND.out hd true
    simp only[if_true] at hlk
    have HDUP:Hid (¬ ((ms.map FBm.f).map Prod.fst).Nodup):=Lib.hid (by
     intro hnd
     have h1:nm∈fj.map Prod.fst:=List.mem_map.2 ⟨_,getF_mem hd,rfl⟩
     rw[show ms=ms.take (j+1)++ms.drop (j+1) from (List.take_append_drop _ _).symm,List.map_append,List.map_append,HTK.out,List.map_append,List.append_assoc] at hnd
     exact(List.nodup_append.1 hnd).2.2 nm h1 nm (by simp) rfl)
    have HLA:Hid (lookF (ms.map FBm.f)=Rp.arg):=Lib.hid (if_neg HDUP.out)
    clear hd
    go_region
    have HR4:Hid (w3.drew.heap[w.heap.size]? = some (.cells ZR 50 (0,0))):=Lib.hid (blk_below hbd HR1.out (blk_lt HR1.out))
    have HB4:Hid (Below w.heap.size w w3.drew):=Lib.hid (HB1.out.drew)
    clear hbd q0 q1 bx l0 n0 HX1 HR1 HB1 HBS hlk
    generalize w3.drew=w4 at HR4 HB4 ⊢
    (have z0:=blk_cell (HR4).out 0;have z1:=blk_cell (HR4).out 1;have z2:=blk_cell (HR4).out 2;have z3:=blk_cell (HR4).out 3;have z4:=blk_cell (HR4).out 4;have z5:=blk_cell (HR4).out 5;have z6:=blk_cell (HR4).out 6;have z7:=blk_cell (HR4).out 7;have z8:=blk_cell (HR4).out 8;have z9:=blk_cell (HR4).out 9;have z10:=blk_cell (HR4).out 10;have z11:=blk_cell (HR4).out 11;have z12:=blk_cell (HR4).out 12;have z13:=blk_cell (HR4).out 13;have z14:=blk_cell (HR4).out 14;simp only[ZR,List.getElem?_toArray,List.getElem?_cons_zero,List.getElem?_cons_succ] at z0 z1 z2 z3 z4 z5 z6 z7 z8 z9 z10 z11 z12 z13 z14;have fz:=fun i=>blk_free (HR4).out i)
    repeat' ((fail_if_success at_builtin);first|go_values|go_skip|go_guarded|go_step|go_upon|go_back)
    clear z0 z1 z2 z3 z4 z5 z6 z7 z8 z9 z10 z11 z12 z13 z14 fz
    obtain⟨h1,h2,-⟩:=setR_blk HR4.out HB4.out 1 0 0 0 0 false Mf.nil (.slice none 0 0) (.slice none 0 0) (.slice none 0 0) (.slice none 0 0)
    unfold setR at h1 h2
    have hV:∀ W,RepV W (w.heap.size+1) Rp.arg (.slice none 0 0) (.slice none 0 0) (.slice none 0 0) (.slice none 0 0):=fun W=>⟨World.ownsRow_nil _ _ _ _,World.ownsRow_nil _ _ _ _,World.ownsRow_nil _ _ _ _,World.ownsRow_nil _ _ _ _,Apart.nil _,Apart.nil _,Apart.nil _⟩
    refine⟨_,res_look _ w.heap.size Rp.arg (hV _) h1 _ rfl,?_⟩
    have:=HQ.out (.slice none 0 0) (.slice none 0 0) (.slice none 0 0) (.slice none 0 0) _ (by rw[HLA.out];exact hV _) h2
    rw[HLA.out] at this
    exact this
   | none =>
    have hlk:=(HX1.out.pure hbd).fm.none hd true
    simp only[if_true] at hlk
    have HNO:Hid (nm∉fj.map Prod.fst):=Lib.hid (fun h=>by obtain⟨d1,hd1⟩:=getF_some h;rw[hd] at hd1;cases hd1)
    clear hd
    go_region
    have HX4:=Lib.hid (HX1.out.pure hbd)
    have HR4:Hid (w3.drew.heap[w.heap.size]? = some (.cells ZR 50 (0,0))):=Lib.hid (blk_below hbd HR1.out (blk_lt HR1.out))
    have HB4:Hid (Below w.heap.size w w3.drew):=Lib.hid (HB1.out.drew)
    have n4:=blk_below hbd n0 (blk_lt n0)
    have HBS4:=Lib.hid (HBS.out.below hbd)
    clear hbd q0 q1 bx l0 n0 HX1 HR1 HB1 HBS hlk
    generalize w3.drew=w4 at HR4 HB4 HX4 n4 HBS4 ⊢
    have bx:=(blk1 HX4.out.bx).1
    have l0:w4.cell? ⟨L,0,none⟩=some (.map (some (w.heap.size+1))):=HX4.out.cells 0
    obtain⟨q0,q1,-,-⟩:=blk2 n4
    repeat' ((fail_if_success at_builtin);first|go_values|go_skip|go_guarded|go_step|go_upon|go_back)
    go_region_held3 (fun w'=>w'.cell? ⟨L+1,0,none⟩=some (.pointer (some ⟨L,0,none⟩))/\w'.cell? ⟨L,0,none⟩=some (.map (some (w.heap.size+1)))/\w'.cell? ⟨wr.heap.size,0,none⟩=some (.string ⟨nm.toArray⟩)/\w'.cell? ⟨wr.heap.size,1,none⟩=some (.slice da d.length dc)) (first|exact⟨bx,l0,q0,q1⟩|exact⟨bx5,l5,(blk2 n5).1,(blk2 n5).2.1⟩|exact⟨(blk1 hXS.bx).1,hXS.cells 0,(blk2 n6).1,(blk2 n6).2.1⟩) (first
     | (go_at_call 65;refine(clone_any _ da dc d (by first|exact HBS4.out|exact HBS4.out.below (Below.refl _ _).drew) (by have:=HM.out;omega)).mono ?_;rintro e1 w5 ⟨v5,rfl,ho5,hb5x⟩;have hb5:Below w4.heap.size w4 w5:=(by first|exact hb5x|exact(Below.refl _ _).drew.trans hb5x|exact(bdrewN (Below.refl _ _) _).trans hb5x);have HX5:=Lib.hid (HX4.out.pure hb5);have HR5:=Lib.hid (blk_below hb5 HR4.out (blk_lt HR4.out));have HB5:=Lib.hid (HB4.out.trans (hb5.mono HB4.out.size));have n5:=blk_below hb5 n4 (blk_lt n4);have bx5:=(blk1 HX5.out.bx).1;have l5:w5.cell? ⟨L,0,none⟩=some (.map (some (w.heap.size+1))):=HX5.out.cells 0;obtain⟨wS,hS,hXS,hBS,hKS⟩:=HX5.out.store nm d HNO.out ho5;have n6:=hKS _ _ _ _ n5;obtain⟨va,vc,hva,-,-⟩:=ho5.shape;subst hva;clear hb5x hb5 ho5))
    have HX6:=Lib.hid hXS
    have HR6:Hid (wS.heap[w.heap.size]? = some (.cells ZR 50 (0,0))):=Lib.hid ((hBS.block _ (Nat.lt_succ_self _)).trans HR5.out)
    have HB6:=Lib.hid (HB5.out.trans (hBS.mono (Nat.le_succ _)))
    have HNDn:Hid (((ms.take (j+1)).map FBm.f).map Prod.fst).Nodup:=Lib.hid (by
     rw[HTK.out,List.map_append]
     refine List.nodup_append.2 ⟨HND.out,by simp,fun a ha b hb=>?_⟩
     obtain rfl:b=nm:=by simpa using hb
     exact fun e=>HNO.out (e ▸ ha))
    obtain⟨fn,fb,hf⟩:∃ fn fb,numOfName logH nm=(fn,fb):=⟨_,_,rfl⟩
    have HFN:=Lib.hid hf
    obtain⟨q0',-,-,-⟩:=blk2 n6
    clear hXS hBS hKS hS n5 n4 n6 bx l0 q0 q1 bx5 l5 HX4 HR4 HB4 HX5 HR5 HB5 HBS4 hf
    repeat' ((fail_if_success at_builtin);first|go_values|go_skip|go_guarded|go_step|go_upon|go_back)
    (refine(sfirst_any wS ⟨nm.toArray⟩).mono ?_;rintro e1 w7 ⟨rfl,hb7⟩;dsimp only)
    rw[show numOfName logH (⟨nm.toArray⟩:ByteArray).data.toList=(fn,fb) from HFN.out]
    have HX7:=Lib.hid (HX6.out.pure hb7)
    have HR7:=Lib.hid (blk_below hb7 HR6.out (blk_lt HR6.out))
    have HB7:=Lib.hid (HB6.out.trans (hb7.mono HB6.out.size))
    clear hb7 q0' HX6 HR6 HB6
    dsimp only
    cases fb with
    | false =>
     have HRW:Hid (rawFirsts ((ms.take (j+1)).map FBm.f)=rf):=Lib.hid (by rw[HTK.out,raw_snoc,HRF.out];simp only[firstOf,HFN.out];simp)
     repeat' ((fail_if_success at_builtin);first|go_values|go_skip|go_guarded|go_step|go_upon|go_back)
     go_roundw
     case rel=>exact⟨j+1,_,by go_num,by have:=HLT.out;omega,by rw[HRW.out,HTK.out];exact HX7.out,HR7.out,HB7.out,HNDn⟩
     case measure=>have:=HLT.out;simp[intOf];omega
    | true =>
     have HRW:Hid (rawFirsts ((ms.take (j+1)).map FBm.f)=rf++[fn]):=Lib.hid (by rw[HTK.out,raw_snoc,HRF.out];simp only[firstOf,HFN.out];simp)
     have HLR:Hid (rf.length<=100000):=Lib.hid (by rw[<-HRF.out];exact Nat.le_trans (List.length_filterMap_le _ _) (by rw[<-HFJ.out,List.length_map,List.length_take];have:=HL.out;omega))
     obtain⟨i0,hi0,hz0,hz1,hz2⟩:=info_parts Tryz.infoInt
     have bx:=(blk1 HX7.out.bx).1
     have bxa:∀ o,(w7.alloc o).cell? ⟨L+1,0,none⟩=some (.pointer (some ⟨L,0,none⟩)):=fun o=>(blk1 (blk_alloc HX7.out.bx o)).1
     have l1:w7.cell? ⟨L,1,none⟩=some fv:=HX7.out.c1
     have l1a:∀ o,(w7.alloc o).cell? ⟨L,1,none⟩=some fv:=fun o=>blk_cell (blk_alloc HX7.out.hl o) 1
     have hbd2:Below w7.heap.size w7 w7.drew:=(Below.refl _ _).drew
     have HX8:=HX7.out.pure hbd2
     have hsz7:w.heap.size+1<=w7.heap.size:=HX7.out.size
     repeat' ((fail_if_success at_builtin);first|go_values|go_skip|go_guarded|go_step|go_upon|go_back)
     have bxd:∀ o,(w7.drew.alloc o).cell? ⟨L+1,0,none⟩=some (.pointer (some ⟨L,0,none⟩)):=bxa
     have l1d:∀ o,(w7.drew.alloc o).cell? ⟨L,1,none⟩=some fv:=l1a
     refine wp_region_noPanic ?_
     go_region_law (first
      | ((refine step_append_lies _ (by rfl) _ _ _ (by rfl) (w.heap.size+1) 3 i0 _ 1 8 Tryz.underlying57 hi0 hz0 hz1 hz2 rfl (by omega) fv rf.length (rf.map (Value.int .i64)) (by rfl) (own_below HX8.fo ((Below.refl _ _).alloc (Nat.le_refl _) _)) ⟨w7.heap.size,0,none⟩ 1 1 [.int .i64 fn] (by rfl) (by rfl) (World.news_of_block (cs:=#[.int .i64 fn]) (t:=3) (fr:=(0,0)) (heap_alloc_new w7.drew _)) (by simp[Value.oneCell']) (by omega) (by unfold maxLen;have:=HLR.out;omega) (by have:=HLR.out;omega) (by simp;omega) (w7.heap.size+1) (by simp) ?_;intro gg gcap w12 hown12 hgrow hat hlt12;obtain⟨s0,s1,k0,D13,B13⟩:=HX8.appF _ hgrow fn hown12)))
     all_goals (refine NoPanic.normal ?_)
     all_goals clear bx bxa l1 l1a s0 k0 hown12 hgrow hat
     all_goals (repeat' ((fail_if_success at_builtin);first|go_values|go_skip|go_guarded|go_step|go_upon|go_back))
     all_goals
      (
      go_roundw
      case rel=>exact⟨j+1,_,by go_num,by have:=HLT.out;omega,by rw[HRW.out,HTK.out];exact D13,(B13.block _ (Nat.lt_succ_self _)).trans (blk_below hbd2 HR7.out (blk_lt HR7.out)),HB7.out.drew.trans (B13.mono (Nat.le_succ _)),HNDn⟩
      case measure=>have:=HLT.out;simp[intOf];omega)
  ·have hje:j=ms.length:=by omega
   subst hje
   have hlt':decide ((ms.length:Int)<(ms.length:Int))=false:=by simp
   have hlt2:decide (ms.length<ms.length)=false:=by simp
   have HFS:Hid (ms.map FBm.f=fj):=Lib.hid (by rw[<-HFJ.out,List.take_length])
   have HLK:Hid (lookF (ms.map FBm.f)=repOf fj (aAll fj (firstsOf fj))):=Lib.hid (by rw[HFS.out];exact if_pos HND.out)
   have HFO:Hid (FsOk fj):=Lib.hid ⟨HND.out,fun k d h=>by
    have:=getF_mem h
    rw[<-HFS.out] at this
    obtain⟨m,hm,he⟩:=List.mem_map.1 this
    have h2:=HDL.out m hm
    rw[he] at h2
    exact h2⟩
   have HNF:Hid (∀ x∈fj,x.1.length<=1000000):=Lib.hid (fun x hx=>by
    rw[<-HFS.out] at hx
    obtain⟨m,hm,rfl⟩:=List.mem_map.1 hx
    exact HN.out m hm)
   have HLF:Hid (fj.length<=100000):=Lib.hid (by rw[<-HFS.out,List.length_map];exact HL.out)
   have HRL:Hid (rf.length<=100000):=Lib.hid (by rw[<-HRF.out];exact Nat.le_trans (raw_len _) HLF.out)
   have HFI2:Hid (rf.mergeSort leI=firstsOf fj):=Lib.hid (by rw[<-HRF.out];rfl)
   have HX:=Lib.hid hx
   have HR:=Lib.hid hr
   have HB:=Lib.hid hb
   clear hx hr hb hj hlt HFJ HFI HN HDL HND HRF
   have bx:=(blk1 HX.out.bx).1
   have l1:=HX.out.c1
   repeat' ((fail_if_success at_builtin);first|go_values|go_skip|go_guarded|go_step|go_upon|go_back)
   (refine(asort_any wr HX.out (by have:=HRL.out;omega)).mono ?_;rintro e1 w2 ⟨rfl,hx2,hb2⟩;dsimp only)
   rw[HFI2.out] at hx2
   have HX2:=Lib.hid hx2
   have HR2:=Lib.hid ((hb2.block _ (Nat.lt_succ_self _)).trans HR.out)
   have HB2:=Lib.hid (HB.out.trans (hb2.mono (Nat.le_succ _)))
   clear hx2 hb2 HX HR HB bx l1 HRL HFI2
   obtain⟨fi,hfi⟩:∃ fi,firstsOf fj=fi:=⟨_,rfl⟩
   have HFI:=Lib.hid hfi
   rw[hfi] at HX2 HLK
   clear hfi
   have bx:=(blk1 HX2.out.bx).1
   repeat' ((fail_if_success (with_reducible (show Code.wp _ (Code.region 16 _ _) _ _ _)));(fail_if_success at_builtin);first|go_values|go_skip|go_guarded|go_step|go_upon|go_back)
   clear bx
   have n3:=blk_new w2 (.cells #[.func (.func 70) #[.pointer (some ⟨L,0,none⟩)] #[],.func (.func 71) #[.pointer (some ⟨L,0,none⟩)] #[],.func (.func 72) #[.pointer (some ⟨L,0,none⟩)] #[]] 1)
   have hb3:Below w2.heap.size w2 (w2.alloc (.cells #[.func (.func 70) #[.pointer (some ⟨L,0,none⟩)] #[],.func (.func 71) #[.pointer (some ⟨L,0,none⟩)] #[],.func (.func 72) #[.pointer (some ⟨L,0,none⟩)] #[]] 1)):=(Below.refl _ w2).alloc (Nat.le_refl _) _
   have HX3:=Lib.hid (HX2.out.pure hb3)
   have HR3:=Lib.hid (blk_below hb3 HR2.out (blk_lt HR2.out))
   have HB3:=Lib.hid (HB2.out.trans (hb3.mono HB2.out.size))
   generalize w2.alloc (.cells #[.func (.func 70) #[.pointer (some ⟨L,0,none⟩)] #[],.func (.func 71) #[.pointer (some ⟨L,0,none⟩)] #[],.func (.func 72) #[.pointer (some ⟨L,0,none⟩)] #[]] 1)=w3 at n3 HX3 HR3 HB3 ⊢
   have HF3:=Lib.hid n3
   have HNE:Hid ((aAll fj fi).1.needed.length<=1000000):=Lib.hid (by
    have h1:=aAll_short HFO.out.nodup
    rw[HFI.out] at h1
    have:=HLF.out
    omega)
   have HFL:Hid (fi.length<=100000):=Lib.hid (by have h1:=firsts_len fj;rw[HFI.out] at h1;have:=HLF.out;omega)
   obtain⟨s1,b1,hs1⟩:∃ s1 b1,aMan fj AS.nil=(s1,b1):=⟨_,_,rfl⟩
   have HS1:=Lib.hid hs1
   have HN1:Hid (s1.needed.length<=1):=Lib.hid (by have:=aMan_needs fj;rw[hs1] at this;exact this)
   have HA1:Hid (A0 s1):=Lib.hid (by have:=(aMan_A0 fj).1;rw[hs1] at this;exact this)
   clear hs1 n3 hb3 HX2 HR2 HB2
   refine wp_loop_rounds 4 ?_
   rw[rounds_succ]
   have qz:=blk_cell HF3.out 0
   simp only[List.getElem?_toArray,List.getElem?_cons_zero,List.getElem?_cons_succ] at qz
   repeat' ((fail_if_success at_builtin);first|go_values|go_skip|go_guarded|go_step|go_upon|go_back)
   refine(aman_any w3 HX3.out HFO.out (by simp[AS.nil])).mono ?_
   rintro e1 w4 hp
   rw[HS1.out] at hp
   obtain⟨⟨he4,⟨fv4,nv4,sv4,hx4⟩,hb4⟩,hk4⟩:=hp
   subst he4
   dsimp only at hx4 hk4 ⊢
   have HX4:=Lib.hid hx4
   have HR4:=Lib.hid ((hb4.block _ (Nat.lt_succ_self _)).trans HR3.out)
   have HB4:=Lib.hid (HB3.out.trans (hb4.mono (Nat.le_succ _)))
   have HK4:=Lib.hid hk4
   clear hx4 hb4 hk4 HX3 HR3 HB3 qz
   cases b1 with
   | false =>
    have HAL:=Lib.hid (aAll_man (firsts:=fi) HS1.out)
    (refine leaves_cons (f:=68) (args:=#[.pointer (some ⟨L+1,0,none⟩),.pointer (some ⟨w.heap.size,0,none⟩)]) (by simp) (by simp[go_sem]) ?_;refine(atell_dam _ (HX4).out (HR4).out (Nat.lt_succ_self _) (by have:=HLF.out;omega) HNF.out (by have:=HNE.out;rw[(HAL).out] at this;exact this)).mono ?_;rintro e1 u' w7 ⟨rfl,rfl,hT⟩;(obtain⟨sv,nv,lv,ov,h1,hV,hbT⟩:=hT;refine⟨_,res_look _ w.heap.size _ hV h1 _ rfl,?_⟩;have hq:=HQ.out sv nv lv ov w7 (by rw[HLK.out,(HAL).out];exact hV) ((HB4).out.trans (hbT.mono (Nat.le_refl _)));rw[HLK.out,(HAL).out] at hq;exact hq))
   | true =>
    have HF4:=Lib.hid (HK4.out rfl _ _ _ _ HF3.out (by decide) (by decide) (by decide))
    obtain⟨s2,b2,hs2⟩:∃ s2 b2,aCkpt fj fi s1=(s2,b2):=⟨_,_,rfl⟩
    have HS2:=Lib.hid hs2
    have HN2:Hid (s2.needed.length<=3):=Lib.hid (by have h:=aCkpt_needs fj fi s1;rw[hs2] at h;have h':s2.needed.length<=s1.needed.length+2:=h;have:=HN1.out;omega)
    have HA2:Hid (A0 s2):=Lib.hid (by have:=aCkpt_A0 fj fi HA1.out;rw[hs2] at this;exact this)
    clear hs2 HF3 HK4
    rw[if_pos rfl]
    dsimp only
    repeat' ((fail_if_success at_builtin);first|go_values|go_skip|go_guarded|go_step|go_upon|go_back)
    rw[rounds_succ]
    have qz:=blk_cell HF4.out 1
    simp only[List.getElem?_toArray,List.getElem?_cons_zero,List.getElem?_cons_succ] at qz
    repeat' ((fail_if_success at_builtin);first|go_values|go_skip|go_guarded|go_step|go_upon|go_back)
    refine(ackpt_any w4 HX4.out HFO.out (by have:=HN1.out;omega) HA1.out (by have:=HFL.out;omega)).mono ?_
    rintro e1 w5 hp
    rw[HS2.out] at hp
    obtain⟨⟨he5,⟨fv5,nv5,sv5,hx5⟩,hb5⟩,hk5⟩:=hp
    subst he5
    dsimp only at hx5 hk5 ⊢
    have HX5:=Lib.hid hx5
    have HR5:=Lib.hid ((hb5.block _ (Nat.lt_succ_self _)).trans HR4.out)
    have HB5:=Lib.hid (HB4.out.trans (hb5.mono (Nat.le_succ _)))
    have HK5:=Lib.hid hk5
    clear hx5 hb5 hk5 HX4 HR4 HB4 qz
    cases b2 with
    | false =>
     have HAL:=Lib.hid (aAll_ckpt HS1.out HS2.out)
     (refine leaves_cons (f:=68) (args:=#[.pointer (some ⟨L+1,0,none⟩),.pointer (some ⟨w.heap.size,0,none⟩)]) (by simp) (by simp[go_sem]) ?_;refine(atell_dam _ (HX5).out (HR5).out (Nat.lt_succ_self _) (by have:=HLF.out;omega) HNF.out (by have:=HNE.out;rw[(HAL).out] at this;exact this)).mono ?_;rintro e1 u' w7 ⟨rfl,rfl,hT⟩;(obtain⟨sv,nv,lv,ov,h1,hV,hbT⟩:=hT;refine⟨_,res_look _ w.heap.size _ hV h1 _ rfl,?_⟩;have hq:=HQ.out sv nv lv ov w7 (by rw[HLK.out,(HAL).out];exact hV) ((HB5).out.trans (hbT.mono (Nat.le_refl _)));rw[HLK.out,(HAL).out] at hq;exact hq))
    | true =>
     have HF5:=Lib.hid (HK5.out rfl _ _ _ _ HF4.out (by decide) (by decide) (by decide))
     obtain⟨s3,b3,hs3⟩:∃ s3 b3,aLog fj fi s2=(s3,b3):=⟨_,_,rfl⟩
     have HS3:=Lib.hid hs3
     have HAL:Hid (aAll fj fi=(s3,b3)):=Lib.hid ((aAll_log HS1.out HS2.out).trans hs3)
     have HMID:Hid (Mid s3.last/\Mid s3.base):=Lib.hid (by
      have:=aLog_mid (fs:=fj) (firsts:=fi) (s:=s2) HA2.out.base (fun f hf=>by rw[<-HFI.out] at hf;exact first_is hf)
      rw[hs3] at this
      exact this)
     clear hs3 HF4 HK5
     rw[if_pos rfl]
     dsimp only
     repeat' ((fail_if_success at_builtin);first|go_values|go_skip|go_guarded|go_step|go_upon|go_back)
     rw[rounds_succ]
     have qz:=blk_cell HF5.out 2
     simp only[List.getElem?_toArray,List.getElem?_cons_zero,List.getElem?_cons_succ] at qz
     repeat' ((fail_if_success at_builtin);first|go_values|go_skip|go_guarded|go_step|go_upon|go_back)
     refine alog_cps w5 HX5.out HFO.out (by have:=HN2.out;omega) HFL.out HA2.out.segs (by have:=firsts_is fj;rw[HFI.out] at this;exact this) HA2.out.base _ ?_
     intro e6 w6 hp
     rw[HS3.out] at hp
     obtain⟨he6,⟨fv6,nv6,sv6,hx6⟩,hb6⟩:=hp
     subst he6
     dsimp only at hx6 ⊢
     have HX6:=Lib.hid hx6
     have HR6:=Lib.hid ((hb6.block _ (Nat.lt_succ_self _)).trans HR5.out)
     have HB6:=Lib.hid (HB5.out.trans (hb6.mono (Nat.le_succ _)))
     clear hx6 hb6 HX5 HR5 HB5 qz
     cases b3 with
     | false =>
      (refine leaves_cons (f:=68) (args:=#[.pointer (some ⟨L+1,0,none⟩),.pointer (some ⟨w.heap.size,0,none⟩)]) (by simp) (by simp[go_sem]) ?_;refine(atell_dam _ (HX6).out (HR6).out (Nat.lt_succ_self _) (by have:=HLF.out;omega) HNF.out (by have:=HNE.out;rw[(HAL).out] at this;exact this)).mono ?_;rintro e1 u' w7 ⟨rfl,rfl,hT⟩;(obtain⟨sv,nv,lv,ov,h1,hV,hbT⟩:=hT;refine⟨_,res_look _ w.heap.size _ hV h1 _ rfl,?_⟩;have hq:=HQ.out sv nv lv ov w7 (by rw[HLK.out,(HAL).out];exact hV) ((HB6).out.trans (hbT.mono (Nat.le_refl _)));rw[HLK.out,(HAL).out] at hq;exact hq))
     | true =>
      rw[if_pos rfl]
      dsimp only
      repeat' ((fail_if_success at_builtin);first|go_values|go_skip|go_guarded|go_step|go_upon|go_back)
      rw[rounds_succ]
      repeat' ((fail_if_success at_builtin);first|go_values|go_skip|go_guarded|go_step|go_upon|go_back)
      refine leaves_cons (f:=68) (args:=#[.pointer (some ⟨L+1,0,none⟩),.pointer (some ⟨w.heap.size,0,none⟩)]) (by simp) (by simp[go_sem]) ?_
      refine(atell_ok w6 HX6.out HR6.out (Nat.lt_succ_self _) (by have:=HLF.out;omega) HNF.out (by have:=HNE.out;rw[HAL.out] at this;exact this) HMID.out.1 HMID.out.2).mono ?_
      rintro e1 u' w7 ⟨rfl,rfl,hT⟩
      (obtain⟨sv,nv,lv,ov,h1,hV,hbT⟩:=hT;refine⟨_,res_look _ w.heap.size _ hV h1 _ rfl,?_⟩;have hq:=HQ.out sv nv lv ov w7 (by rw[HLK.out,(HAL).out];exact hV) ((HB6).out.trans (hbT.mono (Nat.le_refl _)));rw[HLK.out,(HAL).out] at hq;exact hq)
end Go.Proofs.YtbppnihcbcdglaaGreat
