/- treadlelaw24.RepairOpens. No condition. -/
import Derived.Lib.SlBytesConst
import Derived.Laws.StructEq
import Derived.Test.YtbppnihcbcdglaaGreatZ8
import Derived.Test.YtbppnihcbcdglaaGreatZ46
import Derived.Test.YtbppnihcbcdglaaGreatZ49
namespace Go.Proofs.YtbppnihcbcdglaaGreat
set_option maxHeartbeats 0
open Go.RowKit
set_option linter.unusedVariables false
set_option linter.unusedSimpArgs false
def awM(g:Nat):List FBm:=[⟨([120],[121]),some ⟨g,0,none⟩,1⟩,⟨(manN,[]),none,0⟩]
theorem aw_files(w:World):Files ((w.alloc (.cells #[.int .u8 121] 5 (1,2))).alloc (.cells #[.string ⟨#[120]⟩,.slice (some ⟨w.heap.size,0,none⟩) 1 1,.string ⟨#[109,97,110,105,102,101,115,116]⟩,.slice none 0 0] 55)) (some ⟨w.heap.size+1,0,none⟩) 2 (awM w.heap.size):=by
 have n1:=blk_alloc (blk_new w (.cells #[.int .u8 121] 5 (1,2))) (.cells #[.string ⟨#[120]⟩,.slice (some ⟨w.heap.size,0,none⟩) 1 1,.string ⟨#[109,97,110,105,102,101,115,116]⟩,.slice none 0 0] 55)
 have n2:=blk_new1 w (.cells #[.int .u8 121] 5 (1,2)) (.cells #[.string ⟨#[120]⟩,.slice (some ⟨w.heap.size,0,none⟩) 1 1,.string ⟨#[109,97,110,105,102,101,115,116]⟩,.slice none 0 0] 55)
 refine⟨.inr ⟨_,0,rfl,fun i u hu=>?_⟩,Nat.le_refl _,(fun e=>by cases e),fun m hm=>?_⟩
 ·rw[Nat.zero_add,blk_cell n2]
  match i,hu with
  | 0,hu=>cases hu;rfl
  | 1,hu=>cases hu;rfl
  | 2,hu=>cases hu;rfl
  | 3,hu=>cases hu;rfl
 ·rcases List.mem_cons.1 hm with rfl|hm
  ·refine⟨Nat.le_refl _,(fun e=>by cases e),.inr ⟨_,0,rfl,fun i u hu=>?_⟩⟩
   rw[Nat.zero_add,blk_cell n1]
   match i,hu with
   | 0,hu=>cases hu;rfl
  ·obtain rfl:=List.mem_singleton.1 hm
   exact⟨Nat.le_refl _,fun _=>rfl,.inl rfl⟩
set_option maxRecDepth 20000 in
theorem awake24_any(w:World):Calls Tryz.prog 31 #[] w fun e' w'=>e' = .returned (.bool true)/\Below w.heap.size w w':=by
 have hF:=aw_files w
 have hb:Below w.heap.size w ((w.alloc (.cells #[.int .u8 121] 5 (1,2))).alloc (.cells #[.string ⟨#[120]⟩,.slice (some ⟨w.heap.size,0,none⟩) 1 1,.string ⟨#[109,97,110,105,102,101,115,116]⟩,.slice none 0 0] 55)):=((Below.refl _ w).alloc (Nat.le_refl _) _).alloc (by simp) _
 have hcv:=Lib.run_convert_bytes_const (P:=Tryz.prog) w 27 5 #[.int .u8 121] 1 1 Tryz.underlying27 Tryz.underlying5
 simp only[List.size_toArray,List.length_cons,List.length_nil,Nat.zero_add,Nat.reduceAdd] at hcv
 go_enter Tryz.func31,Tryz.ntmps31
 repeat' ((fail_if_success at_builtin);first|go_values|go_skip|go_guarded|go_step|go_upon|go_back)
 have hm:=mend_any _ (some ⟨w.heap.size+1,0,none⟩) 2 (awM w.heap.size) hF (by show 2<=_;omega) (fun m hm=>by
  rcases List.mem_cons.1 hm with rfl|hm
  ·show 1<=_;omega
  ·obtain rfl:=List.mem_singleton.1 hm
   show 8<=_;omega) (fun m hm=>by
  rcases List.mem_cons.1 hm with rfl|hm
  ·show 1<=_;omega
  ·obtain rfl:=List.mem_singleton.1 hm
   show 0<=_;omega)
 rw[show (awM w.heap.size).map FBm.f=awF from rfl,mend_awake] at hm
 dsimp only at hm
 refine hm.mono ?_
 rintro e1 w1 ⟨fv,dv,rfl,⟨⟨ns,hns,hfo,-⟩,hdo⟩,hb1⟩
 dsimp only at hns hdo ⊢
 have h1:∃ x:FBm,ns=[x]/\x.f=([120],[121]):=by
  cases ns with
  | nil=>cases hns
  | cons x t =>
   rw[List.map_cons] at hns
   have h1:=List.cons.inj hns
   have h2:t=[]:=List.map_eq_nil_iff.1 h1.2
   subst h2
   exact⟨x,rfl,h1.1⟩
 obtain⟨⟨f,xa,xc⟩,rfl,hf⟩:=h1
 dsimp only at hf
 subst hf
 obtain⟨fg,fc,hfv,-,-⟩:=own_shape hfo (by simp)
 subst hfv
 obtain⟨dg,dc,hdv,-,-⟩:=own_shape hdo (by simp)
 subst hdv
 have q1:w1.cell? ⟨fg,0,none⟩=some (.string ⟨#[120]⟩):=own_cell2 hfo 0 _ rfl
 have q2:w1.cell? ⟨dg,0,none⟩=some (.string ⟨#[109,97,110,105,102,101,115,116]⟩):=own_cell2 hdo 0 _ rfl
 have hb2:=hb.trans (hb1.mono hb.size)
 have hb3:=hb2.alloc hb2.size (.cells #[.slice (some ⟨fg,0,none⟩) 1 fc,.int .i64 0,.int .i64 0,.int .i64 0,.int .i64 0,.slice (some ⟨dg,0,none⟩) 1 dc] 66)
 have q3:=Lib.cell?_alloc_marked (.cells #[.slice (some ⟨fg,0,none⟩) 1 fc,.int .i64 0,.int .i64 0,.int .i64 0,.int .i64 0,.slice (some ⟨dg,0,none⟩) 1 dc] 66) q1
 have q4:=Lib.cell?_alloc_marked (.cells #[.slice (some ⟨fg,0,none⟩) 1 fc,.int .i64 0,.int .i64 0,.int .i64 0,.int .i64 0,.slice (some ⟨dg,0,none⟩) 1 dc] 66) q2
 have n:=blk_new w1 (.cells #[.slice (some ⟨fg,0,none⟩) 1 fc,.int .i64 0,.int .i64 0,.int .i64 0,.int .i64 0,.slice (some ⟨dg,0,none⟩) 1 dc] 66)
 have HB3:=Lib.hid hb3
 clear hm hfo hdo hns hb hb1 hb2 hb3 hF hcv q1 q2
 simp only[List.length_cons,List.length_nil,Nat.zero_add]
 repeat' ((fail_if_success (with_reducible (show Code.wp _ (Code.region 2 _ _) _ _ _)));(fail_if_success at_builtin);first|go_values|go_skip|go_guarded|go_step|go_upon|go_back)
 generalize w1.alloc (.cells #[.slice (some ⟨fg,0,none⟩) 1 fc,.int .i64 0,.int .i64 0,.int .i64 0,.int .i64 0,.slice (some ⟨dg,0,none⟩) 1 dc] 66)=w2 at q3 q4 n HB3 ⊢
 have c0:=blk_cell n 0;have c5:=blk_cell n 5
 simp only[List.getElem?_toArray,List.getElem?_cons_zero,List.getElem?_cons_succ] at c0 c5
 repeat' ((fail_if_success at_builtin);first|go_values|go_skip|go_guarded|go_step|go_upon|go_back)
 refine bodyPost_ret (v:=(.bool true)) (by simp[results,Tryz.results31,go_sem]) rfl ⟨rfl,HB3.out⟩
theorem eqOpen(w:World)(a b c e:Int):(binOp .eql 44 (.agg #[.int .i64 a,.int .i64 b,.int .i64 c,.int .i64 e]) (.agg #[.int .i64 a,.int .i64 b,.int .i64 c,.int .i64 e])).run Tryz.prog w = .ok (.bool true) w:=by
 rw[run_eql_struct]
 simp[go_sem,Tryz.underlying44]
theorem neqOpen(w:World)(a b c e:Int):(binOp .neq 44 (.agg #[.int .i64 a,.int .i64 b,.int .i64 c,.int .i64 e]) (.agg #[.int .i64 a,.int .i64 b,.int .i64 c,.int .i64 e])).run Tryz.prog w = .ok (.bool false) w:=by
 rw[run_neq_struct]
 simp[go_sem,Tryz.underlying44]
theorem MendV.open{w:World}{n0:Nat}{m:Md}{fv dv:Value}(h:MendV w n0 m fv dv):∃ fa fc da dc,∃ ns:List FBm,fv = .slice fa ns.length fc/\dv = .slice da m.dropped.length dc/\ns.map FBm.f=m.files/\Files w fa fc ns/\RowT w 9 da (m.dropped.map encS):=by
 obtain⟨⟨ns,h1,h2,h3⟩,h4⟩:=h
 obtain⟨fa,fc,rfl,hl,hn,hr⟩:=own_rowF h2 rfl rfl
 obtain⟨da,dc,rfl,-,-,hd,-⟩:=own_rowT h4
 exact⟨fa,fc,da,dc,ns,rfl,rfl,h1,hr.files (w0:=w) hl hn (fun m hm=>(h3 m hm).bs),hd⟩
theorem notHeavy_small{ms:List FBm}(h:NotHeavy ms):(ms.length<=100000/\(∀ m∈ms,m.f.1.length<=1000000)/\∀ m∈ms,m.f.2.length<=4294967296) /\
  (mendF encM (ms.map FBm.f)).files.length<=201/\(∀ x∈(mendF encM (ms.map FBm.f)).files,x.1.length<=1000/\x.2.length<=3000000)/\(mendF encM (ms.map FBm.f)).dropped.length<=200:=by
 obtain⟨h1,h2⟩:=h
 obtain⟨q1,q2,q3⟩:=mend_small (ms.map FBm.f) (A:=1000) (B:=3000000) (by omega) (by omega) (fun x hx=>by obtain⟨m,hm,rfl⟩:=List.mem_map.1 hx;exact(h2 m hm).2) (fun x hx=>by obtain⟨m,hm,rfl⟩:=List.mem_map.1 hx;exact(h2 m hm).1)
 rw[List.length_map] at q1 q3
 exact⟨⟨by omega,fun m hm=>by have:=(h2 m hm).2;omega,fun m hm=>by have:=(h2 m hm).1;omega⟩,by omega,q2,by omega⟩
theorem small_of_files{ns:List FBm}{fs:Fs}(h:ns.map FBm.f=fs)(h1:fs.length<=201)(h2:∀ x∈fs,x.1.length<=1000/\x.2.length<=3000000):ns.length<=100000/\(∀ m∈ns,m.f.1.length<=1000000)/\(∀ m∈ns,m.f.2.length<=4294967296)/\ns.length<=1000000/\∀ m∈ns,m.f.2.length<=1099511627776:=by
 have hl:=congrArg List.length h
 rw[List.length_map] at hl
 have hm:∀ m∈ns,m.f.1.length<=1000/\m.f.2.length<=3000000:=fun m hm=>h2 _ (by rw[<-h];exact List.mem_map.2 ⟨m,hm,rfl⟩)
 exact⟨by omega,fun m h=>by have:=(hm m h).1;omega,fun m h=>by have:=(hm m h).2;omega,by omega,fun m h=>by have:=(hm m h).2;omega⟩
set_option maxRecDepth 20000 in
theorem opens_cps(w:World)(fa:Option Addr)(fc:Nat)(ms:List FBm)(hF:Files w fa fc ms)(Q:Ending->World->Prop)(hQ:∀ w',Below w.heap.size w w'->Q (.returned (.bool true)) w') :
  Calls Tryz.prog 10 #[.slice fa ms.length fc] w Q:=by
 have HQ:=Lib.hid hQ
 have HF:=Lib.hid hF
 clear hQ hF
 go_enter Tryz.func10,Tryz.ntmps10
 repeat' ((fail_if_success at_builtin);first|go_values|go_skip|go_guarded|go_step|go_upon|go_back)
 refine heavy_cps w fa fc ms HF.out _ ?_
 intro bh hbh
 cases bh with
 | true =>
  clear hbh
  dsimp only
  repeat' ((fail_if_success at_builtin);first|go_values|go_skip|go_guarded|go_step|go_upon|go_back)
  (refine(awake24_any w).mono ?_;rintro e1 w1 ⟨rfl,hb1⟩;dsimp only)
  repeat' ((fail_if_success at_builtin);first|go_values|go_skip|go_guarded|go_step|go_upon|go_back)
  exact HQ.out _ hb1
 | false =>
  have hnh:=hbh rfl
  obtain⟨⟨s1,s2,s3⟩,s4,s5,s6⟩:=notHeavy_small hnh
  have HME:=Lib.hid (mend_any w fa fc ms HF.out s1 s2 s3)
  obtain⟨m,hm⟩:∃ m,mendF encM (ms.map FBm.f)=m:=⟨_,rfl⟩
  have hop:=mend_opens (ms.map FBm.f)
  rw[hm] at HME s4 s5 s6 hop
  have HOP:=Lib.hid hop
  have HSM:=Lib.hid (And.intro s4 (And.intro s5 s6))
  clear hbh hnh s1 s2 s3 s4 s5 s6 hop hm
  dsimp only
  repeat' ((fail_if_success at_builtin);first|go_values|go_skip|go_guarded|go_step|go_upon|go_back)
  refine HME.out.mono ?_
  rintro e1 w1 ⟨fv,dv,rfl,hV,hb1⟩
  dsimp only
  obtain⟨fa1,fc1,da1,dc1,ns,rfl,rfl,hns,hF1,hD1⟩:=hV.open
  obtain⟨z1,z2,z3,z4,z5⟩:=small_of_files hns HSM.out.1 HSM.out.2.1
  have n1:=blk_new w1 (.cells #[.slice fa1 (ns).length fc1,.int .i64 (m).base,.int .i64 (m).last,.int .i64 (m).rep,.int .i64 0,.slice da1 (m).dropped.length dc1] 66)
  have hbn:=hb1.alloc hb1.size (.cells #[.slice fa1 (ns).length fc1,.int .i64 (m).base,.int .i64 (m).last,.int .i64 (m).rep,.int .i64 0,.slice da1 (m).dropped.length dc1] 66)
  have hF2:=hF1.below ((Below.refl w1.heap.size w1).alloc (Nat.le_refl _) (.cells #[.slice fa1 (ns).length fc1,.int .i64 (m).base,.int .i64 (m).last,.int .i64 (m).rep,.int .i64 0,.slice da1 (m).dropped.length dc1] 66))
  have HZ:=Lib.hid (And.intro z1 (And.intro z2 (And.intro z3 (And.intro z4 z5))))
  have HNS:=Lib.hid hns
  clear HME hV hb1 hF1 hD1 z1 z2 z3 z4 z5
  repeat' ((fail_if_success (with_reducible (show Code.wp _ (Code.region 4 _ _) _ _ _)));(fail_if_success at_builtin);first|go_values|go_skip|go_guarded|go_step|go_upon|go_back)
  generalize w1.alloc (.cells #[.slice fa1 (ns).length fc1,.int .i64 (m).base,.int .i64 (m).last,.int .i64 (m).rep,.int .i64 0,.slice da1 (m).dropped.length dc1] 66)=w2 at n1 hbn hF2 ⊢
  obtain⟨M1,hM1⟩:∃ M1,w1.heap.size=M1:=⟨_,rfl⟩
  rw[hM1] at n1 ⊢
  have HN1:=Lib.hid n1
  have HB2:=Lib.hid hbn
  have HF2:=Lib.hid hF2
  have c0:=blk_cell HN1.out 0
  simp only[List.getElem?_toArray,List.getElem?_cons_zero,List.getElem?_cons_succ] at c0
  clear n1 hbn hF2 hM1 hns
  repeat' ((fail_if_success at_builtin);first|go_values|go_skip|go_guarded|go_step|go_upon|go_back)
  refine alook_cps w2 fa1 fc1 ns HF2.out HZ.out.1 HZ.out.2.1 HZ.out.2.2.1 _ ?_
  intro sv nv lv ov w3 hV3 hb3
  rw[HNS.out] at hV3 ⊢
  obtain⟨r,hr⟩:∃ r,lookF m.files=r:=⟨_,rfl⟩
  rw[hr] at hV3 ⊢
  have HO:=HOP.out
  rw[hr] at HO
  obtain⟨o1,o2,o3,o4,o5,o6,o7⟩:=HO
  obtain⟨sa,sc,rfl,-,-,-,-⟩:=own_rowT hV3.so
  obtain⟨na,nc,rfl,-,-,-,-⟩:=own_rowT hV3.no
  obtain⟨la2,lc2,rfl,-,-,-,-⟩:=own_rowT hV3.lo
  obtain⟨oa,oc,rfl,-,-,-,-⟩:=own_rowT hV3.oo
  have o6':r.left.length=0:=by rw[o6];rfl
  unfold RPc
  dsimp only
  rw[o1,o2,o3,o4,o5,o6']
  have n3:=blk_new w3 (.cells #[.int .i64 0,.int .i64 m.base,.int .i64 m.last,.int .i64 m.rep,.int .i64 0,.bool r.has,.int .i64 r.man.number,.int .i64 r.man.file,.int .i64 r.man.mark,.int .i64 r.man.prev,.int .i64 r.man.pmark,.slice sa r.segs.length sc,.slice na r.needed.length nc,.slice la2 0 lc2,.slice oa r.others.length oc] 50)
  have hb4:=(Below.refl w3.heap.size w3).alloc (Nat.le_refl _) (.cells #[.int .i64 0,.int .i64 m.base,.int .i64 m.last,.int .i64 m.rep,.int .i64 0,.bool r.has,.int .i64 r.man.number,.int .i64 r.man.file,.int .i64 r.man.mark,.int .i64 r.man.prev,.int .i64 r.man.pmark,.slice sa r.segs.length sc,.slice na r.needed.length nc,.slice la2 0 lc2,.slice oa r.others.length oc] 50)
  have HB4:=Lib.hid (HB2.out.trans ((hb3.trans (hb4.mono hb3.size)).mono HB2.out.size))
  have HF4:=Lib.hid (HF2.out.below (hb3.trans (hb4.mono hb3.size)))
  have HN4:=Lib.hid (blk_below (hb3.trans (hb4.mono hb3.size)) HN1.out (blk_lt HN1.out))
  have HMM:Hid (mendF encM m.files = { m with dropped:=[] }):=Lib.hid o7
  clear hV3 o1 o2 o3 o4 o5 o6 o6' o7 hb3 hb4 c0 hr HOP
  repeat' ((fail_if_success (with_reducible (show Code.wp _ (Code.region 5 _ _) _ _ _)));(fail_if_success at_builtin);first|go_values|go_skip|go_guarded|go_step|go_upon|go_back)
  generalize w3.alloc (.cells #[.int .i64 0,.int .i64 m.base,.int .i64 m.last,.int .i64 m.rep,.int .i64 0,.bool r.has,.int .i64 r.man.number,.int .i64 r.man.file,.int .i64 r.man.mark,.int .i64 r.man.prev,.int .i64 r.man.pmark,.slice sa r.segs.length sc,.slice na r.needed.length nc,.slice la2 0 lc2,.slice oa r.others.length oc] 50)=w4 at n3 HB4 HF4 HN4 ⊢
  have q0:=blk_cell n3 0;have q1:=blk_cell n3 1;have q2:=blk_cell n3 2;have q3:=blk_cell n3 3;have q4:=blk_cell n3 4;have q13:=blk_cell n3 13
  have p0:=blk_cell HN4.out 0;have p1:=blk_cell HN4.out 1;have p2:=blk_cell HN4.out 2;have p3:=blk_cell HN4.out 3;have p4:=blk_cell HN4.out 4
  simp only[List.getElem?_toArray,List.getElem?_cons_zero,List.getElem?_cons_succ] at q0 q1 q2 q3 q4 q13 p0 p1 p2 p3 p4
  have hneq:=fun W=>neqOpen W m.base m.last m.rep 0
  clear n3
  repeat' ((fail_if_success at_builtin);first|go_values|go_skip|go_guarded|go_step|go_upon|go_back)
  clear q0 q1 q2 q3 q4 q13 p0 p1 p2 p3 p4 hneq
  have HME:=Lib.hid (mend_any w4 fa1 fc1 ns HF4.out HZ.out.1 HZ.out.2.1 HZ.out.2.2.1)
  rw[HNS.out,HMM.out] at HME
  refine HME.out.mono ?_
  rintro e1 w5 ⟨fv,dv,rfl,hV,hb5⟩
  dsimp only at hV ⊢
  obtain⟨fa2,fc2,da2,dc2,ns2,rfl,rfl,hns2,hF5,-⟩:=hV.open
  dsimp only at hns2 ⊢
  simp only[List.length_nil]
  have n6:=blk_new w5 (.cells #[.slice fa2 ns2.length fc2,.int .i64 m.base,.int .i64 m.last,.int .i64 m.rep,.int .i64 0,.slice da2 0 dc2] 66)
  have hb6:=hb5.alloc hb5.size (.cells #[.slice fa2 ns2.length fc2,.int .i64 m.base,.int .i64 m.last,.int .i64 m.rep,.int .i64 0,.slice da2 0 dc2] 66)
  have hF6:=hF5.below ((Below.refl w5.heap.size w5).alloc (Nat.le_refl _) (.cells #[.slice fa2 ns2.length fc2,.int .i64 m.base,.int .i64 m.last,.int .i64 m.rep,.int .i64 0,.slice da2 0 dc2] 66))
  have HF1:=Lib.hid (HF4.out.below hb6)
  have HN6:=Lib.hid (blk_below hb6 HN4.out (blk_lt HN4.out))
  have HB6:=Lib.hid (HB4.out.trans (hb6.mono HB4.out.size))
  have HN2:=Lib.hid (show ns2.map FBm.f=ns.map FBm.f by rw[hns2,HNS.out])
  have HL2:Hid (ns2.length=ns.length):=Lib.hid (by have:=congrArg List.length HN2.out;simpa using this)
  have HZ2:Hid (∀ m∈ns2,m.f.2.length<=1099511627776):=Lib.hid (small_of_files (hns2) HSM.out.1 HSM.out.2.1).2.2.2.2
  clear HME hV hb5 hF5 hb6 hns2 HB4 HF4 HN4
  repeat' ((fail_if_success (with_reducible (show Code.wp _ (Code.region 8 _ _) _ _ _)));(fail_if_success at_builtin);first|go_values|go_skip|go_guarded|go_step|go_upon|go_back)
  generalize w5.alloc (.cells #[.slice fa2 ns2.length fc2,.int .i64 m.base,.int .i64 m.last,.int .i64 m.rep,.int .i64 0,.slice da2 0 dc2] 66)=w6 at n6 hF6 HF1 HN6 HB6 ⊢
  have HF6:=Lib.hid hF6
  have HP6:=Lib.hid n6
  have p0:=blk_cell HP6.out 0
  have q0:=blk_cell HN6.out 0
  simp only[List.getElem?_toArray,List.getElem?_cons_zero,List.getElem?_cons_succ] at p0 q0
  clear n6 hF6
  repeat' ((fail_if_success at_builtin);first|go_values|go_skip|go_guarded|go_step|go_upon|go_back)
  clear p0 q0
  refine(files24_any w6 fa2 fa1 fc2 fc1 ns2 ns HF6.out HF1.out HN2.out (by have:=HL2.out;have:=HZ.out.2.2.2.1;omega) HZ2.out).mono ?_
  rintro e1 w7 ⟨rfl,hb7⟩
  dsimp only
  have HN7:=Lib.hid (blk_below hb7 HN6.out (blk_lt HN6.out))
  have HP7:=Lib.hid (blk_below hb7 HP6.out (blk_lt HP6.out))
  have HB7:=Lib.hid (HB6.out.trans (hb7.mono HB6.out.size))
  have p1:=blk_cell HP7.out 1;have p2:=blk_cell HP7.out 2;have p3:=blk_cell HP7.out 3;have p4:=blk_cell HP7.out 4;have p5:=blk_cell HP7.out 5
  have q1:=blk_cell HN7.out 1;have q2:=blk_cell HN7.out 2;have q3:=blk_cell HN7.out 3;have q4:=blk_cell HN7.out 4
  simp only[List.getElem?_toArray,List.getElem?_cons_zero,List.getElem?_cons_succ] at p1 p2 p3 p4 p5 q1 q2 q3 q4
  have heq:=fun W=>eqOpen W m.base m.last m.rep 0
  clear hb7
  repeat' ((fail_if_success at_builtin);first|go_values|go_skip|go_guarded|go_step|go_upon|go_back)
  (refine(awake24_any _).mono ?_;rintro e1 w8 ⟨rfl,hb8⟩;dsimp only)
  have hfin:=HB7.out.trans (hb8.mono HB7.out.size)
  clear p1 p2 p3 p4 p5 q1 q2 q3 q4 heq hb8
  repeat' ((fail_if_success at_builtin);first|go_values|go_skip|go_guarded|go_step|go_upon|go_back)
  exact HQ.out _ hfin
end Go.Proofs.YtbppnihcbcdglaaGreat
