import Derived.Deep.RegionLaw
import Derived.Deep.CutBlock
import Derived.Deep.DeepCutAuto
import Derived.Test.YtbppnihcbcdglaaGreatV8
import Derived.Test.YtbppnihcbcdglaaGreatZ26
import Derived.Test.YtbppnihcbcdglaaGreatD48
namespace Go.Proofs.YtbppnihcbcdglaaGreat
open Go.RowKit
set_option linter.unusedVariables false
set_option linter.unusedSimpArgs false
theorem dedGo_append:∀ (a b d:Fs),dedGo d (a++b)=dedGo (dedGo d a) b
 | [],b,d=>rfl
 | x :: t,b,d=>by
  show dedGo (if (getF d x.1).isSome then d else d++[x]) (t++b)=dedGo (dedGo (if (getF d x.1).isSome then d else d++[x]) t) b
  exact dedGo_append t b _
theorem ded_snoc(l:Fs)(x:Bs×Bs):dedF (l++[x])=if (getF (dedF l) x.1).isSome then dedF l else dedF l++[x]:=by
 unfold dedF;rw[dedGo_append];rfl
theorem last_small{d:Fs}(he:(lookF d).err=0){l0:List (Int×Int)}{f e:Int}(hs:(lookF d).segs=l0++[(f,e)]):∃ (en:Nat) (dd:Bs),e=en/\getF d (nameOf logH f)=some dd/\en<=dd.length:=by
 have hne:firstsOf d≠[]:=by
  intro h
  have:=(look_means he).2.2.2.2.2.2.1
  rw[h,hs] at this
  simp at this
 obtain⟨f',e',dd,c1,c2,c3,c4,c5,c6⟩:=look_cut2 he hne
 rw[hs,List.getLast?_append] at c2
 cases c2
 exact⟨e',dd,rfl,c3,c4⟩
structure MendV (w:World) (n0:Nat) (m:Md) (fv dv:Value):Prop where
 files:∃ ns:List FBm,ns.map FBm.f=m.files/\w.ownsRow n0 55 2 fv ns.length (ns.flatMap FBm.row)/\∀ x∈ns,OwnB w n0 (.slice x.a x.f.2.length x.c) x.f.2
 dropped:w.ownsRow n0 9 1 dv m.dropped.length (m.dropped.map encS)
set_option maxRecDepth 20000 in
set_option maxHeartbeats 4000000 in
theorem mend_any(w:World)(fa:Option Addr)(fc:Nat)(ms:List FBm)(hF:Files w fa fc ms)(hlen:ms.length<=100000)(hnm:∀ m∈ms,m.f.1.length<=1000000)(hdl:∀ m∈ms,m.f.2.length<=4294967296) :
  Calls Tryz.prog 33 #[.slice fa ms.length fc] w fun e w'=>∃ fv dv,e = .returned (.agg #[fv,.int .i64 (mendF encM (ms.map FBm.f)).base,.int .i64 (mendF encM (ms.map FBm.f)).last,.int .i64 (mendF encM (ms.map FBm.f)).rep,.int .i64 0,dv]) /\
   MendV w' w.heap.size (mendF encM (ms.map FBm.f)) fv dv/\Below w.heap.size w w':=by
 have hmk:∀ (t:TypeId) (W:World),(Instr.makeMap t none).run Tryz.prog W = .ok (.map (some W.heap.size)) (W.alloc (.map #[] 0)):=fun t W=>by simp[Instr.makeMap,Result.andThen]
 have hb1:Below w.heap.size w ((w.alloc (.cells #[.slice none 0 0,.int .i64 0,.int .i64 0,.int .i64 0,.int .i64 0,.slice none 0 0] 66)).alloc (.map #[] 0)):=((Below.refl _ w).alloc (Nat.le_refl _) _).alloc (by simp) _
 have n0:=blk_alloc (blk_new w (.cells #[.slice none 0 0,.int .i64 0,.int .i64 0,.int .i64 0,.int .i64 0,.slice none 0 0] 66)) (.map #[] 0)
 have n1:=blk_new1 w (.cells #[.slice none 0 0,.int .i64 0,.int .i64 0,.int .i64 0,.int .i64 0,.slice none 0 0] 66) (.map #[] 0)
 have HM0:Hid (M1 w [] [] (.slice none 0 0) ((w.alloc (.cells #[.slice none 0 0,.int .i64 0,.int .i64 0,.int .i64 0,.int .i64 0,.slice none 0 0] 66)).alloc (.map #[] 0))):=Hi ⟨n0,⟨[],rfl,⟨#[],0,n1,MapKept.stamped_empty 0,by simp,rfl⟩,fun m hm=>(by cases hm)⟩,World.ownsRow_nil _ _ _ _,hb1⟩
 have HF:=Hi hF
 have HL:=Hi hlen
 have HN:=Hi hnm
 have HD:=Hi hdl
 clear hF hlen hnm hdl hb1 n0 n1
 go_enter Tryz.func33,Tryz.ntmps33
 repeat' ((fail_if_success (with_reducible (show Code.wp _ (Code.region 3 _ _) _ _ _)));(fail_if_success at_builtin);first|go_values|go_skip|go_guarded|go_step|go_upon|go_back)
 generalize ((w.alloc (.cells #[.slice none 0 0,.int .i64 0,.int .i64 0,.int .i64 0,.int .i64 0,.slice none 0 0] 66)).alloc (.map #[] 0))=w1 at HM0⊢
 repeat' ((fail_if_success at_builtin);first|go_values|go_skip|go_guarded|go_step|go_upon|go_back)
 go_loopw [4,25] (fun lv c wr=>∃ (j:Nat) (ns:List FBm),c = .int .i64 j/\j<=ms.length/\Hid (M1 w (dedF ((ms.take j).map FBm.f)) ns lv wr)/\Hid (ns.map FBm.f=dedF ((ms.take j).map FBm.f)/\(∀ m∈ns,m∈ms)/\ns.length<=j)) (fun _ c _=>ms.length-(intOf c).toNat)
 case atStart=>exact⟨0,[],rfl,Nat.zero_le _,HM0,Hi ⟨rfl,fun m hm=>(by cases hm),Nat.le_refl _⟩⟩
 case round =>
  clear HM0
  obtain⟨j,ns,rfl,hj,HX,HNS⟩:=hrel
  by_cases hlt:j<ms.length
  ·have hlt':(j:Int)<(ms.length:Int):=by omega
   have hlI:(ms.length:Int)<=100000:=by have:=HL.out;omega
   obtain⟨m,hm⟩:∃ m,ms[j]?=some m:=⟨_,List.getElem?_eq_getElem hlt⟩
   have hmm:m∈ms:=List.mem_of_getElem? hm
   obtain⟨fg,fo,rfl,q0,q1⟩:=(HF.out.below (HX.out.hb)).at hm
   have hbs:=(HF.out.bs m hmm)
   have hst:m.stays w w.heap.size:=FBm.stays_low hbs (Nat.le_refl _)
   have hfb:Below wr.heap.size wr (wr.alloc (.cells #[.string ⟨(m).f.1.toArray⟩,.slice (m).a (m).f.2.length (m).c] 55)):=(Below.refl _ wr).alloc (Nat.le_refl _) _
   have n0:=blk_new wr (.cells #[.string ⟨(m).f.1.toArray⟩,.slice (m).a (m).f.2.length (m).c] 55)
   have HX1:=Hi (HX.out.below hfb)
   have HSM:=Hi (hst.kept (KpD.of_below (HX.out.hb.trans (hfb.mono (by have:=HX.out.size;omega)))))
   have HTK:Hid (dedF ((ms.take (j+1)).map FBm.f)=if (getF (dedF ((ms.take j).map FBm.f)) m.f.1).isSome then dedF ((ms.take j).map FBm.f) else dedF ((ms.take j).map FBm.f)++[m.f]):=Hi (by rw[List.take_add_one,hm,List.map_append];exact ded_snoc _ _)
   have HLT:=Hi hlt
   have HMM:=Hi hmm
   have hfc':=HF.out.le
   obtain⟨dj,hdj⟩:∃ dj,dedF ((ms.take j).map FBm.f)=dj:=⟨_,rfl⟩
   have HND:Hid ((dj.map Prod.fst).Nodup):=Hi (by rw[<-hdj];exact ded_nodup _)
   rw[hdj] at HTK HX1 HNS
   clear hfb hbs hst hmm hlt hj hm hdj HX
   repeat' ((fail_if_success (with_reducible (show Code.wp _ (Code.region 6 _ _) _ _ _)));(fail_if_success at_builtin);first|go_values|go_skip|go_guarded|go_step|go_upon|go_back)
   clear q0 q1
   generalize wr.alloc (.cells #[.string ⟨(m).f.1.toArray⟩,.slice (m).a (m).f.2.length (m).c] 55)=w3 at n0 HX1 HSM⊢
   obtain⟨q0,q1,-,-⟩:=blk2 n0
   obtain⟨X,hX⟩:∃ X,wr.heap.size=X:=⟨_,rfl⟩
   rw[hX] at q0 q1 n0⊢
   have HN0:=Hi n0
   clear n0 hX
   cases hget:getF dj m.f.1 with
   | some d0 =>
    obtain⟨da,dc,-,hlk0⟩:=HX1.out.hd.find HND.out hget
    have hlk:=(lookup_dir2 (w.heap.size+1) _ true w3).trans (hlk0 true)
    simp only[if_true] at hlk
    have HTK2:Hid (dedF ((ms.take (j+1)).map FBm.f)=dj):=Hi (by rw[HTK.out,hget];rfl)
    clear hlk0 hget
    repeat' ((fail_if_success at_builtin);first|go_values|go_skip|go_guarded|go_step|go_upon|go_back)
    go_roundw
    case rel=>exact⟨j+1,ns,by go_num,HLT.out,by rw[HTK2.out];exact HX1,Hi ⟨by rw[HTK2.out];exact HNS.out.1,HNS.out.2.1,by have:=HNS.out.2.2;omega⟩⟩
    case measure=>have:=HLT.out;simp[intOf];omega
   | none =>
    have hlk:=(lookup_dir2 (w.heap.size+1) _ true w3).trans (HX1.out.hd.none hget true)
    simp only[if_true] at hlk
    obtain⟨w4,hput,hX4,hK4⟩:=HX1.out.put HND.out m HSM.out hget
    have HTK2:Hid (dedF ((ms.take (j+1)).map FBm.f)=dj++[m.f]):=Hi (by rw[HTK.out,hget];rfl)
    have p:=hK4 _ _ _ _ HN0.out
    obtain⟨p0,p1,-,-⟩:=blk2 p
    have HX4:=Hi hX4
    clear hget hX4 hK4 p
    repeat' ((fail_if_success at_builtin);first|go_values|go_skip|go_guarded|go_step|go_upon|go_back)
    have n5:=blk_new w4 (.cells #[.string ⟨(m).f.1.toArray⟩,.slice (m).a (m).f.2.length (m).c] 55)
    have hb5:Below w4.heap.size w4 (w4.alloc (.cells #[.string ⟨(m).f.1.toArray⟩,.slice (m).a (m).f.2.length (m).c] 55)):=(Below.refl _ _).alloc (Nat.le_refl _) _
    refine wp_appF rfl _ _ rfl w.heap.size _ ns.length _ rfl (own_below HX4.out.lo hb5) (some ⟨w4.heap.size,0,none⟩) 1 [m] rfl (.inr ⟨w4.heap.size,0,rfl,fun i u hu=>?_⟩) (fun e=>by cases e) (by have:=HNS.out.2.2;have:=HLT.out;have:=HL.out;show ns.length+1<=_;omega) (by have:=HX4.out.size;simp;omega) ?_
    ·rw[Nat.zero_add]
     match i,hu with
     | 0,hu=>cases hu;exact blk_cell n5 0
     | 1,hu=>cases hu;exact blk_cell n5 1
    ·intro v' w5 hown' hg'
     have HX5:=Hi (HX4.out.app _ hg' m (by simpa using hown'))
     clear hown' hg' hput hlk p0 p1 n5 hb5
     repeat' ((fail_if_success at_builtin);first|go_values|go_skip|go_guarded|go_step|go_upon|go_back)
     go_roundw
     case rel=>exact⟨j+1,ns++[m],by go_num,HLT.out,by rw[HTK2.out];exact HX5,Hi ⟨by rw[HTK2.out,List.map_append,HNS.out.1];rfl,fun x hx=>by
      rcases List.mem_append.1 hx with hx|hx
      ·exact HNS.out.2.1 x hx
      ·obtain rfl:x=m:=by simpa using hx
       exact HMM.out,by rw[List.length_append,List.length_singleton];have:=HNS.out.2.2;omega⟩⟩
     case measure=>have:=HLT.out;simp[intOf];omega
  ·have hje:j=ms.length:=by omega
   subst hje
   have hlt2:decide ((ms.length:Int)<(ms.length:Int))=false:=by simp
   obtain⟨d,hd⟩:∃ d,dedF (ms.map FBm.f)=d:=⟨_,rfl⟩
   rw[List.take_length,hd] at HX HNS
   have HDD:=Hi hd
   obtain⟨la,lc,rfl,hlc,hlnil,hRF⟩:=own_rowF HX.out.lo rfl rfl
   have HFL:Hid (Files wr la lc ns):=Hi (hRF.files (w0:=wr) hlc hlnil (fun m hm=>(HF.out.bs m (HNS.out.2.1 m hm)).below HX.out.hb))
   clear hlt hj hd hlc hlnil hRF
   repeat' ((fail_if_success at_builtin);first|go_values|go_skip|go_guarded|go_step|go_upon|go_back)
   refine alook_cps wr la lc ns HFL.out (by have:=HNS.out.2.2;have:=HL.out;omega) (fun m hm=>HN.out m (HNS.out.2.1 m hm)) (fun m hm=>HD.out m (HNS.out.2.1 m hm)) _ ?_
   intro sv nv lv ov w2 hV hb2
   rw[HNS.out.1] at hV⊢
   obtain⟨r,hr⟩:∃ r,lookF d=r:=⟨_,rfl⟩
   rw[hr] at hV⊢
   have HR:=Hi hr
   have HX2:=Hi (HX.out.below hb2)
   obtain⟨sa,sc,rfl,-,-,-,-⟩:=own_rowT hV.so
   obtain⟨na,nc,rfl,-,-,-,-⟩:=own_rowT hV.no
   obtain⟨la2,lc2,rfl,-,-,-,-⟩:=own_rowT hV.lo
   obtain⟨oa,oc,rfl,-,-,-,-⟩:=own_rowT hV.oo
   have HSZ:Hid (w.heap.size+1<w2.heap.size):=Hi (by have:=hb2.size;have:=HX.out.size;omega)
   have m1:=blk_new w2 (.cells #[.int .i64 r.err,.int .i64 r.base,.int .i64 r.last,.int .i64 r.rep,.int .i64 r.torn,.bool r.has,.int .i64 r.man.number,.int .i64 r.man.file,.int .i64 r.man.mark,.int .i64 r.man.prev,.int .i64 r.man.pmark,.slice sa r.segs.length sc,.slice na r.needed.length nc,.slice la2 r.left.length lc2,.slice oa r.others.length oc] 50)
   have m2:=blk_new1 w2 (.cells #[.int .i64 r.err,.int .i64 r.base,.int .i64 r.last,.int .i64 r.rep,.int .i64 r.torn,.bool r.has,.int .i64 r.man.number,.int .i64 r.man.file,.int .i64 r.man.mark,.int .i64 r.man.prev,.int .i64 r.man.pmark,.slice sa r.segs.length sc,.slice na r.needed.length nc,.slice la2 r.left.length lc2,.slice oa r.others.length oc] 50) (.map #[] 0)
   have m3:=blk_new2 w2 (.cells #[.int .i64 r.err,.int .i64 r.base,.int .i64 r.last,.int .i64 r.rep,.int .i64 r.torn,.bool r.has,.int .i64 r.man.number,.int .i64 r.man.file,.int .i64 r.man.mark,.int .i64 r.man.prev,.int .i64 r.man.pmark,.slice sa r.segs.length sc,.slice na r.needed.length nc,.slice la2 r.left.length lc2,.slice oa r.others.length oc] 50) (.map #[] 0) (.cells #[.slice none 0 0,.int .i64 r.base,.int .i64 r.last,.int .i64 r.rep,.int .i64 r.torn,.slice none 0 0] 66)
   have hb3:Below w2.heap.size w2 (((w2.alloc (.cells #[.int .i64 r.err,.int .i64 r.base,.int .i64 r.last,.int .i64 r.rep,.int .i64 r.torn,.bool r.has,.int .i64 r.man.number,.int .i64 r.man.file,.int .i64 r.man.mark,.int .i64 r.man.prev,.int .i64 r.man.pmark,.slice sa r.segs.length sc,.slice na r.needed.length nc,.slice la2 r.left.length lc2,.slice oa r.others.length oc] 50)).alloc (.map #[] 0)).alloc (.cells #[.slice none 0 0,.int .i64 r.base,.int .i64 r.last,.int .i64 r.rep,.int .i64 r.torn,.slice none 0 0] 66)):=(((Below.refl _ _).alloc (Nat.le_refl _) _).alloc (by simp) _).alloc (by simp;omega) _
   have m1:=blk_alloc (blk_alloc m1 (.map #[] 0)) (.cells #[.slice none 0 0,.int .i64 r.base,.int .i64 r.last,.int .i64 r.rep,.int .i64 r.torn,.slice none 0 0] 66)
   have m2:=blk_alloc m2 (.cells #[.slice none 0 0,.int .i64 r.base,.int .i64 r.last,.int .i64 r.rep,.int .i64 r.torn,.slice none 0 0] 66)
   have HV:=Hi (hV.below hb3)
   have HX3:=Hi (HX2.out.below hb3)
   clear hV hb2 hb3 hr HFL HX HX2
   unfold RPc
   dsimp only
   repeat' ((fail_if_success (with_reducible (show Code.wp _ (Code.region 14 _ _) _ _ _)));(fail_if_success at_builtin);first|go_values|go_skip|go_guarded|go_step|go_upon|go_back)
   generalize (((w2.alloc (.cells #[.int .i64 r.err,.int .i64 r.base,.int .i64 r.last,.int .i64 r.rep,.int .i64 r.torn,.bool r.has,.int .i64 r.man.number,.int .i64 r.man.file,.int .i64 r.man.mark,.int .i64 r.man.prev,.int .i64 r.man.pmark,.slice sa r.segs.length sc,.slice na r.needed.length nc,.slice la2 r.left.length lc2,.slice oa r.others.length oc] 50)).alloc (.map #[] 0)).alloc (.cells #[.slice none 0 0,.int .i64 r.base,.int .i64 r.last,.int .i64 r.rep,.int .i64 r.torn,.slice none 0 0] 66))=w3 at m1 m2 m3 HV HX3⊢
   obtain⟨Q,hQ⟩:∃ Q,w2.heap.size=Q:=⟨_,rfl⟩
   rw[hQ] at m1 m2 m3 HSZ⊢
   have HQ:=Hi m1
   have HY:Hid (M2 w (Q+1) (Q+1+1) d [] (.slice none 0 0) r.base r.last r.rep r.torn (.slice none 0 0) w3):=Hi ⟨HX3.out.hr,HX3.out.hd,⟨[],rfl,⟨#[],0,m2,MapKept.stamped_empty 0,by simp,rfl⟩,fun m hm=>(by cases hm)⟩,m3,HX3.out.hb,by have:=HSZ.out;omega,by have:=HSZ.out;omega⟩
   have y4:=blk_cell m3 4
   have ff:=fun i=>blk_free m3 i
   simp only[gA,gB,gC] at y4
   clear m2 HX3 hQ
   repeat' ((fail_if_success (with_reducible (show Code.wp _ (Code.region 15 _ _) _ _ _)));(fail_if_success at_builtin);first|go_values|go_skip|go_guarded|go_step|go_upon|go_back)
   have HY4:=Hi (HY.out.set 4 (.int .i64 0) (fv' := .slice none 0 0) (b':=r.base) (l':=r.last) (r':=r.rep) (t':=0) (dv' := .slice none 0 0) rfl)
   have HQ4:=Hi (blk_set_other HQ.out (show Q≠Q+1+1 by omega) 4 (.int .i64 0))
   have HV4:Hid (RepV (w3.setCell ⟨Q+1+1,4,none⟩ (.int .i64 0)) (wr.heap.size+1) r _ _ _ _):=Hi ⟨own_kb HV.out.so Kb.set m3 (by decide),own_kb HV.out.no Kb.set m3 (by decide),own_kb HV.out.lo Kb.set m3 (by decide),own_kb HV.out.oo Kb.set m3 (by decide),HV.out.dnl,HV.out.dno,HV.out.dlo⟩
   clear m1 m3 y4 ff HQ HY HV
   generalize w3.setCell ⟨Q+1+1,4,none⟩ (.int .i64 0)=w4 at HY4 HQ4 HV4⊢
   have q0:=blk_cell HQ4.out 0
   simp only[gA,gB,gC] at q0
   go_upto_if 58 with fail
   go_cut [13,14,15] (fun s13 s14 s15 wx=>∃ st,Hid (M2 w (Q+1) (Q+1+1) d st (.slice none 0 0) (stayF encM d).2.1 (stayF encM d).2.2.1 (stayF encM d).2.2.2 0 (.slice none 0 0) wx)/\Hid ((st.map Prod.fst).Nodup/\∀ k,getF st k=getF (stayF encM d).1 k))
   case first =>
    have HFS:Hid (FsOk d):=Hi ⟨by rw[<-HDD.out];exact ded_nodup _,fun k b hb=>by
     rw[<-HDD.out,ded_get] at hb
     obtain⟨m,hm,e⟩:=List.mem_map.1 (getF_mem hb)
     have:=HD.out m hm
     rw[e] at this
     exact this⟩
    clear q0
    by_cases he:r.err=0
    ·have t1:(r.err==0)=true:=by simpa using he
     have HST:Hid (stayF encM d=(keptF d r,r.base,r.last,r.rep)):=Hi (by unfold stayF;rw[HR.out,if_pos he])
     have HNL:Hid (r.needed.length<=100000/\r.segs.length<=100000):=Hi (by
      have h1:=look_short d
      rw[HR.out] at h1
      have h2:=congrArg List.length HNS.out.1
      rw[List.length_map] at h2
      have:=HNS.out.2.2
      have:=HL.out
      omega)
     have hnlI:(r.needed.length:Int)<=100000:=by have:=HNL.out.1;omega
     have q12:=blk_cell HQ4.out 12
     simp only[gA,gB,gC] at q12
     have HE:=Hi he
     clear he
     repeat' ((fail_if_success at_builtin);first|go_values|go_skip|go_guarded|go_step|go_upon|go_back)
     clear q12 t1
     go_loopw [62] (fun c wx=>∃ j:Nat,c = .int .i64 j/\j<=r.needed.length/\Hid (M2 w (Q+1) (Q+1+1) d ((r.needed.take j).foldl (fun st n=>setF st n ((getF d n).getD [])) []) (.slice none 0 0) r.base r.last r.rep 0 (.slice none 0 0) wx)/\Hid (∀ (k:Nat) (c:Array Value) (t:TypeId) (f:Nat×Nat),w4.heap[k]?=some (.cells c t f)->wx.heap[k]?=some (.cells c t f))) (fun c _=>r.needed.length-(intOf c).toNat)
     case atStart=>exact⟨0,rfl,Nat.zero_le _,HY4,Hi (fun _ _ _ _ h=>h)⟩
     case round =>
      clear HY4
      obtain⟨j,rfl,hj,HY,HK⟩:=hrel
      by_cases hlt:j<r.needed.length
      ·have hlt':(j:Int)<(r.needed.length:Int):=by omega
       have hltb:decide (j<r.needed.length)=true:=decide_eq_true hlt
       obtain⟨n,hn⟩:∃ n,r.needed[j]?=some n:=⟨_,List.getElem?_eq_getElem hlt⟩
       have HNO:Hid (_:Prop):=Hi (own_hk HV4.out.no (fun k c f hk=>HK.out k c _ f hk))
       obtain⟨g,cap,hv,hcap,hg⟩:=own_shape HNO.out (by omega)
       cases hv
       have q1:wr.cell? ⟨g,j,none⟩=some (.string ⟨n.toArray⟩):=own_cell2 HNO.out j _ (by rw[List.getElem?_map,hn];rfl)
       obtain⟨da,dc,hst,hlk0⟩:=HY.out.hd.look HFS.out.nodup n
       have hlk:=(lookup_dir2 (w.heap.size+1) ⟨n.toArray⟩ false wr).trans hlk0
       obtain⟨st,hstj⟩:∃ st,(r.needed.take j).foldl (fun st n=>setF st n ((getF d n).getD [])) []=st:=⟨_,rfl⟩
       have hnd:(st.map Prod.fst).Nodup:=by rw[<-hstj];exact fold_nodup (fun n=>(n,(getF d n).getD [])) _ (st:=[]) (by simp)
       have HTK:Hid ((r.needed.take (j+1)).foldl (fun st n=>setF st n ((getF d n).getD [])) []=setF st n ((getF d n).getD [])):=Hi (by rw[List.take_add_one,hn,List.foldl_append,hstj];rfl)
       rw[hstj] at HY
       obtain⟨w5,hput,hY5,-,hblk⟩:=HY.out.put hnd ⟨(n,(getF d n).getD []),da,dc⟩ hst
       dsimp only at hput hY5
       have HY5:=Hi hY5
       have HK5:Hid (∀ (k:Nat) (c:Array Value) (t:TypeId) (f:Nat×Nat),w4.heap[k]?=some (.cells c t f)->w5.heap[k]?=some (.cells c t f)):=Hi (fun k c t f hk=>(hblk k (HY.out.hs.ne (HK.out k c t f hk))).trans (HK.out k c t f hk))
       have HLT:=Hi hlt
       clear hst hlk0 hstj hnd hY5 hblk hlt hj hn hcap hg
       repeat' ((fail_if_success at_builtin);first|go_values|go_skip|go_guarded|go_step|go_upon|go_back)
       go_roundw
       case rel=>exact⟨j+1,by go_num,HLT.out,by rw[HTK.out];exact HY5,HK5⟩
       case measure=>have:=HLT.out;simp[intOf];omega
      ·have hje:j=r.needed.length:=by omega
       subst hje
       have hlt2:decide (r.needed.length<r.needed.length)=false:=by simp
       rw[List.take_length] at HY
       obtain⟨st,hstj⟩:∃ st,r.needed.foldl (fun st n=>setF st n ((getF d n).getD [])) []=st:=⟨_,rfl⟩
       have HND:Hid ((st.map Prod.fst).Nodup):=Hi (by rw[<-hstj];exact fold_nodup (fun n=>(n,(getF d n).getD [])) _ (st:=[]) (by simp))
       rw[hstj] at HY
       have HSJ:=Hi hstj
       have HQ5:=Hi (HK.out _ _ _ _ HQ4.out)
       have HSO:Hid (_:Prop):=Hi (own_hk HV4.out.so (fun k c f hk=>HK.out k c _ f hk))
       have q11:=blk_cell HQ5.out 11
       simp only[gA,gB,gC] at q11
       clear hlt hj hstj
       have hsc:r.segs=[]\/∃ l0 f e,r.segs=l0++[(f,e)]:=by
        cases h:r.segs.getLast? with
        | none=>exact .inl (List.getLast?_eq_none_iff.1 h)
        | some s=>exact .inr ⟨_,s.1,s.2,(List.getLast?_eq_some_iff.1 h).choose_spec⟩
       rcases hsc with hs0|⟨l0,f,e,hs0⟩
       ·have hl0:r.segs.length=0:=by rw[hs0];rfl
        have t5:decide (0<r.segs.length)=false:=by rw[hl0];rfl
        have HKF:Hid (keptF d r=st):=Hi (by unfold keptF;dsimp only;rw[HSJ.out,hs0];rfl)
        clear hs0 hl0
        repeat' ((fail_if_success at_builtin);first|go_values|go_skip|go_guarded|go_step|go_upon|go_back)
        go_meet
        case rel=>exact⟨st,by rw[HST.out];exact HY,Hi ⟨HND.out,fun k=>by rw[HST.out,HKF.out]⟩⟩
       ·obtain⟨en,dd,rfl,hgd,hle⟩:=last_small (d:=d) (by rw[HR.out];exact HE.out) (l0:=l0) (f:=f) (e:=e) (by rw[HR.out];exact hs0)
        have hlen0:r.segs.length=l0.length+1:=by rw[hs0];simp
        have hat:r.segs[l0.length]?=some (f,(en:Int)):=by rw[hs0,List.getElem?_append_right (Nat.le_refl _),Nat.sub_self];rfl
        have t5:decide (0<r.segs.length)=true:=decide_eq_true (by omega)
        have hsl:=HNL.out.2
        have wl:IntKind.i64.wrap ((r.segs.length:Int)-1)=(l0.length:Int):=by rw[show (r.segs.length:Int)-1=(l0.length:Int) by omega];exact IntWalk.i64_in _ (by omega)
        obtain⟨g,cap,hv,hcap,hg⟩:=own_shape HSO.out (by omega)
        cases hv
        have z0:wr.cell? ⟨g,l0.length*2,none⟩=some (.int .i64 f):=own_cell2 HSO.out _ _ (flat_at segRow 2 (fun _=>rfl) r.segs l0.length (f,(en:Int)) 0 hat (by omega))
        have z1:wr.cell? ⟨g,l0.length*2+1,none⟩=some (.int .i64 (en:Int)):=own_cell2 HSO.out _ _ (flat_at segRow 2 (fun _=>rfl) r.segs l0.length (f,(en:Int)) 1 hat (by omega))
        have hltI:(l0.length:Int)<(r.segs.length:Int):=by omega
        have hwr:(r.segs.length:Int)-1=(l0.length:Int):=by omega
        obtain⟨nm,hnm⟩:∃ nm,nameOf logH f=nm:=⟨_,rfl⟩
        rw[hnm] at hgd
        obtain⟨da,dc,hla⟩:=HY.out.hd.look_all HFS.out.nodup nm
        rw[hgd] at hla
        have HLA:=Hi hla
        have HNM:=Hi hnm
        have HKF:Hid (keptF d r=setF st nm (dd.take en)):=Hi (by
         unfold keptF;dsimp only
         rw[HSJ.out,hs0,List.getLast?_append]
         show setF st (nameOf logH f) (((getF d (nameOf logH f)).getD []).take (en:Int).toNat)=_
         rw[hnm,hgd];rfl)
        have hdle:=((hla wr rfl (KpD.refl _ _)).1).le
        have hsl:=fun W=>run_bpre (W:=W) (a:=da) (n:=dd.length) (c:=dc) (hi:=en) (by have h:=hdle;dsimp only [Option.getD] at h;omega)
        have htl:(dd.take en).length=en:=by rw[List.length_take];omega
        have HTL:=Hi (And.intro htl hle)
        have m5:=blk_new wr (.cells #[.int .i64 f,.int .i64 (en:Int)] 61)
        have hb5:Below wr.heap.size wr (wr.alloc (.cells #[.int .i64 f,.int .i64 (en:Int)] 61)):=(Below.refl _ _).alloc (Nat.le_refl _) _
        clear hs0 hat hcap hg hnm hgd hla hdle htl hlen0
        repeat' ((fail_if_success (with_reducible (show Code.wp _ (Code.region 24 _ _) _ _ _)));(fail_if_success at_builtin);first|go_values|go_skip|go_guarded|go_step|go_upon|go_back)
        clear z0 z1 q11 t5 wl hltI hwr
        generalize wr.alloc (.cells #[.int .i64 f,.int .i64 (en:Int)] 61)=w6 at m5 hb5⊢
        obtain⟨X,hX⟩:∃ X,wr.heap.size=X:=⟨_,rfl⟩
        rw[hX] at m5⊢
        have HM6:=Hi m5
        have HY6:=Hi (HY.out.below hb5)
        have HLA6:Hid (∀ V,Below w6.heap.size w6 V->FBm.stays V w.heap.size ⟨(nm,dd),da,dc⟩/\(Instr.lookup 137 (.map (some (w.heap.size+1))) (.string ⟨nm.toArray⟩) false).run Tryz.prog V = .ok (.slice da dd.length dc) V):=Hi (fun V hV=>by
         have hb:Below wr.heap.size wr V:=hb5.trans (hV.mono hb5.size)
         obtain⟨h1,h2⟩:=HLA.out V (hb.block _ HY.out.hd.lt) (KpD.of_below hb)
         exact⟨h1,(lookup_dir2 _ _ _ _).trans h2⟩)
        have hbr:Below w6.heap.size w6 w6:=Below.refl _ _
        have x0:=blk_cell HM6.out 0
        have x1:=blk_cell HM6.out 1
        simp only[gA,gB,gC] at x0 x1
        clear m5 hb5 hX HLA HY HK HSO HQ5
        go_region_held3 (fun w'=>w'.cell? ⟨X,0,none⟩=some (.int .i64 f)/\w'.cell? ⟨X,1,none⟩=some (.int .i64 (en:Int))) (first|exact⟨x0,x1⟩|exact⟨o8,o8b⟩|exact⟨o9,o9b⟩) (first
         | (go_at_call 79;refine(sname_any _ f).mono ?_;rintro e1 w8 ⟨rfl,hb8x⟩;rw[HNM.out];have hbr:=(show Below w6.heap.size w6 w8 from (by first|exact hbr.trans (hb8x.mono hbr.size)|exact hbr.trans (((Below.refl _ _).drew.trans hb8x).mono hbr.size)|exact hbr.trans (((bdrewN (Below.refl _ _) _).trans hb8x).mono hbr.size)|exact hb8x|exact(Below.refl _ _).drew.trans hb8x|exact(bdrewN (Below.refl _ _) _).trans hb8x));have HX8:=Hi (HY6.out.below hbr);obtain⟨hst8,hlk⟩:=HLA6.out w8 hbr;obtain⟨wS,hS9,hXS,-,hblk⟩:=HX8.out.put HND.out ⟨(nm,dd.take en),da,dc⟩ (hst8.take en HTL.out.2);dsimp only at hS9 hXS;rw[HTL.out.1] at hS9;have HM8:=Hi (blk_below hbr HM6.out (blk_lt HM6.out));have o8:=blk_cell HM8.out 0;have o8b:=blk_cell HM8.out 1;have HM9:=Hi ((hblk X (HX8.out.hs.ne HM8.out)).trans HM8.out);have o9:=blk_cell HM9.out 0;have o9b:=blk_cell HM9.out 1;simp only[gA,gB,gC] at o8 o8b o9 o9b;have HXS:=Hi hXS;clear hb8x hXS hst8 hblk))
        repeat' ((fail_if_success at_builtin);first|go_values|go_skip|go_guarded|go_step|go_upon|go_back)
        go_meet
        case rel=>exact⟨setF st nm (dd.take en),by rw[HST.out];exact HXS,Hi ⟨set_nodup HND.out _ _,fun k=>by rw[HST.out,HKF.out]⟩⟩
    ·have t1:(r.err==0)=false:=by simpa using he
     have HST:Hid (stayF encM d=((ledF encM d).1,(ledF encM d).2.mark,(ledF encM d).2.stop,(ledF encM d).2.stop-(ledF encM d).2.mark)):=Hi (by unfold stayF;rw[HR.out,if_neg he])
     have HDL:Hid (d.length<=1000000):=Hi (by have h1:=congrArg List.length HNS.out.1;rw[List.length_map] at h1;have:=HNS.out.2.2;have:=HL.out;omega)
     have HS0:Hid (MP w4 .string (Q+1) []):=Hi (by
      obtain⟨m0,h1,h2,-⟩:=HY4.out.hs
      have:m0=[]:=List.map_eq_nil_iff.1 h1
      subst this
      exact h2)
     clear he HV4 HQ4
     repeat' ((fail_if_success at_builtin);first|go_values|go_skip|go_guarded|go_step|go_upon|go_back)
     refine(led_any w4 HY4.out.hd HFS.out HDL.out HS0.out (by have:=HSZ.out;omega) (by have:=HSZ.out;omega)).mono ?_
     rintro e1 w5 ⟨rfl,⟨st,hD,hnd,hget⟩,hfr⟩
     dsimp only
     have HY5:=Hi (HY4.out.led hfr hD)
     have HSD:=Hi (And.intro hnd hget)
     clear hD hnd hget hfr HS0 HY4 t1
     have y1:=blk_cell HY5.out.ho 1;have y2:=blk_cell HY5.out.ho 2;have y3:=blk_cell HY5.out.ho 3;have y4:=blk_cell HY5.out.ho 4
     have ff:=fun i=>blk_free HY5.out.ho i
     simp only[mendB,gA,gB,gC] at y1 y2 y3 y4
     obtain⟨bb,hbb⟩:∃ bb,(ledF encM d).2.mark=bb:=⟨_,rfl⟩
     obtain⟨sl,hsl⟩:∃ sl,(ledF encM d).2.stop=sl:=⟨_,rfl⟩
     rw[hbb,hsl] at HST⊢
     have HY6:=Hi ((((HY5.out.set 1 (.int .i64 bb) (fv' := .slice none 0 0) (b':=bb) (l':=r.last) (r':=r.rep) (t':=0) (dv' := .slice none 0 0) rfl).set 2 (.int .i64 sl) (fv' := .slice none 0 0) (b':=bb) (l':=sl) (r':=r.rep) (t':=0) (dv' := .slice none 0 0) rfl).set 3 (.int .i64 (sl-bb)) (fv' := .slice none 0 0) (b':=bb) (l':=sl) (r':=sl-bb) (t':=0) (dv' := .slice none 0 0) rfl).set 4 (.int .i64 0) (fv' := .slice none 0 0) (b':=bb) (l':=sl) (r':=sl-bb) (t':=0) (dv' := .slice none 0 0) rfl)
     clear hbb hsl
     repeat' ((fail_if_success at_builtin);first|go_values|go_skip|go_guarded|go_step|go_upon|go_back)
     go_meet
     case rel=>exact⟨st,by rw[HST.out];exact HY6,Hi ⟨HSD.out.1,fun k=>by rw[HST.out];exact HSD.out.2 k⟩⟩
   case rest =>
    obtain⟨st1,HY,HS1⟩:=hcut
    obtain⟨bb,hbb⟩:∃ bb,(stayF encM d).2.1=bb:=⟨_,rfl⟩
    obtain⟨ls,hls⟩:∃ ls,(stayF encM d).2.2.1=ls:=⟨_,rfl⟩
    obtain⟨rs,hrs⟩:∃ rs,(stayF encM d).2.2.2=rs:=⟨_,rfl⟩
    rw[hbb,hls,hrs] at HY
    have HSY:=Hi (And.intro hbb (And.intro hls hrs))
    have HND:Hid ((d.map Prod.fst).Nodup):=Hi (by rw[<-HDD.out];exact ded_nodup _)
    have HDL:Hid (d.length<=100000):=Hi (by have h1:=congrArg List.length HNS.out.1;rw[List.length_map] at h1;have:=HNS.out.2.2;have:=HL.out;omega)
    obtain⟨msd,hmsd,hMP,hstd⟩:=HY.out.hd
    have HMS:=Hi hmsd
    obtain⟨o,hrun,hMR⟩:=hMP.range (P:=Tryz.prog) 137 9 27 und_dir
    have hbo:Below wc.heap.size wc (wc.alloc o):=(Below.refl _ _).alloc (Nat.le_refl _) _
    have HY5:=Hi (HY.out.below hbo)
    have HRR:Hid (w.heap.size+1<wc.heap.size/\Q+1<wc.heap.size/\Q+1+1<wc.heap.size):=Hi ⟨HY.out.hd.lt,HY.out.hs.lt,blk_lt HY.out.ho⟩
    have HSTD:Hid (∀ m∈msd,m.stays (wc.alloc o) w.heap.size):=Hi (fun m hm=>(hstd m hm).kept (KpD.of_below hbo))
    obtain⟨rr,hrr⟩:∃ rr,wc.heap.size=rr:=⟨_,rfl⟩
    clear hbb hls hrs HV4 HQ4 HY4 q0 hmsd hMP hstd hbo HY
    repeat' ((fail_if_success at_builtin);first|go_values|go_skip|go_guarded|go_step|go_upon|go_back)
    rw[hrr] at HRR hMR
    generalize wc.alloc o=w5 at hMR HY5 HSTD⊢
    have HMR:=Hi hMR
    clear hMR hrun hrr
    go_loopw [] (fun wr=>∃ (done todo:List FBm) (tv:List (Value×Value)) (dv:Value),Hid (M2 w (Q+1) (Q+1+1) d (withO (done.map FBm.f) st1) (.slice none 0 0) bb ls rs 0 dv wr)/\Hid (MR wr .string (w.heap.size+1) rr (msd.map FBm.ent) tv)/\Hid ((todo.map FBm.ent).Perm tv)/\Hid ((done++todo).Perm msd)/\Hid (∀ m∈msd,m.stays wr w.heap.size)/\Hid (wr.ownsRow w.heap.size 9 1 dv (((done.map FBm.f).filter fun x=>ownB x.1&&(getF st1 x.1).isNone).map Prod.fst).length ((((done.map FBm.f).filter fun x=>ownB x.1&&(getF st1 x.1).isNone).map Prod.fst).map encS))) (fun wr=>wr.rangeLeft (w.heap.size+1) rr)
    case atStart=>exact⟨[],msd,msd.map FBm.ent,.slice none 0 0,HY5,HMR,Hi (List.Perm.refl _),Hi (List.Perm.refl _),HSTD,Hi (World.ownsRow_nil _ _ _ _)⟩
    case round =>
     clear HY5 HMR HSTD
     obtain⟨done,todo,tv,dv,HY,HM,HT,HP,HSM,HDO⟩:=hrel
     rcases HM.out.next (P:=Tryz.prog) 0 with⟨h0,hnext⟩|⟨x,tv',w6,hx,hpm,hnext,hM6,hent,hos,htp,hou,hsz,hblk⟩
     ·have htd:todo=[]:=by
       have h1:=HT.out.length_eq
       rw[h0] at h1
       simpa using h1
      subst htd
      have hpd:(done.map FBm.f).Perm d:=by
       have h:=HP.out.map FBm.f
       rw[List.append_nil,HMS.out] at h
       exact h
      obtain⟨st2,hst2⟩:∃ st2,withO (done.map FBm.f) st1=st2:=⟨_,rfl⟩
      have HN2:Hid ((st2.map Prod.fst).Nodup):=Hi (by rw[<-hst2];exact with_nodup _ HS1.out.1)
      have HG2:Hid (∀ k,getF st2 k=getF (withO d st1) k):=Hi (fun k=>by rw[<-hst2];exact with_perm HND.out hpd k)
      obtain⟨dl,hdl⟩:∃ dl,((done.map FBm.f).filter fun x=>ownB x.1&&(getF st1 x.1).isNone).map Prod.fst=dl:=⟨_,rfl⟩
      have hdp:dl.Perm ((d.filter fun x=>ownB x.1&&(getF st1 x.1).isNone).map Prod.fst):=by rw[<-hdl];exact(hpd.filter _).map _
      have HDLL:Hid (dl.length<=100000):=Hi (by
       have h1:=hdp.length_eq
       rw[List.length_map] at h1
       have:=List.length_filter_le (fun x:Bs×Bs=>ownB x.1&&(getF st1 x.1).isNone) d
       have:=HDL.out
       omega)
      have HMD:Hid (mendF encM (ms.map FBm.f)=⟨(sortN st2).map fun n=>(n,(getF st2 n).getD []),bb,ls,rs,dl.mergeSort leN⟩):=Hi (by
       have h:=mend_is encM (ms.map FBm.f) (st1:=st1) (st2:=st2) (dl:=dl) (by rw[HDD.out];exact HS1.out.2) HN2.out (by rw[HDD.out];exact HG2.out) (by rw[HDD.out];exact hdp)
       rw[HDD.out,HSY.out.1,HSY.out.2.1,HSY.out.2.2] at h
       exact h)
      have HNM2:Hid ((∀ n∈st2.map Prod.fst,n.length<=1000000)/\st2.length<=100001):=Hi (by
       obtain⟨q1,q2⟩:=st_names HND.out HS1.out.2 HN2.out HG2.out
       refine⟨fun n hn=>?_,by have:=HDL.out;omega⟩
       rcases q1 n hn with h|h
       ·obtain⟨x,hx,rfl⟩:=List.mem_map.1 h
        rw[<-HNS.out.1] at hx
        obtain⟨m,hm,rfl⟩:=List.mem_map.1 hx
        exact HN.out m (HNS.out.2.1 m hm)
       ·rw[h];decide)
      rw[hst2] at HY
      rw[hdl] at HDO
      have y5:=blk_cell HY.out.ho 5
      simp only[mendB,gA,gB,gC] at y5
      obtain⟨dva,dvc,rfl,-,-,-,-⟩:=own_rowT HDO.out
      clear h0 hpd hst2 hdl hdp
      repeat' ((fail_if_success at_builtin);first|go_values|go_skip|go_guarded|go_step|go_upon|go_back)
      clear y5 hnext
      refine(own_sortS wr HDO.out (by have:=HDLL.out;omega)).mono ?_
      rintro e1 w6 ⟨rfl,ho6,hg6⟩
      dsimp only
      have HY6:=Hi (HY.out.grown0 HDO.out (by decide) (by decide) (Nat.le_refl _) hg6)
      have HD6:=Hi ho6
      clear ho6 hg6 HDO HY
      repeat' ((fail_if_success at_builtin);first|go_values|go_skip|go_guarded|go_step|go_upon|go_back)
      refine(mapKeys_any w6 (some (Q+1))).mono ?_
      rintro e1 w7 ⟨rfl,rfl⟩
      dsimp only
      have m7:=blk_new w6 (.cells #[.map (some (Q+1))] 118)
      have hb7:Below w6.heap.size w6 (w6.alloc (.cells #[.map (some (Q+1))] 118)):=(Below.refl _ _).alloc (Nat.le_refl _) _
      obtain⟨Bm,hBm⟩:∃ Bm,w6.heap.size=Bm:=⟨_,rfl⟩
      rw[hBm] at m7
      have HY7:=Hi (HY6.out.below hb7)
      have HD7:=Hi (own_below HD6.out hb7)
      obtain⟨msx,hmsx,hMPx,hstx⟩:=HY7.out.hs
      have hkx:(msx.map FBm.ent).map Prod.fst=(st2.map Prod.fst).map fun s => .string ⟨s.toArray⟩:=by rw[<-hmsx,List.map_map,List.map_map,List.map_map];rfl
      have hlx:(msx.map FBm.ent).length<=1000000:=by
       have h1:=congrArg List.length hmsx
       rw[List.length_map] at h1
       rw[List.length_map]
       have:=HNM2.out.2
       omega
      have hsk:=sortedKeys_any (w6.alloc (.cells #[.map (some (Q+1))] 118)) Bm (Q+1) _ (st2.map Prod.fst) (blk_cell m7 0) (by rw[<-hBm];simp) hMPx hkx (fun s hs=>by have:=HNM2.out.1 s hs;unfold maxLen;omega) hlx
      have HSK:=Hi hsk
      have HB7:Hid (Bm<(w6.alloc (.cells #[.map (some (Q+1))] 118)).heap.size):=Hi (by rw[<-hBm];simp)
      clear hmsx hMPx hstx hkx hlx hsk m7 hb7 HY6 HD6
      generalize w6.alloc (.cells #[.map (some (Q+1))] 118)=w7 at HSK HY7 HD7 HB7⊢
      repeat' ((fail_if_success at_builtin);first|go_values|go_skip|go_guarded|go_step|go_upon|go_back)
      refine HSK.out.mono ?_
      rintro e1 w8 ⟨v8,rfl,ho8,hb8⟩
      dsimp only
      obtain⟨nl,hnl⟩:∃ nl,sortN st2=nl:=⟨_,rfl⟩
      have hnlen:(st2.map Prod.fst).length=nl.length:=by rw[<-hnl];unfold sortN;rw[List.length_mergeSort]
      have ho8':w8.ownsRow w7.heap.size 9 1 v8 nl.length (nl.map encS):=by
       rw[<-hnl,<-show ((st2.map Prod.fst).mergeSort leN).length=(sortN st2).length from rfl,List.length_mergeSort]
       exact ho8
      have HNL2:Hid (nl.length<=100001):=Hi (by rw[<-hnlen,List.length_map];exact HNM2.out.2)
      have HNIN:Hid (∀ n∈nl,n∈st2.map Prod.fst):=Hi (fun n hn=>by rw[<-hnl] at hn;unfold sortN at hn;rwa [List.mem_mergeSort] at hn)
      rw[hnl] at HMD
      obtain⟨va,vc,rfl,hvc,-,-,-⟩:=own_rowT ho8'
      have HO8:=Hi ho8'
      have HY8:=Hi (HY7.out.below hb8)
      have HD8:=Hi (own_below HD7.out hb8)
      have hnlI:(nl.length:Int)<=100001:=by have:=HNL2.out;omega
      have HW7:Hid (w.heap.size<=w7.heap.size):=Hi (Nat.le_of_lt HY7.out.size)
      clear ho8 ho8' hb8 hnl hnlen hvc HSK HY7 HD7 HB7 hBm
      repeat' ((fail_if_success at_builtin);first|go_values|go_skip|go_guarded|go_step|go_upon|go_back)
      go_loopw [135] (fun c wr=>∃ (j:Nat) (fv:Value) (xs:List FBm),c = .int .i64 j/\j<=nl.length/\Hid (M2 w (Q+1) (Q+1+1) d st2 fv bb ls rs 0 (.slice dva dl.length dvc) wr)/\Hid (wr.ownsRow w.heap.size 9 1 (.slice dva dl.length dvc) dl.length ((dl.mergeSort leN).map encS))/\Hid (wr.ownsRow w7.heap.size 9 1 (.slice va nl.length vc) nl.length (nl.map encS))/\Hid (wr.ownsRow w.heap.size 55 2 fv xs.length (xs.flatMap FBm.row))/\Hid (xs.map FBm.f=(nl.take j).map fun n=>(n,(getF st2 n).getD []))/\Hid (∀ x∈xs,OwnB wr w.heap.size (.slice x.a x.f.2.length x.c) x.f.2)) (fun c _=>nl.length-(intOf c).toNat)
      case atStart=>exact⟨0,_,[],rfl,Nat.zero_le _,HY8,HD8,HO8,Hi (World.ownsRow_nil _ _ _ _),Hi rfl,Hi (fun x hx=>(by cases hx))⟩
      case round =>
       clear HY8 HD8 HO8
       obtain⟨j,fv,xs,rfl,hj,HY,HDR,HNR,HFR,HXF,HXO⟩:=hrel
       have HXL:Hid (xs.length=j):=Hi (by have:=congrArg List.length HXF.out;rw[List.length_map,List.length_map,List.length_take] at this;omega)
       by_cases hlt:j<nl.length
       ·have hlt':(j:Int)<(nl.length:Int):=by omega
        have hltb:decide (j<nl.length)=true:=decide_eq_true hlt
        obtain⟨n,hn⟩:∃ n,nl[j]?=some n:=⟨_,List.getElem?_eq_getElem hlt⟩
        obtain⟨g,cap,hv,hcap,hg⟩:=own_shape HNR.out (by omega)
        cases hv
        have q1:wr.cell? ⟨g,j,none⟩=some (.string ⟨n.toArray⟩):=own_cell2 HNR.out j _ (by rw[List.getElem?_map,hn];rfl)
        have HTK:Hid (nl.take (j+1)=nl.take j++[n]):=Hi (by rw[List.take_add_one,hn];rfl)
        obtain⟨b,hgb⟩:=getF_some (HNIN.out n (List.mem_of_getElem? hn))
        obtain⟨da,dc,hla⟩:=HY.out.hs.look_all HN2.out n
        rw[hgb] at hla
        have hlk:=(hla wr.drew rfl (KpD.of_below (Below.refl _ _).drew)).2
        have hst:=(hla wr rfl (KpD.refl _ _)).1
        have HBS:=Hi hst.bs
        dsimp only at HBS
        have HBL:Hid (b.length<=35184372088832):=Hi (by
         have h1:=(mend_small (ms.map FBm.f) (A:=1000000) (B:=4294967296) (by omega) (by omega) (fun x hx=>by obtain⟨m,hm,rfl⟩:=List.mem_map.1 hx;exact HN.out m hm) (fun x hx=>by obtain⟨m,hm,rfl⟩:=List.mem_map.1 hx;exact HD.out m hm)).2.1 (n,(getF st2 n).getD []) (by rw[HMD.out];exact List.mem_map.2 ⟨n,List.mem_of_getElem? hn,rfl⟩)
         have h2:=h1.2
         dsimp only at h2
         rw[hgb] at h2
         exact Nat.le_trans h2 (by omega))
        have HGB:=Hi hgb
        have HLT:=Hi hlt
        obtain⟨fva,fvc,rfl,-,-,-,-⟩:=own_rowT HFR.out
        have c0:=blk_cell HY.out.ho 0
        simp only[mendB,gA,gB,gC] at c0
        obtain⟨i0,hi0,hz0,hz1,hz2⟩:=info_parts Tryz.infoFB
        clear hst hla hgb hlt hj hn hcap hg
        repeat' ((fail_if_success (with_reducible (show Code.wp _ (Code.region 38 _ _) _ _ _)));(fail_if_success at_builtin);first|go_values|go_skip|go_guarded|go_step|go_upon|go_back)
        clear q1
        have hbr:Below wr.heap.size wr wr:=Below.refl _ _
        go_region_law (first
         | (go_simp;(with_reducible refine(clone_any _ da dc b ?_ HBL.out).mono ?_);(first|exact HBS.out|exact HBS.out.below (Below.refl _ _).drew|exact HBS.out.below (bdrewN (Below.refl _ _) _));rintro e1 w9 ⟨v9,rfl,ho9,hb9x⟩;have hb9:=(show Below wr.heap.size wr w9 from (by first|exact hb9x|exact(Below.refl _ _).drew.trans hb9x|exact(bdrewN (Below.refl _ _) _).trans hb9x));have hov:=(show OwnB w9 w.heap.size v9 b from (by first|exact ho9.lower (Nat.le_of_lt HY.out.size)|exact(show OwnB w9 wr.heap.size v9 b from ho9).lower (Nat.le_of_lt HY.out.size)));obtain⟨ca,cc,rfl,-,-⟩:=hov.shape;have HY9:=Hi (HY.out.below hb9);have HF9:=Hi (own_below HFR.out hb9);have HOV:=Hi hov;have c9:=blk_cell HY9.out.ho 0;have c9a:=(fun o=>blk_cell (blk_alloc HY9.out.ho o) 0);simp only[mendB,gA,gB,gC] at c9 c9a;have HB9:=Hi hb9;clear hb9x hb9 ho9 hov)
         | ((refine step_append_lies _ (by rfl) _ _ _ (by rfl) w.heap.size 55 i0 _ 2 40 Tryz.underlying40 hi0 hz0 hz1 hz2 rfl (by omega) (.slice fva xs.length fvc) xs.length (xs.flatMap FBm.row) (by rfl) (own_below HF9.out ((Below.refl _ _).alloc (Nat.le_refl _) _)) ⟨w9.heap.size,0,none⟩ 1 1 [.string ⟨n.toArray⟩,.slice ca b.length cc] (by rfl) (by rfl) (World.news_of_block (cs:=#[.string ⟨n.toArray⟩,.slice ca b.length cc]) (t:=55) (fr:=(0,0)) (heap_alloc_new w9 _)) (by simp[Value.oneCell']) (by omega) (by unfold maxLen;have:=HXL.out;have:=HLT.out;have:=HNL2.out;omega) (by have:=HXL.out;have:=HLT.out;have:=HNL2.out;omega) (by have:=HY9.out.size;simp;omega) (w9.heap.size+1) (by simp) ?_;intro gg cap w12 hown12 hgrow hat hlt12;have HY12:=Hi (HY9.out.grown _ HF9.out (by decide) (by decide) (Nat.le_refl _) hgrow);have s0:=blk_cell HY12.out.ho 0;have s1:=blk_free HY12.out.ho 0;simp only[mendB,gA,gB,gC] at s0)))
        all_goals (obtain⟨e1,e2,e3,e4⟩:=HY9.out.appF _ HF9.out hgrow hown12)
        all_goals (have HE1:=Hi e1;have HE2:=Hi e2;have HE3:=Hi e3;have HE5:=Hi (e4 (by decide) (by decide) (own_below HDR.out HB9.out));have HE6:=Hi (e4 (by decide) (by decide) (own_below HNR.out HB9.out)))
        all_goals (clear s0 s1 c0 c9 c9a hgrow hown12 e1 e2 e3 e4 hat hlt12 HY12)
        all_goals ((repeat' ((fail_if_success at_builtin);first|go_values|go_skip|go_guarded|go_step|go_upon|go_back)))
        all_goals (go_roundw;case rel=>exact⟨j+1,_,xs++[(⟨(n,b),ca,cc⟩:FBm)],by go_num,HLT.out,HE1,HE5,HE6,Hi (by rw[List.length_append,List.flatMap_append];exact HE2.out),Hi (by rw[HTK.out,List.map_append,List.map_append,HXF.out];show _++[(n,b)]=_++[(n,(getF st2 n).getD [])];rw[HGB.out];rfl),Hi (fun x hx=>by
         rcases List.mem_append.1 hx with hx|hx
         ·exact((HXO.out x hx).kpd (KpD.of_below HB9.out) (n1:=0)).kpd HE3.out
         ·obtain rfl:x=⟨(n,b),ca,cc⟩:=by simpa using hx
          exact HOV.out.kpd HE3.out)⟩)
        all_goals (have:=HLT.out;simp[intOf];omega)
       ·have hje:j=nl.length:=by omega
        subst hje
        have hltb:decide (nl.length<nl.length)=false:=by simp
        rw[List.take_length] at HXF
        obtain⟨fva,fvc,rfl,-,-,-,-⟩:=own_rowT HFR.out
        have k0:=blk_cell HY.out.ho 0;have k1:=blk_cell HY.out.ho 1;have k2:=blk_cell HY.out.ho 2;have k3:=blk_cell HY.out.ho 3;have k4:=blk_cell HY.out.ho 4;have k5:=blk_cell HY.out.ho 5
        have r0:=blk_cell HY.out.hr 0;have r1:=blk_cell HY.out.hr 1;have r2:=blk_cell HY.out.hr 2;have r3:=blk_cell HY.out.hr 3;have r4:=blk_cell HY.out.hr 4;have r5:=blk_cell HY.out.hr 5
        have ff:=fun i=>blk_free HY.out.hr i
        simp only[mendB,gA,gB,gC] at k0 k1 k2 k3 k4 k5 r0 r1 r2 r3 r4 r5
        have hs6:=set6_mend HY.out.hr (.slice fva xs.length fvc) (.slice dva dl.length dvc) bb ls rs 0
        have hb6:=below6 HY.out.hb (.slice fva xs.length fvc) (.slice dva dl.length dvc) bb ls rs 0
        have hk6:=kpd6 HY.out.hr (.slice fva xs.length fvc) (.slice dva dl.length dvc) bb ls rs 0
        have s0:=blk_cell hs6 0;have s1:=blk_cell hs6 1;have s2:=blk_cell hs6 2;have s3:=blk_cell hs6 3;have s4:=blk_cell hs6 4;have s5:=blk_cell hs6 5
        simp only[mendB,gA,gB,gC] at s0 s1 s2 s3 s4 s5
        have HB6:=Hi hb6
        have HK6:=Hi hk6
        have hdlen:(dl.mergeSort leN).length=dl.length:=List.length_mergeSort _
        have HDN:=Hi hdlen
        clear hs6 hb6 hk6 hlt hj hdlen
        repeat' ((fail_if_success at_builtin);first|go_values|go_skip|go_guarded|go_step|go_upon|go_back)
        clear k0 k1 k2 k3 k4 k5 r0 r1 r2 r3 r4 r5 ff
        refine bodyPost_ret (v:=(.agg #[.slice fva xs.length fvc,.int .i64 bb,.int .i64 ls,.int .i64 rs,.int .i64 0,.slice dva dl.length dvc])) (by simp[results,Tryz.results33,go_sem,s0,s1,s2,s3,s4,s5]) rfl ?_
        refine⟨.slice fva xs.length fvc,.slice dva dl.length dvc,by rw[HMD.out],⟨⟨xs,by rw[HMD.out];exact HXF.out,own_hk HFR.out (fun k c f hb=>HK6.out.2 k c _ f (by decide) hb),fun x hx=>(HXO.out x hx).kpd HK6.out.1⟩,?_⟩,HB6.out⟩
        rw[HMD.out]
        dsimp only
        rw[HDN.out]
        exact own_hk HDR.out (fun k c f hb=>HK6.out.2 k c _ f (by decide) hb)
     ·obtain⟨m,todo',rfl,htd,hpt⟩:=perm_map FBm.ent (HT.out.trans hpm)
      have hml:m∈msd:=HP.out.mem_iff.1 (List.mem_append_right _ (hpt.mem_iff.2 (List.mem_cons_self ..)))
      have hu:∀ cur f,wr.heap[rr]? ≠ some (.cells cur 5 f):=fun cur f e=>HM.out.ne e rfl
      have HY6:=Hi (HY.out.turn (g:=rr) HRR.out.1 (by have:=HRR.out;omega) (by have:=HRR.out;omega) hu hos htp hou hsz hblk)
      have HSM6:Hid (∀ m∈msd,m.stays w6 w.heap.size):=Hi (fun m hm=>(HSM.out m hm).kept (KpD.turn (by have:=HRR.out;omega) hu hblk))
      have HDO6:Hid (_:Prop):=Hi (own_hk HDO.out (fun k c f hk=>(hblk k (HM.out.ne hk)).trans hk))
      have HDN:Hid (((done.map FBm.f).map Prod.fst).Nodup):=Hi (by
       have h1:((msd.map FBm.f).map Prod.fst).Nodup:=by rw[HMS.out];exact HND.out
       have h2:=((HP.out.map FBm.f).map Prod.fst).nodup_iff.2 h1
       rw[List.map_append,List.map_append] at h2
       exact(List.nodup_append.1 h2).1)
      have HP6:Hid ((done++[m]++todo').Perm msd):=Hi (by
       refine List.Perm.trans ?_ HP.out
       rw[List.append_assoc]
       exact List.Perm.append_left done hpt.symm)
      have HLE:Hid (w6.rangeLeft (w.heap.size+1) rr<wr.rangeLeft (w.heap.size+1) rr):=Hi (by rw[hM6.left,HM.out.left,hpm.length_eq,List.length_cons];omega)
      have HM6:=Hi hM6
      have HTD:=Hi htd
      have HML:=Hi hml
      have HWN:Hid (((withO (done.map FBm.f) st1).map Prod.fst).Nodup):=Hi (with_nodup _ HS1.out.1)
      obtain⟨⟨nm,dat⟩,da,dc⟩:=m
      unfold FBm.ent encS at hnext hent
      dsimp only at hnext hent
      clear hx hpm hM6 hos htp hou hsz hblk hpt hml htd hu HY HM HT HP HSM HDO
      obtain⟨ow,how⟩:∃ ow,ownB nm=ow:=⟨_,rfl⟩
      have HOW:=Hi how
      obtain⟨kv,hkv,hlk⟩:∃ kv:Value,True/\(Instr.lookup 118 (.map (some (Q+1))) (.string ⟨nm.toArray⟩) true).run Tryz.prog w6 = .ok (.tuple #[kv,.bool (getF (withO (done.map FBm.f) st1) nm).isSome]) w6:=by
       cases hg:getF (withO (done.map FBm.f) st1) nm with
       | none=>exact⟨_,trivial,HY6.out.hs.none hg true⟩
       | some b =>
        obtain⟨a',c',-,h2⟩:=HY6.out.hs.find HWN.out hg
        exact⟨_,trivial,h2 true⟩
      obtain⟨ks,hks⟩:∃ ks,(getF (withO (done.map FBm.f) st1) nm).isSome=ks:=⟨_,rfl⟩
      rw[hks] at hlk
      have HKS:=Hi hks
      clear hkv how hks
      repeat' ((fail_if_success at_builtin);first|go_values|go_skip|go_guarded|go_step|go_upon|go_back)
      (refine(rown_any w6 ⟨nm.toArray⟩).mono ?_;rintro e1 w7 ⟨rfl,hb7⟩;dsimp only)
      rw[show ownB (⟨nm.toArray⟩:ByteArray).data.toList=ow from HOW.out]
      have HY7:=Hi (HY6.out.below hb7)
      have HM7:=Hi (HM6.out.kept (hb7.block _ HM6.out.mp.lt) (hb7.block _ HM6.out.lt))
      have HSM7:Hid (∀ m∈msd,m.stays w7 w.heap.size):=Hi (fun m hm=>(HSM6.out m hm).kept (KpD.of_below hb7))
      have HDO7:=Hi (own_below HDO6.out hb7)
      have HLE7:Hid (w7.rangeLeft (w.heap.size+1) rr<wr.rangeLeft (w.heap.size+1) rr):=Hi (by rw[HM7.out.left,<-HM6.out.left];exact HLE.out)
      clear hlk hnext hent hb7 HY6 HM6 HSM6 HDO6 HLE
      cases ow with
      | false =>
       obtain⟨w8,hput,hY8,-,hblk⟩:=HY7.out.put HWN.out ⟨(nm,dat),da,dc⟩ (HSM7.out _ HML.out)
       dsimp only at hput hY8
       have HY8:Hid (M2 w (Q+1) (Q+1+1) d (withO ((done++[(⟨(nm,dat),da,dc⟩:FBm)]).map FBm.f) st1) (.slice none 0 0) bb ls rs 0 dv w8):=Hi (by rw[List.map_append];show M2 _ _ _ _ (withO (_++[(nm,dat)]) _) _ _ _ _ _ _ _;rw[with_snoc,if_neg (by rw[show ownB (nm,dat).1=false from HOW.out];simp)];exact hY8)
       have hu8:∀ (k:Nat) (c:Array Value) (t:TypeId) (f:Nat×Nat),w7.heap[k]?=some (.cells c t f)->w8.heap[k]?=some (.cells c t f):=fun k c t f hk=>(hblk k (HY7.out.hs.ne hk)).trans hk
       have HM8:=Hi (HM7.out.kept (hblk _ (by have:=HY7.out.ls;omega)) (hblk _ (by have:=HRR.out;omega)))
       have HSM8:Hid (∀ m∈msd,m.stays w8 w.heap.size):=Hi (fun m hm=>(HSM7.out m hm).kept ⟨fun k q1 _=>hblk k (by have:=HY7.out.ls;omega),fun g cur f hg=>hu8 g cur _ f hg⟩)
       have HDO8:Hid (w8.ownsRow w.heap.size 9 1 dv ((((done++[(⟨(nm,dat),da,dc⟩:FBm)]).map FBm.f).filter fun x=>ownB x.1&&(getF st1 x.1).isNone).map Prod.fst).length (((((done++[(⟨(nm,dat),da,dc⟩:FBm)]).map FBm.f).filter fun x=>ownB x.1&&(getF st1 x.1).isNone).map Prod.fst).map encS)):=Hi (by
        rw[List.map_append,List.filter_append]
        rw[show ([(⟨(nm,dat),da,dc⟩:FBm)].map FBm.f).filter (fun x=>ownB x.1&&(getF st1 x.1).isNone)=[] by
         show List.filter _ [(nm,dat)]=[]
         rw[List.filter_cons_of_neg (by rw[show ownB (nm,dat).1=false from HOW.out];simp)];rfl,List.append_nil]
        exact own_hk HDO7.out (fun k c f hk=>hu8 k c _ f hk))
       have HLE8:Hid (w8.rangeLeft (w.heap.size+1) rr<wr.rangeLeft (w.heap.size+1) rr):=Hi (by rw[HM8.out.left,<-HM7.out.left];exact HLE7.out)
       clear hY8 hblk hu8 HDO7 HLE7 HY7 HM7 HSM7
       repeat' ((fail_if_success at_builtin);first|go_values|go_skip|go_guarded|go_step|go_upon|go_back)
       go_roundw
       case rel=>exact⟨done++[(⟨(nm,dat),da,dc⟩:FBm)],todo',tv',dv,HY8,HM8,HTD,HP6,HSM8,HDO8⟩
       case measure=>exact HLE8.out
      | true =>
       have HWE:Hid (withO ((done++[(⟨(nm,dat),da,dc⟩:FBm)]).map FBm.f) st1=withO (done.map FBm.f) st1):=Hi (by rw[List.map_append];show withO (_++[(nm,dat)]) _=_;rw[with_snoc,if_pos (show ownB (nm,dat).1=true from HOW.out)])
       have HKS2:Hid ((getF st1 nm).isNone = !ks):=Hi (by rw[<-HKS.out,with_own _ _ HDN.out HOW.out];cases getF st1 nm<;>rfl)
       have HFE:Hid ((((done++[(⟨(nm,dat),da,dc⟩:FBm)]).map FBm.f).filter fun x=>ownB x.1&&(getF st1 x.1).isNone).map Prod.fst=(((done.map FBm.f).filter fun x=>ownB x.1&&(getF st1 x.1).isNone).map Prod.fst)++(if ks then [] else [nm])):=Hi (by
        rw[List.map_append,List.filter_append,List.map_append]
        congr 1
        show (List.filter _ [(nm,dat)]).map Prod.fst=_
        have h1:(ownB (nm,dat).1&&(getF st1 (nm,dat).1).isNone) = !ks:=by rw[show ownB (nm,dat).1=true from HOW.out,show (getF st1 (nm,dat).1).isNone = !ks from HKS2.out];rfl
        rw[List.filter_cons,h1]
        cases ks<;>rfl)
       obtain⟨dl,hdl⟩:∃ dl,((done.map FBm.f).filter fun x=>ownB x.1&&(getF st1 x.1).isNone).map Prod.fst=dl:=⟨_,rfl⟩
       have HDLL:Hid (dl.length<=1000000):=Hi (by
        rw[<-hdl,List.length_map]
        have h1:=List.length_filter_le (fun x:Bs×Bs=>ownB x.1&&(getF st1 x.1).isNone) (done.map FBm.f)
        rw[List.length_map] at h1
        have h2:=HP6.out.length_eq
        rw[List.length_append,List.length_append] at h2
        have h3:=congrArg List.length HMS.out
        rw[List.length_map] at h3
        have:=HDL.out
        omega)
       rw[hdl] at HFE HDO7
       clear hdl
       cases ks with
       | true =>
        have HDO8:Hid (w7.ownsRow w.heap.size 9 1 dv ((((done++[(⟨(nm,dat),da,dc⟩:FBm)]).map FBm.f).filter fun x=>ownB x.1&&(getF st1 x.1).isNone).map Prod.fst).length (((((done++[(⟨(nm,dat),da,dc⟩:FBm)]).map FBm.f).filter fun x=>ownB x.1&&(getF st1 x.1).isNone).map Prod.fst).map encS)):=Hi (by rw[HFE.out,if_pos rfl,List.append_nil];exact HDO7.out)
        repeat' ((fail_if_success at_builtin);first|go_values|go_skip|go_guarded|go_step|go_upon|go_back)
        go_roundw
        case rel=>exact⟨done++[(⟨(nm,dat),da,dc⟩:FBm)],todo',tv',dv,by rw[HWE.out];exact HY7,HM7,HTD,HP6,HSM7,HDO8⟩
        case measure=>exact HLE7.out
       | false =>
        have y5:=blk_cell HY7.out.ho 5
        simp only[mendB,gA,gB,gC] at y5
        have m8:=blk_new w7 (.cells #[.string ⟨nm.toArray⟩] 9)
        have hb8:Below w7.heap.size w7 (w7.alloc (.cells #[.string ⟨nm.toArray⟩] 9)):=(Below.refl _ _).alloc (Nat.le_refl _) _
        have HDOX:=own_below HDO7.out hb8
        obtain⟨dva,dvc,rfl,-,-,-,-⟩:=own_rowT HDO7.out
        repeat' ((fail_if_success at_builtin);first|go_values|go_skip|go_guarded|go_step|go_upon|go_back)
        refine wp_appS rfl _ _ rfl w.heap.size _ dl rfl HDOX w7.heap.size nm rfl (blk_cell m8 0) HDLL.out (by have:=HY7.out.size;simp;omega) ?_
        intro v' w8 ho8 hg8
        have HY8:=Hi (HY7.out.grown _ HDO7.out (by decide) (by decide) (Nat.le_refl _) hg8)
        have hnr:=HM7.out.own_ne HDO7.out
        have hblk:∀ k,k<w7.heap.size->(Value.slice dva dl.length dvc).ownBlock≠some k->w8.heap[k]?=w7.heap[k]? := fun k h1 h2=>(hg8.block k (by simp;omega) (fun e=>h2 e.symm)).trans (Below.heap_alloc _ _ _ h1)
        have HM8:=Hi (HM7.out.kept (hblk _ HM7.out.mp.lt hnr.1) (hblk _ HM7.out.lt hnr.2))
        have HSM8:Hid (∀ m∈msd,m.stays w8 w.heap.size):=Hi (fun m hm=>(HSM7.out m hm).kept (KpD.grown _ HDO7.out (by decide) (Nat.le_refl _) hg8))
        have HO8:=Hi ho8
        clear m8 hb8 HDOX ho8 hg8 hnr hblk y5
        have y5:=blk_cell HY8.out.ho 5
        have ff:=fun i=>blk_free HY8.out.ho i
        simp only[mendB,gA,gB,gC] at y5
        obtain⟨dva2,dvc2,rfl,-,-,-,-⟩:=own_rowT HO8.out
        have HY9:=Hi (HY8.out.set 5 (.slice dva2 (dl++[nm]).length dvc2) (fv' := .slice none 0 0) (b':=bb) (l':=ls) (r':=rs) (t':=0) (dv' := .slice dva2 (dl++[nm]).length dvc2) rfl)
        have hkO:KpD w.heap.size w8 (w8.setCell ⟨Q+1+1,5,none⟩ (.slice dva2 (dl++[nm]).length dvc2)):=KpD.turn (g:=Q+1+1) (by have:=HY8.out.lo;omega) (fun cur f e=>by have h2:=HY8.out.ho;rw[h2] at e;unfold mendB at e;injection e with e;injection e with _ h3;exact absurd h3 (by decide)) (fun j hj=>Below.heap_setCell _ _ _ _ hj)
        have HM9:=Hi (HM8.out.kept (w':=w8.setCell ⟨Q+1+1,5,none⟩ (.slice dva2 (dl++[nm]).length dvc2)) (Below.heap_setCell _ _ _ _ (by show w.heap.size+1≠Q+1+1;have:=HY8.out.lo;omega)) (Below.heap_setCell _ _ _ _ (by show rr≠Q+1+1;have:=HRR.out;omega)))
        have HSM9:Hid (∀ m∈msd,m.stays (w8.setCell ⟨Q+1+1,5,none⟩ (.slice dva2 (dl++[nm]).length dvc2)) w.heap.size):=Hi (fun m hm=>(HSM8.out m hm).kept hkO)
        have HDO9:Hid ((w8.setCell ⟨Q+1+1,5,none⟩ (.slice dva2 (dl++[nm]).length dvc2)).ownsRow w.heap.size 9 1 (.slice dva2 (dl++[nm]).length dvc2) ((((done++[(⟨(nm,dat),da,dc⟩:FBm)]).map FBm.f).filter fun x=>ownB x.1&&(getF st1 x.1).isNone).map Prod.fst).length (((((done++[(⟨(nm,dat),da,dc⟩:FBm)]).map FBm.f).filter fun x=>ownB x.1&&(getF st1 x.1).isNone).map Prod.fst).map encS)):=Hi (by
         rw[HFE.out,if_neg (by simp)]
         exact own_kb HO8.out Kb.set HY8.out.ho (by decide))
        have HLE9:Hid ((w8.setCell ⟨Q+1+1,5,none⟩ (.slice dva2 (dl++[nm]).length dvc2)).rangeLeft (w.heap.size+1) rr<wr.rangeLeft (w.heap.size+1) rr):=Hi (by rw[HM9.out.left,<-HM7.out.left];exact HLE7.out)
        clear hkO HM8 HSM8
        rw[List.length_append,List.length_singleton] at HY9 HM9 HSM9 HDO9 HLE9
        repeat' ((fail_if_success at_builtin);first|go_values|go_skip|go_guarded|go_step|go_upon|go_back)
        go_roundw
        case rel=>exact⟨done++[(⟨(nm,dat),da,dc⟩:FBm)],todo',tv',_,by rw[HWE.out];exact HY9,HM9,HTD,HP6,HSM9,HDO9⟩
        case measure=>exact HLE9.out
end Go.Proofs.YtbppnihcbcdglaaGreat
