/- audit: log. No condition. -/
import Derived.Test.YtbppnihcbcdglaaGreatV8
import Derived.Test.YtbppnihcbcdglaaGreatV37
namespace Go.Proofs.YtbppnihcbcdglaaGreat
open Go.RowKit
set_option linter.unusedVariables false
set_option linter.unusedSimpArgs false
theorem Tryz.info61:(Tryz.prog.info? 61).map (fun i=>(i.zero,i.size,i.bytes))=some (some (.agg #[.int .i64 0,.int .i64 0]),2,16):=by kernel_rfl
theorem AX.firstc{w:World}{n0 L mb g cap:Nat}{fs:Fs}{firsts:List Int}{s:AS}{nv sv:Value}(h:AX w n0 L mb fs firsts s (.slice (some ⟨g,0,none⟩) firsts.length cap) nv sv){i:Nat}(hi:i<firsts.length):w.cell? ⟨g,i,none⟩=some (.int .i64 (firsts.getD i 0)) :=
 (own_cell h.fo i (.int .i64 (firsts.getD i 0)) (by simp[List.getD_eq_getElem?_getD,List.getElem?_eq_getElem hi])).1
theorem take_snoc{l:List Int}{j:Nat}(h:j<l.length):l.take (j+1)=l.take j++[l.getD j 0]:=by
 rw[List.take_add_one,List.getD_eq_getElem?_getD,List.getElem?_eq_getElem h]
 rfl
theorem AX.appSn{w w':World}{n0 L mb gg cap n:Nat}{fs:Fs}{firsts:List Int}{s:AS}{fv nv sv:Value}(h:AX w n0 L mb fs firsts s fv nv sv)(hn:s.segs.length=n)(o:Obj)(hg:(w.alloc o).grownBy w' sv.ownBlock)(x:Int×Int)
  (ho:w'.ownsRow n0 61 2 (.slice (some ⟨gg,0,none⟩) (n+1) cap) (n+1) (s.segs.flatMap segRow++segRow x)) :
  w'.cell? ⟨L,17,none⟩=some sv/\w'.frozen? ⟨L,17,none⟩=false/\AX (w'.setCell ⟨L,17,none⟩ (.slice (some ⟨gg,0,none⟩) (n+1) cap)) n0 L mb fs firsts { s with segs:=s.segs++[x] } fv nv (.slice (some ⟨gg,0,none⟩) (n+1) cap) /\
   Below n0 w (w'.setCell ⟨L,17,none⟩ (.slice (some ⟨gg,0,none⟩) (n+1) cap)):=by
 subst hn
 exact h.appS o hg x ho
theorem AX.son{w:World}{n0 L mb n:Nat}{fs:Fs}{firsts:List Int}{s:AS}{fv nv sv:Value}(h:AX w n0 L mb fs firsts s fv nv sv)(hn:s.segs.length=n):w.ownsRow n0 61 2 sv n (s.segs.flatMap segRow):=by
 subst hn
 exact h.so
set_option maxRecDepth 20000 in
set_option maxHeartbeats 4000000 in
theorem alog_cps(w:World){n0 L mb:Nat}{fs:Fs}{firsts:List Int}{s:AS}{fv nv sv:Value}(H:AX w n0 L mb fs firsts s fv nv sv)(hfs:FsOk fs)(hlen:s.needed.length<=10000)(hfl:firsts.length<=100000)(hsegs:s.segs=[])(hff:∀ i,i<firsts.length->FirstIs fs (firsts.getD i 0))
  (hb:0<=s.base/\s.base<=281474976710655) (Q:Ending->World->Prop) (hQ:∀ e w',APost n0 L mb fs firsts w (aLog fs firsts s) e w'->Q e w') :
  Calls Tryz.prog 72 #[.pointer (some ⟨L,0,none⟩)] w Q:=by
 have HQ:=Lib.hid hQ
 have HF:=Lib.hid hfs
 have HL:=Lib.hid hlen
 have HFL:=Lib.hid hfl
 have HFF:=Lib.hid hff
 have HBA:=Lib.hid hb
 have HSG:=Lib.hid hsegs
 have l19:=H.c19.2.1
 have l20:=H.c19.2.2
 have f20:=H.free 20
 obtain⟨hx1,b1⟩:=H.set { s with last:=s.base } 20 (.int .i64 s.base) rfl rfl rfl
 have HX1:=Lib.hid hx1
 have HB1:=Lib.hid b1
 clear hQ hfs hlen hff hsegs hx1 b1
 obtain⟨fa,fc,rfl,hfc,-,-,-⟩:=own_rowT H.fo
 by_cases h0:firsts.length=0
 ·have HE:Hid (aLog fs firsts s=({ s with last:=s.base },true)):=Lib.hid (by unfold aLog;rw[if_pos h0])
  have t0:((firsts.length:Int)==0)=true:=by simp[h0]
  clear hb hfl hfc h0 H
  go_enter Tryz.func72,Tryz.ntmps72
  repeat' ((fail_if_success (with_reducible (show Code.wp _ (Code.region 1 _ _) _ _ _)));(fail_if_success at_builtin);first|go_values|go_skip|go_guarded|go_step|go_upon|go_back)
  clear l19 l20 f20
  generalize w.setCell ⟨L,20,none⟩ (.int .i64 s.base)=w1 at HX1 HB1 ⊢
  have c1:=HX1.out.c1
  repeat' ((fail_if_success at_builtin);first|go_values|go_skip|go_guarded|go_step|go_upon|go_back)
  refine bodyPost_end (results_none rfl _ _ _) rfl (HQ.out _ _ (by rw[HE.out];exact⟨rfl,⟨_,_,_,HX1.out⟩,HB1.out⟩))
 ·have t0:((firsts.length:Int)==0)=false:=by rw[beq_eq_false_iff_ne];omega
  obtain⟨g,cap,hfv,-,-,-⟩:=H.first (by omega)
  rw[hfv] at HX1
  have HN0:Hid (0<firsts.length):=Lib.hid (by omega)
  have HE:=Lib.hid (aLog_eq fs firsts s h0)
  clear hb hfl hfc h0 H hfv
  go_enter Tryz.func72,Tryz.ntmps72
  repeat' ((fail_if_success (with_reducible (show Code.wp _ (Code.region 1 _ _) _ _ _)));(fail_if_success at_builtin);first|go_values|go_skip|go_guarded|go_step|go_upon|go_back)
  clear l19 l20 f20
  generalize w.setCell ⟨L,20,none⟩ (.int .i64 s.base)=w1 at HX1 HB1 ⊢
  have c1:=HX1.out.c1
  repeat' ((fail_if_success at_builtin);first|go_values|go_skip|go_guarded|go_step|go_upon|go_back)
  clear c1
  go_loopw [2,24] (fun fr c wr=>∃ (j:Nat) (sv':Value),c = .int .i64 j/\j<=firsts.length/\fr = .int .i64 (fromGo s.base (firsts.take j))/\AX wr n0 L mb fs firsts { s with last:=s.base,segs:=(firsts.take j).map seg0 } (.slice (some ⟨g,0,none⟩) firsts.length cap) nv sv'/\Below n0 w wr) (fun _ c _=>firsts.length-(intOf c).toNat)
  case atStart=>exact⟨0,sv,rfl,Nat.zero_le _,rfl,by have:=HX1.out;rw[List.take_zero,List.map_nil,<-HSG.out];exact this,HB1.out⟩
  case round =>
   obtain⟨j,sv',rfl,hj,rfl,hxj,hbj⟩:=hrel
   have HXJ:=Lib.hid hxj
   have HBJ:=Lib.hid hbj
   clear hxj hbj
   have hfl':(firsts.length:Int)<=100000:=by have:=HFL.out;omega
   by_cases hlt:j<firsts.length
   ·have hlt':(j:Int)<(firsts.length:Int):=by omega
    obtain⟨f,hf⟩:∃ f,firsts.getD j 0=f:=⟨_,rfl⟩
    have gj:=HXJ.out.firstc hlt
    rw[hf] at gj
    have l19:wr.cell? ⟨L,19,none⟩=some (.int .i64 s.base):=HXJ.out.c19.2.1
    have l17:wr.cell? ⟨L,17,none⟩=some sv':=HXJ.out.cells 17
    have hwb:IntKind.i64.wrap (s.base+1)=s.base+1:=IntWalk.i64_in _ (by have:=HBA.out;omega)
    have HTK:Hid ((firsts.take (j+1)).map seg0=(firsts.take j).map seg0++[(f,0)]):=Lib.hid (by rw[take_snoc hlt,hf,List.map_append];rfl)
    have HTF:Hid (fromGo s.base (firsts.take (j+1))=if f<=s.base+1 then (j:Int) else fromGo s.base (firsts.take j)):=Lib.hid (by rw[take_snoc hlt,hf,fromGo_snoc,List.length_take,Nat.min_eq_left (by omega)])
    have HLT:=Lib.hid hlt
    have HTL:Hid (((firsts.take j).map seg0).length=j):=Lib.hid (by rw[List.length_map,List.length_take];omega)
    obtain⟨i0,hi0,hz0,hz1,hz2⟩:=info_parts Tryz.info61
    clear hf hj
    by_cases hc:f<=s.base+1
    ·have tc:decide (f<=s.base+1)=true:=decide_eq_true hc
     have HTF2:Hid (fromGo s.base (firsts.take (j+1))=(j:Int)):=Lib.hid (by rw[HTF.out,if_pos hc])
     clear hc
     ((repeat' ((fail_if_success (with_reducible (show Code.wp _ (Code.region 9 _ _) _ _ _)));first|(at_builtin;refine wpList_append_lies _ rfl _ _ 47 rfl n0 61 i0 _ 2 16 Tryz.underlying47 hi0 hz0 hz1 hz2 rfl (by omega) sv' j (((firsts.take j).map seg0).flatMap segRow) rfl (own_below (HXJ.out.son HTL.out) ((Below.refl _ _).alloc (Nat.le_refl _) _)) ⟨wr.heap.size,0,none⟩ 1 1 (segRow (f,0)) rfl rfl (World.news_of_block (cs:=#[.int .i64 f,.int .i64 0]) (t:=61) (fr:=(0,0)) (heap_alloc_new wr _)) (by simp[Value.oneCell',segRow]) (by omega) (by unfold maxLen;have:=HTL.out;have:=HFL.out;have:=HLT.out;omega) (by have:=HTL.out;have:=HFL.out;have:=HLT.out;omega) (by have:=HXJ.out.size;simp;omega) (wr.heap.size+1) (by simp) ?_;intro gg gcap w12 hown12 hgrow hat hlt12;obtain⟨s0,s1,X13,B13⟩:=HXJ.out.appSn HTL.out _ hgrow (f,0) hown12;have HX13:=Lib.hid X13;have HB13:=Lib.hid B13;clear X13 B13 hown12 hgrow hat hlt12)|((fail_if_success at_builtin);first|go_values|go_skip|go_guarded|go_step|go_upon|go_back)));clear s0 s1 gj l19 l17;(repeat' ((fail_if_success at_builtin);first|go_values|go_skip|go_guarded|go_step|go_upon|go_back));go_roundw;(case rel=>exact⟨j+1,_,by go_num,by have:=HLT.out;omega,by rw[HTF2.out],by rw[HTK.out];exact HX13.out,HBJ.out.trans HB13.out⟩);(case measure=>have:=HLT.out;simp[intOf];omega))
    ·have tc:decide (f<=s.base+1)=false:=decide_eq_false hc
     have HTF2:Hid (fromGo s.base (firsts.take (j+1))=fromGo s.base (firsts.take j)):=Lib.hid (by rw[HTF.out,if_neg hc])
     clear hc
     ((repeat' ((fail_if_success (with_reducible (show Code.wp _ (Code.region 9 _ _) _ _ _)));first|(at_builtin;refine wpList_append_lies _ rfl _ _ 47 rfl n0 61 i0 _ 2 16 Tryz.underlying47 hi0 hz0 hz1 hz2 rfl (by omega) sv' j (((firsts.take j).map seg0).flatMap segRow) rfl (own_below (HXJ.out.son HTL.out) ((Below.refl _ _).alloc (Nat.le_refl _) _)) ⟨wr.heap.size,0,none⟩ 1 1 (segRow (f,0)) rfl rfl (World.news_of_block (cs:=#[.int .i64 f,.int .i64 0]) (t:=61) (fr:=(0,0)) (heap_alloc_new wr _)) (by simp[Value.oneCell',segRow]) (by omega) (by unfold maxLen;have:=HTL.out;have:=HFL.out;have:=HLT.out;omega) (by have:=HTL.out;have:=HFL.out;have:=HLT.out;omega) (by have:=HXJ.out.size;simp;omega) (wr.heap.size+1) (by simp) ?_;intro gg gcap w12 hown12 hgrow hat hlt12;obtain⟨s0,s1,X13,B13⟩:=HXJ.out.appSn HTL.out _ hgrow (f,0) hown12;have HX13:=Lib.hid X13;have HB13:=Lib.hid B13;clear X13 B13 hown12 hgrow hat hlt12)|((fail_if_success at_builtin);first|go_values|go_skip|go_guarded|go_step|go_upon|go_back)));clear s0 s1 gj l19 l17;(repeat' ((fail_if_success at_builtin);first|go_values|go_skip|go_guarded|go_step|go_upon|go_back));go_roundw;(case rel=>exact⟨j+1,_,by go_num,by have:=HLT.out;omega,by rw[HTF2.out],by rw[HTK.out];exact HX13.out,HBJ.out.trans HB13.out⟩);(case measure=>have:=HLT.out;simp[intOf];omega))
   ·obtain rfl:j=firsts.length:=by omega
    have hxj:=HXJ.out
    rw[List.take_length] at hxj ⊢
    have HXF:=Lib.hid hxj
    have HBF:=HBJ
    clear hxj HXJ HBJ hlt hj HX1 HB1
    have hfb:=fromGo_bounds s.base firsts
    obtain⟨fr,hfr⟩:∃ fr,fromGo s.base firsts=fr:=⟨_,rfl⟩
    rw[hfr] at HE hfb ⊢
    clear hfr
    by_cases hneg:fr<0
    ·have tn:decide (0<=fr)=false:=decide_eq_false (by omega)
     have HE2:Hid (aLog fs firsts s=({ s with last:=s.base,segs:=firsts.map seg0 },false)):=Lib.hid (by rw[HE.out,if_pos hneg])
     clear hneg hfb HE
     repeat' ((fail_if_success at_builtin);first|go_values|go_skip|go_guarded|go_step|go_upon|go_back)
     (refine(asure_no _).mono ?_;rintro e1 w5 ⟨rfl,rfl⟩;dsimp only)
     exact⟨rfl,HQ.out _ _ (by rw[HE2.out];exact⟨rfl,⟨_,_,_,HXF.out⟩,HBF.out⟩)⟩
    ·obtain⟨k,rfl⟩:∃ k:Nat,fr=(k:Int):=⟨fr.toNat,by omega⟩
     have tn:decide (0<=(k:Int))=true:=decide_eq_true (by omega)
     have HE2:=Lib.hid (HE.out.trans (if_neg hneg))
     have hk:k<firsts.length:=by omega
     have hkI:(k:Int)<(firsts.length:Int):=by omega
     have hk0:(0:Int)<=(k:Int):=by omega
     clear hneg hfb HE
     obtain⟨f0,hf0⟩:∃ f0,firsts.getD k 0=f0:=⟨_,rfl⟩
     have gk:=HXF.out.firstc hk
     have hfk:=HFF.out k hk
     rw[hf0] at gk hfk
     have HFK:=Lib.hid (And.intro hfk.one hfk.max)
     have HE3:=HE2.out
     simp only[Int.toNat_natCast] at HE3
     rw[hf0] at HE3
     have HE4:=Lib.hid HE3
     clear HE3 HE2 hfk hf0
     have c1:=HXF.out.c1
     have l20:=HXF.out.c19.2.2
     have f20:=HXF.out.free 20
     have hw1:IntKind.i64.wrap (f0-1)=f0-1:=IntWalk.i64_in _ (by have:=HFK.out;omega)
     obtain⟨hx2,b2⟩:=HXF.out.set { s with last:=f0-1,segs:=firsts.map seg0 } 20 (.int .i64 (f0-1)) rfl rfl rfl
     have HX2:=Lib.hid hx2
     have HB2:=Lib.hid (HBF.out.trans b2)
     clear hx2 b2
     repeat' ((fail_if_success at_builtin);first|go_values|go_skip|go_guarded|go_step|go_upon|go_back)
     (refine(asure_ok _).mono ?_;rintro e1 w5 ⟨rfl,rfl⟩;dsimp only)
     repeat' ((fail_if_success (with_reducible (show Code.wp _ (Code.region 12 _ _) _ _ _)));(fail_if_success at_builtin);first|go_values|go_skip|go_guarded|go_step|go_upon|go_back)
     clear gk c1 l20 f20 hw1 HXF HBF tn
     generalize wr.setCell ⟨L,20,none⟩ (.int .i64 (f0-1))=w6 at HX2 HB2 ⊢
     repeat' ((fail_if_success at_builtin);first|go_values|go_skip|go_guarded|go_step|go_upon|go_back)
     go_loopw [5] (fun c wr=>∃ (i:Nat) (si:AS) (fv' nv' sv':Value),c = .int .i64 i/\Hid (k<=i)/\i<=firsts.length/\Hid (aLog fs firsts s=logFin (aSegs fs firsts (firsts.length-i) i (i==k) si))/\AX wr n0 L mb fs firsts si fv' nv' sv'/\Below n0 w wr/\Hid (si.needed.length<=s.needed.length+i/\si.segs.map Prod.fst=firsts/\Mid si.last/\si.base=s.base)) (fun c _=>firsts.length-(intOf c).toNat)
     case atStart=>exact⟨k,_,_,_,_,rfl,Lib.hid (Nat.le_refl _),Nat.le_of_lt hk,Lib.hid (by rw[HE4.out];simp),HX2.out,HB2.out,Lib.hid ⟨Nat.le_add_right _ _,by show (firsts.map seg0).map Prod.fst=_;rw[List.map_map];exact List.map_id firsts,by unfold Mid;have:=HFK.out;dsimp only;omega,rfl⟩⟩
     case round =>
      clear HX2 HB2 HE4
      obtain⟨i,si,fv',nv',sv',rfl,HKI,hi,HD,hxi,hbi,HS⟩:=hrel
      have HXI:=Lib.hid hxi
      have HBI:=Lib.hid hbi
      obtain⟨fa',fc',rfl,-,-,-,-⟩:=own_rowT hxi.fo
      clear hxi hbi
      have c1:=HXI.out.c1
      by_cases hlt:i<firsts.length
      ·have hlt':(i:Int)<(firsts.length:Int):=by omega
       have HLT:=Lib.hid hlt
       have hcl:∀ fl:Bool,Calls Tryz.prog 139 #[.pointer (some ⟨L,0,none⟩),.int .i64 (i:Int),.bool fl] wr (APost n0 L mb fs firsts wr (aSeg fs firsts i fl si)):=fun fl =>
        aseg_any wr HXI.out HF.out i HLT.out fl (by have:=HS.out.1;have:=HL.out;have:=HFL.out;have:=HLT.out;omega) HS.out.2.1 (HFF.out i HLT.out) (by have:=HFL.out;omega) HS.out.2.2.1 (by rw[HS.out.2.2.2];have:=HBA.out;omega)
       have HCL:=Lib.hid hcl
       have HSEG:∀ fl,aSegs fs firsts (firsts.length-i) i fl si=if (aSeg fs firsts i fl si).2 then aSegs fs firsts (firsts.length-(i+1)) (i+1) false (aSeg fs firsts i fl si).1 else aSeg fs firsts i fl si:=fun fl=>by
        have:=HLT.out
        rw[show firsts.length-i=(firsts.length-(i+1))+1 by omega]
        rfl
       have hai:∀ fl,AI firsts si (aSeg fs firsts i fl si).1\/True:=fun _ => .inr trivial
       have HSG2:=Lib.hid HSEG
       clear hcl HSEG hai hlt hi
       by_cases hik:i=k
       ·have t1:((i:Int)==(k:Int))=true:=by simp[hik]
        have HD2:Hid (aLog fs firsts s=logFin (aSegs fs firsts (firsts.length-i) i true si)):=Lib.hid (by rw[HD.out,show (i==k)=true from by simp[hik]])
        clear hik
        (obtain⟨s2,ok,hr⟩:∃ s2 ok,aSeg fs firsts i true si=(s2,ok):=⟨_,_,rfl⟩;have HS2:Hid (s2.needed.length<=s.needed.length+(i+1)/\s2.segs.map Prod.fst=firsts/\Mid s2.last/\s2.base=s.base):=Lib.hid (by have h1:=aSeg_len fs firsts i true si;have h2:=aSeg_mid (fs:=fs) (firsts:=firsts) (i:=i) (first:=true) HS.out.2.2.1;have h3:=aSeg_fst fs firsts i true HS.out.2.1;rw[hr] at h1 h2 h3;exact⟨by have:=HS.out.1;dsimp only at h1;omega,h3.1,h2,h3.2.trans HS.out.2.2.2⟩);have HR:=Lib.hid hr;clear hr;(repeat' ((fail_if_success at_builtin);first|go_values|go_skip|go_guarded|go_step|go_upon|go_back));refine(HCL.out true).mono ?_;rintro e1 w9 ⟨he,⟨fv9,nv9,sv9,hx9⟩,hb9⟩;rw[HR.out] at he hx9;cases ok with|false=>(rw[show e1 = .panicked damE from he];exact⟨rfl,HQ.out _ _ (by rw[HD2.out,HSG2.out,HR.out];exact⟨rfl,⟨_,_,_,hx9⟩,HBI.out.trans hb9⟩)⟩)|true=>(rw[show e1 = .returned (.tuple #[]) from he];dsimp only;have HX9:=Lib.hid hx9;have HB9:=Lib.hid hb9;clear hx9 hb9 he;(repeat' ((fail_if_success at_builtin);first|go_values|go_skip|go_guarded|go_step|go_upon|go_back));go_roundw;(case rel=>exact⟨i+1,s2,_,_,_,by go_num,Lib.hid (by have:=HKI.out;omega),by have:=HLT.out;omega,Lib.hid (by rw[HD2.out,HSG2.out,HR.out];have:=HKI.out;rw[show ((i+1==k)=false) from by rw[beq_eq_false_iff_ne];omega];rfl),HX9.out,HBI.out.trans HB9.out,HS2⟩);(case measure=>have:=HLT.out;simp[intOf];omega)))
       ·have t1:((i:Int)==(k:Int))=false:=by rw[beq_eq_false_iff_ne];omega
        have HD2:Hid (aLog fs firsts s=logFin (aSegs fs firsts (firsts.length-i) i false si)):=Lib.hid (by rw[HD.out,show (i==k)=false from beq_eq_false_iff_ne.2 hik])
        clear hik
        (obtain⟨s2,ok,hr⟩:∃ s2 ok,aSeg fs firsts i false si=(s2,ok):=⟨_,_,rfl⟩;have HS2:Hid (s2.needed.length<=s.needed.length+(i+1)/\s2.segs.map Prod.fst=firsts/\Mid s2.last/\s2.base=s.base):=Lib.hid (by have h1:=aSeg_len fs firsts i false si;have h2:=aSeg_mid (fs:=fs) (firsts:=firsts) (i:=i) (first:=false) HS.out.2.2.1;have h3:=aSeg_fst fs firsts i false HS.out.2.1;rw[hr] at h1 h2 h3;exact⟨by have:=HS.out.1;dsimp only at h1;omega,h3.1,h2,h3.2.trans HS.out.2.2.2⟩);have HR:=Lib.hid hr;clear hr;(repeat' ((fail_if_success at_builtin);first|go_values|go_skip|go_guarded|go_step|go_upon|go_back));refine(HCL.out false).mono ?_;rintro e1 w9 ⟨he,⟨fv9,nv9,sv9,hx9⟩,hb9⟩;rw[HR.out] at he hx9;cases ok with|false=>(rw[show e1 = .panicked damE from he];exact⟨rfl,HQ.out _ _ (by rw[HD2.out,HSG2.out,HR.out];exact⟨rfl,⟨_,_,_,hx9⟩,HBI.out.trans hb9⟩)⟩)|true=>(rw[show e1 = .returned (.tuple #[]) from he];dsimp only;have HX9:=Lib.hid hx9;have HB9:=Lib.hid hb9;clear hx9 hb9 he;(repeat' ((fail_if_success at_builtin);first|go_values|go_skip|go_guarded|go_step|go_upon|go_back));go_roundw;(case rel=>exact⟨i+1,s2,_,_,_,by go_num,Lib.hid (by have:=HKI.out;omega),by have:=HLT.out;omega,Lib.hid (by rw[HD2.out,HSG2.out,HR.out];have:=HKI.out;rw[show ((i+1==k)=false) from by rw[beq_eq_false_iff_ne];omega];rfl),HX9.out,HBI.out.trans HB9.out,HS2⟩);(case measure=>have:=HLT.out;simp[intOf];omega)))
      ·obtain rfl:i=firsts.length:=by omega
       have hd:=HD.out
       rw[Nat.sub_self] at hd
       have l19:=HXI.out.c19.2.1
       have l20:=HXI.out.c19.2.2
       have HXF:=HXI
       have HBF:=HBI
       by_cases hle:si.base<=si.last
       ·have tl:decide (si.base<=si.last)=true:=decide_eq_true hle
        have HE2:Hid (aLog fs firsts s=(si,true)):=Lib.hid (by rw[hd];show (si,decide (si.base<=si.last))=_;rw[tl])
        clear hd hle hlt hi
        repeat' ((fail_if_success at_builtin);first|go_values|go_skip|go_guarded|go_step|go_upon|go_back)
        go_region_held3 (fun w'=>w'.cell? ⟨L,19,none⟩=some (.int .i64 si.base)/\w'.cell? ⟨L,20,none⟩=some (.int .i64 si.last)) (first|exact⟨l19,l20⟩) (first
         | (go_at_call 137;refine(asure_ok _).mono ?_;rintro e1 w9 ⟨rfl,rfl⟩))
        refine bodyPost_end (results_none rfl _ _ _) rfl (HQ.out _ _ (by rw[HE2.out];exact⟨rfl,⟨_,_,_,HXF.out.pure (Below.refl _ _).drew⟩,HBF.out.drew⟩))
       ·have tl:decide (si.base<=si.last)=false:=decide_eq_false hle
        have HE2:Hid (aLog fs firsts s=(si,false)):=Lib.hid (by rw[hd];show (si,decide (si.base<=si.last))=_;rw[tl])
        clear hd hle hlt hi
        repeat' ((fail_if_success at_builtin);first|go_values|go_skip|go_guarded|go_step|go_upon|go_back)
        (refine wp_region_qpan 3 9 88 _ (.tmp 87) (by kernel_rfl) (by kernel_rfl) rfl rfl rfl (by kernel_rfl) rfl ?hp ?hq;(case hp=>(rintro a' w' K hk ⟨nn,rfl⟩ he;rcases a' with ⟨T,D⟩;obtain⟨hD,-⟩:=hk;simp only[Act.eval] at he hD;unfold Oper.wp;simp[execOp,go_sem,he];refine(asure_no _).mono ?_;rintro e1 w3 ⟨rfl,rfl⟩;exact⟨hD,HQ.out _ _ (by rw[HE2.out];exact⟨rfl,⟨_,_,_,HXF.out.pure (bdrewN (Below.refl _ _) nn)⟩,bdrewN HBF.out nn⟩)⟩));(case hq=>(simp only[List.set_cons_succ,List.set_cons_zero];((repeat ((with_reducible refine wpQuiet_step (fun K hK=>?_));go_simp;(with_reducible refine hK _ ?_);clear hK K));(with_reducible refine wpQuiet_nil ?_);rfl))))
end Go.Proofs.YtbppnihcbcdglaaGreat
