import Derived.Test.YtbppnihcbcdglaaGreatV36
import Derived.Test.YtbppnihcbcdglaaGreatZ35
import Derived.Test.YtbppnihcbcdglaaGreatV41
import Derived.Test.YtbppnihcbcdglaaGreatD52
import Derived.Test.YtbppnihcbcdglaaGreatD42
import Derived.BigQuiet
import Derived.Shelf.RegionOpen
namespace Go.Proofs.YtbppnihcbcdglaaGreat
open Go.RowKit
set_option linter.unusedVariables false
set_option linter.unusedSimpArgs false
attribute [local go_sem] Oper.semAt_some
structure EL (w0:World) (n0:Nat) (mark:Int) (ds:List Nat) (w:World):Prop where
 hm:w.heap[n0]?=some (.cells #[.int .i64 mark] 3 (0,0))
 hr:w.heap[n0+1]?=some (.cells #[.int .i64 0] 3 (0,0))
 hd:Marks w n0 ds
 hb:Below n0 w0 w
theorem EL.keeps{w0 A B:World}{n0 N:Nat}{mark:Int}{ds:List Nat}{TW:List TypeId}(h:EL w0 n0 mark ds A)(hN:n0+1<N)(hds:∀ D∈ds,D<N)(hk:Keeps TW N A B):EL w0 n0 mark ds B :=
 ⟨hk.low _ _ h.hm (by omega),hk.low _ _ h.hr (by omega),h.hd.keeps hk hds,Below.keeps h.hb hk (by omega) (by have:=blk_lt h.hm;omega)⟩
theorem EL.below{w0 A B:World}{n0 n:Nat}{mark:Int}{ds:List Nat}(h:EL w0 n0 mark ds A)(hb:Below n A B)(hn:A.heap.size<=n):EL w0 n0 mark ds B :=
 ⟨(hb.block _ (by have:=blk_lt h.hm;omega)).trans h.hm,(hb.block _ (by have:=blk_lt h.hr;omega)).trans h.hr,h.hd.below hb hn,h.hb.trans (hb.mono (by have:=blk_lt h.hm;omega))⟩
theorem EL.other{w0 w:World}{n0 j:Nat}{mark:Int}{ds:List Nat}(h:EL w0 n0 mark ds w)(hj:n0+1<j)(i:Nat)(v:Value):EL w0 n0 mark ds (w.setCell ⟨j,i,none⟩ v) :=
 ⟨blk_set_other h.hm (by show n0≠j;omega) _ _,blk_set_other h.hr (by show n0+1≠j;omega) _ _,h.hd.others (KeepsOthers.setCell _ _ _),h.hb.setCell (p:=⟨j,i,none⟩) (by show n0<=j;omega) _⟩
theorem xI{F:Fence}{n:Nat}{tmps:Array Value}{R:Ending->World->Prop}{w:World}{b:Nat}{v:Int}(ht:tmps[4]?.getD undef = .pointer (some ⟨b,0,none⟩))(h:w.heap[b]?=some (.cells #[.int .i64 v] 3 (0,0)))(hR:R (.returned (.int .i64 v)) w) :
  LeavesInM F n Tryz.prog Tryz.f38 tmps R [] .returning w:=by
 have c0:=blk_cell h 0
 simp only[gA,gB,gC] at c0
 refine⟨.int .i64 v,?_,hR⟩
 simp[results,Tryz.results38,go_sem,ht,c0]
theorem yX{F:Fence}{n:Nat}{tmps:Array Value}{R:Ending->World->Prop}{w W:World}{n0:Nat}{v:Int}{ds:List Nat}(ht:tmps[4]?.getD undef = .pointer (some ⟨n0+1,0,none⟩))(h:W.heap[n0+1]?=some (.cells #[.int .i64 v] 3 (0,0)))(hb:Below n0 w W)(hd:Marks W n0 ds)
  (hR:∀ V,Below n0 w V->R (.returned (.int .i64 v)) V):LeavesInM F n Tryz.prog Tryz.f38 tmps R (ds.map markOf) .returning W:=by
 refine leaves_marks (fun V=>V.heap[n0+1]?=some (.cells #[.int .i64 v] 3 (0,0))/\Below n0 w V) n0 ?_ (fun V hV=>xI ht hV.1 (hR V hV.2)) ds W hd ⟨h,hb⟩
 rintro V D ⟨s1,s3⟩ hN hD
 have h1:D≠n0+1:=fun e=>by rw[e,s1] at hD;cases hD
 have hk:Keeps [] n0 V (V.putObj D (.deferred none)):=Keeps.put _ hD rfl hN
 exact⟨(World.putObj_heap_other (by first|exact h1|exact h1.symm)).trans s1,Below.keeps s3 hk (Nat.le_refl _) (by have:=blk_lt s1;omega)⟩
theorem xC(l:List Value):l=(List.range l.length).map (fun i=>l[i]?.getD undef):=by
 refine List.ext_getElem? fun i=>?_
 rw[List.getElem?_map]
 by_cases h:i<l.length
 ·rw[List.getElem?_range h]
  show l[i]?=some (l[i]?.getD undef)
  rw[List.getElem?_eq_getElem h];rfl
 ·rw[List.getElem?_eq_none (by omega),List.getElem?_eq_none (by rw[List.length_range];omega)];rfl
theorem yY(b:Act)(h:b.tmps.size=117):∃ us:Nat->Value,(∀ n,us n=b.tmps[n]?.getD undef)/\b = { tmps:=#[us 0,us 1,us 2,us 3,us 4,us 5,us 6,us 7,us 8,us 9,us 10,us 11,us 12,us 13,us 14,us 15,us 16,us 17,us 18,us 19,us 20,us 21,us 22,us 23,us 24,us 25,us 26,us 27,us 28,us 29,us 30,us 31,us 32,us 33,us 34,us 35,us 36,us 37,us 38,us 39,us 40,us 41,us 42,us 43,us 44,us 45,us 46,us 47,us 48,us 49,us 50,us 51,us 52,us 53,us 54,us 55,us 56,us 57,us 58,us 59,us 60,us 61,us 62,us 63,us 64,us 65,us 66,us 67,us 68,us 69,us 70,us 71,us 72,us 73,us 74,us 75,us 76,us 77,us 78,us 79,us 80,us 81,us 82,us 83,us 84,us 85,us 86,us 87,us 88,us 89,us 90,us 91,us 92,us 93,us 94,us 95,us 96,us 97,us 98,us 99,us 100,us 101,us 102,us 103,us 104,us 105,us 106,us 107,us 108,us 109,us 110,us 111,us 112,us 113,us 114,us 115,us 116],defers:=b.defers }:=by
 refine⟨fun n=>b.tmps[n]?.getD undef,fun _=>rfl,?_⟩
 obtain⟨⟨l⟩,d⟩:=b
 have h1:=xC l
 rw[show l.length=117 from h] at h1
 have h2:l.toArray=((List.range 117).map (fun i=>l[i]?.getD undef)).toArray:=congrArg List.toArray h1
 refine congrArg (fun t=>({ tmps:=t,defers:=d }:Act)) (h2.trans ?_)
 simp only[List.getElem?_toArray]
 rfl
theorem yZ{P:Program}(w:World)(d:Nat)(t:TypeId){ps rs:Array TypeId}{v:Bool}(fn:Fn)(f c:Array Value)(h:P.underlying t=some (.func ps rs v)):(Op.equalIn (d+1) t (.func fn f c) .nilFunc).run P w = .ok false w:=by
 simp[Op.equalIn,run_underlying h]
theorem xA{P:Program}(w:World)(t:TypeId){ps rs:Array TypeId}{v:Bool}(fn:Fn)(f c:Array Value)(h:P.underlying t=some (.func ps rs v)):(Op.equal t (.func fn f c) .nilFunc).run P w = .ok false w:=yZ w 9999 t fn f c h
theorem xB{P:Program}(w:World)(t:TypeId){ps rs:Array TypeId}{v:Bool}(fn:Fn)(f c:Array Value)(h:P.underlying t=some (.func ps rs v)):(binOp .eql t (.func fn f c) .nilFunc).run P w = .ok (.bool false) w:=by
 simp only[binOp]
 simp[xA w t fn f c h]
def EI(mark k:Int)(pre:List BE)(la:Int)(en:Nat)(nx:Int):Prop:=segGo mark (pre.map BE.val) (k-1,0,false)=(la,en,false)/\((nx=0/\pre=[])\/(nx=la+1/\pre≠[]))
set_option maxRecDepth 20000 in
set_option maxHeartbeats 8000000 in
theorem yW(w:World)(fa:Option Addr)(fc:Nat)(ms:List FBm)(hF:Files w fa fc ms)(hnd:((ms.map FBm.f).map Prod.fst).Nodup)(hlen:ms.length<=1000000)(hdl:∀ m∈ms,m.f.2.length<=4294967296)(mark:Int)(hm:0<=mark/\mark<=281474976710655) :
  Calls Tryz.prog 38 #[.slice fa ms.length fc,.int .i64 mark] w fun e w'=>e = .returned (.int .i64 (endF (ms.map FBm.f) mark))/\Below w.heap.size w w':=by
 have HF:=Hi hF
 have HN:=Hi hnd
 have HL:=Hi hlen
 have Kg:=Hi hdl
 have HM:=Hi hm
 have wm:IntKind.i64.wrap (mark+1)=mark+1:=IntWalk.i64_in _ (by omega)
 clear hF hnd hlen hdl hm
 refine(callsIn_wide (n:=6)).1 ?_
 refine callsIn_of_wp_marks Tryz.func38 rfl trivial ?_ rfl
 refine(wpIn_wide (n:=6)).2 ?_
 simp only[Tryz.ntmps38,List.size_toArray,List.length_cons,List.length_nil,Nat.reduceAdd,Nat.reduceSub,Array.replicate_succ,Array.replicate_zero,List.push_toArray,List.append_toArray,List.nil_append,List.cons_append]
 repeat' ((fail_if_success (with_reducible (show Code.wp _ (Code.region 1 _ _) _ _ _)));(fail_if_success at_builtin);first|go_values|go_skip|go_guarded|go_step|go_upon|go_back)
 have bM:((w.alloc (.cells #[.int .i64 mark] 3)).alloc (.cells #[.int .i64 0] 3)).heap[w.heap.size]?=some (.cells #[.int .i64 mark] 3 (0,0)):=blk_alloc (blk_new _ _) _
 have bR:((w.alloc (.cells #[.int .i64 mark] 3)).alloc (.cells #[.int .i64 0] 3)).heap[w.heap.size+1]?=some (.cells #[.int .i64 0] 3 (0,0)):=blk_new1 _ _ _
 have hb:Below w.heap.size w ((w.alloc (.cells #[.int .i64 mark] 3)).alloc (.cells #[.int .i64 0] 3)):=((Below.refl _ w).alloc (Nat.le_refl _) _).alloc (by simp) _
 have Hm:EL w w.heap.size mark [] ((w.alloc (.cells #[.int .i64 mark] 3)).alloc (.cells #[.int .i64 0] 3)):=⟨bM,bR,Marks.nil _ _,hb⟩
 obtain⟨n0,hn0⟩:∃ n0,w.heap.size=n0:=⟨_,rfl⟩
 have Hf:=Hi hn0
 rw[hn0] at Hm⊢
 clear bM bR hb hn0
 generalize ((w.alloc (.cells #[.int .i64 mark] 3)).alloc (.cells #[.int .i64 0] 3))=w1 at Hm⊢
 have Hm:=Hi Hm
 repeat' ((fail_if_success at_builtin);first|go_values|go_skip|go_guarded|go_step|go_upon|go_back)
 go_loopw [5,6] (fun a c wr=>∃ i:Nat,a = .int .i64 (atGo mark ((ms.take i).map FBm.f))/\c = .int .i64 (i:Int)/\i<=ms.length/\Below w1.heap.size w1 wr) (fun _ c _=>ms.length-(intOf c).toNat)
 case atStart=>exact⟨0,rfl,rfl,Nat.zero_le _,Below.refl _ _⟩
 case round =>
  obtain⟨i,rfl,rfl,hi,hb⟩:=hrel
  have HB:=Hi hb
  have HE:=Hi (Hm.out.below hb (Nat.le_refl _))
  have hlI:(ms.length:Int)<=1000000:=by have:=HL.out;omega
  obtain⟨a,ha⟩:∃ a,atGo mark ((ms.take i).map FBm.f)=a:=⟨_,rfl⟩
  rw[ha]
  have HA:=Hi ha
  clear ha
  by_cases hlt:i<ms.length
  ·have hlt':(i:Int)<(ms.length:Int):=by omega
   obtain⟨m,hm⟩:∃ m,ms[i]?=some m:=⟨_,List.getElem?_eq_getElem hlt⟩
   obtain⟨fg,fo,rfl,q1,q2⟩:=(HF.out.below (by rw[Hf.out];exact HE.out.hb)).at hm
   have Ha:=Hi hlt
   have hst:atGo mark ((ms.take (i+1)).map FBm.f)=xH mark a m.f.1:=by
    rw[List.take_add_one,hm,List.map_append,<-HA.out]
    exact yM _ _ _
   have Hg:=Hi hst
   clear hb hi hm hlt hst q2
   repeat' ((fail_if_success at_builtin);first|go_values|go_skip|go_guarded|go_step|go_upon|go_back)
   refine(sfirst_any wr ⟨m.f.1.toArray⟩).mono ?_
   rintro e1 w2 ⟨rfl,hb2⟩
   simp only[List.toList_toArray]
   have Hr:=Hi (HB.out.trans (hb2.mono HB.out.size))
   have q0:=(blk1 (HE.out.below hb2 (Nat.le_refl _)).hm).1
   obtain⟨⟨k,is⟩,hq⟩:∃ q,numOfName logH m.f.1=q:=⟨_,rfl⟩
   unfold xH at Hg
   rw[hq] at Hg⊢
   dsimp only at Hg⊢
   clear hq hb2 q1
   cases is with
   | false =>
    have Hh:Hid (atGo mark ((ms.take (i+1)).map FBm.f)=a):=Hi (by rw[Hg.out,if_neg (by simp)])
    repeat' ((fail_if_success at_builtin);first|go_values|go_skip|go_guarded|go_step|go_upon|go_back)
    go_roundw
    case rel=>exact⟨i+1,by rw[Hh.out],by go_num,Ha.out,Hr.out⟩
    case measure=>have:=Ha.out;simp[intOf];omega
   | true =>
    by_cases h1:k<=mark+1
    ·have t1:decide (k<=mark+1)=true:=decide_eq_true h1
     by_cases h2:a<k
     ·have t2:decide (a<k)=true:=decide_eq_true h2
      have Hh:Hid (atGo mark ((ms.take (i+1)).map FBm.f)=k):=Hi (by rw[Hg.out,if_pos ⟨rfl,h1,h2⟩])
      clear h1 h2
      repeat' ((fail_if_success at_builtin);first|go_values|go_skip|go_guarded|go_step|go_upon|go_back)
      go_roundw
      case rel=>exact⟨i+1,by rw[Hh.out],by go_num,Ha.out,Hr.out⟩
      case measure=>have:=Ha.out;simp[intOf];omega
     ·have t2:decide (a<k)=false:=decide_eq_false h2
      have Hh:Hid (atGo mark ((ms.take (i+1)).map FBm.f)=a):=Hi (by rw[Hg.out,if_neg (fun h=>h2 h.2.2)])
      clear h1 h2
      repeat' ((fail_if_success at_builtin);first|go_values|go_skip|go_guarded|go_step|go_upon|go_back)
      go_roundw
      case rel=>exact⟨i+1,by rw[Hh.out],by go_num,Ha.out,Hr.out⟩
      case measure=>have:=Ha.out;simp[intOf];omega
    ·have t1:decide (k<=mark+1)=false:=decide_eq_false h1
     have Hh:Hid (atGo mark ((ms.take (i+1)).map FBm.f)=a):=Hi (by rw[Hg.out,if_neg (fun h=>h1 h.2.1)])
     clear h1
     repeat' ((fail_if_success at_builtin);first|go_values|go_skip|go_guarded|go_step|go_upon|go_back)
     go_roundw
     case rel=>exact⟨i+1,by rw[Hh.out],by go_num,Ha.out,Hr.out⟩
     case measure=>have:=Ha.out;simp[intOf];omega
  ·have hie:i=ms.length:=by omega
   subst hie
   have hlt':decide ((ms.length:Int)<(ms.length:Int))=false:=by simp
   have hlt2:decide (ms.length<ms.length)=false:=by simp
   have hst:=yR HN.out HM.out
   rw[show ms.map FBm.f=(ms.take ms.length).map FBm.f by rw[List.take_length],HA.out] at hst
   rw[List.take_length] at hst
   have Kh:=Hi hst
   have q0:=(blk1 HE.out.hm).1
   clear hi hb hlt hst
   repeat' ((fail_if_success at_builtin);first|go_values|go_skip|go_guarded|go_step|go_upon|go_back)
   clear q0 hlt' hlt2
   refine wp_loop_ghost (fun kk b W=>∃ (Ds:List Nat) (aa L:Int),b.defers=Ds.map markOf/\b.tmps.size=117/\b.tmps[0]?=some (.slice fa ms.length fc)/\b.tmps[1]?=some (.int .i64 mark)/\b.tmps[3]?=some (.pointer (some ⟨n0,0,none⟩))/\b.tmps[4]?=some (.pointer (some ⟨n0+1,0,none⟩))/\b.tmps[5]?=some (.int .i64 aa)/\b.tmps[9]?=some (.int .i64 L)/\Hid (EL w n0 mark Ds W)/\Hid (OutR (ms.map FBm.f) mark kk aa L)) (281474976710658-a).toNat ⟨[],a,mark,rfl,rfl,rfl,rfl,rfl,rfl,rfl,rfl,HE,Kh⟩ ?_
   rintro kk b W ⟨Ds,aa,L,hd,hs,h0,h1,h3,h4,h5,h9,Hd,HO⟩
   obtain⟨us,hus,hfr⟩:=yY b hs
   have e0:us 0 = .slice fa ms.length fc:=by rw[hus,h0];rfl
   have e1:us 1 = .int .i64 mark:=by rw[hus,h1];rfl
   have e3:us 3 = .pointer (some ⟨n0,0,none⟩):=by rw[hus,h3];rfl
   have e4:us 4 = .pointer (some ⟨n0+1,0,none⟩):=by rw[hus,h4];rfl
   have e5:us 5 = .int .i64 aa:=by rw[hus,h5];rfl
   have e9:us 9 = .int .i64 L:=by rw[hus,h9];rfl
   rw[hd,e0,e1,e3,e4,e5,e9] at hfr
   clear hus hd hs h0 h1 h3 h4 h5 h9 e0 e1 e3 e4 e5 e9
   subst hfr
   clear HE Kh
   have c0:=(blk1 Hd.out.hm).1
   by_cases h0:aa=0
   ·subst h0
    have t1:decide ((0:Int)<0)=false:=rfl
    have Hz:Hid (endF (ms.map FBm.f) mark=L):=Hi (by
     obtain⟨-,h|h⟩:=HO.out
     ·exact h.2
     ·have:=h.1;omega)
    have r0:=blk1 Hd.out.hr
    repeat' ((fail_if_success at_builtin);first|go_values|go_skip|go_guarded|go_step|go_upon|go_back)
    have Ko:=Hi (blk_set Hd.out.hr 0 (.int .i64 L))
    refine yX (w:=w) (v:=L) rfl Ko.out (Hd.out.hb.setCell (p:=⟨n0+1,0,none⟩) (Nat.le_succ _) _) (Hd.out.hd.others (KeepsOthers.setCell _ _ _)) ?_
    intro V hV
    exact⟨by rw[Hz.out],by rw[Hf.out];exact hV⟩
   ·have h1:1<=aa:=by
     obtain⟨-,h|h⟩:=HO.out
     ·exact absurd h.1 h0
     ·exact h.1
    have t1:decide (0<aa)=true:=decide_eq_true (by omega)
    have H0:=Hi h0
    clear h0 h1 c0
    repeat' ((fail_if_success (with_reducible (show Code.wp _ (Code.region 11 _ _) _ _ _)));(fail_if_success at_builtin);first|go_values|go_skip|go_guarded|go_step|go_upon|go_back)
    have eX:=blk_new W (.cells #[.int .i64 0] 3)
    have hbX:Below W.heap.size W (W.alloc (.cells #[.int .i64 0] 3)):=(Below.refl _ _).alloc (Nat.le_refl _) _
    have hsX:(W.alloc (.cells #[.int .i64 0] 3)).heap.size=W.heap.size+1:=by simp
    have Ka:=Hi (Hd.out.below hbX (Nat.le_refl _))
    have hnX:n0+1<W.heap.size:=blk_lt Hd.out.hr
    generalize W.alloc (.cells #[.int .i64 0] 3)=w4 at eX hbX hsX Ka⊢
    obtain⟨X,hX⟩:∃ X,W.heap.size=X:=⟨_,rfl⟩
    rw[hX] at eX hsX hnX⊢
    have Ki:=Hi eX
    have Kp:=Hi hnX
    have Kq:=Hi hsX
    clear eX hbX hsX hnX hX t1 Hd
    repeat' ((fail_if_success at_builtin);first|go_values|go_skip|go_guarded|go_step|go_upon|go_back)
    refine wp_loop_ghost (fun k2 b W2=>∃ (Ds:List Nat) (i:Nat) (N L2:Int),b.defers=Ds.map markOf/\b.tmps.size=117/\b.tmps[0]?=some (.slice fa ms.length fc)/\b.tmps[1]?=some (.int .i64 mark)/\b.tmps[3]?=some (.pointer (some ⟨n0,0,none⟩))/\b.tmps[4]?=some (.pointer (some ⟨n0+1,0,none⟩))/\b.tmps[5]?=some (.int .i64 aa)/\b.tmps[9]?=some (.int .i64 L2)/\b.tmps[10]?=some (.pointer (some ⟨X,0,none⟩))/\b.tmps[11]?=some (.int .i64 (i:Int))/\Hid (EL w n0 mark Ds W2)/\Hid (W2.heap[X]?=some (.cells #[.int .i64 N] 3 (0,0)))/\Hid (i<=ms.length/\ms.length-i<=k2)/\Hid (EndIn (ms.map FBm.f) mark aa L i N L2)) ms.length ⟨Ds,0,0,L,rfl,rfl,rfl,rfl,rfl,rfl,rfl,rfl,rfl,rfl,Ka,Ki,Hi ⟨Nat.zero_le _,Nat.le_refl _⟩,Hi (yO _ _ _ _)⟩ ?_
    clear Ka Ki Kq
    rintro k2 b W2 ⟨Es,i,N,L2,hd,hs,h0,h1,h3,h4,h5,h9,h10,h11,Hs,Ht,He,Hn⟩
    obtain⟨vs,hus,hfr⟩:=yY b hs
    have e0:vs 0 = .slice fa ms.length fc:=by rw[hus,h0];rfl
    have e1:vs 1 = .int .i64 mark:=by rw[hus,h1];rfl
    have e3:vs 3 = .pointer (some ⟨n0,0,none⟩):=by rw[hus,h3];rfl
    have e4:vs 4 = .pointer (some ⟨n0+1,0,none⟩):=by rw[hus,h4];rfl
    have e5:vs 5 = .int .i64 aa:=by rw[hus,h5];rfl
    have e9:vs 9 = .int .i64 L2:=by rw[hus,h9];rfl
    have e10:vs 10 = .pointer (some ⟨X,0,none⟩):=by rw[hus,h10];rfl
    have e11:vs 11 = .int .i64 (i:Int):=by rw[hus,h11];rfl
    rw[hd,e0,e1,e3,e4,e5,e9,e10,e11] at hfr
    clear hus hd hs h0 h1 h3 h4 h5 h9 h10 h11 e0 e1 e3 e4 e5 e9 e10 e11
    subst hfr
    have hlI:(ms.length:Int)<=1000000:=by have:=HL.out;omega
    by_cases hlt:i<ms.length
    ·have hlt':(i:Int)<(ms.length:Int):=by omega
     obtain⟨m,hm⟩:∃ m,ms[i]?=some m:=⟨_,List.getElem?_eq_getElem hlt⟩
     obtain⟨fg,fo,rfl,q1,q2⟩:=(HF.out.below (by rw[Hf.out];exact Hs.out.hb)).at hm
     have Ha:=Hi hlt
     have Ho:=Hi hm
     have Kb:Hid ((ms.map FBm.f)[i]?=some m.f):=Hi (by rw[List.getElem?_map,hm];rfl)
     obtain⟨k3,hk3⟩:∃ k3,k2=k3+1:=⟨k2-1,by have:=He.out;omega⟩
     subst hk3
     clear hm hlt
     repeat' ((fail_if_success at_builtin);first|go_values|go_skip|go_guarded|go_step|go_upon|go_back)
     refine(sfirst_any W2 ⟨m.f.1.toArray⟩).mono ?_
     rintro e1 w5 ⟨rfl,hb5⟩
     simp only[List.toList_toArray]
     have Hu:=Hi (Hs.out.below hb5 (Nat.le_refl _))
     have Hk:=Hi (blk_below hb5 Ht.out (blk_lt Ht.out))
     obtain⟨⟨k,is⟩,hq⟩:∃ q,numOfName logH m.f.1=q:=⟨_,rfl⟩
     rw[hq]
     have Kc:=Hi hq
     dsimp only
     clear hq hb5 q1 q2 Ht Hs
     cases is with
     | false =>
      repeat' ((fail_if_success at_builtin);first|go_values|go_skip|go_guarded|go_step|go_upon|go_back)
      exact⟨k3,Nat.lt_succ_self _,Es,i+1,N,L2,rfl,rfl,rfl,rfl,rfl,rfl,rfl,rfl,rfl,rfl,Hu,Hk,Hi ⟨Ha.out,by have:=He.out;omega⟩,Hi (yP Kb.out (by rw[Kc.out];intro h;cases h) Hn.out)⟩
     | true =>
      by_cases hka:k=aa
      ·subst hka
       have t1:(k != k)=false:=by simp
       obtain⟨hN,hL,hG,hE⟩:=yQ HN.out Kb.out Kc.out Hn.out
       subst hN
       subst hL
       have HG:=Hi hG
       have Kr:=Hi hE
       clear hG hE Hn
       repeat' ((fail_if_success (with_reducible (show Code.wp _ (Code.region 17 _ _) _ _ _)));(fail_if_success at_builtin);first|go_values|go_skip|go_guarded|go_step|go_upon|go_back)
       have eV:=blk_new w5 (.cells #[.int .i64 0] 3)
       have hbV:Below w5.heap.size w5 (w5.alloc (.cells #[.int .i64 0] 3)):=(Below.refl _ _).alloc (Nat.le_refl _) _
       have hsV:(w5.alloc (.cells #[.int .i64 0] 3)).heap.size=w5.heap.size+1:=by simp
       have Hp:=Hi (Hu.out.below hbV (Nat.le_refl _))
       have Hv:=Hi (blk_below hbV Hk.out (blk_lt Hk.out))
       have Kj:Hid (X<w5.heap.size):=Hi (blk_lt Hk.out)
       generalize w5.alloc (.cells #[.int .i64 0] 3)=w6 at eV hsV Hp Hv⊢
       obtain⟨V0,hV0⟩:∃ V0,w5.heap.size=V0:=⟨_,rfl⟩
       rw[hV0] at eV hsV Kj⊢
       have Kd:=Hi eV
       have Ks:=Hi hsV
       clear eV hbV hsV hV0 Hu Hk
       obtain⟨g',o',ee,-,q2⟩:=(HF.out.below (by rw[Hf.out];exact Hp.out.hb)).at Ho.out
       obtain⟨rfl,rfl⟩:fg=g'/\fo=o':=by cases ee;exact⟨rfl,rfl⟩
       have hbs:=(HF.out.bs m (List.mem_of_getElem? Ho.out)).below (by rw[Hf.out];exact Hp.out.hb)
       have Kt:=Hi hbs
       clear hbs
       repeat' ((fail_if_success at_builtin);first|go_values|go_skip|go_guarded|go_step|go_upon|go_back)
       refine(sscan_any w6 m.a m.c m.f.2 k Kt.out (by have:=Kg.out m (List.mem_of_getElem? Ho.out);omega)).mono ?_
       rintro e2 w7 ⟨B1,B2,rfl,hS,hb7⟩
       have HS:=Hi hS
       have Kk:=Hi (Hp.out.below hb7 (Nat.le_refl _))
       have Ku:=Hi (blk_below hb7 Hv.out (blk_lt Hv.out))
       have Kv:=Hi (blk_below hb7 Kd.out (blk_lt Kd.out))
       have Hc:Hid (n0+1<X/\X<V0/\V0<w6.heap.size/\w6.heap.size<=w7.heap.size):=Hi ⟨Kp.out,Kj.out,by rw[Ks.out];omega,hb7.size⟩
       have Hw:=Hi Kk.out.hd.lt
       clear hS hb7 q2 Hp Hv Kd t1
       dsimp only
       have hfn:=fun W=>xB (P:=Tryz.prog) W 151 (.func 163) #[] #[.pointer (some ⟨B1,0,none⟩),.pointer (some ⟨B2,0,none⟩)] Tryz.underlying151
       repeat' ((fail_if_success at_builtin);first|go_values|go_skip|go_guarded|go_step|go_upon|go_back)
       clear hfn
       refine(?_:∀ z2 z6 z7 z8 z12 z13 z15 z16 z17 z18 z19 z20 z21 z22 z23 z24 z25 z26 z27 z28 z29 z30 z31 z32 z33 z34 z35 z36 z37 z38 z39 z40 z41 z42 z43 z44 z45 z46 z47 z48 z49 z50 z51 z52 z53 z54 z55 z56 z57 z58 z59 z60 z61 z62 z63 z64 z65 z66 z67 z68 z69 z70 z71 z72 z73 z74 z75 z76 z77 z78 z79 z81 z82 z83 z84 z85 z86 z87 z88 z89 z90 z91 z92 z93 z94 z95 z96 z97 z98 z99 z100 z101 z102 z103 z104 z105 z106 z107 z108 z109 z110 z111 z112 z113 z114 z115 z116:Value,Code.wp Tryz.prog _ _ { tmps:=#[.slice (some ⟨fg,fo,none⟩) ms.length fc,.int .i64 mark,z2,.pointer (some ⟨n0,0,none⟩),.pointer (some ⟨n0+1,0,none⟩),.int .i64 k,z6,z7,z8,.int .i64 L2,.pointer (some ⟨X,0,none⟩),.int .i64 (i:Int),z12,z13,.pointer (some ⟨V0,0,none⟩),z15,z16,z17,z18,z19,z20,z21,z22,z23,z24,z25,z26,z27,z28,z29,z30,z31,z32,z33,z34,z35,z36,z37,z38,z39,z40,z41,z42,z43,z44,z45,z46,z47,z48,z49,z50,z51,z52,z53,z54,z55,z56,z57,z58,z59,z60,z61,z62,z63,z64,z65,z66,z67,z68,z69,z70,z71,z72,z73,z74,z75,z76,z77,z78,z79,.func (.func 163) #[] #[.pointer (some ⟨B1,0,none⟩),.pointer (some ⟨B2,0,none⟩)],z81,z82,z83,z84,z85,z86,z87,z88,z89,z90,z91,z92,z93,z94,z95,z96,z97,z98,z99,z100,z101,z102,z103,z104,z105,z106,z107,z108,z109,z110,z111,z112,z113,z114,z115,z116],defers:=Es.map markOf } _) _ _ _ _ _ _ _ _ _ _ _ _ _ _ _ _ _ _ _ _ _ _ _ _ _ _ _ _ _ _ _ _ _ _ _ _ _ _ _ _ _ _ _ _ _ _ _ _ _ _ _ _ _ _ _ _ _ _ _ _ _ _ _ _ _ _ _ _ _ _ _ _ _ _ _ _ _ _ _ _ _ _ _ _ _ _ _ _ _ _ _ _ _ _ _ _ _ _ _ _ _ _ _ _ _ _ _
       intro z2 z6 z7 z8 z12 z13 z15 z16 z17 z18 z19 z20 z21 z22 z23 z24 z25 z26 z27 z28 z29 z30 z31 z32 z33 z34 z35 z36 z37 z38 z39 z40 z41 z42 z43 z44 z45 z46 z47 z48 z49 z50 z51 z52 z53 z54 z55 z56 z57 z58 z59 z60 z61 z62 z63 z64 z65 z66 z67 z68 z69 z70 z71 z72 z73 z74 z75 z76 z77 z78 z79 z81 z82 z83 z84 z85 z86 z87 z88 z89 z90 z91 z92 z93 z94 z95 z96 z97 z98 z99 z100 z101 z102 z103 z104 z105 z106 z107 z108 z109 z110 z111 z112 z113 z114 z115 z116
       refine(wpIn_wide (n:=6)).1 ?_
       refine range_law_alloc (w0:=w7) (n:=6) rfl (enters_of Tryz.func163 (by kernel_rfl) rfl) (HS.out 5 w7 (Below.refl _ _)) (fun j t=>j=X\/j=V0)
        (fun j t hj => .inl (by have:=Hc.out;rcases hj with h|h<;>omega)) (Below.refl _ _) (fun _=>rfl)
        (fun pre V=>∃ (la:Int) (en:Nat) (nx:Int),EI mark k pre la en nx/\EL w n0 mark Es V/\V.heap[X]?=some (.cells #[.int .i64 nx] 3 (0,0))/\V.heap[V0]?=some (.cells #[.int .i64 (en:Int)] 3 (0,0)))
        (fun c pre V=>c = .ret/\V.heap[n0+1]?=some (.cells #[.int .i64 mark] 3 (0,0))/\Below n0 w V/\Marks V n0 Es/\(segGo mark (pre.map BE.val) (k-1,0,false)).2.2=true)
        (fun pre A B ⟨la,en,nx,h1,h3,h4,h5⟩ hk=>⟨la,en,nx,h1,h3.keeps (by have:=Hc.out;omega) Hw.out hk,hk.low _ _ h4 (by have:=Hc.out;omega),hk.low _ _ h5 (by have:=Hc.out;omega)⟩)
        (fun c pre A B ⟨h0,h1,h2,h3,h4⟩ hk=>⟨h0,hk.low _ _ h1 (by have:=Hc.out;omega),Below.keeps h2 hk (by have:=Hc.out;omega) (by have:=blk_lt h1;omega),h3.keeps hk Hw.out,h4⟩)
        (fun y A V h hk=>h.keeps hk) ⟨k-1,0,0,⟨rfl,.inl ⟨rfl,rfl⟩⟩,Kk.out,Ku.out,Kv.out⟩
        (fun(y:BE) (p:Nat)=>({ tmps:=#[.slice (some ⟨fg,fo,none⟩) ms.length fc,.int .i64 mark,z2,.pointer (some ⟨n0,0,none⟩),.pointer (some ⟨n0+1,0,none⟩),.int .i64 k,z6,z7,z8,.int .i64 L2,.pointer (some ⟨X,0,none⟩),.int .i64 (i:Int),z12,z13,.pointer (some ⟨V0,0,none⟩),z15,.pointer (some ⟨p,0,none⟩),.int .i64 (y.i:Int),z18,z19,z20,z21,z22,z23,z24,z25,z26,z27,z28,z29,z30,z31,z32,z33,z34,z35,z36,z37,z38,z39,z40,z41,z42,z43,z44,z45,z46,z47,z48,z49,z50,z51,z52,z53,z54,z55,z56,z57,z58,z59,z60,z61,z62,z63,z64,z65,z66,z67,z68,z69,z70,z71,z72,z73,z74,z75,z76,z77,z78,z79,.func (.func 163) #[] #[.pointer (some ⟨B1,0,none⟩),.pointer (some ⟨B2,0,none⟩)],.agg #[.int .i64 y.x.first,.slice y.ta y.x.txns.length y.tc],.int .i64 (y.i:Int),z83,z84,z85,z86,z87,z88,z89,z90,z91,z92,z93,z94,z95,z96,z97,z98,z99,z100,z101,z102,z103,z104,z105,z106,z107,z108,z109,z110,z111,z112,z113,z114,z115,z116],defers:=[] }:Act))
        (fun y p V=>V.heap[p]?=some (.cells #[.int .i64 y.x.first,.slice y.ta y.x.txns.length y.tc] 81 (0,0))) (fun y p A V h hk=>hk.same _ _ _ _ h (by decide)) ?ha ?hb ?hd ?hs
       case ha =>
        intro l y V K hK
        simp only[BE.encs,List.zip_toArray,List.zip_cons_cons,List.zip_nil_left,List.foldl_toArray,List.foldl_cons,List.foldl_nil,List.setIfInBounds_toArray,List.set_cons_succ,List.set_cons_zero]
        gi_wp2
        exact hK _ _ ((Below.refl _ _).alloc (Nat.le_refl _) _) (blk_new _ _) (Nat.le_refl _)
       case hb =>
        rintro l pre y p V ⟨la,en,nx,⟨hr,-⟩,hEV,hXV,hWV⟩ hG hAl hp hsz
        have hnext:segGo mark ((pre++[y]).map BE.val) (k-1,0,false)=segStep mark (la,en,false) (y.x,y.i):=by rw[<-hr];simp[segGo,BE.val,List.foldl_append]
        have Ke:=Hi hnext
        have Kl:=Hi (chkB_ok hG.2.2.2.1)
        have w1:IntKind.i64.wrap (y.x.first+(y.x.txns.length:Int))=y.x.first+(y.x.txns.length:Int):=IntWalk.i64_in _ (by have:=Kl.out;omega)
        have w2:IntKind.i64.wrap (y.x.first+(y.x.txns.length:Int)-1)=y.x.first+(y.x.txns.length:Int)-1:=IntWalk.i64_in _ (by have:=Kl.out;omega)
        obtain⟨p0,p1,-,-⟩:=blk2 hAl
        obtain⟨x0,xf⟩:=blk1 hXV
        obtain⟨v0,vf⟩:=blk1 hWV
        have mm:=(blk1 hEV.hm).1
        have hne:X≠V0:=by have:=Hc.out;omega
        have X1:=blk_set_other hXV hne 0 (.int .i64 (y.i:Int))
        have X2:=Hi (blk_set X1 0 (.int .i64 (y.x.first+(y.x.txns.length:Int))))
        have V2:=Hi (blk_set_other (blk_set hWV 0 (.int .i64 (y.i:Int))) hne.symm 0 (.int .i64 (y.x.first+(y.x.txns.length:Int))))
        have E2:=Hi ((hEV.other (show n0+1<V0 by have:=Hc.out;omega) 0 (.int .i64 (y.i:Int))).other (show n0+1<X by have:=Hc.out;omega) 0 (.int .i64 (y.x.first+(y.x.txns.length:Int))))
        have Hl:Hid (KpN w7.heap.size V ((V.setCell ⟨V0,0,none⟩ (.int .i64 (y.i:Int))).setCell ⟨X,0,none⟩ (.int .i64 (y.x.first+(y.x.txns.length:Int))))/\KpW (fun j t=>j=X\/j=V0) V ((V.setCell ⟨V0,0,none⟩ (.int .i64 (y.i:Int))).setCell ⟨X,0,none⟩ (.int .i64 (y.x.first+(y.x.txns.length:Int))))):=Hi ⟨(KpN.of_others (KeepsOthers.setCell _ _ _)).trans (.of_others (KeepsOthers.setCell _ _ _)),(KpW.set (fun _ _ _ _ => .inr rfl) _ _).trans (KpW.set (fun _ _ _ _ => .inl rfl) _ _)⟩
        have P2:=blk_set_other (blk_set_other hAl (blk_ne hAl hWV (by decide)) 0 (.int .i64 (y.i:Int))) (blk_ne hAl hXV (by decide)) 0 (.int .i64 (y.x.first+(y.x.txns.length:Int)))
        have Km:=Hi (blk_set_other hAl (blk_ne hAl hWV (by decide)) 0 (.int .i64 (y.i:Int)))
        have xx:=blk1 X1
        obtain⟨r0,r1,-,-⟩:=blk2 Km.out
        clear hnext hr hEV hXV hWV hG X1
        repeat' ((fail_if_success (with_reducible (show Code.wpIn _ _ _ (Code.region 25 _ _) _ _ _)));first|go_values|gi_guarded|gi_step|gi_upon|(gi_back))
        generalize (V.setCell ⟨V0,0,none⟩ (.int .i64 (y.i:Int))).setCell ⟨X,0,none⟩ (.int .i64 (y.x.first+(y.x.txns.length:Int)))=V2w at E2 V2 X2 Hl P2⊢
        clear x0 xf v0 vf mm xx p0 p1 r0 r1 hAl Km
        obtain⟨p0,p1,-,-⟩:=blk2 P2
        have x0:=(blk1 X2.out).1
        have mm:=(blk1 E2.out.hm).1
        have r0:=blk1 E2.out.hr
        rcases Bool.eq_false_or_eq_true (decide (y.x.first<=mark)) with t1|t1
        ·rcases Bool.eq_false_or_eq_true (decide (mark<y.x.first+(y.x.txns.length:Int)-1)) with t2|t2
         ·have HT:=Hi (And.intro t1 t2)
          gi_wp2
          refine⟨Hl.out.1.trans (KpN.of_others (KeepsOthers.setCell _ _ _)),rfl,blk_set E2.out.hr 0 _,E2.out.hb.setCell (p:=⟨n0+1,0,none⟩) (Nat.le_succ _) _,E2.out.hd.others (KeepsOthers.setCell _ _ _),?_⟩
          rw[Ke.out]
          simp only[segStep,HT.out.1,HT.out.2]
          rfl
         ·have HT:=Hi (And.intro t1 t2)
          gi_wp2
          refine⟨Hl.out.1,Hl.out.2,y.x.first+(y.x.txns.length:Int)-1,y.i,y.x.first+(y.x.txns.length:Int),⟨?_,.inr ⟨by omega,by simp⟩⟩,E2.out,X2.out,V2.out⟩
          rw[Ke.out]
          simp only[segStep,HT.out.1,HT.out.2]
          rfl
        ·have HT:=Hi t1
         gi_wp2
         refine⟨Hl.out.1,Hl.out.2,y.x.first+(y.x.txns.length:Int)-1,y.i,y.x.first+(y.x.txns.length:Int),⟨?_,.inr ⟨by omega,by simp⟩⟩,E2.out,X2.out,V2.out⟩
         rw[Ke.out]
         simp only[segStep,HT.out]
         rfl
       case hs =>
        rintro D c pre V hD ⟨pre0,y,-,hpre⟩ ⟨rfl,h1,h2,h3,h4⟩ hDD
        have Kw:Hid (endF (ms.map FBm.f) mark=mark):=Hi (yS HO.out H0.out HG.out (segGo_pre hpre h4))
        have Kf:Hid (Marks V n0 (D :: Es)):=Hi (h3.cons hDD (by have:=Hc.out;omega) (fun hin=>by have:=Hw.out D hin;omega))
        have H1:=Hi h1
        have H2:=Hi h2
        clear h1 h2 h3 h4 hDD hpre
        refine(wpIn_wide (n:=6)).2 ?_
        repeat' ((fail_if_success at_builtin);first|go_values|go_skip|go_guarded|go_step|go_upon|go_back)
        refine yX (w:=w) (v:=mark) (ds:=D :: Es) rfl H1.out H2.out Kf.out ?_
        intro V hV
        exact⟨by rw[Kw.out],by rw[Hf.out];exact hV⟩
       case hd =>
        rintro D xs V hD hS' ⟨la,en,nx,⟨hr,hnx⟩,hEV,hXV,hWV⟩ hDD
        have Kf:Hid (Marks V n0 (D :: Es)):=Hi (hEV.hd.cons hDD (by have:=Hc.out;omega) (fun hin=>by have:=Hw.out D hin;omega))
        have Hq:Hid (EL w n0 mark (D :: Es) V):=Hi { hEV with hd:=Kf.out }
        have hfact:(if en<m.f.2.length then (0:Int) else nx)=(if en=0\/en<m.f.2.length then 0 else la+1)/\(if L2<nx-1 then nx-1 else L2)=max L2 la /\ -1<=nx-1/\nx-1<=281474976710655:=by
         have hLL:0<=L2/\k-1<=L2/\1<=k:=by
          obtain⟨⟨g1,-⟩,h|h⟩:=HO.out
          ·exact absurd h.1 H0.out
          ·exact⟨g1,h.2.2.2.2,h.1⟩
         rcases hnx with⟨rfl,rfl⟩|⟨rfl,hne⟩
         ·have hr2:(k-1,0,false)=(la,en,false):=hr
          cases hr2
          refine⟨?_,?_,by omega,by omega⟩
          ·rw[show (if (0:Nat)=0\/0<m.f.2.length then (0:Int) else k-1+1)=0 from if_pos (.inl rfl)];split<;>rfl
          ·rw[if_neg (by omega)];omega
         ·rw[hS'] at hr
          rcases seg_rise m.f.2 mark k with⟨hs,-⟩|⟨g1,g2,g3⟩
          ·rw[hs] at hS'
           exact absurd (List.map_eq_nil_iff.1 hS') hne
          ·rw[hr] at g1 g2 g3
           dsimp only at g1 g2 g3
           have hen:¬ en=0:=by omega
           refine⟨?_,?_,by omega,by omega⟩
           ·simp only[hen,false_or]
           ·split<;>omega
        rw[hS'] at hr
        have hEI:=Kr.out la en hr
        rw[<-hfact.1,<-hfact.2.1] at hEI
        have Hx:=Hi hEI
        have wn:IntKind.i64.wrap (nx-1)=nx-1:=IntWalk.i64_in _ (by have:=hfact.2.2;omega)
        have Hb:=Hi hXV
        have x0:=(blk1 hXV).1
        have Ga:=Hi hWV
        obtain⟨g',o',ee,-,q2⟩:=(HF.out.below (by rw[Hf.out];exact Hq.out.hb)).at Ho.out
        obtain⟨rfl,rfl⟩:fg=g'/\fo=o':=by cases ee;exact⟨rfl,rfl⟩
        have v0:=(blk1 hWV).1
        have hls:Hid (m.f.2.length<=4294967296):=Hi (Kg.out m (List.mem_of_getElem? Ho.out))
        clear hS' hr hnx hEV hXV hWV hDD hfact hEI
        dsimp only
        have hdr:∀ (W:World) (q:Nat),EL w n0 mark (D :: Es) W->EL w n0 mark (D :: Es) (W.drewN q):=fun W q h=>h.below (bdrewN (Below.refl _ W) q) (Nat.le_refl _)
        have Kn:Hid (∀ W,EL w n0 mark (D :: Es) W->∀ v,EL w n0 mark (D :: Es) (W.setCell ⟨X,0,none⟩ (.int .i64 v))):=Hi (fun W h v=>h.other (by have:=Hc.out;omega) 0 _)
        have Hy:=Hi hdr
        clear hdr
        rcases Bool.eq_false_or_eq_true (decide (L2<nx-1)) with t5|t5
        ·rcases Bool.eq_false_or_eq_true (decide ((en:Int)<(m.f.2.length:Int))) with t6|t6
         ·have t7:decide (en<m.f.2.length)=true:=by simpa using t6
          have Hj:Hid (EndIn (ms.map FBm.f) mark k L2 (i+1) 0 (nx-1)):=Hi (by have h:=Hx.out;rw[if_pos (of_decide_eq_true t7),if_pos (of_decide_eq_true t5)] at h;exact h)
          repeat' ((fail_if_success (with_reducible (show Code.wp _ (Code.region 29 _ _) _ _ _)));(fail_if_success at_builtin);first|go_values|go_skip|go_guarded|go_step|go_upon|go_back)
          go_quiet (fail)
          have xf:=(blk1 (show (V.drewN nq).heap[X]?=_ from Hb.out)).2
          repeat' ((fail_if_success at_builtin);first|go_values|go_skip|go_guarded|go_step|go_upon|go_back)
          exact⟨k3,Nat.lt_succ_self _,D :: Es,i+1,0,nx-1,rfl,rfl,rfl,rfl,rfl,rfl,rfl,rfl,rfl,rfl,Hi (Kn.out _ (Hy.out _ _ Hq.out) _),Hi (blk_set Hb.out 0 _),Hi ⟨Ha.out,by have:=He.out;omega⟩,Hj⟩
         ·have t7:decide (en<m.f.2.length)=false:=by simpa using t6
          have Hj:Hid (EndIn (ms.map FBm.f) mark k L2 (i+1) nx (nx-1)):=Hi (by have h:=Hx.out;rw[if_neg (of_decide_eq_false t7),if_pos (of_decide_eq_true t5)] at h;exact h)
          repeat' ((fail_if_success (with_reducible (show Code.wp _ (Code.region 29 _ _) _ _ _)));(fail_if_success at_builtin);first|go_values|go_skip|go_guarded|go_step|go_upon|go_back)
          go_quiet (fail)
          repeat' ((fail_if_success at_builtin);first|go_values|go_skip|go_guarded|go_step|go_upon|go_back)
          exact⟨k3,Nat.lt_succ_self _,D :: Es,i+1,nx,nx-1,rfl,rfl,rfl,rfl,rfl,rfl,rfl,rfl,rfl,rfl,Hi (Hy.out _ _ Hq.out),Hb,Hi ⟨Ha.out,by have:=He.out;omega⟩,Hj⟩
        ·rcases Bool.eq_false_or_eq_true (decide ((en:Int)<(m.f.2.length:Int))) with t6|t6
         ·have t7:decide (en<m.f.2.length)=true:=by simpa using t6
          have Hj:Hid (EndIn (ms.map FBm.f) mark k L2 (i+1) 0 L2):=Hi (by have h:=Hx.out;rw[if_pos (of_decide_eq_true t7),if_neg (of_decide_eq_false t5)] at h;exact h)
          repeat' ((fail_if_success (with_reducible (show Code.wp _ (Code.region 29 _ _) _ _ _)));(fail_if_success at_builtin);first|go_values|go_skip|go_guarded|go_step|go_upon|go_back)
          go_quiet (fail)
          have xf:=(blk1 (show (V.drewN nq).heap[X]?=_ from Hb.out)).2
          repeat' ((fail_if_success at_builtin);first|go_values|go_skip|go_guarded|go_step|go_upon|go_back)
          exact⟨k3,Nat.lt_succ_self _,D :: Es,i+1,0,L2,rfl,rfl,rfl,rfl,rfl,rfl,rfl,rfl,rfl,rfl,Hi (Kn.out _ (Hy.out _ _ Hq.out) _),Hi (blk_set Hb.out 0 _),Hi ⟨Ha.out,by have:=He.out;omega⟩,Hj⟩
         ·have t7:decide (en<m.f.2.length)=false:=by simpa using t6
          have Hj:Hid (EndIn (ms.map FBm.f) mark k L2 (i+1) nx L2):=Hi (by have h:=Hx.out;rw[if_neg (of_decide_eq_false t7),if_neg (of_decide_eq_false t5)] at h;exact h)
          repeat' ((fail_if_success (with_reducible (show Code.wp _ (Code.region 29 _ _) _ _ _)));(fail_if_success at_builtin);first|go_values|go_skip|go_guarded|go_step|go_upon|go_back)
          go_quiet (fail)
          repeat' ((fail_if_success at_builtin);first|go_values|go_skip|go_guarded|go_step|go_upon|go_back)
          exact⟨k3,Nat.lt_succ_self _,D :: Es,i+1,nx,L2,rfl,rfl,rfl,rfl,rfl,rfl,rfl,rfl,rfl,rfl,Hi (Hy.out _ _ Hq.out),Hb,Hi ⟨Ha.out,by have:=He.out;omega⟩,Hj⟩
      ·have t1:(k != aa)=true:=by simpa using hka
       have Kx:=Hi hka
       clear hka
       repeat' ((fail_if_success at_builtin);first|go_values|go_skip|go_guarded|go_step|go_upon|go_back)
       exact⟨k3,Nat.lt_succ_self _,Es,i+1,N,L2,rfl,rfl,rfl,rfl,rfl,rfl,rfl,rfl,rfl,rfl,Hu,Hk,Hi ⟨Ha.out,by have:=He.out;omega⟩,Hi (yP Kb.out (by rw[Kc.out];intro h;exact Kx.out (congrArg Prod.fst h)) Hn.out)⟩
    ·have hie:i=ms.length:=by have:=He.out;omega
     subst hie
     have hlt':decide ((ms.length:Int)<(ms.length:Int))=false:=by simp
     have hlt2:decide (ms.length<ms.length)=false:=by simp
     have x0:=(blk1 Ht.out).1
     obtain⟨k4,hk4,hO4⟩:=yT HO.out H0.out (by rw[List.length_map];exact Hn.out)
     have Ky:=Hi hO4
     have Kz:=Hi hk4
     clear hk4 hO4 hlt
     repeat' ((fail_if_success at_builtin);first|go_values|go_skip|go_guarded|go_step|go_upon|go_back)
     exact⟨k4,Kz.out,Es,N,L2,rfl,rfl,rfl,rfl,rfl,rfl,rfl,rfl,Hs,Ky⟩
end Go.Proofs.YtbppnihcbcdglaaGreat
