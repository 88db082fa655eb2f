/- manifest.Encode. No condition. -/
import Derived.Test.YtbppnihcbcdglaaGreatZ1
import Derived.Test.YtbppnihcbcdglaaGreatZ21
import Derived.Test.YtbppnihcbcdglaaGreatZ43
namespace Go.Proofs.YtbppnihcbcdglaaGreat
open Go.RowKit
set_option linter.unusedVariables false
set_option linter.unusedSimpArgs false
theorem mf_nat{m:Mf}(hm:mayM m=true):∃ a f k p q:Nat,m=⟨a,f,k,p,q⟩/\a<9223372036854775808/\f<9223372036854775808/\k<9223372036854775808/\p<9223372036854775808/\q<9223372036854775808:=by
 have h:=mayM_all hm
 refine⟨m.number.toNat,m.file.toNat,m.mark.toNat,m.prev.toNat,m.pmark.toNat,?_,by omega,by omega,by omega,by omega,by omega⟩
 cases m
 simp only[Mf.mk.injEq] at *
 omega
structure EX (w0:World) (n0 b M K:Nat) (mc:Array Value) (xs:Bs) (w:World):Prop where
 wr:Wr w n0 b 0 xs
 hm:w.heap[M]? = some (.cells mc 46 (0,0))
 hk:w.heap[K]? = some (.cells #[.pointer (some ⟨M,0,none⟩),.pointer (some ⟨M,1,none⟩),.pointer (some ⟨M,2,none⟩),.pointer (some ⟨M,3,none⟩),.pointer (some ⟨M,4,none⟩)] 272 (0,0))
 hb:Below n0 w0 w
theorem EX.on{w0 w w':World}{n0 b M K:Nat}{mc:Array Value}{xs ys:Bs}(h:EX w0 n0 b M K mc xs w)(hn:n0<=w0.heap.size)(hM:M≠b)(hK:K≠b)(hw:Wr w' n0 b 0 ys)(hf:FrW b n0 w w'):EX w0 n0 b M K mc ys w' :=
 ⟨hw,hf.blk h.hm hM (by decide),hf.blk h.hk hK (by decide),h.hb.trans (hf.below h.wr.1 (Nat.le_refl _) (Nat.le_trans hn h.hb.size))⟩
set_option maxRecDepth 20000 in
set_option maxHeartbeats 4000000 in
theorem encode_any(w:World)(m:Mf)(hm:mayM m=true) :
  Calls Tryz.prog 151 #[.agg m.cells] w fun e w'=>∃ v,e = .returned (.tuple #[v,.int .i64 0])/\OwnB w' w.heap.size v (encM m)/\Below w.heap.size w w':=by
 have HL:=Lib.hid (bodyM_len hm)
 obtain⟨a,f,k,p,q,rfl,ha,hf,hk,hp,hq⟩:=mf_nat hm
 have HI:=Lib.hid (And.intro ha (And.intro hf (And.intro hk (And.intro hp hq))))
 have HBD:Hid (encM ⟨a,f,k,p,q⟩=[]++sealB (text manN++sevens a++sevens f++sevens k++sevens p++sevens q)):=Lib.hid (by simp[encM,bodyM])
 have HLB:Hid (1<=(text manN++sevens a++sevens f++sevens k++sevens p++sevens q).length/\(text manN++sevens a++sevens f++sevens k++sevens p++sevens q).length<=100):=Lib.hid (by have:=HL.out;simp only[bodyM,Int.toNat_natCast,List.length_append] at this ⊢;omega)
 have HS:Hid ((text manN++sevens a++sevens f++sevens k++sevens p++sevens q).length<=100):=Lib.hid HLB.out.2
 clear HL ha hf hk hp hq
 have b1:=blk_new w (.cells #[.int .i64 (a:Int),.int .i64 (f:Int),.int .i64 (k:Int),.int .i64 (p:Int),.int .i64 (q:Int)] 46)
 have hb:Below w.heap.size w (w.alloc (.cells #[.int .i64 (a:Int),.int .i64 (f:Int),.int .i64 (k:Int),.int .i64 (p:Int),.int .i64 (q:Int)] 46)):=(Below.refl _ w).alloc (Nat.le_refl _) _
 have hmay:∀ W,Calls Tryz.prog 216 #[.agg #[.int .i64 (a:Int),.int .i64 (f:Int),.int .i64 (k:Int),.int .i64 (p:Int),.int .i64 (q:Int)]] W fun e w'=>e = .returned (.bool true)/\Below W.heap.size W w':=fun W=>by
  have:=mayM_any W ⟨a,f,k,p,q⟩
  rw[hm] at this
  exact this
 clear hm
 obtain⟨N,hN⟩:∃ N,w.heap.size=N:=⟨_,rfl⟩
 have HN:=Lib.hid hN
 rw[hN] at b1 hb
 unfold Mf.cells
 go_enter Tryz.func151,Tryz.ntmps151
 repeat' ((fail_if_success at_builtin);first|go_values|go_skip|go_guarded|go_step|go_upon|go_back)
 clear hN
 generalize w.alloc (.cells #[.int .i64 (a:Int),.int .i64 (f:Int),.int .i64 (k:Int),.int .i64 (p:Int),.int .i64 (q:Int)] 46)=w1 at b1 hb ⊢
 refine(hmay w1).mono ?_
 rintro e1 w2 ⟨rfl,hb2⟩
 dsimp only
 have b2:=blk_below hb2 b1 (blk_lt b1)
 have hlt:=blk_lt b2
 have HB2:=Lib.hid (hb.trans (hb2.mono (by have:=hb.size;have:=HN.out;omega)))
 clear hmay b1 hb hb2
 repeat' ((fail_if_success (with_reducible (show Code.wp _ (Code.region 4 _ _) _ _ _)));(fail_if_success at_builtin);first|go_values|go_skip|go_guarded|go_step|go_upon|go_back)
 have n3:=blk_new w2 (.cells #[.slice none 0 0,.int .i64 0] 83)
 have b3:=blk_alloc b2 (.cells #[.slice none 0 0,.int .i64 0] 83)
 have hb3:=HB2.out.alloc (by have:=HB2.out.size;have:=HN.out;omega) (.cells #[.slice none 0 0,.int .i64 0] 83)
 obtain⟨bW,hbW⟩:∃ bW,w2.heap.size=bW:=⟨_,rfl⟩
 rw[hbW] at n3 hlt
 generalize w2.alloc (.cells #[.slice none 0 0,.int .i64 0] 83)=w3 at n3 b3 hb3 ⊢
 have hW3:Wr w3 N bW 0 []:=⟨by omega,_,n3,OwnB.nil _ _⟩
 rw[hbW]
 clear hbW n3 b2 HB2
 repeat' ((fail_if_success at_builtin);first|go_values|go_skip|go_guarded|go_step|go_upon|go_back)
 refine(wtext_any w3 N bW 0 [] hW3 ⟨#[109,97,110,105,102,101,115,116]⟩ (by simp) (by decide) (by have:=hb3.size;have:=HN.out;omega)).mono ?_
 rintro e1 w4 ⟨rfl,hW4,hf4⟩
 dsimp only
 rw[lay_0,List.nil_append,show text (⟨#[109,97,110,105,102,101,115,116]⟩:ByteArray).data.toList=text manN from rfl] at hW4
 have b4:=hf4.blk b3 (by omega) (by decide)
 have hb4:=hb3.trans (hf4.below (by omega) (Nat.le_refl _) (by have:=hb3.size;have:=HN.out;omega))
 clear hW3 b3 hb3 hf4
 repeat' ((fail_if_success at_builtin);first|go_values|go_skip|go_guarded|go_step|go_upon|go_back)
 refine(numbers_any w4 N).mono ?_
 rintro e1 w5 ⟨K,hK,rfl,hk5,hb5⟩
 dsimp only
 have HE:Hid (EX w N bW N K #[.int .i64 (a:Int),.int .i64 (f:Int),.int .i64 (k:Int),.int .i64 (p:Int),.int .i64 (q:Int)] (text manN) w5):=Lib.hid ⟨hW4.below hb5,blk_below hb5 b4 (blk_lt b4),hk5,hb4.trans (hb5.mono (by have:=hb4.size;have:=HN.out;omega))⟩
 have HMb:Hid (N≠bW):=Lib.hid (by omega)
 have HKb:Hid (K≠bW):=Lib.hid (by obtain⟨-,v,h9,-⟩:=hW4;have:=blk_lt h9;omega)
 clear hW4 b4 hb4 hk5 hb5 hK hlt
 repeat' ((fail_if_success at_builtin);first|go_values|go_skip|go_guarded|go_step|go_upon|go_back)
 refine wp_loop_rounds 6 ?_;rw[rounds_succ]
 (have q0:=blk_cell HE.out.hk 0;have q1:=blk_cell HE.out.hm 0;simp only[List.getElem?_toArray,List.getElem?_cons_zero,List.getElem?_cons_succ] at q0 q1;(repeat' ((fail_if_success at_builtin);first|go_values|go_skip|go_guarded|go_step|go_upon|go_back));refine(wnumber_any _ N bW 0 _ HE.out.wr a (by have:=HI.out;omega) (by have:=HS.out;simp only[List.length_append] at this ⊢;omega) (by have:=HE.out.hb.size;have:=HN.out;omega)).mono ?_;rintro e1 w6 ⟨rfl,hw,hf⟩;dsimp only;rw[lay_0] at hw;have HE2:=Lib.hid (HE.out.on (by have:=HN.out;omega) HMb.out HKb.out hw hf);clear q0 q1 hw hf HE;have HE:=HE2;clear HE2)
 repeat' ((fail_if_success at_builtin);first|go_values|go_skip|go_guarded|go_step|go_upon|go_back)
 rw[rounds_succ]
 (have q0:=blk_cell HE.out.hk 1;have q1:=blk_cell HE.out.hm 1;simp only[List.getElem?_toArray,List.getElem?_cons_zero,List.getElem?_cons_succ] at q0 q1;(repeat' ((fail_if_success at_builtin);first|go_values|go_skip|go_guarded|go_step|go_upon|go_back));refine(wnumber_any _ N bW 0 _ HE.out.wr f (by have:=HI.out;omega) (by have:=HS.out;simp only[List.length_append] at this ⊢;omega) (by have:=HE.out.hb.size;have:=HN.out;omega)).mono ?_;rintro e1 w7 ⟨rfl,hw,hf⟩;dsimp only;rw[lay_0] at hw;have HE2:=Lib.hid (HE.out.on (by have:=HN.out;omega) HMb.out HKb.out hw hf);clear q0 q1 hw hf HE;have HE:=HE2;clear HE2)
 repeat' ((fail_if_success at_builtin);first|go_values|go_skip|go_guarded|go_step|go_upon|go_back)
 rw[rounds_succ]
 (have q0:=blk_cell HE.out.hk 2;have q1:=blk_cell HE.out.hm 2;simp only[List.getElem?_toArray,List.getElem?_cons_zero,List.getElem?_cons_succ] at q0 q1;(repeat' ((fail_if_success at_builtin);first|go_values|go_skip|go_guarded|go_step|go_upon|go_back));refine(wnumber_any _ N bW 0 _ HE.out.wr k (by have:=HI.out;omega) (by have:=HS.out;simp only[List.length_append] at this ⊢;omega) (by have:=HE.out.hb.size;have:=HN.out;omega)).mono ?_;rintro e1 w8 ⟨rfl,hw,hf⟩;dsimp only;rw[lay_0] at hw;have HE2:=Lib.hid (HE.out.on (by have:=HN.out;omega) HMb.out HKb.out hw hf);clear q0 q1 hw hf HE;have HE:=HE2;clear HE2)
 repeat' ((fail_if_success at_builtin);first|go_values|go_skip|go_guarded|go_step|go_upon|go_back)
 rw[rounds_succ]
 (have q0:=blk_cell HE.out.hk 3;have q1:=blk_cell HE.out.hm 3;simp only[List.getElem?_toArray,List.getElem?_cons_zero,List.getElem?_cons_succ] at q0 q1;(repeat' ((fail_if_success at_builtin);first|go_values|go_skip|go_guarded|go_step|go_upon|go_back));refine(wnumber_any _ N bW 0 _ HE.out.wr p (by have:=HI.out;omega) (by have:=HS.out;simp only[List.length_append] at this ⊢;omega) (by have:=HE.out.hb.size;have:=HN.out;omega)).mono ?_;rintro e1 w9 ⟨rfl,hw,hf⟩;dsimp only;rw[lay_0] at hw;have HE2:=Lib.hid (HE.out.on (by have:=HN.out;omega) HMb.out HKb.out hw hf);clear q0 q1 hw hf HE;have HE:=HE2;clear HE2)
 repeat' ((fail_if_success at_builtin);first|go_values|go_skip|go_guarded|go_step|go_upon|go_back)
 rw[rounds_succ]
 (have q0:=blk_cell HE.out.hk 4;have q1:=blk_cell HE.out.hm 4;simp only[List.getElem?_toArray,List.getElem?_cons_zero,List.getElem?_cons_succ] at q0 q1;(repeat' ((fail_if_success at_builtin);first|go_values|go_skip|go_guarded|go_step|go_upon|go_back));refine(wnumber_any _ N bW 0 _ HE.out.wr q (by have:=HI.out;omega) (by have:=HS.out;simp only[List.length_append] at this ⊢;omega) (by have:=HE.out.hb.size;have:=HN.out;omega)).mono ?_;rintro e1 w10 ⟨rfl,hw,hf⟩;dsimp only;rw[lay_0] at hw;have HE2:=Lib.hid (HE.out.on (by have:=HN.out;omega) HMb.out HKb.out hw hf);clear q0 q1 hw hf HE;have HE:=HE2;clear HE2)
 repeat' ((fail_if_success at_builtin);first|go_values|go_skip|go_guarded|go_step|go_upon|go_back)
 rw[rounds_succ]
 repeat' ((fail_if_success at_builtin);first|go_values|go_skip|go_guarded|go_step|go_upon|go_back)
 obtain⟨body,hbody⟩:∃ body,text manN++sevens a++sevens f++sevens k++sevens p++sevens q=body:=⟨_,rfl⟩
 have he:=HE.out
 have hlb:=HLB.out
 rw[hbody] at he hlb
 have HBD2:Hid (encM ⟨a,f,k,p,q⟩=[]++sealB body):=Lib.hid (by rw[HBD.out,hbody])
 refine(wdata_any w10 N bW 0 _ he.wr (by omega)).mono ?_
 rintro e1 w11 ⟨v,rfl,ho,hb11⟩
 dsimp only
 obtain⟨av,cv,rfl,hbs,-⟩:=ho.shape
 have HB11:=Lib.hid (HE.out.hb.trans (hb11.mono (by have:=HE.out.hb.size;have:=HN.out;omega)))
 repeat' ((fail_if_success at_builtin);first|go_values|go_skip|go_guarded|go_step|go_upon|go_back)
 refine(seal_any w11 none av 0 cv [] body ⟨Nat.le_refl _,fun _=>rfl,.inl rfl⟩ hbs (by simp) hlb.1 (by omega)).mono ?_
 rintro e1 w12 ⟨v,rfl,ho,hb12⟩
 dsimp only
 have hfin:=HB11.out.trans (hb12.mono (by have:=HB11.out.size;have:=HN.out;omega))
 have HO:Hid (OwnB w12 w.heap.size v (encM ⟨a,f,k,p,q⟩)):=Lib.hid (by rw[HBD2.out];exact ho.lower (by have:=HB11.out.size;have:=HN.out;omega))
 repeat' ((fail_if_success at_builtin);first|go_values|go_skip|go_guarded|go_step|go_upon|go_back)
 refine bodyPost_ret (results_tmp2 rfl _ _ _) rfl ⟨v,rfl,HO.out,by rw[HN.out];exact hfin⟩
end Go.Proofs.YtbppnihcbcdglaaGreat
