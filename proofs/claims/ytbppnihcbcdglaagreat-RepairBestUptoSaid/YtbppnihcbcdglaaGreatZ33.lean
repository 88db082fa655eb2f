/- frame.Scan: what it hands on. No condition. -/
import Derived.Test.YtbppnihcbcdglaaGreatZ1
import Derived.Test.YtbppnihcbcdglaaGreatZ5
import Derived.Test.YtbppnihcbcdglaaGreatZ20
import Derived.Test.YtbppnihcbcdglaaGreatZ32
namespace Go.Proofs.YtbppnihcbcdglaaGreat
open Go.RowKit
set_option linter.unusedVariables false
set_option linter.unusedSimpArgs false
attribute [local go_sem] Oper.semAt_some
structure FE where
 i:Nat
 xs:Bs
 a:Option Addr
 c:Nat
def FE.val(x:FE):Nat×Bs:=(x.i,x.xs)
def FE.encs(x:FE):Array Value:=#[.int .i64 (x.i:Int),.slice x.a x.xs.length x.c]
def FE.G(L:Nat)(x:FE)(w:World):Prop:=BS w x.a x.c x.xs/\TyB w x.a/\x.xs.length<=65536/\1<=x.xs.length/\x.i+8+x.xs.length<=L
theorem OwnB.ty{w:World}{n0:Nat}{a:Option Addr}{n c:Nat}{xs:Bs}(h:OwnB w n0 (.slice a n c) xs):TyB w a:=fun g o e=>by
 subst e
 have:=h.2
 rcases this with ⟨h1,_⟩|⟨g',cap,cur,h1,hg,hh,r⟩
 ·cases h1
 ·cases h1
  exact⟨_,_,hh⟩
theorem BS.kpw{W W':World}{a:Option Addr}{c:Nat}{xs:Bs}(h:BS W a c xs)(ht:TyB W a){Wr:Nat->TypeId->Prop}(hk:KpW Wr W W')(hn:∀ g o,a=some ⟨g,o,none⟩->¬ Wr g 5):BS W' a c xs/\TyB W' a:=by
 refine⟨h.kept fun g o e _=>?_,fun g o e=>?_⟩
 ·obtain⟨cur,f,hg⟩:=ht g o e
  exact(hk g _ _ _ hg (hn g o e)).trans hg.symm
 ·obtain⟨cur,f,hg⟩:=ht g o e
  exact⟨cur,f,hk g _ _ _ hg (hn g o e)⟩
theorem FE.G.keeps{L N:Nat}{x:FE}{A B:World}(h:FE.G L x A)(hk:Keeps [] N A B):FE.G L x B:=by
 obtain⟨h1,h2,h3⟩:=h
 have h4:=h1.kpw h2 (Wr:=fun _ _=>False) (fun k c t f hk1 _=>hk.same k _ _ _ hk1 (by simp)) (fun _ _ _ h=>h)
 exact⟨h4.1,h4.2,h3⟩
set_option maxRecDepth 20000 in
set_option maxHeartbeats 2000000 in
theorem fscan1(n:Nat)(B:Nat)(b:Bs)(a:Option Addr)(c:Nat)(w:World)(N s0:Nat)(hBw:w.heap[B]? = some (.cells #[.slice a b.length c] 27 (0,0)))(hbs:BS w a c b)(hty:TyB w a)(hl:b.length<=17592186044416)(hWB:N<=B/\B<s0)(hWa:∀ g o,a=some ⟨g,o,none⟩->N<=g/\g<s0) :
  SeqG Tryz.prog n 117 #[.pointer (some ⟨B,0,none⟩)] FE.encs [5,27] [] N s0 (FE.G b.length) (fun xs=>xs.map FE.val=frames b (b.length+1) 0) (fun pre=>∃ pre0 x,pre=pre0++[x]/\pre.map FE.val <+: frames b (b.length+1) 0) w:=by
 have hdp:∀ k:Nat,Fence.wide.depth.isSome=true->1<=k:=fun k h=>by cases h
 intro l J Jx Wr W hW hWr hJ hJx hY h0
 have hWB':¬ Wr B 27:=fun h=>by rcases hWr _ _ h with h|h|h <;> first|omega|exact h (by decide)
 have hWa':∀ g o,a=some ⟨g,o,none⟩->¬ Wr g 5:=fun g o e h=>by have:=hWa g o e;rcases hWr _ _ h with h|h|h <;> first|omega|exact h (by decide)
 have hBW:=blk_below hW hBw (blk_lt hBw)
 have hbW:=hbs.below hW
 have htW:=hty.below hW
 have HL:=Lib.hid hl
 have HWB:=Lib.hid hWB'
 have HWA:=Lib.hid hWa'
 have HJ:=Lib.hid hJ
 have HJx:=Lib.hid hJx
 have HY:=Lib.hid hY
 clear hBw hbs hty hl hWB hWa hWB' hWa' hWr hJ hJx hY hW
 refine callsIn_of_wp Tryz.func117 rfl trivial ?_ rfl
 simp only[Tryz.ntmps117,List.size_toArray,List.length_cons,List.length_nil,Nat.reduceAdd,Nat.reduceSub,Array.replicate_succ,Array.replicate_zero,List.push_toArray,List.append_toArray,List.nil_append,List.cons_append]
 gi_wp2
 gi_loopw [3] (fun p wr=>∃ (pre:List FE) (i:Nat),p = .int .i64 (i:Int)/\i<=b.length/\frames b (b.length+1) 0=pre.map FE.val++frames b (b.length+1) i/\J pre wr/\wr.heap[B]? = some (.cells #[.slice a b.length c] 27 (0,0))/\BS wr a c b/\TyB wr a) (fun p _=>b.length-(intOf p).toNat)
 case atStart=>exact⟨[],0,rfl,Nat.zero_le _,rfl,h0,hBW,hbW,htW⟩
 case round =>
  obtain⟨pre,i,rfl,hi,hfr,hJr,hBr,hbr,htr⟩:=hrel
  have HFR:=Lib.hid hfr
  have HJR:=Lib.hid hJr
  have HI:=Lib.hid hi
  clear hfr hJr h0 hBW hbW htW hi
  have q0:wr.cell? ⟨B,0,none⟩=some (.slice a b.length c):=blk_cell hBr 0
  obtain⟨body,j,e,hn⟩:∃ body j e,nextF b i=(body,j,e):=⟨_,_,_,rfl⟩
  have HN:=Lib.hid hn
  clear hn
  by_cases hE:e=0
  ·subst hE
   gi_wp2_with (refine⟨trivial,hdp _,?_⟩;gi_at_call 118;refine(callsIn_wide.2 (next_any wr a c b hbr i (by have:=HL.out;omega) (by have:=HL.out;have:=HI.out;omega))).mono ?_;rintro e1 w4 ⟨a4,c4,rfl,hB4,hb4⟩;rw[HN.out] at hB4 ⊢;dsimp only at hB4 ⊢)
   have HOK:=Lib.hid (nextF_ok HN.out)
   have FS:Hid (∀ x:FE,frames b (b.length+1) i=((i,body) :: frames b (b.length+1) j)):=Lib.hid (fun _=>by
    have h1:=HOK.out.1
    have h2:=HOK.out.2.1
    have e9:frames b (b.length+1) i=(i,(nextF b i).1) :: frames b b.length (nextF b i).2.1:=by
     show (if (nextF b i).2.2≠0 then [] else (i,(nextF b i).1) :: frames b b.length (nextF b i).2.1)=_
     rw[if_neg (by rw[HN.out];simp)]
    rw[e9,HN.out]
    congr 1
    exact frames_more b _ _ _ (by dsimp only;omega) (by dsimp only;omega))
   have FE9:Hid (∀ a' c',frames b (b.length+1) 0=(pre++[(⟨i,body,a',c'⟩:FE)]).map FE.val++frames b (b.length+1) j):=Lib.hid (fun a' c'=>by
    rw[HFR.out,FS.out ⟨i,body,none,0⟩];simp[FE.val])
   gi_wp2_with (refine⟨trivial,hdp _,?_⟩;gi_at_call 65;refine(callsIn_wide.2 (clone_any w4 a4 c4 body hB4 (by have:=HOK.out.2.2.2.1;omega))).mono ?_;rintro e1 w5 ⟨v,rfl,ho,hb5⟩;obtain⟨a5,c5,rfl,hB5,-⟩:=ho.shape;have hb45:=hb4.trans (hb5.mono hb4.size);obtain⟨fn,tmps,assign,bd,hy,hR⟩:=HY.out pre ⟨i,body,a5,c5⟩ w5 (HJ.out _ _ _ HJR.out (.of_below hb45)) ⟨hB5,ho.ty,HOK.out.2.2.2.1,HOK.out.2.2.1,by show i+8+body.length<=b.length;have:=HOK.out.1;have:=HOK.out.2.1;omega⟩;dsimp only [FE.encs] at hy)
   refine⟨hdp _,?_⟩
   refine hR.mono ?_
   rintro e6 W6 (⟨rfl,hJ6,hk6,-⟩|⟨rfl,hJx6,-⟩)
   ·have hB6:W6.heap[B]? = some (.cells #[.slice a b.length c] 27 (0,0)):=hk6 _ _ _ _ (blk_below hb45 hBr (blk_lt hBr)) HWB.out
    have hbt6:=(hbr.below hb45).kpw (htr.below hb45) hk6 HWA.out
    have HJ6:=Lib.hid hJ6
    clear hJ6 hk6 hR hy hBr hbr htr q0 hB5 hB4 hb45 hb4 hb5 ho
    gi_wp2
    go_roundw
    case rel=>exact⟨pre++[⟨i,body,a5,c5⟩],j,rfl,HOK.out.2.1,FE9.out _ _,HJ6.out,hB6,hbt6.1,hbt6.2⟩
    case measure=>have:=HOK.out.1;have:=HOK.out.2.1;simp[intOf];omega
   ·clear hR hy hBr hbr htr q0 hB5 hB4 hb45 hb4 hb5 ho
    have HJx6:=Lib.hid hJx6
    clear hJx6
    gi_wp2
    refine bodyPost_ret (results_none rfl _ _ _) rfl ?_
    exact⟨⟨_,rfl⟩,.inr ⟨pre++[⟨i,body,a5,c5⟩],⟨pre,_,rfl,⟨_,(FE9.out _ _).symm⟩⟩,HJx6.out⟩⟩
  ·have e0:(e != 0)=true:=by simpa using hE
   gi_wp2_with (refine⟨trivial,hdp _,?_⟩;gi_at_call 118;refine(callsIn_wide.2 (next_any wr a c b hbr i (by have:=HL.out;omega) (by have:=HL.out;have:=HI.out;omega))).mono ?_;rintro e1 w4 ⟨a4,c4,rfl,hB4,hb4⟩;rw[HN.out] at hB4 ⊢;dsimp only at hB4 ⊢)
   have FN:Hid (frames b (b.length+1) i=[]):=Lib.hid (by
    show (if (nextF b i).2.2≠0 then [] else (i,(nextF b i).1) :: frames b b.length (nextF b i).2.1)=_
    rw[if_pos (by rw[HN.out];exact hE)])
   have HJ4:=Lib.hid (HJ.out _ _ _ HJR.out (.of_below hb4))
   clear hBr hbr htr q0 hB4 hb4
   refine⟨trivial,?_⟩
   gi_wp2
   refine⟨fun _ h=>(by cases h),?_⟩
   gi_wp2
   refine bodyPost_ret (results_none rfl _ _ _) rfl ?_
   exact⟨⟨_,rfl⟩,.inl ⟨pre,by rw[HFR.out,FN.out,List.append_nil],HJ4.out⟩⟩
end Go.Proofs.YtbppnihcbcdglaaGreat
