/- treadlelaw24.RepairOrder. No condition. -/
import Derived.Lib.SlBytesConst
import Derived.Laws.StructEq
import Derived.BigQuiet
import Derived.Deep.CutBlock
import Derived.Deep.DeepCutAuto
import Derived.Test.YtbppnihcbcdglaaGreatV8
import Derived.Test.YtbppnihcbcdglaaGreatV46
import Derived.Test.YtbppnihcbcdglaaGreatV47
import Derived.Test.YtbppnihcbcdglaaGreatV49
namespace Go.Proofs.YtbppnihcbcdglaaGreat
set_option maxHeartbeats 0
open Go.RowKit
set_option linter.unusedVariables false
set_option linter.unusedSimpArgs false
def awM(g:Nat):List FBm:=[⟨([120],[121]),some ⟨g,0,none⟩,1⟩,⟨(manN,[]),none,0⟩]
theorem aw_files(w:World):Files ((w.alloc (.cells #[.int .u8 121] 5 (1,2))).alloc (.cells #[.string ⟨#[120]⟩,.slice (some ⟨w.heap.size,0,none⟩) 1 1,.string ⟨#[109,97,110,105,102,101,115,116]⟩,.slice none 0 0] 55)) (some ⟨w.heap.size+1,0,none⟩) 2 (awM w.heap.size):=by
 have n1:=blk_alloc (blk_new w (.cells #[.int .u8 121] 5 (1,2))) (.cells #[.string ⟨#[120]⟩,.slice (some ⟨w.heap.size,0,none⟩) 1 1,.string ⟨#[109,97,110,105,102,101,115,116]⟩,.slice none 0 0] 55)
 have n2:=blk_new1 w (.cells #[.int .u8 121] 5 (1,2)) (.cells #[.string ⟨#[120]⟩,.slice (some ⟨w.heap.size,0,none⟩) 1 1,.string ⟨#[109,97,110,105,102,101,115,116]⟩,.slice none 0 0] 55)
 refine⟨.inr ⟨_,0,rfl,fun i u hu=>?_⟩,Nat.le_refl _,(fun e=>by cases e),fun m hm=>?_⟩
 ·rw[Nat.zero_add,blk_cell n2]
  match i,hu with
  | 0,hu=>cases hu;rfl
  | 1,hu=>cases hu;rfl
  | 2,hu=>cases hu;rfl
  | 3,hu=>cases hu;rfl
 ·rcases List.mem_cons.1 hm with rfl|hm
  ·refine⟨Nat.le_refl _,(fun e=>by cases e),.inr ⟨_,0,rfl,fun i u hu=>?_⟩⟩
   rw[Nat.zero_add,blk_cell n1]
   match i,hu with
   | 0,hu=>cases hu;rfl
  ·obtain rfl:=List.mem_singleton.1 hm
   exact⟨Nat.le_refl _,fun _=>rfl,.inl rfl⟩
set_option maxRecDepth 20000 in
theorem awake24_any(w:World):Calls Tryz.prog 31 #[] w fun e' w'=>e' = .returned (.bool true)/\Below w.heap.size w w':=by
 have hF:=aw_files w
 have hb:Below w.heap.size w ((w.alloc (.cells #[.int .u8 121] 5 (1,2))).alloc (.cells #[.string ⟨#[120]⟩,.slice (some ⟨w.heap.size,0,none⟩) 1 1,.string ⟨#[109,97,110,105,102,101,115,116]⟩,.slice none 0 0] 55)):=((Below.refl _ w).alloc (Nat.le_refl _) _).alloc (by simp) _
 have hcv:=Lib.run_convert_bytes_const (P:=Tryz.prog) w 27 5 #[.int .u8 121] 1 1 Tryz.underlying27 Tryz.underlying5
 simp only[List.size_toArray,List.length_cons,List.length_nil,Nat.zero_add,Nat.reduceAdd] at hcv
 go_enter Tryz.func31,Tryz.ntmps31
 repeat' ((fail_if_success at_builtin);first|go_values|go_skip|go_guarded|go_step|go_upon|go_back)
 have hm:=mend_any _ (some ⟨w.heap.size+1,0,none⟩) 2 (awM w.heap.size) hF (by show 2<=_;omega) (fun m hm=>by
  rcases List.mem_cons.1 hm with rfl|hm
  ·show 1<=_;omega
  ·obtain rfl:=List.mem_singleton.1 hm
   show 8<=_;omega) (fun m hm=>by
  rcases List.mem_cons.1 hm with rfl|hm
  ·show 1<=_;omega
  ·obtain rfl:=List.mem_singleton.1 hm
   show 0<=_;omega)
 rw[show (awM w.heap.size).map FBm.f=awF from rfl,mend_awake] at hm
 dsimp only at hm
 refine hm.mono ?_
 rintro e1 w1 ⟨fv,dv,rfl,⟨⟨ns,hns,hfo,-⟩,hdo⟩,hb1⟩
 dsimp only at hns hdo ⊢
 have h1:∃ x:FBm,ns=[x]/\x.f=([120],[121]):=by
  cases ns with
  | nil=>cases hns
  | cons x t =>
   rw[List.map_cons] at hns
   have h1:=List.cons.inj hns
   have h2:t=[]:=List.map_eq_nil_iff.1 h1.2
   subst h2
   exact⟨x,rfl,h1.1⟩
 obtain⟨⟨f,xa,xc⟩,rfl,hf⟩:=h1
 dsimp only at hf
 subst hf
 obtain⟨fg,fc,hfv,-,-⟩:=own_shape hfo (by simp)
 subst hfv
 obtain⟨dg,dc,hdv,-,-⟩:=own_shape hdo (by simp)
 subst hdv
 have q1:w1.cell? ⟨fg,0,none⟩=some (.string ⟨#[120]⟩):=own_cell2 hfo 0 _ rfl
 have q2:w1.cell? ⟨dg,0,none⟩=some (.string ⟨#[109,97,110,105,102,101,115,116]⟩):=own_cell2 hdo 0 _ rfl
 have hb2:=hb.trans (hb1.mono hb.size)
 have hb3:=hb2.alloc hb2.size (.cells #[.slice (some ⟨fg,0,none⟩) 1 fc,.int .i64 0,.int .i64 0,.int .i64 0,.int .i64 0,.slice (some ⟨dg,0,none⟩) 1 dc] 66)
 have q3:=Lib.cell?_alloc_marked (.cells #[.slice (some ⟨fg,0,none⟩) 1 fc,.int .i64 0,.int .i64 0,.int .i64 0,.int .i64 0,.slice (some ⟨dg,0,none⟩) 1 dc] 66) q1
 have q4:=Lib.cell?_alloc_marked (.cells #[.slice (some ⟨fg,0,none⟩) 1 fc,.int .i64 0,.int .i64 0,.int .i64 0,.int .i64 0,.slice (some ⟨dg,0,none⟩) 1 dc] 66) q2
 have n:=blk_new w1 (.cells #[.slice (some ⟨fg,0,none⟩) 1 fc,.int .i64 0,.int .i64 0,.int .i64 0,.int .i64 0,.slice (some ⟨dg,0,none⟩) 1 dc] 66)
 have HB3:=Lib.hid hb3
 clear hm hfo hdo hns hb hb1 hb2 hb3 hF hcv q1 q2
 simp only[List.length_cons,List.length_nil,Nat.zero_add]
 repeat' ((fail_if_success (with_reducible (show Code.wp _ (Code.region 2 _ _) _ _ _)));(fail_if_success at_builtin);first|go_values|go_skip|go_guarded|go_step|go_upon|go_back)
 generalize w1.alloc (.cells #[.slice (some ⟨fg,0,none⟩) 1 fc,.int .i64 0,.int .i64 0,.int .i64 0,.int .i64 0,.slice (some ⟨dg,0,none⟩) 1 dc] 66)=w2 at q3 q4 n HB3 ⊢
 have c0:=blk_cell n 0;have c5:=blk_cell n 5
 simp only[List.getElem?_toArray,List.getElem?_cons_zero,List.getElem?_cons_succ] at c0 c5
 repeat' ((fail_if_success at_builtin);first|go_values|go_skip|go_guarded|go_step|go_upon|go_back)
 refine bodyPost_ret (v:=(.bool true)) (by simp[results,Tryz.results31,go_sem]) rfl ⟨rfl,HB3.out⟩
theorem eqOpen(w:World)(a b c e:Int):(binOp .eql 44 (.agg #[.int .i64 a,.int .i64 b,.int .i64 c,.int .i64 e]) (.agg #[.int .i64 a,.int .i64 b,.int .i64 c,.int .i64 e])).run Tryz.prog w = .ok (.bool true) w:=by
 rw[run_eql_struct]
 simp[go_sem,Tryz.underlying44]
theorem MendV.open{w:World}{n0:Nat}{m:Md}{fv dv:Value}(h:MendV w n0 m fv dv):∃ fa fc da dc,∃ ns:List FBm,fv = .slice fa ns.length fc/\dv = .slice da m.dropped.length dc/\ns.map FBm.f=m.files/\Files w fa fc ns/\RowT w 9 da (m.dropped.map encS):=by
 obtain⟨⟨ns,h1,h2,h3⟩,h4⟩:=h
 obtain⟨fa,fc,rfl,hl,hn,hr⟩:=own_rowF h2 rfl rfl
 obtain⟨da,dc,rfl,-,-,hd,-⟩:=own_rowT h4
 exact⟨fa,fc,da,dc,ns,rfl,rfl,h1,hr.files (w0:=w) hl hn (fun m hm=>(h3 m hm).bs),hd⟩
theorem notHeavy_small{ms:List FBm}(h:NotHeavy ms):(ms.length<=100000/\(∀ m∈ms,m.f.1.length<=1000000)/\∀ m∈ms,m.f.2.length<=4294967296) /\
  (mendF encM (ms.map FBm.f)).files.length<=201/\(∀ x∈(mendF encM (ms.map FBm.f)).files,x.1.length<=1000/\x.2.length<=3000000)/\(mendF encM (ms.map FBm.f)).dropped.length<=200:=by
 obtain⟨h1,h2⟩:=h
 obtain⟨q1,q2,q3⟩:=mend_small (ms.map FBm.f) (A:=1000) (B:=3000000) (by omega) (by omega) (fun x hx=>by obtain⟨m,hm,rfl⟩:=List.mem_map.1 hx;exact(h2 m hm).2) (fun x hx=>by obtain⟨m,hm,rfl⟩:=List.mem_map.1 hx;exact(h2 m hm).1)
 rw[List.length_map] at q1 q3
 exact⟨⟨by omega,fun m hm=>by have:=(h2 m hm).2;omega,fun m hm=>by have:=(h2 m hm).1;omega⟩,by omega,q2,by omega⟩
theorem small_of_files{ns:List FBm}{fs:Fs}(h:ns.map FBm.f=fs)(h1:fs.length<=201)(h2:∀ x∈fs,x.1.length<=1000/\x.2.length<=3000000):ns.length<=100000/\(∀ m∈ns,m.f.1.length<=1000000)/\(∀ m∈ns,m.f.2.length<=4294967296)/\ns.length<=1000000/\∀ m∈ns,m.f.2.length<=1099511627776:=by
 have hl:=congrArg List.length h
 rw[List.length_map] at hl
 have hm:∀ m∈ns,m.f.1.length<=1000/\m.f.2.length<=3000000:=fun m hm=>h2 _ (by rw[<-h];exact List.mem_map.2 ⟨m,hm,rfl⟩)
 exact⟨by omega,fun m h=>by have:=(hm m h).1;omega,fun m h=>by have:=(hm m h).2;omega,by omega,fun m h=>by have:=(hm m h).2;omega⟩
theorem dedGo_snoc(x:Bs×Bs):∀ (l d:Fs),dedGo d (l++[x])=if (getF (dedGo d l) x.1).isSome then dedGo d l else dedGo d l++[x]
 | [],d=>rfl
 | y :: t,d=>dedGo_snoc x t _
theorem ded_in(d:Fs)(k:Bs):(getF d k).isSome=inB (d.map Prod.fst) k:=by
 rw[getF_isSome,inB_eq,Bool.eq_iff_iff]
 simp
theorem ded_yes{l:Fs}{x:Bs×Bs}(h:inB ((dedF l).map Prod.fst) x.1=true):dedF (l++[x])=dedF l:=by
 unfold dedF at h ⊢
 rw[dedGo_snoc,ded_in,if_pos h]
theorem ded_new{l:Fs}{x:Bs×Bs}(h:inB ((dedF l).map Prod.fst) x.1=false):dedF (l++[x])=dedF l++[x]:=by
 unfold dedF at h ⊢
 rw[dedGo_snoc,ded_in,if_neg (by rw[h];simp)]
theorem mend_ded(enc:Mf->Bs){a b:Fs}(h:b.Perm (dedF a)):mendF enc b=mendF enc a:=by
 refine mend_order enc ?_
 have hn:(b.map Prod.fst).Nodup:=(h.map Prod.fst).nodup_iff.2 (ded_nodup a)
 have:dedF b=b:=ded_self (d:=[]) hn
 rw[this]
 exact h.symm
set_option maxRecDepth 20000 in
theorem order24_cps(w:World)(fa:Option Addr)(fc:Nat)(ms:List FBm)(ta:Option Addr)(tc:Nat)(turn:List Int)(hF:Files w fa fc ms)(hT:IntsC w ta turn)(Q:Ending->World->Prop)(hQ:∀ w',Below w.heap.size w w'->Q (.returned (.bool true)) w') :
  Calls Tryz.prog 11 #[.slice fa ms.length fc,.slice ta turn.length tc] w Q:=by
 have HF:=Lib.hid hF
 have HT:=Lib.hid hT
 have HQ:=Lib.hid hQ
 clear hF hT hQ
 by_cases ho:200<turn.length
 ·have t0:decide ((200:Int)<(turn.length:Int))=true:=decide_eq_true (by omega)
  clear ho
  go_enter Tryz.func11,Tryz.ntmps11
  repeat' ((fail_if_success at_builtin);first|go_values|go_skip|go_guarded|go_step|go_upon|go_back)
  refine heavy_cps w fa fc ms HF.out _ ?_
  intro b hb
  clear hb
  cases b with
  | true =>
   dsimp only
   repeat' ((fail_if_success at_builtin);first|go_values|go_skip|go_guarded|go_step|go_upon|go_back)
   (refine(awake24_any w).mono ?_;rintro e1 w1 ⟨rfl,hb1⟩;dsimp only)
   repeat' ((fail_if_success at_builtin);first|go_values|go_skip|go_guarded|go_step|go_upon|go_back)
   exact HQ.out _ hb1
  | false =>
   dsimp only
   repeat' ((fail_if_success at_builtin);first|go_values|go_skip|go_guarded|go_step|go_upon|go_back)
   (refine(awake24_any w).mono ?_;rintro e1 w1 ⟨rfl,hb1⟩;dsimp only)
   repeat' ((fail_if_success at_builtin);first|go_values|go_skip|go_guarded|go_step|go_upon|go_back)
   exact HQ.out _ hb1
 ·have t0:decide ((200:Int)<(turn.length:Int))=false:=decide_eq_false (by omega)
  have HTL:Hid (turn.length<=200):=Lib.hid (by omega)
  clear ho
  go_enter Tryz.func11,Tryz.ntmps11
  repeat' ((fail_if_success at_builtin);first|go_values|go_skip|go_guarded|go_step|go_upon|go_back)
  refine heavy_cps w fa fc ms HF.out _ ?_
  intro b hb
  cases b with
  | true =>
   clear hb
   dsimp only
   repeat' ((fail_if_success at_builtin);first|go_values|go_skip|go_guarded|go_step|go_upon|go_back)
   (refine(awake24_any w).mono ?_;rintro e1 w1 ⟨rfl,hb1⟩;dsimp only)
   repeat' ((fail_if_success at_builtin);first|go_values|go_skip|go_guarded|go_step|go_upon|go_back)
   exact HQ.out _ hb1
  | false =>
   have hnh:=hb rfl
   obtain⟨⟨s1,s2,s3⟩,s4,s5,s6⟩:=notHeavy_small hnh
   have HNL:=Lib.hid hnh
   have HME:=Lib.hid (mend_any w fa fc ms HF.out s1 s2 s3)
   obtain⟨m,hm⟩:∃ m,mendF encM (ms.map FBm.f)=m:=⟨_,rfl⟩
   rw[hm] at HME s4 s5 s6
   have HMD:=Lib.hid hm
   have HSM:=Lib.hid (And.intro s4 (And.intro s5 s6))
   have HS3:=Lib.hid (And.intro s2 s3)
   clear hb hnh s1 s2 s3 s4 s5 s6 hm
   dsimp only
   repeat' ((fail_if_success at_builtin);first|go_values|go_skip|go_guarded|go_step|go_upon|go_back)
   refine HME.out.mono ?_
   rintro e1 w1 ⟨fv,dv,rfl,hV,hb1⟩
   dsimp only
   obtain⟨fa1,fc1,da1,dc1,ns,rfl,rfl,hns,hF1,hD1⟩:=hV.open
   obtain⟨z1,z2,z3,z4,z5⟩:=small_of_files hns HSM.out.1 HSM.out.2.1
   have n1:=blk_new w1 (.cells #[.slice fa1 (ns).length fc1,.int .i64 (m).base,.int .i64 (m).last,.int .i64 (m).rep,.int .i64 0,.slice da1 (m).dropped.length dc1] 66)
   have hb12:=(Below.refl w1.heap.size w1).alloc (Nat.le_refl _) (.cells #[.slice fa1 (ns).length fc1,.int .i64 (m).base,.int .i64 (m).last,.int .i64 (m).rep,.int .i64 0,.slice da1 (m).dropped.length dc1] 66)
   have hbn:=hb1.alloc hb1.size (.cells #[.slice fa1 (ns).length fc1,.int .i64 (m).base,.int .i64 (m).last,.int .i64 (m).rep,.int .i64 0,.slice da1 (m).dropped.length dc1] 66)
   have hF2:=hF1.below hb12
   have hD2:=hD1.below hb12
   have HZ:=Lib.hid (And.intro z1 (And.intro z2 (And.intro z3 (And.intro z4 z5))))
   have HNS:=Lib.hid hns
   clear HME hV hb1 hb12 hF1 hD1 z1 z2 z3 z4 z5
   repeat' ((fail_if_success (with_reducible (show Code.wp _ (Code.region 4 _ _) _ _ _)));(fail_if_success at_builtin);first|go_values|go_skip|go_guarded|go_step|go_upon|go_back)
   generalize w1.alloc (.cells #[.slice fa1 (ns).length fc1,.int .i64 (m).base,.int .i64 (m).last,.int .i64 (m).rep,.int .i64 0,.slice da1 (m).dropped.length dc1] 66)=w2 at n1 hbn hF2 hD2 ⊢
   obtain⟨M1,hM1⟩:∃ M1,w1.heap.size=M1:=⟨_,rfl⟩
   rw[hM1] at n1 ⊢
   have HN1:=Lib.hid n1
   have HB2:=Lib.hid hbn
   have HF2:=Lib.hid hF2
   have HD2:=Lib.hid hD2
   clear n1 hbn hF2 hD2 hM1 hns
   repeat' ((fail_if_success at_builtin);first|go_values|go_skip|go_guarded|go_step|go_upon|go_back)
   go_loopw [6,7] (fun v c wr=>∃ (j:Nat) (os:List FBm),c = .int .i64 j/\j<=ms.length/\Below w2.heap.size w2 wr/\Hid (os.map FBm.f=dedF ((ms.take j).map FBm.f))/\Hid ((∀ x∈os,x∈ms)/\os.length<=j)/\Hid (wr.ownsRow w2.heap.size 55 2 v os.length (os.flatMap FBm.row))) (fun _ c _=>ms.length-(intOf c).toNat)
   case atStart=>exact⟨0,[],rfl,Nat.zero_le _,Below.refl _ _,Lib.hid rfl,Lib.hid ⟨(fun x hx=>by cases hx),Nat.le_refl _⟩,Lib.hid (World.ownsRow_nil _ _ _ _)⟩
   case round =>
    obtain⟨j,os,rfl,hj,hb,HDO,HIN,HOF⟩:=hrel
    obtain⟨wo,hwo⟩:∃ x,x=wr:=⟨_,rfl⟩
    subst hwo
    have HBo:=Lib.hid hb
    have hlI:(ms.length:Int)<=200:=by have:=HNL.out.1;omega
    obtain⟨a6,c6,rfl,hc6,hn6,hR6⟩:=own_rowF HOF.out rfl rfl
    have HR6:=Lib.hid hR6
    have HC6:=Lib.hid (And.intro hc6 hn6)
    clear hR6 hc6 hn6 t0
    by_cases hlt:j<ms.length
    ·have hlt':(j:Int)<(ms.length:Int):=by omega
     obtain⟨x,hx⟩:∃ x,ms[j]? = some x:=⟨_,List.getElem?_eq_getElem hlt⟩
     have HX:=Lib.hid hx
     have HLT:=Lib.hid hlt
     have HNX:Hid (∀ b,inB (os.map fun y=>y.f.1) x.f.1=b->inB ((dedF ((ms.take j).map FBm.f)).map Prod.fst) x.f.1=b):=Lib.hid (fun b h=>by rw[<-HDO.out,List.map_map];exact h)
     have HTK:Hid ((ms.take (j+1)).map FBm.f=(ms.take j).map FBm.f++[x.f]):=Lib.hid (by rw[List.take_add_one,hx,List.map_append];rfl)
     clear hx hb hlt hj
     repeat' ((fail_if_success at_builtin);first|go_values|go_skip|go_guarded|go_step|go_upon|go_back)
     go_loopw [8,9] (fun nb c wr=>∃ k:Nat,nb = .bool (inB ((os.map fun y=>y.f.1).take k) x.f.1)/\c = .int .i64 k/\k<=os.length/\Below wo.heap.size wo wr) (fun _ c _=>os.length-(intOf c).toNat)
     case atStart=>exact⟨0,rfl,rfl,Nat.zero_le _,Below.refl _ _⟩
     case round =>
      obtain⟨k,rfl,rfl,hk,hb⟩:=hrel
      have HBi:=Lib.hid hb
      have HB2i:=Lib.hid (HBo.out.trans (hb.mono HBo.out.size))
      have hnI:(os.length:Int)<=200:=by have:=HIN.out.2;have:=HLT.out;omega
      obtain⟨bv,hbv⟩:∃ bv,inB ((os.map fun y=>y.f.1).take k) x.f.1=bv:=⟨_,rfl⟩
      rw[hbv]
      have HBV:=Lib.hid hbv
      clear hbv
      obtain⟨fg,fo,rfl,q1,q2⟩:=(HF.out.below (HB2.out.trans (HB2i.out.mono HB2.out.size))).at HX.out
      by_cases hkl:k<os.length
      ·have hkl':(k:Int)<(os.length:Int):=by omega
       obtain⟨y,hy⟩:∃ y,os[k]? = some y:=⟨_,List.getElem?_eq_getElem hkl⟩
       obtain⟨g,o,rfl,hgn,hgl,kk⟩:=(HR6.out.below hb).at hkl
       obtain⟨p1,p2,p3,p4⟩:=kk k y hy
       have HY:Hid ((os.map fun y=>y.f.1)[k]? = some y.f.1):=Lib.hid (by rw[List.getElem?_map,hy];rfl)
       have HKL:=Lib.hid hkl
       clear kk hy hkl hb hk hgn hgl
       cases bv with
       | true =>
        repeat' ((fail_if_success at_builtin);first|go_values|go_skip|go_guarded|go_step|go_upon|go_back)
        go_quiet (fail)
        repeat' ((fail_if_success at_builtin);first|go_values|go_skip|go_guarded|go_step|go_upon|go_back)
        go_roundw
        case rel=>exact⟨k+1,by rw[inB_succ HY.out,HBV.out];rfl,by go_num,HKL.out,bdrewN HBi.out _⟩
        case measure=>have:=HKL.out;simp[intOf];omega
       | false =>
        repeat' ((fail_if_success at_builtin);first|go_values|go_skip|go_guarded|go_step|go_upon|go_back)
        go_quiet (fail)
        repeat' ((fail_if_success at_builtin);first|go_values|go_skip|go_guarded|go_step|go_upon|go_back)
        go_roundw
        case rel=>exact⟨k+1,by rw[inB_succ HY.out,HBV.out];rfl,by go_num,HKL.out,bdrewN HBi.out _⟩
        case measure=>have:=HKL.out;simp[intOf];omega
      ·have hke:k=os.length:=by omega
       subst hke
       have hlt':decide ((os.length:Int)<(os.length:Int))=false:=by simp
       have hlt2:decide (os.length<os.length)=false:=by simp
       have hnb:inB (os.map fun y=>y.f.1) x.f.1=bv:=by
        have h:=HBV.out
        rw[List.take_of_length_le (by rw[List.length_map];exact Nat.le_refl _)] at h
        exact h
       have HNB:=Lib.hid (HNX.out bv hnb)
       obtain⟨wi,hwi⟩:∃ x,x=wr:=⟨_,rfl⟩
       subst hwi
       have HOI:Hid (wi.ownsRow w2.heap.size 55 2 (.slice a6 os.length c6) os.length (os.flatMap FBm.row)):=Lib.hid (own_low HOF.out (fun k _ hk=>hb.block k hk))
       clear hkl hb hk hnb
       cases bv with
       | true =>
        repeat' ((fail_if_success at_builtin);first|go_values|go_skip|go_guarded|go_step|go_upon|go_back)
        go_roundw
        case rel=>exact⟨j+1,os,by go_num,HLT.out,HB2i.out,Lib.hid (by rw[HTK.out,ded_yes HNB.out];exact HDO.out),Lib.hid ⟨HIN.out.1,by have:=HIN.out.2;omega⟩,HOI⟩
        case measure=>have:=HLT.out;simp[intOf];omega
       | false =>
        have hbx:Below wi.heap.size wi (wi.alloc (.cells #[.string ⟨x.f.1.toArray⟩,.slice x.a x.f.2.length x.c] 55)):=(Below.refl _ _).alloc (Nat.le_refl _) _
        have hox:(wi.alloc (.cells #[.string ⟨x.f.1.toArray⟩,.slice x.a x.f.2.length x.c] 55)).ownsRow w2.heap.size 55 2 (.slice a6 os.length c6) os.length (os.flatMap FBm.row):=own_low HOI.out (fun k _ hk=>hbx.block k hk)
        have hrx:RowC (wi.alloc (.cells #[.string ⟨x.f.1.toArray⟩,.slice x.a x.f.2.length x.c] 55)) (some ⟨wi.heap.size,0,none⟩) ([x].flatMap FBm.row):=RowT.c (t:=55) (.inr ⟨_,0,_,_,rfl,blk_new wi _,fun i u hu=>by rw[Nat.zero_add];simpa [FBm.row,encS] using hu⟩)
        have hRx:=HR6.out
        have HBX:=Lib.hid hbx
        have HOX:=Lib.hid hox
        have HRX:=Lib.hid hrx
        have HSZ:Hid (w2.heap.size<=(wi.alloc (.cells #[.string ⟨x.f.1.toArray⟩,.slice x.a x.f.2.length x.c] 55)).heap.size):=Lib.hid (Nat.le_trans HB2i.out.size hbx.size)
        clear hbx hox hrx hRx
        repeat' ((fail_if_success at_builtin);first|go_values|go_skip|go_guarded|go_step|go_upon|go_back)
        refine wp_appF rfl _ _ rfl w2.heap.size _ os.length (os.flatMap FBm.row) rfl HOX.out (some ⟨wi.heap.size,0,none⟩) 1 [x] rfl HRX.out (fun e=>by cases e) (by have:=HIN.out.2;have:=HLT.out;have:=HNL.out.1;show _+1<=_;omega) HSZ.out ?_
        intro v' w9 hown' hg'
        have HO9:=Lib.hid hown'
        have HG9:=Lib.hid hg'
        clear hown' hg'
        repeat' ((fail_if_success at_builtin);first|go_values|go_skip|go_guarded|go_step|go_upon|go_back)
        go_roundw
        case rel =>
         refine⟨j+1,os++[x],by go_num,HLT.out,?_,Lib.hid ?_,Lib.hid ⟨fun y hy=>?_,?_⟩,Lib.hid ?_⟩
         ·exact(HB2i.out.trans (HBX.out.mono HB2i.out.size)).grown HG9.out HSZ.out (fun k e=>(own_ge HOX.out e))
         ·rw[HTK.out,ded_new HNB.out,List.map_append,HDO.out];rfl
         ·rcases List.mem_append.1 hy with h|h
          ·exact HIN.out.1 y h
          ·rw[List.mem_singleton.1 h];exact List.mem_of_getElem? HX.out
         ·rw[List.length_append];have:=HIN.out.2;show _+1<=_;omega
         ·rw[List.length_append,List.flatMap_append]
          exact HO9.out
        case measure=>have:=HLT.out;simp[intOf];omega
    ·have hje:j=ms.length:=by omega
     subst hje
     have hlt':decide ((ms.length:Int)<(ms.length:Int))=false:=by simp
     have hlt2:decide (ms.length<ms.length)=false:=by simp
     have HD:Hid (os.map FBm.f=dedF (ms.map FBm.f)):=Lib.hid (by have:=HDO.out;rwa [List.take_length] at this)
     clear hb hlt hj HDO HOF
     go_upto_block 4 with fail
     clear hlt' hlt2
     go_cut [10,11,12] (fun s10 s11 s12 wc=>Below w2.heap.size w2 wc/\Hid (∃ ms1:List FBm,ms1.Perm os/\RowF wc w2.heap.size a6 ms1))
     case first =>
      repeat' ((fail_if_success at_builtin);first|go_values|go_skip|go_guarded|go_step|go_upon|go_back)
      go_loopw [10] (fun c wr=>∃ j:Nat,c = .int .i64 j/\j<=turn.length/\Below w2.heap.size w2 wr/\Hid (∃ ms1:List FBm,ms1.Perm os/\RowF wr w2.heap.size a6 ms1)) (fun c _=>turn.length-(intOf c).toNat)
      case atStart=>exact⟨0,rfl,Nat.zero_le _,HBo.out,Lib.hid ⟨os,List.Perm.refl _,HR6.out⟩⟩
      case round =>
       obtain⟨j,rfl,hj,hb,HPR⟩:=hrel
       obtain⟨ms1,hp,hRF⟩:=HPR.out
       have HBj:=Lib.hid hb
       have hlO:(os.length:Int)<=200:=by have:=HIN.out.2;have:=HNL.out.1;omega
       have hlT:(turn.length:Int)<=200:=by have:=HTL.out;omega
       have HP:=Lib.hid hp
       have HRF:=Lib.hid hRF
       have HL1:Hid (ms1.length=os.length):=Lib.hid hp.length_eq
       clear hp hRF HPR
       by_cases hl2:j<turn.length
       ·have hlt2:(j:Int)<(turn.length:Int):=by omega
        have n1:decide ((j:Int)<(turn.length:Int))=true:=decide_eq_true hlt2
        have n2:decide (j<turn.length)=true:=decide_eq_true hl2
        by_cases hlt:0<os.length
        ·have hlt':(0:Int)<(os.length:Int):=by omega
         have n3:decide ((0:Int)<(os.length:Int))=true:=decide_eq_true hlt'
         have n4:decide (0<os.length)=true:=decide_eq_true hlt
         have hne0:¬ (os.length=0):=by omega
         have hne1:os≠[]:=fun e=>by rw[e] at hlt;cases hlt
         obtain⟨z,hz⟩:∃ z,turn[j]? = some z:=⟨_,List.getElem?_eq_getElem hl2⟩
         obtain⟨gt,ot,rfl,kt⟩:=((HT.out.below HB2.out).below (HBj.out.mono (by have:=HB2.out.size;omega))).at hl2
         have qt:=kt _ _ hz
         obtain⟨m0,hm⟩:∃ m,ms1[0]? = some m:=⟨_,List.getElem?_eq_getElem (by have:=HL1.out;omega)⟩
         obtain⟨g,o,rfl,hgn,hgl,kk⟩:=HRF.out.at (j:=0) (by have:=HL1.out;omega)
         obtain⟨q1,q2,q3,q4⟩:=kk 0 m0 hm
         simp only[Nat.zero_mul,Nat.add_zero] at q1 q2 q3 q4
         have HG:=Lib.hid hgn
         have HMJ:=Lib.hid hm
         have HLT:=Lib.hid hl2
         have HL0:=Lib.hid hlt
         have hmod:=mod_idx z (n:=os.length) (by omega)
         have hb1:Below wr.heap.size wr (wr.alloc (.cells #[.string ⟨m0.f.1.toArray⟩,.slice m0.a m0.f.2.length m0.c] 55)):=(Below.refl _ _).alloc (Nat.le_refl _) _
         have bx:=blk_new wr (.cells #[.string ⟨m0.f.1.toArray⟩,.slice m0.a m0.f.2.length m0.c] 55)
         by_cases hn:z.tmod (os.length:Int)<0
         ·have t1:decide (z.tmod (os.length:Int)<0)=true:=decide_eq_true hn
          obtain⟨q,hq,hqe⟩:=hmod.1 hn
          have hw:IntKind.i64.wrap (z.tmod (os.length:Int)+(os.length:Int))=(q:Int):=by rw[hqe];exact IntWalk.i64_in _ (by omega)
          have hqI:(q:Int)<(os.length:Int):=by omega
          obtain⟨mq,hmq⟩:∃ mq,ms1[q]? = some mq:=⟨_,List.getElem?_eq_getElem (by have:=HL1.out;omega)⟩
          have HMQ:=Lib.hid hmq
          have HQ2:=Lib.hid hq
          clear kt hz hmod kk hm hmq hgn hlt hl2 hj hn hqe
          repeat' ((fail_if_success (with_reducible (show Code.wp _ (Code.region 22 _ _) _ _ _)));(fail_if_success at_builtin);first|go_values|go_skip|go_guarded|go_step|go_upon|go_back)
          obtain⟨X,hX⟩:∃ X,wr.heap.size=X:=⟨_,rfl⟩
          have hRx:=HRF.out.below hb1
          generalize wr.alloc (.cells #[.string ⟨m0.f.1.toArray⟩,.slice m0.a m0.f.2.length m0.c] 55)=wx at hb1 bx hRx ⊢
          rw[hX] at bx ⊢
          have hgX:g≠X:=by omega
          have hsx:=hb1.size
          obtain⟨g',o',ee,hg2,-,kx⟩:=hRx.at (j:=0) (by have:=HL1.out;have:=HL0.out;omega)
          cases ee
          obtain⟨q1,q2,q3,q4⟩:=kx 0 m0 HMJ.out
          simp only[Nat.zero_mul,Nat.add_zero] at q1 q2 q3 q4
          obtain⟨s1,s2,-,-⟩:=kx q mq HMQ.out
          have hRy:RowF ((wx.setCell ⟨g,o,none⟩ (.string ⟨mq.f.1.toArray⟩)).setCell ⟨g,o+1,none⟩ (.slice mq.a mq.f.2.length mq.c)) w2.heap.size (some ⟨g,o,none⟩) (ms1.set 0 mq):=by
           have:=hRx.put (j:=0) (by have:=HL1.out;have:=HL0.out;omega) mq
           simp only[Nat.zero_mul,Nat.add_zero] at this
           exact this
          have by2:=blk_set_other (blk_set_other bx (Ne.symm hgX) o (.string ⟨mq.f.1.toArray⟩)) (Ne.symm hgX) (o+1) (.slice mq.a mq.f.2.length mq.c)
          have hBy:Below w2.heap.size w2 ((wx.setCell ⟨g,o,none⟩ (.string ⟨mq.f.1.toArray⟩)).setCell ⟨g,o+1,none⟩ (.slice mq.a mq.f.2.length mq.c)):=((HBj.out.trans (hb1.mono HBj.out.size)).setCell (p:=⟨g,o,none⟩) HG.out _).setCell (p:=⟨g,o+1,none⟩) HG.out _
          have HRY:=Lib.hid hRy
          have HBY:=Lib.hid hBy
          have HXY:=Lib.hid by2
          clear hRy hBy by2 hRx bx hb1 kx hX hgX hsx hg2
          repeat' ((fail_if_success (with_reducible (show Code.wp _ (Code.region 23 _ _) _ _ _)));(fail_if_success at_builtin);first|go_values|go_skip|go_guarded|go_step|go_upon|go_back)
          generalize ((wx.setCell ⟨g,o,none⟩ (.string ⟨mq.f.1.toArray⟩)).setCell ⟨g,o+1,none⟩ (.slice mq.a mq.f.2.length mq.c))=wy at HRY HBY HXY ⊢
          clear q1 q2 q3 q4 s1 s2
          have x0:=blk_cell HXY.out 0
          have x1:=blk_cell HXY.out 1
          simp only[List.getElem?_toArray,List.getElem?_cons_zero,List.getElem?_cons_succ] at x0 x1
          have hlq:q<(ms1.set 0 mq).length:=by rw[List.length_set];have:=HL1.out;have:=HQ2.out;omega
          obtain⟨g',o',ee,-,-,ky⟩:=HRY.out.at (j:=q) hlq
          cases ee
          obtain⟨me,hme⟩:∃ me,(ms1.set 0 mq)[q]? = some me:=⟨_,List.getElem?_eq_getElem hlq⟩
          obtain⟨s1,s2,s3,s4⟩:=ky q me hme
          have hRz:RowF ((wy.setCell ⟨g,o+q*2,none⟩ (.string ⟨m0.f.1.toArray⟩)).setCell ⟨g,o+q*2+1,none⟩ (.slice m0.a m0.f.2.length m0.c)) w2.heap.size (some ⟨g,o,none⟩) ((ms1.set 0 mq).set q m0):=HRY.out.put hlq m0
          have HRZ:=Lib.hid hRz
          clear ky hlq hRz hme
          repeat' ((fail_if_success at_builtin);first|go_values|go_skip|go_guarded|go_step|go_upon|go_back)
          go_roundw
          case rel=>exact⟨j+1,by go_num,by have:=HLT.out;omega,(HBY.out.setCell (p:=⟨g,o+q*2,none⟩) HG.out _).setCell (p:=⟨g,o+q*2+1,none⟩) HG.out _,Lib.hid ⟨_,(swap_perm HMJ.out HMQ.out).trans HP.out,HRZ.out⟩⟩
          case measure=>have:=HLT.out;simp[intOf];omega
         ·have t1:decide (z.tmod (os.length:Int)<0)=false:=decide_eq_false hn
          obtain⟨q,hq,hqe⟩:=hmod.2 hn
          have HQE:=Lib.hid hqe
          have hqI:(q:Int)<(os.length:Int):=by omega
          obtain⟨mq,hmq⟩:∃ mq,ms1[q]? = some mq:=⟨_,List.getElem?_eq_getElem (by have:=HL1.out;omega)⟩
          have HMQ:=Lib.hid hmq
          have HQ2:=Lib.hid hq
          clear kt hz hmod kk hm hmq hgn hlt hl2 hj hn hqe
          repeat' ((fail_if_success (with_reducible (show Code.wp _ (Code.region 22 _ _) _ _ _)));(fail_if_success at_builtin);first|go_values|go_skip|go_guarded|go_step|go_upon|go_back)
          rw[HQE.out]
          obtain⟨X,hX⟩:∃ X,wr.heap.size=X:=⟨_,rfl⟩
          have hRx:=HRF.out.below hb1
          generalize wr.alloc (.cells #[.string ⟨m0.f.1.toArray⟩,.slice m0.a m0.f.2.length m0.c] 55)=wx at hb1 bx hRx ⊢
          rw[hX] at bx ⊢
          have hgX:g≠X:=by omega
          have hsx:=hb1.size
          obtain⟨g',o',ee,hg2,-,kx⟩:=hRx.at (j:=0) (by have:=HL1.out;have:=HL0.out;omega)
          cases ee
          obtain⟨q1,q2,q3,q4⟩:=kx 0 m0 HMJ.out
          simp only[Nat.zero_mul,Nat.add_zero] at q1 q2 q3 q4
          obtain⟨s1,s2,-,-⟩:=kx q mq HMQ.out
          have hRy:RowF ((wx.setCell ⟨g,o,none⟩ (.string ⟨mq.f.1.toArray⟩)).setCell ⟨g,o+1,none⟩ (.slice mq.a mq.f.2.length mq.c)) w2.heap.size (some ⟨g,o,none⟩) (ms1.set 0 mq):=by
           have:=hRx.put (j:=0) (by have:=HL1.out;have:=HL0.out;omega) mq
           simp only[Nat.zero_mul,Nat.add_zero] at this
           exact this
          have by2:=blk_set_other (blk_set_other bx (Ne.symm hgX) o (.string ⟨mq.f.1.toArray⟩)) (Ne.symm hgX) (o+1) (.slice mq.a mq.f.2.length mq.c)
          have hBy:Below w2.heap.size w2 ((wx.setCell ⟨g,o,none⟩ (.string ⟨mq.f.1.toArray⟩)).setCell ⟨g,o+1,none⟩ (.slice mq.a mq.f.2.length mq.c)):=((HBj.out.trans (hb1.mono HBj.out.size)).setCell (p:=⟨g,o,none⟩) HG.out _).setCell (p:=⟨g,o+1,none⟩) HG.out _
          have HRY:=Lib.hid hRy
          have HBY:=Lib.hid hBy
          have HXY:=Lib.hid by2
          clear hRy hBy by2 hRx bx hb1 kx hX hgX hsx hg2
          repeat' ((fail_if_success (with_reducible (show Code.wp _ (Code.region 23 _ _) _ _ _)));(fail_if_success at_builtin);first|go_values|go_skip|go_guarded|go_step|go_upon|go_back)
          generalize ((wx.setCell ⟨g,o,none⟩ (.string ⟨mq.f.1.toArray⟩)).setCell ⟨g,o+1,none⟩ (.slice mq.a mq.f.2.length mq.c))=wy at HRY HBY HXY ⊢
          clear q1 q2 q3 q4 s1 s2
          have x0:=blk_cell HXY.out 0
          have x1:=blk_cell HXY.out 1
          simp only[List.getElem?_toArray,List.getElem?_cons_zero,List.getElem?_cons_succ] at x0 x1
          have hlq:q<(ms1.set 0 mq).length:=by rw[List.length_set];have:=HL1.out;have:=HQ2.out;omega
          obtain⟨g',o',ee,-,-,ky⟩:=HRY.out.at (j:=q) hlq
          cases ee
          obtain⟨me,hme⟩:∃ me,(ms1.set 0 mq)[q]? = some me:=⟨_,List.getElem?_eq_getElem hlq⟩
          obtain⟨s1,s2,s3,s4⟩:=ky q me hme
          have hRz:RowF ((wy.setCell ⟨g,o+q*2,none⟩ (.string ⟨m0.f.1.toArray⟩)).setCell ⟨g,o+q*2+1,none⟩ (.slice m0.a m0.f.2.length m0.c)) w2.heap.size (some ⟨g,o,none⟩) ((ms1.set 0 mq).set q m0):=HRY.out.put hlq m0
          have HRZ:=Lib.hid hRz
          clear ky hlq hRz hme
          repeat' ((fail_if_success at_builtin);first|go_values|go_skip|go_guarded|go_step|go_upon|go_back)
          go_roundw
          case rel=>exact⟨j+1,by go_num,by have:=HLT.out;omega,(HBY.out.setCell (p:=⟨g,o+q*2,none⟩) HG.out _).setCell (p:=⟨g,o+q*2+1,none⟩) HG.out _,Lib.hid ⟨_,(swap_perm HMJ.out HMQ.out).trans HP.out,HRZ.out⟩⟩
          case measure=>have:=HLT.out;simp[intOf];omega
        ·have n3:decide ((0:Int)<(os.length:Int))=false:=decide_eq_false (by omega)
         have n4:decide (0<os.length)=false:=decide_eq_false hlt
         clear hb hlt hl2 hj
         repeat' ((fail_if_success at_builtin);first|go_values|go_skip|go_guarded|go_step|go_upon|go_back)
         go_meet
         case rel=>exact⟨HBj.out,Lib.hid ⟨ms1,HP.out,HRF.out⟩⟩
       ·have hje:j=turn.length:=by omega
        subst hje
        have n1:decide ((turn.length:Int)<(turn.length:Int))=false:=by simp
        have n2:decide (turn.length<turn.length)=false:=by simp
        clear hb hl2 hj
        repeat' ((fail_if_success at_builtin);first|go_values|go_skip|go_guarded|go_step|go_upon|go_back)
        go_meet
        case rel=>exact⟨HBj.out,Lib.hid ⟨ms1,HP.out,HRF.out⟩⟩
     case rest =>
      obtain⟨hbc,hmc⟩:=hcut
      obtain⟨ms1,hp,hRF⟩:=hmc.out
      obtain⟨w4,hw4⟩:∃ x,x=wc:=⟨_,rfl⟩
      subst hw4
      have HMI:Hid (∀ x∈ms1,x∈ms):=Lib.hid (fun x hx=>HIN.out.1 x (hp.mem_iff.1 hx))
      have HL1:Hid (ms1.length=os.length):=Lib.hid hp.length_eq
      have HF4:Hid (Files w4 a6 c6 ms1):=Lib.hid (hRF.files (w0:=w4) (by rw[hp.length_eq];exact HC6.out.1) HC6.out.2 (fun x hx=>((HF.out.bs x (HMI.out x hx)).below HB2.out).below (hbc.mono (by have:=HB2.out.size;omega))))
      have HME:=Lib.hid (mend_any w4 a6 c6 ms1 HF4.out (by have:=HL1.out;have:=HIN.out.2;have:=HNL.out.1;omega) (fun x hx=>HS3.out.1 x (HMI.out x hx)) (fun x hx=>HS3.out.2 x (HMI.out x hx)))
      rw[mend_ded encM (a:=ms.map FBm.f) (by rw[<-HD.out];exact hp.map FBm.f),HMD.out,HL1.out] at HME
      have HB4:=Lib.hid hbc
      clear hbc hmc hp hRF
      repeat' ((fail_if_success at_builtin);first|go_values|go_skip|go_guarded|go_step|go_upon|go_back)
      refine HME.out.mono ?_
      rintro e1 w5 ⟨fv,dv,rfl,hV,hb5⟩
      dsimp only
      obtain⟨fa2,fc2,da2,dc2,ns2,rfl,rfl,hns2,hF5,hD5⟩:=hV.open
      have n6:=blk_new w5 (.cells #[.slice fa2 (ns2).length fc2,.int .i64 (m).base,.int .i64 (m).last,.int .i64 (m).rep,.int .i64 0,.slice da2 (m).dropped.length dc2] 66)
      have hb56:=(Below.refl w5.heap.size w5).alloc (Nat.le_refl _) (.cells #[.slice fa2 (ns2).length fc2,.int .i64 (m).base,.int .i64 (m).last,.int .i64 (m).rep,.int .i64 0,.slice da2 (m).dropped.length dc2] 66)
      have hb6:=hb5.alloc hb5.size (.cells #[.slice fa2 (ns2).length fc2,.int .i64 (m).base,.int .i64 (m).last,.int .i64 (m).rep,.int .i64 0,.slice da2 (m).dropped.length dc2] 66)
      have hF6:=hF5.below hb56
      have hD6:=hD5.below hb56
      have HB6:=Lib.hid (HB4.out.trans (hb6.mono HB4.out.size))
      have HN2:=Lib.hid (show ns.map FBm.f=ns2.map FBm.f by rw[hns2,HNS.out])
      clear HME hV hb5 hF5 hD5 hb6 hb56 hns2 HB4 HF4
      repeat' ((fail_if_success (with_reducible (show Code.wp _ (Code.region 25 _ _) _ _ _)));(fail_if_success at_builtin);first|go_values|go_skip|go_guarded|go_step|go_upon|go_back)
      generalize w5.alloc (.cells #[.slice fa2 (ns2).length fc2,.int .i64 (m).base,.int .i64 (m).last,.int .i64 (m).rep,.int .i64 0,.slice da2 (m).dropped.length dc2] 66)=w6 at n6 hF6 hD6 HB6 ⊢
      have HF6:=Lib.hid hF6
      have HD6:=Lib.hid hD6
      have HP6:=Lib.hid n6
      have HF1:=Lib.hid (HF2.out.below HB6.out)
      have HD1:=Lib.hid (HD2.out.below HB6.out)
      have HN6:=Lib.hid (blk_below HB6.out HN1.out (blk_lt HN1.out))
      have p0:=blk_cell HP6.out 0
      have q0:=blk_cell HN6.out 0
      simp only[List.getElem?_toArray,List.getElem?_cons_zero,List.getElem?_cons_succ] at p0 q0
      clear n6 hF6 hD6
      repeat' ((fail_if_success at_builtin);first|go_values|go_skip|go_guarded|go_step|go_upon|go_back)
      clear p0 q0
      refine(files24_any w6 fa1 fa2 fc1 fc2 ns ns2 HF1.out HF6.out HN2.out HZ.out.2.2.2.1 HZ.out.2.2.2.2).mono ?_
      rintro e1 w7 ⟨rfl,hb7⟩
      dsimp only
      have HN7:=Lib.hid (blk_below hb7 HN6.out (blk_lt HN6.out))
      have HP7:=Lib.hid (blk_below hb7 HP6.out (blk_lt HP6.out))
      have HB7:=Lib.hid (HB6.out.trans (hb7.mono HB6.out.size))
      have HDA:=Lib.hid (HD1.out.below hb7)
      have HDB:=Lib.hid (HD6.out.below hb7)
      have p1:=blk_cell HP7.out 1;have p2:=blk_cell HP7.out 2;have p3:=blk_cell HP7.out 3;have p4:=blk_cell HP7.out 4;have p5:=blk_cell HP7.out 5
      have q1:=blk_cell HN7.out 1;have q2:=blk_cell HN7.out 2;have q3:=blk_cell HN7.out 3;have q4:=blk_cell HN7.out 4;have q5:=blk_cell HN7.out 5
      simp only[List.getElem?_toArray,List.getElem?_cons_zero,List.getElem?_cons_succ] at p1 p2 p3 p4 p5 q1 q2 q3 q4 q5
      have heq:=fun W=>eqOpen W m.base m.last m.rep 0
      clear hb7
      repeat' ((fail_if_success at_builtin);first|go_values|go_skip|go_guarded|go_step|go_upon|go_back)
      refine texts24_cps w7 da1 da2 dc1 dc2 m.dropped m.dropped HDA.out HDB.out (by have:=HSM.out.2.2;omega) (by have:=HSM.out.2.2;omega) _ ?_
      intro w8 hb8
      rw[decide_eq_true (rfl:m.dropped=m.dropped)]
      have HB8:=Lib.hid (HB7.out.trans (hb8.mono HB7.out.size))
      dsimp only
      clear p1 p2 p3 p4 p5 q1 q2 q3 q4 q5 heq hb8
      repeat' ((fail_if_success at_builtin);first|go_values|go_skip|go_guarded|go_step|go_upon|go_back)
      (refine(awake24_any _).mono ?_;rintro e1 w9 ⟨rfl,hb9⟩;dsimp only)
      have hfin:=HB2.out.trans ((HB8.out.trans (hb9.mono HB8.out.size)).mono HB2.out.size)
      clear hb9
      repeat' ((fail_if_success at_builtin);first|go_values|go_skip|go_guarded|go_step|go_upon|go_back)
      exact HQ.out _ hfin
     end Go.Proofs.YtbppnihcbcdglaaGreat
