import Derived.Lib.SlBytesConst
import Derived.Laws.StructEq
import Derived.Test.YtbppnihcbcdglaaGreatV8
import Derived.Test.YtbppnihcbcdglaaGreatD46
import Derived.Test.YtbppnihcbcdglaaGreatD49
namespace Go.Proofs.YtbppnihcbcdglaaGreat
open Go.RowKit
set_option linter.unusedVariables false
set_option linter.unusedSimpArgs false
def awM(g:Nat):List FBm:=[⟨([120],[121]),some ⟨g,0,none⟩,1⟩,⟨(manN,[]),none,0⟩]
theorem aw_files(w:World):Files ((w.alloc (.cells #[.int .u8 121] 5 (1,2))).alloc (.cells #[.string ⟨#[120]⟩,.slice (some ⟨w.heap.size,0,none⟩) 1 1,.string ⟨#[109,97,110,105,102,101,115,116]⟩,.slice none 0 0] 55)) (some ⟨w.heap.size+1,0,none⟩) 2 (awM w.heap.size):=by
 have n1:=blk_alloc (blk_new w (.cells #[.int .u8 121] 5 (1,2))) (.cells #[.string ⟨#[120]⟩,.slice (some ⟨w.heap.size,0,none⟩) 1 1,.string ⟨#[109,97,110,105,102,101,115,116]⟩,.slice none 0 0] 55)
 have n2:=blk_new1 w (.cells #[.int .u8 121] 5 (1,2)) (.cells #[.string ⟨#[120]⟩,.slice (some ⟨w.heap.size,0,none⟩) 1 1,.string ⟨#[109,97,110,105,102,101,115,116]⟩,.slice none 0 0] 55)
 refine⟨.inr ⟨_,0,rfl,fun i u hu=>?_⟩,Nat.le_refl _,(fun e=>by cases e),fun m hm=>?_⟩
 ·rw[Nat.zero_add,blk_cell n2]
  match i,hu with
  | 0,hu=>cases hu;rfl
  | 1,hu=>cases hu;rfl
  | 2,hu=>cases hu;rfl
  | 3,hu=>cases hu;rfl
 ·rcases List.mem_cons.1 hm with rfl|hm
  ·refine⟨Nat.le_refl _,(fun e=>by cases e),.inr ⟨_,0,rfl,fun i u hu=>?_⟩⟩
   rw[Nat.zero_add,blk_cell n1]
   match i,hu with
   | 0,hu=>cases hu;rfl
  ·obtain rfl:=List.mem_singleton.1 hm
   exact⟨Nat.le_refl _,fun _=>rfl,.inl rfl⟩
set_option maxRecDepth 20000 in
set_option maxHeartbeats 2000000 in
theorem awake24_any(w:World):Calls Tryz.prog 31 #[] w fun e' w'=>e' = .returned (.bool true)/\Below w.heap.size w w':=by
 have hF:=aw_files w
 have hb:Below w.heap.size w ((w.alloc (.cells #[.int .u8 121] 5 (1,2))).alloc (.cells #[.string ⟨#[120]⟩,.slice (some ⟨w.heap.size,0,none⟩) 1 1,.string ⟨#[109,97,110,105,102,101,115,116]⟩,.slice none 0 0] 55)):=((Below.refl _ w).alloc (Nat.le_refl _) _).alloc (by simp) _
 have hcv:=Lib.run_convert_bytes_const (P:=Tryz.prog) w 27 5 #[.int .u8 121] 1 1 Tryz.underlying27 Tryz.underlying5
 simp only[List.size_toArray,List.length_cons,List.length_nil,Nat.zero_add,Nat.reduceAdd] at hcv
 go_enter Tryz.func31,Tryz.ntmps31
 repeat' ((fail_if_success at_builtin);first|go_values|go_skip|go_guarded|go_step|go_upon|go_back)
 have hm:=mend_any _ (some ⟨w.heap.size+1,0,none⟩) 2 (awM w.heap.size) hF (by show 2<=_;omega) (fun m hm=>by
  rcases List.mem_cons.1 hm with rfl|hm
  ·show 1<=_;omega
  ·obtain rfl:=List.mem_singleton.1 hm
   show 8<=_;omega) (fun m hm=>by
  rcases List.mem_cons.1 hm with rfl|hm
  ·show 1<=_;omega
  ·obtain rfl:=List.mem_singleton.1 hm
   show 0<=_;omega)
 rw[show (awM w.heap.size).map FBm.f=awF from rfl,mend_awake] at hm
 dsimp only at hm
 refine hm.mono ?_
 rintro e1 w1 ⟨fv,dv,rfl,⟨⟨ns,hns,hfo,-⟩,hdo⟩,hb1⟩
 dsimp only at hns hdo⊢
 have h1:∃ x:FBm,ns=[x]/\x.f=([120],[121]):=by
  cases ns with
  | nil=>cases hns
  | cons x t =>
   rw[List.map_cons] at hns
   have h1:=List.cons.inj hns
   have h2:t=[]:=List.map_eq_nil_iff.1 h1.2
   subst h2
   exact⟨x,rfl,h1.1⟩
 obtain⟨⟨f,xa,xc⟩,rfl,hf⟩:=h1
 dsimp only at hf
 subst hf
 obtain⟨fg,fc,hfv,-,-⟩:=own_shape hfo (by simp)
 subst hfv
 obtain⟨dg,dc,hdv,-,-⟩:=own_shape hdo (by simp)
 subst hdv
 have q1:w1.cell? ⟨fg,0,none⟩=some (.string ⟨#[120]⟩):=own_cell2 hfo 0 _ rfl
 have q2:w1.cell? ⟨dg,0,none⟩=some (.string ⟨#[109,97,110,105,102,101,115,116]⟩):=own_cell2 hdo 0 _ rfl
 have hb2:=hb.trans (hb1.mono hb.size)
 have hb3:=hb2.alloc hb2.size (.cells #[.slice (some ⟨fg,0,none⟩) 1 fc,.int .i64 0,.int .i64 0,.int .i64 0,.int .i64 0,.slice (some ⟨dg,0,none⟩) 1 dc] 66)
 have q3:=Lib.cell?_alloc_marked (.cells #[.slice (some ⟨fg,0,none⟩) 1 fc,.int .i64 0,.int .i64 0,.int .i64 0,.int .i64 0,.slice (some ⟨dg,0,none⟩) 1 dc] 66) q1
 have q4:=Lib.cell?_alloc_marked (.cells #[.slice (some ⟨fg,0,none⟩) 1 fc,.int .i64 0,.int .i64 0,.int .i64 0,.int .i64 0,.slice (some ⟨dg,0,none⟩) 1 dc] 66) q2
 have n:=blk_new w1 (.cells #[.slice (some ⟨fg,0,none⟩) 1 fc,.int .i64 0,.int .i64 0,.int .i64 0,.int .i64 0,.slice (some ⟨dg,0,none⟩) 1 dc] 66)
 have HB3:=Hi hb3
 clear hm hfo hdo hns hb hb1 hb2 hb3 hF hcv q1 q2
 simp only[List.length_cons,List.length_nil,Nat.zero_add]
 repeat' ((fail_if_success (with_reducible (show Code.wp _ (Code.region 2 _ _) _ _ _)));(fail_if_success at_builtin);first|go_values|go_skip|go_guarded|go_step|go_upon|go_back)
 generalize w1.alloc (.cells #[.slice (some ⟨fg,0,none⟩) 1 fc,.int .i64 0,.int .i64 0,.int .i64 0,.int .i64 0,.slice (some ⟨dg,0,none⟩) 1 dc] 66)=w2 at q3 q4 n HB3⊢
 have c0:=blk_cell n 0;have c5:=blk_cell n 5
 simp only[gA,gB,gC] at c0 c5
 repeat' ((fail_if_success at_builtin);first|go_values|go_skip|go_guarded|go_step|go_upon|go_back)
 refine bodyPost_ret (v:=(.bool true)) (by simp[results,Tryz.results31,go_sem]) rfl ⟨rfl,HB3.out⟩
theorem MendV.open{w:World}{n0:Nat}{m:Md}{fv dv:Value}(h:MendV w n0 m fv dv):∃ fa fc da dc,∃ ns:List FBm,fv = .slice fa ns.length fc/\dv = .slice da m.dropped.length dc/\ns.map FBm.f=m.files/\Files w fa fc ns/\RowT w 9 da (m.dropped.map encS):=by
 obtain⟨⟨ns,h1,h2,h3⟩,h4⟩:=h
 obtain⟨fa,fc,rfl,hl,hn,hr⟩:=own_rowF h2 rfl rfl
 obtain⟨da,dc,rfl,-,-,hd,-⟩:=own_rowT h4
 exact⟨fa,fc,da,dc,ns,rfl,rfl,h1,hr.files (w0:=w) hl hn (fun m hm=>(h3 m hm).bs),hd⟩
theorem notHeavy_small{ms:List FBm}(h:NotHeavy ms):(ms.length<=100000/\(∀ m∈ms,m.f.1.length<=1000000)/\∀ m∈ms,m.f.2.length<=4294967296) /\
  (mendF encM (ms.map FBm.f)).files.length<=201/\(∀ x∈(mendF encM (ms.map FBm.f)).files,x.1.length<=1000/\x.2.length<=3000000)/\(mendF encM (ms.map FBm.f)).dropped.length<=200:=by
 obtain⟨h1,h2⟩:=h
 obtain⟨q1,q2,q3⟩:=mend_small (ms.map FBm.f) (A:=1000) (B:=3000000) (by omega) (by omega) (fun x hx=>by obtain⟨m,hm,rfl⟩:=List.mem_map.1 hx;exact(h2 m hm).2) (fun x hx=>by obtain⟨m,hm,rfl⟩:=List.mem_map.1 hx;exact(h2 m hm).1)
 rw[List.length_map] at q1 q3
 exact⟨⟨by omega,fun m hm=>by have:=(h2 m hm).2;omega,fun m hm=>by have:=(h2 m hm).1;omega⟩,by omega,q2,by omega⟩
end Go.Proofs.YtbppnihcbcdglaaGreat
