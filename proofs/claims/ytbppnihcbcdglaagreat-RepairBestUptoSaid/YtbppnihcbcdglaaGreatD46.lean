import Derived.BigQuiet
import Derived.Test.YtbppnihcbcdglaaGreatV41
namespace Go.Proofs.YtbppnihcbcdglaaGreat
open Go.RowKit
set_option linter.unusedVariables false
set_option linter.unusedSimpArgs false
theorem Tryz.infoFB:(Tryz.prog.info? 55).map (fun i=>(i.zero,i.size,i.bytes))=some (some (.agg #[.string ⟨#[]⟩,.slice none 0 0]),2,40):=by kernel_rfl
theorem row_one(m:FBm):∀ u∈m.row,u.oneCell'=true:=by
 intro u hu
 simp only[FBm.row,List.mem_cons,List.not_mem_nil,or_false] at hu
 rcases hu with rfl|rfl<;>rfl
theorem rows_len(ms:List FBm):(ms.flatMap FBm.row).length=ms.length*2:=by
 induction ms with
 | nil=>rfl
 | cons x t ih=>rw[List.flatMap_cons,List.length_append,ih,List.length_cons];simp[FBm.row];omega
theorem wp_appF{w:World}{ops:Array Oper}{rest:List Oper}{o:Oper}{a:Act}{Q:Exit->Act->World->Prop}(hgd:o.guard=none)(s x:Operand)
  (ho:o.op = .call { callee := .builtin .append,args:=#[s,x],argTypes:=#[40,40] })
  (n0:Nat) (v:Value) (n:Nat) (xs:List Value) (hs:a.eval s=v) (hown:w.ownsRow n0 55 2 v n xs) (fa:Option Addr) (fc:Nat) (ms:List FBm) (hx:a.eval x = .slice fa ms.length fc) (hF:RowC w fa (ms.flatMap FBm.row)) (hnil:fa=none->ms=[]/\fc=0)
  (hl:n+ms.length<=1000000) (hbase:n0<=w.heap.size)
  (h:∀ v' w',w'.ownsRow n0 55 2 v' (n+ms.length) (xs++ms.flatMap FBm.row)->w.grownBy w' v.ownBlock->wpList Tryz.prog ops Q rest (a.put o.dst v') w'):wpList Tryz.prog ops Q (o :: rest) a w:=by
 obtain⟨i0,hi,hz0,hz1,hz2⟩:=info_parts Tryz.infoFB
 cases fa with
 | none =>
  obtain⟨rfl,rfl⟩:=hnil rfl
  refine wpList_append_own_none hgd s x 40 ho n0 55 i0 2 Tryz.underlying40 hi v n xs hs hown hx ?_
  exact h v w (by simpa using hown) ⟨rfl,rfl,rfl,Nat.le_refl _,fun _ _ _=>rfl⟩
 | some ad =>
  refine wpList_append_own w hgd s x 40 ho n0 55 i0 (.agg #[.string ⟨#[]⟩,.slice none 0 0]) 2 40 Tryz.underlying40 hi hz0 hz1 hz2 rfl (by decide) v n xs hs hown ad ms.length fc (ms.flatMap FBm.row) hx (rows_len ms) ?_ ?_ (by unfold maxLen;omega) (by omega) hbase ?_
  ·intro j u hj
   rcases hF with he|⟨g,off,e,hh⟩
   ·rw[he] at hj;simp at hj
   ·cases e
    rw[Addr.add_lit]
    exact hh j u hj
  ·intro u hu
   obtain⟨m,_,hm⟩:=List.mem_flatMap.1 hu
   exact row_one m u hm
  ·intro v' w' hown' hg _
   exact h v' w' hown' hg
def RowF(w:World)(n0:Nat)(a:Option Addr)(ms:List FBm):Prop :=
 ms=[]\/∃ g o cur,a=some ⟨g,o,none⟩/\n0<=g/\w.heap[g]?=some (.cells cur 55 (0,0))/\∀ i u,(ms.flatMap FBm.row)[i]?=some u->cur[o+i]?=some u
theorem own_rowF{w:World}{n0 n:Nat}{v:Value}{xs:List Value}{ms:List FBm}(ho:w.ownsRow n0 55 2 v n xs)(hx:xs=ms.flatMap FBm.row)(hn:n=ms.length) :
  ∃ a c,v = .slice a ms.length c/\ms.length<=c/\(a=none->c=0)/\RowF w n0 a ms:=by
 subst hx hn
 rcases ho.2 with⟨rfl,e⟩|⟨g,cap,cur,rfl,hg,hh,hc,hm,hs,ht⟩
 ·have:ms=[]:=List.eq_nil_of_length_eq_zero e
  subst this
  exact⟨none,0,rfl,Nat.le_refl _,fun _=>rfl,.inl rfl⟩
 ·refine⟨_,cap,rfl,hc,(fun e=>by cases e),.inr ⟨g,0,cur,rfl,hg,hh,fun i u hu=>?_⟩⟩
  rw[<-ht,List.getElem?_take] at hu
  split at hu
  ·rw[Nat.zero_add];simpa using hu
  ·cases hu
theorem RowF.row{w:World}{n0:Nat}{a:Option Addr}{ms:List FBm}(h:RowF w n0 a ms):RowT w 55 a (ms.flatMap FBm.row):=by
 rcases h with rfl|⟨g,o,cur,rfl,hg,hh,hc⟩
 ·exact .inl rfl
 ·exact .inr ⟨g,o,cur,_,rfl,hh,hc⟩
theorem RowF.files{w0 w:World}{n0:Nat}{a:Option Addr}{c:Nat}{ms:List FBm}(h:RowF w n0 a ms)(hc:ms.length<=c)(hn:a=none->c=0)(hbs:∀ m∈ms,BS w m.a m.c m.f.2):Files w a c ms:=⟨h.row.c,hc,hn,hbs⟩
def NotHeavy(ms:List FBm):Prop:=ms.length<=200/\∀ m∈ms,m.f.2.length<=3000000/\m.f.1.length<=1000
set_option maxRecDepth 20000 in
set_option maxHeartbeats 4000000 in
theorem heavy_cps(w:World)(fa:Option Addr)(fc:Nat)(ms:List FBm)(hF:Files w fa fc ms)(Q:Ending->World->Prop)
  (hQ:∀ b,(b=false->NotHeavy ms)->Q (.returned (.bool b)) w) :
  Calls Tryz.prog 30 #[.slice fa ms.length fc] w Q:=by
 have HQ:=Lib.hid hQ
 have HF:=Lib.hid hF
 clear hQ hF
 by_cases hl:200<ms.length
 ·have t1:decide ((200:Int)<(ms.length:Int))=true:=decide_eq_true (by omega)
  clear hl
  go_enter Tryz.func30,Tryz.ntmps30
  repeat' ((fail_if_success at_builtin);first|go_values|go_skip|go_guarded|go_step|go_upon|go_back)
  exact HQ.out true (fun h=>by cases h)
 ·have t1:decide ((200:Int)<(ms.length:Int))=false:=decide_eq_false (by omega)
  have HL:Hid (ms.length<=200):=Lib.hid (by omega)
  clear hl
  go_enter Tryz.func30,Tryz.ntmps30
  repeat' ((fail_if_success at_builtin);first|go_values|go_skip|go_guarded|go_step|go_upon|go_back)
  go_loopw [3,4] (fun s c wr=>∃ (j:Nat) (x:Int),s = .int .i64 x/\c = .int .i64 j/\j<=ms.length/\Hid (0<=x/\x<=(j:Int)*3000000)/\Hid (∀ m∈ms.take j,m.f.2.length<=3000000/\m.f.1.length<=1000)/\wr=w) (fun _ c _=>ms.length-(intOf c).toNat)
  case atStart=>exact⟨0,0,rfl,rfl,Nat.zero_le _,Lib.hid ⟨by omega,by omega⟩,Lib.hid (by simp),rfl⟩
  case round =>
   obtain⟨j,x,rfl,rfl,hj,HS,HA,rfl⟩:=hrel
   have hlI:(ms.length:Int)<=200:=by have:=HL.out;omega
   clear t1
   by_cases hlt:j<ms.length
   ·have hlt':(j:Int)<(ms.length:Int):=by omega
    obtain⟨m,hm⟩:∃ m,ms[j]?=some m:=⟨_,List.getElem?_eq_getElem hlt⟩
    obtain⟨fg,fo,rfl,q0,q1⟩:=HF.out.at hm
    have HM:=Lib.hid hm
    have HLT:=Lib.hid hlt
    clear hm hlt
    obtain⟨⟨nm,d⟩,da,dc⟩:=m
    dsimp only at q0 q1 HM
    by_cases h1:3000000<d.length
    ·have t1:decide ((3000000:Int)<(d.length:Int))=true:=decide_eq_true (by omega)
     clear h1
     repeat' ((fail_if_success at_builtin);first|go_values|go_skip|go_guarded|go_step|go_upon|go_back)
     exact HQ.out true (fun h=>by cases h)
    ·have t1:decide ((3000000:Int)<(d.length:Int))=false:=decide_eq_false (by omega)
     have HD:Hid (d.length<=3000000):=Lib.hid (by omega)
     clear h1
     by_cases h2:1000<nm.length
     ·have t2:decide ((1000:Int)<(nm.length:Int))=true:=decide_eq_true (by omega)
      clear h2
      repeat' ((fail_if_success at_builtin);first|go_values|go_skip|go_guarded|go_step|go_upon|go_back)
      exact HQ.out true (fun h=>by cases h)
     ·have t2:decide ((1000:Int)<(nm.length:Int))=false:=decide_eq_false (by omega)
      have HNM:Hid (nm.length<=1000):=Lib.hid (by omega)
      clear h2
      have hw:IntKind.i64.wrap (x+(d.length:Int))=x+(d.length:Int):=IntWalk.i64_in _ (by have:=HS.out;have:=HD.out;have:=HLT.out;have:=HL.out;omega)
      repeat' ((fail_if_success at_builtin);first|go_values|go_skip|go_guarded|go_step|go_upon|go_back)
      go_roundw
      case rel =>
       refine⟨j+1,x+(d.length:Int),by go_num,by go_num,by have:=HLT.out;omega,Lib.hid (by have:=HS.out;have:=HD.out;omega),Lib.hid ?_,trivial⟩
       intro m hm
       rw[List.take_add_one,HM.out] at hm
       rcases List.mem_append.1 hm with h|h
       ·exact HA.out m h
       ·obtain rfl:m=⟨(nm,d),da,dc⟩:=by simpa using h
        exact⟨HD.out,HNM.out⟩
      case measure=>have:=HLT.out;simp[intOf];omega
   ·have hje:j=ms.length:=by omega
    subst hje
    have hlt':decide ((ms.length:Int)<(ms.length:Int))=false:=by simp
    have hlt2:decide (ms.length<ms.length)=false:=by simp
    have HNL:Hid (NotHeavy ms):=Lib.hid ⟨HL.out,by have:=HA.out;rw[List.take_length] at this;exact this⟩
    clear hlt
    repeat' ((fail_if_success at_builtin);first|go_values|go_skip|go_guarded|go_step|go_upon|go_back)
    all_goals exact HQ.out _ (fun _=>HNL.out)
end Go.Proofs.YtbppnihcbcdglaaGreat
