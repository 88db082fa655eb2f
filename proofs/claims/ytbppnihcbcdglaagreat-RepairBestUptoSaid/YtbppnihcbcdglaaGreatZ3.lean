/- A drawn region that only reads and whose last call panics, in a loop. No condition. -/
import Derived.Laws.CopyOwn
import Derived.Test.YtbppnihcbcdglaaGreatZ2
namespace Go.Proofs.YtbppnihcbcdglaaGreat
set_option maxHeartbeats 0
open Go.RowKit
set_option linter.unusedVariables false
set_option linter.unusedSimpArgs false
theorem wp_makeB{w:World}{ops:Array Oper}{rest:List Oper}{o:Oper}{a:Act}{Q:Exit->Act->World->Prop}(hgd:o.guard=none)(l c:Operand)(ho:o.op=Op.makeSlice 27 l c)
  (n0 n:Nat) (hl:a.eval l = .int .i64 (n:Int)) (hc:a.eval c = .int .i64 (n:Int)) (hn:n<=100000000000000) (hb:n0<=w.heap.size)
  (h:∀ w',OwnB w' n0 (.slice (some ⟨w.heap.size,0,none⟩) n n) (List.replicate n 0)->w.grownBy w' none->wpList Tryz.prog ops Q rest (a.put o.dst (.slice (some ⟨w.heap.size,0,none⟩) n n)) w'):wpList Tryz.prog ops Q (o :: rest) a w:=by
 obtain⟨i0,hi,hz0,hz1,hz2⟩:=info_parts Tryz.info5
 refine wpList_make_full w hgd l c 27 ho n0 5 i0 (.int .u8 0) 1 Tryz.underlying27 hi hz0 hz1 .i64 .i64 _ _ n hl hc rfl rfl (by rw[hz2];omega) (by unfold maxLen;omega) hb ?_
 intro w' hown hg
 refine h w' ?_ hg
 have e:(madeCells (Value.int .u8 0).cells (n*1)).toList=(List.replicate n (0:UInt8)).map B:=by
  rw[Nat.mul_one,List.map_replicate];exact toList_madeCells_one (.int .u8 0) n
 rw[e] at hown
 unfold OwnB
 rw[List.length_replicate]
 exact hown
theorem wp_copyB{w:World}{ops:Array Oper}{rest:List Oper}{o:Oper}{a:Act}{Q:Exit->Act->World->Prop}(hgd:o.guard=none)(d s:Operand)
  (ho:o.op = .call { callee := .builtin .copy,args:=#[d,s],argTypes:=#[27,27] }) (n0 g n:Nat) (xs ys:Bs) (hd:a.eval d = .slice (some ⟨g,0,none⟩) n n) (hown:OwnB w n0 (.slice (some ⟨g,0,none⟩) n n) xs)
  (hx:xs.length=n) (hy0:ys.length=n) (ax:Option Addr) (c:Nat) (hs:a.eval s = .slice ax ys.length c) (hy:BS w ax c ys)
  (h:∀ w',OwnB w' n0 (.slice (some ⟨g,0,none⟩) n n) ys->Below n0 w w'->wpList Tryz.prog ops Q rest (a.put o.dst (goInt ys.length)) w'):wpList Tryz.prog ops Q (o :: rest) a w:=by
 obtain⟨hl,⟨h1,_⟩|⟨g',cap,cur,hv,hg,hh,hn,hm,hsz,ht⟩⟩:=hown
 ·cases h1
 ·simp only[Value.slice.injEq,Option.some.injEq,Addr.mk.injEq,and_true,true_and] at hv
  obtain⟨rfl,-,rfl⟩:=hv
  rw[hx] at ht hn
  have hcl:cur.toList.length=n:=by simpa using hsz
  have hlen:(ys.map B).length=n:=by simp[hy0]
  refine wpList_copy_splice hgd d s 27 27 ho 5 Tryz.underlying27 (by kernel_rfl) _ ax n n ys.length c hd hs g 0 cur.toList 5 (by simpa using hh) (ys.map B) (by rw[hlen,hy0];exact(Nat.min_self n).symm) ?_ (by rw[hlen,hcl];omega) ?_ n0 w (Below.refl _ _) hg ?_
  ·intro hp
   refine⟨rfl,?_⟩
   rcases hy.at_ with rfl|⟨b,o,rfl,hc⟩
   ·simp at hp
   ·refine⟨_,rfl,fun j v hj=>?_⟩
    rw[List.getElem?_map] at hj
    cases hyj:ys[j]? with
    | none=>rw[hyj] at hj;cases hj
    | some u =>
     rw[hyj] at hj
     obtain rfl:B u=v:=by simpa using hj
     rw[Addr.add_lit]
     exact hc j u hyj
  ·intro u hu
   obtain⟨b,_,rfl⟩:=List.mem_map.1 hu
   rfl
  ·intro w' hg' hb
   have e:splice cur.toList 0 (ys.map B)=ys.map B:=by simp[splice,hcl,hy0]
   rw[e] at hg'
   have hg2:=hg'.out
   rw[show goInt (ys.map B).length=goInt ys.length by simp]
   refine h w' ⟨by simp,.inr ⟨g,n,_,by rw[hy0],hg,hg2,by omega,hm,by simp[hy0],?_⟩⟩ hb
   rw[List.take_of_length_le]
   simp
theorem run_bstr{W:World}{a:Option Addr}{c:Nat}{xs:Bs}(h:BS W a c xs):(convert 27 9 (.slice a xs.length c)).run Tryz.prog W = .ok (.string ⟨xs.toArray⟩) W:=by
 cases a with
 | none =>
  obtain⟨rfl,rfl⟩:=h.nil_
  rw[run_convert_bytes_string W 27 9 5 none _ _ Tryz.underlying27 Tryz.underlying5 Tryz.underlying9]
  rfl
 | some ad =>
  refine run_convert_bytes_back W 27 9 5 ad c xs Tryz.underlying27 Tryz.underlying5 Tryz.underlying9 fun j hj=>?_
  rcases h.at_ with rfl|⟨b,o,e,hc⟩
  ·simp at hj
  ·cases e
   rw[Addr.add_lit]
   exact hc j _ (List.getElem?_eq_getElem hj)
def midA(a:Option Addr)(c lo:Nat):Option Addr:=if c=lo then a else a.map (·.add lo)
theorem BS.mid{W:World}{a:Option Addr}{c:Nat}{xs:Bs}(h:BS W a c xs){lo hi:Nat}(h1:lo<=hi)(h2:hi<=xs.length):BS W (midA a c lo) (c-lo) ((xs.take hi).drop lo):=by
 have hl:((xs.take hi).drop lo).length=hi-lo:=by simp;omega
 refine⟨by rw[hl];have:=h.le;omega,?_,?_⟩
 ·intro e
  unfold midA at e
  split at e
  ·omega
  ·have:=h.nil (by simpa using e);omega
 ·by_cases h3:lo=hi
  ·exact .inl (List.eq_nil_of_length_eq_zero (by omega))
  ·rcases h.at_ with rfl|⟨b,o,rfl,hc⟩
   ·exact .inl (by simp)
   ·refine .inr ⟨b,o+lo,?_,fun i u hu=>?_⟩
    ·unfold midA
     rw[if_neg (by have:=h.le;omega)]
     simp[Addr.add_lit]
    ·rw[List.getElem?_drop,List.getElem?_take] at hu
     split at hu
     ·rw[Nat.add_assoc];exact hc _ _ hu
     ·cases hu
theorem run_bmid{W:World}{a:Option Addr}{n c lo hi:Nat}(h1:lo<=hi)(h2:hi<=c) :
  (Instr.slice 27 (.slice a n c) (some (.int .i64 (lo:Int))) (some (.int .i64 (hi:Int))) none).run Tryz.prog W = .ok (.slice (midA a c lo) (hi-lo) (c-lo)) W:=by
 obtain⟨i0,hi0,hz0,hz1,hz2⟩:=info_parts Tryz.info5
 have hel:Tryz.prog.elem 27=5:=by simp[Program.elem,Tryz.underlying27]
 rw[run_slice_lh W 27 a n c (by rw[hel];exact Tryz.underlying27) .i64 .i64 lo hi (by omega) (by omega) (by omega),hel]
 simp[sizeOf,typeInfo,hi0,hz1,sliced,Result.andThen,midA]
theorem read_any(w:World)(a:Option Addr)(c:Nat)(xs:Bs)(hx:BS w a c xs)(hl:xs.length<=17592186044416) :
  Calls Tryz.prog 54 #[.slice a xs.length c] w fun e' w'=>∃ b,e' = .returned (.pointer (some ⟨b,0,none⟩))/\w.heap.size<=b/\Rd w' b ⟨xs,0,0⟩/\Below w.heap.size w w':=by
 have HL:=Lib.hid hl
 clear hl
 go_enter Tryz.func54,Tryz.ntmps54
 repeat' (first|(at_make;refine wp_makeB rfl _ _ rfl w.heap.size xs.length rfl rfl (by have:=HL.out;omega) (Nat.le_refl _) ?_;intro w1 ho1 hg1;have hb1:=(Below.refl w.heap.size w).grown hg1 (Nat.le_refl _) (fun k hk=>by cases hk))|(with_reducible refine wp_copyB rfl (.tmp 7) (.tmp 8) rfl w.heap.size w.heap.size xs.length (List.replicate xs.length 0) xs rfl ho1 (by simp) rfl a c rfl (hx.below hb1) ?_;intro w2 ho2 hb2)|((fail_if_success at_builtin);first|go_values|go_skip|go_guarded|go_step|go_upon|go_back))
 have hb3:=hb1.trans hb2
 have hsz:=hb3.size
 have hA:=(Below.refl w2.heap.size w2).alloc (Nat.le_refl _) (.cells #[.slice (some ⟨w.heap.size,0,none⟩) xs.length xs.length,.int .i64 0,.int .i64 0] 207)
 refine bodyPost_ret (results_tmp rfl _ _ _) rfl ⟨_,rfl,hsz,⟨_,_,blk_new _ _,ho2.bs.below hA,Nat.zero_le _,HL.out,TyB.below (fun g o e=>by
  cases e
  obtain⟨_,c',f',h'⟩:=ho2.row w.heap.size rfl
  exact⟨c',f',h'⟩) hA⟩,hb3.trans (hA.mono hsz)⟩
structure RowAt (r:RS) (most last k acc:Nat):Prop where
 hk:k<most
 lt:acc<128 ^ k
 eq:rowGo most last (r.d.drop r.i) 0 0=rowGo most last (r.d.drop (r.i+k)) k acc
def RowJ(w:World)(b:Nat)(r:RS)(most last:Nat)(a':Act)(w':World):Prop :=
 ∃ (u:Nat->Value) (e:Int),a'=⟨#[.pointer (some ⟨b,0,none⟩),(u 1),(u 2),(u 3),(u 4),(u 5),(u 6),(u 7),.int .i64 e,(u 9),(u 10),(u 11),(u 12),(u 13),(u 14),(u 15),(u 16),(u 17),(u 18),(u 19),(u 20),(u 21),(u 22),(u 23),(u 24),(u 25),(u 26),(u 27),(u 28),(u 29),(u 30),(u 31),(u 32),(u 33),(u 34),(u 35),(u 36),(u 37),(u 38),(u 39),(u 40),(u 41),(u 42),(u 43),(u 44),(u 45),(u 46),(u 47),(u 48),(u 49),(u 50),(u 51),(u 52),(u 53),(u 54),(u 55),(u 56),(u 57),(u 58),(u 59),(u 60),(u 61),(u 62),(u 63),(u 64),(u 65),(u 66),(u 67),(u 68),(u 69),(u 70),(u 71),(u 72),(u 73),(u 74),(u 75),(u 76),(u 77)],[]⟩/\e≠0/\(∃ v n,rowGo most last (r.d.drop r.i) 0 0=(e,v,n))/\Dr w w'
theorem RowJ.mk{w:World}{b:Nat}{r:RS}{most last:Nat}(T:Array Value){w':World}(e:Int)(h:T=#[.pointer (some ⟨b,0,none⟩),T.getD 1 undef,T.getD 2 undef,T.getD 3 undef,T.getD 4 undef,T.getD 5 undef,T.getD 6 undef,T.getD 7 undef,.int .i64 e,T.getD 9 undef,T.getD 10 undef,T.getD 11 undef,T.getD 12 undef,T.getD 13 undef,T.getD 14 undef,T.getD 15 undef,T.getD 16 undef,T.getD 17 undef,T.getD 18 undef,T.getD 19 undef,T.getD 20 undef,T.getD 21 undef,T.getD 22 undef,T.getD 23 undef,T.getD 24 undef,T.getD 25 undef,T.getD 26 undef,T.getD 27 undef,T.getD 28 undef,T.getD 29 undef,T.getD 30 undef,T.getD 31 undef,T.getD 32 undef,T.getD 33 undef,T.getD 34 undef,T.getD 35 undef,T.getD 36 undef,T.getD 37 undef,T.getD 38 undef,T.getD 39 undef,T.getD 40 undef,T.getD 41 undef,T.getD 42 undef,T.getD 43 undef,T.getD 44 undef,T.getD 45 undef,T.getD 46 undef,T.getD 47 undef,T.getD 48 undef,T.getD 49 undef,T.getD 50 undef,T.getD 51 undef,T.getD 52 undef,T.getD 53 undef,T.getD 54 undef,T.getD 55 undef,T.getD 56 undef,T.getD 57 undef,T.getD 58 undef,T.getD 59 undef,T.getD 60 undef,T.getD 61 undef,T.getD 62 undef,T.getD 63 undef,T.getD 64 undef,T.getD 65 undef,T.getD 66 undef,T.getD 67 undef,T.getD 68 undef,T.getD 69 undef,T.getD 70 undef,T.getD 71 undef,T.getD 72 undef,T.getD 73 undef,T.getD 74 undef,T.getD 75 undef,T.getD 76 undef,T.getD 77 undef])(he:e≠0)(hg:∃ v n,rowGo most last (r.d.drop r.i) 0 0=(e,v,n))(hd:Dr w w'):RowJ w b r most last ⟨T,[]⟩ w' :=
 ⟨fun i=>T.getD i undef,e,congrArg (fun t=>Act.mk t []) h,he,hg,hd⟩
theorem and127:∀ v,v<256->v &&& 127=v%128:=by decide +kernel
theorem acc_step(acc v k:Nat)(hv:v<=255)(h:acc<128 ^ k)(hs:acc+v%128*128 ^ k<18446744073709551616) :
  bits BinOp.or IntKind.u64 (acc:Int) (IntKind.u64.wrap (IntKind.u64.wrap (bits BinOp.and IntKind.u8 (v:Int) 127)*2 ^ (7*k)))=((acc+v%128*128 ^ k:Nat):Int):=by
 have e1:bits BinOp.and IntKind.u8 (v:Int) 127=((v%128:Nat):Int):=by
  rw[show (127:Int)=((127:Nat):Int) from rfl,u8_and_nat v 127 (by omega) (by omega),and127 v (by omega)]
 have e2:IntKind.u64.wrap ((v%128:Nat):Int)=((v%128:Nat):Int):=by simp only[IntKind.wrap_u64];omega
 have e3:(((v%128:Nat):Int)*2 ^ (7*k))=((v%128*128 ^ k:Nat):Int):=by
  rw[Int.pow_mul];push_cast;rfl
 have e4:IntKind.u64.wrap ((v%128*128 ^ k:Nat):Int)=((v%128*128 ^ k:Nat):Int):=by simp only[IntKind.wrap_u64];omega
 rw[e1,e2,e3,e4,u64_or_nat _ _ (by omega) (by omega),or_shift _ _ _ h]
theorem acc_next(acc v k:Nat)(h:acc<128 ^ k):acc+v%128*128 ^ k<128 ^ (k+1):=by
 have:v%128*128 ^ k<=127*128 ^ k:=Nat.mul_le_mul (by omega) (Nat.le_refl _)
 rw[Nat.pow_succ]
 omega
theorem acc_lt(acc v k most last:Nat)(hk:k<most)(hm:most<=10)(hv:v<=255)(hl:k=most-1->v<=last)(hm2:most=10->last<=1)(h:acc<128 ^ k):acc+v%128*128 ^ k<18446744073709551616:=by
 have h9:k<=9:=by omega
 rcases Nat.lt_or_ge k 9 with h8|h8
 ·have hp:(128:Nat) ^ k<=128 ^ 8:=Nat.pow_le_pow_right (by omega) (by omega)
  have:v%128*128 ^ k<=127*128 ^ 8:=Nat.mul_le_mul (by omega) hp
  have e:(128:Nat) ^ 8=72057594037927936:=by decide
  omega
 ·obtain rfl:k=9:=by omega
  have h10:most=10:=by omega
  have hv1:v<=1:=Nat.le_trans (hl (by omega)) (hm2 h10)
  have e:(128:Nat) ^ 9=9223372036854775808:=by decide
  rw[e] at h ⊢
  have:v%128<=1:=by omega
  have:v%128*9223372036854775808<=1*9223372036854775808:=Nat.mul_le_mul this (Nat.le_refl _)
  omega
set_option maxRecDepth 50000 in
theorem row_any(w:World)(b:Nat)(r:RS)(h:Rd w b r)(most last:Nat)(hm:most<=10)(hm1:1<=most)(hla:last<=255)(hm2:most=10->last<=1)(hm3:last<=127) :
  Calls Tryz.prog 119 #[.pointer (some ⟨b,0,none⟩),.int .i64 (most:Int),.int .u8 (last:Int)] w fun e' w'=>e' = .returned (.int .u64 ((r.row most last).1:Int))/\Rd w' b (r.row most last).2/\Fr w w' (fun k=>k=b):=by
 by_cases h0:r.e=0
 ·have HM2:=Lib.hid hm2
  clear hm2
  go_enter Tryz.func119,Tryz.ntmps119
  repeat' ((fail_if_success at_builtin);first|go_values|go_skip|go_guarded|go_step|go_upon|go_back)
  refine wp_scope_jumps 0 (RowJ w b r most last) (fun _ _=>0) rfl ?_ ?_
  ·(repeat' ((fail_if_success at_builtin);first|go_values|go_skip|go_guarded|go_step|go_upon|go_back))
   (refine(stopped_no w b r h h0).mono ?_;rintro e1 w1 ⟨rfl,rfl⟩;dsimp only;(repeat' ((fail_if_success at_builtin);first|go_values|go_skip|go_guarded|go_step|go_upon|go_back)))
   go_loopw [7,9,10] (fun u i _ wr=>∃ k acc:Nat,RowAt r most last k acc/\u = .int .u64 acc/\i = .int .i64 k/\Dr w wr) (fun _ i _ _=>most-(intOf i).toNat)
   case atStart=>exact⟨0,0,⟨by omega,by omega,rfl⟩,rfl,rfl,Dr.refl _⟩
   case round =>
    obtain⟨k,acc,hR,rfl,rfl,n1,rfl⟩:=hrel
    have hk:=hR.hk
    have h1:=h.drewN n1
    obtain⟨a,c,p0,p1,p2,f1,f2,hs,hi,hl⟩:=h.cells
    have hw:IntKind.i64.wrap ((r.i:Int)+(k:Int))=(r.i:Int)+(k:Int):=IntWalk.i64_in _ (by omega)
    rcases Nat.lt_or_ge (r.i+k) r.d.length with hlt|hge
    ·clear p0
     obtain⟨g,o,c',p0,hne,hc⟩:=h.byteAt hlt
     have hlt':(r.i:Int)+(k:Int)<(r.d.length:Int):=by omega
     have hi0:(0:Int)<=(r.i:Int)+(k:Int):=by omega
     have hw2:((r.i:Int)+(k:Int)).toNat=r.i+k:=by omega
     have hka:(k:Int)<=9:=by omega
     have hEq:=Lib.hid hR.eq
     have hLt:=Lib.hid hR.lt
     clear hR
     obtain⟨v,hv⟩:∃ v,v=r.d[r.i+k].toNat:=⟨_,rfl⟩
     have hv8:v<=255:=by have:=r.d[r.i+k].toNat_lt;omega
     rw[<-hv] at hc
     by_cases hA:k=most-1/\last<v
     ·have hg:=Lib.hid (hEq.out.trans (rowGo_range hlt (by rw[<-hv];exact hA)))
      have hA1:((k:Int)==(most:Int)-1)=true:=by simp;omega
      have hA2:(last:Int)<(v:Int):=by omega
      clear hA hv
      ((repeat' ((fail_if_success at_builtin);first|go_values|go_skip|go_guarded|go_step|go_upon|go_back));go_quiet (fail);(repeat' ((fail_if_success at_builtin);first|go_values|go_skip|go_guarded|go_step|go_upon|go_back));go_quiet (fail);clear hw hw2;(repeat' ((fail_if_success at_builtin);first|go_values|go_skip|go_guarded|go_step|go_upon|go_back)))
      go_step3
      exact⟨rfl,RowJ.mk _ 15 (by kernel_rfl) (by decide) ⟨0,0,hg.out⟩ (Dr.of w _)⟩
     ·have hB:((k:Int)==(most:Int)-1)=false\/(((k:Int)==(most:Int)-1)=true/\(v:Int)<=(last:Int)):=by
       by_cases hk9:k=most-1
       ·exact .inr ⟨by simp;omega,by omega⟩
       ·exact .inl (by simp;omega)
      have hac:=Lib.hid (acc_lt acc v k most last hk hm hv8 (by omega) HM2.out hLt.out)
      have hstep:=Lib.hid (acc_step acc v k hv8 hLt.out hac.out)
      have HA:Hid (¬ (k=most-1/\last<r.d[r.i+k].toNat)):=Lib.hid (by rw[<-hv];exact hA)
      clear hA
      rcases Nat.lt_or_ge v 128 with h128|h128
      ·by_cases hz:0<k/\v=0
       ·have hg:=Lib.hid (hEq.out.trans (rowGo_form hlt HA.out (by omega) (by rw[<-hv];exact hz)))
        have hz1:(0:Int)<(k:Int):=by omega
        have hz2:((v:Int)==0)=true:=by simp;omega
        clear hz hv
        rcases hB with hB|⟨hB,hB2⟩
        all_goals
         ((repeat' ((fail_if_success at_builtin);first|go_values|go_skip|go_guarded|go_step|go_upon|go_back));go_quiet (fail);(repeat' ((fail_if_success at_builtin);first|go_values|go_skip|go_guarded|go_step|go_upon|go_back));go_quiet (fail);clear hw hw2;(repeat' ((fail_if_success at_builtin);first|go_values|go_skip|go_guarded|go_step|go_upon|go_back)))
         go_step3
         exact⟨rfl,RowJ.mk _ 3 (by kernel_rfl) (by decide) ⟨0,0,hg.out⟩ (Dr.of w _)⟩
       ·have hg:=Lib.hid (RS.row_ok h0 (hEq.out.trans (rowGo_ok hlt HA.out (by omega) (by rw[<-hv];exact hz))))
        have HV:=Lib.hid hv
        have hZ:(k:Int)<=0\/((0:Int)<(k:Int)/\((v:Int)==0)=false):=by
         by_cases hk0:k=0
         ·exact .inl (by omega)
         ·exact .inr ⟨by omega,by simp;omega⟩
        clear hz hv
        rcases hB with hB|⟨hB,hB2⟩ <;> rcases hZ with hZ|⟨hZ,hZ2⟩
        all_goals
         ((repeat' ((fail_if_success at_builtin);first|go_values|go_skip|go_guarded|go_step|go_upon|go_back));go_quiet (fail);(repeat' ((fail_if_success at_builtin);first|go_values|go_skip|go_guarded|go_step|go_upon|go_back));go_quiet (fail);clear hw hw2;(repeat' ((fail_if_success at_builtin);first|go_values|go_skip|go_guarded|go_step|go_upon|go_back)))
         simp only[Exit.jump]
         rw[show ((r.i:Int)+((k:Int)+1))=((r.i+(k+1):Nat):Int) from by omega]
         refine bodyPost_ret (results_tmp rfl _ _ _) rfl ⟨by rw[hg.out,<-HV.out];exact congrArg (fun x=>Ending.returned (.int .u64 x)) hstep.out,by rw[hg.out];exact(h.drewN _).setAt (r.i+(k+1)) (by omega),((Fr.refl w _).drewN _).setB 1 _⟩
      ·have hg:=Lib.hid (hEq.out.trans (rowGo_on hlt HA.out (by omega)))
       have HV:=Lib.hid hv
       clear hv
       rcases hB with hB|⟨hB,hB2⟩
       ·((repeat' ((fail_if_success at_builtin);first|go_values|go_skip|go_guarded|go_step|go_upon|go_back));go_quiet (fail);(repeat' ((fail_if_success at_builtin);first|go_values|go_skip|go_guarded|go_step|go_upon|go_back));go_quiet (fail);clear hw hw2;(repeat' ((fail_if_success at_builtin);first|go_values|go_skip|go_guarded|go_step|go_upon|go_back)))
        go_roundw
        case rel=>exact⟨k+1,acc+v%128*128 ^ k,⟨by have:=HA.out;rw[<-HV.out] at this;omega,acc_next acc v k hLt.out,by rw[HV.out];exact hg.out⟩,by rw[hstep.out],by go_num,Dr.of w _⟩
        case measure=>simp[intOf];omega
       ·omega
    ·have hg:=Lib.hid (hR.eq.trans (rowGo_short hge))
     have hge':(r.d.length:Int)<=(r.i:Int)+(k:Int):=by omega
     have hka:(k:Int)<=9:=by omega
     have hi0:(0:Int)<=(r.i:Int):=by omega
     clear hR
     repeat' ((fail_if_success at_builtin);first|go_values|go_skip|go_guarded|go_step|go_upon|go_back)
     go_quiet (fail)
     repeat' ((fail_if_success at_builtin);first|go_values|go_skip|go_guarded|go_step|go_upon|go_back)
     go_step3
     exact⟨rfl,RowJ.mk _ 2 (by kernel_rfl) (by decide) ⟨0,0,hg.out⟩ ((Dr.of w n1).drewN nq)⟩
  ·rintro a' w' ⟨u,e,rfl,he,⟨v,n,hv⟩,n1,rfl⟩
   have HB:=Lib.hid (RS.row_err h0 he hv)
   have h1:=h.drewN n1
   obtain⟨a,c,p0,p1,p2,f1,f2,hs,hi,hl⟩:=h1.cells
   clear hl hi hs
   repeat' ((fail_if_success at_builtin);first|go_values|go_skip|go_guarded|go_step|go_upon|go_back)
   simp only[Exit.jump]
   refine bodyPost_ret (results_tmp rfl _ _ _) rfl ⟨by rw[HB.out];rfl,by rw[HB.out];exact h1.setE e,(((Fr.refl w _).drewN n1).setB 2 _)⟩
 ·have hb:=RS.row_stop (most:=most) (last:=last) h0
  have HB:=Lib.hid hb
  clear hb hm2
  go_enter Tryz.func119,Tryz.ntmps119
  repeat' ((fail_if_success at_builtin);first|go_values|go_skip|go_guarded|go_step|go_upon|go_back)
  go_step3
  repeat' ((fail_if_success at_builtin);first|go_values|go_skip|go_guarded|go_step|go_upon|go_back)
  (refine(stopped_yes w b r h h0).mono ?_;rintro e1 w1 ⟨rfl,rfl⟩;dsimp only;(repeat' ((fail_if_success at_builtin);first|go_values|go_skip|go_guarded|go_step|go_upon|go_back)))
  rw[Exit.noGoto_ret]
  refine bodyPost_ret (results_tmp rfl _ _ _) rfl ⟨by rw[HB.out];rfl,by rw[HB.out];exact h,Fr.refl _ _⟩
theorem number_any(w:World)(b:Nat)(r:RS)(h:Rd w b r) :
  Calls Tryz.prog 55 #[.pointer (some ⟨b,0,none⟩)] w fun e' w'=>e' = .returned (.int .i64 (r.number.1:Int))/\Rd w' b r.number.2/\Fr w w' (fun k=>k=b):=by
 have hlt:wrap64 ((r.row 9 127).1:Int)=((r.row 9 127).1:Int):=by have:=r.number_lt;unfold RS.number at this;unfold wrap64;omega
 have HLT:=Lib.hid hlt
 clear hlt
 go_enter Tryz.func55,Tryz.ntmps55
 repeat' ((fail_if_success at_builtin);first|go_values|go_skip|go_guarded|go_step|go_upon|go_back)
 (refine(row_any w b r h 9 127 (by omega) (by omega) (by omega) (by omega) (by omega)).mono ?_;rintro e1 w1 ⟨rfl,hR,hF⟩;dsimp only;(repeat' ((fail_if_success at_builtin);first|go_values|go_skip|go_guarded|go_step|go_upon|go_back)))
 refine bodyPost_ret (results_tmp rfl _ _ _) rfl ⟨?_,hR,hF⟩
 exact congrArg (fun x=>Ending.returned (.int .i64 x)) HLT.out
theorem xor_neg1(m:Nat)(h:m<9223372036854775808):bits BinOp.xor IntKind.i64 (m:Int) (-1) = -(m:Int)-1:=by
 have e:BitVec.ofInt 64 (-1)=BitVec.allOnes 64:=by decide
 show IntKind.i64.wrap ((BitVec.ofInt 64 (m:Int) ^^^ BitVec.ofInt 64 (-1)).toNat:Int)=_
 rw[e,BitVec.xor_allOnes,BitVec.toNat_not,BitVec.toNat_ofInt,IntKind.wrap_i64]
 omega
theorem xor_zero64(m:Nat)(h:m<9223372036854775808):bits BinOp.xor IntKind.i64 (m:Int) 0=(m:Int):=by
 have e:BitVec.ofInt 64 0=0#64:=by decide
 show IntKind.i64.wrap ((BitVec.ofInt 64 (m:Int) ^^^ BitVec.ofInt 64 0).toNat:Int)=_
 rw[e,BitVec.xor_zero,BitVec.toNat_ofInt,IntKind.wrap_i64]
 omega
theorem zag_xor(u:Nat)(h:u<18446744073709551616) :
  bits BinOp.xor IntKind.i64 (wrap64 ((u:Int) / 2)) (wrap64 (-wrap64 (bits BinOp.and IntKind.u64 (u:Int) 1)))=zag u:=by
 rw[and_one_u64 _ (by omega) (by omega)]
 have e1:wrap64 ((u:Int) / 2)=((u / 2:Nat):Int):=by unfold wrap64;omega
 rw[e1]
 unfold zag
 by_cases hu:u%2=0
 ·rw[if_pos hu,show wrap64 (-wrap64 ((u:Int)%2))=0 by rw[show ((u:Int)%2)=0 by omega];simp[wrap64]]
  exact xor_zero64 _ (by omega)
 ·rw[if_neg hu,show wrap64 (-wrap64 ((u:Int)%2)) = -1 by rw[show ((u:Int)%2)=1 by omega];simp[wrap64]]
  exact xor_neg1 _ (by omega)
theorem int_any(w:World)(b:Nat)(r:RS)(h:Rd w b r) :
  Calls Tryz.prog 259 #[.pointer (some ⟨b,0,none⟩)] w fun e' w'=>e' = .returned (.int .i64 r.int.1)/\Rd w' b r.int.2/\Fr w w' (fun k=>k=b):=by
 go_enter Tryz.func259,Tryz.ntmps259
 repeat' ((fail_if_success at_builtin);first|go_values|go_skip|go_guarded|go_step|go_upon|go_back)
 (refine(row_any w b r h 10 1 (by omega) (by omega) (by omega) (by omega) (by omega)).mono ?_;rintro e1 w1 ⟨rfl,hR,hF⟩;dsimp only;(repeat' ((fail_if_success at_builtin);first|go_values|go_skip|go_guarded|go_step|go_upon|go_back)))
 have hz:=zag_xor _ r.row_lt10
 by_cases h0:r.e=0
 ·by_cases h1:(r.row 10 1).2.e=0
  ·have hI:r.int=(zag (r.row 10 1).1,(r.row 10 1).2):=by simp[RS.int,h0,h1]
   refine bodyPost_ret (results_tmp rfl _ _ _) rfl ⟨?_,by rw[hI];exact hR,hF⟩
   rw[hI]
   exact congrArg (fun x=>Ending.returned (.int .i64 x)) hz
  ·have hI:r.int=(0,(r.row 10 1).2):=by simp[RS.int,h0,h1]
   have h2:(r.row 10 1).1=0:=by
    rcases hg:rowGo 10 1 (r.d.drop r.i) 0 0 with ⟨e,v,n⟩
    by_cases he:e=0
    ·subst he
     rw[RS.row_ok h0 hg] at h1
     exact absurd h0 h1
    ·rw[RS.row_err h0 he hg]
   refine bodyPost_ret (results_tmp rfl _ _ _) rfl ⟨?_,by rw[hI];exact hR,hF⟩
   rw[hI]
   refine(congrArg (fun x=>Ending.returned (.int .i64 x)) hz).trans ?_
   rw[h2]
   rfl
 ·have hI:r.int=(0,r):=by simp[RS.int,h0]
  rw[RS.row_stop h0] at hR hz
  refine bodyPost_ret (results_tmp rfl _ _ _) rfl ⟨?_,by rw[hI];exact hR,hF⟩
  rw[hI,RS.row_stop h0]
  have hz0:zag (0,r).1=0:=by simp[zag]
  rw[hz0] at hz
  exact(congrArg (fun x=>Ending.returned (.int .i64 x)) hz)
theorem text_any(w:World)(b:Nat)(r:RS)(h:Rd w b r)(most:Int)(hm : -9223372036854775808<=most/\most<9223372036854775808) :
  Calls Tryz.prog 190 #[.pointer (some ⟨b,0,none⟩),.int .i64 most] w fun e' w'=>e' = .returned (.string ⟨(r.text most).1.toArray⟩)/\Rd w' b (r.text most).2/\Fr w w' (fun k=>k=b):=by
 have HM:=Lib.hid hm
 clear hm
 by_cases h0:r.e=0
 ·obtain⟨a,c,p0,p1,p2,f1,f2,hs,hi,hl⟩:=h.cells
  have HL:=Lib.hid hl
  clear hl
  go_enter Tryz.func190,Tryz.ntmps190
  repeat' ((fail_if_success at_builtin);first|go_values|go_skip|go_guarded|go_step|go_upon|go_back)
  (refine(stopped_no w b r h h0).mono ?_;rintro e1 w1 ⟨rfl,rfl⟩;dsimp only;(repeat' ((fail_if_success at_builtin);first|go_values|go_skip|go_guarded|go_step|go_upon|go_back)))
  refine(number_any w b r h).mono ?_
  rintro e1 w1 ⟨rfl,hR,hF⟩
  dsimp only
  have hn:r.number.1<9223372036854775808:=r.number_lt
  have HN:=Lib.hid hn
  clear hn
  have hk:=r.row_keeps 9 127 hi
  have hx:∃ n q,r.number=(n,q):=⟨_,_,rfl⟩
  obtain⟨n,q,hx⟩:=hx
  rw[show r.row 9 127=(n,q) from hx] at hk
  rw[hx] at hR HN ⊢
  dsimp only at hR HN hk ⊢
  have HX:=Lib.hid hx
  clear hx
  obtain⟨a1,c1,p0,p1,p2,f1,f2,hs1,hi1,hl1⟩:=hR.cells
  have hcv:=fun(W:World) (a:Option Addr) (c:Nat) (xs:Bs) (h:BS W a c xs)=>run_bstr h
  by_cases hq:q.e=0
  ·obtain⟨hqd,hq1,hq2,-⟩:=hk
   have hqdl:=congrArg List.length hqd
   have hfix:∀ e:Int,({ d:=q.d,i:=r.i,e:=e }:RS) = { r with e:=e }:=fun e=>by rw[hqd]
   by_cases hlong:max most 0<(n:Int)
   ·have hT:r.text most=([],{ r with e:=4 }):=by simp only[RS.text,h0,HX.out,hq];simp[hlong]
    have HT:=Lib.hid hT
    clear hT
    have hR4:=(hR.setE 4).setAt r.i (by show r.i<=q.d.length;rw[hqd];exact hi)
    have HF:=Lib.hid hfix
    clear hfix hq1 hq2 hqd hcv hqdl
    repeat' ((fail_if_success at_builtin);first|go_values|go_skip|go_guarded|go_step|go_upon|go_back)
    refine bodyPost_ret (results_tmp rfl _ _ _) rfl ⟨by rw[HT.out];rfl,by rw[HT.out];simp only[HF.out] at hR4;exact hR4,(hF.setB 2 _).setB 1 _⟩
   ·have hl2:(n:Int)<=max most 0:=by omega
    by_cases hsh:r.d.length-q.i<n
    ·have hT:r.text most=([],{ r with e:=2 }):=by simp only[RS.text,h0,HX.out,hq];simp[hlong,hsh]
     have HT:=Lib.hid hT
     have hR4:=fun k=>((hR.drewN k).setE 2).setAt r.i (by show r.i<=q.d.length;rw[hqd];exact hi)
     have HF:=Lib.hid hfix
     have hs2:((q.d.length:Int)-(q.i:Int))<(n:Int):=by omega
     have hw:IntKind.i64.wrap ((q.d.length:Int)-(q.i:Int))=(q.d.length:Int)-(q.i:Int):=IntWalk.i64_in _ (by omega)
     clear hT hfix hq1 hq2 hqd hcv hlong hsh hqdl
     repeat' ((fail_if_success at_builtin);first|go_values|go_skip|go_guarded|go_step|go_upon|go_back)
     go_quiet (fail)
     clear hw
     repeat' ((fail_if_success at_builtin);first|go_values|go_skip|go_guarded|go_step|go_upon|go_back)
     refine bodyPost_ret (results_tmp rfl _ _ _) rfl ⟨by rw[HT.out];rfl,by rw[HT.out];have:=hR4 nq;simp only[HF.out] at this;exact this,((hF.drewN _).setB 2 _).setB 1 _⟩
    ·have hle:q.i+n<=q.d.length:=by omega
     have hT:r.text most=((q.d.drop q.i).take n,{ q with i:=q.i+n }):=by simp only[RS.text,h0,HX.out,hq,hqd];simp[hlong,hsh]
     have HT:=Lib.hid hT
     have hR5:=fun k=>(hR.drewN k).setAt (q.i+n) hle
     have hs2:(n:Int)<=((q.d.length:Int)-(q.i:Int)):=by omega
     have hw:IntKind.i64.wrap ((q.d.length:Int)-(q.i:Int))=(q.d.length:Int)-(q.i:Int):=IntWalk.i64_in _ (by omega)
     clear hT hfix hq1 hq2 hqd hcv hlong hsh hqdl
     repeat' ((fail_if_success at_builtin);first|go_values|go_skip|go_guarded|go_step|go_upon|go_back)
     go_quiet (fail)
     clear hw
     repeat' ((fail_if_success at_builtin);first|go_values|go_skip|go_guarded|go_step|go_upon|go_back)
     have hR6:=hR5 nq
     have hF6:=(hF.drewN nq).setB 1 (.int .i64 ((q.i+n:Nat):Int))
     clear hR5
     rw[show ((q.i:Int)+(n:Int))=((q.i+n:Nat):Int) from by omega]
     generalize (w1.drewN nq).setCell ⟨b,1,none⟩ (.int .i64 ((q.i+n:Nat):Int))=W1 at *
     clear p0 p1 p2 f1 f2 hs1
     obtain⟨a2,c2,p0,p1,p2,f1,f2,hs1,-,-⟩:=hR6.cells
     dsimp only at p0 p1 p2 hs1
     have hmid:=hs1.mid (lo:=q.i) (hi:=q.i+n) (by omega) hle
     have hml:((q.d.take (q.i+n)).drop q.i).length=n:=by simp;omega
     have hmt:(q.d.take (q.i+n)).drop q.i=(q.d.drop q.i).take n:=by rw[List.drop_take];congr 1;omega
     rw[hmt] at hmid
     have hml2:((q.d.drop q.i).take n).length=n:=by simp;omega
     have hc1:∀ W,(Instr.slice 27 (.slice a2 q.d.length c2) (some (.int .i64 (q.i:Int))) (some (.int .i64 ((q.i:Int)+(n:Int)))) none).run Tryz.prog W = .ok (.slice (midA a2 c2 q.i) n (c2-q.i)) W:=fun W=>by
      rw[show ((q.i:Int)+(n:Int))=((q.i+n:Nat):Int) from by omega,run_bmid (by omega) (by have:=hs1.le;omega),Nat.add_sub_cancel_left]
     have hc2:∀ k,(convert 27 9 (.slice (midA a2 c2 q.i) n (c2-q.i))).run Tryz.prog (W1.drewN k) = .ok (.string ⟨((q.d.drop q.i).take n).toArray⟩) (W1.drewN k):=fun k=>by
      have:=run_bstr (hmid.drewN k);rw[hml2] at this;exact this
     have hw:IntKind.i64.wrap (((q.i+n:Nat):Int)-(n:Int))=(q.i:Int):=by rw[IntWalk.i64_in _ (by omega)];omega
     clear hml hmt hml2 hmid hs2
     go_quiet (fail)
     clear hw
     repeat' ((fail_if_success at_builtin);first|go_values|go_skip|go_guarded|go_step|go_upon|go_back)
     refine bodyPost_ret (results_tmp rfl _ _ _) rfl ⟨by rw[HT.out];rfl,by rw[HT.out];exact hR6.drewN _,hF6.drewN _⟩
  ·have hT:r.text most=([],q):=by simp[RS.text,h0,HX.out,hq]
   have HT:=Lib.hid hT
   clear hT
   have hq2:(q.e != 0)=true:=by simpa using hq
   repeat' ((fail_if_success at_builtin);first|go_values|go_skip|go_guarded|go_step|go_upon|go_back)
   refine bodyPost_ret (results_tmp rfl _ _ _) rfl ⟨by rw[HT.out];rfl,by rw[HT.out];exact hR,hF⟩
 ·have hT:r.text most=([],r):=by simp[RS.text,h0]
  have HT:=Lib.hid hT
  clear hT
  go_enter Tryz.func190,Tryz.ntmps190
  repeat' ((fail_if_success at_builtin);first|go_values|go_skip|go_guarded|go_step|go_upon|go_back)
  (refine(stopped_yes w b r h h0).mono ?_;rintro e1 w1 ⟨rfl,rfl⟩;dsimp only;(repeat' ((fail_if_success at_builtin);first|go_values|go_skip|go_guarded|go_step|go_upon|go_back)))
  refine bodyPost_ret (results_tmp rfl _ _ _) rfl ⟨by rw[HT.out];rfl,by rw[HT.out];exact h,Fr.refl _ _⟩
variable {P:Program} {ops:Array Oper} {C:World->Prop} {p d:Nat} {o:Oper} {x:Operand} {Q':Exit->Act->World->Prop} {md:Region.Mode}
def dummyAt(ops:Array Oper)(p:Nat)(o:Oper)(x:Operand):Array Oper:=ops.setIfInBounds p { o with op := .move x }
theorem dummy_get(hop:ops[p]? = some o)(j:Nat):(dummyAt ops p o x)[j]? = if j=p then some { o with op := .move x } else ops[j]? := by
 unfold dummyAt
 by_cases e:j=p
 ·subst e
  rw[if_pos rfl,Array.getElem?_setIfInBounds_self_of_lt (Array.getElem?_eq_some_iff.1 hop).1]
 ·rw[if_neg e,Array.getElem?_setIfInBounds_ne (fun h=>e h.symm)]
theorem dummy_ready(hop:ops[p]? = some o)(listed:Array Bool):Region.ready md (dummyAt ops p o x) listed=Region.ready md ops listed:=by
 unfold Region.ready
 rw[show (dummyAt ops p o x).size=ops.size by simp[dummyAt]]
 congr 1
 funext i
 rw[dummy_get hop]
 by_cases e:i=p
 ·subst e;rw[if_pos rfl,hop];rfl
 ·rw[if_neg e]
theorem dummy_yielded(hop:ops[p]? = some o)(tmps:Array Value):yielded (dummyAt ops p o x) tmps=yielded ops tmps:=by
 funext j
 unfold yielded
 rw[dummy_get hop]
 by_cases e:j=p
 ·subst e;rw[if_pos rfl,hop];rfl
 ·rw[if_neg e]
theorem put_other{a:Act}{t:Option Nat}{v:Value}(h:t≠some d):(a.put t v).tmps[d]? = a.tmps[d]? := by
 cases t with
 | none=>rfl
 | some t=>exact Array.getElem?_setIfInBounds_ne (fun e=>h (by rw[e]))
theorem dummy_end(hop:ops[p]? = some o)(hd:∀ j oj,ops[j]? = some oj->j≠p->oj.dst≠some d)(u:Value):∀ (fuel:Nat) (listed:Array Bool) (a:Act),listed.getD p true=true ->
  wpAnyQ P md (dummyAt ops p o x) C (fun a'=>a'.tmps[d]? = some u) fuel listed a->a.tmps[d]? = some u
 | 0,_,_,_,h=>h.2
 | fuel+1,listed,a,hl,h=>by
  by_cases hr:Region.ready md (dummyAt ops p o x) listed=[]
  ·exact h.1 hr
  ·obtain⟨i,hi⟩:=List.exists_mem_of_ne_nil _ hr
   have h1:=h.2 i hi
   rw[dummy_ready hop] at hi
   obtain⟨hun,oi,hoi,-⟩:=mem_ready.1 hi
   have hip:i≠p:=fun e=>by rw[e,hl] at hun;cases hun
   have hl2:(listed.setIfInBounds i true).getD p true=true:=by rw[getD_set_ne true hip];exact hl
   unfold qOp at h1
   rw[dummy_get hop,if_neg hip,hoi] at h1
   dsimp only at h1
   split at h1
   ·obtain⟨v,-,h2⟩:=h1
    have:=dummy_end hop hd u fuel _ _ hl2 h2
    rwa [put_other (hd i oi hoi hip)] at this
   ·have:=dummy_end hop hd u fuel _ _ hl2 h1
    rwa [put_other (hd i oi hoi hip)] at this
def Keep(m:Nat)(a0 a:Act):Prop:=a.defers=a0.defers/\∀ i,i<m->a.tmps[i]? = a0.tmps[i]?
theorem Keep.put{m:Nat}{a0 a:Act}(h:Keep m a0 a){t:Option Nat}{v:Value}(ht:∀ t',t=some t'->m<=t'):Keep m a0 (a.put t v):=by
 cases t with
 | none=>exact h
 | some t=>exact⟨h.1,fun i hi=>(Array.getElem?_setIfInBounds_ne (by have:=ht t rfl;omega)).trans (h.2 i hi)⟩
theorem dummy_any{m:Nat}{a0:Act}(hmt:∀ (j:Nat) (oj:Oper),ops[j]? = some oj->∀ t,oj.dst=some t->m<=t)(hop:ops[p]? = some o)(hg:o.guard=none)(hod:o.dst=some d)(hd:∀ j oj,ops[j]? = some oj->j≠p->oj.dst≠some d)
  (hpan:∀ (a:Act) (w:World) (K:Act->World->Prop),Keep m a0 a->C w->a.eval x = .bool false->o.wp P a w K Q'):∀ (fuel:Nat) (listed:Array Bool) (a:Act) (w:World),Keep m a0 a->C w->listed.getD p true=false->a.tmps[d]? ≠ some (.bool false) ->
  wpAnyQ P md (dummyAt ops p o x) C (fun a'=>a'.tmps[d]? = some (.bool false)) fuel listed a->wpAny P md ops Q' fuel listed a w
 | 0,_,_,_,_,_,_,hn,h=>absurd h.2 hn
 | fuel+1,listed,a,w,hkp,hw,hl,hn,h=>by
  refine⟨fun h0=>absurd (h.1 (by rw[dummy_ready hop];exact h0)) hn,fun i hi=>?_⟩
  have h1:=h.2 i (by rw[dummy_ready hop];exact hi)
  obtain⟨hun,oi,hoi,-⟩:=mem_ready.1 hi
  by_cases hip:i=p
  ·subst hip
   unfold qOp at h1
   rw[dummy_get hop,if_pos rfl] at h1
   dsimp only at h1
   rw[if_pos (by unfold Region.wanted;rw[hg])] at h1
   obtain⟨v,hv,h2⟩:=h1
   have hv1:=hv w hw
   have e1:v=a.eval x:=by
    unfold Oper.quietAt at hv1
    simp[go_sem,execOp,Oper.quietUpon] at hv1
    exact hv1.symm.trans (by unfold Act.eval;cases x <;> simp[Array.getD_eq_getD_getElem?])
   have hlt:i<listed.size:=by
    rcases Nat.lt_or_ge i listed.size with h' | h'
    ·exact h'
    ·rw[Array.getD_eq_getD_getElem?,Array.getElem?_eq_none h'] at hl;cases hl
   have h3:=dummy_end hop hd (.bool false) fuel _ _ (by simp[hlt]) h2
   rw[hod] at h3
   have e2:v = .bool false:=by
    have h4:(a.tmps.setIfInBounds d v)[d]? = some (.bool false):=h3
    rw[Array.getElem?_setIfInBounds] at h4
    rw[if_pos rfl] at h4
    split at h4
    ·exact Option.some.inj h4
    ·cases h4
   unfold wpOp
   rw[hop]
   dsimp only
   rw[if_pos (by unfold Region.wanted;rw[hg])]
   exact .inl (hpan a w _ hkp hw (e1.symm.trans e2))
  ·have hl2:(listed.setIfInBounds i true).getD p true=false:=by rw[getD_set_ne true hip];exact hl
   unfold qOp at h1
   rw[dummy_get hop,if_neg hip,hoi,dummy_yielded hop] at h1
   dsimp only at h1
   unfold wpOp
   rw[hoi]
   dsimp only
   split
   ·rename_i hwt
    rw[if_pos hwt] at h1
    obtain⟨v,hv,h2⟩:=h1
    refine .inl (Oper.wp_of_quiet (C:=C) (K:=fun a'=>a'.tmps[d]? = a.tmps[d]? /\ Keep m a0 a'/\wpAnyQ P md (dummyAt ops p o x) C (fun a'=>a'.tmps[d]? = some (.bool false)) fuel (listed.setIfInBounds i true) a') hw ?_ ⟨v,hv,put_other (hd i oi hoi hip),hkp.put (hmt i oi hoi),h2⟩)
    rintro a' w' hw' ⟨he,hk5,h5⟩
    exact dummy_any hmt hop hg hod hd hpan fuel _ a' w' hk5 hw' hl2 (by rw[he];exact hn) h5
   ·rename_i hwt
    rw[if_neg hwt] at h1
    exact dummy_any hmt hop hg hod hd hpan fuel _ _ w (hkp.put (hmt i oi hoi)) hw hl2 (by rw[put_other (hd i oi hoi hip)];exact hn) h1
theorem wp_region_quiet_panic{id:Nat}{a:Act}{w:World}{l l':List Oper}(m p d:Nat)(o:Oper)(x:Operand)(hm:P.follows .mixedOrders=true)(hmt:∀ (j:Nat) (oj:Oper),l.toArray[j]? = some oj->∀ t,oj.dst=some t->m<=t)(hl':dummyAt l.toArray p o x=l'.toArray)(hB:Region.lexB .any l'.toArray=true)
  (hop:l.toArray[p]? = some o) (hg:o.guard=none) (hod:o.dst=some d) (hd:∀ j oj,l.toArray[j]? = some oj->j≠p->oj.dst≠some d) (hn:a.tmps[d]? ≠ some (.bool false)) (hpl:p<l.length)
  (hpan:∀ (a':Act) (w':World) (K:Act->World->Prop),Keep m a a'->(∃ n,w'=w.drewN n)->a'.eval x = .bool false->o.wp P a' w' K Q')
  (h:wpQuiet P l'.toArray (fun w'=>∃ n,w'=w.drewN n) (fun a'=>a'.tmps[d]? = some (.bool false)) l' a):(Code.region id l.toArray true).wp P Q' a w:=by
 simp only[Region.lexB,Bool.and_eq_true] at hB
 have hsz:l'.length=l.length:=by have:=congrArg Array.size hl';simpa [dummyAt] using this.symm
 refine wp_region_any hm (dummy_any (C:=fun w'=>∃ n,w'=w.drewN n) (x:=x) hmt hop hg hod hd hpan _ _ a _ ⟨rfl,fun _ _=>rfl⟩ ⟨1,rfl⟩ (by simp[hpl]) hn ?_)
 have:=wpAnyQ_lex (C:=fun w'=>∃ n,w'=w.drewN n) (P:=P) (md := .any) (Q:=fun a'=>a'.tmps[d]? = some (.bool false)) hB.1 l' 0 (Array.replicate l'.length false) a (by simp) (by simpa using hB.2) h
 rw[hl']
 simpa [hsz] using this
theorem wp_region_qpan{id:Nat}{a:Act}{w:World}{l:List Oper}(m p d:Nat)(o:Oper)(x:Operand)(hm:P.follows .mixedOrders=true)(hB:Region.lexB .any (l.set p { o with op := .move x }).toArray=true)
  (hop:l[p]? = some o) (hg:o.guard=none) (hod:o.dst=some d) (hdB:(l.zipIdx.all fun q=>(q.2==p || !(q.1.dst==some d))&&(q.1.dst.all fun t=>decide (m<=t)))=true) (hn:a.tmps[d]? = some undef)
  (hpan:∀ (a':Act) (w':World) (K:Act->World->Prop),Keep m a a'->(∃ n,w'=w.drewN n)->a'.eval x = .bool false->o.wp P a' w' K Q')
  (h:wpQuiet P (l.set p { o with op := .move x }).toArray (fun w'=>∃ n,w'=w.drewN n) (fun a'=>a'.tmps[d]? = some (.bool false)) (l.set p { o with op := .move x }) a):(Code.region id l.toArray true).wp P Q' a w:=by
 rw[List.all_eq_true] at hdB
 have key:∀ j oj,l.toArray[j]? = some oj->((j==p || !(oj.dst==some d))&&(oj.dst.all fun t=>decide (m<=t)))=true:=fun j oj hj=>by
  have hj':l[j]? = some oj:=by simpa using hj
  exact hdB (oj,j) (List.mem_iff_getElem?.2 ⟨j,by rw[List.getElem?_zipIdx,hj'];simp⟩)
 refine wp_region_quiet_panic (l':=l.set p { o with op := .move x }) m p d o x hm (fun j oj hj t ht=>?_) (by simp[dummyAt]) hB (by simpa using hop) hg hod (fun j oj hj hne he=>?_) (by rw[hn];simp[undef]) (by
  rcases Nat.lt_or_ge p l.length with h' | h'
  ·exact h'
  ·rw[List.getElem?_eq_none h'] at hop;cases hop) hpan h
 ·have:=key j oj hj
  rw[ht] at this
  simp at this
  exact this.2
 ·have:=key j oj hj
  rw[he] at this
  simp at this
  exact hne this.1
end Go.Proofs.YtbppnihcbcdglaaGreat
namespace Go.Proofs.YtbppnihcbcdglaaGreat
open Go.RowKit
variable {P:Program} {ops:Array Oper} {C:World->Prop} {p d:Nat} {o:Oper} {x:Operand} {Q':Exit->Act->World->Prop} {md:Region.Mode}
theorem wp_region_qpanx{id:Nat}{a:Act}{w:World}{l:List Oper}(m p d:Nat)(o:Oper)(x:Operand)(hm:P.follows .mixedOrders=true)(hB:Region.lexB .any (l.set p { o with op := .move x }).toArray=true)
  (hop:l[p]? = some o) (hg:o.guard=none) (hod:o.dst=some d) (hdB:(l.zipIdx.all fun q=>(q.2==p || !(q.1.dst==some d))&&(q.1.dst.all fun t=>decide (m<=t)))=true) (hn:a.tmps[d]? ≠ some (.bool false))
  (hpan:∀ (a':Act) (w':World) (K:Act->World->Prop),Keep m a a'->(∃ n,w'=w.drewN n)->a'.eval x = .bool false->o.wp P a' w' K Q')
  (h:wpQuiet P (l.set p { o with op := .move x }).toArray (fun w'=>∃ n,w'=w.drewN n) (fun a'=>a'.tmps[d]? = some (.bool false)) (l.set p { o with op := .move x }) a):(Code.region id l.toArray true).wp P Q' a w:=by
 rw[List.all_eq_true] at hdB
 have key:∀ j oj,l.toArray[j]? = some oj->((j==p || !(oj.dst==some d))&&(oj.dst.all fun t=>decide (m<=t)))=true:=fun j oj hj=>by
  have hj':l[j]? = some oj:=by simpa using hj
  exact hdB (oj,j) (List.mem_iff_getElem?.2 ⟨j,by rw[List.getElem?_zipIdx,hj'];simp⟩)
 refine wp_region_quiet_panic (l':=l.set p { o with op := .move x }) m p d o x hm (fun j oj hj t ht=>?_) (by simp[dummyAt]) hB (by simpa using hop) hg hod (fun j oj hj hne he=>?_) hn (by
  rcases Nat.lt_or_ge p l.length with h' | h'
  ·exact h'
  ·rw[List.getElem?_eq_none h'] at hop;cases hop) hpan h
 ·have:=key j oj hj
  rw[ht] at this
  simp at this
  exact this.2
 ·have:=key j oj hj
  rw[he] at this
  simp at this
  exact hne this.1
end Go.Proofs.YtbppnihcbcdglaaGreat
