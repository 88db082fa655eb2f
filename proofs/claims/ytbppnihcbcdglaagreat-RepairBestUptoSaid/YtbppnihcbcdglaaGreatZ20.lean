/- frame: four, headOf. No condition. -/
import Derived.Laws.Tables
import Derived.Deep.RegionHeld3
import Derived.Test.YtbppnihcbcdglaaGreatZ1
import Derived.Test.YtbppnihcbcdglaaGreatZ2
import Derived.Test.YtbppnihcbcdglaaGreatZ3
namespace Go.Proofs.YtbppnihcbcdglaaGreat
set_option maxHeartbeats 0
open Go.RowKit
set_option linter.unusedVariables false
set_option linter.unusedSimpArgs false
def U(n:Nat):Value := .int .u32 (n:Int)
def tab16:Array Value:=((List.range 16).map fun j=>U (st4 j)).toArray
theorem xorPoly(s:Nat)(h:s<4294967296):bits BinOp.xor IntKind.u32 ((s:Int)) 2197175160=((s ^^^ poly:Nat):Int):=by
 rw[show (2197175160:Int)=((poly:Nat):Int) from rfl];exact u32_xor_nat _ _ h poly_lt
theorem steps_any(w:World)(b:Nat)(hb:w.heap[b]? = some (.cells tab16 332 (0,0)))(s:Nat)(hs:s<4294967296) :
  Calls Tryz.prog 238 #[.pointer (some ⟨b,0,none⟩),.int .u32 (s:Int)] w fun e' w'=>e' = .returned (.int .u32 (st8 s:Int))/\w=w':=by
 have hc:∀ j,j<16->w.cell? ⟨b,j,none⟩=some (.int .u32 ((st4 j:Nat):Int)):=fun j hj=>by
  rw[blk_cell hb];simp[tab16,U,hj]
 have key:∀ s:Nat,s<4294967296->∃ m s2:Nat,m<16/\st4 s=s2/\s2<4294967296/\bits BinOp.and IntKind.u32 (s:Int) 15=(m:Int)/\bits BinOp.xor IntKind.u32 ((st4 m:Nat):Int) ((s:Int) / 16)=(s2:Int):=fun s hs=>by
  refine⟨s%16,st4 s,by omega,rfl,st4_lt hs,?_,?_⟩
  ·rw[show (15:Int)=((15:Nat):Int) from rfl,u32_and_nat _ _ hs (by omega)]
   congr 1
   exact Nat.and_two_pow_sub_one_eq_mod s 4
  ·rw[show ((s:Int) / 16)=((s / 16:Nat):Int) by omega,u32_xor_nat _ _ (st4_lt (by omega)) (by omega),<-st4_table]
 obtain⟨m,s2,hm,he,hl,ha,hx⟩:=key s hs
 obtain⟨m2,s4,hm2,he2,hl2,ha2,hx2⟩:=key s2 hl
 have HE:Hid (st8 s=s4):=Lib.hid (by unfold st8;rw[he,he2])
 have c1:=hc m hm
 have c2:=hc m2 hm2
 have i1:(m:Int)<16:=by omega
 have i2:(m2:Int)<16:=by omega
 clear hc key hs hl hl2 he he2
 go_enter Tryz.func238,Tryz.ntmps238
 repeat' ((fail_if_success at_builtin);first|go_values|go_skip|go_guarded|go_step|go_upon|go_back)
 refine bodyPost_ret (results_tmp rfl _ _ _) rfl ⟨by rw[HE.out];rfl,rfl⟩
theorem tab16_size:tab16.size=16:=by simp[tab16]
theorem tab16_all:tab16.all (·.oneCell')=true:=by simp[tab16,U,Value.oneCell']
def stk:Nat->Nat->Nat
 | 0,s=>s
 | k+1,s=>st1 (stk k s)
theorem stk_lt{s:Nat}(h:s<4294967296):∀ k,stk k s<4294967296
 | 0=>h
 | k+1=>st1_lt (stk_lt h k)
def part(i:Nat):Array Value:=((List.range 16).map fun j=>if j<i then U (st4 j) else U 0).toArray
theorem part_16:part 16=tab16:=by
 unfold part tab16
 rw[List.map_congr_left (g:=fun j=>U (st4 j)) (fun j hj=>if_pos (by simpa using hj))]
theorem part_0:part 0=#[.int .u32 0,.int .u32 0,.int .u32 0,.int .u32 0,.int .u32 0,.int .u32 0,.int .u32 0,.int .u32 0,.int .u32 0,.int .u32 0,.int .u32 0,.int .u32 0,.int .u32 0,.int .u32 0,.int .u32 0,.int .u32 0]:=rfl
theorem part_size(i:Nat):(part i).size=16:=by simp[part]
theorem part_set(i:Nat)(h:i<16):(part i).setIfInBounds i (U (st4 i))=part (i+1):=by
 apply Array.ext
 ·simp[part]
 ·intro j h1 h2
  rw[Array.getElem_setIfInBounds (by simpa [part] using h1)]
  simp only[part,List.getElem_toArray,List.getElem_map,List.getElem_range]
  by_cases hj:i=j
  ·subst hj;simp
  ·rw[if_neg hj]
   by_cases hl:j<i
   ·rw[if_pos hl,if_pos (by omega)]
   ·rw[if_neg hl,if_neg (by omega)]
theorem and1_u32(s:Nat)(h:s<4294967296):bits BinOp.and IntKind.u32 (s:Int) 1=((s%2:Nat):Int):=by
 rw[show (1:Int)=((1:Nat):Int) from rfl,u32_and_nat _ _ h (by omega)]
 congr 1
 exact Nat.and_two_pow_sub_one_eq_mod s 1
theorem st1_yes(s:Nat)(h:s<4294967296)(h1:s%2=1):bits BinOp.xor IntKind.u32 ((s:Int) / 2) 2197175160=((st1 s:Nat):Int):=by
 rw[show ((s:Int) / 2)=((s / 2:Nat):Int) by omega,xorPoly _ (by omega)]
 unfold st1;rw[if_pos h1]
theorem st1_no(s:Nat)(h1:¬ s%2=1):(s:Int) / 2=((st1 s:Nat):Int):=by
 unfold st1;rw[if_neg h1];omega
theorem halves_any(w:World) :
  Calls Tryz.prog 237 #[] w fun e' w'=>e' = .returned (.agg tab16)/\Below w.heap.size w w':=by
 obtain⟨W,HW,hb1,e1,e2,hsW⟩:=box2 w (.cells #[.int .u32 0,.int .u32 0,.int .u32 0,.int .u32 0,.int .u32 0,.int .u32 0,.int .u32 0,.int .u32 0,.int .u32 0,.int .u32 0,.int .u32 0,.int .u32 0,.int .u32 0,.int .u32 0,.int .u32 0,.int .u32 0] 332) (.cells #[.int .u32 0,.int .u32 0,.int .u32 0,.int .u32 0,.int .u32 0,.int .u32 0,.int .u32 0,.int .u32 0,.int .u32 0,.int .u32 0,.int .u32 0,.int .u32 0,.int .u32 0,.int .u32 0,.int .u32 0,.int .u32 0] 332)
 rw[<-part_0] at e1 e2
 go_enter Tryz.func237,Tryz.ntmps237
 repeat' ((fail_if_success at_builtin);first|go_values|go_skip|go_guarded|go_step|go_upon|go_back)
 rw[<-HW.out]
 go_loopw [2,3,4,9] (fun _ _ x _ wr=>∃ i:Nat,i<=16/\x = .int .i64 i/\wr.heap[w.heap.size]? = some (.cells (part 0) 332 (0,0))/\wr.heap[w.heap.size+1]? = some (.cells (part i) 332 (0,0))/\Below w.heap.size w wr) (fun _ _ x _ _=>16-(intOf x).toNat)
 case atStart=>exact⟨0,by omega,rfl,e1,e2,hb1⟩
 case round =>
  obtain⟨i,hi,rfl,k1,k2,hb⟩:=hrel
  by_cases hlt:i<16
  ·(repeat' ((fail_if_success at_builtin);first|go_values|go_skip|go_guarded|go_step|go_upon|go_back))
   go_loopw [3,9] (fun x y w2=>∃ k:Nat,k<=4/\x = .int .u32 (stk k i:Nat)/\y = .int .i64 k/\wr=w2) (fun _ y _=>4-(intOf y).toNat)
   case atStart=>exact⟨0,by omega,rfl,rfl,rfl⟩
   case round =>
    obtain⟨k,hk,rfl,rfl,rfl⟩:=hrel
    by_cases hk4:k<4
    ·have hs:=stk_lt (s:=i) (by omega) k
     by_cases h1:stk k i%2=1
     ·have ht:(bits BinOp.and IntKind.u32 ((stk k i:Nat):Int) 1==1)=true:=by rw[and1_u32 _ hs,h1];rfl
      have hx:=Lib.hid (st1_yes _ hs h1)
      clear hs h1
      repeat' ((fail_if_success at_builtin);first|go_values|go_skip|go_guarded|go_step|go_upon|go_back)
      go_roundw
      case rel=>exact⟨k+1,by omega,by rw[hx.out];rfl,by go_num,trivial⟩
      case measure=>simp[intOf];omega
     ·have ht:(bits BinOp.and IntKind.u32 ((stk k i:Nat):Int) 1==1)=false:=by rw[and1_u32 _ hs];simp;omega
      have hx:=Lib.hid (st1_no _ h1)
      clear hs h1
      repeat' ((fail_if_success at_builtin);first|go_values|go_skip|go_guarded|go_step|go_upon|go_back)
      go_roundw
      case rel=>exact⟨k+1,by omega,by rw[hx.out];rfl,by go_num,trivial⟩
      case measure=>simp[intOf];omega
    ·obtain rfl:k=4:=by omega
     have hlt':(i:Int)<16:=by omega
     have cc:wr.cell? ⟨w.heap.size+1,i,none⟩=some ((part i)[i]'(by rw[part_size];exact hlt)):=by rw[blk_cell k2];exact Array.getElem?_eq_getElem _
     have ff:=blk_free k2 i
     have hset:=Lib.hid (part_set i hlt)
     have hu2:Hid (Value.int IntKind.u32 ((stk 4 i:Nat):Int)=U (st4 i)):=Lib.hid rfl
     repeat' ((fail_if_success at_builtin);first|go_values|go_skip|go_guarded|go_step|go_upon|go_back)
     go_roundw
     case rel =>
      have k3:=blk_set k2 i (U (st4 i))
      rw[hset.out] at k3
      exact⟨i+1,by omega,by go_num,blk_set_other k1 (by omega) _ _,k3,by(repeat' (first|(with_reducible exact Below.refl _ _)|(with_reducible assumption)|(with_reducible refine Below.drew ?_)|(with_reducible refine bdrewN ?_ _)|(with_reducible refine Below.alloc ?_ ?_ _)|(with_reducible refine Below.setCell ?_ ?_ _)|omega|(simp;done)|(simp;omega)))⟩
     case measure=>simp[intOf];omega
  ·obtain rfl:i=16:=by omega
   rw[part_16] at k2
   have hsz:(Tryz.prog.info? 332).map (·.size)=some tab16.size:=by rw[tab16_size];kernel_rfl
   repeat' (first|(with_reducible show wpList _ _ _ ((⟨some 24,_,_,_,_,_⟩:Oper) :: _) _ _;refine wpList_load_row (o:=⟨some 24,.load 332 (.tmp 1),_,_,_,none⟩) rfl 332 (.tmp 1) rfl (w.heap.size+1) rfl 332 tab16 (0,0) _ k2 Tryz.underlying332 rfl hsz ?_)|(with_reducible show wpList _ _ _ ((⟨none,_,_,_,_,_⟩:Oper) :: _) _ _;refine wpList_store_row (o:=⟨none,.store 332 (.tmp 0) (.tmp 24),_,_,_,none⟩) rfl 332 (.tmp 0) (.tmp 24) rfl w.heap.size tab16 rfl rfl 332 (part 0) k1 hsz (by rw[part_size,tab16_size]) tab16_all ?_)|go_values|go_skip|go_guarded|go_step|go_upon)
   have k3:=setRow_heap wr w.heap.size (part 0) tab16 332 (0,0) k1
   refine bodyPost_ret (v := .agg tab16) ?_ rfl ⟨rfl,?_⟩
   ·exact results_cell_row (fn:=Tryz.f237) rfl _ _ w.heap.size 332 tab16 (0,0) _ rfl k3 Tryz.underlying332 rfl hsz
   ·exact hb.trans ⟨rfl,rfl,rfl,by simp[World.setRow],fun k hk=>setRow_other _ _ _ _ (by omega)⟩
theorem not_u32(s:Nat)(h:s<4294967296):bits BinOp.xor IntKind.u32 (if IntKind.u32.signed=true then -1 else IntKind.u32.max) (s:Int)=((s ^^^ 4294967295:Nat):Int):=by
 have e:(if IntKind.u32.signed=true then (-1:Int) else IntKind.u32.max)=((4294967295:Nat):Int):=by decide
 rw[e,u32_xor_nat _ _ (by omega) h,Nat.xor_comm]
theorem update_any(w:World)(s:Nat)(hs:s<4294967296)(a:Option Addr)(c:Nat)(xs:Bs)(hx:BS w a c xs)(hl:xs.length<=35184372088832) :
  Calls Tryz.prog 173 #[.int .u32 (s:Int),.slice a xs.length c] w fun e' w'=>e' = .returned (.int .u32 (crcUp s xs:Int))/\Below w.heap.size w w':=by
 have HL:=Lib.hid hl
 have HS:=Lib.hid hs
 clear hl hs
 have hsz:(Tryz.prog.info? 332).map (·.size)=some tab16.size:=by rw[tab16_size];kernel_rfl
 go_enter Tryz.func173,Tryz.ntmps173
 repeat' ((fail_if_success at_builtin);first|go_values|go_skip|go_guarded|go_step|go_upon|go_back)
 refine(halves_any w).mono ?_
 rintro e1 w1 ⟨rfl,hb1⟩
 dsimp only
 obtain⟨W,HW,hb2,e1,hsW⟩:=box1 w1 (.cells (part 0) 332)
 repeat' (first|(with_reducible show wpList _ _ _ ((⟨none,_,_,_,_,_⟩:Oper) :: _) _ _;rw[<-part_0,<-HW.out];refine wpList_store_row (o:=⟨none,.store 332 (.tmp 5) (.tmp 9),_,_,_,none⟩) rfl 332 (.tmp 5) (.tmp 9) rfl w1.heap.size tab16 rfl rfl 332 (part 0) e1 hsz (by rw[part_size,tab16_size]) tab16_all ?_)|go_values|go_skip|go_guarded|go_step|go_upon)
 have k3:=setRow_heap W w1.heap.size (part 0) tab16 332 (0,0) e1
 have hb3:Below w.heap.size w (W.setRow w1.heap.size tab16):=(hb1.trans (hb2.mono hb1.size)).trans ⟨rfl,rfl,rfl,by simp[World.setRow],fun k hk=>setRow_other _ _ _ _ (by have:=hb1.size;omega)⟩
 generalize W.setRow w1.heap.size tab16=W2 at *
 rw[not_u32 s HS.out]
 go_loopw [6,8,14] (fun x _ y wr=>∃ k:Nat,k<=xs.length/\y = .int .i64 k/\x = .int .u32 (crcGo (s ^^^ 4294967295) (xs.take k):Nat)/\W2=wr) (fun _ _ y _=>xs.length-(intOf y).toNat)
 case atStart=>exact⟨0,Nat.zero_le _,rfl,rfl,rfl⟩
 case round =>
  obtain⟨k,hk,rfl,rfl,rfl⟩:=hrel
  have hx2:=hx.below hb3
  have hk3:(k:Int)<=35184372088832:=by have:=HL.out;omega
  by_cases hlt:k<xs.length
  ·obtain⟨g,o,rfl,hg,hcc⟩:=hx2.at_.at (by omega)
   have hc:=hcc k _ (List.getElem?_eq_getElem hlt)
   have htk:xs.take (k+1)=xs.take k++[xs[k]]:=List.take_succ_eq_append_getElem hlt
   have hgo:=crcGo_lt (xs.take k) (s:=s ^^^ 4294967295) (Nat.xor_lt_two_pow (n:=32) HS.out (by decide))
   have hst:Hid (crcGo (s ^^^ 4294967295) (xs.take (k+1))=st8 (crcGo (s ^^^ 4294967295) (xs.take k) ^^^ xs[k].toNat)):=Lib.hid (by rw[htk,crcGo_snoc])
   generalize crcGo (s ^^^ 4294967295) (xs.take k)=x at *
   rw[B_eq] at hc
   have hxb:Hid (bits BinOp.xor IntKind.u32 (x:Int) ((xs[k].toNat:Int)%4294967296)=((x ^^^ xs[k].toNat:Nat):Int)):=Lib.hid (by rw[show ((xs[k].toNat:Int)%4294967296)=((xs[k].toNat:Nat):Int) by have:=xs[k].toNat_lt;omega];exact u32_xor_nat x xs[k].toNat hgo (by have:=xs[k].toNat_lt;omega))
   have hlx:=Lib.hid (xor_byte_lt hgo xs[k])
   clear hcc htk hx2 hgo
   repeat' ((fail_if_success at_builtin);first|go_values|go_skip|go_guarded|go_step|go_upon|go_back)
   rw[hxb.out]
   (refine(steps_any W2 w1.heap.size k3 (x ^^^ xs[k].toNat) hlx.out).mono ?_;rintro e1 w3 ⟨rfl,rfl⟩;dsimp only)
   repeat' ((fail_if_success at_builtin);first|go_values|go_skip|go_guarded|go_step|go_upon|go_back)
   go_roundw
   case rel=>exact⟨k+1,by omega,by go_num,by rw[hst.out],trivial⟩
   case measure=>simp[intOf];omega
  ·obtain rfl:k=xs.length:=by omega
   rw[List.take_length]
   have hgo:=crcGo_lt xs (s:=s ^^^ 4294967295) (Nat.xor_lt_two_pow (n:=32) HS.out (by decide))
   have hn:=Lib.hid (not_u32 _ hgo)
   clear hgo
   repeat' ((fail_if_success at_builtin);first|go_values|go_skip|go_guarded|go_step|go_upon|go_back)
   rw[hn.out]
   refine bodyPost_ret (results_tmp rfl _ _ _) rfl ⟨rfl,hb3⟩
theorem of_any(w:World)(a:Option Addr)(c:Nat)(xs:Bs)(hx:BS w a c xs)(hl:xs.length<=35184372088832) :
  Calls Tryz.prog 174 #[.slice a xs.length c] w fun e' w'=>e' = .returned (.int .u32 (crcUp 0 xs:Int))/\Below w.heap.size w w':=by
 have HL:=Lib.hid hl
 clear hl
 go_enter Tryz.func174,Tryz.ntmps174
 repeat' ((fail_if_success at_builtin);first|go_values|go_skip|go_guarded|go_step|go_upon|go_back)
 (refine(update_any w 0 (by omega) a c xs hx HL.out).mono ?_;rintro e1 w1 ⟨rfl,hb⟩;dsimp only;(repeat' ((fail_if_success at_builtin);first|go_values|go_skip|go_guarded|go_step|go_upon|go_back)))
 refine bodyPost_ret (results_tmp rfl _ _ _) rfl ⟨rfl,hb⟩
theorem or_add(n m k:Nat)(h:n<2 ^ k):n ||| m*2 ^ k=n+m*2 ^ k:=by
 have:=Nat.two_pow_add_eq_or_of_lt h m
 rw[Nat.mul_comm m,Nat.or_comm,<-this,Nat.add_comm]
theorem word_bits(a b c d:Nat)(ha:a<256)(hb:b<256)(hc:c<256)(hd:d<256) :
  bits BinOp.or IntKind.u32 (bits BinOp.or IntKind.u32 (bits BinOp.or IntKind.u32 (bits BinOp.or IntKind.u32 0 (a:Int)) ((b:Int)*256)) ((c:Int)*65536)) ((d:Int)*16777216)=((a+256*b+65536*c+16777216*d:Nat):Int):=by
 have e0:bits BinOp.or IntKind.u32 0 (a:Int)=(a:Int):=by
  rw[show (0:Int)=((0:Nat):Int) from rfl,u32_or_nat 0 a (by omega) (by omega),Nat.zero_or]
 rw[e0,show ((b:Int)*256)=((b*2 ^ 8:Nat):Int) by omega,u32_or_nat a (b*2 ^ 8) (by omega) (by omega),or_add a b 8 (by omega),
  show ((c:Int)*65536)=((c*2 ^ 16:Nat):Int) by omega,u32_or_nat _ (c*2 ^ 16) (by omega) (by omega),or_add _ c 16 (by omega),
  show ((d:Int)*16777216)=((d*2 ^ 24:Nat):Int) by omega,u32_or_nat _ (d*2 ^ 24) (by omega) (by omega),or_add _ d 24 (by omega)]
 omega
set_option maxRecDepth 20000 in
theorem word_any(w:World)(a:Option Addr)(c:Nat)(xs:Bs)(hx:BS w a c xs)(hl:4<=xs.length) :
  Calls Tryz.prog 189 #[.slice a xs.length c] w fun e' w'=>e' = .returned (.int .u32 (num4 xs:Int))/\w=w':=by
 obtain⟨g,o,rfl,hg,hcc⟩:=hx.at_.at (by omega)
 have hc0:=hcc 0 _ (List.getElem?_eq_getElem (by omega))
 have hc1:=hcc 1 _ (List.getElem?_eq_getElem (by omega))
 have hc2:=hcc 2 _ (List.getElem?_eq_getElem (by omega))
 have hc3:=hcc 3 _ (List.getElem?_eq_getElem (by omega))
 have hn:=num4_drop (b:=xs) (i:=0) (by omega)
 simp only[List.drop_zero,Nat.zero_add] at hn
 have l0:=xs[0].toNat_lt
 have l1:=xs[1].toNat_lt
 have l2:=xs[2].toNat_lt
 have l3:=xs[3].toNat_lt
 rw[B_eq] at hc0 hc1 hc2 hc3
 rw[Nat.add_zero] at hc0
 have i0:(0:Int)<(xs.length:Int):=by omega
 have i1:(1:Int)<(xs.length:Int):=by omega
 have i2:(2:Int)<(xs.length:Int):=by omega
 have i3:(3:Int)<(xs.length:Int):=by omega
 have HN:=Lib.hid hn
 clear hcc hn
 go_enter Tryz.func189,Tryz.ntmps189
 repeat' ((fail_if_success at_builtin);first|go_values|go_skip|go_guarded|go_step|go_upon|go_back)
 refine wp_loop_rounds 5 ?_;rw[rounds_succ]
 repeat' ((fail_if_success at_builtin);first|go_values|go_skip|go_guarded|go_step|go_upon|go_back)
 rw[rounds_succ]
 repeat' ((fail_if_success at_builtin);first|go_values|go_skip|go_guarded|go_step|go_upon|go_back)
 rw[rounds_succ]
 repeat' ((fail_if_success at_builtin);first|go_values|go_skip|go_guarded|go_step|go_upon|go_back)
 rw[rounds_succ]
 repeat' ((fail_if_success at_builtin);first|go_values|go_skip|go_guarded|go_step|go_upon|go_back)
 rw[rounds_succ]
 repeat' ((fail_if_success at_builtin);first|go_values|go_skip|go_guarded|go_step|go_upon|go_back)
 refine bodyPost_ret (results_tmp rfl _ _ _) rfl ⟨?_,rfl⟩
 refine congrArg (fun x=>Ending.returned (.int .u32 x)) ?_
 rw[HN.out]
 exact word_bits _ _ _ _ l0 l1 l2 l3
set_option maxRecDepth 20000 in
theorem next_short(w:World)(a:Option Addr)(c:Nat)(xs:Bs)(i:Nat)(hi:xs.length<i\/i=xs.length\/xs.length-i<8)(hl:xs.length<=35184372088832)(hi2:i<=35184372088832) :
  Calls Tryz.prog 118 #[.slice a xs.length c,.int .i64 (i:Int)] w fun e' w'=>e' = .returned (.tuple #[.slice none 0 0,.int .i64 0,.int .i64 (nextF xs i).2.2])/\w=w':=by
 have h0:decide ((i:Int)<0)=false:=by simp
 rcases Nat.lt_or_ge xs.length i with h1|h1
 ·have e:nextF xs i=([],0,1):=by unfold nextF;rw[if_pos h1]
  have c1:decide (xs.length<i)=true:=by simpa using h1
  rw[e]
  clear hi e h1
  go_enter Tryz.func118,Tryz.ntmps118
  repeat' ((fail_if_success at_builtin);first|go_values|go_skip|go_guarded|go_step|go_upon|go_back)
  go_ret3
  exact⟨rfl,rfl⟩
 ·have c1:decide (xs.length<i)=false:=by simpa using h1
  rcases Nat.eq_or_lt_of_le h1 with h2|h2
  ·subst h2
   rw[nextF_end]
   clear hi
   go_enter Tryz.func118,Tryz.ntmps118
   repeat' ((fail_if_success at_builtin);first|go_values|go_skip|go_guarded|go_step|go_upon|go_back)
   go_ret3
   exact⟨rfl,rfl⟩
  ·have h3:xs.length-i<8:=by omega
   have e:nextF xs i=([],0,13):=by unfold nextF;rw[if_neg (by omega),if_neg (by omega),if_pos h3]
   have c2:((i:Int)==(xs.length:Int))=false:=by simp;omega
   have c3:decide ((xs.length:Int)-(i:Int)<8)=true:=by simp;omega
   have c4:(xs.length:Int)-(i:Int)<8:=by omega
   rw[e]
   clear hi e h1 h2 h3
   go_enter Tryz.func118,Tryz.ntmps118
   repeat' ((fail_if_success at_builtin);first|go_values|go_skip|go_guarded|go_step|go_upon|go_back)
   go_ret3
   exact⟨rfl,rfl⟩
theorem run_btail{W:World}{a:Option Addr}{n c lo:Nat}(h1:lo<=n)(h2:n<=c) :
  (Instr.slice 27 (.slice a n c) (some (.int .i64 (lo:Int))) none none).run Tryz.prog W = .ok (.slice (midA a c lo) (n-lo) (c-lo)) W:=by
 obtain⟨i0,hi0,hz0,hz1,hz2⟩:=info_parts Tryz.info5
 have hel:Tryz.prog.elem 27=5:=by simp[Program.elem,Tryz.underlying27]
 rw[run_slice_l W 27 a n c (by rw[hel];exact Tryz.underlying27) .i64 lo (by omega) (by omega),hel]
 simp[sizeOf,typeInfo,hi0,hz1,sliced,Result.andThen,midA]
theorem BS.tail{w:World}{a:Option Addr}{c:Nat}{xs:Bs}(h:BS w a c xs){lo:Nat}(h2:lo<=xs.length):BS w (midA a c lo) (c-lo) (xs.drop lo):=by
 have:=h.mid (lo:=lo) (hi:=xs.length) h2 (Nat.le_refl _)
 rwa [List.take_length] at this
theorem word_at{w:World}{a:Option Addr}{c:Nat}{xs:Bs}(hx:BS w a c xs){i:Nat}(hi:i+4<=xs.length)(W:World)(hb:Below w.heap.size w W) :
  Calls Tryz.prog 189 #[.slice (midA a c i) (xs.length-i) (c-i)] W fun e' w'=>e' = .returned (.int .u32 (num4 (xs.drop i):Int))/\W=w':=by
 have h:=word_any W _ _ (xs.drop i) ((hx.below hb).tail (by omega)) (by simp;omega)
 rwa [List.length_drop] at h
set_option maxRecDepth 20000 in
theorem next_torn(w:World)(a:Option Addr)(c:Nat)(xs:Bs)(hx:BS w a c xs)(i:Nat)(hi:i+8<=xs.length)(hl:xs.length<=35184372088832)
  (ht:num4 (xs.drop i)<1\/65536<num4 (xs.drop i)\/xs.length-i-8<num4 (xs.drop i)) :
  Calls Tryz.prog 118 #[.slice a xs.length c,.int .i64 (i:Int)] w fun e' w'=>e' = .returned (.tuple #[.slice none 0 0,.int .i64 0,.int .i64 13])/\w=w':=by
 have h0:decide ((i:Int)<0)=false:=by simp
 have c1:decide (xs.length<i)=false:=by simp;omega
 have c2:((i:Int)==(xs.length:Int))=false:=by simp;omega
 have c3:decide ((xs.length:Int)-(i:Int)<8)=false:=by simp;omega
 have b1:(i:Int)+8<=(xs.length:Int):=by omega
 have b2:(xs.length:Int)<=35184372088832:=by omega
 have s1:=fun W=>run_btail (W:=W) (a:=a) (n:=xs.length) (c:=c) (lo:=i) (by omega) hx.le
 have hw1:=word_at hx (i:=i) (by omega) w (Below.refl _ _)
 have hn:=num4_lt (xs.drop i)
 have hn2:(num4 (xs.drop i):Int)<4294967296:=by omega
 have hd:(((num4 (xs.drop i):Nat):Int)==0)=true\/((((num4 (xs.drop i):Nat):Int)==0)=false/\decide ((65536:Int)<(num4 (xs.drop i):Int))=true)\/((((num4 (xs.drop i):Nat):Int)==0)=false/\decide ((65536:Int)<(num4 (xs.drop i):Int))=false/\decide ((xs.length:Int)-(i:Int)-8<(num4 (xs.drop i):Int))=true):=by
  simp only[beq_iff_eq,beq_eq_false_iff_ne,decide_eq_true_eq,decide_eq_false_iff_not];omega
 clear hl hi ht hn
 rcases hd with g1|⟨g1,g2⟩|⟨g1,g2,g3⟩
 ·go_enter Tryz.func118,Tryz.ntmps118
  repeat' ((fail_if_success at_builtin);first|go_values|go_skip|go_guarded|go_step|go_upon|go_back)
  (refine(hw1).mono ?_;rintro e1 w1 ⟨rfl,rfl⟩;dsimp only)
  repeat' ((fail_if_success at_builtin);first|go_values|go_skip|go_guarded|go_step|go_upon|go_back)
  go_ret3
  exact⟨rfl,rfl⟩
 ·go_enter Tryz.func118,Tryz.ntmps118
  repeat' ((fail_if_success at_builtin);first|go_values|go_skip|go_guarded|go_step|go_upon|go_back)
  (refine(hw1).mono ?_;rintro e1 w1 ⟨rfl,rfl⟩;dsimp only)
  repeat' ((fail_if_success at_builtin);first|go_values|go_skip|go_guarded|go_step|go_upon|go_back)
  go_ret3
  exact⟨rfl,rfl⟩
 ·go_enter Tryz.func118,Tryz.ntmps118
  repeat' ((fail_if_success at_builtin);first|go_values|go_skip|go_guarded|go_step|go_upon|go_back)
  (refine(hw1).mono ?_;rintro e1 w1 ⟨rfl,rfl⟩;dsimp only)
  repeat' ((fail_if_success at_builtin);first|go_values|go_skip|go_guarded|go_step|go_upon|go_back)
  go_ret3
  exact⟨rfl,rfl⟩
theorem drop_take'(l:Bs)(i k:Nat):(l.take (i+k)).drop i=(l.drop i).take k:=by
 rw[List.drop_take];congr 1;omega
set_option maxRecDepth 20000 in
theorem next_whole(w:World)(a:Option Addr)(c:Nat)(xs:Bs)(hx:BS w a c xs)(i n:Nat)(hl:xs.length<=35184372088832)(hn:num4 (xs.drop i)=n)
  (h1:1<=n) (h2:n<=65536) (h3:i+8+n<=xs.length) (ok:Bool) (hok:(((num4 (xs.drop (i+4)):Nat):Int) != ((sumOf ((xs.drop i).take 4) ((xs.drop (i+8)).take n):Nat):Int)) = !ok) :
  Calls Tryz.prog 118 #[.slice a xs.length c,.int .i64 (i:Int)] w fun e' w'=>e' = .returned (.tuple #[(if ok then .slice (midA a c (i+8)) n (c-(i+8)) else .slice none 0 0),.int .i64 (if ok then ((i+8+n:Nat):Int) else 0),.int .i64 (if ok then 0 else 13)])/\Below w.heap.size w w':=by
 have h0:decide ((i:Int)<0)=false:=by simp
 have c1:decide (xs.length<i)=false:=by simp;omega
 have c2:((i:Int)==(xs.length:Int))=false:=by simp;omega
 have c3:decide ((xs.length:Int)-(i:Int)<8)=false:=by simp;omega
 have b1:(i:Int)+8+(n:Int)<=(xs.length:Int):=by omega
 have b2:(xs.length:Int)<=35184372088832:=by omega
 have b3:(n:Int)<=65536:=by omega
 have g1:((n:Int)==0)=false:=by simp;omega
 have g2:decide ((65536:Int)<(n:Int))=false:=by simp;omega
 have g3:decide ((xs.length:Int)-(i:Int)-8<(n:Int))=false:=by simp;omega
 have hle:=hx.le
 have s1:=fun W=>run_btail (W:=W) (a:=a) (n:=xs.length) (c:=c) (lo:=i) (by omega) hx.le
 have s4:=fun W=>run_btail (W:=W) (a:=a) (n:=xs.length) (c:=c) (lo:=i+4) (by omega) hx.le
 have sb:=fun W=>run_bmid (W:=W) (a:=a) (n:=xs.length) (c:=c) (lo:=i+8) (hi:=i+8+n) (by omega) (by omega)
 have sh:=fun W=>run_bmid (W:=W) (a:=a) (n:=xs.length) (c:=c) (lo:=i) (hi:=i+4) (by omega) (by omega)
 rw[show i+8+n-(i+8)=n by omega] at sb
 rw[show i+4-i=4 by omega] at sh
 rw[show ((i+8:Nat):Int)=(i:Int)+8 by omega,show ((i+8+n:Nat):Int)=(i:Int)+8+(n:Int) by omega] at sb
 rw[show ((i+4:Nat):Int)=(i:Int)+4 by omega] at s4 sh
 have hw1:=word_at hx (i:=i) (by omega) w (Below.refl _ _)
 rw[hn] at hw1
 have HW4:=fun W hb=>word_at hx (i:=i+4) (by omega) W hb
 have HOF:∀ W,Below w.heap.size w W->Calls Tryz.prog 174 #[.slice (midA a c i) 4 (c-i)] W fun e' w'=>e' = .returned (.int .u32 (crcUp 0 ((xs.drop i).take 4):Int))/\Below w.heap.size w w':=fun W hb=>by
  have h:=of_any W _ _ _ ((hx.below hb).mid (lo:=i) (hi:=i+4) (by omega) (by omega)) (by simp;omega)
  rw[drop_take'] at h
  rw[show ((xs.drop i).take 4).length=4 by simp;omega] at h
  exact h.mono fun e w' ⟨h1,h2⟩=>⟨h1,hb.trans (h2.mono hb.size)⟩
 have HUP:∀ W,Below w.heap.size w W->Calls Tryz.prog 173 #[.int .u32 (crcUp 0 ((xs.drop i).take 4):Int),.slice (midA a c (i+8)) n (c-(i+8))] W fun e' w'=>e' = .returned (.int .u32 (sumOf ((xs.drop i).take 4) ((xs.drop (i+8)).take n):Int))/\Below w.heap.size w w':=fun W hb=>by
  have h:=update_any W (crcUp 0 ((xs.drop i).take 4)) (crcUp_lt (by omega) _) _ _ _ ((hx.below hb).mid (lo:=i+8) (hi:=i+8+n) (by omega) (by omega)) (by simp;omega)
  rw[drop_take'] at h
  rw[show ((xs.drop (i+8)).take n).length=n by simp;omega] at h
  exact h.mono fun e w' ⟨h1,h2⟩=>⟨h1,hb.trans (h2.mono hb.size)⟩
 have w4:IntKind.i64.wrap ((i:Int)+4)=(i:Int)+4:=IntWalk.i64_in _ (by omega)
 have z4:(0:Int)<=(i:Int)+4:=by omega
 have HOK:=Lib.hid hok
 clear hl h1 h2 h3 hn hok hle
 go_enter Tryz.func118,Tryz.ntmps118
 repeat' ((fail_if_success at_builtin);first|go_values|go_skip|go_guarded|go_step|go_upon|go_back)
 (refine(hw1).mono ?_;rintro e1 w1 ⟨rfl,rfl⟩;dsimp only)
 repeat' ((fail_if_success at_builtin);first|go_values|go_skip|go_guarded|go_step|go_upon|go_back)
 go_region_held3 (fun w'=>Below w.heap.size w w') (first|assumption|exact Below.refl _ _|exact Below.drew (Below.refl _ _)|exact Below.drew (by assumption)|(exact bdrewN (by assumption) _))
  (first
   | (go_at_call 189;refine(HW4 _ (by assumption)).mono ?_;rintro e1 w2 ⟨rfl,rfl⟩)
   | (go_at_call 174;refine(HOF _ (by assumption)).mono ?_;rintro e1 w2 ⟨rfl,hb2⟩)
   | (go_at_call 173;refine(HUP _ (by assumption)).mono ?_;rintro e1 w2 ⟨rfl,hb2⟩))
 have hok:=HOK.out
 clear HOK HOF HUP HW4 hw1 s1 s4 sb sh w4 z4
 cases ok
 ·rw[Bool.not_false] at hok
  repeat' ((fail_if_success at_builtin);first|go_values|go_skip|go_guarded|go_step|go_upon|go_back)
  go_ret3
  exact⟨rfl,by assumption⟩
 ·rw[Bool.not_true] at hok
  repeat' ((fail_if_success at_builtin);first|go_values|go_skip|go_guarded|go_step|go_upon|go_back)
  go_ret3
  exact⟨rfl,by assumption⟩
theorem next_any(w:World)(a:Option Addr)(c:Nat)(xs:Bs)(hx:BS w a c xs)(i:Nat)(hl:xs.length<=35184372088832)(hi:i<=35184372088832) :
  Calls Tryz.prog 118 #[.slice a xs.length c,.int .i64 (i:Int)] w fun e' w'=>∃ a' c',e' = .returned (.tuple #[.slice a' (nextF xs i).1.length c',.int .i64 ((nextF xs i).2.1:Int),.int .i64 (nextF xs i).2.2])/\BS w' a' c' (nextF xs i).1/\Below w.heap.size w w':=by
 by_cases h0:xs.length<i\/i=xs.length\/xs.length-i<8
 ·refine(next_short w a c xs i h0 hl hi).mono ?_
  rintro e w' ⟨rfl,rfl⟩
  have e1:(nextF xs i).1=[]/\(nextF xs i).2.1=0:=by
   unfold nextF
   by_cases h1:xs.length<i
   ·rw[if_pos h1];exact⟨rfl,rfl⟩
   ·rw[if_neg h1]
    by_cases h2:i=xs.length
    ·rw[if_pos h2];exact⟨rfl,rfl⟩
    ·rw[if_neg h2,if_pos (by omega)];exact⟨rfl,rfl⟩
  rw[e1.1,e1.2]
  exact⟨none,0,rfl,⟨Nat.le_refl _,fun _=>rfl,.inl rfl⟩,Below.refl _ _⟩
 ·by_cases ht:num4 (xs.drop i)<1\/65536<num4 (xs.drop i)\/xs.length-i-8<num4 (xs.drop i)
  ·refine(next_torn w a c xs hx i (by omega) hl ht).mono ?_
   rintro e w' ⟨rfl,rfl⟩
   have e1:nextF xs i=([],0,13):=by unfold nextF;rw[if_neg (by omega),if_neg (by omega),if_neg (by omega),if_pos ht]
   rw[e1]
   exact⟨none,0,rfl,⟨Nat.le_refl _,fun _=>rfl,.inl rfl⟩,Below.refl _ _⟩
  ·by_cases hs:sumOf ((xs.drop i).take 4) ((xs.drop (i+8)).take (num4 (xs.drop i)))=num4 (xs.drop (i+4))
   ·have e1:nextF xs i=((xs.drop (i+8)).take (num4 (xs.drop i)),i+8+num4 (xs.drop i),0):=by
     unfold nextF;rw[if_neg (by omega),if_neg (by omega),if_neg (by omega),if_neg ht,if_neg (by simp[hs])]
    refine(next_whole w a c xs hx i (num4 (xs.drop i)) hl rfl (by omega) (by omega) (by omega) true (by rw[hs];simp)).mono ?_
    rintro e w' ⟨rfl,hb⟩
    rw[e1]
    have hlen:((xs.drop (i+8)).take (num4 (xs.drop i))).length=num4 (xs.drop i):=by simp;omega
    have hm:=(hx.below hb).mid (lo:=i+8) (hi:=i+8+num4 (xs.drop i)) (by omega) (by omega)
    rw[drop_take'] at hm
    refine⟨midA a c (i+8),c-(i+8),?_,hm,hb⟩
    dsimp only
    rw[hlen];rfl
   ·have e1:nextF xs i=([],0,13):=by
     unfold nextF;rw[if_neg (by omega),if_neg (by omega),if_neg (by omega),if_neg ht,if_pos hs]
    refine(next_whole w a c xs hx i (num4 (xs.drop i)) hl rfl (by omega) (by omega) (by omega) false (by simp;omega)).mono ?_
    rintro e w' ⟨rfl,hb⟩
    rw[e1]
    exact⟨none,0,rfl,⟨Nat.le_refl _,fun _=>rfl,.inl rfl⟩,hb⟩
theorem nextC_any(w:World)(a:Option Addr)(c:Nat)(xs:Bs)(hx:BS w a c xs)(i:Nat)(hl:xs.length<=35184372088832)(hi:i<=35184372088832) :
  Calls Tryz.prog 96 #[.slice a xs.length c,.int .i64 (i:Int)] w fun e' w'=>∃ v,e' = .returned (.tuple #[v,.int .i64 ((nextF xs i).2.1:Int),.int .i64 (nextF xs i).2.2])/\OwnB w' w.heap.size v (nextF xs i).1/\Below w.heap.size w w':=by
 have hlen:(nextF xs i).1.length<=35184372088832:=by
  have:(nextF xs i).1.length<=xs.length:=by
   unfold nextF;split
   ·simp
   split
   ·simp
   split
   ·simp
   split
   ·simp
   split
   ·simp
   ·simp;omega
  omega
 have HL:=Lib.hid hl
 have HI:=Lib.hid hi
 have HLEN:=Lib.hid hlen
 clear hl hi hlen
 go_enter Tryz.func96,Tryz.ntmps96
 repeat' ((fail_if_success at_builtin);first|go_values|go_skip|go_guarded|go_step|go_upon|go_back)
 (refine(next_any w a c xs hx i HL.out HI.out).mono ?_;rintro e1 w1 ⟨a',c',rfl,hb',hB⟩;dsimp only)
 repeat' ((fail_if_success at_builtin);first|go_values|go_skip|go_guarded|go_step|go_upon|go_back)
 (refine(clone_any w1 a' c' _ hb' HLEN.out).mono ?_;rintro e1 w2 ⟨v,rfl,ho,hB2⟩;dsimp only)
 repeat' ((fail_if_success at_builtin);first|go_values|go_skip|go_guarded|go_step|go_upon|go_back)
 go_ret3
 exact⟨v,rfl,ho.lower hB.size,hB.trans (hB2.mono hB.size)⟩
theorem low4_cells(n:Nat)(h:n<4294967296):(low4 n).map B=[.int .u8 ((n:Int)%256),.int .u8 ((n:Int) / 256%256),.int .u8 ((n:Int) / 65536%256),.int .u8 ((n:Int) / 16777216)]:=by simp[low4,B];omega
set_option maxRecDepth 20000 in
theorem four_lo(w:World)(b:Nat)(x0 x1 x2 x3 x4 x5 x6 x7:Value)(h:w.heap[b]? = some (.cells #[x0,x1,x2,x3,x4,x5,x6,x7] 186 (0,0)))(v:Nat)(hv:v<4294967296) :
  Calls Tryz.prog 172 #[.slice (some ⟨b,0,none⟩) 4 8,.int .u32 (v:Int)] w fun e w'=>e = .returned (.tuple #[])/\w'.heap[b]? = some (.cells #[.int .u8 ((v:Int)%256),.int .u8 ((v:Int) / 256%256),.int .u8 ((v:Int) / 65536%256),.int .u8 ((v:Int) / 16777216),x4,x5,x6,x7] 186 (0,0))/\Below b w w':=by
 have hv2:(v:Int)<4294967296:=by omega
 have HB:=Lib.hid h
 have c0:=blk_cell h 0;have c1:=blk_cell h 1;have c2:=blk_cell h 2;have c3:=blk_cell h 3
 have f:=fun i=>blk_free h i
 simp only[List.getElem?_toArray,List.getElem?_cons_zero,List.getElem?_cons_succ] at c0 c1 c2 c3
 have HS:Hid (((((w.setCell ⟨b,0,none⟩ (.int .u8 ((v:Int)%256))).setCell ⟨b,1,none⟩ (.int .u8 ((v:Int) / 256%256))).setCell ⟨b,2,none⟩ (.int .u8 ((v:Int) / 65536%256))).setCell ⟨b,3,none⟩ (.int .u8 ((v:Int) / 16777216))).heap[b]? = some (.cells #[.int .u8 ((v:Int)%256),.int .u8 ((v:Int) / 256%256),.int .u8 ((v:Int) / 65536%256),.int .u8 ((v:Int) / 16777216),x4,x5,x6,x7] 186 (0,0))):=Lib.hid ((blk_set (blk_set (blk_set (blk_set h 0 _) 1 _) 2 _) 3 _).trans (by simp))
 clear h
 go_enter Tryz.func172,Tryz.ntmps172
 repeat' ((fail_if_success at_builtin);first|go_values|go_skip|go_guarded|go_step|go_upon|go_back)
 refine wp_loop_rounds 5 ?_;rw[rounds_succ]
 repeat' ((fail_if_success at_builtin);first|go_values|go_skip|go_guarded|go_step|go_upon|go_back)
 rw[rounds_succ]
 repeat' ((fail_if_success at_builtin);first|go_values|go_skip|go_guarded|go_step|go_upon|go_back)
 rw[rounds_succ]
 repeat' ((fail_if_success at_builtin);first|go_values|go_skip|go_guarded|go_step|go_upon|go_back)
 rw[rounds_succ]
 repeat' ((fail_if_success at_builtin);first|go_values|go_skip|go_guarded|go_step|go_upon|go_back)
 rw[rounds_succ]
 repeat' ((fail_if_success at_builtin);first|go_values|go_skip|go_guarded|go_step|go_upon|go_back)
 refine bodyPost_end (results_none rfl _ _ _) rfl ⟨rfl,HS.out,((((Below.refl b w).setCell (p:=⟨b,0,none⟩) (Nat.le_refl _) _).setCell (p:=⟨b,1,none⟩) (Nat.le_refl _) _).setCell (p:=⟨b,2,none⟩) (Nat.le_refl _) _).setCell (p:=⟨b,3,none⟩) (Nat.le_refl _) _⟩
set_option maxRecDepth 20000 in
theorem four_hi(w:World)(b:Nat)(x0 x1 x2 x3 x4 x5 x6 x7:Value)(h:w.heap[b]? = some (.cells #[x0,x1,x2,x3,x4,x5,x6,x7] 186 (0,0)))(v:Nat)(hv:v<4294967296) :
  Calls Tryz.prog 172 #[.slice (some ⟨b,4,none⟩) 4 4,.int .u32 (v:Int)] w fun e w'=>e = .returned (.tuple #[])/\w'.heap[b]? = some (.cells #[x0,x1,x2,x3,.int .u8 ((v:Int)%256),.int .u8 ((v:Int) / 256%256),.int .u8 ((v:Int) / 65536%256),.int .u8 ((v:Int) / 16777216)] 186 (0,0))/\Below b w w':=by
 have hv2:(v:Int)<4294967296:=by omega
 have HB:=Lib.hid h
 have c0:=blk_cell h 4;have c1:=blk_cell h 5;have c2:=blk_cell h 6;have c3:=blk_cell h 7
 have f:=fun i=>blk_free h i
 simp only[List.getElem?_toArray,List.getElem?_cons_zero,List.getElem?_cons_succ] at c0 c1 c2 c3
 have HS:Hid (((((w.setCell ⟨b,4,none⟩ (.int .u8 ((v:Int)%256))).setCell ⟨b,5,none⟩ (.int .u8 ((v:Int) / 256%256))).setCell ⟨b,6,none⟩ (.int .u8 ((v:Int) / 65536%256))).setCell ⟨b,7,none⟩ (.int .u8 ((v:Int) / 16777216))).heap[b]? = some (.cells #[x0,x1,x2,x3,.int .u8 ((v:Int)%256),.int .u8 ((v:Int) / 256%256),.int .u8 ((v:Int) / 65536%256),.int .u8 ((v:Int) / 16777216)] 186 (0,0))):=Lib.hid ((blk_set (blk_set (blk_set (blk_set h 4 _) 5 _) 6 _) 7 _).trans (by simp))
 clear h
 go_enter Tryz.func172,Tryz.ntmps172
 repeat' ((fail_if_success at_builtin);first|go_values|go_skip|go_guarded|go_step|go_upon|go_back)
 refine wp_loop_rounds 5 ?_;rw[rounds_succ]
 repeat' ((fail_if_success at_builtin);first|go_values|go_skip|go_guarded|go_step|go_upon|go_back)
 rw[rounds_succ]
 repeat' ((fail_if_success at_builtin);first|go_values|go_skip|go_guarded|go_step|go_upon|go_back)
 rw[rounds_succ]
 repeat' ((fail_if_success at_builtin);first|go_values|go_skip|go_guarded|go_step|go_upon|go_back)
 rw[rounds_succ]
 repeat' ((fail_if_success at_builtin);first|go_values|go_skip|go_guarded|go_step|go_upon|go_back)
 rw[rounds_succ]
 repeat' ((fail_if_success at_builtin);first|go_values|go_skip|go_guarded|go_step|go_upon|go_back)
 refine bodyPost_end (results_none rfl _ _ _) rfl ⟨rfl,HS.out,((((Below.refl b w).setCell (p:=⟨b,4,none⟩) (Nat.le_refl _) _).setCell (p:=⟨b,5,none⟩) (Nat.le_refl _) _).setCell (p:=⟨b,6,none⟩) (Nat.le_refl _) _).setCell (p:=⟨b,7,none⟩) (Nat.le_refl _) _⟩
theorem set8_head{w5:World}{N:Nat}{x0 x1 x2 x3 x4 x5 x6 x7:Value}(h:w5.heap[N]? = some (.cells #[x0,x1,x2,x3,x4,x5,x6,x7] 186 (0,0)))(v0 v1 v2 v3 v4 v5 v6 v7:Value) :
  ((((((((w5.setCell ⟨N,0,none⟩ v0).setCell ⟨N,1,none⟩ v1).setCell ⟨N,2,none⟩ v2).setCell ⟨N,3,none⟩ v3).setCell ⟨N,4,none⟩ v4).setCell ⟨N,5,none⟩ v5).setCell ⟨N,6,none⟩ v6).setCell ⟨N,7,none⟩ v7).heap[N]? = some (.cells #[v0,v1,v2,v3,v4,v5,v6,v7] 186 (0,0)) :=
 (blk_set (blk_set (blk_set (blk_set (blk_set (blk_set (blk_set (blk_set h 0 v0) 1 v1) 2 v2) 3 v3) 4 v4) 5 v5) 6 v6) 7 v7).trans (by simp)
theorem below8{w w5:World}{N:Nat}(h:Below N w w5)(v0 v1 v2 v3 v4 v5 v6 v7:Value):Below N w ((((((((w5.setCell ⟨N,0,none⟩ v0).setCell ⟨N,1,none⟩ v1).setCell ⟨N,2,none⟩ v2).setCell ⟨N,3,none⟩ v3).setCell ⟨N,4,none⟩ v4).setCell ⟨N,5,none⟩ v5).setCell ⟨N,6,none⟩ v6).setCell ⟨N,7,none⟩ v7) :=
 ((((((((h.setCell (p:=⟨N,0,none⟩) (Nat.le_refl N) v0).setCell (p:=⟨N,1,none⟩) (Nat.le_refl N) v1).setCell (p:=⟨N,2,none⟩) (Nat.le_refl N) v2).setCell (p:=⟨N,3,none⟩) (Nat.le_refl N) v3).setCell (p:=⟨N,4,none⟩) (Nat.le_refl N) v4).setCell (p:=⟨N,5,none⟩) (Nat.le_refl N) v5).setCell (p:=⟨N,6,none⟩) (Nat.le_refl N) v6).setCell (p:=⟨N,7,none⟩) (Nat.le_refl N) v7)
set_option maxRecDepth 20000 in
theorem headOf_any(w:World)(a:Option Addr)(c:Nat)(xs:Bs)(hx:BS w a c xs)(hl:xs.length<=65536) :
  Calls Tryz.prog 103 #[.slice a xs.length c] w fun e w'=>e = .returned (.agg #[.int .u8 ((xs.length:Int)%256),.int .u8 ((xs.length:Int) / 256%256),.int .u8 ((xs.length:Int) / 65536%256),.int .u8 ((xs.length:Int) / 16777216),.int .u8 ((sumOf (low4 xs.length) xs:Int)%256),.int .u8 ((sumOf (low4 xs.length) xs:Int) / 256%256),.int .u8 ((sumOf (low4 xs.length) xs:Int) / 65536%256),.int .u8 ((sumOf (low4 xs.length) xs:Int) / 16777216)])/\Below w.heap.size w w':=by
 have b1:=blk_alloc (blk_new w (.cells #[.int .u8 0,.int .u8 0,.int .u8 0,.int .u8 0,.int .u8 0,.int .u8 0,.int .u8 0,.int .u8 0] 186)) (.cells #[.int .u8 0,.int .u8 0,.int .u8 0,.int .u8 0,.int .u8 0,.int .u8 0,.int .u8 0,.int .u8 0] 186)
 have b2:=blk_new1 w (.cells #[.int .u8 0,.int .u8 0,.int .u8 0,.int .u8 0,.int .u8 0,.int .u8 0,.int .u8 0,.int .u8 0] 186) (.cells #[.int .u8 0,.int .u8 0,.int .u8 0,.int .u8 0,.int .u8 0,.int .u8 0,.int .u8 0,.int .u8 0] 186)
 have hb:Below w.heap.size w ((w.alloc (.cells #[.int .u8 0,.int .u8 0,.int .u8 0,.int .u8 0,.int .u8 0,.int .u8 0,.int .u8 0,.int .u8 0] 186)).alloc (.cells #[.int .u8 0,.int .u8 0,.int .u8 0,.int .u8 0,.int .u8 0,.int .u8 0,.int .u8 0,.int .u8 0] 186)):=((Below.refl _ w).alloc (Nat.le_refl _) _).alloc (by simp) _
 have hu:IntKind.u32.wrap (xs.length:Int)=(xs.length:Int):=by rw[IntKind.wrap_u32];omega
 have HL:=Lib.hid hl
 have HX:=Lib.hid hx
 obtain⟨N,hN⟩:∃ N,w.heap.size=N:=⟨_,rfl⟩
 have HN:=Lib.hid hN
 clear hl hx
 rw[hN] at b1 b2 hb
 go_enter Tryz.func103,Tryz.ntmps103
 repeat' ((fail_if_success (with_reducible (show Code.wp _ (Code.region 2 _ _) _ _ _)));(fail_if_success at_builtin);first|go_values|go_skip|go_guarded|go_step|go_upon|go_back)
 clear hN
 generalize ((w.alloc (.cells #[.int .u8 0,.int .u8 0,.int .u8 0,.int .u8 0,.int .u8 0,.int .u8 0,.int .u8 0,.int .u8 0] 186)).alloc (.cells #[.int .u8 0,.int .u8 0,.int .u8 0,.int .u8 0,.int .u8 0,.int .u8 0,.int .u8 0,.int .u8 0] 186))=w1 at b1 b2 hb ⊢
 repeat' ((fail_if_success at_builtin);first|go_values|go_skip|go_guarded|go_step|go_upon|go_back)
 refine(four_lo w1 (N+1) _ _ _ _ _ _ _ _ b2 xs.length (by have:=HL.out;omega)).mono ?_
 rintro e1 w2 ⟨rfl,h2,hb2⟩
 dsimp only
 have h1:=blk_below hb2 b1 (Nat.lt_succ_self N)
 have hbw:=hb.trans (hb2.mono (Nat.le_succ N))
 have hbn:N<=w2.heap.size:=by have:=hbw.size;have:=HN.out;omega
 have HBS:∀ W,Below w2.heap.size w2 W->BS W (some ⟨N+1,0,none⟩) 8 (low4 xs.length):=fun W hW=>by
  have hk:=blk_below hW h2 (blk_lt h2)
  refine⟨by simp[low4],(fun h=>nomatch h),.inr ⟨N+1,0,rfl,fun i u hu=>?_⟩⟩
  rw[Nat.zero_add,blk_cell hk]
  have hm:=congrArg (fun l=>l[i]?) (low4_cells xs.length (by have:=HL.out;omega))
  rw[List.getElem?_map,hu] at hm
  have hi:i<4:=by have:=(List.getElem?_eq_some_iff.1 hu).1;simpa [low4] using this
  rw[show (some u).map B=some (B u) from rfl] at hm
  rw[hm]
  match i,hi with
  | 0,_=>rfl
  | 1,_=>rfl
  | 2,_=>rfl
  | 3,_=>rfl
 have HXW:∀ W,Below w2.heap.size w2 W->BS W a c xs:=fun W hW=>HX.out.below ((hbw.trans (hW.mono hbn)).mono (by have:=HN.out;omega))
 have HOF:∀ W,Below w2.heap.size w2 W->Calls Tryz.prog 174 #[.slice (some ⟨N+1,0,none⟩) 4 8] W fun e' w'=>e' = .returned (.int .u32 (crcUp 0 (low4 xs.length):Int))/\Below w2.heap.size w2 w':=fun W hW =>
  (of_any W _ _ _ (HBS W hW) (by simp[low4])).mono fun e w' ⟨h1,h2⟩=>⟨h1,hW.trans (h2.mono hW.size)⟩
 have HUP:∀ W,Below w2.heap.size w2 W->Calls Tryz.prog 173 #[.int .u32 (crcUp 0 (low4 xs.length):Int),.slice a xs.length c] W fun e' w'=>e' = .returned (.int .u32 (sumOf (low4 xs.length) xs:Int))/\Below w2.heap.size w2 w':=fun W hW =>
  (update_any W (crcUp 0 (low4 xs.length)) (crcUp_lt (by omega) _) a c xs (HXW W hW) (by have:=HL.out;omega)).mono fun e w' ⟨h1,h2⟩=>⟨h1,hW.trans (h2.mono hW.size)⟩
 have HFO:∀ W,Below w2.heap.size w2 W->Calls Tryz.prog 172 #[.slice (some ⟨N+1,4,none⟩) 4 4,.int .u32 (sumOf (low4 xs.length) xs:Int)] W fun e' w'=>e' = .returned (.tuple #[])/\w'.heap[N]? = some (.cells #[.int .u8 0,.int .u8 0,.int .u8 0,.int .u8 0,.int .u8 0,.int .u8 0,.int .u8 0,.int .u8 0] 186 (0,0))/\w'.heap[N+1]? = some (.cells #[.int .u8 ((xs.length:Int)%256),.int .u8 ((xs.length:Int) / 256%256),.int .u8 ((xs.length:Int) / 65536%256),.int .u8 ((xs.length:Int) / 16777216),.int .u8 ((sumOf (low4 xs.length) xs:Int)%256),.int .u8 ((sumOf (low4 xs.length) xs:Int) / 256%256),.int .u8 ((sumOf (low4 xs.length) xs:Int) / 65536%256),.int .u8 ((sumOf (low4 xs.length) xs:Int) / 16777216)] 186 (0,0))/\Below N w w':=fun W hW =>
  (four_hi W (N+1) _ _ _ _ _ _ _ _ (blk_below hW h2 (blk_lt h2)) _ (sumOf_lt _ _)).mono fun e w' ⟨h3,h4,h5⟩=>⟨h3,blk_below h5 (blk_below hW h1 (blk_lt h1)) (Nat.lt_succ_self N),h4,(hbw.trans (hW.mono hbn)).trans (h5.mono (Nat.le_succ N))⟩
 have HB0:Below w2.heap.size w2 w2:=Below.refl _ _
 clear h1 h2 hb2 b1 b2 hb HBS HXW
 repeat' ((fail_if_success at_builtin);first|go_values|go_skip|go_guarded|go_step|go_upon|go_back)
 go_region_with (first
   | (go_at_call 174;refine(HOF _ (by first|assumption|exact Below.drew (by assumption))).mono ?_;rintro e1 w3 ⟨rfl,hb3⟩)
   | (go_at_call 173;refine(HUP _ (by assumption)).mono ?_;rintro e1 w4 ⟨rfl,hb4⟩)
   | (go_at_call 172;refine(HFO _ (by assumption)).mono ?_;rintro e1 w5 ⟨rfl,h51,h52,hb5⟩))
 have HR:=Lib.hid h51
 have k0:=blk_cell h52 0;have k1:=blk_cell h52 1;have k2:=blk_cell h52 2;have k3:=blk_cell h52 3;have k4:=blk_cell h52 4;have k5:=blk_cell h52 5;have k6:=blk_cell h52 6;have k7:=blk_cell h52 7
 have r0:=blk_cell h51 0;have r1:=blk_cell h51 1;have r2:=blk_cell h51 2;have r3:=blk_cell h51 3;have r4:=blk_cell h51 4;have r5:=blk_cell h51 5;have r6:=blk_cell h51 6;have r7:=blk_cell h51 7
 have ff:=fun i=>blk_free h51 i
 simp only[List.getElem?_toArray,List.getElem?_cons_zero,List.getElem?_cons_succ] at k0 k1 k2 k3 k4 k5 k6 k7 r0 r1 r2 r3 r4 r5 r6 r7
 have HB5:=Lib.hid hb5
 have hfin:=HB5.out
 clear HOF HUP HFO h51 h52 hb5 HB0
 repeat' ((fail_if_success at_builtin);first|go_values|go_skip|go_guarded|go_step|go_upon|go_back)
 have hs:=set8_head HR.out (.int .u8 ((xs.length:Int)%256)) (.int .u8 ((xs.length:Int) / 256%256)) (.int .u8 ((xs.length:Int) / 65536%256)) (.int .u8 ((xs.length:Int) / 16777216)) (.int .u8 ((sumOf (low4 xs.length) xs:Int)%256)) (.int .u8 ((sumOf (low4 xs.length) xs:Int) / 256%256)) (.int .u8 ((sumOf (low4 xs.length) xs:Int) / 65536%256)) (.int .u8 ((sumOf (low4 xs.length) xs:Int) / 16777216))
 have hfin8:=below8 HB5.out (.int .u8 ((xs.length:Int)%256)) (.int .u8 ((xs.length:Int) / 256%256)) (.int .u8 ((xs.length:Int) / 65536%256)) (.int .u8 ((xs.length:Int) / 16777216)) (.int .u8 ((sumOf (low4 xs.length) xs:Int)%256)) (.int .u8 ((sumOf (low4 xs.length) xs:Int) / 256%256)) (.int .u8 ((sumOf (low4 xs.length) xs:Int) / 65536%256)) (.int .u8 ((sumOf (low4 xs.length) xs:Int) / 16777216))
 have s0:=blk_cell hs 0;have s1:=blk_cell hs 1;have s2:=blk_cell hs 2;have s3:=blk_cell hs 3;have s4:=blk_cell hs 4;have s5:=blk_cell hs 5;have s6:=blk_cell hs 6;have s7:=blk_cell hs 7
 simp only[List.getElem?_toArray,List.getElem?_cons_zero,List.getElem?_cons_succ] at s0 s1 s2 s3 s4 s5 s6 s7
 clear k0 k1 k2 k3 k4 k5 k6 k7 r0 r1 r2 r3 r4 r5 r6 r7 ff
 refine bodyPost_ret (v:=(.agg #[.int .u8 ((xs.length:Int)%256),.int .u8 ((xs.length:Int) / 256%256),.int .u8 ((xs.length:Int) / 65536%256),.int .u8 ((xs.length:Int) / 16777216),.int .u8 ((sumOf (low4 xs.length) xs:Int)%256),.int .u8 ((sumOf (low4 xs.length) xs:Int) / 256%256),.int .u8 ((sumOf (low4 xs.length) xs:Int) / 65536%256),.int .u8 ((sumOf (low4 xs.length) xs:Int) / 16777216)])) (by simp[results,Tryz.results103,go_sem,s0,s1,s2,s3,s4,s5,s6,s7]) rfl ⟨rfl,by rw[HN.out];exact hfin8⟩
end Go.Proofs.YtbppnihcbcdglaaGreat
