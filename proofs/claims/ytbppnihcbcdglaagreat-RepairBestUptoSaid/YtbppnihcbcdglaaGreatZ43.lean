/- slices.Grow, slices.Concat at bytes; frame.Seal. No condition. -/
import Derived.Lib.AppendZeros
import Derived.Test.YtbppnihcbcdglaaGreatZ20
namespace Go.Proofs.YtbppnihcbcdglaaGreat
set_option maxHeartbeats 0
open Go.RowKit
set_option linter.unusedVariables false
set_option linter.unusedSimpArgs false
set_option maxRecDepth 20000 in
theorem grow_any(w:World)(n:Nat)(h1:1<=n)(h2:n<=100000000000) :
  Calls Tryz.prog 175 #[.slice none 0 0,.int .i64 (n:Int)] w fun e w'=>∃ v,e = .returned v/\OwnB w' w.heap.size v []/\Below w.heap.size w w':=by
 obtain⟨i0,hi,hz0,hz1,hz2⟩:=info_parts Tryz.info5
 have hrun:=Lib.run_append_nil_zeros (P:=Tryz.prog) w 27 3 27 5 i0 (.int .u8 0) .i64 .i64 Tryz.underlying27 Tryz.underlying3 hi hz0 n (by omega) (by rw[hz1];decide) (by omega) (by rw[hz2];omega)
 have hcap:=grownCap_size w n 0 5
 have hcm:grownCap w n 0 5<=maxLen:=grownCap_le_maxLen w n 0 5 (by unfold maxLen;omega)
 obtain⟨C,hC⟩:∃ C,grownCap w n 0 5=C:=⟨_,rfl⟩
 rw[hC] at hrun hcap hcm
 obtain⟨Z,hZ⟩:∃ Z,Builtin.zeroCells (Value.int .u8 0).cells n++Builtin.zeroCells (Value.int .u8 0).cells (C-n)=Z:=⟨_,rfl⟩
 have hZs:Z.size=C:=by rw[<-hZ];simp[size_zeroCells,Value.cells];omega
 rw[hZ] at hrun
 have ho:OwnB (w.drew.alloc (.cells Z 5)) w.heap.size (.slice (some ⟨w.heap.size,0,none⟩) 0 C) [] :=
  World.ownsRow_made w.drew Z C (Nat.le_refl _) hcm (by rw[hZs,Nat.mul_one])
 have hb:Below w.heap.size w (w.drew.alloc (.cells Z 5)):=((Below.refl _ w).drew).alloc (Nat.le_refl _) _
 have hn1:decide ((n:Int)<0)=false:=by simp
 have hn2:decide (0<n)=true:=by simp;omega
 have hnI:(n:Int)<=100000000000:=by omega
 have hCI:(n:Int)<=(C:Int):=by omega
 have HO:=Lib.hid ho
 have HB:=Lib.hid hb
 clear hC hZ hZs ho hb h1 h2
 go_enter Tryz.func175,Tryz.ntmps175
 repeat' ((fail_if_success at_builtin);first|go_values|go_skip|go_guarded|go_step|go_upon|go_back)
 refine Lib.wpList_append_run w rfl _ _ _ _ rfl _ _ rfl rfl _ _ hrun ?_
 repeat' ((fail_if_success at_builtin);first|go_values|go_skip|go_guarded|go_step|go_upon|go_back)
 have ho2:OwnB (w.alloc (.cells Z 5)).drew w.heap.size (.slice (some ⟨w.heap.size,0,none⟩) 0 C) []:=HO.out
 refine bodyPost_ret (v:=(.slice (some ⟨w.heap.size,0,none⟩) 0 C)) (by simp[results,Tryz.results175,go_sem]) rfl ⟨_,rfl,ho2,HB.out⟩
set_option maxRecDepth 20000 in
theorem concat_any(w:World)(g:Nat)(a0 a1 a2:Option Addr)(c0 c1 c2:Nat)(x0 x1 x2:Bs)(hg:w.heap[g]? = some (.cells #[.slice a0 x0.length c0,.slice a1 x1.length c1,.slice a2 x2.length c2] 27 (0,0)))(h0:BS w a0 c0 x0)(h1:BS w a1 c1 x1)(h2:BS w a2 c2 x2)
  (b0:x0.length<=10000000000) (b1:x1.length<=10000000000) (b2:x2.length<=10000000000) (hp:1<=x0.length+x1.length+x2.length) :
  Calls Tryz.prog 104 #[.slice (some ⟨g,0,none⟩) 3 3] w fun e w'=>∃ v,e = .returned v/\OwnB w' w.heap.size v (x0++x1++x2)/\Below w.heap.size w w':=by
 have i0:(x0.length:Int)<=10000000000:=by omega
 have i1:(x1.length:Int)<=10000000000:=by omega
 have i2:(x2.length:Int)<=10000000000:=by omega
 have s1:IntKind.i64.wrap ((x0.length:Int)+(x1.length:Int))=(x0.length:Int)+(x1.length:Int):=IntWalk.i64_in _ (by omega)
 have s2:IntKind.i64.wrap ((x0.length:Int)+(x1.length:Int)+(x2.length:Int))=(x0.length:Int)+(x1.length:Int)+(x2.length:Int):=IntWalk.i64_in _ (by omega)
 have t0:decide ((x0.length:Int)<0)=false:=by simp
 have t1:decide ((x0.length:Int)+(x1.length:Int)<0)=false:=by simp;omega
 have t2:decide ((x0.length:Int)+(x1.length:Int)+(x2.length:Int)<0)=false:=by simp;omega
 have k0:=blk_cell hg 0;have k1:=blk_cell hg 1;have k2:=blk_cell hg 2
 simp only[List.getElem?_toArray,List.getElem?_cons_zero,List.getElem?_cons_succ] at k0 k1 k2
 have HG:=Lib.hid hg
 have H0:=Lib.hid h0
 have H1:=Lib.hid h1
 have H2:=Lib.hid h2
 have HP:=Lib.hid hp
 have HI:=Lib.hid (And.intro b0 (And.intro b1 b2))
 clear hg h0 h1 h2 hp b0 b1 b2
 go_enter Tryz.func104,Tryz.ntmps104
 repeat' ((fail_if_success at_builtin);first|go_values|go_skip|go_guarded|go_step|go_upon|go_back)
 refine wp_loop_rounds 4 ?_;rw[rounds_succ]
 repeat' ((fail_if_success at_builtin);first|go_values|go_skip|go_guarded|go_step|go_upon|go_back)
 rw[rounds_succ]
 repeat' ((fail_if_success at_builtin);first|go_values|go_skip|go_guarded|go_step|go_upon|go_back)
 rw[rounds_succ]
 repeat' ((fail_if_success at_builtin);first|go_values|go_skip|go_guarded|go_step|go_upon|go_back)
 rw[rounds_succ]
 repeat' ((fail_if_success at_builtin);first|go_values|go_skip|go_guarded|go_step|go_upon|go_back)
 rw[show ((x0.length:Int)+(x1.length:Int)+(x2.length:Int))=((x0.length+x1.length+x2.length:Nat):Int) by omega]
 refine(grow_any w (x0.length+x1.length+x2.length) HP.out (by omega)).mono ?_
 rintro e1 w1 ⟨v,rfl,ho,hb1⟩
 dsimp only
 obtain⟨av,cv,rfl,-,-⟩:=ho.shape
 clear k0 k1 k2 s1 s2 t0 t1 t2
 have k0:=blk_cell (blk_below hb1 HG.out (blk_lt HG.out)) 0
 simp only[List.getElem?_toArray,List.getElem?_cons_zero,List.getElem?_cons_succ] at k0
 repeat' ((fail_if_success at_builtin);first|go_values|go_skip|go_guarded|go_step|go_upon|go_back)
 refine wp_loop_rounds 4 ?_;rw[rounds_succ]
 repeat' ((fail_if_success at_builtin);first|go_values|go_skip|go_guarded|go_step|go_upon|go_back)
 refine wp_appB rfl _ _ rfl (w.heap.size) (_) ([]) (x0) rfl (ho) (a0) (c0) rfl (H0.out.below hb1) ((by simp;omega)) (hb1.size) ?_
 intro v2 w2 ho2 hg2
 have hb2:=hb1.grown hg2 hb1.size (fun k hk=>(ho.row k hk).1)
 have k1:=blk_cell (blk_below hb2 HG.out (blk_lt HG.out)) 1
 simp only[List.getElem?_toArray,List.getElem?_cons_zero,List.getElem?_cons_succ] at k1
 obtain⟨av2,cv2,rfl,-,-⟩:=ho2.shape
 clear k0 ho hb1 hg2
 rw[List.nil_append] at ho2
 repeat' ((fail_if_success at_builtin);first|go_values|go_skip|go_guarded|go_step|go_upon|go_back)
 rw[rounds_succ]
 repeat' ((fail_if_success at_builtin);first|go_values|go_skip|go_guarded|go_step|go_upon|go_back)
 refine wp_appB rfl _ _ rfl (w.heap.size) (_) (x0) (x1) rfl (ho2) (a1) (c1) rfl (H1.out.below hb2) ((by omega)) (hb2.size) ?_
 intro v3 w3 ho3 hg3
 have hb3:=hb2.grown hg3 hb2.size (fun k hk=>(ho2.row k hk).1)
 have k2:=blk_cell (blk_below hb3 HG.out (blk_lt HG.out)) 2
 simp only[List.getElem?_toArray,List.getElem?_cons_zero,List.getElem?_cons_succ] at k2
 obtain⟨av3,cv3,rfl,-,-⟩:=ho3.shape
 clear k1 ho2 hb2 hg3
 rw[List.length_append] at ho3
 repeat' ((fail_if_success at_builtin);first|go_values|go_skip|go_guarded|go_step|go_upon|go_back)
 rw[rounds_succ]
 repeat' ((fail_if_success at_builtin);first|go_values|go_skip|go_guarded|go_step|go_upon|go_back)
 refine wp_appB rfl _ _ rfl (w.heap.size) (_) (x0++x1) (x2) rfl (ho3) (a2) (c2) rfl (H2.out.below hb3) ((by simp;omega)) (hb3.size) ?_
 intro v4 w4 ho4 hg4
 have hb4:=hb3.grown hg4 hb3.size (fun k hk=>(ho3.row k hk).1)
 clear k2 ho3 hb3 hg4
 repeat' ((fail_if_success at_builtin);first|go_values|go_skip|go_guarded|go_step|go_upon|go_back)
 rw[rounds_succ]
 repeat' ((fail_if_success at_builtin);first|go_values|go_skip|go_guarded|go_step|go_upon|go_back)
 obtain⟨av4,cv4,rfl,-,-⟩:=ho4.shape
 refine bodyPost_ret (v:=(.slice av4 (x0++x1++x2).length cv4)) (by simp[results,Tryz.results104,go_sem]) rfl ⟨_,rfl,ho4,hb4⟩
set_option maxRecDepth 20000 in
theorem seal_any(w:World)(a0 a1:Option Addr)(c0 c1:Nat)(dst xs:Bs)(h0:BS w a0 c0 dst)(h1:BS w a1 c1 xs)(hd:dst.length<=10000000000)(hp:1<=xs.length)(hl:xs.length<=65536) :
  Calls Tryz.prog 44 #[.slice a0 dst.length c0,.slice a1 xs.length c1] w fun e w'=>∃ v,e = .returned (.tuple #[v,.int .i64 0])/\OwnB w' w.heap.size v (dst++sealB xs)/\Below w.heap.size w w':=by
 have t1:((xs.length:Int)==0)=false:=beq_eq_false_iff_ne.2 (by omega)
 have t2:decide ((65536:Int)<(xs.length:Int))=false:=by simp;omega
 have HD:=Lib.hid hd
 have HP:=Lib.hid hp
 have HL:=Lib.hid hl
 have H0:=Lib.hid h0
 have H1:=Lib.hid h1
 clear hd hp hl h0 h1
 go_enter Tryz.func44,Tryz.ntmps44
 repeat' ((fail_if_success at_builtin);first|go_values|go_skip|go_guarded|go_step|go_upon|go_back)
 (refine(headOf_any w a1 c1 xs H1.out HL.out).mono ?_;rintro e1 w1 ⟨rfl,hb1⟩;dsimp only)
 have n1:=blk_new w1 (.cells #[.int .u8 ((xs.length:Int)%256),.int .u8 ((xs.length:Int) / 256%256),.int .u8 ((xs.length:Int) / 65536%256),.int .u8 ((xs.length:Int) / 16777216),.int .u8 ((sumOf (low4 xs.length) xs:Int)%256),.int .u8 ((sumOf (low4 xs.length) xs:Int) / 256%256),.int .u8 ((sumOf (low4 xs.length) xs:Int) / 65536%256),.int .u8 ((sumOf (low4 xs.length) xs:Int) / 16777216)] 186)
 have hb2:Below w.heap.size w (w1.alloc (.cells #[.int .u8 ((xs.length:Int)%256),.int .u8 ((xs.length:Int) / 256%256),.int .u8 ((xs.length:Int) / 65536%256),.int .u8 ((xs.length:Int) / 16777216),.int .u8 ((sumOf (low4 xs.length) xs:Int)%256),.int .u8 ((sumOf (low4 xs.length) xs:Int) / 256%256),.int .u8 ((sumOf (low4 xs.length) xs:Int) / 65536%256),.int .u8 ((sumOf (low4 xs.length) xs:Int) / 16777216)] 186)):=hb1.alloc hb1.size _
 repeat' ((fail_if_success (with_reducible (show Code.wp _ (Code.region 6 _ _) _ _ _)));(fail_if_success at_builtin);first|go_values|go_skip|go_guarded|go_step|go_upon|go_back)
 generalize w1.alloc (.cells #[.int .u8 ((xs.length:Int)%256),.int .u8 ((xs.length:Int) / 256%256),.int .u8 ((xs.length:Int) / 65536%256),.int .u8 ((xs.length:Int) / 16777216),.int .u8 ((sumOf (low4 xs.length) xs:Int)%256),.int .u8 ((sumOf (low4 xs.length) xs:Int) / 256%256),.int .u8 ((sumOf (low4 xs.length) xs:Int) / 65536%256),.int .u8 ((sumOf (low4 xs.length) xs:Int) / 16777216)] 186)=w2 at n1 hb2 ⊢
 obtain⟨g,hg⟩:∃ g,w1.heap.size=g:=⟨_,rfl⟩
 rw[hg] at n1 ⊢
 have HH:BS w2 (some ⟨g,0,none⟩) 8 (low4 xs.length++low4 (sumOf (low4 xs.length) xs)):=by
  refine⟨by simp[low4],(fun h=>nomatch h),.inr ⟨g,0,rfl,fun i u hu=>?_⟩⟩
  rw[Nat.zero_add,blk_cell n1]
  have hm:=congrArg (fun l=>l[i]?) (show (low4 xs.length++low4 (sumOf (low4 xs.length) xs)).map B=[.int .u8 ((xs.length:Int)%256),.int .u8 ((xs.length:Int) / 256%256),.int .u8 ((xs.length:Int) / 65536%256),.int .u8 ((xs.length:Int) / 16777216),.int .u8 ((sumOf (low4 xs.length) xs:Int)%256),.int .u8 ((sumOf (low4 xs.length) xs:Int) / 256%256),.int .u8 ((sumOf (low4 xs.length) xs:Int) / 65536%256),.int .u8 ((sumOf (low4 xs.length) xs:Int) / 16777216)] by rw[List.map_append,low4_cells _ (by have:=HL.out;omega),low4_cells _ (sumOf_lt _ _)];rfl)
  rw[List.getElem?_map,hu] at hm
  rw[show (some u).map B=some (B u) from rfl] at hm
  rw[hm,List.getElem?_toArray]
 have h8:(low4 xs.length++low4 (sumOf (low4 xs.length) xs)).length=8:=rfl
 obtain⟨hd8,hH⟩:∃ hd8,low4 xs.length++low4 (sumOf (low4 xs.length) xs)=hd8:=⟨_,rfl⟩
 rw[hH] at HH h8
 have HSB:Hid (sealB xs=hd8++xs):=Lib.hid (by rw[<-hH];rfl)
 have HBW:=Lib.hid hb2
 have n2:=blk_new w2 (.cells #[.slice a0 dst.length c0,.slice (some ⟨g,0,none⟩) 8 8,.slice a1 xs.length c1] 27)
 have hb3:Below w2.heap.size w2 (w2.alloc (.cells #[.slice a0 dst.length c0,.slice (some ⟨g,0,none⟩) 8 8,.slice a1 xs.length c1] 27)):=(Below.refl _ _).alloc (Nat.le_refl _) _
 clear hb1 hg n1 hH hb2
 repeat' ((fail_if_success at_builtin);first|go_values|go_skip|go_guarded|go_step|go_upon|go_back)
 generalize w2.alloc (.cells #[.slice a0 dst.length c0,.slice (some ⟨g,0,none⟩) 8 8,.slice a1 xs.length c1] 27)=w3 at n2 hb3 ⊢
 have hb4:=HBW.out.trans (hb3.mono HBW.out.size)
 have hc:=concat_any w3 w2.heap.size a0 (some ⟨g,0,none⟩) a1 c0 8 c1 dst hd8 xs (by rw[h8];exact n2) (H0.out.below hb4) (HH.below hb3) (H1.out.below hb4) HD.out (by omega) (by have:=HL.out;omega) (by omega)
 refine hc.mono ?_
 rintro e1 w4 ⟨v,rfl,ho,hb5⟩
 dsimp only
 have HO:=Lib.hid ho
 have hb4s:=hb4.size
 have hb6:=hb4.trans (hb5.mono hb4.size)
 clear hc ho hb5 hb4 hb3 n2 HH
 repeat' ((fail_if_success at_builtin);first|go_values|go_skip|go_guarded|go_step|go_upon|go_back)
 refine bodyPost_ret (results_tmp2 rfl _ _ _) rfl ⟨v,rfl,by rw[HSB.out,<-List.append_assoc];exact HO.out.lower hb4s,hb6⟩
end Go.Proofs.YtbppnihcbcdglaaGreat
