/- proc: why an instruction may not stand at a place. No condition. -/
import Derived.Test.YtbppnihcbcdglaaGreatZ6
namespace Go.Proofs.YtbppnihcbcdglaaGreat
set_option maxHeartbeats 0
open Go.RowKit
set_option linter.unusedVariables false
set_option linter.unusedSimpArgs false
def I.cells(x:I):Array Value:=#[.int .i64 x.op,.int .i64 x.a,.int .i64 x.b,.int .i64 x.c,.int .i64 x.n,.int .i64 x.v.k,.int .i64 x.v.i,.string ⟨x.v.t.toArray⟩]
def IB(w:World)(g:Nat)(x:I):Prop:=w.heap[g]? = some (.cells #[.int .i64 x.op,.int .i64 x.a,.int .i64 x.b,.int .i64 x.c,.int .i64 x.n,.int .i64 x.v.k,.int .i64 x.v.i,.string ⟨x.v.t.toArray⟩] 179 (0,0))
structure IA (w:World) (g o:Nat) (x:I):Prop where
 c0:w.cell? ⟨g,o,none⟩=some (.int .i64 x.op)
 c1:w.cell? ⟨g,o+1,none⟩=some (.int .i64 x.a)
 c2:w.cell? ⟨g,o+2,none⟩=some (.int .i64 x.b)
 c3:w.cell? ⟨g,o+3,none⟩=some (.int .i64 x.c)
 c4:w.cell? ⟨g,o+4,none⟩=some (.int .i64 x.n)
 c5:w.cell? ⟨g,o+5,none⟩=some (.int .i64 x.v.k)
 c6:w.cell? ⟨g,o+6,none⟩=some (.int .i64 x.v.i)
 c7:w.cell? ⟨g,o+7,none⟩=some (.string ⟨x.v.t.toArray⟩)
theorem flat3:∀ (l:List Fd) (j:Nat) (f:Fd),l[j]? = some f->(l.flatMap fdC)[j*3]? = some (fnV f.atF)/\(l.flatMap fdC)[j*3+1]? = some (fnV f.mayF)/\(l.flatMap fdC)[j*3+2]? = some (.bool f.one)
 | [],j,f,h=>by simp at h
 | d :: t,0,f,h=>by
  simp only[List.getElem?_cons_zero,Option.some.injEq] at h
  subst h
  exact⟨rfl,rfl,rfl⟩
 | d :: t,j+1,f,h=>by
  have:=flat3 t j f (by simpa using h)
  rw[show (j+1)*3=j*3+1+1+1 by omega]
  exact this
theorem bareI_snoc(l:List Fd)(j:Nat)(f:Fd)(h:l[j]? = some f)(x:I):bareI (l.take (j+1)) x=f.put (bareI (l.take j) x) 0:=by
 unfold bareI
 rw[List.take_add_one,h,List.foldl_append];rfl
theorem mayAll_snoc(args:Int)(n k:Nat)(l:List Fd)(j:Nat)(f:Fd)(h:l[j]? = some f)(x:I):mayAll args n k (l.take (j+1)) x=(mayAll args n k (l.take j) x&&f.may args n k (f.get x)):=by
 unfold mayAll
 rw[List.take_add_one,h,List.all_append];simp
theorem mayAll_no(args:Int)(n k:Nat)(l:List Fd)(j:Nat)(f:Fd)(h:l[j]? = some f)(x:I)(hn:f.may args n k (f.get x)=false):mayAll args n k l x=false:=by
 unfold mayAll
 rw[Bool.eq_false_iff]
 intro ha
 rw[List.all_eq_true] at ha
 have:=ha f (List.mem_of_getElem? h)
 rw[hn] at this;cases this
structure IL (w0 w:World) (X R S sg pb:Nat) (x y:I) (op:Nat) (nm:ByteArray) (args:Int) (a:Option Addr) (n c n0:Nat):Prop where
 hx:IB w X x
 hy:IB w R y
 hs:w.heap[S]? = some (.cells #[.slice (some ⟨sg,0,none⟩) (fds op).length (fds op).length,.bool (hasV op)] 265 (0,0))
 hf:w.heap[sg]? = some (.cells ((fds op).flatMap fdC).toArray 271 (0,0))
 hp:PB w pb nm args a n c
 below:Below n0 w0 w
theorem blk_ne{w:World}{a b:Nat}{c c':Array Value}{t t':TypeId}{f f':Nat×Nat}(h:w.heap[a]? = some (.cells c t f))(h':w.heap[b]? = some (.cells c' t' f'))(ht:t≠t'):a≠b:=by
 rintro rfl
 rw[h] at h'
 injection h' with h'
 injection h' with _ h' _
 exact ht h'
theorem IL.step{w0 w:World}{X R S sg pb op n c n0:Nat}{x y:I}{nm:ByteArray}{args:Int}{a:Option Addr}(h:IL w0 w X R S sg pb x y op nm args a n c n0)(hXR:X≠R)(f:Fd)(o:Obj)(m:Nat)(hn0:n0<=R)(hn1:n0<=w.heap.size) :
  IL w0 (((w.alloc o).drewN m).setCell ⟨R,f.off,none⟩ (.int .i64 0)) X R S sg pb x (f.put y 0) op nm args a n c n0:=by
 have e:((w.alloc o).drewN m).heap=(w.alloc o).heap:=rfl
 have kp:∀ j ob,j≠R->w.heap[j]? = some ob->(((w.alloc o).drewN m).setCell ⟨R,f.off,none⟩ (.int .i64 0)).heap[j]? = some ob:=fun j ob hj ho =>
  blk_set_other (w:=(w.alloc o).drewN m) (blk_alloc ho o) hj _ _
 refine⟨kp _ _ hXR h.hx,?_,kp _ _ (blk_ne h.hs h.hy (by decide)) h.hs,kp _ _ (blk_ne h.hf h.hy (by decide)) h.hf,kp _ _ (blk_ne h.hp h.hy (by decide)) h.hp,(bdrewN (h.below.alloc hn1 o) m).setCell hn0 _⟩
 have hy:=blk_set (w:=(w.alloc o).drewN m) (blk_alloc h.hy o) f.off (.int .i64 0)
 cases f <;> exact hy
theorem chkI_may{args:Int}{n k op:Nat}{xa xb xc xn:Int}{v:V}(h2:1<=op)(h3:op<=15)(h:mayAll args n k (fds op) ⟨op,xa,xb,xc,xn,v⟩=false):chkI args n k ⟨op,xa,xb,xc,xn,v⟩=16:=by
 unfold chkI
 dsimp only
 rw[if_neg (by omega)]
 rw[show ((op:Int)).toNat=op from rfl,if_pos h]
theorem quiet_me{P:Program}{f:FuncId}{args:Array Value}{w:World}{a:Nat}{v:Value}(h:Calls P f args (w.drewN a) fun e w'=>e = .returned v/\w.drewN a=w'):Calls P f args (w.drewN a) fun e w''=>e = .returned v/\∃ n,w''=w.drewN n :=
 h.mono fun e w'' ⟨h1,h2⟩=>⟨h1,a,h2.symm⟩
theorem put_op(f:Fd)(x:I)(u:Int):(f.put x u).op=x.op:=by cases f <;> rfl
theorem put_v(f:Fd)(x:I)(u:Int):(f.put x u).v=x.v:=by cases f <;> rfl
theorem bareI_op:∀ (l:List Fd) (x:I),(bareI l x).op=x.op
 | [],_=>rfl
 | f :: t,x=>(bareI_op t (f.put x 0)).trans (put_op f x 0)
theorem bareI_v:∀ (l:List Fd) (x:I),(bareI l x).v=x.v
 | [],_=>rfl
 | f :: t,x=>(bareI_v t (f.put x 0)).trans (put_v f x 0)
theorem bareI_with:∀ (l:List Fd) (o a b c n:Int) (v u:V),bareI l ⟨o,a,b,c,n,u⟩ = { bareI l ⟨o,a,b,c,n,v⟩ with v:=u }
 | [],_,_,_,_,_,_,_=>rfl
 | f :: t,o,a,b,c,n,v,u=>by cases f <;> exact bareI_with t _ _ _ _ _ _ _
theorem chkI_end{args:Int}{n k op:Nat}{xa xb xc xn:Int}{v:V}(h2:1<=op)(h3:op<=15)(h:mayAll args n k (fds op) ⟨op,xa,xb,xc,xn,v⟩=true) :
  chkI args n k ⟨op,xa,xb,xc,xn,v⟩=if (bareI (fds op) ⟨0,xa,xb,xc,xn,v⟩).a=0/\(bareI (fds op) ⟨0,xa,xb,xc,xn,v⟩).b=0/\(bareI (fds op) ⟨0,xa,xb,xc,xn,v⟩).c=0/\(bareI (fds op) ⟨0,xa,xb,xc,xn,v⟩).n=0/\(if hasV op then V.nil else v).k=0/\(if hasV op then V.nil else v).i=0/\(if hasV op then V.nil else v).t=[] then (if hasV op then chkV v else 0) else 16:=by
 unfold chkI
 dsimp only
 rw[if_neg (by omega)]
 rw[show ((op:Int)).toNat=op from rfl,if_neg (by rw[h];simp),bareI_with (fds op) 0 xa xb xc xn v]
theorem neqI(w:World)(a b c d e k i a' b' c' d' e' k' i':Int)(t t':ByteArray) :
  (binOp .neq 179 (.agg #[.int .i64 a,.int .i64 b,.int .i64 c,.int .i64 d,.int .i64 e,.int .i64 k,.int .i64 i,.string t]) (.agg #[.int .i64 a',.int .i64 b',.int .i64 c',.int .i64 d',.int .i64 e',.int .i64 k',.int .i64 i',.string t'])).run Tryz.prog w =
   .ok (.bool (!(a==a'&&b==b'&&c==c'&&d==d'&&e==e'&&k==k'&&i==i'&&t.toList==t'.toList))) w:=by
 rw[run_neq_struct]
 simp[go_sem,Tryz.underlying179,Tryz.underlying177]
 by_cases h1:a=a' <;> by_cases h2:b=b' <;> by_cases h3:c=c' <;> by_cases h4:d=d' <;> by_cases h5:e=e' <;> by_cases h6:k=k' <;> by_cases h7:i=i' <;> by_cases h8:t.toList=t'.toList <;> simp[h1,h2,h3,h4,h5,h6,h7,h8]
set_option maxRecDepth 20000 in
theorem instr_op(w:World)(lb pb:Nat)(nm:ByteArray)(args:Int)(g o n c k:Nat)(x:I)(hp:PB w pb nm args (some ⟨g,o,none⟩) n c)(hk:k<n)(hn:n<=140737488355328)(hx:IA w g (o+k*8) x)(h:x.op<1\/16<x.op) :
  Calls Tryz.prog 240 #[.pointer (some ⟨lb,0,none⟩),.pointer (some ⟨pb,0,none⟩),.int .i64 (k:Int)] w fun e' w'=>e' = .returned (.int .i64 16)/\Below w.heap.size w w':=by
 obtain⟨c0,c1,c2,c3,c4,c5,c6,c7⟩:=hx
 have hc:w.cell? ⟨pb,2,none⟩=some (.slice (some ⟨g,o,none⟩) n c):=blk_cell hp 2
 have hk2:(k:Int)<(n:Int):=by omega
 have hn2:(n:Int)<=140737488355328:=by omega
 clear hp hk hn
 have b1:decide (x.op<1)=true\/(decide (x.op<1)=false/\decide (16<x.op)=true):=by
  simp only[decide_eq_true_eq,decide_eq_false_iff_not];omega
 clear h
 rcases b1 with g1|⟨g1,g2⟩
 ·go_enter Tryz.func240,Tryz.ntmps240
  repeat' ((fail_if_success at_builtin);first|go_values|go_skip|go_guarded|go_step|go_upon|go_back)
  refine bodyPost_ret (results_tmp rfl _ _ _) rfl ⟨rfl,by(repeat' (first|(with_reducible exact Below.refl _ _)|(with_reducible assumption)|(with_reducible refine Below.drew ?_)|(with_reducible refine bdrewN ?_ _)|(with_reducible refine Below.alloc ?_ ?_ _)|(with_reducible refine Below.setCell ?_ ?_ _)|omega|(simp;done)|(simp;omega)))⟩
 ·go_enter Tryz.func240,Tryz.ntmps240
  repeat' ((fail_if_success at_builtin);first|go_values|go_skip|go_guarded|go_step|go_upon|go_back)
  refine bodyPost_ret (results_tmp rfl _ _ _) rfl ⟨rfl,by(repeat' (first|(with_reducible exact Below.refl _ _)|(with_reducible assumption)|(with_reducible refine Below.drew ?_)|(with_reducible refine bdrewN ?_ _)|(with_reducible refine Below.alloc ?_ ?_ _)|(with_reducible refine Below.setCell ?_ ?_ _)|omega|(simp;done)|(simp;omega)))⟩
set_option maxRecDepth 20000 in
theorem instr_go(w:World)(lb pb:Nat)(L:Array Value)(n0:Nat)(hL:w.heap[lb]? = some (.cells L 266 (0,0)))(hS:Shp w n0 L [1,2,3,4,5,6,7,8,9,10,11,12,13,14,15])(nm:ByteArray)(args:Int)(g o n c k:Nat)(x:I)(hp:PB w pb nm args (some ⟨g,o,none⟩) n c)(hk:k<n)(hn:n<=140737488355328)(hx:IA w g (o+k*8) x)(op:Nat)(h1:x.op=(op:Int))(h2:1<=op)(h3:op<=15) :
  Calls Tryz.prog 240 #[.pointer (some ⟨lb,0,none⟩),.pointer (some ⟨pb,0,none⟩),.int .i64 (k:Int)] w fun e' w'=>e' = .returned (.int .i64 (chkI args n k x))/\Below w.heap.size w w':=by
 obtain⟨xo,xa,xb,xc,xn,⟨vk,vi,vt⟩⟩:=x
 dsimp only at h1
 subst h1
 obtain⟨c0,c1,c2,c3,c4,c5,c6,c7⟩:=hx
 dsimp only at c0 c1 c2 c3 c4 c5 c6 c7
 have hc:w.cell? ⟨pb,2,none⟩=some (.slice (some ⟨g,o,none⟩) n c):=blk_cell hp 2
 have hk2:(k:Int)<(n:Int):=by omega
 have hn2:(n:Int)<=140737488355328:=by omega
 have g1:decide ((op:Int)<1)=false:=by simp;omega
 have g2:decide ((16:Int)<(op:Int))=false:=by simp;omega
 have b3:(op:Int)<=15:=by omega
 have b4:(1:Int)<=(op:Int):=by omega
 obtain⟨sg,sn,s1,s2,sb⟩:=(hS.2 op (by omega)).1 (by
  have:op=1\/op=2\/op=3\/op=4\/op=5\/op=6\/op=7\/op=8\/op=9\/op=10\/op=11\/op=12\/op=13\/op=14\/op=15:=by omega
  simpa using this)
 have l1:(w.alloc (.cells #[.int .i64 (op:Int),.int .i64 xa,.int .i64 xb,.int .i64 xc,.int .i64 xn,.int .i64 vk,.int .i64 vi,.string ⟨vt.toArray⟩] 179)).cell? ⟨lb,op*2,none⟩=some (.slice (some ⟨sg,0,none⟩) (fds op).length (fds op).length):=(blk_cell (blk_alloc hL _) _).trans (by rw[Nat.mul_comm];exact s1)
 have l2:(w.alloc (.cells #[.int .i64 (op:Int),.int .i64 xa,.int .i64 xb,.int .i64 xc,.int .i64 xn,.int .i64 vk,.int .i64 vi,.string ⟨vt.toArray⟩] 179)).cell? ⟨lb,op*2+1,none⟩=some (.bool (hasV op)):=(blk_cell (blk_alloc hL _) _).trans (by rw[Nat.mul_comm];exact s2)
 have x1:IB (w.alloc (.cells #[.int .i64 (op:Int),.int .i64 xa,.int .i64 xb,.int .i64 xc,.int .i64 xn,.int .i64 vk,.int .i64 vi,.string ⟨vt.toArray⟩] 179)) w.heap.size ⟨op,xa,xb,xc,xn,⟨vk,vi,vt⟩⟩:=blk_new _ _
 have p1:PB (w.alloc (.cells #[.int .i64 (op:Int),.int .i64 xa,.int .i64 xb,.int .i64 xc,.int .i64 xn,.int .i64 vk,.int .i64 vi,.string ⟨vt.toArray⟩] 179)) pb nm args (some ⟨g,o,none⟩) n c:=blk_alloc hp _
 have q1:=blk_alloc sb (.cells #[.int .i64 (op:Int),.int .i64 xa,.int .i64 xb,.int .i64 xc,.int .i64 xn,.int .i64 vk,.int .i64 vi,.string ⟨vt.toArray⟩] 179)
 have hb1:Below w.heap.size w (w.alloc (.cells #[.int .i64 (op:Int),.int .i64 xa,.int .i64 xb,.int .i64 xc,.int .i64 xn,.int .i64 vk,.int .i64 vi,.string ⟨vt.toArray⟩] 179)):=(Below.refl _ _).alloc (Nat.le_refl _) _
 have HK:=Lib.hid hk
 have HN:=Lib.hid hn
 have H2:=Lib.hid h2
 have H3:=Lib.hid h3
 clear hL hS hp hk hn s1 s2 sb h2 h3
 go_enter Tryz.func240,Tryz.ntmps240
 repeat' ((fail_if_success at_builtin);first|go_values|go_skip|go_guarded|go_step|go_upon|go_back)
 clear c0 c1 c2 c3 c4 c5 c6 c7 hc
 have hsz:(w.alloc (.cells #[.int .i64 (op:Int),.int .i64 xa,.int .i64 xb,.int .i64 xc,.int .i64 xn,.int .i64 vk,.int .i64 vi,.string ⟨vt.toArray⟩] 179)).heap.size=w.heap.size+1:=World.size_alloc _ _
 generalize w.alloc (.cells #[.int .i64 (op:Int),.int .i64 xa,.int .i64 xb,.int .i64 xc,.int .i64 xn,.int .i64 vk,.int .i64 vi,.string ⟨vt.toArray⟩] 179)=w1 at l1 l2 x1 p1 q1 hb1 hsz ⊢
 have HSZ:=Lib.hid hsz
 clear hsz
 have xc0:w1.cell? ⟨w.heap.size,0,none⟩=some (.int .i64 (op:Int)):=blk_cell x1 0
 have hlb:lb<w1.heap.size:=World.block_lt_of_cell? w1 _ l1
 have hxs:w.heap.size<w1.heap.size:=blk_lt x1
 have xc1:∀ o,(w1.alloc o).cell? ⟨w.heap.size,0,none⟩=some (.int .i64 (op:Int)):=fun o=>blk_cell (blk_alloc x1 o) 0
 have l1a:∀ o,(w1.alloc o).cell? ⟨lb,op*2,none⟩=some (.slice (some ⟨sg,0,none⟩) (fds op).length (fds op).length):=fun o=>(World.cell?_of_block (Below.heap_alloc w1 o lb hlb)).trans l1
 have l2a:∀ o,(w1.alloc o).cell? ⟨lb,op*2+1,none⟩=some (.bool (hasV op)):=fun o=>(World.cell?_of_block (Below.heap_alloc w1 o lb hlb)).trans l2
 have b5:(op:Int)<17:=by omega
 have b6:(0:Int)<=(op:Int):=by omega
 go_region
 all_goals ((repeat' ((fail_if_success (with_reducible (show Code.wp _ (Code.region 5 _ _) _ _ _)));(fail_if_success at_builtin);first|go_values|go_skip|go_guarded|go_step|go_upon|go_back)))
 have HS2:(w1.alloc (.cells #[.slice (some ⟨sg,0,none⟩) (fds op).length (fds op).length,.bool (hasV op)] 265)).drew.heap[w1.heap.size]? = _:=blk_new w1 (.cells #[.slice (some ⟨sg,0,none⟩) (fds op).length (fds op).length,.bool (hasV op)] 265)
 have HX2:IB (w1.alloc (.cells #[.slice (some ⟨sg,0,none⟩) (fds op).length (fds op).length,.bool (hasV op)] 265)).drew w.heap.size _:=blk_alloc x1 (.cells #[.slice (some ⟨sg,0,none⟩) (fds op).length (fds op).length,.bool (hasV op)] 265)
 have HP2:PB (w1.alloc (.cells #[.slice (some ⟨sg,0,none⟩) (fds op).length (fds op).length,.bool (hasV op)] 265)).drew pb nm args (some ⟨g,o,none⟩) n c:=blk_alloc p1 (.cells #[.slice (some ⟨sg,0,none⟩) (fds op).length (fds op).length,.bool (hasV op)] 265)
 have HF2:(w1.alloc (.cells #[.slice (some ⟨sg,0,none⟩) (fds op).length (fds op).length,.bool (hasV op)] 265)).drew.heap[sg]? = _:=blk_alloc q1 (.cells #[.slice (some ⟨sg,0,none⟩) (fds op).length (fds op).length,.bool (hasV op)] 265)
 have HB2:Below w.heap.size w (w1.alloc (.cells #[.slice (some ⟨sg,0,none⟩) (fds op).length (fds op).length,.bool (hasV op)] 265)).drew:=(hb1.alloc (by omega) _).drew
 have hz2:w1.heap.size<(w1.alloc (.cells #[.slice (some ⟨sg,0,none⟩) (fds op).length (fds op).length,.bool (hasV op)] 265)).drew.heap.size:=blk_lt HS2
 clear xc0 xc1 l1a l2a l1 l2 x1 p1 q1 hb1
 generalize (w1.alloc (.cells #[.slice (some ⟨sg,0,none⟩) (fds op).length (fds op).length,.bool (hasV op)] 265)).drew=w2 at HS2 HX2 HP2 HF2 HB2 hz2 ⊢
 have xc:=And.intro (blk_cell HX2 0) (And.intro (blk_cell HX2 1) (And.intro (blk_cell HX2 2) (And.intro (blk_cell HX2 3) (And.intro (blk_cell HX2 4) (And.intro (blk_cell HX2 5) (And.intro (blk_cell HX2 6) (blk_cell HX2 7)))))))
 obtain⟨e0,e1,e2,e3,e4,e5,e6,e7⟩:=xc
 have es:=blk_cell (blk_alloc HS2 (.cells #[.int .i64 0,.int .i64 xa,.int .i64 xb,.int .i64 xc,.int .i64 xn,.int .i64 vk,.int .i64 vi,.string ⟨vt.toArray⟩] 179)) 0
 repeat' ((fail_if_success at_builtin);first|go_values|go_skip|go_guarded|go_step|go_upon|go_back)
 have IL0:IL w (w2.alloc (.cells #[.int .i64 0,.int .i64 xa,.int .i64 xb,.int .i64 xc,.int .i64 xn,.int .i64 vk,.int .i64 vi,.string ⟨vt.toArray⟩] 179)) w.heap.size w2.heap.size w1.heap.size sg pb ⟨op,xa,xb,xc,xn,⟨vk,vi,vt⟩⟩ ⟨0,xa,xb,xc,xn,⟨vk,vi,vt⟩⟩ op nm args (some ⟨g,o,none⟩) n c w.heap.size:=⟨blk_alloc HX2 _,blk_new _ _,blk_alloc HS2 _,blk_alloc HF2 _,blk_alloc HP2 _,HB2.alloc (by omega) _⟩
 have hz3:w2.heap.size<(w2.alloc (.cells #[.int .i64 0,.int .i64 xa,.int .i64 xb,.int .i64 xc,.int .i64 xn,.int .i64 vk,.int .i64 vi,.string ⟨vt.toArray⟩] 179)).heap.size:=by simp
 clear HS2 HX2 HP2 HF2 HB2 e0 e1 e2 e3 e4 e5 e6 e7 es
 generalize w2.alloc (.cells #[.int .i64 0,.int .i64 xa,.int .i64 xb,.int .i64 xc,.int .i64 xn,.int .i64 vk,.int .i64 vi,.string ⟨vt.toArray⟩] 179)=w3 at IL0 hz3 ⊢
 have hfl:(fds op).length<=4:=by
  have:op=1\/op=2\/op=3\/op=4\/op=5\/op=6\/op=7\/op=8\/op=9\/op=10\/op=11\/op=12\/op=13\/op=14\/op=15:=by omega
  rcases this with rfl|rfl|rfl|rfl|rfl|rfl|rfl|rfl|rfl|rfl|rfl|rfl|rfl|rfl|rfl <;> decide
 go_loopw [38] (fun i wr=>∃ j:Nat,j<=(fds op).length/\i = .int .i64 j/\mayAll args n k ((fds op).take j) ⟨op,xa,xb,xc,xn,⟨vk,vi,vt⟩⟩=true/\IL w wr w.heap.size w2.heap.size w1.heap.size sg pb ⟨op,xa,xb,xc,xn,⟨vk,vi,vt⟩⟩ (bareI ((fds op).take j) ⟨0,xa,xb,xc,xn,⟨vk,vi,vt⟩⟩) op nm args (some ⟨g,o,none⟩) n c w.heap.size) (fun i _=>(fds op).length-(intOf i).toNat)
 case atStart=>exact⟨0,Nat.zero_le _,rfl,rfl,IL0⟩
 case round =>
  obtain⟨j,hj,rfl,hall,hIL⟩:=hrel
  have HALL:=Lib.hid hall
  clear hall IL0
  by_cases hlt:j<(fds op).length
  ·obtain⟨f,hf⟩:∃ f,(fds op)[j]? = some f:=⟨_,List.getElem?_eq_getElem hlt⟩
   obtain⟨f0,f1,f2⟩:=flat3 _ _ _ hf
   have HF:=Lib.hid hf
   have k0:wr.cell? ⟨sg,j*3,none⟩=some (fnV f.atF):=(blk_cell hIL.hf _).trans (by simpa using f0)
   have k1:wr.cell? ⟨sg,j*3+1,none⟩=some (fnV f.mayF):=(blk_cell hIL.hf _).trans (by simpa using f1)
   have k2:wr.cell? ⟨sg,j*3+2,none⟩=some (.bool f.one):=(blk_cell hIL.hf _).trans (by simpa using f2)
   have hlt':(j:Int)<((fds op).length:Int):=by omega
   have hfl':((fds op).length:Int)<=4:=by omega
   clear f0 f1 f2 hf
   cases f
   ·simp only[fnV,Fd.atF,Fd.mayF,Fd.one] at k0 k1 k2
    repeat' ((fail_if_success (with_reducible (show Code.wp _ (Code.region 10 _ _) _ _ _)));(fail_if_success at_builtin);first|go_values|go_skip|go_guarded|go_step|go_upon|go_back)
    clear k0 k1 k2
    have x4:IB (wr.alloc (.cells #[.func (.func 241) #[] #[],.func (.func 242) #[] #[],.bool true] 271)) w.heap.size ⟨op,xa,xb,xc,xn,⟨vk,vi,vt⟩⟩:=blk_alloc hIL.hx _
    have p4:PB (wr.alloc (.cells #[.func (.func 241) #[] #[],.func (.func 242) #[] #[],.bool true] 271)) pb nm args (some ⟨g,o,none⟩) n c:=blk_alloc hIL.hp _
    have y4:IB (wr.alloc (.cells #[.func (.func 241) #[] #[],.func (.func 242) #[] #[],.bool true] 271)) w2.heap.size _:=blk_alloc hIL.hy _
    have F4:=blk_new wr (.cells #[.func (.func 241) #[] #[],.func (.func 242) #[] #[],.bool true] 271)
    have H4:=Lib.hid (hIL.below.alloc hIL.below.size (.cells #[.func (.func 241) #[] #[],.func (.func 242) #[] #[],.bool true] 271))
    have HST:=fun m=>hIL.step (show w.heap.size≠w2.heap.size by omega) .ra (.cells #[.func (.func 241) #[] #[],.func (.func 242) #[] #[],.bool true] 271) m (by omega) hIL.below.size
    generalize wr.alloc (.cells #[.func (.func 241) #[] #[],.func (.func 242) #[] #[],.bool true] 271)=w4 at x4 p4 y4 F4 HST H4 ⊢
    have a0:w4.cell? ⟨wr.heap.size,0,none⟩=some (.func (.func 241) #[] #[]):=blk_cell F4 0
    have a1:w4.cell? ⟨wr.heap.size,1,none⟩=some (.func (.func 242) #[] #[]):=blk_cell F4 1
    have v0:w4.cell? ⟨w.heap.size,1,none⟩=some (.int .i64 xa):=blk_cell x4 1
    have r0:w4.cell? ⟨w2.heap.size,1,none⟩=some (.int .i64 (bareI ((fds op).take j) ⟨0,xa,xb,xc,xn,⟨vk,vi,vt⟩⟩).a):=blk_cell y4 1
    have r1:w4.frozen? ⟨w2.heap.size,1,none⟩=false:=blk_free y4 1
    have hb4:Below w.heap.size w w4:=H4.out
    by_cases hm:Fd.may args n k .ra xa=true
    ·have HMA:=Lib.hid (show mayAll args n k ((fds op).take (j+1)) ⟨op,xa,xb,xc,xn,⟨vk,vi,vt⟩⟩=true by rw[mayAll_snoc args n k _ _ _ HF.out,HALL.out];exact hm)
     have HS5:=fun m=>(bareI_snoc _ _ _ HF.out ⟨0,xa,xb,xc,xn,⟨vk,vi,vt⟩⟩).symm ▸ HST m
     clear HST
     go_quiet ((first|(exact quiet_me (fieldA_any _ _))|(exact quiet_me (may_any .ra _ _ k pb nm args _ n c (show PB _ pb nm args (some ⟨g,o,none⟩) n c from p4) HN.out (Nat.le_of_lt HK.out)))))
     repeat' ((fail_if_success at_builtin);first|go_values|go_skip|go_guarded|go_step|go_upon|go_back)
     (refine(fieldA_any _ _).mono ?_;rintro e1 w5 ⟨rfl,rfl⟩;dsimp only)
     repeat' ((fail_if_success at_builtin);first|go_values|go_skip|go_guarded|go_step|go_upon|go_back)
     go_roundw
     case rel=>exact⟨j+1,by omega,by go_num,HMA.out,HS5 _⟩
     case measure=>simp[intOf];omega
    ·have hm':Fd.may args n k .ra xa=false:=by simpa using hm
     have HC:=Lib.hid (chkI_may (xa:=xa) (xb:=xb) (xc:=xc) (xn:=xn) (v:=⟨vk,vi,vt⟩) H2.out H3.out (mayAll_no args n k _ _ _ HF.out ⟨op,xa,xb,xc,xn,⟨vk,vi,vt⟩⟩ hm'))
     clear hm HST
     go_quiet ((first|(exact quiet_me (fieldA_any _ _))|(exact quiet_me (may_any .ra _ _ k pb nm args _ n c (show PB _ pb nm args (some ⟨g,o,none⟩) n c from p4) HN.out (Nat.le_of_lt HK.out)))))
     repeat' ((fail_if_success at_builtin);first|go_values|go_skip|go_guarded|go_step|go_upon|go_back)
     refine bodyPost_ret (results_tmp rfl _ _ _) rfl ⟨?_,bdrewN hb4 _⟩
     refine congrArg (fun x=>Ending.returned (.int .i64 x)) ?_
     exact HC.out.symm
   ·simp only[fnV,Fd.atF,Fd.mayF,Fd.one] at k0 k1 k2
    repeat' ((fail_if_success (with_reducible (show Code.wp _ (Code.region 10 _ _) _ _ _)));(fail_if_success at_builtin);first|go_values|go_skip|go_guarded|go_step|go_upon|go_back)
    clear k0 k1 k2
    have x4:IB (wr.alloc (.cells #[.func (.func 243) #[] #[],.func (.func 242) #[] #[],.bool true] 271)) w.heap.size ⟨op,xa,xb,xc,xn,⟨vk,vi,vt⟩⟩:=blk_alloc hIL.hx _
    have p4:PB (wr.alloc (.cells #[.func (.func 243) #[] #[],.func (.func 242) #[] #[],.bool true] 271)) pb nm args (some ⟨g,o,none⟩) n c:=blk_alloc hIL.hp _
    have y4:IB (wr.alloc (.cells #[.func (.func 243) #[] #[],.func (.func 242) #[] #[],.bool true] 271)) w2.heap.size _:=blk_alloc hIL.hy _
    have F4:=blk_new wr (.cells #[.func (.func 243) #[] #[],.func (.func 242) #[] #[],.bool true] 271)
    have H4:=Lib.hid (hIL.below.alloc hIL.below.size (.cells #[.func (.func 243) #[] #[],.func (.func 242) #[] #[],.bool true] 271))
    have HST:=fun m=>hIL.step (show w.heap.size≠w2.heap.size by omega) .rb (.cells #[.func (.func 243) #[] #[],.func (.func 242) #[] #[],.bool true] 271) m (by omega) hIL.below.size
    generalize wr.alloc (.cells #[.func (.func 243) #[] #[],.func (.func 242) #[] #[],.bool true] 271)=w4 at x4 p4 y4 F4 HST H4 ⊢
    have a0:w4.cell? ⟨wr.heap.size,0,none⟩=some (.func (.func 243) #[] #[]):=blk_cell F4 0
    have a1:w4.cell? ⟨wr.heap.size,1,none⟩=some (.func (.func 242) #[] #[]):=blk_cell F4 1
    have v0:w4.cell? ⟨w.heap.size,2,none⟩=some (.int .i64 xb):=blk_cell x4 2
    have r0:w4.cell? ⟨w2.heap.size,2,none⟩=some (.int .i64 (bareI ((fds op).take j) ⟨0,xa,xb,xc,xn,⟨vk,vi,vt⟩⟩).b):=blk_cell y4 2
    have r1:w4.frozen? ⟨w2.heap.size,2,none⟩=false:=blk_free y4 2
    have hb4:Below w.heap.size w w4:=H4.out
    by_cases hm:Fd.may args n k .rb xb=true
    ·have HMA:=Lib.hid (show mayAll args n k ((fds op).take (j+1)) ⟨op,xa,xb,xc,xn,⟨vk,vi,vt⟩⟩=true by rw[mayAll_snoc args n k _ _ _ HF.out,HALL.out];exact hm)
     have HS5:=fun m=>(bareI_snoc _ _ _ HF.out ⟨0,xa,xb,xc,xn,⟨vk,vi,vt⟩⟩).symm ▸ HST m
     clear HST
     go_quiet ((first|(exact quiet_me (fieldB_any _ _))|(exact quiet_me (may_any .rb _ _ k pb nm args _ n c (show PB _ pb nm args (some ⟨g,o,none⟩) n c from p4) HN.out (Nat.le_of_lt HK.out)))))
     repeat' ((fail_if_success at_builtin);first|go_values|go_skip|go_guarded|go_step|go_upon|go_back)
     (refine(fieldB_any _ _).mono ?_;rintro e1 w5 ⟨rfl,rfl⟩;dsimp only)
     repeat' ((fail_if_success at_builtin);first|go_values|go_skip|go_guarded|go_step|go_upon|go_back)
     go_roundw
     case rel=>exact⟨j+1,by omega,by go_num,HMA.out,HS5 _⟩
     case measure=>simp[intOf];omega
    ·have hm':Fd.may args n k .rb xb=false:=by simpa using hm
     have HC:=Lib.hid (chkI_may (xa:=xa) (xb:=xb) (xc:=xc) (xn:=xn) (v:=⟨vk,vi,vt⟩) H2.out H3.out (mayAll_no args n k _ _ _ HF.out ⟨op,xa,xb,xc,xn,⟨vk,vi,vt⟩⟩ hm'))
     clear hm HST
     go_quiet ((first|(exact quiet_me (fieldB_any _ _))|(exact quiet_me (may_any .rb _ _ k pb nm args _ n c (show PB _ pb nm args (some ⟨g,o,none⟩) n c from p4) HN.out (Nat.le_of_lt HK.out)))))
     repeat' ((fail_if_success at_builtin);first|go_values|go_skip|go_guarded|go_step|go_upon|go_back)
     refine bodyPost_ret (results_tmp rfl _ _ _) rfl ⟨?_,bdrewN hb4 _⟩
     refine congrArg (fun x=>Ending.returned (.int .i64 x)) ?_
     exact HC.out.symm
   ·simp only[fnV,Fd.atF,Fd.mayF,Fd.one] at k0 k1 k2
    repeat' ((fail_if_success (with_reducible (show Code.wp _ (Code.region 10 _ _) _ _ _)));(fail_if_success at_builtin);first|go_values|go_skip|go_guarded|go_step|go_upon|go_back)
    clear k0 k1 k2
    have x4:IB (wr.alloc (.cells #[.func (.func 244) #[] #[],.func (.func 242) #[] #[],.bool true] 271)) w.heap.size ⟨op,xa,xb,xc,xn,⟨vk,vi,vt⟩⟩:=blk_alloc hIL.hx _
    have p4:PB (wr.alloc (.cells #[.func (.func 244) #[] #[],.func (.func 242) #[] #[],.bool true] 271)) pb nm args (some ⟨g,o,none⟩) n c:=blk_alloc hIL.hp _
    have y4:IB (wr.alloc (.cells #[.func (.func 244) #[] #[],.func (.func 242) #[] #[],.bool true] 271)) w2.heap.size _:=blk_alloc hIL.hy _
    have F4:=blk_new wr (.cells #[.func (.func 244) #[] #[],.func (.func 242) #[] #[],.bool true] 271)
    have H4:=Lib.hid (hIL.below.alloc hIL.below.size (.cells #[.func (.func 244) #[] #[],.func (.func 242) #[] #[],.bool true] 271))
    have HST:=fun m=>hIL.step (show w.heap.size≠w2.heap.size by omega) .rc (.cells #[.func (.func 244) #[] #[],.func (.func 242) #[] #[],.bool true] 271) m (by omega) hIL.below.size
    generalize wr.alloc (.cells #[.func (.func 244) #[] #[],.func (.func 242) #[] #[],.bool true] 271)=w4 at x4 p4 y4 F4 HST H4 ⊢
    have a0:w4.cell? ⟨wr.heap.size,0,none⟩=some (.func (.func 244) #[] #[]):=blk_cell F4 0
    have a1:w4.cell? ⟨wr.heap.size,1,none⟩=some (.func (.func 242) #[] #[]):=blk_cell F4 1
    have v0:w4.cell? ⟨w.heap.size,3,none⟩=some (.int .i64 xc):=blk_cell x4 3
    have r0:w4.cell? ⟨w2.heap.size,3,none⟩=some (.int .i64 (bareI ((fds op).take j) ⟨0,xa,xb,xc,xn,⟨vk,vi,vt⟩⟩).c):=blk_cell y4 3
    have r1:w4.frozen? ⟨w2.heap.size,3,none⟩=false:=blk_free y4 3
    have hb4:Below w.heap.size w w4:=H4.out
    by_cases hm:Fd.may args n k .rc xc=true
    ·have HMA:=Lib.hid (show mayAll args n k ((fds op).take (j+1)) ⟨op,xa,xb,xc,xn,⟨vk,vi,vt⟩⟩=true by rw[mayAll_snoc args n k _ _ _ HF.out,HALL.out];exact hm)
     have HS5:=fun m=>(bareI_snoc _ _ _ HF.out ⟨0,xa,xb,xc,xn,⟨vk,vi,vt⟩⟩).symm ▸ HST m
     clear HST
     go_quiet ((first|(exact quiet_me (fieldC_any _ _))|(exact quiet_me (may_any .rc _ _ k pb nm args _ n c (show PB _ pb nm args (some ⟨g,o,none⟩) n c from p4) HN.out (Nat.le_of_lt HK.out)))))
     repeat' ((fail_if_success at_builtin);first|go_values|go_skip|go_guarded|go_step|go_upon|go_back)
     (refine(fieldC_any _ _).mono ?_;rintro e1 w5 ⟨rfl,rfl⟩;dsimp only)
     repeat' ((fail_if_success at_builtin);first|go_values|go_skip|go_guarded|go_step|go_upon|go_back)
     go_roundw
     case rel=>exact⟨j+1,by omega,by go_num,HMA.out,HS5 _⟩
     case measure=>simp[intOf];omega
    ·have hm':Fd.may args n k .rc xc=false:=by simpa using hm
     have HC:=Lib.hid (chkI_may (xa:=xa) (xb:=xb) (xc:=xc) (xn:=xn) (v:=⟨vk,vi,vt⟩) H2.out H3.out (mayAll_no args n k _ _ _ HF.out ⟨op,xa,xb,xc,xn,⟨vk,vi,vt⟩⟩ hm'))
     clear hm HST
     go_quiet ((first|(exact quiet_me (fieldC_any _ _))|(exact quiet_me (may_any .rc _ _ k pb nm args _ n c (show PB _ pb nm args (some ⟨g,o,none⟩) n c from p4) HN.out (Nat.le_of_lt HK.out)))))
     repeat' ((fail_if_success at_builtin);first|go_values|go_skip|go_guarded|go_step|go_upon|go_back)
     refine bodyPost_ret (results_tmp rfl _ _ _) rfl ⟨?_,bdrewN hb4 _⟩
     refine congrArg (fun x=>Ending.returned (.int .i64 x)) ?_
     exact HC.out.symm
   ·simp only[fnV,Fd.atF,Fd.mayF,Fd.one] at k0 k1 k2
    repeat' ((fail_if_success (with_reducible (show Code.wp _ (Code.region 10 _ _) _ _ _)));(fail_if_success at_builtin);first|go_values|go_skip|go_guarded|go_step|go_upon|go_back)
    clear k0 k1 k2
    have x4:IB (wr.alloc (.cells #[.func (.func 245) #[] #[],.func (.func 246) #[] #[],.bool false] 271)) w.heap.size ⟨op,xa,xb,xc,xn,⟨vk,vi,vt⟩⟩:=blk_alloc hIL.hx _
    have p4:PB (wr.alloc (.cells #[.func (.func 245) #[] #[],.func (.func 246) #[] #[],.bool false] 271)) pb nm args (some ⟨g,o,none⟩) n c:=blk_alloc hIL.hp _
    have y4:IB (wr.alloc (.cells #[.func (.func 245) #[] #[],.func (.func 246) #[] #[],.bool false] 271)) w2.heap.size _:=blk_alloc hIL.hy _
    have F4:=blk_new wr (.cells #[.func (.func 245) #[] #[],.func (.func 246) #[] #[],.bool false] 271)
    have H4:=Lib.hid (hIL.below.alloc hIL.below.size (.cells #[.func (.func 245) #[] #[],.func (.func 246) #[] #[],.bool false] 271))
    have HST:=fun m=>hIL.step (show w.heap.size≠w2.heap.size by omega) .arg (.cells #[.func (.func 245) #[] #[],.func (.func 246) #[] #[],.bool false] 271) m (by omega) hIL.below.size
    generalize wr.alloc (.cells #[.func (.func 245) #[] #[],.func (.func 246) #[] #[],.bool false] 271)=w4 at x4 p4 y4 F4 HST H4 ⊢
    have a0:w4.cell? ⟨wr.heap.size,0,none⟩=some (.func (.func 245) #[] #[]):=blk_cell F4 0
    have a1:w4.cell? ⟨wr.heap.size,1,none⟩=some (.func (.func 246) #[] #[]):=blk_cell F4 1
    have v0:w4.cell? ⟨w.heap.size,4,none⟩=some (.int .i64 xn):=blk_cell x4 4
    have r0:w4.cell? ⟨w2.heap.size,4,none⟩=some (.int .i64 (bareI ((fds op).take j) ⟨0,xa,xb,xc,xn,⟨vk,vi,vt⟩⟩).n):=blk_cell y4 4
    have r1:w4.frozen? ⟨w2.heap.size,4,none⟩=false:=blk_free y4 4
    have hb4:Below w.heap.size w w4:=H4.out
    by_cases hm:Fd.may args n k .arg xn=true
    ·have HMA:=Lib.hid (show mayAll args n k ((fds op).take (j+1)) ⟨op,xa,xb,xc,xn,⟨vk,vi,vt⟩⟩=true by rw[mayAll_snoc args n k _ _ _ HF.out,HALL.out];exact hm)
     have HS5:=fun m=>(bareI_snoc _ _ _ HF.out ⟨0,xa,xb,xc,xn,⟨vk,vi,vt⟩⟩).symm ▸ HST m
     clear HST
     go_quiet ((first|(exact quiet_me (fieldN_any _ _))|(exact quiet_me (may_any .arg _ _ k pb nm args _ n c (show PB _ pb nm args (some ⟨g,o,none⟩) n c from p4) HN.out (Nat.le_of_lt HK.out)))))
     repeat' ((fail_if_success at_builtin);first|go_values|go_skip|go_guarded|go_step|go_upon|go_back)
     (refine(fieldN_any _ _).mono ?_;rintro e1 w5 ⟨rfl,rfl⟩;dsimp only)
     repeat' ((fail_if_success at_builtin);first|go_values|go_skip|go_guarded|go_step|go_upon|go_back)
     go_roundw
     case rel=>exact⟨j+1,by omega,by go_num,HMA.out,HS5 _⟩
     case measure=>simp[intOf];omega
    ·have hm':Fd.may args n k .arg xn=false:=by simpa using hm
     have HC:=Lib.hid (chkI_may (xa:=xa) (xb:=xb) (xc:=xc) (xn:=xn) (v:=⟨vk,vi,vt⟩) H2.out H3.out (mayAll_no args n k _ _ _ HF.out ⟨op,xa,xb,xc,xn,⟨vk,vi,vt⟩⟩ hm'))
     clear hm HST
     go_quiet ((first|(exact quiet_me (fieldN_any _ _))|(exact quiet_me (may_any .arg _ _ k pb nm args _ n c (show PB _ pb nm args (some ⟨g,o,none⟩) n c from p4) HN.out (Nat.le_of_lt HK.out)))))
     repeat' ((fail_if_success at_builtin);first|go_values|go_skip|go_guarded|go_step|go_upon|go_back)
     refine bodyPost_ret (results_tmp rfl _ _ _) rfl ⟨?_,bdrewN hb4 _⟩
     refine congrArg (fun x=>Ending.returned (.int .i64 x)) ?_
     exact HC.out.symm
   ·simp only[fnV,Fd.atF,Fd.mayF,Fd.one] at k0 k1 k2
    repeat' ((fail_if_success (with_reducible (show Code.wp _ (Code.region 10 _ _) _ _ _)));(fail_if_success at_builtin);first|go_values|go_skip|go_guarded|go_step|go_upon|go_back)
    clear k0 k1 k2
    have x4:IB (wr.alloc (.cells #[.func (.func 245) #[] #[],.func (.func 247) #[] #[],.bool false] 271)) w.heap.size ⟨op,xa,xb,xc,xn,⟨vk,vi,vt⟩⟩:=blk_alloc hIL.hx _
    have p4:PB (wr.alloc (.cells #[.func (.func 245) #[] #[],.func (.func 247) #[] #[],.bool false] 271)) pb nm args (some ⟨g,o,none⟩) n c:=blk_alloc hIL.hp _
    have y4:IB (wr.alloc (.cells #[.func (.func 245) #[] #[],.func (.func 247) #[] #[],.bool false] 271)) w2.heap.size _:=blk_alloc hIL.hy _
    have F4:=blk_new wr (.cells #[.func (.func 245) #[] #[],.func (.func 247) #[] #[],.bool false] 271)
    have H4:=Lib.hid (hIL.below.alloc hIL.below.size (.cells #[.func (.func 245) #[] #[],.func (.func 247) #[] #[],.bool false] 271))
    have HST:=fun m=>hIL.step (show w.heap.size≠w2.heap.size by omega) .how (.cells #[.func (.func 245) #[] #[],.func (.func 247) #[] #[],.bool false] 271) m (by omega) hIL.below.size
    generalize wr.alloc (.cells #[.func (.func 245) #[] #[],.func (.func 247) #[] #[],.bool false] 271)=w4 at x4 p4 y4 F4 HST H4 ⊢
    have a0:w4.cell? ⟨wr.heap.size,0,none⟩=some (.func (.func 245) #[] #[]):=blk_cell F4 0
    have a1:w4.cell? ⟨wr.heap.size,1,none⟩=some (.func (.func 247) #[] #[]):=blk_cell F4 1
    have v0:w4.cell? ⟨w.heap.size,4,none⟩=some (.int .i64 xn):=blk_cell x4 4
    have r0:w4.cell? ⟨w2.heap.size,4,none⟩=some (.int .i64 (bareI ((fds op).take j) ⟨0,xa,xb,xc,xn,⟨vk,vi,vt⟩⟩).n):=blk_cell y4 4
    have r1:w4.frozen? ⟨w2.heap.size,4,none⟩=false:=blk_free y4 4
    have hb4:Below w.heap.size w w4:=H4.out
    by_cases hm:Fd.may args n k .how xn=true
    ·have HMA:=Lib.hid (show mayAll args n k ((fds op).take (j+1)) ⟨op,xa,xb,xc,xn,⟨vk,vi,vt⟩⟩=true by rw[mayAll_snoc args n k _ _ _ HF.out,HALL.out];exact hm)
     have HS5:=fun m=>(bareI_snoc _ _ _ HF.out ⟨0,xa,xb,xc,xn,⟨vk,vi,vt⟩⟩).symm ▸ HST m
     clear HST
     go_quiet ((first|(exact quiet_me (fieldN_any _ _))|(exact quiet_me (may_any .how _ _ k pb nm args _ n c (show PB _ pb nm args (some ⟨g,o,none⟩) n c from p4) HN.out (Nat.le_of_lt HK.out)))))
     repeat' ((fail_if_success at_builtin);first|go_values|go_skip|go_guarded|go_step|go_upon|go_back)
     (refine(fieldN_any _ _).mono ?_;rintro e1 w5 ⟨rfl,rfl⟩;dsimp only)
     repeat' ((fail_if_success at_builtin);first|go_values|go_skip|go_guarded|go_step|go_upon|go_back)
     go_roundw
     case rel=>exact⟨j+1,by omega,by go_num,HMA.out,HS5 _⟩
     case measure=>simp[intOf];omega
    ·have hm':Fd.may args n k .how xn=false:=by simpa using hm
     have HC:=Lib.hid (chkI_may (xa:=xa) (xb:=xb) (xc:=xc) (xn:=xn) (v:=⟨vk,vi,vt⟩) H2.out H3.out (mayAll_no args n k _ _ _ HF.out ⟨op,xa,xb,xc,xn,⟨vk,vi,vt⟩⟩ hm'))
     clear hm HST
     go_quiet ((first|(exact quiet_me (fieldN_any _ _))|(exact quiet_me (may_any .how _ _ k pb nm args _ n c (show PB _ pb nm args (some ⟨g,o,none⟩) n c from p4) HN.out (Nat.le_of_lt HK.out)))))
     repeat' ((fail_if_success at_builtin);first|go_values|go_skip|go_guarded|go_step|go_upon|go_back)
     refine bodyPost_ret (results_tmp rfl _ _ _) rfl ⟨?_,bdrewN hb4 _⟩
     refine congrArg (fun x=>Ending.returned (.int .i64 x)) ?_
     exact HC.out.symm
   ·simp only[fnV,Fd.atF,Fd.mayF,Fd.one] at k0 k1 k2
    repeat' ((fail_if_success (with_reducible (show Code.wp _ (Code.region 10 _ _) _ _ _)));(fail_if_success at_builtin);first|go_values|go_skip|go_guarded|go_step|go_upon|go_back)
    clear k0 k1 k2
    have x4:IB (wr.alloc (.cells #[.func (.func 245) #[] #[],.func (.func 248) #[] #[],.bool false] 271)) w.heap.size ⟨op,xa,xb,xc,xn,⟨vk,vi,vt⟩⟩:=blk_alloc hIL.hx _
    have p4:PB (wr.alloc (.cells #[.func (.func 245) #[] #[],.func (.func 248) #[] #[],.bool false] 271)) pb nm args (some ⟨g,o,none⟩) n c:=blk_alloc hIL.hp _
    have y4:IB (wr.alloc (.cells #[.func (.func 245) #[] #[],.func (.func 248) #[] #[],.bool false] 271)) w2.heap.size _:=blk_alloc hIL.hy _
    have F4:=blk_new wr (.cells #[.func (.func 245) #[] #[],.func (.func 248) #[] #[],.bool false] 271)
    have H4:=Lib.hid (hIL.below.alloc hIL.below.size (.cells #[.func (.func 245) #[] #[],.func (.func 248) #[] #[],.bool false] 271))
    have HST:=fun m=>hIL.step (show w.heap.size≠w2.heap.size by omega) .many (.cells #[.func (.func 245) #[] #[],.func (.func 248) #[] #[],.bool false] 271) m (by omega) hIL.below.size
    generalize wr.alloc (.cells #[.func (.func 245) #[] #[],.func (.func 248) #[] #[],.bool false] 271)=w4 at x4 p4 y4 F4 HST H4 ⊢
    have a0:w4.cell? ⟨wr.heap.size,0,none⟩=some (.func (.func 245) #[] #[]):=blk_cell F4 0
    have a1:w4.cell? ⟨wr.heap.size,1,none⟩=some (.func (.func 248) #[] #[]):=blk_cell F4 1
    have v0:w4.cell? ⟨w.heap.size,4,none⟩=some (.int .i64 xn):=blk_cell x4 4
    have r0:w4.cell? ⟨w2.heap.size,4,none⟩=some (.int .i64 (bareI ((fds op).take j) ⟨0,xa,xb,xc,xn,⟨vk,vi,vt⟩⟩).n):=blk_cell y4 4
    have r1:w4.frozen? ⟨w2.heap.size,4,none⟩=false:=blk_free y4 4
    have hb4:Below w.heap.size w w4:=H4.out
    by_cases hm:Fd.may args n k .many xn=true
    ·have HMA:=Lib.hid (show mayAll args n k ((fds op).take (j+1)) ⟨op,xa,xb,xc,xn,⟨vk,vi,vt⟩⟩=true by rw[mayAll_snoc args n k _ _ _ HF.out,HALL.out];exact hm)
     have HS5:=fun m=>(bareI_snoc _ _ _ HF.out ⟨0,xa,xb,xc,xn,⟨vk,vi,vt⟩⟩).symm ▸ HST m
     clear HST
     go_quiet ((first|(exact quiet_me (fieldN_any _ _))|(exact quiet_me (may_any .many _ _ k pb nm args _ n c (show PB _ pb nm args (some ⟨g,o,none⟩) n c from p4) HN.out (Nat.le_of_lt HK.out)))))
     repeat' ((fail_if_success at_builtin);first|go_values|go_skip|go_guarded|go_step|go_upon|go_back)
     (refine(fieldN_any _ _).mono ?_;rintro e1 w5 ⟨rfl,rfl⟩;dsimp only)
     repeat' ((fail_if_success at_builtin);first|go_values|go_skip|go_guarded|go_step|go_upon|go_back)
     go_roundw
     case rel=>exact⟨j+1,by omega,by go_num,HMA.out,HS5 _⟩
     case measure=>simp[intOf];omega
    ·have hm':Fd.may args n k .many xn=false:=by simpa using hm
     have HC:=Lib.hid (chkI_may (xa:=xa) (xb:=xb) (xc:=xc) (xn:=xn) (v:=⟨vk,vi,vt⟩) H2.out H3.out (mayAll_no args n k _ _ _ HF.out ⟨op,xa,xb,xc,xn,⟨vk,vi,vt⟩⟩ hm'))
     clear hm HST
     go_quiet ((first|(exact quiet_me (fieldN_any _ _))|(exact quiet_me (may_any .many _ _ k pb nm args _ n c (show PB _ pb nm args (some ⟨g,o,none⟩) n c from p4) HN.out (Nat.le_of_lt HK.out)))))
     repeat' ((fail_if_success at_builtin);first|go_values|go_skip|go_guarded|go_step|go_upon|go_back)
     refine bodyPost_ret (results_tmp rfl _ _ _) rfl ⟨?_,bdrewN hb4 _⟩
     refine congrArg (fun x=>Ending.returned (.int .i64 x)) ?_
     exact HC.out.symm
   ·simp only[fnV,Fd.atF,Fd.mayF,Fd.one] at k0 k1 k2
    repeat' ((fail_if_success (with_reducible (show Code.wp _ (Code.region 10 _ _) _ _ _)));(fail_if_success at_builtin);first|go_values|go_skip|go_guarded|go_step|go_upon|go_back)
    clear k0 k1 k2
    have x4:IB (wr.alloc (.cells #[.func (.func 241) #[] #[],.func (.func 249) #[] #[],.bool false] 271)) w.heap.size ⟨op,xa,xb,xc,xn,⟨vk,vi,vt⟩⟩:=blk_alloc hIL.hx _
    have p4:PB (wr.alloc (.cells #[.func (.func 241) #[] #[],.func (.func 249) #[] #[],.bool false] 271)) pb nm args (some ⟨g,o,none⟩) n c:=blk_alloc hIL.hp _
    have y4:IB (wr.alloc (.cells #[.func (.func 241) #[] #[],.func (.func 249) #[] #[],.bool false] 271)) w2.heap.size _:=blk_alloc hIL.hy _
    have F4:=blk_new wr (.cells #[.func (.func 241) #[] #[],.func (.func 249) #[] #[],.bool false] 271)
    have H4:=Lib.hid (hIL.below.alloc hIL.below.size (.cells #[.func (.func 241) #[] #[],.func (.func 249) #[] #[],.bool false] 271))
    have HST:=fun m=>hIL.step (show w.heap.size≠w2.heap.size by omega) .skip (.cells #[.func (.func 241) #[] #[],.func (.func 249) #[] #[],.bool false] 271) m (by omega) hIL.below.size
    generalize wr.alloc (.cells #[.func (.func 241) #[] #[],.func (.func 249) #[] #[],.bool false] 271)=w4 at x4 p4 y4 F4 HST H4 ⊢
    have a0:w4.cell? ⟨wr.heap.size,0,none⟩=some (.func (.func 241) #[] #[]):=blk_cell F4 0
    have a1:w4.cell? ⟨wr.heap.size,1,none⟩=some (.func (.func 249) #[] #[]):=blk_cell F4 1
    have v0:w4.cell? ⟨w.heap.size,1,none⟩=some (.int .i64 xa):=blk_cell x4 1
    have r0:w4.cell? ⟨w2.heap.size,1,none⟩=some (.int .i64 (bareI ((fds op).take j) ⟨0,xa,xb,xc,xn,⟨vk,vi,vt⟩⟩).a):=blk_cell y4 1
    have r1:w4.frozen? ⟨w2.heap.size,1,none⟩=false:=blk_free y4 1
    have hb4:Below w.heap.size w w4:=H4.out
    by_cases hm:Fd.may args n k .skip xa=true
    ·have HMA:=Lib.hid (show mayAll args n k ((fds op).take (j+1)) ⟨op,xa,xb,xc,xn,⟨vk,vi,vt⟩⟩=true by rw[mayAll_snoc args n k _ _ _ HF.out,HALL.out];exact hm)
     have HS5:=fun m=>(bareI_snoc _ _ _ HF.out ⟨0,xa,xb,xc,xn,⟨vk,vi,vt⟩⟩).symm ▸ HST m
     clear HST
     go_quiet ((first|(exact quiet_me (fieldA_any _ _))|(exact quiet_me (may_any .skip _ _ k pb nm args _ n c (show PB _ pb nm args (some ⟨g,o,none⟩) n c from p4) HN.out (Nat.le_of_lt HK.out)))))
     repeat' ((fail_if_success at_builtin);first|go_values|go_skip|go_guarded|go_step|go_upon|go_back)
     (refine(fieldA_any _ _).mono ?_;rintro e1 w5 ⟨rfl,rfl⟩;dsimp only)
     repeat' ((fail_if_success at_builtin);first|go_values|go_skip|go_guarded|go_step|go_upon|go_back)
     go_roundw
     case rel=>exact⟨j+1,by omega,by go_num,HMA.out,HS5 _⟩
     case measure=>simp[intOf];omega
    ·have hm':Fd.may args n k .skip xa=false:=by simpa using hm
     have HC:=Lib.hid (chkI_may (xa:=xa) (xb:=xb) (xc:=xc) (xn:=xn) (v:=⟨vk,vi,vt⟩) H2.out H3.out (mayAll_no args n k _ _ _ HF.out ⟨op,xa,xb,xc,xn,⟨vk,vi,vt⟩⟩ hm'))
     clear hm HST
     go_quiet ((first|(exact quiet_me (fieldA_any _ _))|(exact quiet_me (may_any .skip _ _ k pb nm args _ n c (show PB _ pb nm args (some ⟨g,o,none⟩) n c from p4) HN.out (Nat.le_of_lt HK.out)))))
     repeat' ((fail_if_success at_builtin);first|go_values|go_skip|go_guarded|go_step|go_upon|go_back)
     refine bodyPost_ret (results_tmp rfl _ _ _) rfl ⟨?_,bdrewN hb4 _⟩
     refine congrArg (fun x=>Ending.returned (.int .i64 x)) ?_
     exact HC.out.symm
  ·obtain rfl:j=(fds op).length:=by omega
   rw[List.take_length] at hIL
   have hall:=HALL.out
   rw[List.take_length] at hall
   have hop:(bareI (fds op) ⟨0,xa,xb,xc,xn,⟨vk,vi,vt⟩⟩).op=0:=bareI_op _ _
   have hv:(bareI (fds op) ⟨0,xa,xb,xc,xn,⟨vk,vi,vt⟩⟩).v=⟨vk,vi,vt⟩:=bareI_v _ _
   have HC:=Lib.hid (chkI_end (v:=⟨vk,vi,vt⟩) H2.out H3.out hall)
   generalize bareI (fds op) ⟨0,xa,xb,xc,xn,⟨vk,vi,vt⟩⟩=y at hIL hop hv HC
   obtain⟨yo,ya,yb,yc,yn,yv⟩:=y
   dsimp only at hop hv HC
   subst hop hv
   clear hall HALL hlt hj
   have s0:wr.cell? ⟨w1.heap.size,1,none⟩=some (.bool (hasV op)):=blk_cell hIL.hs 1
   have y0:wr.cell? ⟨w2.heap.size,0,none⟩=some (.int .i64 0):=blk_cell hIL.hy 0
   have y1:wr.cell? ⟨w2.heap.size,1,none⟩=some (.int .i64 ya):=blk_cell hIL.hy 1
   have y2:wr.cell? ⟨w2.heap.size,2,none⟩=some (.int .i64 yb):=blk_cell hIL.hy 2
   have y3:wr.cell? ⟨w2.heap.size,3,none⟩=some (.int .i64 yc):=blk_cell hIL.hy 3
   have y4:wr.cell? ⟨w2.heap.size,4,none⟩=some (.int .i64 yn):=blk_cell hIL.hy 4
   have y5:wr.cell? ⟨w2.heap.size,5,none⟩=some (.int .i64 vk):=blk_cell hIL.hy 5
   have y6:wr.cell? ⟨w2.heap.size,6,none⟩=some (.int .i64 vi):=blk_cell hIL.hy 6
   have y7:wr.cell? ⟨w2.heap.size,7,none⟩=some (.string ⟨vt.toArray⟩):=blk_cell hIL.hy 7
   have hq:=neqI
   have hl:=str_list vt
   have hb:=hIL.below
   by_cases hV:hasV op=true
   ·rw[hV] at s0 HC
    have x5:wr.cell? ⟨w.heap.size,5,none⟩=some (.int .i64 vk):=blk_cell hIL.hx 5
    have x6:wr.cell? ⟨w.heap.size,6,none⟩=some (.int .i64 vi):=blk_cell hIL.hx 6
    have x7:wr.cell? ⟨w.heap.size,7,none⟩=some (.string ⟨vt.toArray⟩):=blk_cell hIL.hx 7
    have q5:=blk_free hIL.hy 5
    have q6:=blk_free hIL.hy 6
    have q7:=blk_free hIL.hy 7
    have hne:w.heap.size≠w2.heap.size:=by omega
    have hwb:w.heap.size<=w2.heap.size:=by omega
    have hb2:Below w.heap.size w (((wr.setCell ⟨w2.heap.size,5,none⟩ (.int .i64 0)).setCell ⟨w2.heap.size,6,none⟩ (.int .i64 0)).setCell ⟨w2.heap.size,7,none⟩ (.string ⟨#[]⟩)):=((hb.setCell hwb _).setCell hwb _).setCell hwb _
    by_cases hz:(ya=0/\yb=0/\yc=0/\yn=0)
    ·have HC2:=Lib.hid ((HC.out.trans (if_pos ⟨hz.1,hz.2.1,hz.2.2.1,hz.2.2.2,rfl,rfl,rfl⟩)).trans (if_pos rfl))
     obtain⟨rfl,rfl,rfl,rfl⟩:=hz
     repeat' ((fail_if_success at_builtin);first|go_values|go_skip|go_guarded|go_step|go_upon|go_back)
     (refine(check_any _ ⟨vk,vi,vt⟩).mono ?_;rintro e1 w5 ⟨rfl,hb5⟩;dsimp only)
     repeat' ((fail_if_success at_builtin);first|go_values|go_skip|go_guarded|go_step|go_upon|go_back)
     refine bodyPost_ret (results_tmp rfl _ _ _) rfl ⟨?_,hb2.trans (hb5.mono hb2.size)⟩
     refine congrArg (fun x=>Ending.returned (.int .i64 x)) ?_
     exact HC2.out.symm
    ·have HC2:=Lib.hid (HC.out.trans (if_neg (fun h=>hz ⟨h.1,h.2.1,h.2.2.1,h.2.2.2.1⟩)))
     have e:(ya==0&&yb==0&&yc==0&&yn==0)=false:=by
      rw[Bool.eq_false_iff];simp only[ne_eq,Bool.and_eq_true,beq_iff_eq];intro h;exact hz ⟨h.1.1.1,h.1.1.2,h.1.2,h.2⟩
     clear hz
     repeat' ((fail_if_success at_builtin);first|go_values|go_skip|go_guarded|go_step|go_upon|go_back)
     refine bodyPost_ret (results_tmp rfl _ _ _) rfl ⟨?_,hb2⟩
     refine congrArg (fun x=>Ending.returned (.int .i64 x)) ?_
     exact HC2.out.symm
   ·have hV':hasV op=false:=by simpa using hV
    rw[hV'] at s0 HC
    clear hV
    by_cases hz:(ya=0/\yb=0/\yc=0/\yn=0/\vk=0/\vi=0/\vt=[])
    ·have HC2:=Lib.hid (HC.out.trans (if_pos hz))
     obtain⟨rfl,rfl,rfl,rfl,rfl,rfl,rfl⟩:=hz
     repeat' ((fail_if_success at_builtin);first|go_values|go_skip|go_guarded|go_step|go_upon|go_back)
     refine bodyPost_ret (results_tmp rfl _ _ _) rfl ⟨?_,hb⟩
     refine congrArg (fun x=>Ending.returned (.int .i64 x)) ?_
     exact HC2.out.symm
    ·have HC2:=Lib.hid (HC.out.trans (if_neg hz))
     have e:(ya==0&&yb==0&&yc==0&&yn==0&&vk==0&&vi==0&&vt.isEmpty)=false:=by
      rw[Bool.eq_false_iff];simp only[ne_eq,Bool.and_eq_true,beq_iff_eq,List.isEmpty_iff];intro h;exact hz ⟨h.1.1.1.1.1.1,h.1.1.1.1.1.2,h.1.1.1.1.2,h.1.1.1.2,h.1.1.2,h.1.2,h.2⟩
     clear hz
     repeat' ((fail_if_success at_builtin);first|go_values|go_skip|go_guarded|go_step|go_upon|go_back)
     refine bodyPost_ret (results_tmp rfl _ _ _) rfl ⟨?_,hb⟩
     refine congrArg (fun x=>Ending.returned (.int .i64 x)) ?_
     exact HC2.out.symm
end Go.Proofs.YtbppnihcbcdglaaGreat
