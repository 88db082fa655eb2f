/- datum: a value is taken out of bytes. No condition. -/
import Derived.Laws.StructEq
import Derived.WalkLawsBesides
import Derived.Test.YtbppnihcbcdglaaGreatZ1
import Derived.Test.YtbppnihcbcdglaaGreatZ3
namespace Go.Proofs.YtbppnihcbcdglaaGreat
set_option maxHeartbeats 0
open Go.RowKit
set_option linter.unusedVariables false
set_option linter.unusedSimpArgs false
def V.val(v:V):Value := .agg #[.int .i64 v.k,.int .i64 v.i,.string ⟨v.t.toArray⟩]
theorem str_list(t:Bs):(⟨t.toArray⟩:ByteArray).toList=t:=by rw[ByteArray.toList_eq]
theorem str_size(t:Bs):(⟨t.toArray⟩:ByteArray).size=t.length:=by simp[ByteArray.size]
theorem neqV(w:World)(k i k' i':Int)(t t':ByteArray):(binOp .neq 177 (.agg #[.int .i64 k,.int .i64 i,.string t]) (.agg #[.int .i64 k',.int .i64 i',.string t'])).run Tryz.prog w = .ok (.bool (!(k==k'&&i==i'&&t.toList==t'.toList))) w:=by
 rw[run_neq_struct]
 simp[go_sem,Tryz.underlying177]
 by_cases h1:k=k' <;> by_cases h2:i=i' <;> by_cases h3:t.toList=t'.toList <;> simp[h1,h2,h3]
set_option maxRecDepth 20000 in
theorem check_any(w:World)(v:V):Calls Tryz.prog 171 #[v.val] w fun e' w'=>e' = .returned (.int .i64 (chkV v))/\Below w.heap.size w w':=by
 obtain⟨k,i,t⟩:=v
 have hq:=neqV
 have hl:=str_list t
 have hs:=str_size t
 unfold V.val chkV
 dsimp only
 by_cases h0:k=0
 ·subst h0
  rw[if_pos rfl]
  by_cases h1:i=0/\t=[]
  ·obtain⟨rfl,rfl⟩:=h1
   rw[if_pos ⟨rfl,rfl⟩]
   go_enter Tryz.func171,Tryz.ntmps171
   repeat' ((fail_if_success at_builtin);first|go_values|go_skip|go_guarded|go_step|go_upon|go_back)
   ((repeat' ((fail_if_success at_builtin);first|go_values|go_skip|go_guarded|go_step|go_upon|go_back));(try (refine bodyPost_ret (results_tmp rfl _ _ _) rfl ⟨rfl,by(repeat' (first|(with_reducible exact Below.refl _ _)|(with_reducible assumption)|(with_reducible refine Below.drew ?_)|(with_reducible refine bdrewN ?_ _)|(with_reducible refine Below.alloc ?_ ?_ _)|(with_reducible refine Below.setCell ?_ ?_ _)|omega|(simp;done)|(simp;omega)))⟩)))
  ·rw[if_neg h1]
   have e:(i==0&&t.isEmpty)=false:=by
    cases t <;> simp at h1 ⊢;exact h1
   clear h1
   go_enter Tryz.func171,Tryz.ntmps171
   repeat' ((fail_if_success at_builtin);first|go_values|go_skip|go_guarded|go_step|go_upon|go_back)
   ((repeat' ((fail_if_success at_builtin);first|go_values|go_skip|go_guarded|go_step|go_upon|go_back));(try (refine bodyPost_ret (results_tmp rfl _ _ _) rfl ⟨rfl,by(repeat' (first|(with_reducible exact Below.refl _ _)|(with_reducible assumption)|(with_reducible refine Below.drew ?_)|(with_reducible refine bdrewN ?_ _)|(with_reducible refine Below.alloc ?_ ?_ _)|(with_reducible refine Below.setCell ?_ ?_ _)|omega|(simp;done)|(simp;omega)))⟩)))
 ·rw[if_neg h0]
  have c0:(k==0)=false:=by simpa using h0
  by_cases h1:k=1
  ·subst h1
   rw[if_pos rfl]
   clear h0 c0
   by_cases h2:t=[]
   ·subst h2
    rw[if_pos rfl]
    go_enter Tryz.func171,Tryz.ntmps171
    repeat' ((fail_if_success at_builtin);first|go_values|go_skip|go_guarded|go_step|go_upon|go_back)
    ((repeat' ((fail_if_success at_builtin);first|go_values|go_skip|go_guarded|go_step|go_upon|go_back));(try (refine bodyPost_ret (results_tmp rfl _ _ _) rfl ⟨rfl,by(repeat' (first|(with_reducible exact Below.refl _ _)|(with_reducible assumption)|(with_reducible refine Below.drew ?_)|(with_reducible refine bdrewN ?_ _)|(with_reducible refine Below.alloc ?_ ?_ _)|(with_reducible refine Below.setCell ?_ ?_ _)|omega|(simp;done)|(simp;omega)))⟩)))
   ·rw[if_neg h2]
    have e:t.isEmpty=false:=by cases t <;> simp at h2 ⊢
    clear h2
    go_enter Tryz.func171,Tryz.ntmps171
    repeat' ((fail_if_success at_builtin);first|go_values|go_skip|go_guarded|go_step|go_upon|go_back)
    ((repeat' ((fail_if_success at_builtin);first|go_values|go_skip|go_guarded|go_step|go_upon|go_back));(try (refine bodyPost_ret (results_tmp rfl _ _ _) rfl ⟨rfl,by(repeat' (first|(with_reducible exact Below.refl _ _)|(with_reducible assumption)|(with_reducible refine Below.drew ?_)|(with_reducible refine bdrewN ?_ _)|(with_reducible refine Below.alloc ?_ ?_ _)|(with_reducible refine Below.setCell ?_ ?_ _)|omega|(simp;done)|(simp;omega)))⟩)))
  ·rw[if_neg h1]
   have c1:(k==1)=false:=by simpa using h1
   by_cases h2:k=2
   ·subst h2
    rw[if_pos rfl]
    clear h0 c0 h1 c1
    by_cases h3:i=0
    ·subst h3
     rw[if_pos rfl]
     by_cases h4:256<t.length
     ·rw[if_pos h4]
      have c4:decide ((256:Int)<(t.length:Int))=true:=by simp;omega
      have c5:(256:Int)<(t.length:Int):=by omega
      clear h4
      go_enter Tryz.func171,Tryz.ntmps171
      repeat' ((fail_if_success at_builtin);first|go_values|go_skip|go_guarded|go_step|go_upon|go_back)
      ((repeat' ((fail_if_success at_builtin);first|go_values|go_skip|go_guarded|go_step|go_upon|go_back));(try (refine bodyPost_ret (results_tmp rfl _ _ _) rfl ⟨rfl,by(repeat' (first|(with_reducible exact Below.refl _ _)|(with_reducible assumption)|(with_reducible refine Below.drew ?_)|(with_reducible refine bdrewN ?_ _)|(with_reducible refine Below.alloc ?_ ?_ _)|(with_reducible refine Below.setCell ?_ ?_ _)|omega|(simp;done)|(simp;omega)))⟩)))
     ·rw[if_neg h4]
      have c4:decide ((256:Int)<(t.length:Int))=false:=by simp;omega
      have c5:(t.length:Int)<=256:=by omega
      clear h4
      go_enter Tryz.func171,Tryz.ntmps171
      repeat' ((fail_if_success at_builtin);first|go_values|go_skip|go_guarded|go_step|go_upon|go_back)
      ((repeat' ((fail_if_success at_builtin);first|go_values|go_skip|go_guarded|go_step|go_upon|go_back));(try (refine bodyPost_ret (results_tmp rfl _ _ _) rfl ⟨rfl,by(repeat' (first|(with_reducible exact Below.refl _ _)|(with_reducible assumption)|(with_reducible refine Below.drew ?_)|(with_reducible refine bdrewN ?_ _)|(with_reducible refine Below.alloc ?_ ?_ _)|(with_reducible refine Below.setCell ?_ ?_ _)|omega|(simp;done)|(simp;omega)))⟩)))
    ·rw[if_neg h3]
     have e:(i==0)=false:=by simpa using h3
     clear h3
     go_enter Tryz.func171,Tryz.ntmps171
     repeat' ((fail_if_success at_builtin);first|go_values|go_skip|go_guarded|go_step|go_upon|go_back)
     ((repeat' ((fail_if_success at_builtin);first|go_values|go_skip|go_guarded|go_step|go_upon|go_back));(try (refine bodyPost_ret (results_tmp rfl _ _ _) rfl ⟨rfl,by(repeat' (first|(with_reducible exact Below.refl _ _)|(with_reducible assumption)|(with_reducible refine Below.drew ?_)|(with_reducible refine bdrewN ?_ _)|(with_reducible refine Below.alloc ?_ ?_ _)|(with_reducible refine Below.setCell ?_ ?_ _)|omega|(simp;done)|(simp;omega)))⟩)))
   ·rw[if_neg h2]
    have c2:(k==2)=false:=by simpa using h2
    clear h0 h1 h2
    go_enter Tryz.func171,Tryz.ntmps171
    repeat' ((fail_if_success at_builtin);first|go_values|go_skip|go_guarded|go_step|go_upon|go_back)
    ((repeat' ((fail_if_success at_builtin);first|go_values|go_skip|go_guarded|go_step|go_upon|go_back));(try (refine bodyPost_ret (results_tmp rfl _ _ _) rfl ⟨rfl,by(repeat' (first|(with_reducible exact Below.refl _ _)|(with_reducible assumption)|(with_reducible refine Below.drew ?_)|(with_reducible refine bdrewN ?_ _)|(with_reducible refine Below.alloc ?_ ?_ _)|(with_reducible refine Below.setCell ?_ ?_ _)|omega|(simp;done)|(simp;omega)))⟩)))
theorem Rd.pure{w w':World}{b:Nat}{r:RS}(h:Rd w b r)(hb:Below w.heap.size w w'):Rd w' b r:=by
 obtain⟨a,c,h1,h2,h3,h4,h5⟩:=h
 exact⟨a,c,blk_below hb h1 (blk_lt h1),h2.below hb,h3,h4,h5.below hb⟩
theorem Rd.alloc{w:World}{b:Nat}{r:RS}(h:Rd w b r)(o:Obj):Rd (w.alloc o) b r:=h.pure ((Below.refl _ _).alloc (Nat.le_refl _) _)
theorem Rd.setO{w:World}{b:Nat}{r:RS}(h:Rd w b r){k:Nat}{cs:Array Value}{t:TypeId}{f:Nat×Nat}(hk:w.heap[k]? = some (.cells cs t f))(hn:∀ v,v∈cs.toList->∀ u,v≠B u)(hne:b≠k)(i:Nat)(u:Value):Rd (w.setCell ⟨k,i,none⟩ u) b r:=by
 obtain⟨a,c,h1,h2,h3,h4,h5⟩:=h
 exact⟨a,c,blk_set_other h1 hne _ _,h2.set hk hn _ _,h3,h4,h5.set _ _ _⟩
theorem Fr.toBelow{w w':World}{b n0:Nat}(h:Fr w w' (fun k=>k=b))(hb:n0<=b)(hn:n0<=w.heap.size):Below n0 w w':=Fr.below h hn (fun k _ e=>e ▸ hb)
theorem byte_lt(u:UInt8):u.toNat<256:=u.toNat_lt
theorem RS.byte_keeps(r:RS):r.byte.2.d=r.d:=by
 unfold RS.byte
 split
 ·rfl
 ·split <;> rfl
def VB(w:World)(g:Nat)(v:V):Prop:=w.heap[g]? = some (.cells #[.int .i64 v.k,.int .i64 v.i,.string ⟨v.t.toArray⟩] 177 (0,0))
theorem VB.c{w:World}{g:Nat}{v:V}(h:VB w g v):w.cell? ⟨g,0,none⟩=some (.int .i64 v.k)/\w.cell? ⟨g,1,none⟩=some (.int .i64 v.i)/\w.cell? ⟨g,2,none⟩=some (.string ⟨v.t.toArray⟩)/\w.frozen? ⟨g,0,none⟩=false/\w.frozen? ⟨g,1,none⟩=false/\w.frozen? ⟨g,2,none⟩=false:=blk3 h
theorem VB.noB(v:V):∀ x,x∈(#[.int .i64 v.k,.int .i64 v.i,.string ⟨v.t.toArray⟩]:Array Value).toList->∀ u,x≠B u:=by simp[B]
theorem VB.put{w:World}{g:Nat}{v:V}(h:VB w g v)(k i:Int)(s:Bs):VB (((w.setCell ⟨g,0,none⟩ (.int .i64 k)).setCell ⟨g,1,none⟩ (.int .i64 i)).setCell ⟨g,2,none⟩ (.string ⟨s.toArray⟩)) g ⟨k,i,s⟩ :=
 blk_set (blk_set (blk_set h 0 _) 1 _) 2 _
set_option maxRecDepth 20000 in
theorem decV_stop(w:World)(a:Option Addr)(c:Nat)(xs:Bs)(hx:BS w a c xs)(hl:xs.length<=17592186044416)(k:UInt8)(r:RS)(he:RS.byte ⟨xs,0,0⟩=(k,r))(hr:r.e≠0) :
  Calls Tryz.prog 192 #[.slice a xs.length c] w fun e' w'=>e' = .returned (.tuple #[V.nil.val,.int .i64 r.e])/\Below w.heap.size w w':=by
 have HL:=Lib.hid hl
 have HE:=Lib.hid he
 clear hl he
 have hx0:=hx.below ((Below.refl _ w).alloc (Nat.le_refl _) (.cells #[.int .i64 0,.int .i64 0,.string ⟨#[]⟩] 177))
 have q0:VB (w.alloc (.cells #[.int .i64 0,.int .i64 0,.string ⟨#[]⟩] 177)) w.heap.size V.nil:=blk_new _ _
 go_enter Tryz.func192,Tryz.ntmps192
 repeat' ((fail_if_success at_builtin);first|go_values|go_skip|go_guarded|go_step|go_upon|go_back)
 (refine(read_any _ a c xs hx0 HL.out).mono ?_;rintro e1 w1 ⟨b,rfl,hbs,hR,hB1⟩;dsimp only;(repeat' ((fail_if_success at_builtin);first|go_values|go_skip|go_guarded|go_step|go_upon|go_back)))
 have q1:VB w1 w.heap.size V.nil:=blk_below hB1 q0 (blk_lt q0)
 have hb0:Below w.heap.size w w1:=((Below.refl _ w).alloc (Nat.le_refl _) _).trans (hB1.mono (by simp))
 have hbn:w.heap.size<b:=by simp at hbs;omega
 clear hx0 q0 hbs hB1
 (refine(byte_any w1 b _ hR).mono ?_;rintro e1 w2 ⟨rfl,hR2,hF2⟩;dsimp only)
 rw[HE.out] at hR2 ⊢
 dsimp only at hR2 ⊢
 have q2:VB w2 w.heap.size V.nil:=Fr.blk hF2 q1 (by omega)
 have hb2:=hb0.trans (hF2.toBelow (n0:=w.heap.size) (by omega) hb0.size)
 clear q1 hb0 hF2
 have hsz2:=hb2.size
 have hk:(k.toNat:Int)<256:=by have:=byte_lt k;omega
 repeat' ((fail_if_success at_builtin);first|go_values|go_skip|go_guarded|go_step|go_upon|go_back)
 have g2:VB (w2.alloc (.cells #[.int .i64 (k.toNat:Int),.int .i64 0,.string ⟨#[]⟩] 177)) w2.heap.size ⟨k.toNat,0,[]⟩:=blk_new _ _
 have hR3:=hR2.alloc (.cells #[.int .i64 (k.toNat:Int),.int .i64 0,.string ⟨#[]⟩] 177)
 have q3:VB (w2.alloc (.cells #[.int .i64 (k.toNat:Int),.int .i64 0,.string ⟨#[]⟩] 177)) w.heap.size V.nil:=blk_alloc q2 _
 have hb3:=hb2.alloc hsz2 (.cells #[.int .i64 (k.toNat:Int),.int .i64 0,.string ⟨#[]⟩] 177)
 have hlt2:=blk_lt q2
 clear q2 hb2
 generalize w2.alloc (.cells #[.int .i64 (k.toNat:Int),.int .i64 0,.string ⟨#[]⟩] 177)=w3 at g2 hR3 q3 hb3 ⊢
 (refine(err_yes _ b _ hR3 hr).mono ?_;rintro e1 w4 ⟨rfl,n,rfl⟩;dsimp only)
 obtain⟨x0,x1,x2,y0,y1,y2⟩:=q3.c
 repeat' ((fail_if_success at_builtin);first|go_values|go_skip|go_guarded|go_step|go_upon|go_back)
 have hv:=VB.put (w:=w3.drewN n) q3 0 0 []
 clear x0 x1 x2 y0 y1 y2
 (obtain⟨z0,z1,z2,-⟩:=(hv).c;exact bodyPost_ret (v := .tuple #[V.nil.val,.int .i64 (r.e)]) (by simp[results,Tryz.results192,go_sem,z0,z1,z2,V.val,V.nil]) rfl ⟨rfl,by(repeat' (first|(with_reducible exact Below.refl _ _)|(with_reducible assumption)|(with_reducible refine Below.drew ?_)|(with_reducible refine bdrewN ?_ _)|(with_reducible refine Below.alloc ?_ ?_ _)|(with_reducible refine Below.setCell ?_ ?_ _)|omega|(simp;done)|(simp;omega)))⟩)
set_option maxRecDepth 20000 in
theorem decV_0(w:World)(a:Option Addr)(c:Nat)(xs:Bs)(hx:BS w a c xs)(hl:xs.length<=17592186044416)(k:UInt8)(r:RS)(he:RS.byte ⟨xs,0,0⟩=(k,r))(hr:r.e=0)(h0:k.toNat=0) :
  Calls Tryz.prog 192 #[.slice a xs.length c] w fun e' w'=>e' = .returned (.tuple #[V.nil.val,.int .i64 r.end_])/\Below w.heap.size w w':=by
 have HL:=Lib.hid hl
 have HE:=Lib.hid he
 clear hl he
 have hx0:=hx.below ((Below.refl _ w).alloc (Nat.le_refl _) (.cells #[.int .i64 0,.int .i64 0,.string ⟨#[]⟩] 177))
 have q0:VB (w.alloc (.cells #[.int .i64 0,.int .i64 0,.string ⟨#[]⟩] 177)) w.heap.size V.nil:=blk_new _ _
 have H0:=Lib.hid h0
 clear h0
 go_enter Tryz.func192,Tryz.ntmps192
 repeat' ((fail_if_success at_builtin);first|go_values|go_skip|go_guarded|go_step|go_upon|go_back)
 (refine(read_any _ a c xs hx0 HL.out).mono ?_;rintro e1 w1 ⟨b,rfl,hbs,hR,hB1⟩;dsimp only;(repeat' ((fail_if_success at_builtin);first|go_values|go_skip|go_guarded|go_step|go_upon|go_back)))
 have q1:VB w1 w.heap.size V.nil:=blk_below hB1 q0 (blk_lt q0)
 have hb0:Below w.heap.size w w1:=((Below.refl _ w).alloc (Nat.le_refl _) _).trans (hB1.mono (by simp))
 have hbn:w.heap.size<b:=by simp at hbs;omega
 clear hx0 q0 hbs hB1
 (refine(byte_any w1 b _ hR).mono ?_;rintro e1 w2 ⟨rfl,hR2,hF2⟩;dsimp only)
 rw[HE.out] at hR2 ⊢
 dsimp only at hR2 ⊢
 have q2:VB w2 w.heap.size V.nil:=Fr.blk hF2 q1 (by omega)
 have hb2:=hb0.trans (hF2.toBelow (n0:=w.heap.size) (by omega) hb0.size)
 clear q1 hb0 hF2
 have hsz2:=hb2.size
 have hk:(k.toNat:Int)<256:=by have:=byte_lt k;omega
 repeat' ((fail_if_success at_builtin);first|go_values|go_skip|go_guarded|go_step|go_upon|go_back)
 have g2:VB (w2.alloc (.cells #[.int .i64 (k.toNat:Int),.int .i64 0,.string ⟨#[]⟩] 177)) w2.heap.size ⟨k.toNat,0,[]⟩:=blk_new _ _
 have hR3:=hR2.alloc (.cells #[.int .i64 (k.toNat:Int),.int .i64 0,.string ⟨#[]⟩] 177)
 have q3:VB (w2.alloc (.cells #[.int .i64 (k.toNat:Int),.int .i64 0,.string ⟨#[]⟩] 177)) w.heap.size V.nil:=blk_alloc q2 _
 have hb3:=hb2.alloc hsz2 (.cells #[.int .i64 (k.toNat:Int),.int .i64 0,.string ⟨#[]⟩] 177)
 have hlt2:=blk_lt q2
 clear q2 hb2
 generalize w2.alloc (.cells #[.int .i64 (k.toNat:Int),.int .i64 0,.string ⟨#[]⟩] 177)=w3 at g2 hR3 q3 hb3 ⊢
 have g3:VB w3 w2.heap.size ⟨0,0,[]⟩:=by have:=g2;rw[H0.out] at this;exact this
 clear g2
 (refine(err_no _ b _ hR3 hr).mono ?_;rintro e1 w4 ⟨rfl,n,rfl⟩;dsimp only)
 obtain⟨x0,x1,x2,y0,y1,y2⟩:=q3.c
 obtain⟨u0,u1,u2,v0,v1,v2⟩:=g3.c
 repeat' ((fail_if_success at_builtin);first|go_values|go_skip|go_guarded|go_step|go_upon|go_back)
 (refine(end_any _ b _ (hR3.drewN n)).mono ?_;rintro e1 w5 ⟨rfl,m,rfl⟩;dsimp only)
 have hv:=VB.put (w:=w3.drewN (n+m)) q3 0 0 []
 by_cases h0:r.end_=0
 ·have e0:(r.end_ != 0)=false:=by simp[h0]
  have H1:=Lib.hid h0
  clear h0
  repeat' ((fail_if_success at_builtin);first|go_values|go_skip|go_guarded|go_step|go_upon|go_back)
  clear x0 x1 x2 y0 y1 y2 u0 u1 u2 v0 v1 v2 e0
  rw[H1.out]
  (obtain⟨z0,z1,z2,-⟩:=(hv).c;exact bodyPost_ret (v := .tuple #[V.nil.val,.int .i64 (0)]) (by simp[results,Tryz.results192,go_sem,z0,z1,z2,V.val,V.nil]) rfl ⟨rfl,by(repeat' (first|(with_reducible exact Below.refl _ _)|(with_reducible assumption)|(with_reducible refine Below.drew ?_)|(with_reducible refine bdrewN ?_ _)|(with_reducible refine Below.alloc ?_ ?_ _)|(with_reducible refine Below.setCell ?_ ?_ _)|omega|(simp;done)|(simp;omega)))⟩)
 ·have e0:(r.end_ != 0)=true:=by simpa using h0
  have H1:=Lib.hid h0
  clear h0
  repeat' ((fail_if_success at_builtin);first|go_values|go_skip|go_guarded|go_step|go_upon|go_back)
  clear x0 x1 x2 y0 y1 y2 u0 u1 u2 v0 v1 v2 e0
  (obtain⟨z0,z1,z2,-⟩:=(hv).c;exact bodyPost_ret (v := .tuple #[V.nil.val,.int .i64 (r.end_)]) (by simp[results,Tryz.results192,go_sem,z0,z1,z2,V.val,V.nil]) rfl ⟨rfl,by(repeat' (first|(with_reducible exact Below.refl _ _)|(with_reducible assumption)|(with_reducible refine Below.drew ?_)|(with_reducible refine bdrewN ?_ _)|(with_reducible refine Below.alloc ?_ ?_ _)|(with_reducible refine Below.setCell ?_ ?_ _)|omega|(simp;done)|(simp;omega)))⟩)
set_option maxRecDepth 20000 in
theorem decV_1(w:World)(a:Option Addr)(c:Nat)(xs:Bs)(hx:BS w a c xs)(hl:xs.length<=17592186044416)(k:UInt8)(r:RS)(he:RS.byte ⟨xs,0,0⟩=(k,r))(hr:r.e=0)(y:Int)(r':RS)(hi:r.int=(y,r'))(h0:k.toNat=1) :
  Calls Tryz.prog 192 #[.slice a xs.length c] w fun e' w'=>e' = .returned (.tuple #[(if r'.end_=0 then V.val ⟨1,y,[]⟩ else V.nil.val),.int .i64 r'.end_])/\Below w.heap.size w w':=by
 have HI:=Lib.hid hi
 clear hi
 have HL:=Lib.hid hl
 have HE:=Lib.hid he
 clear hl he
 have hx0:=hx.below ((Below.refl _ w).alloc (Nat.le_refl _) (.cells #[.int .i64 0,.int .i64 0,.string ⟨#[]⟩] 177))
 have q0:VB (w.alloc (.cells #[.int .i64 0,.int .i64 0,.string ⟨#[]⟩] 177)) w.heap.size V.nil:=blk_new _ _
 have H0:=Lib.hid h0
 clear h0
 go_enter Tryz.func192,Tryz.ntmps192
 repeat' ((fail_if_success at_builtin);first|go_values|go_skip|go_guarded|go_step|go_upon|go_back)
 (refine(read_any _ a c xs hx0 HL.out).mono ?_;rintro e1 w1 ⟨b,rfl,hbs,hR,hB1⟩;dsimp only;(repeat' ((fail_if_success at_builtin);first|go_values|go_skip|go_guarded|go_step|go_upon|go_back)))
 have q1:VB w1 w.heap.size V.nil:=blk_below hB1 q0 (blk_lt q0)
 have hb0:Below w.heap.size w w1:=((Below.refl _ w).alloc (Nat.le_refl _) _).trans (hB1.mono (by simp))
 have hbn:w.heap.size<b:=by simp at hbs;omega
 clear hx0 q0 hbs hB1
 (refine(byte_any w1 b _ hR).mono ?_;rintro e1 w2 ⟨rfl,hR2,hF2⟩;dsimp only)
 rw[HE.out] at hR2 ⊢
 dsimp only at hR2 ⊢
 have q2:VB w2 w.heap.size V.nil:=Fr.blk hF2 q1 (by omega)
 have hb2:=hb0.trans (hF2.toBelow (n0:=w.heap.size) (by omega) hb0.size)
 clear q1 hb0 hF2
 have hsz2:=hb2.size
 have hk:(k.toNat:Int)<256:=by have:=byte_lt k;omega
 repeat' ((fail_if_success at_builtin);first|go_values|go_skip|go_guarded|go_step|go_upon|go_back)
 have g2:VB (w2.alloc (.cells #[.int .i64 (k.toNat:Int),.int .i64 0,.string ⟨#[]⟩] 177)) w2.heap.size ⟨k.toNat,0,[]⟩:=blk_new _ _
 have hR3:=hR2.alloc (.cells #[.int .i64 (k.toNat:Int),.int .i64 0,.string ⟨#[]⟩] 177)
 have q3:VB (w2.alloc (.cells #[.int .i64 (k.toNat:Int),.int .i64 0,.string ⟨#[]⟩] 177)) w.heap.size V.nil:=blk_alloc q2 _
 have hb3:=hb2.alloc hsz2 (.cells #[.int .i64 (k.toNat:Int),.int .i64 0,.string ⟨#[]⟩] 177)
 have hlt2:=blk_lt q2
 clear q2 hb2
 generalize w2.alloc (.cells #[.int .i64 (k.toNat:Int),.int .i64 0,.string ⟨#[]⟩] 177)=w3 at g2 hR3 q3 hb3 ⊢
 have g3:VB w3 w2.heap.size ⟨1,0,[]⟩:=by have:=g2;rw[H0.out] at this;exact this
 clear g2
 (refine(err_no _ b _ hR3 hr).mono ?_;rintro e1 w4 ⟨rfl,n,rfl⟩;dsimp only)
 obtain⟨u0,u1,u2,v0,v1,v2⟩:=g3.c
 repeat' ((fail_if_success at_builtin);first|go_values|go_skip|go_guarded|go_step|go_upon|go_back)
 have hbl:=hR2.lt
 (refine(int_any _ b _ (hR3.drewN n)).mono ?_;rintro e1 w4 ⟨rfl,hR4,hF4⟩;dsimp only)
 rw[HI.out] at hR4 ⊢
 dsimp only at hR4 ⊢
 have g4:VB w4 w2.heap.size ⟨1,0,[]⟩:=Fr.blk hF4 (show (w3.drewN n).heap[_]? = _ from g3) (by omega)
 have q4:VB w4 w.heap.size V.nil:=Fr.blk hF4 (show (w3.drewN n).heap[_]? = _ from q3) (by omega)
 have hb4:Below w.heap.size w w4:=(show Below w.heap.size w (w3.drewN n) from bdrewN hb3 n).trans (hF4.toBelow (n0:=w.heap.size) (by omega) (by have:=blk_lt q3;exact Nat.le_of_lt this))
 clear hb3 hR3 g3 q3 hF4 u0 u1 u2 v0 v1 v2
 obtain⟨u0,u1,u2,v0,v1,v2⟩:=g4.c
 repeat' ((fail_if_success at_builtin);first|go_values|go_skip|go_guarded|go_step|go_upon|go_back)
 have hR5:=hR4.setO g4 (VB.noB _) (by omega:b≠w2.heap.size) 1 (.int .i64 y)
 have g5:VB (w4.setCell ⟨w2.heap.size,1,none⟩ (.int .i64 y)) w2.heap.size ⟨1,y,[]⟩:=blk_set g4 1 _
 have q5:VB (w4.setCell ⟨w2.heap.size,1,none⟩ (.int .i64 y)) w.heap.size V.nil:=blk_set_other q4 (by omega) 1 _
 have hb5:Below w.heap.size w (w4.setCell ⟨w2.heap.size,1,none⟩ (.int .i64 y)):=hb4.setCell (by exact Nat.le_of_lt hlt2) _
 clear u0 u1 u2 v0 v1 v2 hR4 g4 q4 hb4
 generalize w4.setCell ⟨w2.heap.size,1,none⟩ (.int .i64 y)=w5 at hR5 g5 q5 hb5 ⊢
 (refine(end_any _ b _ hR5).mono ?_;rintro e1 w6 ⟨rfl,m,rfl⟩;dsimp only)
 obtain⟨x0,x1,x2,y0,y1,y2⟩:=q5.c
 obtain⟨u0,u1,u2,v0,v1,v2⟩:=g5.c
 by_cases h0:r'.end_=0
 ·have e0:(r'.end_ != 0)=false:=by simp[h0]
  have H1:=Lib.hid h0
  clear h0
  repeat' ((fail_if_success at_builtin);first|go_values|go_skip|go_guarded|go_step|go_upon|go_back)
  have hv:=VB.put (w:=w5.drewN m) q5 1 y []
  clear x0 x1 x2 y0 y1 y2 u0 u1 u2 v0 v1 v2 e0
  rw[if_pos H1.out,H1.out]
  (obtain⟨z0,z1,z2,-⟩:=(hv).c;exact bodyPost_ret (v := .tuple #[V.val ⟨1,y,[]⟩,.int .i64 (0)]) (by simp[results,Tryz.results192,go_sem,z0,z1,z2,V.val,V.nil]) rfl ⟨rfl,by(repeat' (first|(with_reducible exact Below.refl _ _)|(with_reducible assumption)|(with_reducible refine Below.drew ?_)|(with_reducible refine bdrewN ?_ _)|(with_reducible refine Below.alloc ?_ ?_ _)|(with_reducible refine Below.setCell ?_ ?_ _)|omega|(simp;done)|(simp;omega)))⟩)
 ·have e0:(r'.end_ != 0)=true:=by simpa using h0
  have H1:=Lib.hid h0
  clear h0
  repeat' ((fail_if_success at_builtin);first|go_values|go_skip|go_guarded|go_step|go_upon|go_back)
  have hv:=VB.put (w:=w5.drewN m) q5 0 0 []
  clear x0 x1 x2 y0 y1 y2 u0 u1 u2 v0 v1 v2 e0
  rw[if_neg H1.out]
  (obtain⟨z0,z1,z2,-⟩:=(hv).c;exact bodyPost_ret (v := .tuple #[V.nil.val,.int .i64 (r'.end_)]) (by simp[results,Tryz.results192,go_sem,z0,z1,z2,V.val,V.nil]) rfl ⟨rfl,by(repeat' (first|(with_reducible exact Below.refl _ _)|(with_reducible assumption)|(with_reducible refine Below.drew ?_)|(with_reducible refine bdrewN ?_ _)|(with_reducible refine Below.alloc ?_ ?_ _)|(with_reducible refine Below.setCell ?_ ?_ _)|omega|(simp;done)|(simp;omega)))⟩)
set_option maxRecDepth 20000 in
theorem decV_2(w:World)(a:Option Addr)(c:Nat)(xs:Bs)(hx:BS w a c xs)(hl:xs.length<=17592186044416)(k:UInt8)(r:RS)(he:RS.byte ⟨xs,0,0⟩=(k,r))(hr:r.e=0)(y:Bs)(r':RS)(hi:(r.text 256)=(y,r'))(h0:k.toNat=2) :
  Calls Tryz.prog 192 #[.slice a xs.length c] w fun e' w'=>e' = .returned (.tuple #[(if r'.end_=0 then V.val ⟨2,0,y⟩ else V.nil.val),.int .i64 r'.end_])/\Below w.heap.size w w':=by
 have HI:=Lib.hid hi
 clear hi
 have HL:=Lib.hid hl
 have HE:=Lib.hid he
 clear hl he
 have hx0:=hx.below ((Below.refl _ w).alloc (Nat.le_refl _) (.cells #[.int .i64 0,.int .i64 0,.string ⟨#[]⟩] 177))
 have q0:VB (w.alloc (.cells #[.int .i64 0,.int .i64 0,.string ⟨#[]⟩] 177)) w.heap.size V.nil:=blk_new _ _
 have H0:=Lib.hid h0
 clear h0
 go_enter Tryz.func192,Tryz.ntmps192
 repeat' ((fail_if_success at_builtin);first|go_values|go_skip|go_guarded|go_step|go_upon|go_back)
 (refine(read_any _ a c xs hx0 HL.out).mono ?_;rintro e1 w1 ⟨b,rfl,hbs,hR,hB1⟩;dsimp only;(repeat' ((fail_if_success at_builtin);first|go_values|go_skip|go_guarded|go_step|go_upon|go_back)))
 have q1:VB w1 w.heap.size V.nil:=blk_below hB1 q0 (blk_lt q0)
 have hb0:Below w.heap.size w w1:=((Below.refl _ w).alloc (Nat.le_refl _) _).trans (hB1.mono (by simp))
 have hbn:w.heap.size<b:=by simp at hbs;omega
 clear hx0 q0 hbs hB1
 (refine(byte_any w1 b _ hR).mono ?_;rintro e1 w2 ⟨rfl,hR2,hF2⟩;dsimp only)
 rw[HE.out] at hR2 ⊢
 dsimp only at hR2 ⊢
 have q2:VB w2 w.heap.size V.nil:=Fr.blk hF2 q1 (by omega)
 have hb2:=hb0.trans (hF2.toBelow (n0:=w.heap.size) (by omega) hb0.size)
 clear q1 hb0 hF2
 have hsz2:=hb2.size
 have hk:(k.toNat:Int)<256:=by have:=byte_lt k;omega
 repeat' ((fail_if_success at_builtin);first|go_values|go_skip|go_guarded|go_step|go_upon|go_back)
 have g2:VB (w2.alloc (.cells #[.int .i64 (k.toNat:Int),.int .i64 0,.string ⟨#[]⟩] 177)) w2.heap.size ⟨k.toNat,0,[]⟩:=blk_new _ _
 have hR3:=hR2.alloc (.cells #[.int .i64 (k.toNat:Int),.int .i64 0,.string ⟨#[]⟩] 177)
 have q3:VB (w2.alloc (.cells #[.int .i64 (k.toNat:Int),.int .i64 0,.string ⟨#[]⟩] 177)) w.heap.size V.nil:=blk_alloc q2 _
 have hb3:=hb2.alloc hsz2 (.cells #[.int .i64 (k.toNat:Int),.int .i64 0,.string ⟨#[]⟩] 177)
 have hlt2:=blk_lt q2
 clear q2 hb2
 generalize w2.alloc (.cells #[.int .i64 (k.toNat:Int),.int .i64 0,.string ⟨#[]⟩] 177)=w3 at g2 hR3 q3 hb3 ⊢
 have g3:VB w3 w2.heap.size ⟨2,0,[]⟩:=by have:=g2;rw[H0.out] at this;exact this
 clear g2
 (refine(err_no _ b _ hR3 hr).mono ?_;rintro e1 w4 ⟨rfl,n,rfl⟩;dsimp only)
 obtain⟨u0,u1,u2,v0,v1,v2⟩:=g3.c
 repeat' ((fail_if_success at_builtin);first|go_values|go_skip|go_guarded|go_step|go_upon|go_back)
 have hbl:=hR2.lt
 (refine(text_any _ b _ (hR3.drewN n) 256 (by decide)).mono ?_;rintro e1 w4 ⟨rfl,hR4,hF4⟩;dsimp only)
 rw[HI.out] at hR4 ⊢
 dsimp only at hR4 ⊢
 have g4:VB w4 w2.heap.size ⟨2,0,[]⟩:=Fr.blk hF4 (show (w3.drewN n).heap[_]? = _ from g3) (by omega)
 have q4:VB w4 w.heap.size V.nil:=Fr.blk hF4 (show (w3.drewN n).heap[_]? = _ from q3) (by omega)
 have hb4:Below w.heap.size w w4:=(show Below w.heap.size w (w3.drewN n) from bdrewN hb3 n).trans (hF4.toBelow (n0:=w.heap.size) (by omega) (by have:=blk_lt q3;exact Nat.le_of_lt this))
 clear hb3 hR3 g3 q3 hF4 u0 u1 u2 v0 v1 v2
 obtain⟨u0,u1,u2,v0,v1,v2⟩:=g4.c
 repeat' ((fail_if_success at_builtin);first|go_values|go_skip|go_guarded|go_step|go_upon|go_back)
 have hR5:=hR4.setO g4 (VB.noB _) (by omega:b≠w2.heap.size) 2 (.string ⟨y.toArray⟩)
 have g5:VB (w4.setCell ⟨w2.heap.size,2,none⟩ (.string ⟨y.toArray⟩)) w2.heap.size ⟨2,0,y⟩:=blk_set g4 2 _
 have q5:VB (w4.setCell ⟨w2.heap.size,2,none⟩ (.string ⟨y.toArray⟩)) w.heap.size V.nil:=blk_set_other q4 (by omega) 2 _
 have hb5:Below w.heap.size w (w4.setCell ⟨w2.heap.size,2,none⟩ (.string ⟨y.toArray⟩)):=hb4.setCell (by exact Nat.le_of_lt hlt2) _
 clear u0 u1 u2 v0 v1 v2 hR4 g4 q4 hb4
 generalize w4.setCell ⟨w2.heap.size,2,none⟩ (.string ⟨y.toArray⟩)=w5 at hR5 g5 q5 hb5 ⊢
 (refine(end_any _ b _ hR5).mono ?_;rintro e1 w6 ⟨rfl,m,rfl⟩;dsimp only)
 obtain⟨x0,x1,x2,y0,y1,y2⟩:=q5.c
 obtain⟨u0,u1,u2,v0,v1,v2⟩:=g5.c
 by_cases h0:r'.end_=0
 ·have e0:(r'.end_ != 0)=false:=by simp[h0]
  have H1:=Lib.hid h0
  clear h0
  repeat' ((fail_if_success at_builtin);first|go_values|go_skip|go_guarded|go_step|go_upon|go_back)
  have hv:=VB.put (w:=w5.drewN m) q5 2 0 y
  clear x0 x1 x2 y0 y1 y2 u0 u1 u2 v0 v1 v2 e0
  rw[if_pos H1.out,H1.out]
  (obtain⟨z0,z1,z2,-⟩:=(hv).c;exact bodyPost_ret (v := .tuple #[V.val ⟨2,0,y⟩,.int .i64 (0)]) (by simp[results,Tryz.results192,go_sem,z0,z1,z2,V.val,V.nil]) rfl ⟨rfl,by(repeat' (first|(with_reducible exact Below.refl _ _)|(with_reducible assumption)|(with_reducible refine Below.drew ?_)|(with_reducible refine bdrewN ?_ _)|(with_reducible refine Below.alloc ?_ ?_ _)|(with_reducible refine Below.setCell ?_ ?_ _)|omega|(simp;done)|(simp;omega)))⟩)
 ·have e0:(r'.end_ != 0)=true:=by simpa using h0
  have H1:=Lib.hid h0
  clear h0
  repeat' ((fail_if_success at_builtin);first|go_values|go_skip|go_guarded|go_step|go_upon|go_back)
  have hv:=VB.put (w:=w5.drewN m) q5 0 0 []
  clear x0 x1 x2 y0 y1 y2 u0 u1 u2 v0 v1 v2 e0
  rw[if_neg H1.out]
  (obtain⟨z0,z1,z2,-⟩:=(hv).c;exact bodyPost_ret (v := .tuple #[V.nil.val,.int .i64 (r'.end_)]) (by simp[results,Tryz.results192,go_sem,z0,z1,z2,V.val,V.nil]) rfl ⟨rfl,by(repeat' (first|(with_reducible exact Below.refl _ _)|(with_reducible assumption)|(with_reducible refine Below.drew ?_)|(with_reducible refine bdrewN ?_ _)|(with_reducible refine Below.alloc ?_ ?_ _)|(with_reducible refine Below.setCell ?_ ?_ _)|omega|(simp;done)|(simp;omega)))⟩)
set_option maxRecDepth 20000 in
theorem decV_x(w:World)(a:Option Addr)(c:Nat)(xs:Bs)(hx:BS w a c xs)(hl:xs.length<=17592186044416)(k:UInt8)(r:RS)(he:RS.byte ⟨xs,0,0⟩=(k,r))(hr:r.e=0)(h0:2<k.toNat) :
  Calls Tryz.prog 192 #[.slice a xs.length c] w fun e' w'=>e' = .returned (.tuple #[V.nil.val,.int .i64 3])/\Below w.heap.size w w':=by
 have HL:=Lib.hid hl
 have HE:=Lib.hid he
 clear hl he
 have hx0:=hx.below ((Below.refl _ w).alloc (Nat.le_refl _) (.cells #[.int .i64 0,.int .i64 0,.string ⟨#[]⟩] 177))
 have q0:VB (w.alloc (.cells #[.int .i64 0,.int .i64 0,.string ⟨#[]⟩] 177)) w.heap.size V.nil:=blk_new _ _
 have c0:((k.toNat:Int)==0)=false:=by simp;omega
 have c1:((k.toNat:Int)==1)=false:=by simp;omega
 have c2:((k.toNat:Int)==2)=false:=by simp;omega
 clear h0
 go_enter Tryz.func192,Tryz.ntmps192
 repeat' ((fail_if_success at_builtin);first|go_values|go_skip|go_guarded|go_step|go_upon|go_back)
 (refine(read_any _ a c xs hx0 HL.out).mono ?_;rintro e1 w1 ⟨b,rfl,hbs,hR,hB1⟩;dsimp only;(repeat' ((fail_if_success at_builtin);first|go_values|go_skip|go_guarded|go_step|go_upon|go_back)))
 have q1:VB w1 w.heap.size V.nil:=blk_below hB1 q0 (blk_lt q0)
 have hb0:Below w.heap.size w w1:=((Below.refl _ w).alloc (Nat.le_refl _) _).trans (hB1.mono (by simp))
 have hbn:w.heap.size<b:=by simp at hbs;omega
 clear hx0 q0 hbs hB1
 (refine(byte_any w1 b _ hR).mono ?_;rintro e1 w2 ⟨rfl,hR2,hF2⟩;dsimp only)
 rw[HE.out] at hR2 ⊢
 dsimp only at hR2 ⊢
 have q2:VB w2 w.heap.size V.nil:=Fr.blk hF2 q1 (by omega)
 have hb2:=hb0.trans (hF2.toBelow (n0:=w.heap.size) (by omega) hb0.size)
 clear q1 hb0 hF2
 have hsz2:=hb2.size
 have hk:(k.toNat:Int)<256:=by have:=byte_lt k;omega
 repeat' ((fail_if_success at_builtin);first|go_values|go_skip|go_guarded|go_step|go_upon|go_back)
 have g2:VB (w2.alloc (.cells #[.int .i64 (k.toNat:Int),.int .i64 0,.string ⟨#[]⟩] 177)) w2.heap.size ⟨k.toNat,0,[]⟩:=blk_new _ _
 have hR3:=hR2.alloc (.cells #[.int .i64 (k.toNat:Int),.int .i64 0,.string ⟨#[]⟩] 177)
 have q3:VB (w2.alloc (.cells #[.int .i64 (k.toNat:Int),.int .i64 0,.string ⟨#[]⟩] 177)) w.heap.size V.nil:=blk_alloc q2 _
 have hb3:=hb2.alloc hsz2 (.cells #[.int .i64 (k.toNat:Int),.int .i64 0,.string ⟨#[]⟩] 177)
 have hlt2:=blk_lt q2
 clear q2 hb2
 generalize w2.alloc (.cells #[.int .i64 (k.toNat:Int),.int .i64 0,.string ⟨#[]⟩] 177)=w3 at g2 hR3 q3 hb3 ⊢
 (refine(err_no _ b _ hR3 hr).mono ?_;rintro e1 w4 ⟨rfl,n,rfl⟩;dsimp only)
 obtain⟨x0,x1,x2,y0,y1,y2⟩:=q3.c
 obtain⟨u0,u1,u2,v0,v1,v2⟩:=g2.c
 repeat' ((fail_if_success at_builtin);first|go_values|go_skip|go_guarded|go_step|go_upon|go_back)
 have hv:=VB.put (w:=w3.drewN n) q3 0 0 []
 clear x0 x1 x2 y0 y1 y2 u0 u1 u2 v0 v1 v2
 (obtain⟨z0,z1,z2,-⟩:=(hv).c;exact bodyPost_ret (v := .tuple #[V.nil.val,.int .i64 (3)]) (by simp[results,Tryz.results192,go_sem,z0,z1,z2,V.val,V.nil]) rfl ⟨rfl,by(repeat' (first|(with_reducible exact Below.refl _ _)|(with_reducible assumption)|(with_reducible refine Below.drew ?_)|(with_reducible refine bdrewN ?_ _)|(with_reducible refine Below.alloc ?_ ?_ _)|(with_reducible refine Below.setCell ?_ ?_ _)|omega|(simp;done)|(simp;omega)))⟩)
theorem decV_eq{xs:Bs}{k:UInt8}{r:RS}(he:RS.byte ⟨xs,0,0⟩=(k,r)):decV xs=(if r.e≠0 then (V.nil,r.e) else if k.toNat=0 then (if r.end_≠0 then (V.nil,r.end_) else (⟨0,0,[]⟩,0)) else if k.toNat=1 then (if r.int.2.end_≠0 then (V.nil,r.int.2.end_) else (⟨1,r.int.1,[]⟩,0)) else if k.toNat=2 then (if (r.text 256).2.end_≠0 then (V.nil,(r.text 256).2.end_) else (⟨2,0,(r.text 256).1⟩,0)) else (V.nil,3)):=by
 simp only[decV,he]
theorem decV_any(w:World)(a:Option Addr)(c:Nat)(xs:Bs)(hx:BS w a c xs)(hl:xs.length<=17592186044416) :
  Calls Tryz.prog 192 #[.slice a xs.length c] w fun e' w'=>e' = .returned (.tuple #[(decV xs).1.val,.int .i64 (decV xs).2])/\Below w.heap.size w w':=by
 rcases he:RS.byte ⟨xs,0,0⟩ with ⟨k,r⟩
 rw[decV_eq he]
 by_cases hr:r.e=0
 ·rw[if_neg (by simp[hr])]
  by_cases h0:k.toNat=0
  ·rw[if_pos h0]
   have h:=decV_0 w a c xs hx hl k r he hr h0
   by_cases h1:r.end_=0
   ·rw[if_neg (by simp[h1])];rw[h1] at h;exact h
   ·rw[if_pos h1];exact h
  ·rw[if_neg h0]
   by_cases h1:k.toNat=1
   ·rw[if_pos h1]
    have h:=decV_1 w a c xs hx hl k r he hr r.int.1 r.int.2 rfl h1
    by_cases h2:r.int.2.end_=0
    ·rw[if_neg (by simp[h2])];rw[if_pos h2,h2] at h;exact h
    ·rw[if_pos h2];rw[if_neg h2] at h;exact h
   ·rw[if_neg h1]
    by_cases h2:k.toNat=2
    ·rw[if_pos h2]
     have h:=decV_2 w a c xs hx hl k r he hr (r.text 256).1 (r.text 256).2 rfl h2
     by_cases h3:(r.text 256).2.end_=0
     ·rw[if_neg (by simp[h3])];rw[if_pos h3,h3] at h;exact h
     ·rw[if_pos h3];rw[if_neg h3] at h;exact h
    ·rw[if_neg h2]
     exact decV_x w a c xs hx hl k r he hr (by omega)
 ·rw[if_pos hr]
  exact decV_stop w a c xs hx hl k r he hr
end Go.Proofs.YtbppnihcbcdglaaGreat
