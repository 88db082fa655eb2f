/- Plain words: a manifest as bytes, and back. No program here. No condition. -/
import Derived.Below
namespace Go.Proofs.YtbppnihcbcdglaaGreat
abbrev Bs:=List UInt8
def sevens(u:Nat):Bs:=if u<128 then [UInt8.ofNat u] else UInt8.ofNat (u%128+128) :: sevens (u / 128)
termination_by u
decreasing_by omega
theorem sevens_lt{u:Nat}(h:u<128):sevens u=[UInt8.ofNat u]:=by rw[sevens];simp[h]
theorem sevens_ge{u:Nat}(h:128<=u):sevens u=UInt8.ofNat (u%128+128) :: sevens (u / 128):=by rw[sevens];simp[show ¬ u<128 by omega]
theorem sevens_len_pos(u:Nat):0<(sevens u).length:=by rw[sevens];split <;> simp
theorem sevens_len_aux(k:Nat):∀ u,u<128 ^ k->0<k->(sevens u).length<=k:=by
 induction k with
 | zero=>intro u _ h;omega
 | succ k ih =>
  intro u hu _
  by_cases h:u<128
  ·rw[sevens_lt h];simp
  ·rw[sevens_ge (by omega)]
   simp only[List.length_cons]
   have hk:0<k:=by
    rcases Nat.eq_zero_or_pos k with rfl|hk
    ·simp at hu;omega
    ·exact hk
   have:=ih (u / 128) (by rw[Nat.pow_succ] at hu;omega) hk
   omega
theorem sevens_len{u:Nat}(h:u<18446744073709551616):(sevens u).length<=10 :=
 sevens_len_aux 10 u (by have:(18446744073709551616:Nat)<=128 ^ 10:=(by decide);omega) (by omega)
def text(s:Bs):Bs:=sevens s.length++s
def lay(e:Int)(xs ys:Bs):Bs:=if e=0 then xs++ys else xs
theorem lay_0(xs ys:Bs):lay 0 xs ys=xs++ys:=by simp[lay]
theorem lay_ne{e:Int}(h:e≠0)(xs ys:Bs):lay e xs ys=xs:=by simp[lay,h]
theorem lay_len(e:Int)(xs ys:Bs):(lay e xs ys).length<=xs.length+ys.length:=by unfold lay;split <;> simp
theorem lay_lay(e:Int)(xs ys zs:Bs):lay e (lay e xs ys) zs=lay e xs (ys++zs):=by unfold lay;split <;> simp
structure RS where
 d:Bs
 i:Nat
 e:Int
def rowGo(most:Nat)(last:Nat):Bs->Nat->Nat->Int×Nat×Nat
 | [],_,_=>(2,0,0)
 | b :: t,k,acc =>
  if k=most-1/\last<b.toNat then (15,0,0) else
  if b.toNat<128 then (if 0<k/\b.toNat=0 then (3,0,0) else (0,acc+b.toNat%128*128 ^ k,k+1))
  else rowGo most last t (k+1) (acc+b.toNat%128*128 ^ k)
theorem rowGo_short{most last:Nat}{d:Bs}{j k acc:Nat}(h:d.length<=j):rowGo most last (d.drop j) k acc=(2,0,0):=by
 rw[List.drop_eq_nil_of_le h];rfl
theorem rowGo_range{most last:Nat}{d:Bs}{j k acc:Nat}(h:j<d.length)(h1:k=most-1/\last<d[j].toNat):rowGo most last (d.drop j) k acc=(15,0,0):=by
 rw[List.drop_eq_getElem_cons h];simp only[rowGo];rw[if_pos h1]
theorem rowGo_form{most last:Nat}{d:Bs}{j k acc:Nat}(h:j<d.length)(h1:¬ (k=most-1/\last<d[j].toNat))(h2:d[j].toNat<128)(h3:0<k/\d[j].toNat=0):rowGo most last (d.drop j) k acc=(3,0,0):=by
 rw[List.drop_eq_getElem_cons h];simp only[rowGo];rw[if_neg h1,if_pos h2,if_pos h3]
theorem rowGo_ok{most last:Nat}{d:Bs}{j k acc:Nat}(h:j<d.length)(h1:¬ (k=most-1/\last<d[j].toNat))(h2:d[j].toNat<128)(h3:¬ (0<k/\d[j].toNat=0)):rowGo most last (d.drop j) k acc=(0,acc+d[j].toNat%128*128 ^ k,k+1):=by
 rw[List.drop_eq_getElem_cons h];simp only[rowGo];rw[if_neg h1,if_pos h2,if_neg h3]
theorem rowGo_on{most last:Nat}{d:Bs}{j k acc:Nat}(h:j<d.length)(h1:¬ (k=most-1/\last<d[j].toNat))(h2:¬ d[j].toNat<128):rowGo most last (d.drop j) k acc=rowGo most last (d.drop (j+1)) (k+1) (acc+d[j].toNat%128*128 ^ k):=by
 rw[List.drop_eq_getElem_cons h];simp only[rowGo];rw[if_neg h1,if_neg h2]
theorem or_shift(acc x k:Nat)(h:acc<128 ^ k):acc ||| x*128 ^ k=acc+x*128 ^ k:=by
 have e:(128:Nat) ^ k=2 ^ (7*k):=by rw[Nat.pow_mul]
 rw[e] at h ⊢
 have:=Nat.two_pow_add_eq_or_of_lt h x
 rw[Nat.mul_comm x,Nat.or_comm,<-this,Nat.add_comm]
def RS.row(r:RS)(most last:Nat):Nat×RS :=
 if r.e≠0 then (0,r) else
 match rowGo most last (r.d.drop r.i) 0 0 with
 | (0,v,n)=>(v,{ r with i:=r.i+n })
 | (e,_,_)=>(0,{ r with e:=e })
theorem RS.row_ok{r:RS}{most last v n:Nat}(h:r.e=0)(hg:rowGo most last (r.d.drop r.i) 0 0=(0,v,n)):r.row most last=(v,{ r with i:=r.i+n }):=by
 unfold RS.row;rw[hg];simp[h]
theorem RS.row_err{r:RS}{most last v n:Nat}{e:Int}(h:r.e=0)(he:e≠0)(hg:rowGo most last (r.d.drop r.i) 0 0=(e,v,n)):r.row most last=(0,{ r with e:=e }):=by
 unfold RS.row;rw[hg]
 split
 ·rename_i h2;exact absurd h h2
 ·split
  ·rename_i h3;exact absurd (congrArg Prod.fst h3) he
  ·rename_i h3;simp only[Prod.mk.injEq] at h3;rw[h3.1]
theorem RS.row_stop{r:RS}{most last:Nat}(h:r.e≠0):r.row most last=(0,r):=by simp[RS.row,h]
def RS.number(r:RS):Nat×RS:=r.row 9 127
def zag(u:Nat):Int:=if u%2=0 then (u / 2:Nat) else -((u / 2:Nat):Int)-1
def RS.int(r:RS):Int×RS:=if r.e≠0 then (0,r) else let x:=r.row 10 1;if x.2.e≠0 then (0,x.2) else (zag x.1,x.2)
def RS.byte(r:RS):UInt8×RS :=
 if r.e≠0 then (0,r) else
 match r.d[r.i]? with
 | some b=>(b,{ r with i:=r.i+1 })
 | none=>(0,{ r with e:=2 })
def RS.text(r:RS)(most:Int):Bs×RS :=
 if r.e≠0 then ([],r) else
 let x:=r.number
 if x.2.e≠0 then ([],x.2) else
 if max most 0<(x.1:Int) then ([],{ r with e:=4 }) else
 if r.d.length-x.2.i<x.1 then ([],{ r with e:=2 }) else
 ((r.d.drop x.2.i).take x.1,{ x.2 with i:=x.2.i+x.1 })
def RS.end_(r:RS):Int:=if r.e=0/\r.i<r.d.length then 3 else r.e
theorem rowGo_lt(most last:Nat):∀ (l:Bs) (k acc v n:Nat),acc<128 ^ k->k<most->last<=127->rowGo most last l k acc=(0,v,n)->v<128 ^ most:=by
 intro l
 induction l with
 | nil=>intro k acc v n _ _ _ h;simp[rowGo] at h
 | cons b t ih =>
  intro k acc v n ha hk hl h
  have hn:acc+b.toNat%128*128 ^ k<128 ^ (k+1):=by
   have:b.toNat%128*128 ^ k<=127*128 ^ k:=Nat.mul_le_mul (by omega) (Nat.le_refl _)
   rw[Nat.pow_succ];omega
  have hp:(128:Nat) ^ (k+1)<=128 ^ most:=Nat.pow_le_pow_right (by omega) (by omega)
  simp only[rowGo] at h
  split at h
  ·simp at h
  ·rename_i h1
   split at h
   ·split at h
    ·simp at h
    ·simp only[Prod.mk.injEq,true_and] at h
     omega
   ·rename_i h2
    exact ih _ _ _ _ hn (by omega) hl h
theorem RS.row_lt(r:RS)(most last:Nat)(hm:0<most)(hl:last<=127):(r.row most last).1<128 ^ most:=by
 have hp:0<128 ^ most:=Nat.pow_pos (by omega)
 by_cases h0:r.e=0
 ·rcases hg:rowGo most last (r.d.drop r.i) 0 0 with ⟨e,v,n⟩
  by_cases he:e=0
  ·subst he
   rw[RS.row_ok h0 hg]
   exact rowGo_lt most last _ 0 0 v n (by simp) hm hl hg
  ·rw[RS.row_err h0 he hg];exact hp
 ·rw[RS.row_stop h0];exact hp
theorem RS.number_lt(r:RS):r.number.1<9223372036854775808:=by
 have:=r.row_lt 9 127 (by omega) (by omega)
 have e:(128:Nat) ^ 9=9223372036854775808:=by decide
 unfold RS.number
 omega
theorem rowGo_lt10:∀ (l:Bs) (k acc v n:Nat),acc<128 ^ k->k<10->rowGo 10 1 l k acc=(0,v,n)->v<18446744073709551616:=by
 intro l
 induction l with
 | nil=>intro k acc v n _ _ h;simp[rowGo] at h
 | cons b t ih =>
  intro k acc v n ha hk h
  have hn:acc+b.toNat%128*128 ^ k<128 ^ (k+1):=by
   have:b.toNat%128*128 ^ k<=127*128 ^ k:=Nat.mul_le_mul (by omega) (Nat.le_refl _)
   rw[Nat.pow_succ];omega
  simp only[rowGo] at h
  split at h
  ·simp at h
  ·rename_i h1
   split at h
   ·split at h
    ·simp at h
    ·simp only[Prod.mk.injEq,true_and] at h
     rcases Nat.lt_or_ge k 9 with h9|h9
     ·have hp:(128:Nat) ^ (k+1)<=128 ^ 9:=Nat.pow_le_pow_right (by omega) (by omega)
      have e:(128:Nat) ^ 9=9223372036854775808:=by decide
      omega
     ·obtain rfl:k=9:=by omega
      have e:(128:Nat) ^ 9=9223372036854775808:=by decide
      rw[e] at ha h
      have:b.toNat%128<=1:=by omega
      have:b.toNat%128*9223372036854775808<=1*9223372036854775808:=Nat.mul_le_mul this (Nat.le_refl _)
      omega
   ·rename_i h2
    exact ih _ _ _ _ hn (by omega) h
theorem RS.row_lt10(r:RS):(r.row 10 1).1<18446744073709551616:=by
 by_cases h0:r.e=0
 ·rcases hg:rowGo 10 1 (r.d.drop r.i) 0 0 with ⟨e,v,n⟩
  by_cases he:e=0
  ·subst he
   rw[RS.row_ok h0 hg]
   exact rowGo_lt10 _ 0 0 v n (by simp) (by omega) hg
  ·rw[RS.row_err h0 he hg];show 0<_;omega
 ·rw[RS.row_stop h0];show 0<_;omega
theorem rowGo_n(most last:Nat):∀ (l:Bs) (k acc v n:Nat),rowGo most last l k acc=(0,v,n)->n<=k+l.length:=by
 intro l
 induction l with
 | nil=>intro k acc v n h;simp[rowGo] at h
 | cons b t ih =>
  intro k acc v n h
  simp only[rowGo] at h
  simp only[List.length_cons]
  split at h
  ·simp at h
  ·split at h
   ·split at h
    ·simp at h
    ·simp only[Prod.mk.injEq,true_and] at h;omega
   ·have:=ih _ _ _ _ h;omega
theorem RS.row_keeps(r:RS)(most last:Nat)(hi:r.i<=r.d.length):(r.row most last).2.d=r.d/\r.i<=(r.row most last).2.i/\(r.row most last).2.i<=r.d.length/\((r.row most last).2.e≠0->(r.row most last).2.i=r.i):=by
 by_cases h0:r.e=0
 ·rcases hg:rowGo most last (r.d.drop r.i) 0 0 with ⟨e,v,n⟩
  by_cases he:e=0
  ·subst he
   rw[RS.row_ok h0 hg]
   have:=rowGo_n most last _ 0 0 v n hg
   simp only[List.length_drop] at this
   exact⟨rfl,by show r.i<=r.i+n;omega,by show r.i+n<=_;omega,fun h=>absurd h0 h⟩
  ·rw[RS.row_err h0 he hg];exact⟨rfl,Nat.le_refl _,hi,fun _=>rfl⟩
 ·rw[RS.row_stop h0];exact⟨rfl,Nat.le_refl _,hi,fun _=>rfl⟩
structure V where
 k:Int
 i:Int
 t:Bs
def V.nil:V:=⟨0,0,[]⟩
def chkV(v:V):Int :=
 if v.k=0 then (if v.i=0/\v.t=[] then 0 else 14)
 else if v.k=1 then (if v.t=[] then 0 else 14)
 else if v.k=2 then (if v.i=0 then (if 256<v.t.length then 4 else 0) else 14)
 else 14
def decV(b:Bs):V×Int :=
 let r:RS:=⟨b,0,0⟩
 let k:=r.byte
 if k.2.e≠0 then (V.nil,k.2.e) else
 if k.1.toNat=0 then (if k.2.end_≠0 then (V.nil,k.2.end_) else (⟨0,0,[]⟩,0)) else
 if k.1.toNat=1 then (let x:=k.2.int;if x.2.end_≠0 then (V.nil,x.2.end_) else (⟨1,x.1,[]⟩,0)) else
 if k.1.toNat=2 then (let x:=k.2.text 256;if x.2.end_≠0 then (V.nil,x.2.end_) else (⟨2,0,x.1⟩,0)) else
 (V.nil,3)
structure I where
 op:Int
 a:Int
 b:Int
 c:Int
 n:Int
 v:V
def I.nil:I:=⟨0,0,0,0,0,V.nil⟩
inductive Fd where
 | ra|rb|rc|arg|how|many|skip
def Fd.get:Fd->I->Int
 | .ra,x=>x.a | .rb,x=>x.b | .rc,x=>x.c | .arg,x=>x.n | .how,x=>x.n | .many,x=>x.n | .skip,x=>x.a
def Fd.put:Fd->I->Int->I
 | .ra,x,y=>{ x with a:=y } | .rb,x,y=>{ x with b:=y } | .rc,x,y=>{ x with c:=y }
 | .arg,x,y=>{ x with n:=y } | .how,x,y=>{ x with n:=y } | .many,x,y=>{ x with n:=y } | .skip,x,y=>{ x with a:=y }
def Fd.may(args:Int)(len place:Nat):Fd->Int->Bool
 | .ra,y=>decide (0<=y)&&decide (y<16) | .rb,y=>decide (0<=y)&&decide (y<16) | .rc,y=>decide (0<=y)&&decide (y<16)
 | .arg,y=>decide (0<=y)&&decide (y<args) | .how,y=>decide (1<=y)&&decide (y<=6) | .many,y=>decide (1<=y)&&decide (y<=64)
 | .skip,y=>decide (1<=y)&&decide (y<(len:Int)-(place:Int))
def Fd.one:Fd->Bool
 | .ra=>true | .rb=>true | .rc=>true|_=>false
def fds:Nat->List Fd
 | 1=>[.ra]|2=>[.ra,.arg]|3=>[.ra,.rb]|4=>[.ra,.rb]|5=>[.ra]
 | 6=>[.ra,.rb,.rc]|7=>[.ra,.rb,.rc]|8=>[.ra,.rb,.rc]|9=>[.ra,.rb,.rc]
 | 10=>[.rb,.rc,.how]|11=>[.skip,.rb,.rc,.how]|12=>[.ra,.rb,.rc,.many]|13=>[.ra,.rb,.rc,.many]
 | 14=>[.ra,.rb]|15=>[.ra]|_=>[]
def hasV(op:Nat):Bool:=op==1
def mayAll(args:Int)(len place:Nat)(l:List Fd)(x:I):Bool:=l.all fun f=>f.may args len place (f.get x)
def bareI(l:List Fd)(x:I):I:=l.foldl (fun y f=>f.put y 0) x
def chkI(args:Int)(len place:Nat)(x:I):Int :=
 if x.op<1\/16<x.op then 16 else
 if mayAll args len place (fds x.op.toNat) x=false then 16 else
 let y:=bareI (fds x.op.toNat) { x with op:=0,v:=if hasV x.op.toNat then V.nil else x.v }
 if y.a=0/\y.b=0/\y.c=0/\y.n=0/\y.v.k=0/\y.v.i=0/\y.v.t=[] then (if hasV x.op.toNat then chkV x.v else 0) else 16
def letterB(c:UInt8):Bool:=(decide (97<=c.toNat)&&decide (c.toNat<=122))||(decide (65<=c.toNat)&&decide (c.toNat<=90))
def nameB(c:UInt8):Bool:=letterB c||(decide (48<=c.toNat)&&decide (c.toNat<=57))||c.toNat==95||c.toNat==45||c.toNat==46
def okName(s:Bs):Bool:=match s with
 | []=>false
 | c :: _=>decide (s.length<=32)&&letterB c&&s.all nameB
structure P where
 name:Bs
 args:Int
 code:List I
def P.nil:P:=⟨[],0,[]⟩
def chkGo(args:Int)(len:Nat):List I->Nat->Int×Int
 | [],_=>(0,0)
 | x :: t,i=>if chkI args len i x≠0 then ((i:Int),chkI args len i x) else chkGo args len t (i+1)
def chkP(p:P):Int×Int :=
 if okName p.name=false then (-1,5) else
 if p.args<0\/16<p.args then (-1,1) else
 if 64<p.code.length then (-1,4) else
 chkGo p.args p.code.length p.code 0
def decF:List Fd->I->RS->I×RS×Int
 | [],x,r=>(x,r,0)
 | f :: t,x,r =>
  if f.one then (let y:=r.byte;if y.2.e≠0 then (x,y.2,y.2.e) else decF t (f.put x (y.1.toNat:Int)) y.2)
  else (let y:=r.number;if y.2.e≠0 then (x,y.2,y.2.e) else decF t (f.put x (y.1:Int)) y.2)
def decI(all:Nat)(r:RS):I×RS×Int :=
 let y:=r.byte
 if y.2.e≠0 then (I.nil,y.2,y.2.e) else
 if y.1.toNat<1\/16<y.1.toNat then (I.nil,y.2,16) else
 let z:=decF (fds y.1.toNat) { I.nil with op:=(y.1.toNat:Int) } y.2
 if z.2.2≠0 then z else
 if hasV y.1.toNat then
  (let s:=z.2.1.text (all:Int)
  if s.2.e≠0 then (z.1,s.2,s.2.e) else
  if (decV s.1).2≠0 then (z.1,s.2,(decV s.1).2) else ({ z.1 with v:=(decV s.1).1 },s.2,0))
 else z
def decIs(all:Nat):Nat->List I->RS->List I×RS×Int
 | 0,l,r=>(l,r,0)
 | n+1,l,r=>let x:=decI all r;if x.2.2≠0 then (l,x.2.1,x.2.2) else decIs all n (l++[x.1]) x.2.1
def decP(b:Bs):P×Int :=
 let r:RS:=⟨b,0,0⟩
 let s:=r.text 32
 let a:=s.2.number
 let n:=a.2.number
 if n.2.e≠0 then (P.nil,n.2.e) else
 if 64<n.1 then (P.nil,4) else
 let c:=decIs b.length n.1 [] n.2
 if c.2.2≠0 then (P.nil,c.2.2) else
 if c.2.1.end_≠0 then (P.nil,c.2.1.end_) else
 if (chkP ⟨s.1,(a.1:Int),c.1⟩).2≠0 then (P.nil,(chkP ⟨s.1,(a.1:Int),c.1⟩).2) else (⟨s.1,(a.1:Int),c.1⟩,0)
structure T where
 kind:Int
 p:P
 name:Bs
 args:List V
def T.nil:T:=⟨0,P.nil,[],[]⟩
def bareP(p:P):Bool:=p.name.isEmpty&&p.args==0&&p.code.isEmpty
def chkT0(t:T):Int :=
 if t.kind=1 then (if t.name≠[]\/t.args≠[] then 3 else (chkP t.p).2)
 else if t.kind=2 then (if bareP t.p=false then 3 else if okName t.name=false then 5 else if 16<t.args.length then 4 else 0)
 else if t.kind=3 then (if t.args≠[]\/bareP t.p=false then 3 else if okName t.name=false then 5 else 0)
 else 1
def chkVs:List V->Int
 | []=>0
 | v :: t=>if chkV v≠0 then chkV v else chkVs t
def chkT(t:T):Int:=if chkT0 t≠0 then chkT0 t else chkVs t.args
def chkTs:List T->Int
 | []=>0
 | t :: l=>if chkT t≠0 then chkT t else chkTs l
structure Bt where
 first:Int
 txns:List T
def Bt.nil:Bt:=⟨0,[]⟩
def chkB(b:Bt):Int :=
 if b.first<1\/281474976710655<b.first\/b.txns=[]\/64<b.txns.length then 1 else
 if 281474976710655<b.first+b.txns.length-1 then 23 else chkTs b.txns
def decVs(all:Nat):Nat->List V->RS->List V×RS×Int
 | 0,l,r=>(l,r,0)
 | n+1,l,r =>
  let s:=r.text (all:Int)
  if s.2.e≠0 then (l,s.2,s.2.e) else
  if (decV s.1).2≠0 then (l,s.2,(decV s.1).2) else decVs all n (l++[(decV s.1).1]) s.2
def decT(all:Nat)(r:RS):T×RS×Int :=
 let y:=r.byte
 if y.2.e≠0 then (T.nil,y.2,y.2.e) else
 if y.1.toNat=1 then
  (let s:=y.2.text (all:Int)
  if s.2.e≠0 then (T.nil,s.2,s.2.e) else
  if (decP s.1).2≠0 then (T.nil,s.2,(decP s.1).2) else (⟨1,(decP s.1).1,[],[]⟩,s.2,0)) else
 if y.1.toNat=3 then
  (let s:=y.2.text 32
  if s.2.e≠0 then (T.nil,s.2,s.2.e) else (⟨3,P.nil,s.1,[]⟩,s.2,0)) else
 if y.1.toNat=2 then
  (let s:=y.2.text 32
  let n:=s.2.number
  if n.2.e≠0 then (T.nil,n.2,n.2.e) else
  if 16<n.1 then (T.nil,n.2,4) else
  let l:=decVs all n.1 [] n.2
  if l.2.2≠0 then (T.nil,l.2.1,l.2.2) else (⟨2,P.nil,s.1,l.1⟩,l.2.1,0)) else
 (T.nil,y.2,1)
def decTs(all:Nat):Nat->List T->RS->List T×RS×Int
 | 0,l,r=>(l,r,0)
 | n+1,l,r=>let x:=decT all r;if x.2.2≠0 then (l,x.2.1,x.2.2) else decTs all n (l++[x.1]) x.2.1
def decB(b:Bs):Bt×Int :=
 if 65536<b.length then (Bt.nil,4) else
 let r:RS:=⟨b,0,0⟩
 let f:=r.number
 let n:=f.2.number
 if n.2.e≠0 then (Bt.nil,n.2.e) else
 if 64<n.1 then (Bt.nil,1) else
 let l:=decTs b.length n.1 [] n.2
 if l.2.2≠0 then (Bt.nil,l.2.2) else
 if l.2.1.end_≠0 then (Bt.nil,l.2.1.end_) else
 if chkB ⟨(f.1:Int),l.1⟩≠0 then (Bt.nil,chkB ⟨(f.1:Int),l.1⟩) else (⟨(f.1:Int),l.1⟩,0)
def poly:Nat:=2197175160
def st1(s:Nat):Nat:=if s%2=1 then s / 2 ^^^ poly else s / 2
def st4(s:Nat):Nat:=st1 (st1 (st1 (st1 s)))
def st8(s:Nat):Nat:=st4 (st4 s)
def crcGo(s:Nat)(p:Bs):Nat:=p.foldl (fun s b=>st8 (s ^^^ b.toNat)) s
def crcUp(sum:Nat)(p:Bs):Nat:=crcGo (sum ^^^ 4294967295) p ^^^ 4294967295
theorem poly_lt:poly<4294967296:=by decide
theorem st1_lt{s:Nat}(h:s<4294967296):st1 s<4294967296:=by
 unfold st1
 split
 ·exact Nat.xor_lt_two_pow (n:=32) (by omega) poly_lt
 ·omega
theorem st4_lt{s:Nat}(h:s<4294967296):st4 s<4294967296:=st1_lt (st1_lt (st1_lt (st1_lt h)))
theorem st8_lt{s:Nat}(h:s<4294967296):st8 s<4294967296:=st4_lt (st4_lt h)
theorem xor_byte_lt{s:Nat}(h:s<4294967296)(b:UInt8):s ^^^ b.toNat<4294967296:=Nat.xor_lt_two_pow (n:=32) h (by have:=b.toNat_lt;omega)
theorem crcGo_lt(p:Bs):∀ {s:Nat},s<4294967296->crcGo s p<4294967296:=by
 induction p with
 | nil=>intro s h;exact h
 | cons b t ih=>intro s h;exact ih (st8_lt (xor_byte_lt h b))
theorem crcUp_lt{s:Nat}(h:s<4294967296)(p:Bs):crcUp s p<4294967296 :=
 Nat.xor_lt_two_pow (n:=32) (crcGo_lt p (Nat.xor_lt_two_pow (n:=32) h (by decide))) (by decide)
theorem crcGo_snoc(s:Nat)(p:Bs)(b:UInt8):crcGo s (p++[b])=st8 (crcGo s p ^^^ b.toNat):=by simp[crcGo]
theorem xor_half(a b:Nat):(a ^^^ b) / 2=a / 2 ^^^ b / 2:=by
 have:=Nat.shiftRight_xor_distrib (a:=a) (b:=b) (i:=1)
 simpa [Nat.shiftRight_eq_div_pow] using this
theorem xor_odd(a b:Nat):(a ^^^ b)%2=(a%2+b%2)%2:=by
 have h:=Nat.xor_mod_two_pow (a:=a) (b:=b) (n:=1)
 rw[show (2:Nat) ^ 1=2 from rfl] at h
 rw[h]
 rcases Nat.mod_two_eq_zero_or_one a with ha|ha <;> rcases Nat.mod_two_eq_zero_or_one b with hb|hb <;> simp[ha,hb]
theorem st1_xor(a b:Nat):st1 (a ^^^ b)=st1 a ^^^ st1 b:=by
 unfold st1
 rw[xor_half,xor_odd]
 rcases Nat.mod_two_eq_zero_or_one a with ha|ha <;> rcases Nat.mod_two_eq_zero_or_one b with hb|hb <;> simp only[ha,hb] <;> simp
 ·exact Nat.xor_assoc _ _ _
 ·rw[Nat.xor_assoc,Nat.xor_assoc,Nat.xor_comm (b / 2)]
 ·rw[Nat.xor_assoc,Nat.xor_comm (b / 2),<-Nat.xor_assoc poly,Nat.xor_self,Nat.zero_xor]
theorem st4_xor(a b:Nat):st4 (a ^^^ b)=st4 a ^^^ st4 b:=by simp only[st4,st1_xor]
theorem st1_even(m:Nat):st1 (2*m)=m:=by unfold st1;rw[if_neg (by omega)];omega
theorem st4_16(q:Nat):st4 (16*q)=q:=by
 unfold st4
 rw[show 16*q=2*(2*(2*(2*q))) by omega,st1_even,st1_even,st1_even,st1_even]
theorem low_high(s:Nat):s=(s%16) ^^^ (16*(s / 16)):=by
 have h:=Nat.two_pow_add_eq_or_of_lt (i:=4) (b:=s%16) (by omega) (s / 16)
 have e:(2:Nat) ^ 4=16:=by decide
 rw[e] at h
 have hx:(s%16) ^^^ (16*(s / 16))=(s%16) ||| (16*(s / 16)):=by
  apply Nat.eq_of_testBit_eq
  intro i
  rw[Nat.testBit_xor,Nat.testBit_or]
  by_cases hi:i<4
  ·have:(16*(s / 16)).testBit i=false:=by
    rw[show 16*(s / 16)=2 ^ 4*(s / 16) by rw[e],Nat.testBit_two_pow_mul]
    simp;omega
   simp[this]
  ·have:(s%16).testBit i=false:=Nat.testBit_lt_two_pow (Nat.lt_of_lt_of_le (show s%16<2 ^ 4 by omega) (Nat.pow_le_pow_right (by omega) (by omega)))
   simp[this]
 rw[hx,Nat.or_comm,<-h]
 omega
theorem st4_table(s:Nat):st4 s=st4 (s%16) ^^^ s / 16:=by
 conv=>lhs;rw[low_high s]
 rw[st4_xor,st4_16]
def low4(n:Nat):Bs:=[UInt8.ofNat (n%256),UInt8.ofNat (n / 256%256),UInt8.ofNat (n / 65536%256),UInt8.ofNat (n / 16777216%256)]
def num4(l:Bs):Nat:=match l with
 | a :: b :: c :: d :: _=>a.toNat+256*b.toNat+65536*c.toNat+16777216*d.toNat
 | _=>0
def sumOf(h body:Bs):Nat:=crcUp (crcUp 0 h) body
def sealB(body:Bs):Bs:=low4 body.length++low4 (sumOf (low4 body.length) body)++body
def nextF(b:Bs)(i:Nat):Bs×Nat×Int :=
 if b.length<i then ([],0,1) else
 if i=b.length then ([],0,12) else
 if b.length-i<8 then ([],0,13) else
 if num4 (b.drop i)<1\/65536<num4 (b.drop i)\/b.length-i-8<num4 (b.drop i) then ([],0,13) else
 if sumOf ((b.drop i).take 4) ((b.drop (i+8)).take (num4 (b.drop i)))≠num4 (b.drop (i+4)) then ([],0,13) else
 ((b.drop (i+8)).take (num4 (b.drop i)),i+8+num4 (b.drop i),0)
theorem low4_len(n:Nat):(low4 n).length=4:=rfl
theorem num4_low4{n:Nat}(h:n<4294967296)(r:Bs):num4 (low4 n++r)=n:=by
 simp only[low4,num4,List.cons_append,List.nil_append,UInt8.toNat_ofNat']
 omega
theorem num4_lt(l:Bs):num4 l<4294967296:=by
 unfold num4
 split
 ·rename_i a b c d _
  have:=a.toNat_lt;have:=b.toNat_lt;have:=c.toNat_lt;have:=d.toNat_lt
  omega
 ·omega
theorem num4_drop{b:Bs}{i:Nat}(h:i+4<=b.length):num4 (b.drop i)=b[i].toNat+256*b[i+1].toNat+65536*b[i+2].toNat+16777216*b[i+3].toNat:=by
 rw[List.drop_eq_getElem_cons (by omega),List.drop_eq_getElem_cons (by omega),List.drop_eq_getElem_cons (by omega),List.drop_eq_getElem_cons (by omega)]
 rfl
theorem sumOf_lt(h body:Bs):sumOf h body<4294967296:=crcUp_lt (crcUp_lt (by omega) _) _
theorem sealB_len(body:Bs):(sealB body).length=8+body.length:=by simp[sealB,low4_len];omega
theorem nextF_seal(pre body rest:Bs)(h1:1<=body.length)(h2:body.length<=65536) :
  nextF (pre++sealB body++rest) pre.length=(body,pre.length+8+body.length,0):=by
 have hd:(pre++sealB body++rest).drop pre.length=sealB body++rest:=by rw[List.append_assoc];exact List.drop_left
 have hd4:(pre++sealB body++rest).drop (pre.length+4)=low4 (sumOf (low4 body.length) body)++(body++rest):=by
  rw[<-List.drop_drop,hd,sealB,List.append_assoc,List.append_assoc]
  exact List.drop_left' (low4_len _)
 have hd8:(pre++sealB body++rest).drop (pre.length+8)=body++rest:=by
  rw[show pre.length+8=pre.length+4+4 by omega,<-List.drop_drop,hd4]
  exact List.drop_left' (low4_len _)
 have hn:num4 ((pre++sealB body++rest).drop pre.length)=body.length:=by
  rw[hd,sealB,List.append_assoc,List.append_assoc];exact num4_low4 (by omega) _
 have ht:((pre++sealB body++rest).drop pre.length).take 4=low4 body.length:=by
  rw[hd,sealB,List.append_assoc,List.append_assoc];exact List.take_left' (low4_len _)
 have hb:((pre++sealB body++rest).drop (pre.length+8)).take body.length=body:=by rw[hd8];exact List.take_left
 have hs:num4 ((pre++sealB body++rest).drop (pre.length+4))=sumOf (low4 body.length) body:=by rw[hd4];exact num4_low4 (sumOf_lt _ _) _
 have hl:(pre++sealB body++rest).length=pre.length+8+body.length+rest.length:=by simp[sealB_len];omega
 unfold nextF
 rw[hn,ht,hb,hs,hl,if_neg (by omega),if_neg (by omega),if_neg (by omega),if_neg (by omega),if_neg (by simp)]
theorem nextF_end(b:Bs):nextF b b.length=([],0,12):=by unfold nextF;rw[if_neg (by omega),if_pos rfl]
theorem nextF_ok{b body:Bs}{i j:Nat}(h:nextF b i=(body,j,0)):i+8+body.length=j/\j<=b.length/\1<=body.length/\body.length<=65536/\body=(b.drop (i+8)).take body.length:=by
 unfold nextF at h
 split at h
 ·simp at h
 split at h
 ·simp at h
 split at h
 ·simp at h
 split at h
 ·simp at h
 split at h
 ·simp at h
 ·rename_i h1 h2 h3 h4 h5
  simp only[Prod.mk.injEq] at h
  obtain⟨rfl,rfl,-⟩:=h
  have hl:((b.drop (i+8)).take (num4 (b.drop i))).length=num4 (b.drop i):=by simp;omega
  rw[hl]
  refine⟨rfl,by omega,by omega,by omega,rfl⟩
def hexD(n:Nat):UInt8:=if n<10 then UInt8.ofNat (48+n) else UInt8.ofNat (87+n)
def hex12(n:Nat):Bs:=(List.range 12).map fun i=>hexD (n / 16 ^ (11-i)%16)
def nameOf(head:Bs)(n:Int):Bs:=if n<1\/281474976710655<n then [] else head++hex12 n.toNat
def hexV(c:UInt8):Option Nat:=if 48<=c.toNat/\c.toNat<=57 then some (c.toNat-48) else if 97<=c.toNat/\c.toNat<=102 then some (c.toNat-87) else none
def hexGo:Bs->Nat->Option Nat
 | [],v=>some v
 | c :: t,v=>match hexV c with
  | none=>none
  | some k=>hexGo t (v*16+k)
def numOfName(head s:Bs):Int×Bool :=
 if head.isPrefixOf s=false then (0,false) else
 if (s.drop head.length).length≠12 then (0,false) else
 match hexGo (s.drop head.length) 0 with
 | none=>(0,false)
 | some v=>((v:Int),nameOf head (v:Int)==s)
def logH:Bs:=[108,111,103,45]
def ckptH:Bs:=[99,107,112,116,45]
def manN:Bs:=[109,97,110,105,102,101,115,116]
def manW:Bs:=[109,97,110,105,102,101,115,116,46,110,101,119]
structure Mf where
 number:Int
 file:Int
 mark:Int
 prev:Int
 pmark:Int
def Mf.nil:Mf:=⟨0,0,0,0,0⟩
def mayM(m:Mf):Bool :=
 decide (1<=m.number)&&decide (m.number<=281474976710655)&&decide (1<=m.file)&&decide (m.file<=281474976710655)&&decide (0<=m.mark)&&decide (m.mark<=281474976710655)&&decide (0<=m.prev)&&decide (m.prev<m.file)&&decide (0<=m.pmark) &&
  (decide (0<m.prev)&&decide (m.pmark<m.mark)||m.prev==0&&m.pmark==0)
def decM(b:Bs):Mf×Int :=
 let f:=nextF b 0
 if f.2.2≠0 then (Mf.nil,f.2.2) else
 if f.2.1<b.length then (Mf.nil,3) else
 let s:=(⟨f.1,0,0⟩:RS).text 8
 if s.2.e≠0 then (Mf.nil,s.2.e) else
 if s.1≠manN then (Mf.nil,3) else
 let a:=s.2.number
 let b1:=a.2.number
 let c:=b1.2.number
 let d:=c.2.number
 let e:=d.2.number
 if e.2.e≠0 then (Mf.nil,e.2.e) else
 if e.2.end_≠0 then (Mf.nil,e.2.end_) else
 if mayM ⟨a.1,b1.1,c.1,d.1,e.1⟩ then (⟨a.1,b1.1,c.1,d.1,e.1⟩,0) else (Mf.nil,3)
structure En where
 key:Bs
 v:V
structure Im where
 number:Int
 mark:Int
 procs:List P
 entries:List En
def Im.nil:Im:=⟨0,0,[],[]⟩
structure PS where
 im:Im
 frames:Nat
 name:Bs
 key:Bs
 over:Bool
def PS.nil:PS:=⟨Im.nil,0,[],[],false⟩
def okKey(s:Bs):Bool:=decide (0<s.length)&&decide (s.length<=64)
def pgHead(s:PS)(r:RS):Option (PS×RS) :=
 let a:=r.number
 let b:=a.2.number
 if s.frames=0/\1<=a.1/\a.1<=281474976710655/\b.1<=281474976710655 then some ({ s with im:={ s.im with number:=(a.1:Int),mark:=(b.1:Int) } },b.2) else none
def pgProc(s:PS)(all:Nat)(r:RS):Option (PS×RS) :=
 let x:=r.text (all:Int)
 let p:=decP x.1
 if 0<s.frames/\p.2=0/\s.im.entries=[]/\s.name<p.1.name then some ({ s with name:=p.1.name,im:={ s.im with procs:=s.im.procs++[p.1] } },x.2) else none
def pgEntries(all:Nat):Nat->PS->RS->Option (PS×RS)
 | 0,s,r=>some (s,r)
 | n+1,s,r =>
  let k:=r.text (all:Int)
  let y:=k.2.text (all:Int)
  let v:=decV y.1
  if v.2=0/\okKey k.1=true/\s.key<k.1/\v.1.k≠0 then pgEntries all n { s with key:=k.1,im:={ s.im with entries:=s.im.entries++[⟨k.1,v.1⟩] } } y.2 else none
def pgPage(s:PS)(all:Nat)(r:RS):Option (PS×RS) :=
 let n:=r.number
 if 0<s.frames/\1<=n.1/\n.1<=128 then pgEntries all n.1 s n.2 else none
def pgEnd(s:PS)(r:RS):Option (PS×RS) :=
 let n:=r.number
 let m:=n.2.number
 if 0<s.frames/\n.1=s.im.procs.length/\m.1=s.im.entries.length then some ({ s with over:=true },m.2) else none
def pgFrame(body:Bs)(s:PS):Option PS :=
 let k:=(⟨body,0,0⟩:RS).byte
 if k.1.toNat<1\/4<k.1.toNat then none else
 let n:=k.2.number
 if n.1≠s.frames then none else
 match (if k.1.toNat=1 then pgHead s n.2 else if k.1.toNat=2 then pgProc s body.length n.2 else if k.1.toNat=3 then pgPage s body.length n.2 else pgEnd s n.2) with
 | none=>none
 | some x=>if x.2.end_=0 then some { x.1 with frames:=x.1.frames+1 } else none
def pgGo(b:Bs):Nat->Nat->PS->Im×Int
 | 0,_,_=>(Im.nil,3)
 | k+1,i,s =>
  if s.over then (if i=b.length then (s.im,0) else (Im.nil,3)) else
  let f:=nextF b i
  if f.2.2=12 then (Im.nil,2) else
  if f.2.2≠0 then (Im.nil,13) else
  match pgFrame f.1 s with
  | none=>(Im.nil,3)
  | some s'=>pgGo b k f.2.1 s'
def decG(b:Bs):Im×Int:=pgGo b (b.length+2) 0 PS.nil
def scanGo(b:Bs):Nat->Nat->Int->List (Bt×Nat)
 | 0,_,_=>[]
 | k+1,i,next =>
  let f:=nextF b i
  if f.2.2≠0 then [] else
  let x:=decB f.1
  if x.2≠0\/x.1.first≠next then [] else (x.1,f.2.1) :: scanGo b k f.2.1 (next+x.1.txns.length)
def scan(b:Bs)(first:Int):List (Bt×Nat):=scanGo b (b.length+1) 0 first
def frames(b:Bs):Nat->Nat->List (Nat×Bs)
 | 0,_=>[]
 | k+1,i=>if (nextF b i).2.2≠0 then [] else (i,(nextF b i).1) :: frames b k (nextF b i).2.1
theorem frames_more(b:Bs):∀ (k m i:Nat),b.length-i<k->b.length-i<m->frames b k i=frames b m i
 | 0,_,_,h,_=>by omega
 | _,0,_,_,h=>by omega
 | k+1,m+1,i,h1,h2=>by
  simp only[frames]
  by_cases he:(nextF b i).2.2=0
  ·rw[if_neg (by simp[he]),if_neg (by simp[he])]
   have hok:=nextF_ok (b:=b) (body:=(nextF b i).1) (i:=i) (j:=(nextF b i).2.1) (by rw[<-he])
   congr 1
   exact frames_more b k m _ (by omega) (by omega)
  ·rw[if_pos he,if_pos he]
def scanL:List (Nat×Bs)->Int->List (Bt×Nat)
 | [],_=>[]
 | f :: l,nx=>if (decB f.2).2≠0\/(decB f.2).1.first≠nx then [] else ((decB f.2).1,f.1+8+f.2.length) :: scanL l (nx+(decB f.2).1.txns.length)
def nextL:List (Nat×Bs)->Int->Option Int
 | [],nx=>some nx
 | f :: l,nx=>if (decB f.2).2≠0\/(decB f.2).1.first≠nx then none else nextL l (nx+(decB f.2).1.txns.length)
theorem scanL_append{l l':List (Nat×Bs)}:∀ {nx m:Int},nextL l nx=some m->scanL (l++l') nx=scanL l nx++scanL l' m:=by
 induction l with
 | nil=>intro nx m h;cases h;rfl
 | cons f l ih =>
  intro nx m h
  simp only[nextL] at h
  by_cases hc:(decB f.2).2≠0\/(decB f.2).1.first≠nx
  ·rw[if_pos hc] at h;cases h
  ·rw[if_neg hc] at h
   simp only[List.cons_append,scanL,if_neg hc,List.cons.injEq,true_and]
   exact ih h
theorem nextL_append{l l':List (Nat×Bs)}:∀ {nx m:Int},nextL l nx=some m->nextL (l++l') nx=nextL l' m:=by
 induction l with
 | nil=>intro nx m h;cases h;rfl
 | cons f l ih =>
  intro nx m h
  simp only[nextL] at h
  by_cases hc:(decB f.2).2≠0\/(decB f.2).1.first≠nx
  ·rw[if_pos hc] at h;cases h
  ·rw[if_neg hc] at h
   simp only[List.cons_append,nextL,if_neg hc]
   exact ih h
theorem scanL_frames(b:Bs):∀ (k i:Nat) (nx:Int),scanL (frames b k i) nx=scanGo b k i nx
 | 0,_,_=>rfl
 | k+1,i,nx=>by
  simp only[frames,scanGo]
  by_cases he:(nextF b i).2.2=0
  ·rw[if_neg (by simp[he]),if_neg (by simp[he])]
   have hok:=nextF_ok (b:=b) (body:=(nextF b i).1) (i:=i) (j:=(nextF b i).2.1) (by rw[<-he])
   simp only[scanL]
   split
   ·rfl
   ·rw[scanL_frames b k,hok.1]
  ·rw[if_pos he,if_pos he];rfl
theorem scanL_scan(b:Bs)(first:Int):scanL (frames b (b.length+1) 0) first=scan b first:=scanL_frames b _ _ _
theorem chkB_ok{x:Bt}(h:chkB x=0):1<=x.first/\x.first<=281474976710655/\1<=x.txns.length/\x.txns.length<=64/\x.first+x.txns.length-1<=281474976710655:=by
 unfold chkB at h
 split at h
 ·cases h
 ·rename_i h1
  split at h
  ·cases h
  ·rename_i h2
   simp only[not_or] at h1
   obtain⟨a,b,c,d⟩:=h1
   have:x.txns.length≠0:=fun e=>c (List.length_eq_zero_iff.1 e)
   omega
theorem decB_ok{b:Bs}{x:Bt}(h:decB b=(x,0)):chkB x=0/\b.length<=65536:=by
 unfold decB at h
 dsimp only at h
 split at h
 ·cases h
 rename_i h0
 split at h
 ·rename_i h1;exact absurd (congrArg Prod.snd h) h1
 split at h
 ·cases h
 split at h
 ·rename_i h1;exact absurd (congrArg Prod.snd h) h1
 split at h
 ·rename_i h1;exact absurd (congrArg Prod.snd h) h1
 split at h
 ·rename_i h1;exact absurd (congrArg Prod.snd h) h1
 ·rename_i h1
  have h2:=(congrArg Prod.fst h).symm
  dsimp only at h2
  subst h2
  exact⟨by simpa using h1,by omega⟩
abbrev Fs:=List (Bs×Bs)
def getF:Fs->Bs->Option Bs
 | [],_=>none
 | x :: t,k=>if x.1=k then some x.2 else getF t k
structure AS where
 needed:List Bs
 has:Bool
 man:Mf
 segs:List (Int×Int)
 torn:Int
 base:Int
 last:Int
def AS.nil:AS:=⟨[],false,Mf.nil,[],0,0,0⟩
def AS.need(s:AS)(n:Bs):AS:={ s with needed:=s.needed++[n] }
def aMan(fs:Fs)(s:AS):AS×Bool :=
 match getF fs manN with
 | none=>(s,true)
 | some d=>if (decM d).2=0 then ({ s.need manN with has:=true,man:=(decM d).1 },true) else (s.need manN,false)
def fitsG(d:Bs)(number mark:Int):Bool:=(decG d).2==0&&(decG d).1.number==number&&(decG d).1.mark==mark
def aFits(fs:Fs)(s:AS)(number mark:Int):AS×Bool :=
 match getF fs (nameOf ckptH number) with
 | none=>(s,false)
 | some d=>(s.need (nameOf ckptH number),fitsG d number mark)
def aPrev(firsts:List Int)(m:Mf):Bool:=decide (0<m.prev)&&decide (0<firsts.length)&&decide (firsts.getD 0 0<=m.pmark+1)
def aCkpt(fs:Fs)(firsts:List Int)(s:AS):AS×Bool :=
 if s.has=false then (s,true) else
 let x:=aFits fs s s.man.file s.man.mark
 if x.2 then ({ x.1 with base:=s.man.mark },true) else
 if aPrev firsts s.man then
  let y:=aFits fs x.1 s.man.prev s.man.pmark
  if y.2 then ({ y.1 with base:=s.man.pmark },true) else (y.1,false)
 else (x.1,false)
def segStep(base:Int)(a:Int×Nat×Bool)(x:Bt×Nat):Int×Nat×Bool :=
 (x.1.first+x.1.txns.length-1,x.2,a.2.2||(decide (x.1.first<=base)&&decide (base<x.1.first+x.1.txns.length-1)))
def segGo(base:Int)(l:List (Bt×Nat))(a:Int×Nat×Bool):Int×Nat×Bool:=l.foldl (segStep base) a
def datF(fs:Fs)(f:Int):Bs:=(getF fs (nameOf logH f)).getD []
def aSeg(fs:Fs)(firsts:List Int)(i:Nat)(first:Bool)(s:AS):AS×Bool :=
 let f:=firsts.getD i 0
 let s1:=s.need (nameOf logH f)
 if first||f==s.last+1 then
  let d:=datF fs f
  let r:=segGo s.base (scan d f) (s.last,0,false)
  ({ s1 with last:=r.1,segs:=s1.segs.set i (f,(r.2.1:Int)),torn:=(d.length:Int)-r.2.1 },!r.2.2&&(d.length==r.2.1||i+1==firsts.length))
 else (s1,false)
def aSegs(fs:Fs)(firsts:List Int):Nat->Nat->Bool->AS->AS×Bool
 | 0,_,_,s=>(s,true)
 | k+1,i,first,s=>let r:=aSeg fs firsts i first s;if r.2 then aSegs fs firsts k (i+1) false r.1 else r
def fromStep(base:Int)(r:Int)(x:Int×Nat):Int:=if x.1<=base+1 then x.2 else r
def fromGo(base:Int)(firsts:List Int):Int:=firsts.zipIdx.foldl (fromStep base) (-1)
def aLog(fs:Fs)(firsts:List Int)(s:AS):AS×Bool :=
 if firsts.length=0 then ({ s with last:=s.base },true) else
 let k:=fromGo s.base firsts
 if k<0 then ({ s with last:=s.base,segs:=firsts.map fun f=>(f,0) },false) else
 let r:=aSegs fs firsts (firsts.length-k.toNat) k.toNat true { s with last:=firsts.getD k.toNat 0-1,segs:=firsts.map fun f=>(f,0) }
 if r.2 then (r.1,decide (r.1.base<=r.1.last)) else r
def aAll(fs:Fs)(firsts:List Int):AS×Bool :=
 let a:=aMan fs AS.nil
 if a.2 then
  let b:=aCkpt fs firsts a.1
  if b.2 then aLog fs firsts b.1 else b
 else a
def leI(x y:Int):Bool:=decide (x<=y)
def leN(x y:Bs):Bool:=decide (x<=y)
def firstOf(n:Bs):Option Int:=if (numOfName logH n).2 then some (numOfName logH n).1 else none
def rawFirsts(fs:Fs):List Int:=fs.filterMap fun x=>firstOf x.1
def firstsOf(fs:Fs):List Int:=(rawFirsts fs).mergeSort leI
def ownB(s:Bs):Bool:=(numOfName ckptH s).2||(numOfName logH s).2||s==manN||s==manW
structure Rp where
 err:Int
 base:Int
 last:Int
 rep:Int
 torn:Int
 has:Bool
 man:Mf
 segs:List (Int×Int)
 needed:List Bs
 left:List Bs
 others:List Bs
def Rp.arg:Rp:=⟨1,0,0,0,0,false,Mf.nil,[],[],[],[]⟩
def sortN(fs:Fs):List Bs:=(fs.map Prod.fst).mergeSort leN
def leftOf(need ns:List Bs):List Bs:=ns.filter fun n=>!need.contains n&&ownB n
def othersOf(need ns:List Bs):List Bs:=ns.filter fun n=>!need.contains n && !ownB n
def repOf(fs:Fs)(r:AS×Bool):Rp :=
 if r.2 then ⟨0,r.1.base,r.1.last,r.1.last-r.1.base,r.1.torn,r.1.has,r.1.man,r.1.segs,r.1.needed,leftOf r.1.needed (sortN fs),othersOf r.1.needed (sortN fs)⟩
 else ⟨20,0,0,0,0,r.1.has,r.1.man,[],r.1.needed,leftOf r.1.needed (sortN fs),othersOf r.1.needed (sortN fs)⟩
def lookF(fs:Fs):Rp:=if (fs.map Prod.fst).Nodup then repOf fs (aAll fs (firstsOf fs)) else Rp.arg
theorem getF_mem{fs:Fs}{k d:Bs}(h:getF fs k=some d):(k,d)∈fs:=by
 induction fs with
 | nil=>cases h
 | cons x t ih =>
  simp only[getF] at h
  by_cases e:x.1=k
  ·rw[if_pos e] at h
   cases h
   subst e
   exact .head _
  ·rw[if_neg e] at h
   exact .tail _ (ih h)
theorem getF_some{fs:Fs}{k:Bs}(h:k∈fs.map Prod.fst):∃ d,getF fs k=some d:=by
 induction fs with
 | nil=>cases h
 | cons x t ih =>
  simp only[getF]
  by_cases e:x.1=k
  ·exact⟨_,if_pos e⟩
  ·rw[if_neg e]
   refine ih ?_
   rw[List.map_cons,List.mem_cons] at h
   exact h.resolve_left (fun h=>e h.symm)
theorem numOf_name{head s:Bs}{v:Int}(h:numOfName head s=(v,true)):nameOf head v=s/\s.length=head.length+12/\0<=v:=by
 unfold numOfName at h
 split at h
 ·simp at h
 rename_i h1
 split at h
 ·simp at h
 rename_i h2
 cases hx:hexGo (s.drop head.length) 0 with
 | none=>rw[hx] at h;simp at h
 | some n =>
  rw[hx] at h
  simp only[Prod.mk.injEq,beq_iff_eq] at h
  obtain⟨rfl,h3⟩:=h
  refine⟨h3,?_,by omega⟩
  have h1':head.isPrefixOf s=true:=by simpa using h1
  rw[List.isPrefixOf_iff_prefix] at h1'
  have:=h1'.length_le
  simp only[List.length_drop] at h2
  omega
theorem numOf_one{head s:Bs}{v:Int}(h:numOfName head s=(v,true)):1<=v:=by
 obtain⟨h1,h2,h3⟩:=numOf_name h
 unfold nameOf at h1
 split at h1
 ·subst h1;simp at h2
 ·omega
theorem firstOf_eq{n:Bs}{v:Int}(h:firstOf n=some v):numOfName logH n=(v,true):=by
 unfold firstOf at h
 split at h
 ·rename_i h1
  have:=Option.some.inj h
  exact Prod.ext this h1
 ·cases h
theorem firstOf_inj{a b:Bs}{v:Int}(ha:firstOf a=some v)(hb:firstOf b=some v):a=b :=
 (numOf_name (firstOf_eq ha)).1.symm.trans (numOf_name (firstOf_eq hb)).1
structure FirstIs (fs:Fs) (f:Int):Prop where
 one:1<=f
 len:(nameOf logH f).length=16
 num:firstOf (nameOf logH f)=some f
 there:nameOf logH f∈fs.map Prod.fst
theorem first_is{fs:Fs}{f:Int}(h:f∈firstsOf fs):FirstIs fs f:=by
 unfold firstsOf at h
 rw[List.mem_mergeSort] at h
 obtain⟨x,hx,h2⟩:=List.mem_filterMap.1 h
 have h3:=firstOf_eq h2
 obtain⟨h4,h5,h6⟩:=numOf_name h3
 exact⟨numOf_one h3,by rw[h4,h5];rfl,by rw[h4];exact h2,by rw[h4];exact List.mem_map.2 ⟨x,hx,rfl⟩⟩
theorem leI_trans(a b c:Int)(h1:leI a b=true)(h2:leI b c=true):leI a c=true:=by
 simp only[leI,decide_eq_true_eq] at *
 omega
theorem leI_total(a b:Int):(leI a b||leI b a)=true:=by
 simp only[leI,Bool.or_eq_true,decide_eq_true_eq]
 omega
theorem raw_nodup:∀ {fs:Fs},(fs.map Prod.fst).Nodup->(rawFirsts fs).Nodup
 | [],_=>List.nodup_nil
 | x :: t,h=>by
  rw[List.map_cons,List.nodup_cons] at h
  simp only[rawFirsts,List.filterMap_cons]
  cases hf:firstOf x.1 with
  | none=>exact raw_nodup h.2
  | some v =>
   refine List.nodup_cons.2 ⟨fun hm=>?_,raw_nodup h.2⟩
   obtain⟨y,hy,h2⟩:=List.mem_filterMap.1 hm
   exact h.1 (List.mem_map.2 ⟨y,hy,firstOf_inj h2 hf⟩)
theorem firsts_rise{fs:Fs}(h:(fs.map Prod.fst).Nodup):(firstsOf fs).Pairwise (· < ·):=by
 have h1:(firstsOf fs).Pairwise (fun a b=>leI a b=true):=List.pairwise_mergeSort (le:=leI) leI_trans leI_total _
 have h2:(firstsOf fs).Pairwise (· ≠ ·):=(List.mergeSort_perm (rawFirsts fs) leI).nodup_iff.2 (raw_nodup h)
 refine(h1.and h2).imp ?_
 rintro a b ⟨h3,h4⟩
 simp only[leI,decide_eq_true_eq] at h3
 omega
theorem leN_trans(a b c:Bs)(h1:leN a b=true)(h2:leN b c=true):leN a c=true:=by
 simp only[leN,decide_eq_true_eq] at *
 exact List.le_trans h1 h2
theorem leN_total(a b:Bs):(leN a b||leN b a)=true:=by
 simp only[leN,Bool.or_eq_true,decide_eq_true_eq]
 exact List.le_total a b
theorem names_rise{fs:Fs}(h:(fs.map Prod.fst).Nodup):(sortN fs).Pairwise (· < ·):=by
 have h1:(sortN fs).Pairwise (fun a b=>leN a b=true):=List.pairwise_mergeSort (le:=leN) leN_trans leN_total _
 have h2:(sortN fs).Pairwise (· ≠ ·):=(List.mergeSort_perm (fs.map Prod.fst) leN).nodup_iff.2 h
 refine(h1.and h2).imp ?_
 rintro a b ⟨h3,h4⟩
 simp only[leN,decide_eq_true_eq] at h3
 rcases List.le_iff_lt_or_eq.1 h3 with h5|h5
 ·exact h5
 ·exact absurd h5 h4
theorem nextF_le{b:Bs}{i:Nat}(h:(nextF b i).2.2=0):i+8<=(nextF b i).2.1/\(nextF b i).2.1<=b.length:=by
 have:=nextF_ok (b:=b) (i:=i) (body:=(nextF b i).1) (j:=(nextF b i).2.1) (by rw[<-h])
 omega
def endOf(i:Nat)(l:List (Bt×Nat)):Nat:=l.foldl (fun _ x=>x.2) i
theorem scan_end(b:Bs):∀ (k i:Nat) (nx:Int),i<=b.length->i<=endOf i (scanGo b k i nx)/\endOf i (scanGo b k i nx)<=b.length
 | 0,i,nx,h=>⟨Nat.le_refl _,h⟩
 | k+1,i,nx,h=>by
  simp only[scanGo]
  by_cases he:(nextF b i).2.2=0
  ·rw[if_neg (by simp[he])]
   have hn:=nextF_le he
   split
   ·exact⟨Nat.le_refl _,h⟩
   ·have:=scan_end b k (nextF b i).2.1 (nx+(decB (nextF b i).1).1.txns.length) hn.2
    refine⟨Nat.le_trans (by omega) this.1,this.2⟩
  ·rw[if_pos he];exact⟨Nat.le_refl _,h⟩
theorem segGo_end(base:Int):∀ (l:List (Bt×Nat)) (a:Int×Nat×Bool),(segGo base l a).2.1=endOf a.2.1 l
 | [],_=>rfl
 | x :: l,a=>segGo_end base l (segStep base a x)
theorem num4_take{l:Bs}{m:Nat}(h:4<=m):num4 (l.take m)=num4 l:=by
 obtain⟨m,rfl⟩:∃ k,m=k+4:=⟨m-4,by omega⟩
 match l with
 | []=>simp
 | [a]=>simp
 | [a,b]=>simp
 | [a,b,c]=>simp
 | a :: b :: c :: d :: t=>simp[num4]
theorem nextF_take{b:Bs}{i e:Nat}(h:(nextF b i).2.2=0)(h1:(nextF b i).2.1<=e)(h2:e<=b.length):nextF (b.take e) i=nextF b i:=by
 have hj:=nextF_le h
 unfold nextF at h h1 hj ⊢
 have hl:(b.take e).length=e:=by simp;omega
 rw[hl]
 have d0:(b.take e).drop i=(b.drop i).take (e-i):=by rw[List.drop_take]
 have d4:(b.take e).drop (i+4)=(b.drop (i+4)).take (e-(i+4)):=by rw[List.drop_take]
 have d8:(b.take e).drop (i+8)=(b.drop (i+8)).take (e-(i+8)):=by rw[List.drop_take]
 rw[d0,d4,d8]
 split at h
 ·simp at h
 rename_i g1
 split at h
 ·simp at h
 rename_i g2
 split at h
 ·simp at h
 rename_i g3
 split at h
 ·simp at h
 rename_i g4
 split at h
 ·simp at h
 rename_i g5
 rw[if_neg g1,if_neg g2,if_neg g3,if_neg g4,if_neg g5] at h1 hj
 simp only at h1 hj
 rw[num4_take (by omega),num4_take (by omega),List.take_take,List.take_take,show min 4 (e-i)=4 by omega,show min (num4 (b.drop i)) (e-(i+8))=num4 (b.drop i) by omega]
 rw[if_neg g1,if_neg g2,if_neg g3,if_neg g4,if_neg g5,if_neg (by omega),if_neg (by omega),if_neg (by omega),if_neg (by omega)]
theorem scanGo_stop(b:Bs)(k i:Nat)(nx:Int)(h:(nextF b i).2.2≠0):scanGo b k i nx=[]:=by
 cases k with
 | zero=>rfl
 | succ k=>simp only[scanGo];rw[if_pos h]
theorem take_stop(b:Bs)(i k:Nat)(nx:Int)(hi:i<=b.length):scanGo (b.take i) k i nx=[]:=by
 refine scanGo_stop _ _ _ _ ?_
 have hl:(b.take i).length=i:=by simp;omega
 have:=nextF_end (b.take i)
 rw[hl] at this
 rw[this];simp
theorem scan_cut(b:Bs):∀ (k i:Nat) (nx:Int) (k':Nat),i<=b.length->endOf i (scanGo b k i nx)-i<k'->scanGo (b.take (endOf i (scanGo b k i nx))) k' i nx=scanGo b k i nx
 | 0,i,nx,k',h,_=>take_stop b i k' nx h
 | k+1,i,nx,k',h,hk=>by
  have hs:=scan_end b (k+1) i nx h
  generalize he:endOf i (scanGo b (k+1) i nx)=e at hk hs ⊢
  simp only[scanGo] at he ⊢
  by_cases hc:(nextF b i).2.2=0
  ·rw[if_neg (by simp[hc])] at he ⊢
   by_cases hd:(decB (nextF b i).1).2≠0\/(decB (nextF b i).1).1.first≠nx
   ·rw[if_pos hd] at he ⊢
    subst he
    exact take_stop b i k' nx h
   ·rw[if_neg hd] at he ⊢
    have hn:=nextF_le hc
    have he2:endOf (nextF b i).2.1 (scanGo b k (nextF b i).2.1 (nx+(decB (nextF b i).1).1.txns.length))=e:=he
    have hs2:=scan_end b k (nextF b i).2.1 (nx+(decB (nextF b i).1).1.txns.length) hn.2
    rw[he2] at hs2
    obtain⟨m,rfl⟩:∃ m,k'=m+1:=⟨k'-1,by omega⟩
    simp only[scanGo]
    rw[nextF_take hc hs2.1 hs.2,if_neg (by simp[hc]),if_neg hd]
    congr 1
    have:=scan_cut b k (nextF b i).2.1 (nx+(decB (nextF b i).1).1.txns.length) m hn.2 (by rw[he2];omega)
    rw[he2] at this
    exact this
  ·rw[if_pos hc] at he ⊢
   subst he
   exact take_stop b i k' nx h
theorem scan_take(b:Bs)(first:Int):scan (b.take (endOf 0 (scan b first))) first=scan b first:=by
 have h:=scan_end b (b.length+1) 0 first (Nat.zero_le _)
 have hl:(b.take (endOf 0 (scan b first))).length=endOf 0 (scan b first):=by
  rw[List.length_take]
  have:endOf 0 (scan b first)<=b.length:=h.2
  omega
 unfold scan at hl ⊢
 rw[hl]
 exact scan_cut b (b.length+1) 0 first _ (Nat.zero_le _) (by omega)
theorem decM_may{d:Bs}(h:(decM d).2=0):mayM (decM d).1=true:=by
 unfold decM at h ⊢
 dsimp only at h ⊢
 split at h
 ·rename_i g;exact absurd h g
 split at h
 ·cases h
 split at h
 ·rename_i g;exact absurd h g
 split at h
 ·cases h
 split at h
 ·rename_i g;exact absurd h g
 split at h
 ·rename_i g;exact absurd h g
 split at h
 ·rename_i g1 g2 g3 g4 g5 g6 g7
  rw[if_neg g1,if_neg g2,if_neg g3,if_neg g4,if_neg g5,if_neg g6,if_pos g7]
  exact g7
 ·cases h
theorem mayM_ge{m:Mf}(h:mayM m=true):1<=m.file/\m.file<=281474976710655/\0<=m.mark/\m.mark<=281474976710655/\0<=m.prev/\m.prev<m.file/\0<=m.pmark/\m.pmark<=m.mark:=by
 unfold mayM at h
 simp only[Bool.and_eq_true,Bool.or_eq_true,decide_eq_true_eq,beq_iff_eq] at h
 omega
structure A0 (s:AS):Prop where
 base:0<=s.base/\s.base<=281474976710655
 bare:s.has=false->s.base=0
 man:s.has=true->mayM s.man=true
 torn:s.torn=0
 segs:s.segs=[]
theorem aMan_A0(fs:Fs):A0 (aMan fs AS.nil).1/\(aMan fs AS.nil).1.base=0:=by
 have h0:A0 AS.nil:=⟨⟨Int.le_refl _,Int.le_of_lt (by decide)⟩,fun _=>rfl,fun h=>(by cases h),rfl,rfl⟩
 unfold aMan
 split
 ·exact⟨h0,rfl⟩
 ·rename_i d _
  split
  ·rename_i h;exact⟨⟨⟨Int.le_refl _,Int.le_of_lt (show (0:Int)<281474976710655 by decide)⟩,fun _=>rfl,fun _=>decM_may h,rfl,rfl⟩,rfl⟩
  ·exact⟨⟨⟨Int.le_refl _,Int.le_of_lt (show (0:Int)<281474976710655 by decide)⟩,fun _=>rfl,fun h=>(by cases h),rfl,rfl⟩,rfl⟩
theorem aFits_eq(fs:Fs)(s:AS)(n m:Int):∃ l,(aFits fs s n m).1 = { s with needed:=l }:=by
 unfold aFits
 split
 ·exact⟨_,rfl⟩
 ·exact⟨_,rfl⟩
theorem aCkpt_A0(fs:Fs)(firsts:List Int){s:AS}(h:A0 s):A0 (aCkpt fs firsts s).1:=by
 unfold aCkpt
 split
 ·exact h
 ·rename_i hh
  have hm:=mayM_ge (h.man (by simpa using hh))
  obtain⟨l1,e1⟩:=aFits_eq fs s s.man.file s.man.mark
  dsimp only
  split
  ·rw[e1];exact⟨⟨hm.2.2.1,hm.2.2.2.1⟩,fun hf=>absurd hf hh,h.man,h.torn,h.segs⟩
  ·split
   ·obtain⟨l2,e2⟩:=aFits_eq fs (aFits fs s s.man.file s.man.mark).1 s.man.prev s.man.pmark
    split
    ·rw[e2,e1];exact⟨⟨hm.2.2.2.2.2.2.1,(by have:=hm.2.2.2.2.2.2.2;have:=hm.2.2.2.1;show s.man.pmark<=_;omega)⟩,fun hf=>absurd hf hh,h.man,h.torn,h.segs⟩
    ·rw[e2,e1];exact⟨h.base,h.bare,h.man,h.torn,h.segs⟩
   ·rw[e1];exact⟨h.base,h.bare,h.man,h.torn,h.segs⟩
structure AI (firsts:List Int) (s0 s:AS):Prop where
 base:s.base=s0.base
 has:s.has=s0.has
 man:s.man=s0.man
 segs:s.segs.map Prod.fst=firsts
 size:∀ x∈s.segs,0<=x.2
 torn:0<=s.torn
theorem seg_end(b:Bs)(f:Int)(base:Int)(l:Int):(segGo base (scan b f) (l,0,false)).2.1=endOf 0 (scan b f)/\endOf 0 (scan b f)<=b.length:=by
 refine⟨segGo_end _ _ _,?_⟩
 exact(scan_end b (b.length+1) 0 f (Nat.zero_le _)).2
theorem set_fst{l:List (Int×Int)}{firsts:List Int}(h:l.map Prod.fst=firsts)(i:Nat)(v:Int):(l.set i (firsts.getD i 0,v)).map Prod.fst=firsts:=by
 subst h
 rw[List.map_set]
 refine List.ext_getElem? fun j=>?_
 rw[List.getElem?_set]
 split
 ·rename_i e
  subst e
  split
  ·rename_i hl
   rw[List.getD_eq_getElem?_getD,List.getElem?_eq_getElem hl]
   rfl
  ·rename_i hl
   rw[List.getElem?_eq_none (by omega)]
 ·rfl
theorem aSeg_AI(fs:Fs)(firsts:List Int)(i:Nat)(first:Bool){s0 s:AS}(h:AI firsts s0 s):AI firsts s0 (aSeg fs firsts i first s).1:=by
 unfold aSeg
 dsimp only
 split
 ·obtain⟨h1,h2⟩:=seg_end (datF fs (firsts.getD i 0)) (firsts.getD i 0) s.base s.last
  refine⟨h.base,h.has,h.man,set_fst h.segs _ _,fun x hx=>?_,?_⟩
  ·rcases List.mem_or_eq_of_mem_set hx with hx|hx
   ·exact h.size x hx
   ·subst hx;dsimp only;omega
  ·dsimp only;rw[h1];omega
 ·exact⟨h.base,h.has,h.man,h.segs,h.size,h.torn⟩
theorem aSegs_AI(fs:Fs)(firsts:List Int):∀ (k i:Nat) (first:Bool) {s0 s:AS},AI firsts s0 s->AI firsts s0 (aSegs fs firsts k i first s).1
 | 0,_,_,_,_,h=>h
 | k+1,i,first,_,_,h=>by
  simp only[aSegs]
  have h1:=aSeg_AI fs firsts i first h
  split
  ·exact aSegs_AI fs firsts k (i+1) false h1
  ·exact h1
theorem aLog_AI(fs:Fs)(firsts:List Int){s:AS}(h0:A0 s):AI firsts s (aLog fs firsts s).1/\((aLog fs firsts s).2=true->(aLog fs firsts s).1.base<=(aLog fs firsts s).1.last)/\(firsts=[]->(aLog fs firsts s).1.torn=0):=by
 have hz:(firsts.map fun f=>(f,(0:Int))).map Prod.fst=firsts:=by
  rw[List.map_map]
  exact List.map_id firsts
 have hz2:∀ x∈(firsts.map fun f=>(f,(0:Int))),0<=x.2:=by
  intro x hx
  obtain⟨f,-,rfl⟩:=List.mem_map.1 hx
  exact Int.le_refl _
 unfold aLog
 dsimp only
 split
 ·rename_i hl
  have hf:firsts=[]:=List.length_eq_zero_iff.1 hl
  subst hf
  exact⟨⟨rfl,rfl,rfl,by rw[h0.segs];rfl,(by rw[h0.segs];intro x hx;cases hx),by show 0<=s.torn;rw[h0.torn];exact Int.le_refl _⟩,fun _=>Int.le_refl _,fun _=>h0.torn⟩
 ·rename_i hl
  refine⟨?_,?_,fun h=>by subst h;simp at hl⟩
  ·split
   ·exact⟨rfl,rfl,rfl,hz,hz2,by show 0<=s.torn;rw[h0.torn];exact Int.le_refl _⟩
   ·have:=aSegs_AI fs firsts (firsts.length-(fromGo s.base firsts).toNat) (fromGo s.base firsts).toNat true (s0:=s) (s:={ s with last:=firsts.getD (fromGo s.base firsts).toNat 0-1,segs:=firsts.map fun f=>(f,0) }) ⟨rfl,rfl,rfl,hz,hz2,by show 0<=s.torn;rw[h0.torn];exact Int.le_refl _⟩
    split
    ·exact this
    ·exact this
  ·split
   ·intro h;cases h
   ·split
    ·intro h;simpa using h
    ·rename_i g;intro h;exact absurd h g
theorem look_ok{fs:Fs}(h:(lookF fs).err=0) :
  (fs.map Prod.fst).Nodup/\(aAll fs (firstsOf fs)).2=true/\lookF fs=repOf fs (aAll fs (firstsOf fs))/\A0 (aCkpt fs (firstsOf fs) (aMan fs AS.nil).1).1/\aAll fs (firstsOf fs)=aLog fs (firstsOf fs) (aCkpt fs (firstsOf fs) (aMan fs AS.nil).1).1/\(aMan fs AS.nil).2=true/\(aCkpt fs (firstsOf fs) (aMan fs AS.nil).1).2=true:=by
 unfold lookF at h ⊢
 by_cases hn:(fs.map Prod.fst).Nodup
 ·rw[if_pos hn] at h ⊢
  have h2:(aAll fs (firstsOf fs)).2=true:=by
   unfold repOf at h
   split at h
   ·assumption
   ·cases h
  refine⟨hn,h2,rfl,aCkpt_A0 _ _ (aMan_A0 fs).1,?_⟩
  unfold aAll at h2 ⊢
  dsimp only at h2 ⊢
  split at h2
  ·rename_i g1
   split at h2
   ·rename_i g2
    rw[if_pos g1,if_pos g2]
    exact⟨rfl,g1,g2⟩
   ·rename_i g2;exact absurd h2 g2
  ·rename_i g1;exact absurd h2 g1
 ·rw[if_neg hn] at h;cases h
theorem look_means{fs:Fs}(h:(lookF fs).err=0) :
  0<=(lookF fs).base/\(lookF fs).base<=(lookF fs).last/\(lookF fs).rep=(lookF fs).last-(lookF fs).base/\0<=(lookF fs).torn/\(0<(lookF fs).torn->(lookF fs).segs≠[])/\((lookF fs).has=false->(lookF fs).base=0) /\
  (lookF fs).segs.map Prod.fst=firstsOf fs/\(∀ x∈(lookF fs).segs,0<=x.2):=by
 obtain⟨h1,h2,h3,h4,h5,-,-⟩:=look_ok h
 rw[h3]
 unfold repOf
 rw[if_pos h2]
 dsimp only
 have h6:=aLog_AI fs (firstsOf fs) h4
 rw[<-h5] at h6
 obtain⟨h7,h8,h9⟩:=h6
 refine⟨by rw[h7.base];exact h4.base.1,h8 h2,rfl,h7.torn,fun ht=>?_,fun hf=>by rw[h7.base];exact h4.bare (by rw[<-h7.has];exact hf),h7.segs,h7.size⟩
 intro hs
 have h10:=h7.segs
 rw[hs] at h10
 have:=h9 h10.symm
 omega
theorem look_bad{fs:Fs}(h:(lookF fs).err≠0):((lookF fs).err=1\/(lookF fs).err=20)/\(lookF fs).base=0/\(lookF fs).last=0/\(lookF fs).rep=0/\(lookF fs).torn=0/\(lookF fs).segs=[]:=by
 unfold lookF at h ⊢
 split
 ·rename_i hn
  rw[if_pos hn] at h
  unfold repOf at h ⊢
  split
  ·rename_i h2;rw[if_pos h2] at h;exact absurd rfl h
  ·exact⟨.inr rfl,rfl,rfl,rfl,rfl,rfl⟩
 ·exact⟨.inl rfl,rfl,rfl,rfl,rfl,rfl⟩
def cutF(fs:Fs)(n:Bs)(e:Nat):Fs:=fs.map fun x=>if x.1=n then (x.1,x.2.take e) else x
theorem cut_names(fs:Fs)(n:Bs)(e:Nat):(cutF fs n e).map Prod.fst=fs.map Prod.fst:=by
 unfold cutF
 rw[List.map_map]
 refine List.map_congr_left fun x _=>?_
 show (if x.1=n then (x.1,x.2.take e) else x).1=x.1
 split <;> rfl
theorem cut_firsts(fs:Fs)(n:Bs)(e:Nat):firstsOf (cutF fs n e)=firstsOf fs:=by
 have hr:∀ l:Fs,rawFirsts l=(l.map Prod.fst).filterMap firstOf:=fun l=>by unfold rawFirsts;rw[List.filterMap_map];rfl
 unfold firstsOf
 rw[hr,hr,cut_names]
theorem cut_ne(fs:Fs)(n:Bs)(e:Nat){k:Bs}(h:k≠n):getF (cutF fs n e) k=getF fs k:=by
 induction fs with
 | nil=>rfl
 | cons x t ih =>
  show getF ((if x.1=n then (x.1,x.2.take e) else x) :: cutF t n e) k=_
  simp only[getF]
  by_cases h1:x.1=n
  ·rw[if_pos h1,if_neg (by show ¬ x.1=k;rw[h1];exact fun e=>h e.symm),if_neg (by rw[h1];exact fun e=>h e.symm)]
   exact ih
  ·rw[if_neg h1]
   by_cases h2:x.1=k
   ·rw[if_pos h2,if_pos h2]
   ·rw[if_neg h2,if_neg h2];exact ih
theorem cut_eq(fs:Fs)(n:Bs)(e:Nat):getF (cutF fs n e) n=(getF fs n).map (List.take e):=by
 induction fs with
 | nil=>rfl
 | cons x t ih =>
  show getF ((if x.1=n then (x.1,x.2.take e) else x) :: cutF t n e) n=_
  simp only[getF]
  by_cases h1:x.1=n
  ·rw[if_pos h1,if_pos h1]
   rw[if_pos h1];rfl
  ·rw[if_neg h1,if_neg h1,if_neg h1];exact ih
theorem aMan_cong{fs fs':Fs}(h:getF fs' manN=getF fs manN)(s:AS):aMan fs' s=aMan fs s:=by unfold aMan;rw[h]
theorem aFits_cong{fs fs':Fs}(h:∀ n,getF fs' (nameOf ckptH n)=getF fs (nameOf ckptH n))(s:AS)(n m:Int):aFits fs' s n m=aFits fs s n m:=by unfold aFits;rw[h]
theorem aCkpt_cong{fs fs':Fs}(h:∀ n,getF fs' (nameOf ckptH n)=getF fs (nameOf ckptH n))(firsts:List Int)(s:AS):aCkpt fs' firsts s=aCkpt fs firsts s:=by
 unfold aCkpt
 simp only[aFits_cong h]
theorem hex12_len(n:Nat):(hex12 n).length=12:=by simp[hex12]
theorem name_len(head:Bs)(n:Int):(nameOf head n).length=0\/(nameOf head n).length=head.length+12:=by
 unfold nameOf
 split
 ·exact .inl rfl
 ·right;rw[List.length_append,hex12_len]
theorem aSeg_cong{fs fs':Fs}{firsts:List Int}{i:Nat}(h:datF fs' (firsts.getD i 0)=datF fs (firsts.getD i 0))(first:Bool)(s:AS):aSeg fs' firsts i first s=aSeg fs firsts i first s:=by
 unfold aSeg
 dsimp only
 rw[h]
structure LastIs (fs:Fs) (firsts:List Int) (s:AS):Prop where
 needed:s.needed.getLast? = some (nameOf logH (firsts.getD (firsts.length-1) 0))
 torn:s.torn=(datF fs (firsts.getD (firsts.length-1) 0)).length-(endOf 0 (scan (datF fs (firsts.getD (firsts.length-1) 0)) (firsts.getD (firsts.length-1) 0)):Int)
 segs:s.segs.getLast? = some (firsts.getD (firsts.length-1) 0,(endOf 0 (scan (datF fs (firsts.getD (firsts.length-1) 0)) (firsts.getD (firsts.length-1) 0)):Int))
theorem aSegs_cut{fs fs':Fs}{firsts:List Int}(hsame:∀ i,i+1<firsts.length->datF fs' (firsts.getD i 0)=datF fs (firsts.getD i 0))
  (hlast:datF fs' (firsts.getD (firsts.length-1) 0)=(datF fs (firsts.getD (firsts.length-1) 0)).take (endOf 0 (scan (datF fs (firsts.getD (firsts.length-1) 0)) (firsts.getD (firsts.length-1) 0)))) :
  ∀ (k i:Nat) (first:Bool) (s:AS),i+(k+1)=firsts.length->s.segs.length=firsts.length->(aSegs fs firsts (k+1) i first s).2=true ->
   aSegs fs' firsts (k+1) i first s=({ (aSegs fs firsts (k+1) i first s).1 with torn:=0 },true)/\LastIs fs firsts (aSegs fs firsts (k+1) i first s).1
 | 0,i,first,s,hi,hl,h=>by
  have e1:∀ g:Fs,aSegs g firsts 1 i first s=aSeg g firsts i first s:=fun g=>by
   simp only[aSegs]
   split
   ·rename_i h2;rw[<-h2]
   ·rfl
  rw[e1] at h ⊢
  rw[e1]
  obtain rfl:i=firsts.length-1:=by omega
  generalize hf:firsts.getD (firsts.length-1) 0=f at hlast
  unfold aSeg at h ⊢
  dsimp only at h ⊢
  rw[hf] at h ⊢
  rw[hlast,scan_take]
  obtain⟨g1,g2⟩:=seg_end (datF fs f) f s.base s.last
  split at h
  ·rename_i h3
   rw[if_pos h3,if_pos h3]
   rw[g1] at h ⊢
   rw[List.length_take,Nat.min_eq_left g2]
   simp only[Bool.and_eq_true] at h
   refine⟨Prod.ext ?_ ?_,?_⟩
   ·show AS.mk _ _ _ _ _ _ _=AS.mk _ _ _ _ _ _ _
    rw[Int.sub_self]
   ·show (_&&_)=true
    rw[h.1];simp
   ·refine⟨?_,?_,?_⟩
    ·rw[hf];show (s.needed++[nameOf logH f]).getLast? = _;simp
    ·rw[hf]
    ·rw[hf]
     show (s.segs.set (firsts.length-1) _).getLast? = _
     rw[List.getLast?_eq_getElem?,List.length_set,hl,List.getElem?_set_self (by omega)]
  ·cases h
 | k+1,i,first,s,hi,hl,h=>by
  have e1:∀ g:Fs,aSegs g firsts (k+1+1) i first s=if (aSeg g firsts i first s).2 then aSegs g firsts (k+1) (i+1) false (aSeg g firsts i first s).1 else aSeg g firsts i first s:=fun g=>rfl
  have e2:=aSeg_cong (hsame i (by omega)) first s
  rw[e1] at h ⊢
  rw[e1,e2]
  split at h
  ·rename_i h2
   rw[if_pos h2,if_pos h2]
   refine aSegs_cut hsame hlast k (i+1) false _ (by omega) ?_ h
   unfold aSeg
   dsimp only
   split
   ·show (s.segs.set _ _).length=_;rw[List.length_set];exact hl
   ·exact hl
  ·rename_i h2;exact absurd h h2
theorem from_lt(base:Int):∀ (l:List Int) (j:Nat) (r:Int),r<j->(l.zipIdx j).foldl (fromStep base) r<(j+l.length:Nat)
 | [],j,r,h=>by simpa using h
 | x :: t,j,r,h=>by
  rw[List.zipIdx_cons,List.foldl_cons,List.length_cons]
  have:=from_lt base t (j+1) (fromStep base r (x,j)) (by unfold fromStep;split <;> omega)
  omega
theorem aLog_cut{fs fs':Fs}{firsts:List Int}{s:AS}(hne:firsts≠[])(hsame:∀ i,i+1<firsts.length->datF fs' (firsts.getD i 0)=datF fs (firsts.getD i 0))
  (hlast:datF fs' (firsts.getD (firsts.length-1) 0)=(datF fs (firsts.getD (firsts.length-1) 0)).take (endOf 0 (scan (datF fs (firsts.getD (firsts.length-1) 0)) (firsts.getD (firsts.length-1) 0))))
  (h:(aLog fs firsts s).2=true):aLog fs' firsts s=({ (aLog fs firsts s).1 with torn:=0 },true)/\LastIs fs firsts (aLog fs firsts s).1:=by
 have hl:firsts.length≠0:=fun h=>hne (List.length_eq_zero_iff.1 h)
 unfold aLog at h ⊢
 dsimp only at h ⊢
 rw[if_neg hl] at h ⊢
 rw[if_neg hl]
 split at h
 ·cases h
 rename_i hk
 rw[if_neg hk,if_neg hk]
 have hlt:=from_lt s.base firsts 0 (-1) (by omega)
 rw[Nat.zero_add] at hlt
 have hlt2:fromGo s.base firsts<firsts.length:=hlt
 obtain⟨k,hk2⟩:∃ k,firsts.length-(fromGo s.base firsts).toNat=k+1:=⟨firsts.length-(fromGo s.base firsts).toNat-1,by omega⟩
 rw[hk2] at h ⊢
 split at h
 ·rename_i h2
  obtain⟨h3,h4⟩:=aSegs_cut hsame hlast k (fromGo s.base firsts).toNat true _ (by omega) (by simp) h2
  rw[if_pos h2,h3]
  refine⟨?_,h4⟩
  rw[if_pos rfl]
  exact Prod.ext rfl h
 ·rename_i h2;exact absurd h h2
theorem pairwise_at{l:List Int}(h:l.Pairwise (· < ·)){i j:Nat}(hij:i<j)(hj:j<l.length):l.getD i 0<l.getD j 0:=by
 rw[List.getD_eq_getElem?_getD,List.getD_eq_getElem?_getD,List.getElem?_eq_getElem hj,List.getElem?_eq_getElem (by omega)]
 exact List.pairwise_iff_getElem.1 h i j (by omega) hj hij
theorem getD_mem{l:List Int}{i:Nat}(h:i<l.length):l.getD i 0∈l:=by
 rw[List.getD_eq_getElem?_getD,List.getElem?_eq_getElem h]
 exact List.getElem_mem h
theorem hexV_hexD:∀ n,n<16->hexV (hexD n)=some n:=by decide
theorem hexGo_digits(n:Nat):∀ (k v:Nat),hexGo ((List.range k).map fun i=>hexD (n / 16 ^ (k-1-i)%16)) v=some (v*16 ^ k+n%16 ^ k)
 | 0,v=>by simp[hexGo,Nat.mod_one]
 | k+1,v=>by
  rw[List.range_succ_eq_map,List.map_cons,List.map_map]
  simp only[hexGo]
  rw[hexV_hexD _ (Nat.mod_lt _ (by omega))]
  have e:((fun i=>hexD (n / 16 ^ (k+1-1-i)%16)) ∘ Nat.succ)=fun i=>hexD (n / 16 ^ (k-1-i)%16):=by
   funext i
   show hexD (n / 16 ^ (k+1-1-(i+1))%16)=_
   congr 3
   congr 1
   omega
  rw[e]
  dsimp only
  rw[hexGo_digits n k,show k+1-1-0=k by omega]
  congr 1
  have h1:n%16 ^ (k+1)=n%16 ^ k+16 ^ k*(n / 16 ^ k%16):=by rw[Nat.pow_succ];exact Nat.mod_mul
  rw[h1,Nat.add_mul,Nat.pow_succ,Nat.mul_assoc,Nat.mul_comm 16 (16 ^ k),Nat.mul_comm (n / 16 ^ k%16)]
  omega
theorem num_name(head:Bs)(v:Int)(h1:1<=v)(h2:v<=281474976710655):numOfName head (nameOf head v)=(v,true):=by
 have hn:nameOf head v=head++hex12 v.toNat:=if_neg (by omega)
 have hg:hexGo (hex12 v.toNat) 0=some v.toNat:=by
  have:=hexGo_digits v.toNat 12 0
  rw[Nat.zero_mul,Nat.zero_add,Nat.mod_eq_of_lt (by omega)] at this
  exact this
 unfold numOfName
 have hp:head.isPrefixOf (nameOf head v)=true:=by rw[hn,List.isPrefixOf_iff_prefix];exact List.prefix_append _ _
 have hd:(nameOf head v).drop head.length=hex12 v.toNat:=by rw[hn,List.drop_left]
 rw[if_neg (by simp[hp]),hd,if_neg (by simp[hex12_len]),hg]
 dsimp only
 have hv:((v.toNat:Nat):Int)=v:=by omega
 rw[hv]
 simp
theorem own_ckpt{v:Int}(h1:1<=v)(h2:v<=281474976710655):ownB (nameOf ckptH v)=true:=by unfold ownB;rw[num_name _ v h1 h2];rfl
theorem own_log{f:Int}(h:firstOf (nameOf logH f)=some f):ownB (nameOf logH f)=true:=by unfold ownB;rw[firstOf_eq h];simp
theorem own_man:ownB manN=true:=by unfold ownB;simp
structure Like (N:List Bs) (fs' fs:Fs):Prop where
 same:∀ k∈N,getF fs' k=getF fs k
 there:∀ k,ownB k=true->(getF fs' k).isSome=(getF fs k).isSome
theorem Like.none{N:List Bs}{fs' fs:Fs}(h:Like N fs' fs){k:Bs}(hk:ownB k=true)(hn:getF fs k=none):getF fs' k=none:=by
 have:=h.there k hk
 rw[hn] at this
 simpa using this
theorem aMan_like{N:List Bs}{fs' fs:Fs}(h:Like N fs' fs){s:AS}(hN:∀ k∈(aMan fs s).1.needed,k∈N):aMan fs' s=aMan fs s:=by
 unfold aMan at hN ⊢
 cases hd:getF fs manN with
 | none=>rw[h.none own_man hd]
 | some d =>
  rw[hd] at hN
  dsimp only at hN
  have:manN∈N:=hN _ (by split <;> simp[AS.need])
  rw[h.same _ this,hd]
theorem aFits_like{N:List Bs}{fs' fs:Fs}(h:Like N fs' fs){s:AS}{n m:Int}(hn:ownB (nameOf ckptH n)=true)(hN:∀ k∈(aFits fs s n m).1.needed,k∈N):aFits fs' s n m=aFits fs s n m:=by
 unfold aFits at hN ⊢
 cases hd:getF fs (nameOf ckptH n) with
 | none=>rw[h.none hn hd]
 | some d =>
  rw[hd] at hN
  dsimp only at hN
  have:nameOf ckptH n∈N:=hN _ (by simp[AS.need])
  rw[h.same _ this,hd]
theorem aFits_more(fs:Fs)(s:AS)(n m:Int):∀ k∈s.needed,k∈(aFits fs s n m).1.needed:=by
 intro k hk
 unfold aFits
 split
 ·exact hk
 ·simp[AS.need,hk]
theorem aPrev_own{firsts:List Int}{m:Mf}(hm:mayM m=true)(h:aPrev firsts m=true):ownB (nameOf ckptH m.prev)=true:=by
 have:=mayM_ge hm
 unfold aPrev at h
 simp only[Bool.and_eq_true,decide_eq_true_eq] at h
 exact own_ckpt (by omega) (by omega)
theorem aCkpt_like{N:List Bs}{fs' fs:Fs}(h:Like N fs' fs){firsts:List Int}{s:AS}(h0:A0 s)(hN:∀ k∈(aCkpt fs firsts s).1.needed,k∈N):aCkpt fs' firsts s=aCkpt fs firsts s:=by
 unfold aCkpt at hN ⊢
 by_cases hh:s.has=false
 ·rw[if_pos hh,if_pos hh]
 ·rw[if_neg hh] at hN ⊢
  rw[if_neg hh]
  have hm:=h0.man (by simpa using hh)
  have hg:=mayM_ge hm
  have hown:ownB (nameOf ckptH s.man.file)=true:=own_ckpt hg.1 hg.2.1
  dsimp only at hN ⊢
  have key:∀ k∈(aFits fs s s.man.file s.man.mark).1.needed,k∈N:=by
   intro k hk
   refine hN k ?_
   split
   ·exact hk
   ·split
    ·split
     ·exact aFits_more _ _ _ _ _ hk
     ·exact aFits_more _ _ _ _ _ hk
    ·exact hk
  rw[aFits_like h hown key]
  split
  ·rfl
  ·rename_i g1
   rw[if_neg g1] at hN
   split
   ·rename_i g2
    rw[if_pos g2] at hN
    have key2:∀ k∈(aFits fs (aFits fs s s.man.file s.man.mark).1 s.man.prev s.man.pmark).1.needed,k∈N:=by
     intro k hk
     refine hN k ?_
     split
     ·exact hk
     ·exact hk
    rw[aFits_like h (aPrev_own hm g2) key2]
   ·rfl
theorem aSeg_more(fs:Fs)(firsts:List Int)(i:Nat)(first:Bool)(s:AS):(aSeg fs firsts i first s).1.needed=s.needed++[nameOf logH (firsts.getD i 0)]:=by
 unfold aSeg
 dsimp only
 split <;> rfl
theorem aSegs_more(fs:Fs)(firsts:List Int):∀ (k i:Nat) (first:Bool) (s:AS),∀ x∈s.needed,x∈(aSegs fs firsts k i first s).1.needed
 | 0,_,_,_,x,h=>h
 | k+1,i,first,s,x,h=>by
  have h1:x∈(aSeg fs firsts i first s).1.needed:=by rw[aSeg_more];exact List.mem_append_left _ h
  simp only[aSegs]
  split
  ·exact aSegs_more fs firsts k _ _ _ x h1
  ·exact h1
theorem aSegs_like{N:List Bs}{fs' fs:Fs}(h:Like N fs' fs)(firsts:List Int):∀ (k i:Nat) (first:Bool) (s:AS),(∀ x∈(aSegs fs firsts k i first s).1.needed,x∈N)->aSegs fs' firsts k i first s=aSegs fs firsts k i first s
 | 0,_,_,_,_=>rfl
 | k+1,i,first,s,hN=>by
  simp only[aSegs] at hN ⊢
  have h1:nameOf logH (firsts.getD i 0)∈(aSeg fs firsts i first s).1.needed:=by rw[aSeg_more];simp
  have h2:nameOf logH (firsts.getD i 0)∈N:=by
   refine hN _ ?_
   split
   ·exact aSegs_more _ _ _ _ _ _ _ h1
   ·exact h1
  have h3:aSeg fs' firsts i first s=aSeg fs firsts i first s:=aSeg_cong (by unfold datF;rw[h.same _ h2]) first s
  rw[h3]
  split
  ·rename_i g
   rw[if_pos g] at hN
   exact aSegs_like h firsts k _ _ _ hN
  ·rfl
theorem aLog_like{N:List Bs}{fs' fs:Fs}(h:Like N fs' fs){firsts:List Int}{s:AS}(hN:∀ k∈(aLog fs firsts s).1.needed,k∈N):aLog fs' firsts s=aLog fs firsts s:=by
 unfold aLog at hN ⊢
 by_cases h1:firsts.length=0
 ·rw[if_pos h1,if_pos h1]
 ·rw[if_neg h1] at hN ⊢
  rw[if_neg h1]
  dsimp only at hN ⊢
  split
  ·rfl
  ·rename_i h2
   rw[if_neg h2] at hN
   rw[aSegs_like h]
   intro x hx
   refine hN x ?_
   split
   ·exact hx
   ·exact hx
theorem aLog_more(fs:Fs)(firsts:List Int)(s:AS):∀ x∈s.needed,x∈(aLog fs firsts s).1.needed:=by
 intro x hx
 unfold aLog
 split
 ·exact hx
 ·dsimp only
  split
  ·exact hx
  ·split
   ·exact aSegs_more _ _ _ _ _ _ _ hx
   ·exact aSegs_more _ _ _ _ _ _ _ hx
theorem aCkpt_more(fs:Fs)(firsts:List Int)(s:AS):∀ x∈s.needed,x∈(aCkpt fs firsts s).1.needed:=by
 intro x hx
 unfold aCkpt
 split
 ·exact hx
 ·dsimp only
  split
  ·exact aFits_more _ _ _ _ _ hx
  ·split
   ·split
    ·exact aFits_more _ _ _ _ _ (aFits_more _ _ _ _ _ hx)
    ·exact aFits_more _ _ _ _ _ (aFits_more _ _ _ _ _ hx)
   ·exact aFits_more _ _ _ _ _ hx
theorem aAll_like{fs' fs:Fs}{firsts:List Int}(h:Like (aAll fs firsts).1.needed fs' fs):aAll fs' firsts=aAll fs firsts:=by
 generalize hN:(aAll fs firsts).1.needed=N at h
 have key:∀ k∈(aAll fs firsts).1.needed,k∈N:=fun k hk=>by rw[<-hN];exact hk
 clear hN
 unfold aAll at key ⊢
 dsimp only at key ⊢
 have h1:∀ k∈(aMan fs AS.nil).1.needed,k∈N:=by
  intro k hk
  refine key k ?_
  split
  ·split
   ·exact aLog_more _ _ _ _ (aCkpt_more _ _ _ _ hk)
   ·exact aCkpt_more _ _ _ _ hk
  ·exact hk
 rw[aMan_like h h1]
 split
 ·rename_i g1
  rw[if_pos g1] at key
  have h2:∀ k∈(aCkpt fs firsts (aMan fs AS.nil).1).1.needed,k∈N:=by
   intro k hk
   refine key k ?_
   split
   ·exact aLog_more _ _ _ _ hk
   ·exact hk
  rw[aCkpt_like h (aMan_A0 fs).1 h2]
  split
  ·rename_i g2
   rw[if_pos g2] at key
   exact aLog_like h key
  ·rfl
 ·rfl
theorem getF_perm{a b:Fs}(hn:(a.map Prod.fst).Nodup)(hp:a.Perm b)(k:Bs):getF b k=getF a k:=by
 induction hp with
 | nil=>rfl
 | cons x _ ih =>
  simp only[getF]
  rw[ih (by rw[List.map_cons,List.nodup_cons] at hn;exact hn.2)]
 | swap x y l =>
  simp only[getF]
  rw[List.map_cons,List.map_cons,List.nodup_cons,List.nodup_cons] at hn
  by_cases h1:x.1=k
  ·by_cases h2:y.1=k
   ·exact absurd (by rw[h1,h2];exact .head _) hn.1
   ·rw[if_pos h1,if_neg h2,if_pos h1]
  ·rw[if_neg h1,if_neg h1]
 | trans h1 _ ih1 ih2=>rw[ih2 ((h1.map Prod.fst).nodup_iff.1 hn),ih1 hn]
theorem sortI_is{l l':List Int}(h:l.Perm l'):l.mergeSort leI=l'.mergeSort leI:=by
 refine List.Perm.eq_of_pairwise (le:=fun a b=>leI a b=true) ?_ (List.pairwise_mergeSort (le:=leI) leI_trans leI_total _) (List.pairwise_mergeSort (le:=leI) leI_trans leI_total _) ((List.mergeSort_perm l leI).trans (h.trans (List.mergeSort_perm l' leI).symm))
 intro a b _ _ h1 h2
 simp only[leI,decide_eq_true_eq] at h1 h2
 omega
theorem sortN_is{l l':List Bs}(h:l.Perm l'):l.mergeSort leN=l'.mergeSort leN:=by
 refine List.Perm.eq_of_pairwise (le:=fun a b=>leN a b=true) ?_ (List.pairwise_mergeSort (le:=leN) leN_trans leN_total _) (List.pairwise_mergeSort (le:=leN) leN_trans leN_total _) ((List.mergeSort_perm l leN).trans (h.trans (List.mergeSort_perm l' leN).symm))
 intro a b _ _ h1 h2
 simp only[leN,decide_eq_true_eq] at h1 h2
 exact List.le_antisymm h1 h2
theorem firsts_perm{a b:Fs}(hp:a.Perm b):firstsOf b=firstsOf a:=sortI_is (hp.symm.filterMap _)
theorem names_perm{a b:Fs}(hp:a.Perm b):sortN b=sortN a:=sortN_is (hp.symm.map _)
theorem look_perm{a b:Fs}(hp:a.Perm b):lookF b=lookF a:=by
 unfold lookF
 by_cases hn:(a.map Prod.fst).Nodup
 ·rw[if_pos hn,if_pos ((hp.map Prod.fst).nodup_iff.1 hn),firsts_perm hp]
  rw[aAll_like (fs:=a) (fs':=b) ⟨fun k _=>getF_perm hn hp k,fun k _=>by rw[getF_perm hn hp]⟩]
  unfold repOf
  rw[names_perm hp]
 ·rw[if_neg hn,if_neg (fun h=>hn ((hp.map Prod.fst).nodup_iff.2 h))]
structure Nd (fs:Fs) (l:List Bs):Prop where
 nodup:l.Nodup
 there:∀ k∈l,k∈fs.map Prod.fst
theorem Nd.snoc{fs:Fs}{l:List Bs}{n d:Bs}(h:Nd fs l)(hd:getF fs n=some d)(hn:n∉l):Nd fs (l++[n]) :=
 ⟨List.nodup_append.2 ⟨h.nodup,by simp,fun a ha b hb=>by
   obtain rfl:b=n:=by simpa using hb
   exact fun e=>hn (e ▸ ha)⟩,fun k hk=>by
  rcases List.mem_append.1 hk with hk|hk
  ·exact h.there k hk
  ·obtain rfl:k=n:=by simpa using hk
   exact List.mem_map.2 ⟨_,getF_mem hd,rfl⟩⟩
theorem name_inj{head:Bs}{a b:Int}(ha:1<=a)(ha2:a<=281474976710655)(hb:1<=b)(hb2:b<=281474976710655)(h:nameOf head a=nameOf head b):a=b:=by
 have h1:=num_name head a ha ha2
 rw[h,num_name head b hb hb2] at h1
 exact(congrArg Prod.fst h1).symm
theorem aMan_nd(fs:Fs):Nd fs (aMan fs AS.nil).1.needed/\∀ k∈(aMan fs AS.nil).1.needed,k.length=8:=by
 have h0:Nd fs []:=⟨List.nodup_nil,fun k h=>by cases h⟩
 unfold aMan
 cases hd:getF fs manN with
 | none=>exact⟨h0,fun k h=>by cases h⟩
 | some d =>
  have h1:Nd fs ([]++[manN]):=h0.snoc hd (by simp)
  dsimp only
  split
  ·exact⟨h1,fun k h=>by obtain rfl:k=manN:=(by simpa [AS.need,AS.nil] using h);rfl⟩
  ·exact⟨h1,fun k h=>by obtain rfl:k=manN:=(by simpa [AS.need,AS.nil] using h);rfl⟩
theorem aFits_nd{fs:Fs}{s:AS}{n m:Int}(h:Nd fs s.needed)(hn:nameOf ckptH n∉s.needed):Nd fs (aFits fs s n m).1.needed/\∀ k∈(aFits fs s n m).1.needed,k∈s.needed\/k=nameOf ckptH n:=by
 unfold aFits
 cases hd:getF fs (nameOf ckptH n) with
 | none=>exact⟨h,fun k hk => .inl hk⟩
 | some d=>exact⟨h.snoc hd hn,fun k hk=>by simpa [AS.need] using hk⟩
theorem ckpt_len{n:Int}(h1:1<=n)(h2:n<=281474976710655):(nameOf ckptH n).length=17:=by
 have h:=num_name ckptH n h1 h2
 exact(numOf_name h).2.1
theorem aCkpt_nd{fs:Fs}{firsts:List Int}{s:AS}(h0:A0 s)(h:Nd fs s.needed)(hl:∀ k∈s.needed,k.length=8):Nd fs (aCkpt fs firsts s).1.needed/\∀ k∈(aCkpt fs firsts s).1.needed,k.length=8\/k.length=17:=by
 unfold aCkpt
 by_cases hh:s.has=false
 ·rw[if_pos hh];exact⟨h,fun k hk => .inl (hl k hk)⟩
 ·rw[if_neg hh]
  have hm:=h0.man (by simpa using hh)
  have hg:=mayM_ge hm
  have l1:=ckpt_len hg.1 hg.2.1
  obtain⟨a1,a2⟩:=aFits_nd (m:=s.man.mark) h (n:=s.man.file) (fun hk=>by have:=hl _ hk;omega)
  have a3:∀ k∈(aFits fs s s.man.file s.man.mark).1.needed,k.length=8\/k.length=17:=fun k hk=>(a2 k hk).imp (hl k) (fun e=>by rw[e];exact l1)
  dsimp only
  split
  ·exact⟨a1,a3⟩
  ·split
   ·rename_i g2
    have hp:0<s.man.prev:=by
     unfold aPrev at g2
     simp only[Bool.and_eq_true,decide_eq_true_eq] at g2
     exact g2.1.1
    have l2:=ckpt_len (n:=s.man.prev) (by omega) (by omega)
    obtain⟨b1,b2⟩:=aFits_nd (m:=s.man.pmark) a1 (n:=s.man.prev) (fun hk=>by
     rcases a2 _ hk with h1|h1
     ·have:=hl _ h1;omega
     ·have:=name_inj (by omega) (by omega) hg.1 hg.2.1 h1;omega)
    have b3:∀ k∈(aFits fs (aFits fs s s.man.file s.man.mark).1 s.man.prev s.man.pmark).1.needed,k.length=8\/k.length=17:=fun k hk=>(b2 k hk).elim (a3 k) (fun e=>by rw[e];exact .inr l2)
    split
    ·exact⟨b1,b3⟩
    ·exact⟨b1,b3⟩
   ·exact⟨a1,a3⟩
theorem aSegs_nd{fs:Fs}(hn:(fs.map Prod.fst).Nodup):∀ (k i:Nat) (first:Bool) (s:AS),i+k=(firstsOf fs).length->Nd fs s.needed->(∀ x∈s.needed,x.length=8\/x.length=17\/∃ j,j<i/\x=nameOf logH ((firstsOf fs).getD j 0))->Nd fs (aSegs fs (firstsOf fs) k i first s).1.needed
 | 0,_,_,_,_,h,_=>h
 | k+1,i,first,s,hi,h,hl=>by
  have hfi:FirstIs fs ((firstsOf fs).getD i 0):=first_is (getD_mem (by omega))
  obtain⟨d,hd⟩:=getF_some hfi.there
  have h1:Nd fs (aSeg fs (firstsOf fs) i first s).1.needed:=by
   rw[aSeg_more]
   refine h.snoc hd (fun hk=>?_)
   rcases hl _ hk with h2|h2|⟨j,hj,h2⟩
   ·have:=hfi.len;omega
   ·have:=hfi.len;omega
   ·have hlt:=pairwise_at (firsts_rise hn) hj (by omega)
    have hj2:FirstIs fs ((firstsOf fs).getD j 0):=first_is (getD_mem (by omega))
    have h3:=hfi.num
    rw[h2,hj2.num] at h3
    have:=Option.some.inj h3
    omega
  simp only[aSegs]
  split
  ·refine aSegs_nd hn k (i+1) false _ (by omega) h1 (fun x hx=>?_)
   rw[aSeg_more] at hx
   rcases List.mem_append.1 hx with hx|hx
   ·rcases hl x hx with h2|h2|⟨j,hj,h2⟩
    ·exact .inl h2
    ·exact .inr (.inl h2)
    ·exact .inr (.inr ⟨j,by omega,h2⟩)
   ·obtain rfl:x=nameOf logH ((firstsOf fs).getD i 0):=by simpa using hx
    exact .inr (.inr ⟨i,by omega,rfl⟩)
  ·exact h1
theorem aAll_nd{fs:Fs}(hn:(fs.map Prod.fst).Nodup):Nd fs (aAll fs (firstsOf fs)).1.needed:=by
 obtain⟨h1,h2⟩:=aMan_nd fs
 obtain⟨h3,h4⟩:=aCkpt_nd (firsts:=firstsOf fs) (aMan_A0 fs).1 h1 h2
 unfold aAll
 dsimp only
 split
 ·split
  ·unfold aLog
   split
   ·exact h3
   ·dsimp only
    split
    ·exact h3
    ·rename_i h5
     have hlt:=from_lt (aCkpt fs (firstsOf fs) (aMan fs AS.nil).1).1.base (firstsOf fs) 0 (-1) (by omega)
     rw[Nat.zero_add] at hlt
     have hlt2:fromGo (aCkpt fs (firstsOf fs) (aMan fs AS.nil).1).1.base (firstsOf fs)<(firstsOf fs).length:=hlt
     have h6:=aSegs_nd hn ((firstsOf fs).length-(fromGo (aCkpt fs (firstsOf fs) (aMan fs AS.nil).1).1.base (firstsOf fs)).toNat) (fromGo (aCkpt fs (firstsOf fs) (aMan fs AS.nil).1).1.base (firstsOf fs)).toNat true { (aCkpt fs (firstsOf fs) (aMan fs AS.nil).1).1 with last:=(firstsOf fs).getD (fromGo (aCkpt fs (firstsOf fs) (aMan fs AS.nil).1).1.base (firstsOf fs)).toNat 0-1,segs:=(firstsOf fs).map fun f=>(f,0) } (by omega) h3 (fun x hx=>(h4 x hx).imp id .inl)
     split
     ·exact h6
     ·exact h6
  ·exact h3
 ·exact h1
theorem count_parts{l need:List Bs}(hl:l.Nodup)(hn:need.Nodup)(hs:∀ k∈need,k∈l):need.length+(leftOf need l).length+(othersOf need l).length=l.length:=by
 have h1:(l.filter fun n=>need.contains n).length=need.length:=by
  refine List.Perm.length_eq ((List.perm_ext_iff_of_nodup (hl.filter _) hn).2 fun a=>?_)
  rw[List.mem_filter]
  simp only[List.contains_iff_mem,and_iff_right_iff_imp]
  exact hs a
 rw[<-h1]
 unfold leftOf othersOf
 clear h1 hl hn hs
 induction l with
 | nil=>rfl
 | cons x t ih =>
  simp only[List.filter_cons,List.length_cons]
  cases need.contains x <;> cases ownB x <;> simp at ih ⊢ <;> omega
theorem look_count{fs:Fs}(h:(lookF fs).err≠1):(fs.map Prod.fst).Nodup/\(lookF fs).needed=(aAll fs (firstsOf fs)).1.needed/\(lookF fs).needed.length+(lookF fs).left.length+(lookF fs).others.length=fs.length/\(lookF fs).others=othersOf (aAll fs (firstsOf fs)).1.needed (sortN fs):=by
 unfold lookF at h ⊢
 by_cases hn:(fs.map Prod.fst).Nodup
 ·have hp:=List.mergeSort_perm (fs.map Prod.fst) leN
  have hnd:=aAll_nd hn
  have:=count_parts (l:=sortN fs) (hp.nodup_iff.2 hn) hnd.nodup (fun k hk=>hp.mem_iff.2 (hnd.there k hk))
  rw[show (sortN fs).length=fs.length by unfold sortN;rw[hp.length_eq,List.length_map]] at this
  rw[if_pos hn]
  unfold repOf
  split
  ·exact⟨hn,rfl,this,rfl⟩
  ·exact⟨hn,rfl,this,rfl⟩
 ·rw[if_neg hn] at h;exact absurd rfl h
set_option linter.unusedVariables false
theorem rowGo_sevens(most:Nat)(rest:Bs):∀ (u k acc:Nat),k+(sevens u).length<=most->(0<k->0<u)->rowGo most 127 (sevens u++rest) k acc=(0,acc+u*128 ^ k,k+(sevens u).length):=by
 intro u
 induction u using Nat.strongRecOn with
 | _ u ih =>
  intro k acc hk hu
  by_cases h:u<128
  ·have hn:(UInt8.ofNat u).toNat=u:=by simp;omega
   rw[sevens_lt h]
   show rowGo most 127 (UInt8.ofNat u :: rest) k acc=_
   simp only[rowGo]
   rw[hn,if_neg (by omega),if_pos h,if_neg (by intro ⟨h1,h2⟩;have:=hu h1;omega),Nat.mod_eq_of_lt h]
   rfl
  ·have hn:(UInt8.ofNat (u%128+128)).toNat=u%128+128:=by simp;omega
   have hl:=sevens_len_pos (u / 128)
   rw[sevens_ge (by omega)] at hk ⊢
   simp only[List.length_cons] at hk ⊢
   rw[List.cons_append]
   simp only[rowGo]
   rw[hn,if_neg (by omega),if_neg (by omega),ih (u / 128) (by omega) (k+1) _ (by omega) (by omega)]
   refine Prod.ext rfl (Prod.ext ?_ ?_)
   ·show acc+(u%128+128)%128*128 ^ k+u / 128*128 ^ (k+1)=acc+u*128 ^ k
    have e:u%128+u / 128*128=u:=by omega
    rw[show (u%128+128)%128=u%128 by omega,Nat.pow_succ,Nat.mul_comm (128 ^ k) 128,<-Nat.mul_assoc,Nat.add_assoc,<-Nat.add_mul,e]
   ·show k+1+_=k+(_+1)
    omega
theorem number_drop{d rest:Bs}{i u:Nat}(h:u<9223372036854775808)(hd:d.drop i=sevens u++rest):(⟨d,i,0⟩:RS).number=(u,⟨d,i+(sevens u).length,0⟩)/\d.drop (i+(sevens u).length)=rest:=by
 have hl:(sevens u).length<=9:=sevens_len_aux 9 u (by have:(128:Nat) ^ 9=9223372036854775808:=(by decide);omega) (by omega)
 refine⟨?_,by rw[<-List.drop_drop,hd,List.drop_left]⟩
 have hg:rowGo 9 127 ((⟨d,i,0⟩:RS).d.drop (⟨d,i,0⟩:RS).i) 0 0=(0,u,(sevens u).length):=by
  show rowGo 9 127 (d.drop i) 0 0=_
  rw[hd,rowGo_sevens 9 rest u 0 0 (by omega) (by omega)]
  simp
 exact RS.row_ok rfl hg
theorem text_drop{d s rest:Bs}{i:Nat}{most:Int}(hs:(s.length:Int)<=most)(hl:s.length<9223372036854775808)(hd:d.drop i=text s++rest):(⟨d,i,0⟩:RS).text most=(s,⟨d,i+(text s).length,0⟩)/\d.drop (i+(text s).length)=rest:=by
 have hd2:d.drop i=sevens s.length++(s++rest):=by rw[hd,text,List.append_assoc]
 obtain⟨h1,h2⟩:=number_drop hl hd2
 have hlen:(text s).length=(sevens s.length).length+s.length:=by simp[text]
 refine⟨?_,by rw[<-List.drop_drop,hd,List.drop_left]⟩
 unfold RS.text
 rw[if_neg (by simp)]
 simp only[h1]
 have hdl:d.length-(i+(sevens s.length).length)=s.length+rest.length:=by
  have:=congrArg List.length h2
  simpa using this
 rw[if_neg (by simp),if_neg (by omega),if_neg (by omega),h2,List.take_left,hlen,Nat.add_assoc]
def bodyM(m:Mf):Bs:=text manN++(sevens m.number.toNat++(sevens m.file.toNat++(sevens m.mark.toNat++(sevens m.prev.toNat++sevens m.pmark.toNat))))
def encM(m:Mf):Bs:=sealB (bodyM m)
theorem mayM_all{m:Mf}(h:mayM m=true):1<=m.number/\m.number<=281474976710655/\1<=m.file/\m.file<=281474976710655/\0<=m.mark/\m.mark<=281474976710655/\0<=m.prev/\m.prev<=281474976710655/\0<=m.pmark/\m.pmark<=281474976710655:=by
 unfold mayM at h
 simp only[Bool.and_eq_true,Bool.or_eq_true,decide_eq_true_eq,beq_iff_eq] at h
 omega
theorem bodyM_len{m:Mf}(h:mayM m=true):1<=(bodyM m).length/\(bodyM m).length<=100:=by
 obtain⟨h1,h2,h3,h4,h5,h6,h7,h8,h9,h10⟩:=mayM_all h
 have a1:=sevens_len (u:=m.number.toNat) (by omega)
 have a2:=sevens_len (u:=m.file.toNat) (by omega)
 have a3:=sevens_len (u:=m.mark.toNat) (by omega)
 have a4:=sevens_len (u:=m.prev.toNat) (by omega)
 have a5:=sevens_len (u:=m.pmark.toNat) (by omega)
 have a6:(text manN).length=9:=by
  unfold text
  rw[show manN.length=8 from rfl,sevens_lt (by omega)]
  rfl
 unfold bodyM
 simp only[List.length_append]
 omega
theorem decM_encM{m:Mf}(h:mayM m=true):decM (encM m)=(m,0):=by
 obtain⟨h1,h2,h3,h4,h5,h6,h7,h8,h9,h10⟩:=mayM_all h
 have hl:=bodyM_len h
 have hn:nextF (encM m) 0=(bodyM m,8+(bodyM m).length,0):=by
  have:=nextF_seal [] (bodyM m) [] hl.1 (by omega)
  simpa [encM] using this
 obtain⟨t1,t2⟩:=text_drop (d:=bodyM m) (i:=0) (s:=manN) (most:=8) (by decide) (by decide) (by rw[List.drop_zero];rfl)
 obtain⟨n1,d1⟩:=number_drop (by omega) t2
 obtain⟨n2,d2⟩:=number_drop (by omega) d1
 obtain⟨n3,d3⟩:=number_drop (by omega) d2
 obtain⟨n4,d4⟩:=number_drop (by omega) d3
 obtain⟨n5,d5⟩:=number_drop (u:=m.pmark.toNat) (rest:=[]) (by omega) (by rw[List.append_nil];exact d4)
 unfold decM
 simp only[hn]
 rw[if_neg (by simp),if_neg (by rw[encM,sealB_len];omega)]
 simp only[t1,n1,n2,n3,n4,n5]
 have hend:(⟨bodyM m,0+(text manN).length+(sevens m.number.toNat).length+(sevens m.file.toNat).length+(sevens m.mark.toNat).length+(sevens m.prev.toNat).length+(sevens m.pmark.toNat).length,0⟩:RS).end_=0:=by
  unfold RS.end_
  rw[if_neg]
  rintro⟨-,h⟩
  have:=List.drop_eq_nil_iff.1 d5
  dsimp only at h
  omega
 rw[hend]
 have hm:(⟨(m.number.toNat:Int),(m.file.toNat:Int),(m.mark.toNat:Int),(m.prev.toNat:Int),(m.pmark.toNat:Int)⟩:Mf)=m:=by
  cases m
  simp only at *
  simp only[Mf.mk.injEq]
  omega
 rw[hm,if_neg (by simp),if_neg (by simp),if_neg (by simp),if_neg (by simp),if_pos h]
end Go.Proofs.YtbppnihcbcdglaaGreat
