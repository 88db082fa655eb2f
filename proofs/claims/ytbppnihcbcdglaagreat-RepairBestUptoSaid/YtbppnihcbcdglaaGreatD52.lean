import Derived.Test.YtbppnihcbcdglaaGreatV8
import Derived.Test.YtbppnihcbcdglaaGreatZ1
namespace Go.Proofs.YtbppnihcbcdglaaGreat
set_option linter.unusedVariables false
def endGo(d:Fs)(mark:Int):Nat->Int->Int->Int
 | 0,_,last=>last
 | k+1,next,last =>
  match getF d (nameOf logH next) with
  | none=>last
  | some b =>
   let r:=segGo mark (scan b next) (next-1,0,false)
   if r.2.2 then mark else
   if r.2.1=0\/r.2.1<b.length then max last r.1 else endGo d mark k (r.1+1) (max last r.1)
def endF(d:Fs)(mark:Int):Int :=
 match fromOf (firstsOf d) mark with
 | none=>mark
 | some k=>endGo d mark (281474976710658-k).toNat k mark
theorem yU{d:Fs}{mark next last:Int}{k:Nat}(h:getF d (nameOf logH next)=none):endGo d mark k next last=last:=by
 cases k with
 | zero=>rfl
 | succ k=>unfold endGo;rw[h]
theorem yA{d:Fs}{mark next last:Int}{k:Nat}{b:Bs}(h:getF d (nameOf logH next)=some b)(hf:(segGo mark (scan b next) (next-1,0,false)).2.2=true):endGo d mark (k+1) next last=mark:=by
 unfold endGo;rw[h];dsimp only;rw[if_pos hf]
theorem yB{d:Fs}{mark next last la:Int}{k en:Nat}{b:Bs}(h:getF d (nameOf logH next)=some b)(hr:segGo mark (scan b next) (next-1,0,false)=(la,en,false))(he:en=0\/en<b.length):endGo d mark (k+1) next last=max last la:=by
 unfold endGo;rw[h];dsimp only;rw[hr];dsimp only;rw[if_neg (by simp),if_pos he]
theorem yC{d:Fs}{mark next last la:Int}{k en:Nat}{b:Bs}(h:getF d (nameOf logH next)=some b)(hr:segGo mark (scan b next) (next-1,0,false)=(la,en,false))(he:¬ (en=0\/en<b.length)):endGo d mark (k+1) next last=endGo d mark k (la+1) (max last la):=by
 conv=>lhs;unfold endGo
 rw[h];dsimp only;rw[hr];dsimp only;rw[if_neg (by simp),if_neg he]
theorem yK(b:Bs)(base nx:Int):nx-1<=(segGo base (scan b nx) (nx-1,0,false)).1:=by
 rcases seg_rise b base nx with⟨-,h⟩|⟨h,-,-⟩
 ·rw[h];exact Int.le_refl _
 ·omega
theorem yF(d:Fs)(mark:Int):∀ (n:Nat) (next:Int) (log:List (Bs×Nat)) (r:List (Bs×Nat)×Int),roadGo d mark n next log=some r->next-1<=r.2
 | 0,next,log,r,h=>by cases h;exact Int.le_refl _
 | n+1,next,log,r,h=>by
  unfold roadGo at h
  cases hg:getF d (nameOf logH next) with
  | none=>rw[hg] at h;cases h;exact Int.le_refl _
  | some b =>
   rw[hg] at h
   dsimp only at h
   have hu:=yK b mark next
   split at h
   ·cases h
   split at h
   ·cases h;exact hu
   ·have:=yF d mark n _ _ _ h
    omega
theorem yL{a b c:Int}(h:b<=c):max (max a b) c=max a c:=by
 have e1:max a b=a\/max a b=b:=by omega
 rcases e1 with e|e<;>rw[e]<;>omega
theorem yE(d:Fs)(mark:Int):∀ (n:Nat) (next last:Int) (log:List (Bs×Nat)),next-1<=last->endGo d mark n next last=match roadGo d mark n next log with
  | none=>mark
  | some r=>max last r.2
 | 0,next,last,log,h=>by show last=max last (next-1);omega
 | n+1,next,last,log,h=>by
  unfold endGo roadGo
  cases hg:getF d (nameOf logH next) with
  | none=>show last=max last (next-1);omega
  | some b =>
   dsimp only
   split
   ·rfl
   split
   ·rfl
   ·have hu:=yK b mark next
    rw[yE d mark n _ _ _ (by omega)]
    cases hr:roadGo d mark n ((segGo mark (scan b next) (next-1,0,false)).1+1) (log++[(nameOf logH next,(segGo mark (scan b next) (next-1,0,false)).2.1)]) with
    | none=>rfl
    | some r =>
     have:=yF d mark n _ _ _ hr
     dsimp only
     exact yL (by omega)
theorem yJ(d:Fs)(number mark:Int):endF d mark=(along d number mark).stop:=by
 unfold endF along
 cases hf:fromOf (firstsOf d) mark with
 | none=>rfl
 | some k =>
  dsimp only
  rw[yE d mark _ k mark [] (by have:=(from_le hf).2;omega)]
  cases roadGo d mark (281474976710658-k).toNat k [] with
  | none=>rfl
  | some r =>
   dsimp only
   split
   ·show max mark r.2=mark;omega
   ·show max mark r.2=r.2;omega
theorem yG{a b:Road}(h:furtherB a b=true):b.stop<=a.stop:=by
 unfold furtherB at h
 split at h
 ·have:=of_decide_eq_true h;omega
 ·rename_i h1;omega
theorem yH{a b:Road}(h:¬ furtherB a b=true):a.stop<=b.stop:=by
 unfold furtherB at h
 split at h
 ·have h2:¬ b.stop<a.stop:=fun h1=>h (decide_eq_true h1)
  omega
 ·rename_i h1;omega
theorem yI:∀ (l:List Road) (f:Road),f.stop<=(bestR f l).stop/\∀ x∈l,x.stop<=(bestR f l).stop
 | [],f=>⟨Int.le_refl _,fun x h=>by cases h⟩
 | y :: t,f=>by
  show f.stop<=(bestR (if furtherB y f then y else f) t).stop/\∀ x∈y :: t,x.stop<=(bestR (if furtherB y f then y else f) t).stop
  obtain⟨h1,h2⟩:=yI t (if furtherB y f then y else f)
  have h3:f.stop<=(if furtherB y f then y else f).stop/\y.stop<=(if furtherB y f then y else f).stop:=by
   by_cases h:furtherB y f=true
   ·rw[if_pos h];exact⟨yG h,Int.le_refl _⟩
   ·rw[if_neg h];exact⟨Int.le_refl _,yH h⟩
  refine⟨by omega,fun x hx=>?_⟩
  rcases List.mem_cons.1 hx with rfl|hx
  ·omega
  ·exact h2 x hx
theorem xF(enc:Mf->Bs){fs:Fs}(hn:(fs.map Prod.fst).Nodup)(he:(lookF fs).err≠0) :
  endF fs 0<=(mendF enc fs).last/\∀ x∈fs,∀ k:Int,numOfName ckptH x.1=(k,true)->(decG x.2).2=0->(decG x.2).1.number=k->endF fs (decG x.2).1.mark<=(mendF enc fs).last:=by
 have hd:dedF fs=fs:=by unfold dedF;rw[ded_self (by simpa using hn)];rfl
 have hl:(mendF enc fs).last=(bestR (along fs 0 0) (roadsOf fs)).stop:=by
  unfold mendF
  dsimp only
  rw[hd]
  unfold stayF
  rw[if_neg he]
  unfold ledF
  dsimp only
  split<;>rfl
 rw[hl]
 obtain⟨h1,h2⟩:=yI (roadsOf fs) (along fs 0 0)
 refine⟨by rw[yJ fs 0 0];exact h1,fun x hx k hk h3 h4=>?_⟩
 rw[yJ fs k]
 refine h2 _ ?_
 have hg:datC fs k=x.2:=by
  unfold datC
  rw[(numOf_name hk).1,getF_of_mem hn hx];rfl
 refine List.mem_filterMap.2 ⟨k,?_,?_⟩
 ·unfold ckptsOf
  rw[List.mem_mergeSort]
  refine List.mem_filterMap.2 ⟨x,hx,?_⟩
  unfold ckptOf
  rw[hk,if_pos rfl]
 ·rw[hg,if_pos ⟨h3,h4⟩]
def xH(mark a:Int)(n:Bs):Int:=if (numOfName logH n).2=true/\(numOfName logH n).1<=mark+1/\a<(numOfName logH n).1 then (numOfName logH n).1 else a
def atGo(mark:Int)(l:Fs):Int:=l.foldl (fun a x=>xH mark a x.1) 0
theorem yM(mark:Int)(l:Fs)(x:Bs×Bs):atGo mark (l++[x])=xH mark (atGo mark l) x.1:=by
 unfold atGo;rw[List.foldl_append];rfl
theorem yN{n:Bs}{v:Int}:firstOf n=some v↔(numOfName logH n).2=true/\(numOfName logH n).1=v:=by
 unfold firstOf
 split
 ·rename_i h;simp[h]
 ·rename_i h;simp[h]
theorem at_go(mark:Int):∀ (l:Fs) (a:Int),(l.foldl (fun a x=>xH mark a x.1) a=a\/(l.foldl (fun a x=>xH mark a x.1) a∈rawFirsts l/\l.foldl (fun a x=>xH mark a x.1) a<=mark+1))/\a<=l.foldl (fun a x=>xH mark a x.1) a/\∀ v∈rawFirsts l,v<=mark+1->v<=l.foldl (fun a x=>xH mark a x.1) a
 | [],a=>⟨.inl rfl,Int.le_refl _,fun v h=>by cases h⟩
 | x :: t,a=>by
  obtain⟨h1,h2,h3⟩:=at_go mark t (xH mark a x.1)
  have hr:∀ v,v∈rawFirsts (x :: t)↔firstOf x.1=some v\/v∈rawFirsts t:=by
   intro v
   unfold rawFirsts
   simp only[List.mem_filterMap,List.mem_cons]
   constructor
   ·rintro⟨y,rfl|hy,h⟩
    ·exact .inl h
    ·exact .inr ⟨y,hy,h⟩
   ·rintro(h|⟨y,hy,h⟩)
    ·exact⟨x,.inl rfl,h⟩
    ·exact⟨y,.inr hy,h⟩
  have hs:(xH mark a x.1=a\/(firstOf x.1=some (xH mark a x.1)/\xH mark a x.1<=mark+1))/\a<=xH mark a x.1/\∀ v,firstOf x.1=some v->v<=mark+1->v<=xH mark a x.1:=by
   unfold xH
   split
   ·rename_i h
    exact⟨.inr ⟨yN.2 ⟨h.1,rfl⟩,h.2.1⟩,by omega,fun v hv hm=>by rw[(yN.1 hv).2];exact Int.le_refl _⟩
   ·rename_i h
    refine⟨.inl rfl,Int.le_refl _,fun v hv hm=>?_⟩
    obtain⟨h4,h5⟩:=yN.1 hv
    rw[h5] at h
    apply Classical.byContradiction
    intro h6
    exact h ⟨h4,hm,by omega⟩
  show ((t.foldl (fun a x=>xH mark a x.1) (xH mark a x.1))=a\/_)/\_<=(t.foldl (fun a x=>xH mark a x.1) (xH mark a x.1))/\∀ v∈rawFirsts (x :: t),v<=mark+1->v<=(t.foldl (fun a x=>xH mark a x.1) (xH mark a x.1))
  refine⟨?_,by omega,fun v hv hm=>?_⟩
  ·rcases h1 with h1|h1
   ·rcases hs.1 with h4|h4
    ·exact .inl (h1.trans h4)
    ·refine .inr ⟨(hr _).2 (.inl ?_),?_⟩
     ·show firstOf x.1=some (t.foldl (fun a x=>xH mark a x.1) (xH mark a x.1))
      rw[h1];exact h4.1
     ·show (t.foldl (fun a x=>xH mark a x.1) (xH mark a x.1))<=mark+1
      rw[h1];exact h4.2
   ·exact .inr ⟨(hr _).2 (.inr h1.1),h1.2⟩
  ·rcases (hr v).1 hv with h|h
   ·have:=hs.2.2 v h hm;omega
   ·exact h3 v h hm
theorem yV{fs:Fs}(hn:(fs.map Prod.fst).Nodup)(mark:Int):(atGo mark fs=0/\fromOf (firstsOf fs) mark=none)\/(1<=atGo mark fs/\atGo mark fs<=281474976710655/\atGo mark fs<=mark+1/\fromOf (firstsOf fs) mark=some (atGo mark fs)):=by
 obtain⟨h1,h2,h3⟩:=at_go mark fs 0
 have hm:∀ v,v∈firstsOf fs↔v∈rawFirsts fs:=fun v=>by unfold firstsOf;rw[List.mem_mergeSort]
 cases hf:fromOf (firstsOf fs) mark with
 | none =>
  refine .inl ⟨?_,rfl⟩
  rcases h1 with h1|h1
  ·exact h1
  ·exfalso
   unfold fromOf at hf
   rw[List.getLast?_eq_none_iff] at hf
   have:(fs.foldl (fun a x=>xH mark a x.1) 0)∈(firstsOf fs).filter (fun k=>decide (k<=mark+1)):=List.mem_filter.2 ⟨(hm _).2 h1.1,decide_eq_true h1.2⟩
   rw[hf] at this
   cases this
 | some z =>
  obtain⟨hz1,hz2⟩:=from_le hf
  have hF:=first_is hz1
  have hz:=h3 z ((hm z).1 hz1) hz2
  have hone:=hF.one
  rcases h1 with h1|h1
  ·exfalso
   rw[h1] at hz
   omega
  ·have hG:=first_is ((hm _).2 h1.1)
   refine .inr ⟨hG.one,hG.max,h1.2,?_⟩
   have hle:(fs.foldl (fun a x=>xH mark a x.1) 0)<=z:=by
    have hp:((firstsOf fs).filter (fun k=>decide (k<=mark+1))).Pairwise (· < ·):=(firsts_rise hn).filter _
    have hmem:(fs.foldl (fun a x=>xH mark a x.1) 0)∈(firstsOf fs).filter (fun k=>decide (k<=mark+1)):=List.mem_filter.2 ⟨(hm _).2 h1.1,decide_eq_true h1.2⟩
    unfold fromOf at hf
    generalize (firstsOf fs).filter (fun k=>decide (k<=mark+1))=l at hp hmem hf
    obtain⟨ys,rfl⟩:=List.getLast?_eq_some_iff.1 hf
    rcases List.mem_append.1 hmem with h|h
    ·have:=(List.pairwise_append.1 hp).2.2 _ h z (by simp)
     omega
    ·rw[List.mem_singleton.1 h];exact Int.le_refl _
   have:atGo mark fs=z:=Int.le_antisymm hle hz
   rw[this]
def NoSeg(l:Fs)(n:Int):Prop:=∀ x∈l,numOfName logH x.1≠(n,true)
theorem yD{fs:Fs}{mark aa last:Int}{k:Nat}(h:NoSeg fs aa)(h1:1<=aa)(h2:aa<=281474976710656)(hl:aa-1<=last):endGo fs mark k aa last=last:=by
 cases hg:getF fs (nameOf logH aa) with
 | none=>exact yU hg
 | some b =>
  by_cases h3:aa<=281474976710655
  ·exact absurd (num_name logH aa h1 h3) (h _ (getF_mem hg))
  ·cases k with
   | zero=>rfl
   | succ k =>
    rcases seg_rise b mark aa with⟨-,hr⟩|⟨hr1,hr2,-⟩
    ·rw[yB hg hr (.inl rfl)]
     omega
    ·omega
def EndIn(fs:Fs)(mark aa last0:Int)(i:Nat)(N L:Int):Prop :=
 (NoSeg (fs.take i) aa/\N=0/\L=last0)\/(∃ d la en,getF fs (nameOf logH aa)=some d/\NoSeg (fs.drop i) aa/\segGo mark (scan d aa) (aa-1,0,false)=(la,en,false)/\N=(if en=0\/en<d.length then 0 else la+1)/\L=max last0 la)
theorem yO(fs:Fs)(mark aa last0:Int):EndIn fs mark aa last0 0 0 last0 := .inl ⟨(fun x h=>by cases h),rfl,rfl⟩
theorem yP{fs:Fs}{mark aa last0:Int}{i:Nat}{N L:Int}{x:Bs×Bs}(hx:fs[i]?=some x)(hne:numOfName logH x.1≠(aa,true))(h:EndIn fs mark aa last0 i N L):EndIn fs mark aa last0 (i+1) N L:=by
 rcases h with⟨h1,h2,h3⟩|⟨d,la,en,h1,h2,h3⟩
 ·refine .inl ⟨?_,h2,h3⟩
  intro y hy
  rw[List.take_add_one,hx] at hy
  rcases List.mem_append.1 hy with hy|hy
  ·exact h1 y hy
  ·rw[Option.toList_some,List.mem_singleton] at hy
   rw[hy];exact hne
 ·refine .inr ⟨d,la,en,h1,?_,h3⟩
  intro y hy
  refine h2 y ?_
  obtain⟨hi,rfl⟩:=List.getElem?_eq_some_iff.1 hx
  rw[List.drop_eq_getElem_cons hi]
  exact List.mem_cons_of_mem _ hy
theorem yQ{fs:Fs}(hn:(fs.map Prod.fst).Nodup){mark aa last0:Int}{i:Nat}{N L:Int}{x:Bs×Bs}(hx:fs[i]?=some x)(he:numOfName logH x.1=(aa,true))(h:EndIn fs mark aa last0 i N L) :
  N=0/\L=last0/\getF fs (nameOf logH aa)=some x.2/\∀ la en,segGo mark (scan x.2 aa) (aa-1,0,false)=(la,en,false)->EndIn fs mark aa last0 (i+1) (if en=0\/en<x.2.length then 0 else la+1) (max last0 la):=by
 obtain⟨hi,hxe⟩:=List.getElem?_eq_some_iff.1 hx
 have hg:getF fs (nameOf logH aa)=some x.2:=by
  rw[(numOf_name he).1]
  exact getF_of_mem hn (List.mem_of_getElem? hx)
 rcases h with⟨h1,h2,h3⟩|⟨d,la,en,h1,h2,h3⟩
 ·refine⟨h2,h3,hg,fun la en hs => .inr ⟨x.2,la,en,hg,?_,hs,rfl,rfl⟩⟩
  intro y hy hye
  have hname:y.1=x.1:=(numOf_name hye).1.symm.trans (numOf_name he).1
  rw[<-List.take_append_drop (i+1) fs,List.map_append,List.nodup_append] at hn
  refine hn.2.2 x.1 ?_ y.1 (List.mem_map.2 ⟨y,hy,rfl⟩) hname.symm
  refine List.mem_map.2 ⟨x,?_,rfl⟩
  rw[List.take_add_one,hx]
  simp
 ·exfalso
  refine h2 x ?_ he
  rw[List.drop_eq_getElem_cons hi,hxe]
  exact List.mem_cons_self
def OutR(fs:Fs)(mark:Int)(kk:Nat)(aa L:Int):Prop:=(0<=L/\L<=281474976710655)/\((aa=0/\endF fs mark=L)\/(1<=aa/\aa<=281474976710656/\endF fs mark=endGo fs mark kk aa L/\281474976710657-aa<=(kk:Int)/\aa-1<=L))
theorem yR{fs:Fs}(hn:(fs.map Prod.fst).Nodup){mark:Int}(hm:0<=mark/\mark<=281474976710655):OutR fs mark (281474976710658-atGo mark fs).toNat (atGo mark fs) mark:=by
 refine⟨hm,?_⟩
 rcases yV hn mark with⟨h1,h2⟩|⟨h1,h2,h3,h4⟩
 ·refine .inl ⟨h1,?_⟩
  unfold endF;rw[h2]
 ·refine .inr ⟨h1,by omega,?_,by omega,by omega⟩
  unfold endF;rw[h4]
theorem yS{fs:Fs}{mark aa L:Int}{kk:Nat}{d:Bs}(h:OutR fs mark kk aa L)(h0:aa≠0)(hg:getF fs (nameOf logH aa)=some d)(hs:(segGo mark (scan d aa) (aa-1,0,false)).2.2=true):endF fs mark=mark:=by
 obtain⟨-,h|⟨h1,h2,h3,h4,h5⟩⟩:=h
 ·exact absurd h.1 h0
 ·obtain⟨k,rfl⟩:∃ k,kk=k+1:=⟨kk-1,by omega⟩
  rw[h3,yA hg hs]
theorem yT{fs:Fs}{mark aa L N L2:Int}{kk:Nat}(h:OutR fs mark kk aa L)(h0:aa≠0)(hi:EndIn fs mark aa L fs.length N L2):∃ k,k<kk/\OutR fs mark k N L2:=by
 obtain⟨⟨hL1,hL2⟩,h|⟨h1,h2,h3,h4,h5⟩⟩:=h
 ·exact absurd h.1 h0
 ·obtain⟨k,rfl⟩:∃ k,kk=k+1:=⟨kk-1,by omega⟩
  refine⟨k,Nat.lt_succ_self k,?_⟩
  rcases hi with⟨g1,rfl,rfl⟩|⟨d,la,en,g1,g2,g3,rfl,rfl⟩
  ·rw[List.take_length] at g1
   refine⟨⟨hL1,hL2⟩,.inl ⟨rfl,?_⟩⟩
   rw[h3,yD g1 h1 h2 h5]
  ·have hla:la<=281474976710655/\aa-1<=la/\(en=0\/aa<=la):=by
    rcases seg_rise d mark aa with⟨-,hr⟩|⟨hr1,hr2,-⟩
    ·rw[g3] at hr;cases hr
     exact⟨by omega,by omega,.inl rfl⟩
    ·rw[g3] at hr1 hr2
     dsimp only at hr1 hr2
     exact⟨hr2,by omega,.inr hr1⟩
   refine⟨⟨by omega,by omega⟩,?_⟩
   by_cases he:en=0\/en<d.length
   ·rw[if_pos he]
    refine .inl ⟨rfl,?_⟩
    rw[h3,yB g1 g3 he]
   ·rw[if_neg he]
    refine .inr ⟨by omega,by omega,?_,by omega,by omega⟩
    rw[h3,yC g1 g3 he]
end Go.Proofs.YtbppnihcbcdglaaGreat
