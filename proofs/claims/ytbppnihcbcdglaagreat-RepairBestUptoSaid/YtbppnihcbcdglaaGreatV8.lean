/- Plain words: repair: two files, one of them none of the store's. No program here. No condition. -/
import Derived.Sort.Walk0
import Derived.Test.YtbppnihcbcdglaaGreatZ1
namespace Go.Proofs.YtbppnihcbcdglaaGreat
theorem FirstIs.max{fs:Fs}{f:Int}(h:FirstIs fs f):f<=281474976710655:=by
 have:=h.len
 unfold nameOf at this
 split at this
 ·cases this
 ·omega
theorem fromGo_snoc(base:Int)(l:List Int)(x:Int):fromGo base (l++[x])=if x<=base+1 then (l.length:Int) else fromGo base l:=by
 unfold fromGo
 rw[List.zipIdx_append,List.foldl_append]
 simp[fromStep]
theorem fromGo_bounds(base:Int)(l:List Int) : -1<=fromGo base l/\fromGo base l<l.length:=by
 have h1:=from_lt base l 0 (-1) (by omega)
 rw[Nat.zero_add] at h1
 refine⟨?_,h1⟩
 have:∀ (l:List Int) (j:Nat) (r:Int),-1<=r -> -1<=(l.zipIdx j).foldl (fromStep base) r:=by
  intro l
  induction l with
  | nil=>intro j r h;exact h
  | cons x t ih =>
   intro j r h
   rw[List.zipIdx_cons,List.foldl_cons]
   refine ih _ _ ?_
   unfold fromStep
   split <;> omega
 exact this l 0 (-1) (by omega)
theorem scanGo_ok(b:Bs):∀ (k i:Nat) (nx:Int),∀ x∈scanGo b k i nx,chkB x.1=0
 | 0,_,_,x,h=>by cases h
 | k+1,i,nx,x,h=>by
  simp only[scanGo] at h
  split at h
  ·cases h
  ·split at h
   ·cases h
   ·rename_i hd
    rcases List.mem_cons.1 h with h|h
    ·subst h
     have he:(decB (nextF b i).1).2=0:=by
      apply Classical.byContradiction
      intro hne
      exact hd (.inl hne)
     exact(decB_ok (b:=(nextF b i).1) (x:=(decB (nextF b i).1).1) (by rw[<-he])).1
    ·exact scanGo_ok b k _ _ x h
def Mid(x:Int):Prop := -1000000000000000000<=x/\x<=1000000000000000000
theorem segGo_mid(base:Int):∀ (l:List (Bt×Nat)) (a:Int×Nat×Bool),(∀ x∈l,chkB x.1=0)->Mid a.1->Mid (segGo base l a).1
 | [],_,_,h=>h
 | x :: l,a,hl,h=>by
  refine segGo_mid base l (segStep base a x) (fun y hy=>hl y (.tail _ hy)) ?_
  have:=chkB_ok (hl x (.head _))
  show Mid (x.1.first+x.1.txns.length-1)
  unfold Mid
  omega
theorem aSeg_mid{fs:Fs}{firsts:List Int}{i:Nat}{first:Bool}{s:AS}(h:Mid s.last):Mid (aSeg fs firsts i first s).1.last:=by
 unfold aSeg
 dsimp only
 split
 ·exact segGo_mid _ _ _ (scanGo_ok _ _ _ _) h
 ·exact h
theorem aSeg_len(fs:Fs)(firsts:List Int)(i:Nat)(first:Bool)(s:AS):(aSeg fs firsts i first s).1.needed.length=s.needed.length+1:=by unfold aSeg;dsimp only;split <;> simp[AS.need]
theorem aSeg_fst(fs:Fs)(firsts:List Int)(i:Nat)(first:Bool){s:AS}(h:s.segs.map Prod.fst=firsts):(aSeg fs firsts i first s).1.segs.map Prod.fst=firsts/\(aSeg fs firsts i first s).1.base=s.base:=by
 unfold aSeg
 dsimp only
 split
 ·exact⟨set_fst h _ _,rfl⟩
 ·exact⟨h,rfl⟩
def logFin(r:AS×Bool):AS×Bool:=if r.2 then (r.1,decide (r.1.base<=r.1.last)) else r
def seg0(f:Int):Int×Int:=(f,0)
theorem aLog_eq(fs:Fs)(firsts:List Int)(s:AS)(h:firsts.length≠0):aLog fs firsts s=if fromGo s.base firsts<0 then ({ s with last:=s.base,segs:=firsts.map seg0 },false) else
  logFin (aSegs fs firsts (firsts.length-(fromGo s.base firsts).toNat) (fromGo s.base firsts).toNat true { s with last:=firsts.getD (fromGo s.base firsts).toNat 0-1,segs:=firsts.map seg0 }):=by
 unfold aLog
 rw[if_neg h]
 rfl
theorem aSegs_mid{fs:Fs}{firsts:List Int}:∀ (k i:Nat) (first:Bool) (s:AS),s.segs.map Prod.fst=firsts->Mid s.last->Mid (aSegs fs firsts k i first s).1.last/\(aSegs fs firsts k i first s).1.base=s.base
 | 0,_,_,_,_,h=>⟨h,rfl⟩
 | k+1,i,first,s,hf,h=>by
  have h1:=aSeg_mid (fs:=fs) (firsts:=firsts) (i:=i) (first:=first) h
  obtain⟨h2,h3⟩:=aSeg_fst fs firsts i first hf
  simp only[aSegs]
  split
  ·obtain⟨h4,h5⟩:=aSegs_mid k (i+1) false _ h2 h1
   exact⟨h4,h5.trans h3⟩
  ·exact⟨h1,h3⟩
theorem mid_of{x:Int}(h:0<=x/\x<=281474976710655):Mid x:=by unfold Mid;omega
theorem aLog_mid{fs:Fs}{firsts:List Int}{s:AS}(hb:0<=s.base/\s.base<=281474976710655)(hff:∀ f∈firsts,FirstIs fs f):Mid (aLog fs firsts s).1.last/\Mid (aLog fs firsts s).1.base:=by
 by_cases h0:firsts.length=0
 ·unfold aLog
  rw[if_pos h0]
  exact⟨mid_of hb,mid_of hb⟩
 ·rw[aLog_eq fs firsts s h0]
  split
  ·exact⟨mid_of hb,mid_of hb⟩
  ·have hm:Mid (firsts.getD (fromGo s.base firsts).toNat 0-1):=by
    unfold Mid
    rw[List.getD_eq_getElem?_getD]
    cases hx:firsts[(fromGo s.base firsts).toNat]? with
    | none=>simp
    | some f =>
     have h1:=(hff f (List.mem_of_getElem? hx)).max
     have h2:=(hff f (List.mem_of_getElem? hx)).one
     simp only[Option.getD_some]
     omega
   obtain⟨h1,h2⟩:=aSegs_mid (fs:=fs) (firsts:=firsts) (firsts.length-(fromGo s.base firsts).toNat) (fromGo s.base firsts).toNat true { s with last:=firsts.getD (fromGo s.base firsts).toNat 0-1,segs:=firsts.map seg0 } (by simp[Function.comp_def,seg0]) hm
   have h3:Mid (aSegs fs firsts (firsts.length-(fromGo s.base firsts).toNat) (fromGo s.base firsts).toNat true { s with last:=firsts.getD (fromGo s.base firsts).toNat 0-1,segs:=firsts.map seg0 }).1.base:=by rw[h2];exact mid_of hb
   unfold logFin
   split
   ·exact⟨h1,h3⟩
   ·exact⟨h1,h3⟩
theorem aAll_short{fs:Fs}(hn:(fs.map Prod.fst).Nodup):(aAll fs (firstsOf fs)).1.needed.length<=fs.length:=by
 have h:=aAll_nd hn
 have:=count_parts hn h.nodup h.there
 rw[List.length_map] at this
 omega
theorem raw_len(fs:Fs):(rawFirsts fs).length<=fs.length:=List.length_filterMap_le _ _
theorem firsts_len(fs:Fs):(firstsOf fs).length<=fs.length:=by
 unfold firstsOf
 rw[List.length_mergeSort]
 exact raw_len fs
theorem firsts_is(fs:Fs):∀ i,i<(firstsOf fs).length->FirstIs fs ((firstsOf fs).getD i 0):=fun i hi=>first_is (by
 rw[List.getD_eq_getElem?_getD,List.getElem?_eq_getElem hi]
 exact List.getElem_mem hi)
theorem aMan_needs(fs:Fs):(aMan fs AS.nil).1.needed.length<=1:=by
 unfold aMan
 split
 ·simp[AS.nil]
 ·dsimp only
  split <;> simp[AS.need,AS.nil]
theorem aFits_needs(fs:Fs)(s:AS)(n m:Int):(aFits fs s n m).1.needed.length<=s.needed.length+1:=by
 unfold aFits
 split <;> simp[AS.need]
theorem aCkpt_needs(fs:Fs)(firsts:List Int)(s:AS):(aCkpt fs firsts s).1.needed.length<=s.needed.length+2:=by
 have h1:=aFits_needs fs s s.man.file s.man.mark
 have h2:=aFits_needs fs (aFits fs s s.man.file s.man.mark).1 s.man.prev s.man.pmark
 unfold aCkpt
 dsimp only
 repeat' split
 all_goals (dsimp only;omega)
theorem aAll_man{fs:Fs}{firsts:List Int}{s:AS}(h:aMan fs AS.nil=(s,false)):aAll fs firsts=(s,false):=by unfold aAll;rw[h];rfl
theorem aAll_ckpt{fs:Fs}{firsts:List Int}{s s':AS}(h:aMan fs AS.nil=(s,true))(h':aCkpt fs firsts s=(s',false)):aAll fs firsts=(s',false):=by unfold aAll;simp only[h,if_true];rw[h'];rfl
theorem aAll_log{fs:Fs}{firsts:List Int}{s s':AS}(h:aMan fs AS.nil=(s,true))(h':aCkpt fs firsts s=(s',true)):aAll fs firsts=aLog fs firsts s':=by unfold aAll;simp only[h,if_true];rw[h'];rfl
set_option linter.unusedVariables false
theorem look_short(fs:Fs):(lookF fs).segs.length<=fs.length/\(lookF fs).needed.length<=fs.length/\(lookF fs).left.length<=fs.length/\(lookF fs).others.length<=fs.length:=by
 have h1:(lookF fs).segs.length<=fs.length:=by
  by_cases h:(lookF fs).err=0
  ·have:=congrArg List.length (look_means h).2.2.2.2.2.2.1
   rw[List.length_map] at this
   rw[this];exact firsts_len fs
  ·rw[(look_bad h).2.2.2.2.2];exact Nat.zero_le _
 by_cases h:(lookF fs).err=1
 ·have:¬ (fs.map Prod.fst).Nodup:=by
   intro hn
   unfold lookF at h
   rw[if_pos hn] at h
   unfold repOf at h
   split at h <;> cases h
  have h2:lookF fs=Rp.arg:=by unfold lookF;rw[if_neg this]
  rw[h2]
  exact⟨Nat.zero_le _,Nat.zero_le _,Nat.zero_le _,Nat.zero_le _⟩
 ·have:=(look_count h).2.2.1
  exact⟨h1,by omega,by omega,by omega⟩
def dedGo:Fs->Fs->Fs
 | d,[]=>d
 | d,x :: t=>dedGo (if (getF d x.1).isSome then d else d++[x]) t
def dedF(fs:Fs):Fs:=dedGo [] fs
def ckptOf(n:Bs):Option Int:=if (numOfName ckptH n).2 then some (numOfName ckptH n).1 else none
def ckptsOf(d:Fs):List Int:=(d.filterMap fun x=>ckptOf x.1).mergeSort leI
structure Road where
 number:Int
 mark:Int
 stop:Int
 log:List (Bs×Nat)
def roadGo(d:Fs)(mark:Int):Nat->Int->List (Bs×Nat)->Option (List (Bs×Nat)×Int)
 | 0,next,log=>some (log,next-1)
 | k+1,next,log =>
  match getF d (nameOf logH next) with
  | none=>some (log,next-1)
  | some b =>
   let r:=segGo mark (scan b next) (next-1,0,false)
   if r.2.2 then none else
   if r.2.1=0\/r.2.1<b.length then some (log++[(nameOf logH next,r.2.1)],r.1)
   else roadGo d mark k (r.1+1) (log++[(nameOf logH next,r.2.1)])
def fromOf(firsts:List Int)(mark:Int):Option Int:=(firsts.filter fun k=>decide (k<=mark+1)).getLast?
def along(d:Fs)(number mark:Int):Road :=
 match fromOf (firstsOf d) mark with
 | none=>⟨number,mark,mark,[]⟩
 | some k =>
  match roadGo d mark (281474976710658-k).toNat k [] with
  | none=>⟨number,mark,mark,[]⟩
  | some r=>if r.2<mark then ⟨number,mark,mark,[]⟩ else ⟨number,mark,r.2,r.1⟩
def furtherB(a b:Road):Bool:=if a.stop≠b.stop then decide (b.stop<a.stop) else if a.mark≠b.mark then decide (b.mark<a.mark) else decide (b.number<a.number)
def bestR(first:Road)(l:List Road):Road:=l.foldl (fun f x=>if furtherB x f then x else f) first
def datC(d:Fs)(k:Int):Bs:=(getF d (nameOf ckptH k)).getD []
def roadsOf(d:Fs):List Road:=(ckptsOf d).filterMap fun k=>if (decG (datC d k)).2=0/\(decG (datC d k)).1.number=k then some (along d k (decG (datC d k)).1.mark) else none
def setF(l:Fs)(n b:Bs):Fs:=if n∈l.map Prod.fst then l.map (fun x=>if x.1=n then (n,b) else x) else l++[(n,b)]
def ledF(enc:Mf->Bs)(d:Fs):Fs×Road :=
 let r:=bestR (along d 0 0) (roadsOf d)
 let st:=r.log.foldl (fun st x=>setF st x.1 (((getF d x.1).getD []).take x.2)) []
 if 0<r.number then
  let old:=decM ((getF d manN).getD [])
  let num:=if old.2=0/\old.1.number<281474976710655 then old.1.number+1 else 1
  (setF (setF st (nameOf ckptH r.number) ((getF d (nameOf ckptH r.number)).getD [])) manN (enc ⟨num,r.number,r.mark,0,0⟩),r)
 else (st,r)
def keptF(d:Fs)(r:Rp):Fs :=
 let st:=r.needed.foldl (fun st n=>setF st n ((getF d n).getD [])) []
 match r.segs.getLast? with
 | none=>st
 | some s=>setF st (nameOf logH s.1) (((getF d (nameOf logH s.1)).getD []).take s.2.toNat)
structure Md where
 files:Fs
 base:Int
 last:Int
 rep:Int
 dropped:List Bs
def stayF(enc:Mf->Bs)(d:Fs):Fs×Int×Int×Int :=
 if (lookF d).err=0 then (keptF d (lookF d),(lookF d).base,(lookF d).last,(lookF d).rep)
 else ((ledF enc d).1,(ledF enc d).2.mark,(ledF enc d).2.stop,(ledF enc d).2.stop-(ledF enc d).2.mark)
def withO(d st:Fs):Fs:=d.foldl (fun st x=>if ownB x.1 then st else setF st x.1 x.2) st
def mendF(enc:Mf->Bs)(fs:Fs):Md :=
 let d:=dedF fs
 let s:=stayF enc d
 let st:=withO d s.1
 ⟨(sortN st).map fun n=>(n,(getF st n).getD []),s.2.1,s.2.2.1,s.2.2.2,((d.filter fun x=>ownB x.1&&(getF s.1 x.1).isNone).map Prod.fst).mergeSort leN⟩
theorem getF_isSome(g:Fs)(k:Bs):(getF g k).isSome=decide (k∈g.map Prod.fst):=by
 by_cases hk:k∈g.map Prod.fst
 ·obtain⟨d,hd⟩:=getF_some hk
  rw[hd];simp[hk]
 ·cases hd:getF g k with
  | none=>simp[hk]
  | some d=>exact absurd (List.mem_map.2 ⟨_,getF_mem hd,rfl⟩) hk
theorem getF_append(a b:Fs)(k:Bs):getF (a++b) k=(getF a k).or (getF b k):=by
 induction a with
 | nil=>rfl
 | cons x t ih =>
  show (if x.1=k then some x.2 else getF (t++b) k)=(if x.1=k then some x.2 else getF t k).or (getF b k)
  by_cases h:x.1=k
  ·rw[if_pos h,if_pos h];rfl
  ·rw[if_neg h,if_neg h,ih]
theorem getF_put(l:Fs)(n b k:Bs):getF (l.map fun x=>if x.1=n then (n,b) else x) k=if k=n then (getF l k).map (fun _=>b) else getF l k:=by
 induction l with
 | nil=>by_cases h:k=n <;> simp[getF,h]
 | cons x t ih =>
  rw[List.map_cons]
  show (if (if x.1=n then (n,b) else x).1=k then some (if x.1=n then (n,b) else x).2 else getF (t.map fun x=>if x.1=n then (n,b) else x) k)=_
  rw[ih]
  by_cases hx:x.1=n
  ·rw[if_pos hx]
   show (if n=k then some b else _)=_
   by_cases hk:k=n
   ·rw[if_pos hk.symm,if_pos hk]
    show some b=(if x.1=k then some x.2 else getF t k).map _
    rw[if_pos (hx.trans hk.symm)];rfl
   ·rw[if_neg (fun e=>hk e.symm),if_neg hk,if_neg hk]
    show _=(if x.1=k then some x.2 else getF t k)
    rw[if_neg (fun e=>hk (e.symm.trans hx))]
  ·rw[if_neg hx]
   by_cases hk:x.1=k
   ·rw[if_pos hk,if_neg (fun e=>hx (hk.trans e))]
    show some x.2=(if x.1=k then some x.2 else getF t k)
    rw[if_pos hk]
   ·rw[if_neg hk]
    show _=if k=n then ((if x.1=k then some x.2 else getF t k).map fun _=>b) else (if x.1=k then some x.2 else getF t k)
    rw[if_neg hk]
theorem getF_set(l:Fs)(n b k:Bs):getF (setF l n b) k=if k=n then some b else getF l k:=by
 unfold setF
 split
 ·rename_i h
  rw[getF_put]
  split
  ·rename_i hk
   obtain⟨d,hd⟩:=getF_some h
   rw[hk,hd];rfl
  ·rfl
 ·rename_i h
  rw[getF_append]
  have hn:getF l n=none:=by
   cases hd:getF l n with
   | none=>rfl
   | some d=>exact absurd (List.mem_map.2 ⟨_,getF_mem hd,rfl⟩) h
  show (getF l k).or (if n=k then some b else none)=_
  by_cases hk:k=n
  ·rw[if_pos hk,if_pos hk.symm,hk,hn];rfl
  ·rw[if_neg hk,if_neg (fun e=>hk e.symm)]
   cases getF l k <;> rfl
theorem set_names(l:Fs)(n b:Bs):(setF l n b).map Prod.fst=if n∈l.map Prod.fst then l.map Prod.fst else l.map Prod.fst++[n]:=by
 unfold setF
 split
 ·rw[List.map_map]
  refine List.map_congr_left fun x _=>?_
  simp only[Function.comp]
  split
  ·rename_i h;exact h.symm
  ·rfl
 ·rw[List.map_append];rfl
theorem nodup_snoc{l:List Bs}{n:Bs}(h:l.Nodup)(hn:n∉l):(l++[n]).Nodup:=by
 refine List.nodup_append.2 ⟨h,by simp,fun a ha b hb e=>hn ?_⟩
 have hb':b=n:=by simpa using hb
 rw[<-hb',<-e]
 exact ha
theorem set_nodup{l:Fs}(h:(l.map Prod.fst).Nodup)(n b:Bs):((setF l n b).map Prod.fst).Nodup:=by
 rw[set_names]
 split
 ·exact h
 ·rename_i hn
  exact nodup_snoc h hn
theorem ded_spec:∀ (fs d:Fs),(d.map Prod.fst).Nodup->((dedGo d fs).map Prod.fst).Nodup/\∀ k,getF (dedGo d fs) k=(getF d k).or (getF fs k)
 | [],d,h=>⟨h,fun k=>by cases hk:getF d k <;> rw[show dedGo d []=d from rfl,hk] <;> rfl⟩
 | x :: t,d,h=>by
  show ((dedGo (if (getF d x.1).isSome then d else d++[x]) t).map Prod.fst).Nodup/\_
  by_cases hx:(getF d x.1).isSome=true
  ·obtain⟨h1,h2⟩:=ded_spec t d h
   show _/\∀ k,getF (dedGo (if (getF d x.1).isSome then d else d++[x]) t) k=_
   rw[if_pos hx]
   refine⟨h1,fun k=>(h2 k).trans ?_⟩
   show _=(getF d k).or (if x.1=k then some x.2 else getF t k)
   by_cases hk:x.1=k
   ·rw[if_pos hk]
    rw[hk] at hx
    cases hd:getF d k with
    | none=>rw[hd] at hx;cases hx
    | some v=>rfl
   ·rw[if_neg hk]
  ·have hn:x.1∉d.map Prod.fst:=fun hm=>hx (by rw[getF_isSome];exact decide_eq_true hm)
   obtain⟨h1,h2⟩:=ded_spec t (d++[x]) (by
    rw[List.map_append]
    exact nodup_snoc h hn)
   show _/\∀ k,getF (dedGo (if (getF d x.1).isSome then d else d++[x]) t) k=_
   rw[if_neg hx]
   refine⟨h1,fun k=>(h2 k).trans ?_⟩
   rw[getF_append]
   show ((getF d k).or (if x.1=k then some x.2 else none)).or (getF t k)=(getF d k).or (if x.1=k then some x.2 else getF t k)
   by_cases hk:x.1=k
   ·rw[if_pos hk,if_pos hk]
    cases getF d k <;> rfl
   ·rw[if_neg hk,if_neg hk]
    cases getF d k <;> rfl
theorem ded_nodup(fs:Fs):((dedF fs).map Prod.fst).Nodup:=(ded_spec fs [] (by simp)).1
theorem ded_get(fs:Fs)(k:Bs):getF (dedF fs) k=getF fs k:=by
 rw[dedF,(ded_spec fs [] (by simp)).2 k];rfl
theorem ded_self:∀ {fs d:Fs},((d++fs).map Prod.fst).Nodup->dedGo d fs=d++fs
 | [],d,_=>(List.append_nil d).symm
 | x :: t,d,h=>by
  have hx:¬ (getF d x.1).isSome=true:=by
   rw[getF_isSome]
   intro hm
   rw[List.map_append,List.nodup_append] at h
   exact h.2.2 _ (of_decide_eq_true hm) x.1 (by simp) rfl
  show dedGo (if (getF d x.1).isSome then d else d++[x]) t=_
  rw[if_neg hx,ded_self (by rw[List.append_assoc];exact h),List.append_assoc]
  rfl
theorem ckpts_perm{a b:Fs}(hp:a.Perm b):ckptsOf b=ckptsOf a:=sortI_is (hp.symm.filterMap _)
theorem road_cong{a b:Fs}(h:∀ k,getF b k=getF a k)(mark:Int):∀ (n:Nat) (next:Int) (log:List (Bs×Nat)),roadGo b mark n next log=roadGo a mark n next log
 | 0,_,_=>rfl
 | n+1,next,log=>by
  unfold roadGo
  rw[h]
  cases getF a (nameOf logH next) with
  | none=>rfl
  | some d =>
   dsimp only
   split
   ·rfl
   split
   ·rfl
   ·exact road_cong h mark n _ _
theorem along_perm{a b:Fs}(hn:(a.map Prod.fst).Nodup)(hp:a.Perm b)(number mark:Int):along b number mark=along a number mark:=by
 unfold along
 rw[firsts_perm hp]
 cases fromOf (firstsOf a) mark with
 | none=>rfl
 | some k=>dsimp only;rw[road_cong (fun k=>getF_perm hn hp k)]
theorem led_perm(enc:Mf->Bs){a b:Fs}(hn:(a.map Prod.fst).Nodup)(hp:a.Perm b):ledF enc b=ledF enc a:=by
 have hg:=fun k=>getF_perm hn hp k
 have hr:roadsOf b=roadsOf a:=by
  unfold roadsOf datC
  rw[ckpts_perm hp]
  refine congrArg (fun f=>List.filterMap f (ckptsOf a)) (funext fun k=>?_)
  rw[hg,along_perm hn hp]
 unfold ledF
 rw[hr,along_perm hn hp,hg manN]
 simp only[hg]
theorem kept_perm{a b:Fs}(hn:(a.map Prod.fst).Nodup)(hp:a.Perm b)(r:Rp):keptF b r=keptF a r:=by
 unfold keptF
 simp only[fun k=>getF_perm hn hp k]
theorem stay_perm(enc:Mf->Bs){a b:Fs}(hn:(a.map Prod.fst).Nodup)(hp:a.Perm b):stayF enc b=stayF enc a:=by
 unfold stayF
 rw[look_perm hp,led_perm enc hn hp,kept_perm hn hp]
theorem with_get:∀ (d st:Fs) (k:Bs),(d.map Prod.fst).Nodup->getF (withO d st) k=if k∈d.map Prod.fst/\ownB k=false then getF d k else getF st k
 | [],st,k,_=>by rw[if_neg (by simp)];rfl
 | x :: t,st,k,h=>by
  rw[List.map_cons,List.nodup_cons] at h
  show getF (withO t (if ownB x.1 then st else setF st x.1 x.2)) k=_
  rw[with_get t _ k h.2]
  by_cases hk:x.1=k
  ·subst hk
   rw[if_neg (fun e=>h.1 e.1)]
   cases ho:ownB x.1 with
   | true=>rw[if_pos rfl,if_neg (by simp)]
   | false =>
    rw[if_neg (by simp),getF_set,if_pos rfl,if_pos ⟨by simp,rfl⟩]
    show _=(if x.1=x.1 then some x.2 else getF t x.1)
    rw[if_pos rfl]
  ·have e1:getF (if ownB x.1 then st else setF st x.1 x.2) k=getF st k:=by
    split
    ·rfl
    ·rw[getF_set,if_neg (fun e=>hk e.symm)]
   have e2:getF (x :: t) k=getF t k:=by show (if x.1=k then some x.2 else getF t k)=_;rw[if_neg hk]
   rw[e1,e2]
   have e3:(k∈(x :: t).map Prod.fst/\ownB k=false)↔(k∈t.map Prod.fst/\ownB k=false):=by
    rw[List.map_cons,List.mem_cons]
    exact⟨fun⟨h1,h2⟩=>⟨h1.resolve_left (fun e=>hk e.symm),h2⟩,fun⟨h1,h2⟩=>⟨.inr h1,h2⟩⟩
   simp only[e3]
theorem with_nodup:∀ (d:Fs) {st:Fs},(st.map Prod.fst).Nodup->((withO d st).map Prod.fst).Nodup
 | [],_,h=>h
 | x :: t,st,h=>by
  show ((withO t (if ownB x.1 then st else setF st x.1 x.2)).map Prod.fst).Nodup
  refine with_nodup t ?_
  split
  ·exact h
  ·exact set_nodup h _ _
theorem fold_nodup{α:Type}(f:α->Bs×Bs):∀ (l:List α) {st:Fs},(st.map Prod.fst).Nodup->((l.foldl (fun st x=>setF st (f x).1 (f x).2) st).map Prod.fst).Nodup
 | [],_,h=>h
 | x :: t,st,h=>fold_nodup f t (set_nodup h _ _)
theorem stay_nodup(enc:Mf->Bs)(d:Fs):((stayF enc d).1.map Prod.fst).Nodup:=by
 unfold stayF
 split
 ·unfold keptF
  have h:=fold_nodup (fun n=>(n,(getF d n).getD [])) (lookF d).needed (st:=[]) (by simp)
  dsimp only
  cases (lookF d).segs.getLast? with
  | none=>exact h
  | some s=>exact set_nodup h _ _
 ·unfold ledF
  dsimp only
  have h:=fold_nodup (fun x:Bs×Nat=>(x.1,((getF d x.1).getD []).take x.2)) (bestR (along d 0 0) (roadsOf d)).log (st:=[]) (by simp)
  split
  ·exact set_nodup (set_nodup h _ _) _ _
  ·exact h
theorem names_of_get{a b:Fs}(ha:(a.map Prod.fst).Nodup)(hb:(b.map Prod.fst).Nodup)(h:∀ k,getF b k=getF a k):sortN b=sortN a:=by
 refine sortN_is (l:=b.map Prod.fst) (l':=a.map Prod.fst) ((List.perm_ext_iff_of_nodup hb ha).2 fun k=>?_)
 have h1:=getF_isSome a k
 have h2:=getF_isSome b k
 rw[h k,h1] at h2
 exact⟨fun hk=>of_decide_eq_true (h2.trans (decide_eq_true hk)),fun hk=>of_decide_eq_true (h2.symm.trans (decide_eq_true hk))⟩
theorem mend_order(enc:Mf->Bs){a b:Fs}(hp:(dedF a).Perm (dedF b)):mendF enc b=mendF enc a:=by
 have hn:=ded_nodup a
 have hnb:=ded_nodup b
 unfold mendF
 dsimp only
 rw[stay_perm enc hn hp]
 generalize hs:stayF enc (dedF a)=s
 have hst:(s.1.map Prod.fst).Nodup:=by rw[<-hs];exact stay_nodup enc _
 have hg:∀ k,getF (withO (dedF b) s.1) k=getF (withO (dedF a) s.1) k:=by
  intro k
  rw[with_get _ _ _ hnb,with_get _ _ _ hn,getF_perm hn hp]
  simp only[(hp.map Prod.fst).mem_iff]
 rw[names_of_get (with_nodup _ hst) (with_nodup _ hst) hg]
 congr 1
 ·exact List.map_congr_left fun n _=>by rw[hg]
 ·exact sortN_is ((hp.symm.filter _).map _)
def pgKind(c:Nat)(s:PS)(all:Nat)(r:RS):Option (PS×RS):=if c=1 then pgHead s r else if c=2 then pgProc s all r else if c=3 then pgPage s all r else pgEnd s r
theorem pgEntries_more{all:Nat}:∀ {n:Nat} {s:PS} {r:RS} {x:PS×RS},pgEntries all n s r=some x->x.1.im.entries.length=s.im.entries.length+n/\x.1.im.procs=s.im.procs/\x.1.frames=s.frames
 | 0,s,r,x,h=>by cases h;exact⟨rfl,rfl,rfl⟩
 | n+1,s,r,x,h=>by
  simp only[pgEntries] at h
  split at h
  ·obtain⟨h1,h2,h3⟩:=pgEntries_more h
   refine⟨?_,h2,h3⟩
   rw[h1]
   simp
   omega
  ·cases h
theorem pgKind_len{c:Nat}{s:PS}{all:Nat}{r:RS}{x:PS×RS}(h:pgKind c s all r=some x):x.1.frames=s.frames/\x.1.im.procs.length<=s.im.procs.length+1/\x.1.im.entries.length<=s.im.entries.length+128:=by
 unfold pgKind at h
 split at h
 ·unfold pgHead at h
  dsimp only at h
  split at h
  ·cases h;exact⟨rfl,by simp,by simp⟩
  ·cases h
 split at h
 ·unfold pgProc at h
  dsimp only at h
  split at h
  ·cases h;exact⟨rfl,by simp,by simp⟩
  ·cases h
 split at h
 ·unfold pgPage at h
  dsimp only at h
  split at h
  ·rename_i hc
   obtain⟨h1,h2,h3⟩:=pgEntries_more h
   rw[h1,h2,h3]
   exact⟨rfl,by omega,by omega⟩
  ·cases h
 ·unfold pgEnd at h
  dsimp only at h
  split at h
  ·cases h;exact⟨rfl,by simp,by simp⟩
  ·cases h
structure PInv (s:PS) (i:Nat):Prop where
 procs:s.im.procs.length<=s.frames
 entries:s.im.entries.length<=128*s.frames
 frames:9*s.frames<=i
theorem PInv.nil:PInv PS.nil 0:=⟨Nat.le_refl _,Nat.le_refl _,Nat.le_refl _⟩
theorem pgFrame_of{body:Bs}{s:PS}{c:UInt8}{r1 r2:RS}{n:Nat}(h1:RS.byte ⟨body,0,0⟩=(c,r1))(h2:r1.number=(n,r2)) :
  pgFrame body s=if c.toNat<1\/4<c.toNat then none else if n≠s.frames then none else match pgKind c.toNat s body.length r2 with|none=>none|some x=>if x.2.end_=0 then some { x.1 with frames:=x.1.frames+1 } else none:=by
 unfold pgFrame
 simp only[h1,h2]
 rfl
theorem PInv.step{s s':PS}{i j:Nat}{body:Bs}(h:PInv s i)(hf:pgFrame body s=some s')(hj:i+9<=j):PInv s' j:=by
 obtain⟨c,r1,e1⟩:∃ c r1,RS.byte ⟨body,0,0⟩=(c,r1):=⟨_,_,rfl⟩
 obtain⟨n,r2,e2⟩:∃ n r2,r1.number=(n,r2):=⟨_,_,rfl⟩
 rw[pgFrame_of e1 e2] at hf
 split at hf
 ·cases hf
 split at hf
 ·cases hf
 split at hf
 ·cases hf
 ·rename_i x hx
  split at hf
  ·cases hf
   obtain⟨h1,h2,h3⟩:=pgKind_len hx
   have:=h.procs;have:=h.entries;have:=h.frames
   exact⟨by dsimp only;omega,by dsimp only;omega,by dsimp only;omega⟩
  ·cases hf
theorem nextF_nine{b:Bs}{i:Nat}(h:(nextF b i).2.2=0):i+9<=(nextF b i).2.1/\(nextF b i).2.1<=b.length/\(nextF b i).1.length<=b.length:=by
 have:=nextF_ok (b:=b) (i:=i) (body:=(nextF b i).1) (j:=(nextF b i).2.1) (by rw[<-h])
 omega
theorem pgGo_round{b body:Bs}{i j k:Nat}{s:PS}(hs:s.over=false)(hn:nextF b i=(body,j,0)):pgGo b (k+1) i s=match pgFrame body s with|none=>(Im.nil,3)|some s'=>pgGo b k j s':=by
 simp only[pgGo,hs,hn]
 rfl
theorem pgGo_end{b body:Bs}{i j k:Nat}{s:PS}(hs:s.over=false)(hn:nextF b i=(body,j,12)):pgGo b (k+1) i s=(Im.nil,2):=by
 simp only[pgGo,hs,hn]
 rfl
theorem pgGo_torn{b body:Bs}{i j k:Nat}{s:PS}{e:Int}(hs:s.over=false)(hn:nextF b i=(body,j,e))(h1:e≠12)(h2:e≠0):pgGo b (k+1) i s=(Im.nil,13):=by
 simp only[pgGo,hs,hn]
 rw[if_neg (by simp),if_neg h1,if_pos h2]
theorem pgGo_over{b:Bs}{i k:Nat}{s:PS}(hs:s.over=true):pgGo b (k+1) i s=if i=b.length then (s.im,0) else (Im.nil,3):=by
 simp only[pgGo,hs,if_true]
theorem segGo_flag(base:Int)(l:List (Bt×Nat)):∀ (a:Int×Nat×Bool),a.2.2=true->(segGo base l a).2.2=true:=by
 induction l with
 | nil=>exact fun a h=>h
 | cons x t ih=>exact fun a h=>ih (segStep base a x) (by unfold segStep;simp[h])
theorem segGo_append(base:Int)(l t:List (Bt×Nat))(a:Int×Nat×Bool):segGo base (l++t) a=segGo base t (segGo base l a):=by
 unfold segGo;rw[List.foldl_append]
theorem segGo_pre{base:Int}{l t:List (Bt×Nat)}{a:Int×Nat×Bool}(h:l <+: t)(hf:(segGo base l a).2.2=true):(segGo base t a).2.2=true:=by
 obtain⟨u,rfl⟩:=h
 rw[segGo_append]
 exact segGo_flag _ _ _ hf
theorem segGo_rise(b:Bs)(base:Int):∀ (k i:Nat) (nx:Int) (e:Nat) (c:Bool),
  (scanGo b k i nx=[]/\segGo base (scanGo b k i nx) (nx-1,e,c)=(nx-1,e,c))\/(nx<=(segGo base (scanGo b k i nx) (nx-1,e,c)).1/\(segGo base (scanGo b k i nx) (nx-1,e,c)).1<=281474976710655/\i<(segGo base (scanGo b k i nx) (nx-1,e,c)).2.1)
 | 0,_,_,_,_ => .inl ⟨rfl,rfl⟩
 | k+1,i,nx,e,c=>by
  unfold scanGo
  dsimp only
  split
  ·exact .inl ⟨rfl,rfl⟩
  ·rename_i h0
   split
   ·exact .inl ⟨rfl,rfl⟩
   ·rename_i h1
    refine .inr ?_
    have hx:chkB (decB (nextF b i).1).1=0/\(decB (nextF b i).1).1.first=nx:=by
     have he:(decB (nextF b i).1).2=0:=Classical.byContradiction fun hne=>h1 (.inl hne)
     exact⟨(decB_ok (b:=(nextF b i).1) (x:=(decB (nextF b i).1).1) (by rw[<-he])).1,Classical.byContradiction fun hne=>h1 (.inr hne)⟩
    have hj:i<(nextF b i).2.1:=by
     have he:(nextF b i).2.2=0:=Classical.byContradiction h0
     have:=nextF_ok (b:=b) (i:=i) (body:=(nextF b i).1) (j:=(nextF b i).2.1) (by rw[<-he])
     omega
    obtain⟨hc,hn⟩:=hx
    have hk:=chkB_ok hc
    show nx<=(segGo base (scanGo b k (nextF b i).2.1 (nx+(decB (nextF b i).1).1.txns.length)) (segStep base (nx-1,e,c) ((decB (nextF b i).1).1,(nextF b i).2.1))).1/\(segGo base (scanGo b k (nextF b i).2.1 (nx+(decB (nextF b i).1).1.txns.length)) (segStep base (nx-1,e,c) ((decB (nextF b i).1).1,(nextF b i).2.1))).1<=281474976710655/\i<(segGo base (scanGo b k (nextF b i).2.1 (nx+(decB (nextF b i).1).1.txns.length)) (segStep base (nx-1,e,c) ((decB (nextF b i).1).1,(nextF b i).2.1))).2.1
    obtain⟨c',hst⟩:∃ c',segStep base (nx-1,e,c) ((decB (nextF b i).1).1,(nextF b i).2.1)=(nx+(decB (nextF b i).1).1.txns.length-1,(nextF b i).2.1,c'):=⟨_,by unfold segStep;rw[hn]⟩
    rw[hst]
    rcases segGo_rise b base k (nextF b i).2.1 (nx+(decB (nextF b i).1).1.txns.length) (nextF b i).2.1 c' with ⟨-,h2⟩|⟨h2,h3,h4⟩
    ·rw[h2]
     dsimp only
     omega
    ·omega
theorem seg_rise(b:Bs)(base nx:Int):(scan b nx=[]/\segGo base (scan b nx) (nx-1,0,false)=(nx-1,0,false))\/(nx<=(segGo base (scan b nx) (nx-1,0,false)).1/\(segGo base (scan b nx) (nx-1,0,false)).1<=281474976710655/\0<(segGo base (scan b nx) (nx-1,0,false)).2.1) :=
 segGo_rise b base _ 0 nx 0 false
theorem roadGo_no{d:Fs}{mark next:Int}{k:Nat}{log:List (Bs×Nat)}(h:getF d (nameOf logH next)=none):roadGo d mark k next log=some (log,next-1):=by
 cases k with
 | zero=>rfl
 | succ k=>unfold roadGo;rw[h]
theorem roadGo_cross{d:Fs}{mark next:Int}{k:Nat}{log:List (Bs×Nat)}{b:Bs}(h:getF d (nameOf logH next)=some b)(hf:(segGo mark (scan b next) (next-1,0,false)).2.2=true):roadGo d mark (k+1) next log=none:=by
 unfold roadGo;rw[h];dsimp only;rw[if_pos hf]
theorem roadGo_last{d:Fs}{mark next la:Int}{k en:Nat}{log:List (Bs×Nat)}{b:Bs}(h:getF d (nameOf logH next)=some b)(hr:segGo mark (scan b next) (next-1,0,false)=(la,en,false))(he:en=0\/en<b.length):roadGo d mark (k+1) next log=some (log++[(nameOf logH next,en)],la):=by
 unfold roadGo;rw[h];dsimp only;rw[hr];dsimp only;rw[if_neg (by simp),if_pos he]
theorem roadGo_on{d:Fs}{mark next la:Int}{k en:Nat}{log:List (Bs×Nat)}{b:Bs}(h:getF d (nameOf logH next)=some b)(hr:segGo mark (scan b next) (next-1,0,false)=(la,en,false))(he:¬ (en=0\/en<b.length)):roadGo d mark (k+1) next log=roadGo d mark k (la+1) (log++[(nameOf logH next,en)]):=by
 conv=>lhs;unfold roadGo
 rw[h];dsimp only;rw[hr];dsimp only;rw[if_neg (by simp),if_neg he]
theorem log_new{log:List (Bs×Nat)}{next:Int}(hl:∀ x∈log,∃ j:Int,x.1=nameOf logH j/\1<=j/\j<next/\j<=281474976710655)(hn:1<=next):∀ x∈log,x.1≠nameOf logH next:=by
 intro x hx e
 obtain⟨j,h1,h2,h3,h4⟩:=hl x hx
 rw[h1] at e
 by_cases h5:next<=281474976710655
 ·have:=name_inj h2 h4 hn h5 e;omega
 ·have e2:nameOf logH next=[]:=by unfold nameOf;rw[if_pos (by omega)]
  rw[e2] at e
  have e3:(nameOf logH j).length=0:=by rw[e];rfl
  unfold nameOf at e3
  rw[if_neg (by omega)] at e3
  rw[List.length_append] at e3
  have:logH.length=0:=by omega
  revert this;decide
theorem from_take{l:List Int}(m:Int)(h:l.Pairwise (· < ·)):∀ (i:Nat),i<=l.length->(∀ j x,i<=j->l[j]? = some x->m<x)->(∀ x,0<i->l[i-1]? = some x->x<=m)->(l.filter fun k=>decide (k<=m)).getLast? = if 0<i then l[i-1]? else none:=by
 intro i hi h1 h2
 have e:l.filter (fun k=>decide (k<=m))=l.take i:=by
  conv=>lhs;rw[<-List.take_append_drop i l]
  rw[List.filter_append]
  have e1:(l.drop i).filter (fun k=>decide (k<=m))=[]:=by
   refine List.filter_eq_nil_iff.2 fun x hx=>?_
   obtain⟨j,hj⟩:=List.mem_iff_getElem?.1 hx
   rw[List.getElem?_drop] at hj
   have:=h1 _ x (by omega) hj
   simp;omega
  have e2:(l.take i).filter (fun k=>decide (k<=m))=l.take i:=by
   refine List.filter_eq_self.2 fun x hx=>?_
   obtain⟨j,hj⟩:=List.mem_iff_getElem?.1 hx
   have hlt:j<i:=by
    have:=(List.getElem?_eq_some_iff.1 hj).1
    rw[List.length_take] at this;omega
   rw[List.getElem?_take,if_pos hlt] at hj
   have hli:i-1<l.length:=by omega
   have h3:=h2 l[i-1] (by omega) (List.getElem?_eq_getElem hli)
   obtain⟨hjl,hje⟩:=List.getElem?_eq_some_iff.1 hj
   by_cases hji:j=i-1
   ·subst hji;rw[hje] at h3;simpa using h3
   ·have h4:=List.pairwise_iff_getElem.1 h j (i-1) hjl hli (by omega)
    rw[hje] at h4
    simp;omega
  rw[e1,e2,List.append_nil]
 rw[e,List.getLast?_eq_getElem?,List.length_take,Nat.min_eq_left hi]
 split
 ·rw[List.getElem?_take,if_pos (by omega)]
 ·have:i=0:=by omega
  subst this;rfl
theorem from_le{l:List Int}{mark k:Int}(h:fromOf l mark=some k):k∈l/\k<=mark+1:=by
 unfold fromOf at h
 have:=List.mem_of_getLast? h
 rw[List.mem_filter] at this
 exact⟨this.1,of_decide_eq_true this.2⟩
theorem getF_of_mem{fs:Fs}(hn:(fs.map Prod.fst).Nodup){x:Bs×Bs}(hx:x∈fs):getF fs x.1=some x.2:=by
 induction fs with
 | nil=>cases hx
 | cons y t ih =>
  rw[List.map_cons,List.nodup_cons] at hn
  show (if y.1=x.1 then some y.2 else getF t x.1)=some x.2
  rcases List.mem_cons.1 hx with rfl|hx
  ·rw[if_pos rfl]
  ·rw[if_neg (fun e=>hn.1 (List.mem_map.2 ⟨x,hx,e.symm⟩)),ih hn.2 hx]
theorem look_cut2{fs:Fs}(h:(lookF fs).err=0)(hne:firstsOf fs≠[]):∃ f e d,(lookF fs).needed.getLast? = some (nameOf logH f)/\(lookF fs).segs.getLast? = some (f,((e:Nat):Int))/\getF fs (nameOf logH f)=some d/\e<=d.length/\(d.length:Int)-(lookF fs).torn=e /\
  lookF (cutF fs (nameOf logH f) e) = { lookF fs with torn:=0 }:=by
 obtain⟨h1,h2,h3,h4,h5,h6,h7⟩:=look_ok h
 generalize hF:firstsOf fs=firsts at h2 h3 h4 h5 h7 hne
 have hlen:0<firsts.length:=List.length_pos_iff.2 hne
 generalize hf:firsts.getD (firsts.length-1) 0=f
 have hfi:FirstIs fs f:=first_is (by rw[hF,<-hf];exact getD_mem (by omega))
 obtain⟨d,hd⟩:=getF_some hfi.there
 have hdat:datF fs f=d:=by unfold datF;rw[hd];rfl
 generalize he:endOf 0 (scan d f)=e
 have hel:e<=d.length:=by rw[<-he];exact(seg_end d f 0 0).2
 have hcut:datF (cutF fs (nameOf logH f) e) f=d.take e:=by unfold datF;rw[cut_eq,hd];rfl
 have hsame:∀ i,i+1<firsts.length->datF (cutF fs (nameOf logH f) e) (firsts.getD i 0)=datF fs (firsts.getD i 0):=by
  intro i hi
  have hgi:FirstIs fs (firsts.getD i 0):=first_is (by rw[hF];exact getD_mem (by omega))
  unfold datF
  rw[cut_ne]
  intro e1
  have hlt:=pairwise_at (by rw[<-hF];exact firsts_rise h1) (show i<firsts.length-1 by omega) (show firsts.length-1<firsts.length by omega)
  rw[hf] at hlt
  have:=hgi.num
  rw[e1,hfi.num] at this
  have:=Option.some.inj this
  omega
 have hb:=aLog_cut (fs:=fs) (fs':=cutF fs (nameOf logH f) e) (s:=(aCkpt fs firsts (aMan fs AS.nil).1).1) hne hsame (by rw[hf,hcut,hdat,he]) (by rw[<-h5];exact h2)
 rw[<-h5] at hb
 obtain⟨hb1,hb2⟩:=hb
 have hman:aMan (cutF fs (nameOf logH f) e) AS.nil=aMan fs AS.nil:=aMan_cong (cut_ne _ _ _ (fun e1=>by have:=congrArg List.length e1;rw[hfi.len] at this;simp[manN] at this)) _
 have hck:aCkpt (cutF fs (nameOf logH f) e) firsts (aMan fs AS.nil).1=aCkpt fs firsts (aMan fs AS.nil).1:=aCkpt_cong (fun n=>cut_ne _ _ _ (fun e1=>by
  have h8:=congrArg List.length e1
  rw[hfi.len] at h8
  have:=name_len ckptH n
  simp only[ckptH,List.length_cons,List.length_nil] at this h8
  omega)) _ _
 have hall:aAll (cutF fs (nameOf logH f) e) firsts=({ (aAll fs firsts).1 with torn:=0 },true):=by
  rw[<-hb1]
  show (if (aMan _ AS.nil).2 then (if (aCkpt _ firsts (aMan _ AS.nil).1).2 then aLog _ firsts (aCkpt _ firsts (aMan _ AS.nil).1).1 else aCkpt _ firsts (aMan _ AS.nil).1) else aMan _ AS.nil)=_
  rw[hman,if_pos h6,hck,if_pos h7]
 obtain⟨q1,q2,q3⟩:=hb2
 rw[hf] at q1 q2 q3
 rw[hdat,he] at q2 q3
 refine⟨f,e,d,?_,?_,hd,hel,?_,?_⟩
 ·rw[h3];unfold repOf;rw[if_pos h2];exact q1
 ·rw[h3];unfold repOf;rw[if_pos h2];exact q3
 ·rw[h3];unfold repOf;rw[if_pos h2];dsimp only;rw[q2];omega
 ·rw[h3]
  unfold lookF
  rw[cut_names,if_pos h1,cut_firsts,hF,hall]
  unfold repOf sortN
  rw[cut_names,if_pos rfl,if_pos h2]
theorem fold_get{α:Type}(f:α->Bs×Bs):∀ (l:List α) (st:Fs) (k:Bs),(∀ x∈l,(f x).1=k->∀ y∈l,(f y).1=k->(f x).2=(f y).2)->getF (l.foldl (fun st x=>setF st (f x).1 (f x).2) st) k=(getF (l.map f) k).or (getF st k)
 | [],st,k,_=>rfl
 | x :: t,st,k,h=>by
  show getF (t.foldl _ (setF st (f x).1 (f x).2)) k=_
  rw[fold_get f t _ k (fun y hy ey z hz ez=>h y (.tail _ hy) ey z (.tail _ hz) ez),getF_set]
  show _=(if (f x).1=k then some (f x).2 else getF (t.map f) k).or (getF st k)
  by_cases hk:(f x).1=k
  ·rw[if_pos hk,if_pos hk.symm]
   cases hg:getF (t.map f) k with
   | none=>rfl
   | some v =>
    obtain⟨y,hy,e⟩:=List.mem_map.1 (getF_mem hg)
    have e1:(f y).1=k:=by rw[e]
    have e2:(f y).2=v:=by rw[e]
    show some v=some _
    rw[<-e2,h x (.head _) hk y (.tail _ hy) e1]
  ·rw[if_neg hk,if_neg (fun e=>hk e.symm)]
theorem getF_names(v:Bs->Bs)(l:List Bs)(k:Bs):getF (l.map fun n=>(n,v n)) k=if k∈l then some (v k) else none:=by
 induction l with
 | nil=>rfl
 | cons n t ih =>
  show (if n=k then some (v n) else getF (t.map fun n=>(n,v n)) k)=_
  rw[ih]
  by_cases h:n=k
  ·rw[if_pos h,if_pos (by rw[h];exact .head _),h]
  ·rw[if_neg h]
   by_cases hm:k∈t
   ·rw[if_pos hm,if_pos (.tail _ hm)]
   ·rw[if_neg hm,if_neg (fun hh=>(List.mem_cons.1 hh).elim (fun e=>h e.symm) hm)]
theorem kept_get(d:Fs)(r:Rp)(hn:∀ n∈r.needed,n∈d.map Prod.fst)(k:Bs):getF (keptF d r) k=match r.segs.getLast? with
  | none=>if k∈r.needed then getF d k else none
  | some s=>if k=nameOf logH s.1 then some (((getF d k).getD []).take s.2.toNat) else if k∈r.needed then getF d k else none:=by
 have h0:getF (r.needed.foldl (fun st n=>setF st n ((getF d n).getD [])) []) k=if k∈r.needed then getF d k else none:=by
  have:=fold_get (fun n=>(n,(getF d n).getD [])) r.needed [] k (fun x _ hx y _ hy=>by
   show (getF d x).getD []=(getF d y).getD []
   rw[show x=k from hx,show y=k from hy])
  refine this.trans ?_
  rw[getF_names (fun n=>(getF d n).getD [])]
  by_cases hk:k∈r.needed
  ·rw[if_pos hk,if_pos hk]
   obtain⟨v,hv⟩:=getF_some (hn k hk)
   rw[hv];rfl
  ·rw[if_neg hk,if_neg hk];rfl
 unfold keptF
 dsimp only
 cases hs:r.segs.getLast? with
 | none=>exact h0
 | some s =>
  dsimp only
  rw[getF_set,h0]
  by_cases hk:k=nameOf logH s.1
  ·rw[if_pos hk,if_pos hk,hk]
  ·rw[if_neg hk,if_neg hk]
theorem look_needs{fs:Fs}(h:(lookF fs).err=0):∀ n∈(lookF fs).needed,n∈fs.map Prod.fst:=by
 obtain⟨h1,h2,h3,-⟩:=look_ok h
 have hneed:(lookF fs).needed=(aAll fs (firstsOf fs)).1.needed:=by rw[h3];unfold repOf;rw[if_pos h2]
 rw[hneed]
 exact(aAll_nd h1).there
def RoadOk(d:Fs)(mark:Int):Int->List (Int×Nat)->Int->Prop
 | next,[],stop=>stop=next-1
 | next,x :: t,stop=>x.1=next/\next<=281474976710655/\∃ b la,getF d (nameOf logH next)=some b/\segGo mark (scan b next) (next-1,0,false)=(la,x.2,false)/\((t=[]/\stop=la)\/(x.2=b.length/\next<=la/\RoadOk d mark (la+1) t stop))
theorem scan_far{b:Bs}{nx:Int}(h:281474976710655<nx):scan b nx=[]:=by
 cases hs:scan b nx with
 | nil=>rfl
 | cons x t =>
  exfalso
  unfold scan at hs
  simp only[scanGo] at hs
  split at hs
  ·cases hs
  split at hs
  ·cases hs
  ·rename_i h1
   have he:(decB (nextF b 0).1).2=0:=Classical.byContradiction fun hne=>h1 (.inl hne)
   have hf:(decB (nextF b 0).1).1.first=nx:=Classical.byContradiction fun hne=>h1 (.inr hne)
   have:=chkB_ok (decB_ok (b:=(nextF b 0).1) (x:=(decB (nextF b 0).1).1) (by rw[<-he])).1
   omega
def segE(x:Int×Nat):Bs×Nat:=(nameOf logH x.1,x.2)
def far:List (Bs×Nat):=[([],0)]
theorem road_chain(d:Fs)(mark:Int):∀ (n:Nat) (next:Int) (log0:List (Bs×Nat)) (log:List (Bs×Nat)) (stop:Int),1<=next->roadGo d mark n next log0=some (log,stop) ->
  ∃ new:List (Int×Nat),RoadOk d mark next new stop/\(log=log0++new.map segE\/log=log0++new.map segE++far)
 | 0,next,log0,log,stop,h1,h=>by cases h;exact⟨[],rfl,.inl (by simp)⟩
 | n+1,next,log0,log,stop,h1,h=>by
  cases hg:getF d (nameOf logH next) with
  | none=>rw[roadGo_no hg] at h;cases h;exact⟨[],rfl,.inl (by simp)⟩
  | some b =>
   by_cases hbig:281474976710655<next
   ·have hsc:segGo mark (scan b next) (next-1,0,false)=(next-1,0,false):=by rw[scan_far hbig];rfl
    rw[roadGo_last hg hsc (.inl rfl)] at h
    cases h
    refine⟨[],rfl,.inr ?_⟩
    have:nameOf logH next=[]:=by unfold nameOf;rw[if_pos (by omega)]
    rw[this];simp[far]
   ·obtain⟨la,en,fl,hr⟩:∃ la en fl,segGo mark (scan b next) (next-1,0,false)=(la,en,fl):=⟨_,_,_,rfl⟩
    cases fl with
    | true=>rw[roadGo_cross hg (by rw[hr])] at h;cases h
    | false =>
     by_cases he:en=0\/en<b.length
     ·rw[roadGo_last hg hr he] at h
      cases h
      exact⟨[(next,en)],⟨rfl,by omega,b,_,hg,hr,.inl ⟨rfl,rfl⟩⟩,.inl rfl⟩
     ·rw[roadGo_on hg hr he] at h
      have hle:next<=la/\en=b.length:=by
       rcases seg_rise b mark next with ⟨-,h2⟩|⟨h2,-,h4⟩
       ·rw[hr] at h2;simp only[Prod.mk.injEq] at h2;omega
       ·rw[hr] at h2 h4
        have:=seg_end b next mark (next-1)
        rw[hr] at this
        dsimp only at h2 h4 this
        omega
      obtain⟨new,q1,q2⟩:=road_chain d mark n (la+1) _ log stop (by omega) h
      refine⟨(next,en) :: new,⟨rfl,by omega,b,la,hg,hr,.inr ⟨hle.2,hle.1,q1⟩⟩,?_⟩
      rcases q2 with q2|q2
      ·left;rw[q2,List.map_cons,List.append_assoc];rfl
      ·right;rw[q2,List.map_cons,List.append_assoc log0];rfl
theorem roadOk_rise{d:Fs}{mark:Int}:∀ {new:List (Int×Nat)} {next stop:Int},RoadOk d mark next new stop->(∀ x∈new,next<=x.1/\x.1<=281474976710655/\(getF d (nameOf logH x.1)).isSome=true)/\(new.map Prod.fst).Pairwise (· < ·)
 | [],next,stop,h=>⟨fun x h=>(by cases h),List.Pairwise.nil⟩
 | x :: t,next,stop,h=>by
  obtain⟨h1,h2,b,la,h3,h4,h5⟩:=h
  rcases h5 with ⟨rfl,-⟩|⟨h5,h6,h7⟩
  ·refine⟨fun y hy=>?_,by simp⟩
   obtain rfl:y=x:=by simpa using hy
   rw[h1,h3]
   exact⟨Int.le_refl _,h2,rfl⟩
  ·obtain⟨r1,r2⟩:=roadOk_rise h7
   refine⟨fun y hy=>?_,?_⟩
   ·rcases List.mem_cons.1 hy with rfl|hy
    ·rw[h1,h3];exact⟨Int.le_refl _,h2,rfl⟩
    ·have:=r1 y hy;exact⟨by omega,this.2⟩
   ·rw[List.map_cons,List.pairwise_cons]
    refine⟨fun v hv=>?_,r2⟩
    obtain⟨y,hy,rfl⟩:=List.mem_map.1 hv
    have:=(r1 y hy).1
    omega
theorem dec_mark_go(b:Bs):∀ (n i:Nat) (s:PS) (im:Im),0<=s.im.mark/\s.im.mark<=281474976710655->pgGo b n i s=(im,0)->0<=im.mark/\im.mark<=281474976710655
 | 0,i,s,im,hs,h=>by cases h
 | n+1,i,s,im,hs,h=>by
  unfold pgGo at h
  split at h
  ·split at h
   ·cases h;exact hs
   ·cases h
  ·dsimp only at h
   split at h
   ·cases h
   split at h
   ·cases h
   cases hf:pgFrame (nextF b i).1 s with
   | none=>rw[hf] at h;cases h
   | some s' =>
    rw[hf] at h
    refine dec_mark_go b n _ s' im ?_ h
    unfold pgFrame at hf
    dsimp only at hf
    split at hf
    ·cases hf
    split at hf
    ·cases hf
    have hent:∀ (all m:Nat) (s:PS) (r:RS) (y:PS×RS),pgEntries all m s r=some y->y.1.im.mark=s.im.mark:=by
     intro all m
     induction m with
     | zero=>intro s r y h;cases h;rfl
     | succ m ih =>
      intro s r y h
      simp only[pgEntries] at h
      split at h
      ·have:=ih _ _ _ h;exact this
      ·cases h
    split at hf
    ·cases hf
    ·rename_i x hx
     split at hf
     ·cases hf
      show 0<=x.1.im.mark/\x.1.im.mark<=281474976710655
      split at hx
      ·unfold pgHead at hx
       dsimp only at hx
       split at hx
       ·rename_i hc;cases hx;dsimp only;omega
       ·cases hx
      split at hx
      ·unfold pgProc at hx
       dsimp only at hx
       split at hx
       ·cases hx;exact hs
       ·cases hx
      split at hx
      ·unfold pgPage at hx
       dsimp only at hx
       split at hx
       ·rw[hent _ _ _ _ _ hx];exact hs
       ·cases hx
      ·unfold pgEnd at hx
       dsimp only at hx
       split at hx
       ·cases hx;exact hs
       ·cases hx
     ·cases hf
theorem dec_mark{b:Bs}(h:(decG b).2=0):0<=(decG b).1.mark/\(decG b).1.mark<=281474976710655 :=
 dec_mark_go b _ _ PS.nil (decG b).1 ⟨Int.le_refl _,by decide⟩ (Prod.ext rfl h)
theorem roadGo_there(d:Fs)(mark:Int):∀ (n:Nat) (next:Int) (log0:List (Bs×Nat)) (r:List (Bs×Nat)×Int),(∀ x∈log0,(getF d x.1).isSome=true)->roadGo d mark n next log0=some r->∀ x∈r.1,(getF d x.1).isSome=true
 | 0,next,log0,r,h0,h=>by cases h;exact h0
 | n+1,next,log0,r,h0,h=>by
  unfold roadGo at h
  cases hg:getF d (nameOf logH next) with
  | none=>rw[hg] at h;cases h;exact h0
  | some b =>
   rw[hg] at h
   dsimp only at h
   have h1:∀ (en:Nat),∀ x∈log0++[(nameOf logH next,en)],(getF d x.1).isSome=true:=by
    intro en x hx
    rcases List.mem_append.1 hx with hx|hx
    ·exact h0 x hx
    ·obtain rfl:x=(nameOf logH next,en):=by simpa using hx
     rw[hg];rfl
   split at h
   ·cases h
   split at h
   ·cases h;exact h1 _
   ·exact roadGo_there d mark n _ _ r (h1 _) h
structure RoadIs (d:Fs) (r:Road):Prop where
 there:∀ x∈r.log,(getF d x.1).isSome=true
 mark:0<=r.mark/\r.mark<=281474976710655
 le:r.mark<=r.stop
 base:(r.number=0/\r.mark=0)\/(1<=r.number/\r.number<=281474976710655/\∃ b,getF d (nameOf ckptH r.number)=some b/\fitsG b r.number r.mark=true)
 log:(r.log=[]/\r.stop=r.mark)\/∃ k new,fromOf (firstsOf d) r.mark=some k/\RoadOk d r.mark k new r.stop/\new≠[]/\(r.log=new.map segE\/r.log=new.map segE++far)
theorem along_is(d:Fs)(number mark:Int)(hm:0<=mark/\mark<=281474976710655)(hb:(number=0/\mark=0)\/(1<=number/\number<=281474976710655/\∃ b,getF d (nameOf ckptH number)=some b/\fitsG b number mark=true)):RoadIs d (along d number mark):=by
 unfold along
 cases hf:fromOf (firstsOf d) mark with
 | none=>exact⟨fun x hx=>(by cases hx),hm,Int.le_refl _,hb,.inl ⟨rfl,rfl⟩⟩
 | some k =>
  dsimp only
  have hfi:FirstIs d k:=first_is (from_le hf).1
  cases hr:roadGo d mark (281474976710658-k).toNat k [] with
  | none=>exact⟨fun x hx=>(by cases hx),hm,Int.le_refl _,hb,.inl ⟨rfl,rfl⟩⟩
  | some r =>
   obtain⟨log,stop⟩:=r
   dsimp only
   split
   ·exact⟨fun x hx=>(by cases hx),hm,Int.le_refl _,hb,.inl ⟨rfl,rfl⟩⟩
   ·rename_i hlt
    obtain⟨new,h1,h2⟩:=road_chain d mark _ k [] log stop hfi.one hr
    simp only[List.nil_append] at h2
    refine⟨roadGo_there d mark _ _ _ _ (fun x hx=>(by cases hx)) hr,hm,by show mark<=stop;omega,hb,.inr ⟨k,new,hf,h1,?_,h2⟩⟩
    rintro rfl
    have hmax:=hfi.max
    obtain⟨b,hgb⟩:=getF_some hfi.there
    obtain⟨m,hm2⟩:∃ m,(281474976710658-k).toNat=m+1:=⟨(281474976710658-k).toNat-1,by omega⟩
    rw[hm2] at hr
    unfold roadGo at hr
    rw[hgb] at hr
    dsimp only at hr
    split at hr
    ·cases hr
    ·have hne:∀ (n:Nat) (nx:Int) (l l':List (Bs×Nat)) (s:Int),roadGo d mark n nx l=some (l',s)->∃ q,l'=l++q:=by
      intro n
      induction n with
      | zero=>intro nx l l' s h;cases h;exact⟨[],by simp⟩
      | succ n ih =>
       intro nx l l' s h
       unfold roadGo at h
       cases hg:getF d (nameOf logH nx) with
       | none=>rw[hg] at h;cases h;exact⟨[],by simp⟩
       | some b =>
        rw[hg] at h
        dsimp only at h
        split at h
        ·cases h
        split at h
        ·cases h;exact⟨_,rfl⟩
        ·obtain⟨q,hq⟩:=ih _ _ _ _ h
         exact⟨_,by rw[hq,List.append_assoc]⟩
     have hx:∃ en q,log=(nameOf logH k,en) :: q:=by
      split at hr
      ·cases hr;exact⟨_,_,rfl⟩
      ·obtain⟨q,hq⟩:=hne _ _ _ _ _ hr
       exact⟨_,q,by rw[hq];rfl⟩
     obtain⟨en,q,hq⟩:=hx
     have hnm:=hfi.len
     rcases h2 with h2|h2
     ·rw[hq] at h2;cases h2
     ·rw[hq] at h2
      simp only[List.map_nil,List.nil_append,far] at h2
      have:=(Prod.mk.inj (List.cons.inj h2).1).1
      rw[this] at hnm;cases hnm
theorem best_mem:∀ (l:List Road) (f:Road),bestR f l=f\/bestR f l∈l
 | [],f => .inl rfl
 | y :: t,f=>by
  show bestR (if furtherB y f then y else f) t=f\/bestR (if furtherB y f then y else f) t∈y :: t
  rcases best_mem t (if furtherB y f then y else f) with h|h
  ·rw[h]
   split
   ·exact .inr (.head _)
   ·exact .inl rfl
  ·exact .inr (.tail _ h)
theorem best_is{d:Fs}(hn:(d.map Prod.fst).Nodup):RoadIs d (bestR (along d 0 0) (roadsOf d)):=by
 rcases best_mem (roadsOf d) (along d 0 0) with h|h
 ·rw[h];exact along_is d 0 0 ⟨Int.le_refl _,by decide⟩ (.inl ⟨rfl,rfl⟩)
 ·obtain⟨k,hk,hr⟩:=List.mem_filterMap.1 h
  generalize bestR (along d 0 0) (roadsOf d)=R at hr ⊢
  unfold ckptsOf at hk
  rw[List.mem_mergeSort] at hk
  obtain⟨x,hx,hc⟩:=List.mem_filterMap.1 hk
  unfold ckptOf at hc
  split at hc
  ·rename_i h2
   have h3:numOfName ckptH x.1=(k,true):=Prod.ext (Option.some.inj hc) h2
   obtain⟨n1,n2,n3⟩:=numOf_name h3
   have n4:=numOf_one h3
   have n5:k<=281474976710655:=by
    unfold nameOf at n1
    split at n1
    ·rw[<-n1] at n2;simp at n2
    ·omega
   split at hr
   ·rename_i h5
    cases hr
    have hdat:datC d k=x.2:=by unfold datC;rw[n1,getF_of_mem hn hx];rfl
    refine along_is d k _ (dec_mark h5.1) (.inr ⟨n4,n5,x.2,by rw[n1,getF_of_mem hn hx],?_⟩)
    rw[hdat] at h5 ⊢
    unfold fitsG
    simp[h5.1,h5.2]
   ·cases hr
  ·cases hc
theorem getF_map_val{α:Type}{f:α->Bs×Bs}{l:List α}{k v:Bs}(hu:∀ y∈l,(f y).1=k->(f y).2=v)(hx:∃ x∈l,(f x).1=k):getF (l.map f) k=some v:=by
 obtain⟨x,hx,e⟩:=hx
 obtain⟨u,hu'⟩:=getF_some (fs:=l.map f) (k:=k) (by rw[List.map_map];exact List.mem_map.2 ⟨x,hx,e⟩)
 rw[hu']
 obtain⟨y,hy,ey⟩:=List.mem_map.1 (getF_mem hu')
 have h1:(f y).1=k:=by rw[ey]
 have h2:(f y).2=u:=by rw[ey]
 rw[<-h2,hu y hy h1]
theorem RoadIs.segs{d:Fs}{r:Road}(h:RoadIs d r):∃ new:List (Int×Nat),(r.log=new.map segE\/r.log=new.map segE++far)/\((new=[]/\r.stop=r.mark)\/∃ k,fromOf (firstsOf d) r.mark=some k/\RoadOk d r.mark k new r.stop/\new≠[]) /\
  (∀ x∈new,1<=x.1/\x.1<=281474976710655/\(getF d (nameOf logH x.1)).isSome=true)/\(new.map Prod.fst).Pairwise (· < ·):=by
 rcases h.log with ⟨h1,h2⟩|⟨k,new,h1,h2,h3,h4⟩
 ·exact⟨[],.inl (by rw[h1];rfl),.inl ⟨rfl,h2⟩,fun x hx=>(by cases hx),List.Pairwise.nil⟩
 ·obtain⟨q1,q2⟩:=roadOk_rise h2
  have:=(first_is (from_le h1).1).one
  exact⟨new,h4,.inr ⟨k,h1,h2,h3⟩,fun x hx=>⟨by have:=(q1 x hx).1;omega,(q1 x hx).2⟩,q2⟩
theorem pair_uniq{l:List (Int×Nat)}(h:(l.map Prod.fst).Pairwise (· < ·)){x y:Int×Nat}(hx:x∈l)(hy:y∈l)(e:x.1=y.1):x=y:=by
 obtain⟨i,hi,ei⟩:=List.mem_iff_getElem.1 hx
 obtain⟨j,hj,ej⟩:=List.mem_iff_getElem.1 hy
 have hp:=List.pairwise_iff_getElem.1 h
 rcases Nat.lt_trichotomy i j with hij|hij|hij
 ·have:=hp i j (by rw[List.length_map];exact hi) (by rw[List.length_map];exact hj) hij
  rw[List.getElem_map,List.getElem_map,ei,ej] at this
  omega
 ·subst hij;rw[<-ei,<-ej]
 ·have:=hp j i (by rw[List.length_map];exact hj) (by rw[List.length_map];exact hi) hij
  rw[List.getElem_map,List.getElem_map,ei,ej] at this
  omega
theorem log_len{n:Int}(h1:1<=n)(h2:n<=281474976710655):(nameOf logH n).length=16:=(numOf_name (num_name logH n h1 h2)).2.1
theorem newM_may{d:Fs}{r:Road}(h1:1<=r.number)(h2:r.number<=281474976710655)(h3:0<=r.mark/\r.mark<=281474976710655):mayM ⟨if (decM ((getF d manN).getD [])).2=0/\(decM ((getF d manN).getD [])).1.number<281474976710655 then (decM ((getF d manN).getD [])).1.number+1 else 1,r.number,r.mark,0,0⟩=true:=by
 have hx:∀ x:Int,1<=x->x<=281474976710655->mayM ⟨x,r.number,r.mark,0,0⟩=true:=by
  intro x q1 q2
  unfold mayM
  simp only[Bool.and_eq_true,Bool.or_eq_true,decide_eq_true_eq,beq_iff_eq]
  exact⟨⟨⟨⟨⟨⟨⟨⟨⟨q1,q2⟩,h1⟩,h2⟩,h3.1⟩,h3.2⟩,Int.le_refl _⟩,by omega⟩,Int.le_refl _⟩,.inr (by simp)⟩
 split
 ·rename_i h
  have:=(mayM_all (decM_may h.1)).1
  exact hx _ (by omega) (by omega)
 ·exact hx 1 (by omega) (by omega)
theorem roadGo_small(d:Fs)(mark:Int):∀ (n:Nat) (next:Int) (log0:List (Bs×Nat)) (r:List (Bs×Nat)×Int),(∀ x∈log0,∃ b,getF d x.1=some b/\x.2<=b.length)->roadGo d mark n next log0=some r->∀ x∈r.1,∃ b,getF d x.1=some b/\x.2<=b.length
 | 0,next,log0,r,h0,h=>by cases h;exact h0
 | n+1,next,log0,r,h0,h=>by
  unfold roadGo at h
  cases hg:getF d (nameOf logH next) with
  | none=>rw[hg] at h;cases h;exact h0
  | some b =>
   rw[hg] at h
   dsimp only at h
   have h1:∀ x∈log0++[(nameOf logH next,(segGo mark (scan b next) (next-1,0,false)).2.1)],∃ b,getF d x.1=some b/\x.2<=b.length:=by
    intro x hx
    rcases List.mem_append.1 hx with hx|hx
    ·exact h0 x hx
    ·obtain rfl:x=(nameOf logH next,(segGo mark (scan b next) (next-1,0,false)).2.1):=by simpa using hx
     refine⟨b,hg,?_⟩
     obtain⟨h2,h3⟩:=seg_end b next mark (next-1)
     show (segGo mark (scan b next) (next-1,0,false)).2.1<=b.length
     omega
   split at h
   ·cases h
   split at h
   ·cases h;exact h1
   ·exact roadGo_small d mark n _ _ r h1 h
theorem along_small(d:Fs)(number mark:Int):∀ x∈(along d number mark).log,∃ b,getF d x.1=some b/\x.2<=b.length:=by
 unfold along
 cases hf:fromOf (firstsOf d) mark with
 | none=>intro x hx;cases hx
 | some k =>
  dsimp only
  cases hr:roadGo d mark (281474976710658-k).toNat k [] with
  | none=>intro x hx;cases hx
  | some r =>
   dsimp only
   split
   ·intro x hx;cases hx
   ·exact roadGo_small d mark _ _ _ _ (fun x hx=>(by cases hx)) hr
theorem best_small(d:Fs):∀ x∈(bestR (along d 0 0) (roadsOf d)).log,∃ b,getF d x.1=some b/\x.2<=b.length:=by
 rcases best_mem (roadsOf d) (along d 0 0) with h|h
 ·rw[h];exact along_small d 0 0
 ·obtain⟨k,hk,hr⟩:=List.mem_filterMap.1 h
  generalize bestR (along d 0 0) (roadsOf d)=R at hr ⊢
  split at hr
  ·cases hr;exact along_small d _ _
  ·cases hr
theorem road_uniq{d:Fs}{r:Road}(h:RoadIs d r):∀ x∈r.log,∀ y∈r.log,x.1=y.1->x.2=y.2:=by
 obtain⟨new,hlog,-,hr,hp⟩:=h.segs
 have hmem:∀ y∈r.log,(∃ z∈new,y=segE z)\/y=([],0):=by
  intro y hy
  rcases hlog with e|e
  ·rw[e] at hy
   obtain⟨z,hz,rfl⟩:=List.mem_map.1 hy
   exact .inl ⟨z,hz,rfl⟩
  ·rw[e] at hy
   rcases List.mem_append.1 hy with hy|hy
   ·obtain⟨z,hz,rfl⟩:=List.mem_map.1 hy
    exact .inl ⟨z,hz,rfl⟩
   ·exact .inr (by simpa [far] using hy)
 intro x hx y hy e
 rcases hmem x hx with ⟨z,hz,rfl⟩|rfl
 ·rcases hmem y hy with ⟨u,hu,rfl⟩|rfl
  ·have h1:=hr z hz
   have h2:=hr u hu
   have:=pair_uniq hp hz hu (name_inj h1.1 h1.2.1 h2.1 h2.2.1 e)
   rw[this]
  ·have h1:=log_len (hr z hz).1 (hr z hz).2.1
   rw[show nameOf logH z.1=[] from e] at h1;cases h1
 ·rcases hmem y hy with ⟨u,hu,rfl⟩|rfl
  ·have h1:=log_len (hr u hu).1 (hr u hu).2.1
   rw[show nameOf logH u.1=[] from e.symm] at h1;cases h1
  ·rfl
theorem roadOk_max{d:Fs}{mark:Int}:∀ {new:List (Int×Nat)} {next stop:Int},RoadOk d mark next new stop->next-1<=281474976710655->stop<=281474976710655
 | [],next,stop,h,hn=>by
  have:stop=next-1:=h
  omega
 | x :: t,next,stop,h,hn=>by
  obtain⟨h1,h2,b,la,h3,h4,h5⟩:=h
  have hla:la<=281474976710655:=by
   rcases seg_rise b mark next with ⟨-,h⟩|⟨-,h,-⟩
   ·rw[h4] at h;simp only[Prod.mk.injEq] at h;omega
   ·rw[h4] at h;exact h
  rcases h5 with ⟨-,rfl⟩|⟨-,-,h7⟩
  ·exact hla
  ·exact roadOk_max h7 (by omega)
theorem RoadIs.max{d:Fs}{r:Road}(h:RoadIs d r):r.stop<=281474976710655:=by
 rcases h.log with ⟨-,h2⟩|⟨k,new,h1,h2,h3,h4⟩
 ·have:=h.mark;omega
 ·have:=(first_is (from_le h1).1).max
  exact roadOk_max h2 (by omega)
def laidF(d:Fs)(l:List (Bs×Nat)):Fs:=l.foldl (fun st x=>setF st x.1 (((getF d x.1).getD []).take x.2)) []
theorem laid_snoc(d:Fs)(l:List (Bs×Nat))(x:Bs×Nat):laidF d (l++[x])=setF (laidF d l) x.1 (((getF d x.1).getD []).take x.2):=by
 unfold laidF;rw[List.foldl_append];rfl
theorem laid_nodup(d:Fs)(l:List (Bs×Nat)):((laidF d l).map Prod.fst).Nodup:=fold_nodup (fun x:Bs×Nat=>(x.1,((getF d x.1).getD []).take x.2)) l (st:=[]) (by simp)
theorem laid_get(d:Fs){l:List (Bs×Nat)}(hu:∀ x∈l,∀ y∈l,x.1=y.1->x.2=y.2)(k:Bs):getF (laidF d l) k=getF (l.map fun x=>(x.1,((getF d x.1).getD []).take x.2)) k:=by
 refine(fold_get (fun x:Bs×Nat=>(x.1,((getF d x.1).getD []).take x.2)) l [] k (fun x hx ex y hy ey=>?_)).trans ?_
 ·have e1:x.1=k:=ex
  have e2:y.1=k:=ey
  show ((getF d x.1).getD []).take x.2=((getF d y.1).getD []).take y.2
  rw[hu x hx y hy (e1.trans e2.symm),e1,e2]
 ·cases getF (l.map fun x=>(x.1,((getF d x.1).getD []).take x.2)) k <;> rfl
theorem laid_perm(d:Fs){l l':List (Bs×Nat)}(hp:l'.Perm l)(hu:∀ x∈l,∀ y∈l,x.1=y.1->x.2=y.2)(k:Bs):getF (laidF d l') k=getF (laidF d l) k:=by
 rw[laid_get d hu,laid_get d (fun x hx y hy=>hu x (hp.mem_iff.1 hx) y (hp.mem_iff.1 hy))]
 cases h:getF (l.map fun x=>(x.1,((getF d x.1).getD []).take x.2)) k with
 | none =>
  cases h2:getF (l'.map fun x=>(x.1,((getF d x.1).getD []).take x.2)) k with
  | none=>rfl
  | some v =>
   obtain⟨y,hy,ey⟩:=List.mem_map.1 (getF_mem h2)
   obtain⟨v',hv'⟩:=getF_some (fs:=l.map fun x=>(x.1,((getF d x.1).getD []).take x.2)) (k:=k) (by rw[List.map_map];exact List.mem_map.2 ⟨y,hp.mem_iff.1 hy,congrArg Prod.fst ey⟩)
   rw[hv'] at h;cases h
 | some v =>
  obtain⟨y,hy,ey⟩:=List.mem_map.1 (getF_mem h)
  have e1:y.1=k:=congrArg Prod.fst ey
  have e2:((getF d y.1).getD []).take y.2=v:=congrArg Prod.snd ey
  refine getF_map_val (f:=fun x:Bs×Nat=>(x.1,((getF d x.1).getD []).take x.2)) (fun z hz ez=>?_) ⟨y,hp.mem_iff.2 hy,e1⟩
  have e3:z.1=k:=ez
  show ((getF d z.1).getD []).take z.2=v
  rw[hu z (hp.mem_iff.1 hz) y hy (e3.trans e1.symm),e3,<-e1]
  exact e2
def stOf(d st:Fs)(r:Road)(m:Mf):Fs:=if 0<r.number then setF (setF st (nameOf ckptH r.number) ((getF d (nameOf ckptH r.number)).getD [])) manN (encM m) else st
def newM(d:Fs)(r:Road):Mf:=⟨if (decM ((getF d manN).getD [])).2=0/\(decM ((getF d manN).getD [])).1.number<281474976710655 then (decM ((getF d manN).getD [])).1.number+1 else 1,r.number,r.mark,0,0⟩
theorem led_eq(d:Fs):ledF encM d=(stOf d (laidF d (bestR (along d 0 0) (roadsOf d)).log) (bestR (along d 0 0) (roadsOf d)) (newM d (bestR (along d 0 0) (roadsOf d))),bestR (along d 0 0) (roadsOf d)):=by
 unfold ledF stOf newM laidF
 dsimp only
 split <;> rfl
theorem with_get2(d st:Fs)(hn:(d.map Prod.fst).Nodup){a:Fs}(h:∀ k,getF a k=getF st k)(k:Bs):getF (withO d a) k=getF (withO d st) k:=by
 rw[with_get _ _ _ hn,with_get _ _ _ hn,h]
theorem with_perm{d d' st:Fs}(hn:(d.map Prod.fst).Nodup)(hp:d'.Perm d)(k:Bs):getF (withO d' st) k=getF (withO d st) k:=by
 have hn':(d'.map Prod.fst).Nodup:=(hp.map Prod.fst).nodup_iff.2 hn
 rw[with_get _ _ _ hn,with_get _ _ _ hn',getF_perm hn hp.symm]
 simp only[(hp.map Prod.fst).mem_iff]
theorem with_snoc(d st:Fs)(x:Bs×Bs):withO (d++[x]) st=if ownB x.1 then withO d st else setF (withO d st) x.1 x.2:=by
 unfold withO;rw[List.foldl_append];rfl
theorem with_own(d st:Fs)(hn:(d.map Prod.fst).Nodup){k:Bs}(hk:ownB k=true):getF (withO d st) k=getF st k:=by
 rw[with_get _ _ _ hn,if_neg (fun e=>by rw[hk] at e;cases e.2)]
theorem mend_is(enc:Mf->Bs)(fs:Fs){st1 st2:Fs}{dl:List Bs}(h1:∀ k,getF st1 k=getF (stayF enc (dedF fs)).1 k)(h2:(st2.map Prod.fst).Nodup)(h3:∀ k,getF st2 k=getF (withO (dedF fs) st1) k)(h4:dl.Perm (((dedF fs).filter fun x=>ownB x.1&&(getF st1 x.1).isNone).map Prod.fst)) :
  mendF enc fs=⟨(sortN st2).map fun n=>(n,(getF st2 n).getD []),(stayF enc (dedF fs)).2.1,(stayF enc (dedF fs)).2.2.1,(stayF enc (dedF fs)).2.2.2,dl.mergeSort leN⟩:=by
 have hn:=ded_nodup fs
 have hst:=stay_nodup enc (dedF fs)
 have hg:∀ k,getF st2 k=getF (withO (dedF fs) (stayF enc (dedF fs)).1) k:=fun k=>(h3 k).trans (with_get2 _ _ hn h1 k)
 unfold mendF
 dsimp only
 congr 1
 ·rw[names_of_get (with_nodup _ hst) h2 hg]
  exact List.map_congr_left fun n _=>by rw[hg]
 ·refine(sortN_is (h4.trans ?_)).symm
  simp only[h1]
  exact List.Perm.refl _
def inB(l:List Bs)(n:Bs):Bool:=l.any fun x=>x==n
theorem inB_eq(l:List Bs)(n:Bs):inB l n=l.contains n:=by
 unfold inB
 rw[Bool.eq_iff_iff,List.any_eq_true,List.contains_iff_mem]
 exact⟨fun⟨x,h,e⟩=>by rw[<-beq_iff_eq.1 e];exact h,fun h=>⟨n,h,beq_iff_eq.2 rfl⟩⟩
theorem inB_succ{l:List Bs}{n x:Bs}{k:Nat}(h:l[k]? = some x):inB (l.take (k+1)) n=(inB (l.take k) n||x==n):=by
 unfold inB
 rw[List.take_add_one,h,List.any_append]
 simp
theorem mod_idx(t:Int){n:Nat}(hn:0<n):(t.tmod n<0->∃ q:Nat,q<n/\t.tmod n+n=q)/\(¬ t.tmod n<0->∃ q:Nat,q<n/\t.tmod n=q):=by
 have h1:=Int.tmod_lt_of_pos t (show (0:Int)<n by omega)
 have h2:=Int.lt_tmod_of_pos t (show (0:Int)<n by omega)
 exact⟨fun h=>⟨(t.tmod n+n).toNat,by omega,by omega⟩,fun h=>⟨(t.tmod n).toNat,by omega,by omega⟩⟩
theorem swap_perm{α:Type}{l:List α}{i j:Nat}{x y:α}(hx:l[i]? = some x)(hy:l[j]? = some y):((l.set i y).set j x).Perm l:=by
 obtain⟨hi,rfl⟩:=List.getElem?_eq_some_iff.1 hx
 obtain⟨hj,rfl⟩:=List.getElem?_eq_some_iff.1 hy
 exact List.set_set_perm hi hj
theorem stay_in2{d:Fs}(hn:(d.map Prod.fst).Nodup)(k:Bs)(hs:(getF (stayF encM d).1 k).isSome=true):k∈d.map Prod.fst\/k=manN:=by
 have hin:∀ k,(getF d k).isSome=true->k∈d.map Prod.fst:=fun k h=>by rw[getF_isSome] at h;exact of_decide_eq_true h
 unfold stayF at hs
 split at hs
 ·rename_i he
  have hneed:=look_needs he
  dsimp only at hs
  rw[kept_get d _ hneed] at hs
  cases hl:(lookF d).segs.getLast? with
  | none =>
   rw[hl] at hs
   dsimp only at hs
   split at hs
   ·exact .inl (hin k hs)
   ·cases hs
  | some s =>
   rw[hl] at hs
   dsimp only at hs
   split at hs
   ·rename_i hk
    have h9:=(look_means he).2.2.2.2.2.2.1
    have h10:s.1∈firstsOf d:=by rw[<-h9];exact List.mem_map.2 ⟨_,List.mem_of_getLast? hl,rfl⟩
    left
    rw[hk]
    exact(first_is h10).there
   ·split at hs
    ·exact .inl (hin k hs)
    ·cases hs
 ·have hr:=best_is hn
  rw[led_eq] at hs
  unfold stOf at hs
  have h0:∀ k,(getF (laidF d (bestR (along d 0 0) (roadsOf d)).log) k).isSome=true->k∈d.map Prod.fst:=by
   intro k hk
   rw[laid_get d (road_uniq hr)] at hk
   obtain⟨v,hv⟩:=Option.isSome_iff_exists.1 hk
   obtain⟨y,hy,ey⟩:=List.mem_map.1 (getF_mem hv)
   have e1:y.1=k:=congrArg Prod.fst ey
   rw[<-e1]
   exact hin _ (hr.there y hy)
  dsimp only at hs
  split at hs
  ·rename_i hp
   rw[getF_set,getF_set] at hs
   by_cases e1:k=manN
   ·exact .inr e1
   rw[if_neg e1] at hs
   by_cases e2:k=nameOf ckptH (bestR (along d 0 0) (roadsOf d)).number
   ·rcases hr.base with ⟨q1,-⟩|⟨q1,q2,b,q3,-⟩
    ·omega
    ·left;rw[e2];exact hin _ (by rw[q3];rfl)
   rw[if_neg e2] at hs
   exact .inl (h0 k hs)
  ·exact .inl (h0 k hs)
theorem nodup_sub{a b:List Bs}(ha:a.Nodup)(hb:b.Nodup)(h:∀ x∈a,x∈b):a.length<=b.length:=by
 have hp:a.Perm (b.filter fun x=>decide (x∈a)):=(List.perm_ext_iff_of_nodup ha (hb.filter _)).2 fun x=>by
  rw[List.mem_filter]
  exact⟨fun hx=>⟨h x hx,decide_eq_true hx⟩,fun hx=>of_decide_eq_true hx.2⟩
 rw[hp.length_eq]
 exact List.length_filter_le _ _
theorem st_names{d st1 st2:Fs}(hn:(d.map Prod.fst).Nodup)(h1:∀ k,getF st1 k=getF (stayF encM d).1 k)(h2:(st2.map Prod.fst).Nodup)(h3:∀ k,getF st2 k=getF (withO d st1) k):(∀ n∈st2.map Prod.fst,n∈d.map Prod.fst\/n=manN)/\st2.length<=d.length+1:=by
 have hmem:∀ n∈st2.map Prod.fst,n∈d.map Prod.fst\/n=manN:=by
  intro n hm
  obtain⟨v,hv⟩:=getF_some hm
  rw[h3,with_get _ _ _ hn] at hv
  split at hv
  ·rename_i hc;exact .inl hc.1
  ·rw[h1] at hv;exact stay_in2 hn n (by rw[hv];rfl)
 refine⟨hmem,?_⟩
 by_cases hm:manN∈d.map Prod.fst
 ·have:=nodup_sub h2 hn (fun x hx=>(hmem x hx).elim id (fun e=>by rw[e];exact hm))
  rw[List.length_map,List.length_map] at this
  omega
 ·have:=nodup_sub h2 (nodup_snoc hn hm) (fun x hx=>by
   rcases hmem x hx with h|h
   ·exact List.mem_append_left _ h
   ·exact List.mem_append_right _ (by rw[h];simp))
  rw[List.length_map,List.length_append,List.length_map] at this
  exact this
theorem take_le{n:Nat}{b:Bs}{m:Nat}(h:b.length<=m):(b.take n).length<=m:=by rw[List.length_take];omega
theorem enc_len{m:Mf}(h:mayM m=true):(encM m).length<=200:=by
 have:=(bodyM_len h).2
 unfold encM
 rw[sealB_len]
 omega
theorem stay_len{d:Fs}(hn:(d.map Prod.fst).Nodup){B:Nat}(hB:200<=B)(hd:∀ k b,getF d k=some b->b.length<=B)(k b:Bs)(hs:getF (stayF encM d).1 k=some b):b.length<=B:=by
 have hd0:∀ k,((getF d k).getD []).length<=B:=fun k=>by
  cases h:getF d k with
  | none=>exact Nat.zero_le _
  | some b=>exact hd k b h
 unfold stayF at hs
 split at hs
 ·rename_i he
  dsimp only at hs
  rw[kept_get d _ (look_needs he)] at hs
  cases hl:(lookF d).segs.getLast? with
  | none =>
   rw[hl] at hs
   dsimp only at hs
   split at hs
   ·exact hd k b hs
   ·cases hs
  | some s =>
   rw[hl] at hs
   dsimp only at hs
   split at hs
   ·cases hs;exact take_le (hd0 _)
   ·split at hs
    ·exact hd k b hs
    ·cases hs
 ·have hr:=best_is hn
  rw[led_eq] at hs
  have h0:∀ k b,getF (laidF d (bestR (along d 0 0) (roadsOf d)).log) k=some b->b.length<=B:=by
   intro k b hk
   rw[laid_get d (road_uniq hr)] at hk
   obtain⟨y,hy,ey⟩:=List.mem_map.1 (getF_mem hk)
   have e1:((getF d y.1).getD []).take y.2=b:=congrArg Prod.snd ey
   rw[<-e1]
   exact take_le (hd0 _)
  unfold stOf at hs
  dsimp only at hs
  split at hs
  ·rename_i hp
   rw[getF_set,getF_set] at hs
   by_cases e1:k=manN
   ·rw[if_pos e1] at hs
    cases hs
    refine Nat.le_trans (enc_len ?_) hB
    rcases hr.base with ⟨q1,-⟩|⟨q1,q2,-⟩
    ·omega
    ·exact newM_may q1 q2 hr.mark
   rw[if_neg e1] at hs
   split at hs
   ·cases hs;exact hd0 _
   ·exact h0 k b hs
  ·exact h0 k b hs
theorem ded_mem:∀ (fs d:Fs),∀ x∈dedGo d fs,x∈d\/x∈fs
 | [],d,x,h => .inl h
 | y :: t,d,x,h=>by
  rcases ded_mem t (if (getF d y.1).isSome then d else d++[y]) x h with h|h
  ·split at h
   ·exact .inl h
   ·rcases List.mem_append.1 h with h|h
    ·exact .inl h
    ·right;simp at h;rw[h];exact .head _
  ·exact .inr (.tail _ h)
theorem ded_len(fs:Fs):(dedF fs).length<=fs.length:=by
 have:∀ (fs d:Fs),(dedGo d fs).length<=d.length+fs.length:=by
  intro fs
  induction fs with
  | nil=>intro d;exact Nat.le_refl _
  | cons x t ih =>
   intro d
   show (dedGo (if (getF d x.1).isSome then d else d++[x]) t).length<=_
   have:=ih (if (getF d x.1).isSome then d else d++[x])
   have h2:(if (getF d x.1).isSome=true then d else d++[x]).length<=d.length+1:=by split <;> simp
   rw[List.length_cons]
   omega
 have:=this fs []
 rw[List.length_nil,Nat.zero_add] at this
 exact this
theorem mend_small(fs:Fs){A B:Nat}(hA:8<=A)(hB:200<=B)(hn:∀ x∈fs,x.1.length<=A)(hd:∀ x∈fs,x.2.length<=B) :
  (mendF encM fs).files.length<=fs.length+1/\(∀ x∈(mendF encM fs).files,x.1.length<=A/\x.2.length<=B)/\(mendF encM fs).dropped.length<=fs.length:=by
 have hnd:=ded_nodup fs
 have hl:=ded_len fs
 have hm:∀ x∈dedF fs,x∈fs:=fun x hx=>(ded_mem fs [] x hx).elim (fun h=>by cases h) id
 obtain⟨d,hdd⟩:∃ d,dedF fs=d:=⟨_,rfl⟩
 have hst:=with_nodup d (stay_nodup encM d)
 rw[hdd] at hnd hl hm
 obtain⟨s1,s2⟩:=st_names hnd (st1:=(stayF encM d).1) (fun _=>rfl) hst (fun _=>rfl)
 have hgl:∀ k b,getF d k=some b->b.length<=B:=fun k b h=>hd _ (hm _ (getF_mem h))
 have hfl:(mendF encM fs).files=(sortN (withO d (stayF encM d).1)).map fun n=>(n,(getF (withO d (stayF encM d).1) n).getD []):=by
  unfold mendF;dsimp only;rw[hdd]
 have hdr:(mendF encM fs).dropped=((d.filter fun x=>ownB x.1&&(getF (stayF encM d).1 x.1).isNone).map Prod.fst).mergeSort leN:=by
  unfold mendF;dsimp only;rw[hdd]
 rw[hfl,hdr]
 refine⟨?_,fun x hx=>?_,?_⟩
 ·unfold sortN
  rw[List.length_map,List.length_mergeSort,List.length_map]
  omega
 ·obtain⟨n,hn',rfl⟩:=List.mem_map.1 hx
  unfold sortN at hn'
  rw[List.mem_mergeSort] at hn'
  refine⟨?_,?_⟩
  ·rcases s1 n hn' with h|h
   ·obtain⟨y,hy,rfl⟩:=List.mem_map.1 h
    exact hn y (hm y hy)
   ·rw[h];exact hA
  ·dsimp only
   obtain⟨v,hv⟩:=getF_some hn'
   rw[hv]
   show v.length<=B
   rw[with_get _ _ _ hnd] at hv
   split at hv
   ·exact hgl _ _ hv
   ·exact stay_len hnd hB hgl n v hv
 ·rw[List.length_mergeSort,List.length_map]
  have:=List.length_filter_le (fun x:Bs×Bs=>ownB x.1&&(getF (stayF encM d).1 x.1).isNone) d
  omega
def awF:Fs:=[([120],[121]),(manN,[])]
theorem aw_own:ownB [120]=false/\ownB manN=true:=⟨by decide,own_man⟩
theorem aw_firsts:firstsOf awF=[]:=by
 have h:rawFirsts awF=[]:=by decide
 unfold firstsOf
 rw[h,List.mergeSort_nil]
theorem aw_ckpts:ckptsOf awF=[]:=by
 have h:(awF.filterMap fun x=>ckptOf x.1)=[]:=by decide
 unfold ckptsOf
 rw[h,List.mergeSort_nil]
theorem aw_dec:(decM []).2=12:=by
 have h:nextF [] 0=([],0,12):=nextF_end []
 unfold decM
 simp only[h]
 rfl
theorem aw_look:(lookF awF).err=20:=by
 have hn:(awF.map Prod.fst).Nodup:=by decide
 have ha:aMan awF AS.nil=(AS.nil.need manN,false):=by
  have hg:getF awF manN=some []:=by decide
  unfold aMan
  rw[hg]
  dsimp only
  rw[if_neg (by rw[aw_dec];decide)]
 unfold lookF
 rw[if_pos hn,aAll_man ha]
 rfl
theorem mend_awake:mendF encM awF=⟨[([120],[121])],0,0,0,[manN]⟩:=by
 have hd:dedF awF=awF:=by decide
 have hr:bestR (along awF 0 0) (roadsOf awF)=⟨0,0,0,[]⟩:=by
  unfold roadsOf
  rw[aw_ckpts]
  unfold along
  rw[aw_firsts]
  rfl
 have hs:stayF encM awF=([],0,0,0):=by
  unfold stayF
  rw[if_neg (by rw[aw_look];decide),led_eq,hr]
  rfl
 have hw:withO awF []=[([120],[121])]:=by
  show (if ownB manN then (if ownB [120] then ([]:Fs) else setF [] [120] [121]) else setF (if ownB [120] then ([]:Fs) else setF [] [120] [121]) manN [])=_
  rw[if_pos aw_own.2,if_neg (by rw[aw_own.1];simp)]
  rfl
 have hf:awF.filter (fun x=>ownB x.1&&(getF ([]:Fs) x.1).isNone)=[(manN,[])]:=by
  unfold awF
  rw[List.filter_cons_of_neg (by rw[aw_own.1];simp),List.filter_cons_of_pos (by rw[aw_own.2];rfl)]
  rfl
 unfold mendF
 dsimp only
 rw[hd,hs]
 dsimp only
 rw[hw,hf]
 have h1:sortN [([120],[121])]=[[120]]:=by unfold sortN;exact List.mergeSort_singleton _
 rw[h1]
 have h2:([(manN,([]:Bs))].map Prod.fst).mergeSort leN=[manN]:=List.mergeSort_singleton _
 rw[h2]
 rfl
end Go.Proofs.YtbppnihcbcdglaaGreat
