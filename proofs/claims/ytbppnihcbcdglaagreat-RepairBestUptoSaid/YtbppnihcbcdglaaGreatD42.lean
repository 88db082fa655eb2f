import Derived.Laws.EntriesVeiled
import Derived.BigQuiet
import Derived.Shelf.RegionOpen
import Derived.Test.YtbppnihcbcdglaaGreatV8
import Derived.Test.YtbppnihcbcdglaaGreatV9
import Derived.Test.YtbppnihcbcdglaaGreatZ11
import Derived.Test.YtbppnihcbcdglaaGreatZ26
import Derived.Test.YtbppnihcbcdglaaGreatZ35
import Derived.Test.YtbppnihcbcdglaaGreatV36
import Derived.Test.YtbppnihcbcdglaaGreatV39
import Derived.Test.YtbppnihcbcdglaaGreatV41
namespace Go.Proofs.YtbppnihcbcdglaaGreat
set_option maxHeartbeats 0
open Go.RowKit
theorem Hi{p:Prop}(h:p):Hid p:=Lib.hid h
theorem gA{α:Type}{l:List α}{i:Nat}:l.toArray[i]?=l[i]? :=List.getElem?_toArray
theorem gB{α:Type}{a:α}{l:List α}:(a::l)[0]?=some a:=List.getElem?_cons_zero
theorem gC{α:Type}{a:α}{l:List α}{i:Nat}:(a::l)[i+1]?=l[i]? :=List.getElem?_cons_succ
set_option linter.unusedVariables false
set_option linter.unusedSimpArgs false
def saysG(g:Bs->Int×Bool)(n:Bs):Option Int:=if (g n).2 then some (g n).1 else none
theorem und_dir:Tryz.prog.underlying 137=some (.map 9 27):=by kernel_rfl
theorem own_neo{w:World}{n0 size n k:Nat}{t:TypeId}{v:Value}{xs:List Value}{o:Obj}(h:w.ownsRow n0 t size v n xs)(hk:w.heap[k]?=some o)(ho:∀ c t f,o ≠ .cells c t f):v.ownBlock≠some k:=by
 intro e
 rcases h.2 with⟨rfl,-⟩|⟨g,cap,cur,rfl,hg,hh,-⟩
 ·cases e
 ·cases e
  rw[hk] at hh
  exact ho _ _ _ (Option.some.inj hh)
theorem MR.own_ne{w:World}{d:TypeDesc}{b r:Nat}{l todo:List (Value×Value)}(h:MR w d b r l todo){n0 size n:Nat}{t:TypeId}{v:Value}{xs:List Value}(ho:w.ownsRow n0 t size v n xs):v.ownBlock≠some b/\v.ownBlock≠some r:=by
 obtain⟨es,clock,since,c0,seen,hb,hs,hk,hl,hr,rest⟩:=h
 exact⟨own_neo ho hb (fun c t f e=>by cases e),own_neo ho hr (fun c t f e=>by cases e)⟩
theorem perm_encS{a:Value}{l:List Value}{tn:List Bs}(h:(tn.map encS).Perm (a :: l)):∃ n,a=encS n/\∃ tn',l.Perm (tn'.map encS)/\tn.Perm (n :: tn'):=by
 obtain⟨n,hn,rfl⟩:=List.mem_map.1 (h.mem_iff.2 (List.mem_cons_self ..))
 have hp:=List.perm_cons_erase hn
 exact⟨n,rfl,tn.erase n,(List.Perm.cons_inv (h.symm.trans (hp.map encS))),hp⟩
theorem own_sort(w:World){n0:Nat}{v:Value}{l:List Int}(h:w.ownsRow n0 3 1 v l.length (l.map (Value.int .i64)))(hn:n0<=w.heap.size)(hl:l.length<=1000000) :
  Calls Tryz.prog 67 #[v] w fun e w'=>e = .returned (.tuple #[])/\w'.ownsRow n0 3 1 v l.length ((l.mergeSort leI).map (Value.int .i64))/\Below n0 w w':=by
 by_cases h0:0<l.length
 ·obtain⟨h1,h2⟩:=h
  rcases h2 with⟨_,e⟩|⟨g,cap,cur,rfl,hg,hh,hc,hm,hs,ht⟩
  ·omega
  ·have hp:=List.mergeSort_perm l leI
   refine(sortInts_any g 0 cap l w (holds_of_blockI hh (by rw[Nat.mul_one] at ht;exact ht)) (blk_lt hh) (by omega)).mono ?_
   rintro e w' ⟨rfl,n,os,rfl⟩
   have hgb:=grownBy_sortedI (w:=w) (g:=g) (n:=n) (os:=os) (l.mergeSort leI).toArray
   have hrow:=ownsRow_sortedI (base:=n0) (n:=n) (os:=os) (cap:=cap) (ts:=l.mergeSort leI) (ss:=l) hp.length_eq hg hh hc hm hs
   exact⟨rfl,hrow,(Below.refl n0 w).grown hgb hn (fun k e=>by cases e;exact hg)⟩
 ·have hz:l=[]:=List.length_eq_zero_iff.1 (by omega)
  subst hz
  obtain⟨a,c,rfl,-,-,-,-⟩:=own_rowT h
  refine(sortInts_none a c w).mono ?_
  rintro e w' ⟨rfl,rfl⟩
  exact⟨rfl,by simpa using h,Below.refl _ _⟩
set_option maxRecDepth 20000 in
theorem rnumbers_any(w:World)(b f:Nat)(l:List (Value×Value))(names:List Bs)(hM:MP w .string b l)(hk:l.map Prod.fst=names.map encS)(hlen:l.length<=1000000)(g:Bs->Int×Bool)
  (hf:∀ (w':World) (s:ByteArray),Calls Tryz.prog f #[.string s] w' fun e w''=>e = .returned (.tuple #[.int .i64 (g s.data.toList).1,.bool (g s.data.toList).2])/\Below w'.heap.size w' w'')
  (hat:∀ (args:Array Value) (w':World),(callFunc f args).run Tryz.prog w' = .ok (.enter f args) w') :
  Calls Tryz.prog 147 #[.map (some b),.func (.func f) #[] #[]] w fun e w'=>∃ v,e = .returned v/\w'.ownsRow w.heap.size 3 1 v (names.filterMap (saysG g)).length (((names.filterMap (saysG g)).mergeSort leI).map (Value.int .i64))/\Below w.heap.size w w':=by
 have HF:=Hi hf
 obtain⟨o,hrun,hMR⟩:=hM.range (P:=Tryz.prog) _ _ _ und_dir
 have hbo:Below w.heap.size w (w.alloc o):=(Below.refl _ _).alloc (Nat.le_refl _) _
 have HK:=Hi hk
 have HL:=Hi hlen
 clear hf hk hlen
 go_enter Tryz.func147,Tryz.ntmps147
 repeat' ((fail_if_success at_builtin);first|go_values|go_skip|go_guarded|go_step|go_upon|go_back)
 generalize w.alloc o=w1 at hMR hbo⊢
 obtain⟨r,hr⟩:∃ r,w.heap.size=r:=⟨_,rfl⟩
 have HR:=Hi hr
 rw[hr] at hMR hbo⊢
 clear hr hrun hM
 go_loopw [5] (fun fv wr=>∃ (todo:List (Value×Value)) (tn:List Bs) (out:List Int),MR wr .string b r l todo/\Hid ((tn.map encS).Perm (todo.map Prod.fst))/\wr.ownsRow r 3 1 fv out.length (out.map (Value.int .i64))/\Hid ((out++tn.filterMap (saysG g)).Perm (names.filterMap (saysG g)))/\Below r w wr) (fun _ wr=>wr.rangeLeft b r)
 case atStart=>exact⟨l,names,[],hMR,Hi (by rw[HK.out]),World.ownsRow_nil _ _ _ _,Hi (List.Perm.refl _),hbo⟩
 case round =>
  obtain⟨todo,tn,out,hMR,HTN,hown,HP,hb⟩:=hrel
  have HB:=Hi hb
  have HLO:Hid (out.length<=1000000):=Hi (by
   have h1:=HP.out.length_eq
   rw[List.length_append] at h1
   have h2:=List.length_filterMap_le (saysG g) names
   have h3:=congrArg List.length HK.out
   rw[List.length_map,List.length_map] at h3
   have:=HL.out
   omega)
  have HOW:=Hi hown
  rcases hMR.next (P:=Tryz.prog) 0 with⟨h0,hnext⟩|⟨x,todo',w2,hx,hpm,hnext,hMR2,hent,hos,htp,hou,hsz,hblk⟩
  ·have htn:tn=[]:=by
    have:=HTN.out.length_eq
    rw[h0] at this
    simp at this
    exact this
   subst htn
   have HP2:Hid (out.Perm (names.filterMap (saysG g))):=Hi (by have:=HP.out;simpa using this)
   clear hMR h0 hown hb
   repeat' ((fail_if_success at_builtin);first|go_values|go_skip|go_guarded|go_step|go_upon|go_back)
   refine(own_sort wr HOW.out (by have:=HB.out.size;have:=HR.out;omega) HLO.out).mono ?_
   rintro e1 w3 ⟨rfl,ho3,hb3⟩
   dsimp only
   have HO3:=Hi ho3
   have HB3:=Hi (HB.out.trans hb3)
   clear ho3 hb3
   repeat' ((fail_if_success at_builtin);first|go_values|go_skip|go_guarded|go_step|go_upon|go_back)
   refine bodyPost_ret (results_tmp rfl _ _ _) rfl ⟨u5,rfl,?_,by rw[HR.out];exact HB3.out⟩
   rw[HR.out,<-HP2.out.length_eq,sortI_is HP2.out.symm]
   exact HO3.out
  ·have HN:Hid (∃ n,x.1=encS n/\∃ tn',(todo'.map Prod.fst).Perm (tn'.map encS)/\tn.Perm (n :: tn')):=Hi (perm_encS (HTN.out.trans (hpm.map Prod.fst)))
   obtain⟨n,hxn,tn',htn',hpn⟩:=HN.out
   obtain⟨k,v⟩:=x
   dsimp only at hxn hnext hent
   subst hxn
   unfold encS at hnext hent
   have hb2:Below r wr w2:=⟨hos,htp,hou,by omega,fun j hj=>hblk j (by omega)⟩
   have ho2:w2.ownsRow r 3 1 u5 out.length (out.map (Value.int .i64)):=own_hk HOW.out (fun k c f hk=>(hblk k (hMR.ne hk)).trans hk)
   have HB2:=Hi (HB.out.trans hb2)
   have HO2:=Hi ho2
   have HM2:=Hi hMR2
   have HPN:=Hi (And.intro htn' hpn)
   have HLE:Hid (w2.rangeLeft b r<wr.rangeLeft b r):=Hi (by rw[hMR2.left,hMR.left,hpm.length_eq,List.length_cons];omega)
   clear hpm hx hos htp hou hsz hblk hMR hb hown ho2 hb2 hMR2 htn' hpn
   repeat' ((fail_if_success at_builtin);first|go_values|go_skip|go_guarded|go_step|go_upon|go_back)
   refine(HF.out w2 ⟨n.toArray⟩).mono ?_
   rintro e1 w3 ⟨rfl,hb3⟩
   dsimp only
   obtain⟨gz,gb,hg⟩:∃ z c,g n=(z,c):=⟨_,_,rfl⟩
   rw[hg]
   have HG:=Hi hg
   have HM3:=Hi (HM2.out.kept (hb3.block _ HM2.out.mp.lt) (hb3.block _ HM2.out.lt))
   have HO3:=Hi (own_below HO2.out hb3)
   have HB3:=Hi (HB2.out.trans (hb3.mono (by have:=HB2.out.size;have:=HR.out;omega)))
   have HLT3:Hid (w3.rangeLeft b r<wr.rangeLeft b r):=Hi (by rw[HM3.out.left,<-HM2.out.left];exact HLE.out)
   clear hg hb3 hnext hent
   cases gb with
   | false =>
    have HP3:Hid ((out++tn'.filterMap (saysG g)).Perm (names.filterMap (saysG g))):=Hi (by
     refine List.Perm.trans (List.Perm.append_left out ?_) HP.out
     refine((HPN.out.2.filterMap (saysG g)).trans ?_).symm
     rw[List.filterMap_cons,show saysG g n=none by unfold saysG;rw[HG.out];rfl])
    dsimp only
    repeat' ((fail_if_success at_builtin);first|go_values|go_skip|go_guarded|go_step|go_upon|go_back)
    go_roundw
    case rel=>exact⟨todo',tn',out,HM3.out,Hi HPN.out.1.symm,HO3.out,HP3,HB3.out⟩
    case measure=>exact HLT3.out
   | true =>
    have HP3:Hid ((out++[gz]++tn'.filterMap (saysG g)).Perm (names.filterMap (saysG g))):=Hi (by
     refine List.Perm.trans ?_ HP.out
     rw[List.append_assoc]
     refine List.Perm.append_left out ?_
     refine((HPN.out.2.filterMap (saysG g)).trans ?_).symm
     rw[List.filterMap_cons,show saysG g n=some gz by unfold saysG;rw[HG.out];rfl]
     rfl)
    dsimp only
    have hbx:Below w3.heap.size w3 (w3.alloc (.cells #[.int .i64 gz] 3)):=(Below.refl _ _).alloc (Nat.le_refl _) _
    have HBX:=Hi hbx
    have HOX:=Hi (own_below HO3.out hbx)
    clear hbx
    repeat' ((fail_if_success at_builtin);first|go_values|go_skip|go_guarded|go_step|go_upon|go_back)
    obtain⟨i0,hi,hz0,hz1,hz2⟩:=info_parts Tryz.infoInt
    refine wpList_append_own (w3.alloc (.cells #[.int .i64 gz] 3)) rfl _ _ 57 rfl r 3 i0 _ 1 8 Tryz.underlying57 hi hz0 hz1 hz2 rfl (by decide) _ out.length _ rfl HOX.out ⟨w3.heap.size,0,none⟩ 1 1 [.int .i64 gz] rfl rfl ?_ (by simp[Value.oneCell']) (by unfold maxLen;have:=HLO.out;omega) (by have:=HLO.out;omega) (by have:=HB3.out.size;have:=HR.out;have:=HBX.out.size;omega) ?_
    ·intro j u hj
     match j,hj with
     | 0,hj=>cases hj;exact blk_cell (blk_new w3 _) 0
    ·intro v' w4 hown' hg4 _
     have HO4:=Hi hown'
     have HMX:=HM3.out.kept (HBX.out.block _ HM3.out.mp.lt) (HBX.out.block _ HM3.out.lt)
     have hnn:=HMX.own_ne HOX.out
     have HM4:=Hi (HMX.kept (hg4.block _ HMX.mp.lt (Ne.symm hnn.1)) (hg4.block _ HMX.lt (Ne.symm hnn.2)))
     have HG4:=Hi hg4
     clear hown' hg4 HMX hnn
     repeat' ((fail_if_success at_builtin);first|go_values|go_skip|go_guarded|go_step|go_upon|go_back)
     go_roundw
     case rel =>
      exact⟨todo',tn',out++[gz],HM4.out,Hi HPN.out.1.symm,by rw[List.length_append,List.map_append];exact HO4.out,HP3,(HB3.out.trans (HBX.out.mono (by have:=HB3.out.size;have:=HR.out;omega))).grown HG4.out (by have:=HB3.out.size;have:=HBX.out.size;have:=HR.out;omega) (fun k e=>own_ge HOX.out e)⟩
     case measure=>rw[HM4.out.left,<-HM3.out.left];exact HLT3.out
abbrev RoadM:=Road×Option Nat
def RoadM.row(x:RoadM):List Value:=[.int .i64 x.1.number,.int .i64 x.1.mark,.int .i64 x.1.stop,.map x.2]
def bestP(f:RoadM)(l:List RoadM):RoadM:=l.foldl (fun f x=>if furtherB x.1 f.1 then x else f) f
theorem bestP_fst(f:RoadM)(l:List RoadM):(bestP f l).1=bestR f.1 (l.map Prod.fst):=by
 induction l generalizing f with
 | nil=>rfl
 | cons x t ih =>
  show (bestP (if furtherB x.1 f.1 then x else f) t).1=bestR (if furtherB x.1 f.1 then x.1 else f.1) (t.map Prod.fst)
  rw[ih]
  congr 1
  split<;>rfl
theorem RoadM.at{w:World}{a:Option Addr}{l:List RoadM}(h:RowC w a (l.flatMap RoadM.row)){j:Nat}{x:RoadM}(hx:l[j]?=some x):∃ g o,a=some ⟨g,o,none⟩/\w.cell? ⟨g,o+j*4,none⟩=some (.int .i64 x.1.number)/\w.cell? ⟨g,o+j*4+1,none⟩=some (.int .i64 x.1.mark)/\w.cell? ⟨g,o+j*4+2,none⟩=some (.int .i64 x.1.stop)/\w.cell? ⟨g,o+j*4+3,none⟩=some (.map x.2):=by
 have f:=fun i hi=>flat_at RoadM.row 4 (fun _=>rfl) l j x i hx hi
 rcases h with he|⟨g,o,rfl,hh⟩
 ·have h0:=f 0 (by omega)
  rw[he] at h0;cases h0
 ·exact⟨g,o,rfl,hh _ _ (f 0 (by omega)),hh _ _ (f 1 (by omega)),hh _ _ (f 2 (by omega)),hh _ _ (f 3 (by omega))⟩
theorem bestP_snoc(f:RoadM)(l:List RoadM)(x:RoadM):bestP f (l++(some x).toList)=if furtherB x.1 (bestP f l).1 then x else bestP f l:=by
 unfold bestP
 rw[List.foldl_append]
 rfl
theorem set4_road{w:World}{N:Nat}{u0 u1 u2 u3:Value}(h:w.heap[N]?=some (.cells #[u0,u1,u2,u3] 241 (0,0)))(x:RoadM) :
  ((((w.setCell ⟨N,0,none⟩ (.int .i64 x.1.number)).setCell ⟨N,1,none⟩ (.int .i64 x.1.mark)).setCell ⟨N,2,none⟩ (.int .i64 x.1.stop)).setCell ⟨N,3,none⟩ (.map x.2)).heap[N]?=some (.cells #[.int .i64 x.1.number,.int .i64 x.1.mark,.int .i64 x.1.stop,.map x.2] 241 (0,0)):=by
 have:=blk_set (blk_set (blk_set (blk_set h 0 (.int .i64 x.1.number)) 1 (.int .i64 x.1.mark)) 2 (.int .i64 x.1.stop)) 3 (.map x.2)
 simpa using this
set_option maxRecDepth 20000 in
theorem best_any(w:World)(f:RoadM)(a:Option Addr)(c:Nat)(l:List RoadM)(hr:RowC w a (l.flatMap RoadM.row))(hl:l.length<=1000000) :
  Calls Tryz.prog 149 #[f.1.val (.map f.2),.slice a l.length c,.func (.func 150) #[] #[]] w fun e w'=>e = .returned ((bestP f l).1.val (.map (bestP f l).2))/\Below w.heap.size w w':=by
 have hat:∀ (args:Array Value) (w':World),(callFunc 150 args).run Tryz.prog w' = .ok (.enter 150 args) w':=fun args w'=>enters_of Tryz.func150 (by kernel_rfl) rfl args w'
 have HR:=Hi hr
 have HL:=Hi hl
 clear hr hl
 unfold Road.val
 go_enter Tryz.func149,Tryz.ntmps149
 repeat' ((fail_if_success at_builtin);first|go_values|go_skip|go_guarded|go_step|go_upon|go_back)
 have b0:=blk_alloc (blk_new w (.cells #[.int .i64 f.1.number,.int .i64 f.1.mark,.int .i64 f.1.stop,.map f.2] 241)) (.cells #[.int .i64 0,.int .i64 0,.int .i64 0,.map none] 241)
 have b1:=blk_new1 w (.cells #[.int .i64 f.1.number,.int .i64 f.1.mark,.int .i64 f.1.stop,.map f.2] 241) (.cells #[.int .i64 0,.int .i64 0,.int .i64 0,.map none] 241)
 have hb:Below w.heap.size w ((w.alloc (.cells #[.int .i64 f.1.number,.int .i64 f.1.mark,.int .i64 f.1.stop,.map f.2] 241)).alloc (.cells #[.int .i64 0,.int .i64 0,.int .i64 0,.map none] 241)):=((Below.refl _ w).alloc (Nat.le_refl _) _).alloc (by simp) _
 generalize ((w.alloc (.cells #[.int .i64 f.1.number,.int .i64 f.1.mark,.int .i64 f.1.stop,.map f.2] 241)).alloc (.cells #[.int .i64 0,.int .i64 0,.int .i64 0,.map none] 241))=w1 at b0 b1 hb⊢
 obtain⟨N,hN⟩:∃ N,w.heap.size=N:=⟨_,rfl⟩
 have HN:=Hi hN
 rw[hN] at b0 b1 hb⊢
 clear hN
 have HB0:=Hi b0
 have HB1:=Hi b1
 clear b0 b1
 go_loopw [11] (fun c wr=>∃ (j:Nat) (cur:RoadM),c = .int .i64 j/\j<=l.length/\Hid (wr.heap[N]?=some (.cells #[.int .i64 cur.1.number,.int .i64 cur.1.mark,.int .i64 cur.1.stop,.map cur.2] 241 (0,0)))/\Hid (wr.heap[N+1]?=some (.cells #[.int .i64 0,.int .i64 0,.int .i64 0,.map none] 241))/\Hid (cur=bestP f (l.take j))/\Below N w wr) (fun c _=>l.length-(intOf c).toNat)
 case atStart=>exact⟨0,f,rfl,Nat.zero_le _,HB0,HB1,Hi rfl,hb⟩
 case round =>
  obtain⟨j,cur,rfl,hj,HC,HZ,HE,hb⟩:=hrel
  have HB:=Hi hb
  have hlI:(l.length:Int)<=1000000:=by have:=HL.out;omega
  by_cases hlt:j<l.length
  ·have hlt':(j:Int)<(l.length:Int):=by omega
   obtain⟨x,hx⟩:∃ x,l[j]?=some x:=⟨_,List.getElem?_eq_getElem hlt⟩
   obtain⟨g,o,rfl,q0,q1,q2,q3⟩:=RoadM.at (HR.out.below (by have:=HN.out;rw[this];exact hb)) hx
   have HX:=Hi hx
   have HLT:=Hi hlt
   have n1:=blk_new wr (.cells #[.int .i64 x.1.number,.int .i64 x.1.mark,.int .i64 x.1.stop,.map x.2] 241)
   have hbx:Below wr.heap.size wr (wr.alloc (.cells #[.int .i64 x.1.number,.int .i64 x.1.mark,.int .i64 x.1.stop,.map x.2] 241)):=(Below.refl _ _).alloc (Nat.le_refl _) _
   have HCx:=Hi (blk_alloc HC.out (.cells #[.int .i64 x.1.number,.int .i64 x.1.mark,.int .i64 x.1.stop,.map x.2] 241))
   have HZx:=Hi (blk_alloc HZ.out (.cells #[.int .i64 x.1.number,.int .i64 x.1.mark,.int .i64 x.1.stop,.map x.2] 241))
   obtain⟨X,hX⟩:∃ X,wr.heap.size=X:=⟨_,rfl⟩
   have hNX:N+1<X:=by have:=blk_lt HZ.out;omega
   have HNX:=Hi hNX
   clear hx hlt hb hj hNX
   repeat' ((fail_if_success (with_reducible (show Code.wp _ (Code.region 4 _ _) _ _ _)));(fail_if_success at_builtin);first|go_values|go_skip|go_guarded|go_step|go_upon|go_back)
   clear q0 q1 q2 q3
   generalize wr.alloc (.cells #[.int .i64 x.1.number,.int .i64 x.1.mark,.int .i64 x.1.stop,.map x.2] 241)=wx at n1 hbx HCx HZx⊢
   have HBx:=Hi (HB.out.trans (hbx.mono (by have:=HB.out.size;have:=HN.out;omega)))
   rw[hX] at n1
   have HXX:=Hi n1
   have c0:=blk_cell HCx.out 0;have c1:=blk_cell HCx.out 1;have c2:=blk_cell HCx.out 2;have c3:=blk_cell HCx.out 3
   have x0:=blk_cell HXX.out 0;have x1:=blk_cell HXX.out 1;have x2:=blk_cell HXX.out 2;have x3:=blk_cell HXX.out 3
   simp only[gA,gB,gC] at c0 c1 c2 c3 x0 x1 x2 x3
   clear n1 hbx hX
   repeat' ((fail_if_success at_builtin);first|go_values|go_skip|go_guarded|go_step|go_upon|go_back)
   refine(further_any wx x.1 cur.1 _ _ _ _ rfl rfl).mono ?_
   rintro e1 w2 ⟨rfl,hb2⟩
   dsimp only
   have HC2:=Hi (blk_below hb2 HCx.out (blk_lt HCx.out))
   have HZ2:=Hi (blk_below hb2 HZx.out (blk_lt HZx.out))
   have HX2:=Hi (blk_below hb2 HXX.out (blk_lt HXX.out))
   have HB2:=Hi (HBx.out.trans (hb2.mono (by have:=HBx.out.size;have:=HN.out;omega)))
   obtain⟨bv,hbv⟩:∃ bv,furtherB x.1 cur.1=bv:=⟨_,rfl⟩
   rw[hbv]
   have HBV:=Hi hbv
   clear hbv hb2 c0 c1 c2 c3 x0 x1 x2 x3
   cases bv with
   | false =>
    repeat' ((fail_if_success at_builtin);first|go_values|go_skip|go_guarded|go_step|go_upon|go_back)
    go_roundw
    case rel=>exact⟨j+1,cur,by go_num,HLT.out,HC2,HZ2,Hi (by rw[List.take_add_one,HX.out,bestP_snoc,<-HE.out,HBV.out];rfl),HB2.out⟩
    case measure=>have:=HLT.out;simp[intOf];omega
   | true =>
    have x0:=blk_cell HX2.out 0;have x1:=blk_cell HX2.out 1;have x2:=blk_cell HX2.out 2;have x3:=blk_cell HX2.out 3
    have c0:=blk_cell HC2.out 0;have c1:=blk_cell HC2.out 1;have c2:=blk_cell HC2.out 2;have c3:=blk_cell HC2.out 3
    simp only[gA,gB,gC] at c0 c1 c2 c3 x0 x1 x2 x3
    have ff:=fun i=>blk_free HC2.out i
    have HS:=Hi (set4_road HC2.out x)
    have HZ3:=Hi (blk_set_other (blk_set_other (blk_set_other (blk_set_other HZ2.out (Nat.succ_ne_self N) 0 (.int .i64 x.1.number)) (Nat.succ_ne_self N) 1 (.int .i64 x.1.mark)) (Nat.succ_ne_self N) 2 (.int .i64 x.1.stop)) (Nat.succ_ne_self N) 3 (.map x.2))
    have HB3:=Hi ((((HB2.out.setCell (p:=⟨N,0,none⟩) (Nat.le_refl N) (.int .i64 x.1.number)).setCell (p:=⟨N,1,none⟩) (Nat.le_refl N) (.int .i64 x.1.mark)).setCell (p:=⟨N,2,none⟩) (Nat.le_refl N) (.int .i64 x.1.stop)).setCell (p:=⟨N,3,none⟩) (Nat.le_refl N) (.map x.2))
    repeat' ((fail_if_success at_builtin);first|go_values|go_skip|go_guarded|go_step|go_upon|go_back)
    go_roundw
    case rel=>exact⟨j+1,x,by go_num,HLT.out,HS,HZ3,Hi (by rw[List.take_add_one,HX.out,bestP_snoc,<-HE.out,HBV.out];rfl),HB3.out⟩
    case measure=>have:=HLT.out;simp[intOf];omega
  ·have hje:j=l.length:=by omega
   subst hje
   have hlt':decide ((l.length:Int)<(l.length:Int))=false:=by simp
   have hlt2:decide (l.length<l.length)=false:=by simp
   have HEE:Hid (cur=bestP f l):=Hi (by have:=HE.out;rw[List.take_length] at this;exact this)
   have c0:=blk_cell HC.out 0;have c1:=blk_cell HC.out 1;have c2:=blk_cell HC.out 2;have c3:=blk_cell HC.out 3
   have z0:=blk_cell HZ.out 0;have z1:=blk_cell HZ.out 1;have z2:=blk_cell HZ.out 2;have z3:=blk_cell HZ.out 3
   simp only[gA,gB,gC] at c0 c1 c2 c3 z0 z1 z2 z3
   have ff:=fun i=>blk_free HZ.out i
   have hs:=set4_road HZ.out cur
   have s0:=blk_cell hs 0;have s1:=blk_cell hs 1;have s2:=blk_cell hs 2;have s3:=blk_cell hs 3
   simp only[gA,gB,gC] at s0 s1 s2 s3
   have HB3:=Hi ((((HB.out.setCell (p:=⟨N+1,0,none⟩) (Nat.le_succ N) (.int .i64 cur.1.number)).setCell (p:=⟨N+1,1,none⟩) (Nat.le_succ N) (.int .i64 cur.1.mark)).setCell (p:=⟨N+1,2,none⟩) (Nat.le_succ N) (.int .i64 cur.1.stop)).setCell (p:=⟨N+1,3,none⟩) (Nat.le_succ N) (.map cur.2))
   clear hj hb hlt hs
   repeat' ((fail_if_success at_builtin);first|go_values|go_skip|go_guarded|go_step|go_upon|go_back)
   refine bodyPost_ret (v:=(.agg #[.int .i64 cur.1.number,.int .i64 cur.1.mark,.int .i64 cur.1.stop,.map cur.2])) (by simp[results,Tryz.results149,go_sem,s0,s1,s2,s3]) rfl ⟨by rw[HEE.out],by rw[HN.out];exact HB3.out⟩
structure FBm.stays (w:World) (n1:Nat) (m:FBm):Prop where
 le:m.f.2.length<=m.c
 nil:m.a=none->m.c=0
 row:m.f.2=[]\/∃ g o,m.a=some ⟨g,o,none⟩/\(g<n1\/∃ cur f,w.heap[g]?=some (.cells cur 5 f))/\∀ i u,m.f.2[i]?=some u->w.cell? ⟨g,o+i,none⟩=some (B u)
theorem FBm.stays.bs{w:World}{n1:Nat}{m:FBm}(h:m.stays w n1):BS w m.a m.c m.f.2:=by
 refine⟨h.le,h.nil,?_⟩
 rcases h.row with h|⟨g,o,h1,-,h2⟩
 ·exact .inl h
 ·exact .inr ⟨g,o,h1,h2⟩
theorem FBm.stays_low{w:World}{n1:Nat}{m:FBm}(h:BS w m.a m.c m.f.2)(hn:w.heap.size<=n1):m.stays w n1:=by
 refine⟨h.le,h.nil,?_⟩
 rcases h.at_ with h|⟨g,o,h1,h2⟩
 ·exact .inl h
 ·by_cases he:m.f.2=[]
  ·exact .inl he
  ·have hl:=List.length_pos_iff.2 he
   have:=World.block_lt_of_cell? w _ (h2 0 _ (List.getElem?_eq_getElem hl))
   exact .inr ⟨g,o,h1,.inl (by show g<n1;have h3:g<w.heap.size:=this;omega),h2⟩
theorem FBm.stays_own{w:World}{n0 n1:Nat}{a:Option Addr}{c:Nat}{k d:Bs}(h:OwnB w n0 (.slice a d.length c) d):FBm.stays w n1 ⟨(k,d),a,c⟩:=by
 obtain⟨a',c',e,hle,hnil,hrow,-⟩:=own_rowT h
 cases e
 refine⟨hle,hnil,?_⟩
 rcases hrow with hr|⟨g,o,cur,f,rfl,hg,hh⟩
 ·exact .inl (by simpa using hr)
 ·exact .inr ⟨g,o,rfl,.inr ⟨cur,f,hg⟩,fun i u hu=>(blk_cell hg _).trans (hh i _ (by simp[hu]))⟩
structure KpD (n1:Nat) (w w':World):Prop where
 low:∀ k,k<n1->k<w.heap.size->w'.heap[k]?=w.heap[k]?
 u8:∀ (g:Nat) (cur:Array Value) (f:Nat×Nat),w.heap[g]?=some (.cells cur 5 f)->w'.heap[g]?=some (.cells cur 5 f)
theorem KpD.of_below{n1:Nat}{w w':World}(h:Below w.heap.size w w'):KpD n1 w w':=⟨fun k _ hk=>h.block k hk,fun g cur f hg=>blk_below h hg (blk_lt hg)⟩
theorem KpD.refl(n1:Nat)(w:World):KpD n1 w w:=⟨fun _ _ _=>rfl,fun _ _ _ h=>h⟩
theorem KpD.trans{n1:Nat}{w w' w'':World}(h:KpD n1 w w')(h':KpD n1 w' w'')(hs:w.heap.size<=w'.heap.size):KpD n1 w w'' :=
 ⟨fun k h1 h2=>(h'.low k h1 (by omega)).trans (h.low k h1 h2),fun g cur f hg=>h'.u8 g cur f (h.u8 g cur f hg)⟩
theorem FBm.stays.kept{w w':World}{n1:Nat}{m:FBm}(h:m.stays w n1)(hk:KpD n1 w w'):m.stays w' n1:=by
 refine⟨h.le,h.nil,?_⟩
 rcases h.row with hr|⟨g,o,h1,h2,h3⟩
 ·exact .inl hr
 ·by_cases he:m.f.2=[]
  ·exact .inl he
  ·have hl:=List.length_pos_iff.2 he
   have hlt:g<w.heap.size:=World.block_lt_of_cell? w _ (h3 0 _ (List.getElem?_eq_getElem hl))
   have hs:w'.heap[g]?=w.heap[g]? := by
    rcases h2 with h2|⟨cur,f,h2⟩
    ·exact hk.low g h2 hlt
    ·rw[hk.u8 g cur f h2,h2]
   refine .inr ⟨g,o,h1,?_,fun i u hu=>(World.cell?_of_block hs).trans (h3 i u hu)⟩
   rcases h2 with h2|⟨cur,f,h2⟩
   ·exact .inl h2
   ·exact .inr ⟨cur,f,hs.trans h2⟩
def DM(w:World)(n1 mb:Nat)(fs:Fs):Prop:=∃ ms:List FBm,ms.map FBm.f=fs/\MP w .string mb (ms.map FBm.ent)/\∀ m∈ms,m.stays w n1
theorem DM.lt{w:World}{n1 mb:Nat}{fs:Fs}(h:DM w n1 mb fs):mb<w.heap.size:=by
 obtain⟨ms,-,h,-⟩:=h
 exact h.lt
theorem DM.kept{w w':World}{n1 mb:Nat}{fs:Fs}(h:DM w n1 mb fs)(hm:w'.heap[mb]?=w.heap[mb]?)(hk:KpD n1 w w'):DM w' n1 mb fs:=by
 obtain⟨ms,h1,h2,h3⟩:=h
 exact⟨ms,h1,h2.at_ hm,fun m hm=>(h3 m hm).kept hk⟩
theorem DM.below{w w':World}{n1 mb:Nat}{fs:Fs}(h:DM w n1 mb fs)(hb:Below w.heap.size w w'):DM w' n1 mb fs:=h.kept (hb.block _ h.lt) (KpD.of_below hb)
theorem DM.ne{w:World}{n1 mb:Nat}{fs:Fs}(h:DM w n1 mb fs){j:Nat}{c:Array Value}{t:TypeId}{f:Nat×Nat}(hj:w.heap[j]?=some (.cells c t f)):j≠mb:=by
 obtain⟨ms,-,h,-⟩:=h
 exact h.ne hj
theorem lookup_dir2(mb:Nat)(k:ByteArray)(ok:Bool)(w:World):(Instr.lookup 137 (.map (some mb)) (.string k) ok).run Tryz.prog w=(Instr.lookup 118 (.map (some mb)) (.string k) ok).run Tryz.prog w:=by
 simp[Instr.lookup,run_underlying und_dir,run_underlying Tryz.underlying118]
theorem update_dir(mb:Nat)(k v:Value)(w:World):(Instr.mapUpdate 137 (.map (some mb)) k v).run Tryz.prog w=(Instr.mapUpdate 118 (.map (some mb)) k v).run Tryz.prog w:=by
 simp[Instr.mapUpdate,run_underlying und_dir,run_underlying Tryz.underlying118]
theorem name_uniq:∀ (l:List FBm),(l.map FBm.f |>.map Prod.fst).Nodup->∀ p∈l,∀ q∈l,p.f.1=q.f.1->p=q:=by
 intro l
 induction l with
 | nil=>intro _ p hp;cases hp
 | cons z t ih =>
  intro hnd p hp q hq he
  rw[List.map_cons,List.map_cons,List.nodup_cons] at hnd
  rcases List.mem_cons.1 hp with h1|h1
  ·rcases List.mem_cons.1 hq with h2|h2
   ·rw[h1,h2]
   ·subst h1
    exact absurd (he ▸ List.mem_map.2 ⟨_,List.mem_map.2 ⟨q,h2,rfl⟩,rfl⟩) hnd.1
  ·rcases List.mem_cons.1 hq with h2|h2
   ·subst h2
    exact absurd (he ▸ List.mem_map.2 ⟨_,List.mem_map.2 ⟨p,h1,rfl⟩,rfl⟩) hnd.1
   ·exact ih hnd.2 p h1 q h2 he
theorem DM.find{w:World}{n1 mb:Nat}{fs:Fs}(h:DM w n1 mb fs)(hn:(fs.map Prod.fst).Nodup){k d:Bs}(hd:getF fs k=some d) :
  ∃ a c,FBm.stays w n1 ⟨(k,d),a,c⟩/\∀ ok,(Instr.lookup 118 (.map (some mb)) (.string ⟨k.toArray⟩) ok).run Tryz.prog w = .ok (if ok then .tuple #[.slice a d.length c,.bool true] else .slice a d.length c) w:=by
 obtain⟨ms,rfl,h2,h3⟩:=h
 obtain⟨m,hm,hf⟩:=List.mem_map.1 (getF_mem hd)
 have huniq:∀ x∈ms.map FBm.ent,x.1 = .string ⟨k.toArray⟩->x.2 = .slice m.a d.length m.c:=by
  intro x hx e
  obtain⟨m',hm',rfl⟩:=List.mem_map.1 hx
  have e1:m'.f.1=k:=encS_inj e
  have e2:=name_uniq ms hn m' hm' m hm (by rw[e1,hf])
  subst e2
  show Value.slice _ _ _=_
  rw[hf]
 have hv:((.string ⟨k.toArray⟩:Value),(.slice m.a d.length m.c:Value))∈ms.map FBm.ent:=by
  refine List.mem_map.2 ⟨m,hm,?_⟩
  show (encS m.f.1,Value.slice m.a m.f.2.length m.c)=_
  rw[hf]
  rfl
 refine⟨m.a,m.c,?_,fun ok=>h2.lookup_has _ _ _ Tryz.underlying118 Tryz.underlying9 (by simp[MapKept.IsKey]) hv huniq ok⟩
 have hs:=h3 m hm
 obtain⟨f,a,c⟩:=m
 dsimp only at hf hs⊢
 rw[<-hf]
 exact hs
theorem DM.has{w:World}{n1 mb:Nat}{fs:Fs}(h:DM w n1 mb fs)(hn:(fs.map Prod.fst).Nodup){k d:Bs}(hd:getF fs k=some d)(ok:Bool) :
  ∃ a c,BS w a c d/\(Instr.lookup 118 (.map (some mb)) (.string ⟨k.toArray⟩) ok).run Tryz.prog w = .ok (if ok then .tuple #[.slice a d.length c,.bool true] else .slice a d.length c) w:=by
 obtain⟨a,c,h1,h2⟩:=h.find hn hd
 exact⟨a,c,h1.bs,h2 ok⟩
theorem DM.none{w:World}{n1 mb:Nat}{fs:Fs}(h:DM w n1 mb fs){k:Bs}(hd:getF fs k=none)(ok:Bool) :
  (Instr.lookup 118 (.map (some mb)) (.string ⟨k.toArray⟩) ok).run Tryz.prog w = .ok (if ok then .tuple #[.slice none 0 0,.bool false] else .slice none 0 0) w:=by
 obtain⟨ms,rfl,h2,h3⟩:=h
 refine h2.lookup_no _ _ _ Tryz.underlying118 Tryz.underlying9 (by simp[MapKept.IsKey]) ?_ (zero_bytes w) ok
 intro x hx e
 obtain⟨m',hm',rfl⟩:=List.mem_map.1 hx
 have e1:m'.f.1=k:=encS_inj e
 obtain⟨d,hd'⟩:=getF_some (fs:=ms.map FBm.f) (k:=k) (List.mem_map.2 ⟨_,List.mem_map.2 ⟨m',hm',rfl⟩,e1⟩)
 rw[hd'] at hd
 cases hd
theorem DM.look{w:World}{n1 mb:Nat}{fs:Fs}(h:DM w n1 mb fs)(hn:(fs.map Prod.fst).Nodup)(k:Bs) :
  ∃ a c,FBm.stays w n1 ⟨(k,(getF fs k).getD []),a,c⟩/\(Instr.lookup 118 (.map (some mb)) (.string ⟨k.toArray⟩) false).run Tryz.prog w = .ok (.slice a ((getF fs k).getD []).length c) w:=by
 cases hd:getF fs k with
 | none=>exact⟨Option.none,0,⟨Nat.le_refl _,fun _=>rfl,.inl rfl⟩,h.none hd false⟩
 | some d =>
  obtain⟨a,c,h1,h2⟩:=h.find hn hd
  exact⟨a,c,h1,h2 false⟩
theorem DM.look_all{w:World}{n1 mb:Nat}{fs:Fs}(h:DM w n1 mb fs)(hn:(fs.map Prod.fst).Nodup)(k:Bs) :
  ∃ a c,∀ V:World,V.heap[mb]?=w.heap[mb]? -> KpD n1 w V->FBm.stays V n1 ⟨(k,(getF fs k).getD []),a,c⟩/\(Instr.lookup 118 (.map (some mb)) (.string ⟨k.toArray⟩) false).run Tryz.prog V = .ok (.slice a ((getF fs k).getD []).length c) V:=by
 have hV:∀ V:World,V.heap[mb]?=w.heap[mb]? -> KpD n1 w V->DM V n1 mb fs:=fun V h1 h2=>h.kept h1 h2
 cases hd:getF fs k with
 | none=>exact⟨Option.none,0,fun V h1 h2=>⟨⟨Nat.le_refl _,fun _=>rfl,.inl rfl⟩,(hV V h1 h2).none hd false⟩⟩
 | some d =>
  obtain⟨ms,rfl,h2,h3⟩:=h
  obtain⟨m,hm,hf⟩:=List.mem_map.1 (getF_mem hd)
  have huniq:∀ x∈ms.map FBm.ent,x.1 = .string ⟨k.toArray⟩->x.2 = .slice m.a d.length m.c:=by
   intro x hx e
   obtain⟨m',hm',rfl⟩:=List.mem_map.1 hx
   have e1:m'.f.1=k:=encS_inj e
   have e2:=name_uniq ms hn m' hm' m hm (by rw[e1,hf])
   subst e2
   show Value.slice _ _ _=_
   rw[hf]
  have hv:((.string ⟨k.toArray⟩:Value),(.slice m.a d.length m.c:Value))∈ms.map FBm.ent:=by
   refine List.mem_map.2 ⟨m,hm,?_⟩
   show (encS m.f.1,Value.slice m.a m.f.2.length m.c)=_
   rw[hf]
   rfl
  refine⟨m.a,m.c,fun V h4 h5=>⟨?_,(h2.at_ h4).lookup_has _ _ _ Tryz.underlying118 Tryz.underlying9 (by simp[MapKept.IsKey]) hv huniq false⟩⟩
  have hs:=(h3 m hm).kept h5
  obtain⟨f,a,c⟩:=m
  dsimp only at hf hs⊢
  show FBm.stays V n1 ⟨(k,d),a,c⟩
  rw[<-hf]
  exact hs
theorem map_is_set{fs:Fs}(hn:(fs.map Prod.fst).Nodup){j:Nat}{k y b:Bs}(hj:fs[j]?=some (k,y)):fs.map (fun x=>if x.1=k then (k,b) else x)=fs.set j (k,b):=by
 refine List.ext_getElem? fun i=>?_
 rw[List.getElem?_map,List.getElem?_set]
 by_cases hi:j=i
 ·subst hi
  rw[if_pos rfl,hj,if_pos (List.getElem?_eq_some_iff.1 hj).1]
  show some (if k=k then (k,b) else (k,y))=_
  rw[if_pos rfl]
 ·rw[if_neg hi]
  cases hx:fs[i]? with
  | none=>rfl
  | some x =>
   show some (if x.1=k then (k,b) else x)=some x
   rw[if_neg]
   intro e
   obtain⟨h1,e1⟩:=List.getElem?_eq_some_iff.1 hj
   obtain⟨h2,e2⟩:=List.getElem?_eq_some_iff.1 hx
   have:=(List.nodup_iff_pairwise_ne.1 hn)
   rcases Nat.lt_or_gt_of_ne hi with h|h
   ·have:=List.pairwise_iff_getElem.1 this j i (by rw[List.length_map];exact h1) (by rw[List.length_map];exact h2) h
    rw[List.getElem_map,List.getElem_map,e1,e2] at this
    exact this e.symm
   ·have:=List.pairwise_iff_getElem.1 this i j (by rw[List.length_map];exact h2) (by rw[List.length_map];exact h1) h
    rw[List.getElem_map,List.getElem_map,e1,e2] at this
    exact this e
theorem DM.put{w:World}{n1 mb:Nat}{fs:Fs}(h:DM w n1 mb fs)(hn:(fs.map Prod.fst).Nodup)(hm:n1<=mb)(m:FBm)(hs:m.stays w n1) :
  ∃ w',(Instr.mapUpdate 118 (.map (some mb)) (.string ⟨m.f.1.toArray⟩) (.slice m.a m.f.2.length m.c)).run Tryz.prog w = .ok () w'/\DM w' n1 mb (setF fs m.f.1 m.f.2)/\w'.os=w.os/\w'.tape=w.tape/\w'.output=w.output/\w'.heap.size=w.heap.size/\(∀ j,j≠mb->w'.heap[j]?=w.heap[j]?)/\KpD n1 w w':=by
 have hcell:∀ (w':World),(∀ j,j≠mb->w'.heap[j]?=w.heap[j]?)->KpD n1 w w':=fun w' hb=>⟨fun k h1 _=>hb k (by omega),fun g cur f hg=>(hb g (h.ne hg)).trans hg⟩
 obtain⟨ms,rfl,h2,h3⟩:=h
 by_cases hin:m.f.1∈(ms.map FBm.f).map Prod.fst
 ·obtain⟨w',j,y,hj,hrun,hMP,hos,htp,hou,hsz,hblk⟩:=h2.store_there (P:=Tryz.prog) 118 9 27 Tryz.underlying118 Tryz.underlying9 (key := .string ⟨m.f.1.toArray⟩) (v := .slice m.a m.f.2.length m.c) (by simp[MapKept.IsKey]) (by
   obtain⟨x,hx,e⟩:=List.mem_map.1 hin
   obtain⟨m',hm',rfl⟩:=List.mem_map.1 hx
   exact⟨m'.ent,List.mem_map.2 ⟨m',hm',rfl⟩,by show encS m'.f.1=_;rw[e];rfl⟩)
  have hk:=hcell w' hblk
  rw[List.getElem?_map] at hj
  obtain⟨m0,hm0,e0⟩:∃ m0,ms[j]?=some m0/\m0.f.1=m.f.1:=by
   cases hx:ms[j]? with
   | none=>rw[hx] at hj;cases hj
   | some m0 =>
    rw[hx] at hj
    exact⟨m0,rfl,encS_inj (congrArg Prod.fst (Option.some.inj hj))⟩
  refine⟨w',hrun,⟨ms.set j m,?_,?_,fun x hx=>?_⟩,hos,htp,hou,hsz,hblk,hk⟩
  ·unfold setF
   rw[if_pos hin,map_is_set (y:=m0.f.2) hn (by rw[List.getElem?_map,hm0,<-e0];rfl),List.map_set]
  ·rw[List.map_set];exact hMP
  ·rcases List.mem_or_eq_of_mem_set hx with hx|rfl
   ·exact(h3 x hx).kept hk
   ·exact hs.kept hk
 ·obtain⟨w',hrun,hMP,hos,htp,hou,hsz,hblk⟩:=h2.store_new (P:=Tryz.prog) 118 9 27 Tryz.underlying118 Tryz.underlying9 (key := .string ⟨m.f.1.toArray⟩) (v := .slice m.a m.f.2.length m.c) (by simp[MapKept.IsKey]) (by
   intro x hx e
   obtain⟨m',hm',rfl⟩:=List.mem_map.1 hx
   exact hin (List.mem_map.2 ⟨_,List.mem_map.2 ⟨m',hm',rfl⟩,encS_inj e⟩))
  have hk:=hcell w' hblk
  refine⟨w',hrun,⟨ms++[m],?_,?_,fun x hx=>?_⟩,hos,htp,hou,hsz,hblk,hk⟩
  ·unfold setF
   rw[if_neg hin,List.map_append];rfl
  ·rw[List.map_append];exact hMP
  ·rcases List.mem_append.1 hx with hx|hx
   ·exact(h3 x hx).kept hk
   ·obtain rfl:x=m:=by simpa using hx
    exact hs.kept hk
theorem FBm.stays.take{w:World}{n1:Nat}{k d:Bs}{a:Option Addr}{c:Nat}(h:FBm.stays w n1 ⟨(k,d),a,c⟩)(n:Nat)(hn:n<=d.length):FBm.stays w n1 ⟨(k,d.take n),a,c⟩:=by
 have hl:(d.take n).length=n:=by rw[List.length_take];omega
 refine⟨by show (d.take n).length<=c;have:=h.le;rw[hl];dsimp only at this;omega,h.nil,?_⟩
 rcases h.row with hr|⟨g,o,h1,h2,h3⟩
 ·have hr':d=[]:=hr
  exact .inl (by show d.take n=[];rw[hr',List.take_nil])
 ·refine .inr ⟨g,o,h1,h2,fun i u hu=>h3 i u ?_⟩
  show d[i]?=some u
  have hu':(d.take n)[i]?=some u:=hu
  rw[List.getElem?_take] at hu'
  split at hu'
  ·exact hu'
  ·cases hu'
def logEnt(x:Bs×Nat):Value×Value:=(.string ⟨x.1.toArray⟩,.int .i64 (x.2:Int))
def roadB(number mark stop:Int)(m:Option Nat):Obj := .cells #[.int .i64 number,.int .i64 mark,.int .i64 stop,.map m] 241 (0,0)
structure AB where
 M:Nat
 R:Nat
 Z:Nat
 L:Nat
 O:Nat
 X:Nat
structure AL (w0:World) (n0:Nat) (a:AB) (number mark stop next:Int) (log:List (Bs×Nat)) (ds:List Nat) (w:World):Prop where
 hm:w.heap[a.M]?=some (.cells #[.int .i64 mark] 3 (0,0))
 hr:w.heap[a.R]?=some (roadB 0 0 0 none)
 hz:w.heap[a.Z]?=some (roadB number mark mark none)
 hl:MP w .string a.L (log.map logEnt)
 ho:w.heap[a.O]?=some (roadB number mark stop (some a.L))
 hx:w.heap[a.X]?=some (.cells #[.int .i64 next] 3 (0,0))
 hd:Marks w n0 ds
 hb:Below n0 w0 w
structure AN (n0:Nat) (a:AB):Prop where
 M:n0<=a.M
 R:a.M<a.R
 Z:a.R<a.Z
 L:a.Z<a.L
 O:a.L<a.O
 X:a.O<a.X
theorem AL.keeps{w0 A B:World}{n0 N:Nat}{a:AB}{number mark stop next:Int}{log:List (Bs×Nat)}{ds:List Nat}{TW:List TypeId}(h:AL w0 n0 a number mark stop next log ds A)(hn:AN n0 a)(hN:a.X<N)(hds:∀ D∈ds,D<N)(hk:Keeps TW N A B):AL w0 n0 a number mark stop next log ds B:=by
 obtain⟨h1,h2,h3,h4,h5,h6⟩:=hn
 obtain⟨es,c,hl1,hl2⟩:=h.hl
 exact⟨hk.low _ _ h.hm (by omega),hk.low _ _ h.hr (by omega),hk.low _ _ h.hz (by omega),⟨es,c,hk.low _ _ hl1 (by omega),hl2⟩,hk.low _ _ h.ho (by omega),hk.low _ _ h.hx (by omega),h.hd.keeps hk hds,Below.keeps h.hb hk (by omega) (by have:=blk_lt h.hm;omega)⟩
theorem AL.below{w0 A B:World}{n0 n:Nat}{a:AB}{number mark stop next:Int}{log:List (Bs×Nat)}{ds:List Nat}(h:AL w0 n0 a number mark stop next log ds A)(hb:Below n A B)(hn:A.heap.size<=n)(hn0:n0<=A.heap.size):AL w0 n0 a number mark stop next log ds B :=
 ⟨(hb.block _ (by have:=blk_lt h.hm;omega)).trans h.hm,(hb.block _ (by have:=blk_lt h.hr;omega)).trans h.hr,(hb.block _ (by have:=blk_lt h.hz;omega)).trans h.hz,h.hl.at_ (hb.block _ (by have:=h.hl.lt;omega)),(hb.block _ (by have:=blk_lt h.ho;omega)).trans h.ho,(hb.block _ (by have:=blk_lt h.hx;omega)).trans h.hx,h.hd.below hb hn,h.hb.trans (hb.mono (by omega))⟩
theorem AL.next{w0 w:World}{n0:Nat}{a:AB}{number mark stop next:Int}{log:List (Bs×Nat)}{ds:List Nat}(h:AL w0 n0 a number mark stop next log ds w)(hn:AN n0 a)(v:Int):AL w0 n0 a number mark stop v log ds (w.setCell ⟨a.X,0,none⟩ (.int .i64 v)):=by
 obtain⟨h1,h2,h3,h4,h5,h6⟩:=hn
 exact⟨blk_set_other h.hm (by show a.M≠a.X;omega) _ _,blk_set_other h.hr (by show a.R≠a.X;omega) _ _,blk_set_other h.hz (by show a.Z≠a.X;omega) _ _,h.hl.at_ (Below.heap_setCell _ _ _ _ (by first|(show a.L≠a.X;omega)|(show a.X≠a.L;omega))),blk_set_other h.ho (by show a.O≠a.X;omega) _ _,blk_set h.hx 0 _,h.hd.others (KeepsOthers.setCell _ _ _),h.hb.setCell (p:=⟨a.X,0,none⟩) (by show n0<=a.X;omega) _⟩
theorem AL.other{w0 w:World}{n0 j:Nat}{a:AB}{number mark stop next:Int}{log:List (Bs×Nat)}{ds:List Nat}(h:AL w0 n0 a number mark stop next log ds w)(hn:AN n0 a)(hj:a.X<j)(i:Nat)(v:Value):AL w0 n0 a number mark stop next log ds (w.setCell ⟨j,i,none⟩ v):=by
 obtain⟨h1,h2,h3,h4,h5,h6⟩:=hn
 exact⟨blk_set_other h.hm (by show a.M≠j;omega) _ _,blk_set_other h.hr (by show a.R≠j;omega) _ _,blk_set_other h.hz (by show a.Z≠j;omega) _ _,h.hl.at_ (Below.heap_setCell _ _ _ _ (by first|(show a.L≠j;omega)|(show j≠a.L;omega))),blk_set_other h.ho (by show a.O≠j;omega) _ _,blk_set_other h.hx (by show a.X≠j;omega) _ _,h.hd.others (KeepsOthers.setCell _ _ _),h.hb.setCell (p:=⟨j,i,none⟩) (by show n0<=j;omega) _⟩
theorem AL.stop{w0 w:World}{n0:Nat}{a:AB}{number mark stop next:Int}{log:List (Bs×Nat)}{ds:List Nat}(h:AL w0 n0 a number mark stop next log ds w)(hn:AN n0 a)(v:Int):AL w0 n0 a number mark v next log ds (w.setCell ⟨a.O,2,none⟩ (.int .i64 v)):=by
 obtain⟨h1,h2,h3,h4,h5,h6⟩:=hn
 exact⟨blk_set_other h.hm (by show a.M≠a.O;omega) _ _,blk_set_other h.hr (by show a.R≠a.O;omega) _ _,blk_set_other h.hz (by show a.Z≠a.O;omega) _ _,h.hl.at_ (Below.heap_setCell _ _ _ _ (by first|(show a.L≠a.O;omega)|(show a.O≠a.L;omega))),blk_set h.ho 2 _,blk_set_other h.hx (by show a.X≠a.O;omega) _ _,h.hd.others (KeepsOthers.setCell _ _ _),h.hb.setCell (p:=⟨a.O,2,none⟩) (by show n0<=a.O;omega) _⟩
theorem AL.put{w0 w:World}{n0:Nat}{a:AB}{number mark stop next:Int}{log:List (Bs×Nat)}{ds:List Nat}(h:AL w0 n0 a number mark stop next log ds w)(hn:AN n0 a)(nm:Bs)(en:Nat)(hno:∀ x∈log,x.1≠nm) :
  ∃ w',(Instr.mapUpdate 239 (.map (some a.L)) (.string ⟨nm.toArray⟩) (.int .i64 (en:Int))).run Tryz.prog w = .ok () w'/\AL w0 n0 a number mark stop next (log++[(nm,en)]) ds w'/\∀ j,j≠a.L->w'.heap[j]?=w.heap[j]? := by
 obtain⟨h1,h2,h3,h4,h5,h6⟩:=hn
 obtain⟨w',hrun,hl,hos,htp,hou,hsz,hblk⟩:=h.hl.store_new (P:=Tryz.prog) 239 9 3 Tryz.underlying239 Tryz.underlying9 (key := .string ⟨nm.toArray⟩) (v := .int .i64 (en:Int)) (by simp[MapKept.IsKey]) (by
  intro x hx e
  obtain⟨y,hy,rfl⟩:=List.mem_map.1 hx
  exact hno y hy (encS_inj e))
 refine⟨w',hrun,⟨(hblk _ (by omega)).trans h.hm,(hblk _ (by omega)).trans h.hr,(hblk _ (by omega)).trans h.hz,by rw[List.map_append];exact hl,(hblk _ (by omega)).trans h.ho,(hblk _ (by omega)).trans h.hx,h.hd.kept (fun D hD=>(hblk D (fun e=>?_)).trans hD),h.hb.trans ⟨hos,htp,hou,by omega,fun j hj=>hblk j (by omega)⟩⟩,hblk⟩
 obtain⟨es,c,hl1,-⟩:=h.hl
 rw[e,hl1] at hD
 cases hD
attribute [local go_sem] Oper.semAt_some
theorem firstsOf_names(fs:Fs):((fs.map Prod.fst).filterMap (saysG (numOfName logH))).mergeSort leI=firstsOf fs:=by
 unfold firstsOf rawFirsts
 rw[List.filterMap_map]
 rfl
theorem firstsOf_len(fs:Fs):((fs.map Prod.fst).filterMap (saysG (numOfName logH))).length=(firstsOf fs).length:=by
 rw[<-firstsOf_names,List.length_mergeSort]
theorem lookup_dir(mb:Nat)(k:ByteArray)(w:World):(Instr.lookup 137 (.map (some mb)) (.string k) true).run Tryz.prog w=(Instr.lookup 118 (.map (some mb)) (.string k) true).run Tryz.prog w:=by
 simp[Instr.lookup,run_underlying und_dir,run_underlying Tryz.underlying118]
theorem res_road{F:Fence}{n:Nat}{tmps:Array Value}{R:Ending->World->Prop}{w:World}{b:Nat}{r:Road}{m:Option Nat}(ht:tmps[6]?.getD undef = .pointer (some ⟨b,0,none⟩))(h:w.heap[b]?=some (roadB r.number r.mark r.stop m))(hR:R (.returned (r.val (.map m))) w) :
  LeavesInM F n Tryz.prog Tryz.f148 tmps R [] .returning w:=by
 have c0:=blk_cell h 0
 have c1:=blk_cell h 1
 have c2:=blk_cell h 2
 have c3:=blk_cell h 3
 simp only[gA,gB,gC] at c0 c1 c2 c3
 refine⟨r.val (.map m),?_,hR⟩
 simp[results,Tryz.results148,go_sem,ht,c0,c1,c2,c3,Road.val]
theorem along_less{fs:Fs}{number mark x stop:Int}{log:List (Bs×Nat)}(hf:fromOf (firstsOf fs) mark=some x)(h:roadGo fs mark (281474976710658-x).toNat x []=some (log,stop))(hs:stop<mark):along fs number mark=⟨number,mark,mark,[]⟩:=by
 unfold along;rw[hf];dsimp only;rw[h];dsimp only;rw[if_pos hs]
theorem along_more{fs:Fs}{number mark x stop:Int}{log:List (Bs×Nat)}(hf:fromOf (firstsOf fs) mark=some x)(h:roadGo fs mark (281474976710658-x).toNat x []=some (log,stop))(hs:¬ stop<mark):along fs number mark=⟨number,mark,stop,log⟩:=by
 unfold along;rw[hf];dsimp only;rw[h];dsimp only;rw[if_neg hs]
theorem along_cross{fs:Fs}{number mark x:Int}(hf:fromOf (firstsOf fs) mark=some x)(h:roadGo fs mark (281474976710658-x).toNat x []=none):along fs number mark=⟨number,mark,mark,[]⟩:=by
 unfold along;rw[hf];dsimp only;rw[h]
def LogV(n0:Nat)(m:Option Nat)(log:List (Bs×Nat))(V:World):Prop:=m=none/\log=[]\/∃ b,m=some b/\n0<=b/\MP V .string b (log.map logEnt)
theorem along_end{F:Fence}{n:Nat}{tmps:Array Value}{R:Ending->World->Prop}{w W:World}{n0:Nat}{r:Road}{m:Option Nat}{ds:List Nat}(ht:tmps[6]?.getD undef = .pointer (some ⟨n0+1,0,none⟩))(h:W.heap[n0+1]?=some (roadB r.number r.mark r.stop m))(hl:LogV n0 m r.log W)(hb:Below n0 w W)(hd:Marks W n0 ds)
  (hR:∀ V,LogV n0 m r.log V->Below n0 w V->R (.returned (r.val (.map m))) V):LeavesInM F n Tryz.prog Tryz.f148 tmps R (ds.map markOf) .returning W:=by
 refine leaves_marks (fun V=>V.heap[n0+1]?=some (roadB r.number r.mark r.stop m)/\LogV n0 m r.log V/\Below n0 w V) n0 ?_ (fun V hV=>res_road ht hV.1 (hR V hV.2.1 hV.2.2)) ds W hd ⟨h,hl,hb⟩
 rintro V D ⟨s1,s2,s3⟩ hN hD
 have h1:D≠n0+1:=fun e=>by rw[e,s1] at hD;cases hD
 have hk:Keeps [] n0 V (V.putObj D (.deferred none)):=Keeps.put _ hD rfl hN
 refine⟨(World.putObj_heap_other (by first|exact h1|exact h1.symm)).trans s1,?_,Below.keeps s3 hk (Nat.le_refl _) (by have:=blk_lt s1;omega)⟩
 rcases s2 with s2|⟨b,e,hb,hm⟩
 ·exact .inl s2
 ·refine .inr ⟨b,e,hb,hm.at_ (World.putObj_heap_other ?_)⟩
  have h2:D≠b:=fun e2=>by
   obtain⟨es,c,hm1,-⟩:=hm
   rw[e2,hm1] at hD;cases hD
  first|exact h2|exact h2.symm
theorem rfirsts_any(w:World)(mb:Nat){n1:Nat}{fs:Fs}(H:DM w n1 mb fs)(hlen:fs.length<=1000000) :
  Calls Tryz.prog 147 #[.map (some mb),.func (.func 66) #[] #[]] w fun e w'=>∃ v,e = .returned v/\w'.ownsRow w.heap.size 3 1 v (firstsOf fs).length ((firstsOf fs).map (Value.int .i64))/\Below w.heap.size w w':=by
 obtain⟨ms,rfl,h2,-⟩:=H
 refine(rnumbers_any w mb 66 (ms.map FBm.ent) ((ms.map FBm.f).map Prod.fst) h2 (by simp[FBm.ent,FBm.f,encS]) (by simpa using hlen) (numOfName logH) (fun w' s=>sfirst_any w' s) (fun args w'=>enters_of Tryz.func66 (by kernel_rfl) rfl args w')).mono ?_
 rintro e w' ⟨v,rfl,ho,hb⟩
 rw[firstsOf_names,firstsOf_len] at ho
 exact⟨v,rfl,ho,hb⟩
set_option maxRecDepth 20000 in
theorem along_any(w:World)(mb:Nat){n1:Nat}{fs:Fs}(H:DM w n1 mb fs)(hfs:FsOk fs)(hlen:fs.length<=1000000)(number mark:Int)(hm:0<=mark/\mark<=281474976710655) :
  Calls Tryz.prog 148 #[.map (some mb),.int .i64 number,.int .i64 mark] w fun e w'=>∃ m,e = .returned ((along fs number mark).val (.map m))/\(m=none/\(along fs number mark).log=[]\/∃ b,m=some b/\w.heap.size<=b/\MP w' .string b ((along fs number mark).log.map logEnt))/\Below w.heap.size w w':=by
 have HX:=Hi H
 have HF:=Hi hfs
 have HL:=Hi hlen
 have HM:=Hi hm
 clear H hfs hlen hm
 refine(callsIn_wide (n:=6)).1 ?_
 refine callsIn_of_wp_marks Tryz.func148 rfl trivial ?_ rfl
 refine(wpIn_wide (n:=6)).2 ?_
 simp only[Tryz.ntmps148,List.size_toArray,List.length_cons,List.length_nil,Nat.reduceAdd,Nat.reduceSub,Array.replicate_succ,Array.replicate_zero,List.push_toArray,List.append_toArray,List.nil_append,List.cons_append]
 have hmk:∀ W:World,(Instr.makeMap 239 none).run Tryz.prog W = .ok (.map (some W.heap.size)) (W.alloc (.map #[] 0)):=fun W=>by simp[Instr.makeMap,Result.andThen]
 repeat' ((fail_if_success at_builtin);first|go_values|go_skip|go_guarded|go_step|go_upon|go_back)
 refine wp_scope_straight ?_
 repeat' ((fail_if_success (with_reducible (show Code.wp _ (Code.region 3 _ _) _ _ _)));(fail_if_success at_builtin);first|go_values|go_skip|go_guarded|go_step|go_upon|go_back)
 have bM:(((((w.alloc (.cells #[.int .i64 mark] 3)).alloc (.cells #[.int .i64 0,.int .i64 0,.int .i64 0,.map none] 241)).alloc (.cells #[.int .i64 number,.int .i64 mark,.int .i64 mark,.map none] 241)).alloc (.map #[] 0)).alloc (.cells #[.int .i64 number,.int .i64 mark,.int .i64 mark,.map (some (w.heap.size+1+1+1))] 241)).heap[w.heap.size]?=some (.cells #[.int .i64 mark] 3 (0,0)):=blk_alloc (blk_alloc (blk_alloc (blk_alloc (blk_new _ _) _) _) _) _
 have bR:(((((w.alloc (.cells #[.int .i64 mark] 3)).alloc (.cells #[.int .i64 0,.int .i64 0,.int .i64 0,.map none] 241)).alloc (.cells #[.int .i64 number,.int .i64 mark,.int .i64 mark,.map none] 241)).alloc (.map #[] 0)).alloc (.cells #[.int .i64 number,.int .i64 mark,.int .i64 mark,.map (some (w.heap.size+1+1+1))] 241)).heap[w.heap.size+1]?=some (roadB 0 0 0 none):=blk_alloc (blk_alloc (blk_alloc (blk_new1 _ _ _) _) _) _
 have bZ:(((((w.alloc (.cells #[.int .i64 mark] 3)).alloc (.cells #[.int .i64 0,.int .i64 0,.int .i64 0,.map none] 241)).alloc (.cells #[.int .i64 number,.int .i64 mark,.int .i64 mark,.map none] 241)).alloc (.map #[] 0)).alloc (.cells #[.int .i64 number,.int .i64 mark,.int .i64 mark,.map (some (w.heap.size+1+1+1))] 241)).heap[w.heap.size+1+1]?=some (roadB number mark mark none):=by
  have h:(((w.alloc (.cells #[.int .i64 mark] 3)).alloc (.cells #[.int .i64 0,.int .i64 0,.int .i64 0,.map none] 241)).alloc (.cells #[.int .i64 number,.int .i64 mark,.int .i64 mark,.map none] 241)).heap[((w.alloc (.cells #[.int .i64 mark] 3)).alloc (.cells #[.int .i64 0,.int .i64 0,.int .i64 0,.map none] 241)).heap.size]?=some (roadB number mark mark none):=blk_new _ _
  exact blk_alloc (blk_alloc (by simpa using h) _) _
 have bL:MP (((((w.alloc (.cells #[.int .i64 mark] 3)).alloc (.cells #[.int .i64 0,.int .i64 0,.int .i64 0,.map none] 241)).alloc (.cells #[.int .i64 number,.int .i64 mark,.int .i64 mark,.map none] 241)).alloc (.map #[] 0)).alloc (.cells #[.int .i64 number,.int .i64 mark,.int .i64 mark,.map (some (w.heap.size+1+1+1))] 241)) .string (w.heap.size+1+1+1) (([]:List (Bs×Nat)).map logEnt):=by
  have h:((((w.alloc (.cells #[.int .i64 mark] 3)).alloc (.cells #[.int .i64 0,.int .i64 0,.int .i64 0,.map none] 241)).alloc (.cells #[.int .i64 number,.int .i64 mark,.int .i64 mark,.map none] 241)).alloc (.map #[] 0)).heap[(((w.alloc (.cells #[.int .i64 mark] 3)).alloc (.cells #[.int .i64 0,.int .i64 0,.int .i64 0,.map none] 241)).alloc (.cells #[.int .i64 number,.int .i64 mark,.int .i64 mark,.map none] 241)).heap.size]?=some (.map #[] 0):=blk_new _ _
  exact⟨#[],0,blk_alloc (by simpa using h) _,MapKept.stamped_empty 0,by simp,rfl⟩
 have bO:(((((w.alloc (.cells #[.int .i64 mark] 3)).alloc (.cells #[.int .i64 0,.int .i64 0,.int .i64 0,.map none] 241)).alloc (.cells #[.int .i64 number,.int .i64 mark,.int .i64 mark,.map none] 241)).alloc (.map #[] 0)).alloc (.cells #[.int .i64 number,.int .i64 mark,.int .i64 mark,.map (some (w.heap.size+1+1+1))] 241)).heap[w.heap.size+1+1+1+1]?=some (roadB number mark mark (some (w.heap.size+1+1+1))):=by
  have h:(((((w.alloc (.cells #[.int .i64 mark] 3)).alloc (.cells #[.int .i64 0,.int .i64 0,.int .i64 0,.map none] 241)).alloc (.cells #[.int .i64 number,.int .i64 mark,.int .i64 mark,.map none] 241)).alloc (.map #[] 0)).alloc (.cells #[.int .i64 number,.int .i64 mark,.int .i64 mark,.map (some (w.heap.size+1+1+1))] 241)).heap[((((w.alloc (.cells #[.int .i64 mark] 3)).alloc (.cells #[.int .i64 0,.int .i64 0,.int .i64 0,.map none] 241)).alloc (.cells #[.int .i64 number,.int .i64 mark,.int .i64 mark,.map none] 241)).alloc (.map #[] 0)).heap.size]?=some (roadB number mark mark (some (w.heap.size+1+1+1))):=blk_new _ _
  simpa using h
 have hb:Below w.heap.size w (((((w.alloc (.cells #[.int .i64 mark] 3)).alloc (.cells #[.int .i64 0,.int .i64 0,.int .i64 0,.map none] 241)).alloc (.cells #[.int .i64 number,.int .i64 mark,.int .i64 mark,.map none] 241)).alloc (.map #[] 0)).alloc (.cells #[.int .i64 number,.int .i64 mark,.int .i64 mark,.map (some (w.heap.size+1+1+1))] 241)):=(((((Below.refl _ w).alloc (Nat.le_refl _) _).alloc (by simp) _).alloc (by simp;omega) _).alloc (by simp;omega) _).alloc (by simp;omega) _
 have hs:(((((w.alloc (.cells #[.int .i64 mark] 3)).alloc (.cells #[.int .i64 0,.int .i64 0,.int .i64 0,.map none] 241)).alloc (.cells #[.int .i64 number,.int .i64 mark,.int .i64 mark,.map none] 241)).alloc (.map #[] 0)).alloc (.cells #[.int .i64 number,.int .i64 mark,.int .i64 mark,.map (some (w.heap.size+1+1+1))] 241)).heap.size=w.heap.size+5:=by simp
 have hFM:=HX.out.below (hb.mono (Nat.le_refl _))
 obtain⟨n0,hn0⟩:∃ n0,w.heap.size=n0:=⟨_,rfl⟩
 have HN0:=Hi hn0
 rw[hn0] at bM bR bZ bL bO hb hs hFM⊢
 clear hmk hn0
 generalize ((((((w.alloc (.cells #[.int .i64 mark] 3)).alloc (.cells #[.int .i64 0,.int .i64 0,.int .i64 0,.map none] 241)).alloc (.cells #[.int .i64 number,.int .i64 mark,.int .i64 mark,.map none] 241)).alloc (.map #[] 0)).alloc (.cells #[.int .i64 number,.int .i64 mark,.int .i64 mark,.map (some (n0+1+1+1))] 241)))=w1 at bM bR bZ bL bO hb hs hFM⊢
 have HFM:=Hi hFM
 have HS1:=Hi hs
 have HB1:=Hi hb
 clear hs hb hFM
 repeat' ((fail_if_success at_builtin);first|go_values|go_skip|go_guarded|go_step|go_upon|go_back)
 refine(rfirsts_any w1 mb HFM.out HL.out).mono ?_
 rintro e1 w2 ⟨v,rfl,ho,hb2⟩
 have hal:∀ (next:Int) (W:World),Below w1.heap.size w1 W->AL w n0 (AB.mk n0 (n0+1) (n0+1+1) (n0+1+1+1) (n0+1+1+1+1) (W).heap.size) number mark mark next [] [] (W.alloc (.cells #[.int .i64 next] 3)):=by
  intro next W hW
  have h2:Below W.heap.size W (W.alloc (.cells #[.int .i64 next] 3)):=(Below.refl _ _).alloc (Nat.le_refl _) _
  have h3:Below w1.heap.size w1 (W.alloc (.cells #[.int .i64 next] 3)):=hW.trans (h2.mono hW.size)
  exact⟨blk_below h3 bM (blk_lt bM),blk_below h3 bR (blk_lt bR),blk_below h3 bZ (blk_lt bZ),bL.at_ (h3.block _ bL.lt),blk_below h3 bO (blk_lt bO),blk_new _ _,Marks.nil _ _,HB1.out.trans (h3.mono (by have:=HS1.out;omega))⟩
 have HAL:=Hi hal
 have HRZ:Hid (∀ W,Below w1.heap.size w1 W->W.heap[n0+1]?=some (roadB 0 0 0 none)/\W.heap[n0+1+1]?=some (roadB number mark mark none)/\W.heap[n0]?=some (.cells #[.int .i64 mark] 3 (0,0))):=Hi (fun W hW=>⟨blk_below hW bR (blk_lt bR),blk_below hW bZ (blk_lt bZ),blk_below hW bM (blk_lt bM)⟩)
 have HB2:=Hi hb2
 have hrise:=firsts_rise HF.out.nodup
 obtain⟨firsts,hfi⟩:∃ firsts,firstsOf fs=firsts:=⟨_,rfl⟩
 rw[hfi] at ho hrise
 have HFI:=Hi hfi
 have HRI:=Hi hrise
 obtain⟨a9,c9,rfl,hc9,-,-,-⟩:=own_rowT ho
 have HO:=Hi ho
 have hfl:Hid (firsts.length<=1000000):=Hi (by have h1:=HFI.out;rw[<-h1];have:=HL.out;unfold firstsOf;rw[List.length_mergeSort];have:=List.length_filterMap_le (fun x:Bs×Bs=>firstOf x.1) fs;unfold rawFirsts;omega)
 have hflI:(firsts.length:Int)<=1000000:=by have:=hfl.out;omega
 have wl:IntKind.i64.wrap ((firsts.length:Int)-1)=(firsts.length:Int)-1:=IntWalk.i64_in _ (by omega)
 clear hal hb2 bM bR bZ bL bO hrise hfi ho hc9
 dsimp only
 repeat' ((fail_if_success at_builtin);first|go_values|go_skip|go_guarded|go_step|go_upon|go_back)
 go_loopw [10] (fun c wr=>∃ i:Nat,c = .int .i64 ((i:Int)-1)/\i<=firsts.length/\Hid (∀ (j:Nat) (x:Int),i<=j->firsts[j]?=some x->mark+1<x)/\Hid (Below w1.heap.size w1 wr/\Below w2.heap.size w2 wr)) (fun c _=>(intOf c+1).toNat)
 case atStart=>exact⟨firsts.length,rfl,Nat.le_refl _,Hi (fun j x hj hx=>by have:=(List.getElem?_eq_some_iff.1 hx).1;omega),Hi ⟨HB2.out,Below.refl _ _⟩⟩
 case round =>
  obtain⟨i,rfl,hi,HJ,HBB⟩:=hrel
  have q0:wr.cell? ⟨n0,0,none⟩=some (.int .i64 mark):=(blk1 (HRZ.out wr HBB.out.1).2.2).1
  have wm:IntKind.i64.wrap (mark+1)=mark+1:=IntWalk.i64_in _ (by have:=HM.out;omega)
  have HBd:=Hi (And.intro (HBB.out.1.drew) (HBB.out.2.drew))
  rcases Nat.eq_zero_or_pos i with h0|h0
  ·subst h0
   have t1:decide ((0:Int)<=((0:Nat):Int)-1)=false:=by simp
   have t2:decide (((0:Nat):Int)-1<0)=true:=by simp
   obtain⟨r0,rf⟩:wr.heap[n0+1]?=some (roadB 0 0 0 none)/\True:=⟨(HRZ.out wr HBB.out.1).1,trivial⟩
   have ff:=fun i=>blk_free r0 i
   have z0:=blk_cell (HRZ.out wr HBB.out.1).2.1 0
   have z1:=blk_cell (HRZ.out wr HBB.out.1).2.1 1
   have z2:=blk_cell (HRZ.out wr HBB.out.1).2.1 2
   have z3:=blk_cell (HRZ.out wr HBB.out.1).2.1 3
   have y0:=blk_cell r0 0
   have y1:=blk_cell r0 1
   have y2:=blk_cell r0 2
   have y3:=blk_cell r0 3
   simp only[gA,gB,gC] at z0 z1 z2 z3 y0 y1 y2 y3
   have HRW:=Hi r0
   clear r0 rf
   repeat' ((fail_if_success (with_reducible (show Code.wp _ (Code.region 5 _ _) _ _ _)));(fail_if_success at_builtin);first|go_values|go_skip|go_guarded|go_step|go_upon|go_back)
   go_quiet (fail)
   repeat' ((fail_if_success at_builtin);first|go_values|go_skip|go_guarded|go_step|go_upon|go_back)
   rw[Exit.noGoto_ret]
   have HA:Hid (along fs number mark=⟨number,mark,mark,[]⟩):=Hi (by
    unfold along
    rw[show fromOf (firstsOf fs) mark=none by
     unfold fromOf
     rw[HFI.out,from_take (mark+1) HRI.out 0 (Nat.zero_le _) (fun j x _ hx=>HJ.out j x (Nat.zero_le _) hx) (fun x h=>absurd h (by omega))]
     rfl])
   have HRW4:=Hi (set4_road (x:=(⟨number,mark,mark,[]⟩,none)) (show (wr.drewN nq).heap[n0+1]?=_ from HRW.out))
   have hfin:Below n0 w ((((((wr.drewN nq).setCell ⟨n0+1,0,none⟩ (.int .i64 number)).setCell ⟨n0+1,1,none⟩ (.int .i64 mark)).setCell ⟨n0+1,2,none⟩ (.int .i64 mark)).setCell ⟨n0+1,3,none⟩ (.map none))):=((((bdrewN (HB1.out.trans (HBB.out.1.mono (by have:=HS1.out;omega))) nq).setCell (p:=⟨n0+1,0,none⟩) (Nat.le_succ _) _).setCell (p:=⟨n0+1,1,none⟩) (Nat.le_succ _) _).setCell (p:=⟨n0+1,2,none⟩) (Nat.le_succ _) _).setCell (p:=⟨n0+1,3,none⟩) (Nat.le_succ _) _
   have HFN:=Hi hfin
   have HRW5:=HRW4.out
   clear z0 z1 z2 z3 y0 y1 y2 y3 ff hfin HRW4 q0
   dsimp only at HRW5
   generalize (((((wr.drewN nq).setCell ⟨n0+1,0,none⟩ (.int .i64 number)).setCell ⟨n0+1,1,none⟩ (.int .i64 mark)).setCell ⟨n0+1,2,none⟩ (.int .i64 mark)).setCell ⟨n0+1,3,none⟩ (.map none))=W8 at HRW5 HFN⊢
   refine res_road (r:=⟨number,mark,mark,[]⟩) rfl HRW5 ⟨none,by rw[HA.out],.inl ⟨rfl,by rw[HA.out]⟩,by rw[HN0.out];exact HFN.out⟩
  ·obtain⟨k,rfl⟩:∃ k,i=k+1:=⟨i-1,by omega⟩
   rw[show (((k+1:Nat):Int)-1)=(k:Int) by omega]
   obtain⟨x,hx⟩:∃ x,firsts[k]?=some x:=⟨_,List.getElem?_eq_getElem (by omega)⟩
   obtain⟨g,cap,hv,hcap,hg⟩:=own_shape HO.out (by omega)
   cases hv
   have q1:wr.cell? ⟨g,k,none⟩=some (.int .i64 x):=(own_cell2 (own_below HO.out HBB.out.2) k _ (by rw[List.getElem?_map,hx];rfl))
   have t1:decide ((0:Int)<=(k:Int))=true:=by simp
   have hk:(k:Int)<(firsts.length:Int):=by omega
   have HX1:=Hi hx
   have HI:=Hi hi
   clear hx hi h0 hg hcap
   rcases Bool.eq_false_or_eq_true (decide (mark+1<x)) with t3|t3
   ·have HJ2:Hid (∀ (j:Nat) (y:Int),k<=j->firsts[j]?=some y->mark+1<y):=Hi (fun j y hj hy=>by
     by_cases e:j=k
     ·subst e;have h1:=HX1.out;rw[h1] at hy;cases hy;simpa using t3
     ·exact HJ.out j y (by omega) hy)
    have wk:IntKind.i64.wrap ((k:Int)-1)=(k:Int)-1:=IntWalk.i64_in _ (by omega)
    repeat' ((fail_if_success (with_reducible (show Code.wp _ (Code.region 5 _ _) _ _ _)));(fail_if_success at_builtin);first|go_values|go_skip|go_guarded|go_step|go_upon|go_back)
    go_quiet (fail)
    repeat' ((fail_if_success at_builtin);first|go_values|go_skip|go_guarded|go_step|go_upon|go_back)
    go_roundw
    case rel=>exact⟨k,rfl,by have:=HI.out;omega,HJ2,Hi ⟨bdrewN HBB.out.1 _,bdrewN HBB.out.2 _⟩⟩
    case measure=>simp[intOf]
   ·have t4:decide ((k:Int)<0)=false:=by simp
    repeat' ((fail_if_success (with_reducible (show Code.wp _ (Code.region 5 _ _) _ _ _)));(fail_if_success at_builtin);first|go_values|go_skip|go_guarded|go_step|go_upon|go_back)
    go_quiet (fail)
    have HFX:Hid (fromOf (firstsOf fs) mark=some x):=Hi (by
     unfold fromOf
     rw[HFI.out,from_take (mark+1) HRI.out (k+1) HI.out (fun j y hj hy=>HJ.out j y hj hy) (fun y _ hy=>by
      have h1:=HX1.out
      rw[Nat.add_sub_cancel,h1] at hy
      cases hy
      simpa using t3),if_pos (Nat.succ_pos _),Nat.add_sub_cancel,HX1.out])
    have HB3:=Hi (And.intro (bdrewN HBB.out.1 nq) (bdrewN HBB.out.2 nq))
    have q1:(wr.drewN nq).cell? ⟨g,k,none⟩=some (.int .i64 x):=q1
    generalize wr.drewN nq=w3 at HB3 q1⊢
    clear q0 t1 t3 hk HBd HBB
    repeat' ((fail_if_success (with_reducible (show Code.wp _ (Code.region 9 _ _) _ _ _)));(fail_if_success at_builtin);first|go_values|go_skip|go_guarded|go_step|go_upon|go_back)
    have HN3:=Hi (blk_new w3 (.cells #[.int .i64 0] 3))
    have hc:=(blk1 HN3.out).1
    have hf:=(blk1 HN3.out).2
    repeat' ((fail_if_success (with_reducible (show Code.wp _ (Code.region 10 _ _) _ _ _)));(fail_if_success at_builtin);first|go_values|go_skip|go_guarded|go_step|go_upon|go_back)
    refine wp_label ?_
    have hAL:=HAL.out x w3 HB3.out.1
    generalize hw4:w3.alloc (.cells #[.int .i64 x] 3)=w4 at hAL⊢
    have HAL4:=Hi hAL
    clear hAL hc hf q1
    repeat' ((fail_if_success at_builtin);first|go_values|go_skip|go_guarded|go_step|go_upon|go_back)
    refine(?_:∀ z3 z4 z9 z10 z18 z19 z20 z21 z22 z23 z24 z25 z26 z27 z28 z29 z30 z31 z32 z33 z34 z35 z36 z37 z38 z39 z40 z41 z42 z43 z44 z45 z46 z47 z48 z49 z50 z51:Value,Code.wp Tryz.prog _ _ { tmps:=#[.map (some mb),.int .i64 number,.int .i64 mark,z3,z4,.pointer (some ⟨n0,0,none⟩),.pointer (some ⟨n0+1,0,none⟩),.pointer (some ⟨n0+1+1,0,none⟩),.pointer (some ⟨n0+1+1+1+1,0,none⟩),z9,z10,.pointer (some ⟨w3.heap.size,0,none⟩),undef,undef,undef,undef,undef,undef,z18,z19,z20,z21,z22,z23,z24,z25,z26,z27,z28,z29,z30,z31,z32,z33,z34,z35,z36,z37,z38,z39,z40,z41,z42,z43,z44,z45,z46,z47,z48,z49,z50,z51,undef,undef,undef,undef,undef,undef,undef,undef,undef,undef,undef,undef,undef,undef,undef,undef,undef,undef,undef,undef,undef,undef,undef,undef,undef,undef,undef,undef,undef,undef,undef,undef,undef,undef,undef,undef,undef,undef,undef,undef,undef,undef,undef,undef,undef,undef,undef,undef,undef,undef,undef,undef,undef,undef,undef],defers:=[] } _) _ _ _ _ _ _ _ _ _ _ _ _ _ _ _ _ _ _ _ _ _ _ _ _ _ _ _ _ _ _ _ _ _ _ _ _ _ _
    intro z3 z4 z9 z10 z18 z19 z20 z21 z22 z23 z24 z25 z26 z27 z28 z29 z30 z31 z32 z33 z34 z35 z36 z37 z38 z39 z40 z41 z42 z43 z44 z45 z46 z47 z48 z49 z50 z51
    refine wp_loop_ghost (fun kk a W=>∃ (Ds:List Nat) (next stop:Int) (log:List (Bs×Nat)) (us:Nat->Value),a = { tmps:=#[.map (some mb),.int .i64 number,.int .i64 mark,z3,z4,.pointer (some ⟨n0,0,none⟩),.pointer (some ⟨n0+1,0,none⟩),.pointer (some ⟨n0+1+1,0,none⟩),.pointer (some ⟨n0+1+1+1+1,0,none⟩),z9,z10,.pointer (some ⟨w3.heap.size,0,none⟩),(us 12),(us 13),(us 14),(us 15),(us 16),(us 17),z18,z19,z20,z21,z22,z23,z24,z25,z26,z27,z28,z29,z30,z31,z32,z33,z34,z35,z36,z37,z38,z39,z40,z41,z42,z43,z44,z45,z46,z47,z48,z49,z50,z51,(us 52),(us 53),(us 54),(us 55),(us 56),(us 57),(us 58),(us 59),(us 60),(us 61),(us 62),(us 63),(us 64),(us 65),(us 66),(us 67),(us 68),(us 69),(us 70),(us 71),(us 72),(us 73),(us 74),(us 75),(us 76),(us 77),(us 78),(us 79),(us 80),(us 81),(us 82),(us 83),(us 84),(us 85),(us 86),(us 87),(us 88),(us 89),(us 90),(us 91),(us 92),(us 93),(us 94),(us 95),(us 96),(us 97),(us 98),(us 99),(us 100),undef,undef,undef,undef,undef,undef],defers:=Ds.map markOf }/\Hid (AL w n0 (AB.mk n0 (n0+1) (n0+1+1) (n0+1+1+1) (n0+1+1+1+1) (w3).heap.size) number mark stop next log Ds W)/\Hid (w4.heap.size<=W.heap.size)/\Hid (roadGo fs mark (281474976710658-x).toNat x []=roadGo fs mark kk next log)/\Hid (281474976710657-next<=(kk:Int)/\1<=next/\next<=281474976710656)/\Hid (∀ y∈log,∃ j:Int,y.1=nameOf logH j/\1<=j/\j<next/\j<=281474976710655)/\Hid (getF fs (nameOf logH next)≠none\/stop=next-1)) (281474976710658-x).toNat ⟨[],x,mark,[],fun _=>undef,rfl,HAL4,Hi (Nat.le_refl _),Hi rfl,Hi ?h1,Hi (by simp),Hi (.inl ?h2)⟩ ?_
    case h1 =>
     have hf1:FirstIs fs x:=first_is (by rw[HFI.out];exact List.mem_of_getElem? HX1.out)
     have:=hf1.one
     have:=hf1.max
     omega
    case h2 =>
     have hf1:FirstIs fs x:=first_is (by rw[HFI.out];exact List.mem_of_getElem? HX1.out)
     obtain⟨d,hd⟩:=getF_some hf1.there
     rw[hd];simp
    rintro kk a W ⟨Ds,next,stop,log,us,rfl,HA,HSZ,HRG,HKK,HLG,HST⟩
    have c11:=(blk1 HA.out.hx).1
    have HFW:=Hi (HX.out.below (by rw[HN0.out];exact HA.out.hb))
    have HNW:Hid (n0+5<=W.heap.size):=Hi (by have:=HSZ.out;have h1:=HB3.out.1.size;have:=HS1.out;have h2:w4.heap.size=w3.heap.size+1:=(by rw[<-hw4];simp);omega)
    repeat' ((fail_if_success at_builtin);first|go_values|go_skip|go_guarded|go_step|go_upon|go_back)
    (refine(sname_any W next).mono ?_;rintro e1 w5 ⟨rfl,hb5⟩;dsimp only)
    have HA5:=Hi (HA.out.below hb5 (Nat.le_refl _) (by have:=HNW.out;omega))
    have HFM5:=Hi (HFW.out.below hb5)
    have HSZ5:Hid (w4.heap.size<=w5.heap.size):=Hi (Nat.le_trans HSZ.out hb5.size)
    clear hb5 c11 HFW
    cases hget:getF fs (nameOf logH next) with
    | none =>
     have hlk:=(lookup_dir mb _ w5).trans (HFM5.out.none hget true)
     have HGET:=Hi hget
     clear hget
     have HE:Hid (roadGo fs mark (281474976710658-x).toNat x []=some (log,stop)):=Hi (by
      rw[HRG.out,roadGo_no HGET.out]
      rcases HST.out with h|h
      ·exact absurd HGET.out h
      ·rw[h])
     have HAE:=HA5
     clear HA HA5 HRG HST HKK HGET HFM5
     have o2:=blk_cell HAE.out.ho 2
     have m0:=(blk1 HAE.out.hm).1
     have ff:=fun i=>blk_free HAE.out.hr i
     have y0:=blk_cell HAE.out.hr 0
     have y1:=blk_cell HAE.out.hr 1
     have y2:=blk_cell HAE.out.hr 2
     have y3:=blk_cell HAE.out.hr 3
     simp only[gA,gB,gC] at o2 y0 y1 y2 y3
     rcases Bool.eq_false_or_eq_true (decide (stop<mark)) with tt|tt
     ·have k0:=blk_cell HAE.out.hz 0
      have k1:=blk_cell HAE.out.hz 1
      have k2:=blk_cell HAE.out.hz 2
      have k3:=blk_cell HAE.out.hz 3
      simp only[gA,gB,gC] at k0 k1 k2 k3
      repeat' ((fail_if_success at_builtin);first|go_values|go_skip|go_guarded|go_step|go_upon|go_back)
      have HTT:=Hi tt
      clear o2 m0 ff y0 y1 y2 y3 k0 k1 k2 k3 tt
      rw[Exit.noGoto_ret]
      have HRA:Hid (along fs number mark=⟨number,mark,mark,[]⟩):=Hi (along_less HFX.out HE.out (by simpa using HTT.out))
      refine along_end (w:=w) (r:=⟨number,mark,mark,[]⟩) (m:=none) rfl (set4_road (x:=(⟨number,mark,mark,[]⟩,none)) HAE.out.hr) (.inl ⟨rfl,rfl⟩) ((((HAE.out.hb.setCell (p:=⟨n0+1,0,none⟩) (Nat.le_succ _) _).setCell (p:=⟨n0+1,1,none⟩) (Nat.le_succ _) _).setCell (p:=⟨n0+1,2,none⟩) (Nat.le_succ _) _).setCell (p:=⟨n0+1,3,none⟩) (Nat.le_succ _) _) (HAE.out.hd.others ((((KeepsOthers.setCell _ _ _).trans (KeepsOthers.setCell _ _ _)).trans (KeepsOthers.setCell _ _ _)).trans (KeepsOthers.setCell _ _ _))) ?_
      intro V hV hb
      exact⟨none,by rw[HRA.out],.inl ⟨rfl,by rw[HRA.out]⟩,by rw[HN0.out];exact hb⟩
     ·have k0:=blk_cell HAE.out.ho 0
      have k1:=blk_cell HAE.out.ho 1
      have k3:=blk_cell HAE.out.ho 3
      simp only[gA,gB,gC] at k0 k1 k3
      repeat' ((fail_if_success at_builtin);first|go_values|go_skip|go_guarded|go_step|go_upon|go_back)
      have HTT:=Hi tt
      clear o2 m0 ff y0 y1 y2 y3 k0 k1 k3 tt
      rw[Exit.noGoto_ret]
      have HRA:Hid (along fs number mark=⟨number,mark,stop,log⟩):=Hi (along_more HFX.out HE.out (by simpa using HTT.out))
      refine along_end (w:=w) (r:=⟨number,mark,stop,log⟩) (m:=some (n0+1+1+1)) rfl (set4_road (x:=(⟨number,mark,stop,log⟩,some (n0+1+1+1))) HAE.out.hr) (.inr ⟨_,rfl,by omega,HAE.out.hl.at_ ?m1⟩) ((((HAE.out.hb.setCell (p:=⟨n0+1,0,none⟩) (Nat.le_succ _) _).setCell (p:=⟨n0+1,1,none⟩) (Nat.le_succ _) _).setCell (p:=⟨n0+1,2,none⟩) (Nat.le_succ _) _).setCell (p:=⟨n0+1,3,none⟩) (Nat.le_succ _) _) (HAE.out.hd.others ((((KeepsOthers.setCell _ _ _).trans (KeepsOthers.setCell _ _ _)).trans (KeepsOthers.setCell _ _ _)).trans (KeepsOthers.setCell _ _ _))) ?m2
      case m1 =>
       have hne:∀ (V:World) (i:Nat) (v:Value),(V.setCell ⟨n0+1,i,none⟩ v).heap[n0+1+1+1]?=V.heap[n0+1+1+1]? := fun V i v=>Below.heap_setCell _ _ _ _ (by first|(show n0+1+1+1≠n0+1;omega)|(show n0+1≠n0+1+1+1;omega))
       exact(hne _ _ _).trans ((hne _ _ _).trans ((hne _ _ _).trans (hne _ _ _)))
      case m2 =>
       intro V hV hb
       exact⟨some (n0+1+1+1),by rw[HRA.out],by rw[HRA.out,HN0.out];exact hV,by rw[HN0.out];exact hb⟩
    | some d =>
     obtain⟨da,dc,hbs,hlk0⟩:=HFM5.out.has HF.out.nodup hget true
     have hlk:=(lookup_dir mb _ w5).trans hlk0
     clear hlk0
     have HGET:=Hi hget
     have hbE:Below w5.heap.size w5 (w5.alloc (.cells #[.int .i64 0] 3)):=(Below.refl _ _).alloc (Nat.le_refl _) _
     have hn5:n0<=w5.heap.size:=by have:=blk_lt HA5.out.hm;dsimp only at this;omega
     have HN5:=Hi hn5
     repeat' ((fail_if_success (with_reducible (show Code.wp _ (Code.region 14 _ _) _ _ _)));(fail_if_success at_builtin);first|go_values|go_skip|go_guarded|go_step|go_upon|go_back)
     have e6:=blk_new w5 (.cells #[.int .i64 0] 3)
     have HA6:=Hi (HA5.out.below hbE (Nat.le_refl _) hn5)
     have hbs6:=hbs.below hbE
     have hs6:(w5.alloc (.cells #[.int .i64 0] 3)).heap.size=w5.heap.size+1:=by simp
     generalize w5.alloc (.cells #[.int .i64 0] 3)=w6 at e6 HA6 hbs6 hs6⊢
     have HS6:=Hi hs6
     clear hget hbs hbE hlk HA5 hn5 hs6
     repeat' ((fail_if_success at_builtin);first|go_values|go_skip|go_guarded|go_step|go_upon|go_back)
     (refine(sscan_any w6 da dc d next hbs6 (by have:=HF.out.len _ _ HGET.out;omega)).mono ?_;rintro e1 w7 ⟨B1,B2,rfl,hS,hb7⟩;dsimp only)
     have HS:=Hi hS
     have HE7:=Hi (blk_below hb7 e6 (blk_lt e6))
     have HA7:=Hi (HA6.out.below hb7 (Nat.le_refl _) (by have:=HN5.out;have:=HS6.out;omega))
     have HSZ7:=Hi hb7.size
     clear hS hbs6 hb7 e6 HA6
     repeat' ((fail_if_success at_builtin);first|go_values|go_skip|go_guarded|go_step|go_upon|go_back)
     have HAN:Hid (AN n0 (AB.mk n0 (n0+1) (n0+1+1) (n0+1+1+1) (n0+1+1+1+1) (w3).heap.size)):=Hi ⟨Nat.le_refl _,by show n0<n0+1;omega,by show n0+1<n0+1+1;omega,by show n0+1+1<n0+1+1+1;omega,by show n0+1+1+1<n0+1+1+1+1;omega,by show n0+1+1+1+1<w3.heap.size;have:=HB3.out.1.size;have:=HS1.out;omega⟩
     have HX7:Hid (w3.heap.size<w6.heap.size/\w5.heap.size<w6.heap.size/\w3.heap.size<w5.heap.size/\w6.heap.size<=w7.heap.size):=Hi (by have h2:w4.heap.size=w3.heap.size+1:=(by rw[<-hw4];simp);have:=HSZ5.out;have:=HS6.out;have:=HSZ7.out;omega)
     have HDL:=Hi HA7.out.hd.lt
     refine(wpIn_wide (n:=6)).1 ?_
     refine range_law_alloc (w0:=w7) (n:=6) rfl (enters_of Tryz.func163 (by kernel_rfl) rfl) (HS.out 5 w7 (Below.refl _ _)) (fun k t=>k=w3.heap.size\/k=w5.heap.size)
      (fun k t hk => .inl (by have:=HX7.out;rcases hk with h|h<;>omega)) (Below.refl _ _) (fun _=>rfl)
      (fun pre V=>∃ (la:Int) (en:Nat),segGo mark (pre.map BE.val) (next-1,0,false)=(la,en,false)/\AL w n0 (AB.mk n0 (n0+1) (n0+1+1) (n0+1+1+1) (n0+1+1+1+1) (w3).heap.size) number mark stop (la+1) log Ds V/\V.heap[w5.heap.size]?=some (.cells #[.int .i64 (en:Int)] 3 (0,0)))
      (fun c pre V=>c = .ret/\V.heap[n0+1]?=some (roadB number mark mark none)/\Below n0 w V/\Marks V n0 Ds/\(segGo mark (pre.map BE.val) (next-1,0,false)).2.2=true)
      (fun pre A B ⟨la,en,h1,h2,h3⟩ hk=>⟨la,en,h1,h2.keeps HAN.out (by have:=HX7.out;show w3.heap.size<_;omega) HDL.out hk,hk.low _ _ h3 (by have:=HX7.out;omega)⟩)
      (fun c pre A B ⟨h0,h1,h2,h3,h4⟩ hk=>⟨h0,hk.low _ _ h1 (by have:=HX7.out;have:=HAN.out.X;have:=blk_lt h1;dsimp only at *;omega),Below.keeps h2 hk (by have:=HX7.out;have:=HN5.out;omega) (by have:=blk_lt h1;omega),h3.keeps hk HDL.out,h4⟩)
      (fun y A V h hk=>h.keeps hk) ⟨next-1,0,rfl,by rw[Int.sub_add_cancel];exact HA7.out,HE7.out⟩
      (fun(y:BE) (p:Nat)=>({ tmps:=#[.map (some mb),.int .i64 number,.int .i64 mark,z3,z4,.pointer (some ⟨n0,0,none⟩),.pointer (some ⟨n0+1,0,none⟩),.pointer (some ⟨n0+1+1,0,none⟩),.pointer (some ⟨n0+1+1+1+1,0,none⟩),z9,z10,.pointer (some ⟨w3.heap.size,0,none⟩),.int .i64 next,.slice da d.length dc,.bool true,.pointer (some ⟨w5.heap.size,0,none⟩),.pointer (some ⟨p,0,none⟩),.int .i64 (y.i:Int),z18,z19,z20,z21,z22,z23,z24,z25,z26,z27,z28,z29,z30,z31,z32,z33,z34,z35,z36,z37,z38,z39,z40,z41,z42,z43,z44,z45,z46,z47,z48,z49,z50,z51,.int .i64 next,.tuple #[.slice da d.length dc,.bool true],.map (some mb),.int .i64 next,.string ⟨(nameOf logH next).toArray⟩,.tuple #[.slice da d.length dc,.bool true],.slice da d.length dc,.bool true,.bool true,.bool false,.slice da d.length dc,.int .i64 next,.func (.func 163) #[] #[.pointer (some ⟨B1,0,none⟩),.pointer (some ⟨B2,0,none⟩)],.agg #[.int .i64 y.x.first,.slice y.ta y.x.txns.length y.tc],.int .i64 (y.i:Int),(us 67),(us 68),(us 69),(us 70),(us 71),(us 72),(us 73),(us 74),(us 75),(us 76),(us 77),(us 78),(us 79),(us 80),(us 81),(us 82),(us 83),(us 84),(us 85),(us 86),(us 87),(us 88),(us 89),(us 90),(us 91),(us 92),(us 93),(us 94),(us 95),(us 96),(us 97),(us 98),(us 99),(us 100),undef,undef,undef,undef,undef,undef],defers:=[] }:Act))
      (fun y p V=>V.heap[p]?=some (.cells #[.int .i64 y.x.first,.slice y.ta y.x.txns.length y.tc] 81 (0,0))) (fun y p A V h hk=>hk.same _ _ _ _ h (by decide)) ?ha ?hb ?hd ?hs
     case ha =>
      intro l y V K hK
      simp only[BE.encs,List.zip_toArray,List.zip_cons_cons,List.zip_nil_left,List.foldl_toArray,List.foldl_cons,List.foldl_nil,List.setIfInBounds_toArray,List.set_cons_succ,List.set_cons_zero]
      gi_wp2
      exact hK _ _ ((Below.refl _ _).alloc (Nat.le_refl _) _) (blk_new _ _) (Nat.le_refl _)
     case hb =>
      rintro l pre y p V ⟨la,en,hr,hAV,hWV⟩ hG hAl hp hsz
      have hnext:segGo mark ((pre++[y]).map BE.val) (next-1,0,false)=segStep mark (la,en,false) (y.x,y.i):=by rw[<-hr];simp[segGo,BE.val,List.foldl_append]
      have HNX:=Hi hnext
      have HAV:=Hi hAV
      have HWV:=Hi hWV
      have HCK:=Hi (chkB_ok hG.2.2.2.1)
      have w1:IntKind.i64.wrap (y.x.first+(y.x.txns.length:Int))=y.x.first+(y.x.txns.length:Int):=IntWalk.i64_in _ (by have:=HCK.out;omega)
      have w2:IntKind.i64.wrap (y.x.first+(y.x.txns.length:Int)-1)=y.x.first+(y.x.txns.length:Int)-1:=IntWalk.i64_in _ (by have:=HCK.out;omega)
      obtain⟨p0,p1,-,-⟩:=blk2 hAl
      obtain⟨x0,xf⟩:=blk1 hAV.hx
      obtain⟨v0,vf⟩:=blk1 hWV
      have mm:=(blk1 hAV.hm).1
      have hne:w3.heap.size≠w5.heap.size:=by have:=HX7.out;omega
      have A1:=HAV.out.next HAN.out (y.x.first+(y.x.txns.length:Int))
      have V1:=blk_set_other hWV hne.symm 0 (.int .i64 (y.x.first+(y.x.txns.length:Int)))
      have A2:=Hi (A1.other HAN.out (show w3.heap.size<w5.heap.size by have:=HX7.out;omega) 0 (.int .i64 (y.i:Int)))
      have V2:=Hi (blk_set V1 0 (.int .i64 (y.i:Int)))
      have HK2:Hid (KpN w7.heap.size V ((V.setCell ⟨w3.heap.size,0,none⟩ (.int .i64 (y.x.first+(y.x.txns.length:Int)))).setCell ⟨w5.heap.size,0,none⟩ (.int .i64 (y.i:Int)))/\KpW (fun k t=>k=w3.heap.size\/k=w5.heap.size) V ((V.setCell ⟨w3.heap.size,0,none⟩ (.int .i64 (y.x.first+(y.x.txns.length:Int)))).setCell ⟨w5.heap.size,0,none⟩ (.int .i64 (y.i:Int)))):=Hi ⟨(KpN.of_others (KeepsOthers.setCell _ _ _)).trans (.of_others (KeepsOthers.setCell _ _ _)),(KpW.set (fun _ _ _ _ => .inl rfl) _ _).trans (KpW.set (fun _ _ _ _ => .inr rfl) _ _)⟩
      have vv:=blk1 V1
      clear hnext hr hAV hWV hG A1 V1
      repeat' ((fail_if_success (with_reducible (show Code.wpIn _ _ _ (Code.region 18 _ _) _ _ _)));first|go_values|gi_guarded|gi_step|gi_upon|(gi_back))
      have P2:=blk_set_other (blk_set_other hAl (blk_ne hAl HAV.out.hx (by decide)) 0 (.int .i64 (y.x.first+(y.x.txns.length:Int)))) (blk_ne hAl HWV.out (by decide)) 0 (.int .i64 (y.i:Int))
      generalize (V.setCell ⟨w3.heap.size,0,none⟩ (.int .i64 (y.x.first+(y.x.txns.length:Int)))).setCell ⟨w5.heap.size,0,none⟩ (.int .i64 (y.i:Int))=V2w at A2 V2 HK2 P2⊢
      clear x0 xf v0 vf mm vv p0 p1 hAl
      obtain⟨p0,p1,-,-⟩:=blk2 P2
      have x0:=(blk1 A2.out.hx).1
      have mm:=(blk1 A2.out.hm).1
      rcases Bool.eq_false_or_eq_true (decide (y.x.first<=mark)) with t1|t1
      ·rcases Bool.eq_false_or_eq_true (decide (mark<y.x.first+(y.x.txns.length:Int)-1)) with t2|t2
       ·have HT:=Hi (And.intro t1 t2)
        have k0:=blk_cell A2.out.hz 0
        have k1:=blk_cell A2.out.hz 1
        have k2:=blk_cell A2.out.hz 2
        have k3:=blk_cell A2.out.hz 3
        have ff:=fun i=>blk_free A2.out.hr i
        have y0:=blk_cell A2.out.hr 0
        have y1:=blk_cell A2.out.hr 1
        have y2:=blk_cell A2.out.hr 2
        have y3:=blk_cell A2.out.hr 3
        simp only[gA,gB,gC] at k0 k1 k2 k3 y0 y1 y2 y3
        gi_wp2
        refine⟨HK2.out.1.trans ((((KpN.of_others (KeepsOthers.setCell _ _ _)).trans (.of_others (KeepsOthers.setCell _ _ _))).trans (.of_others (KeepsOthers.setCell _ _ _))).trans (.of_others (KeepsOthers.setCell _ _ _))),rfl,set4_road (x:=(⟨number,mark,mark,[]⟩,none)) A2.out.hr,(((A2.out.hb.setCell (p:=⟨n0+1,0,none⟩) (Nat.le_succ _) _).setCell (p:=⟨n0+1,1,none⟩) (Nat.le_succ _) _).setCell (p:=⟨n0+1,2,none⟩) (Nat.le_succ _) _).setCell (p:=⟨n0+1,3,none⟩) (Nat.le_succ _) _,A2.out.hd.others ((((KeepsOthers.setCell _ _ _).trans (KeepsOthers.setCell _ _ _)).trans (KeepsOthers.setCell _ _ _)).trans (KeepsOthers.setCell _ _ _)),?_⟩
        rw[HNX.out]
        simp only[segStep,HT.out.1,HT.out.2]
        rfl
       ·have HT:=Hi (And.intro t1 t2)
        gi_wp2
        refine⟨HK2.out.1,HK2.out.2,y.x.first+(y.x.txns.length:Int)-1,y.i,?_,by rw[Int.sub_add_cancel];exact A2.out,V2.out⟩
        rw[HNX.out]
        simp only[segStep,HT.out.1,HT.out.2]
        rfl
      ·have HT:=Hi t1
       gi_wp2
       refine⟨HK2.out.1,HK2.out.2,y.x.first+(y.x.txns.length:Int)-1,y.i,?_,by rw[Int.sub_add_cancel];exact A2.out,V2.out⟩
       rw[HNX.out]
       simp only[segStep,HT.out]
       rfl
     case hs =>
      rintro D c pre V hD ⟨pre0,y,-,hpre⟩ ⟨rfl,h1,h2,h3,h4⟩ hDD
      have HRA:Hid (along fs number mark=⟨number,mark,mark,[]⟩):=Hi (by
       obtain⟨k2,rfl⟩:∃ k2,kk=k2+1:=⟨kk-1,by have:=HKK.out;omega⟩
       exact along_cross HFX.out (HRG.out.trans (roadGo_cross HGET.out (segGo_pre hpre h4))))
      have HMK:Hid (Marks V n0 (D :: Ds)):=Hi (h3.cons hDD (by have:=HN5.out;have:=HX7.out;omega) (fun hin=>by have:=HDL.out D hin;omega))
      have H1:=Hi h1
      have H2:=Hi h2
      clear h1 h2 h3 h4 hDD hpre
      refine(wpIn_wide (n:=6)).2 ?_
      repeat' ((fail_if_success at_builtin);first|go_values|go_skip|go_guarded|go_step|go_upon|go_back)
      rw[Exit.noGoto_ret]
      refine along_end (w:=w) (r:=⟨number,mark,mark,[]⟩) (m:=none) (ds:=D :: Ds) rfl H1.out (.inl ⟨rfl,rfl⟩) H2.out HMK.out ?_
      intro V hV hb
      exact⟨none,by rw[HRA.out],.inl ⟨rfl,by rw[HRA.out]⟩,by rw[HN0.out];exact hb⟩
     case hd =>
      rintro D xs V hD hS' ⟨la,en,hr,hAV,hWV⟩ hDD
      rw[hS'] at hr
      have HSR:Hid ((la=next-1/\en=0)\/(next<=la/\la<=281474976710655/\0<en)):=Hi (by
       rcases seg_rise d mark next with⟨-,h⟩|h
       ·rw[hr] at h;cases h;exact .inl ⟨rfl,rfl⟩
       ·rw[hr] at h;exact .inr h)
      have HMK:Hid (Marks V n0 (D :: Ds)):=Hi (hAV.hd.cons hDD (by have:=HN5.out;have:=HX7.out;omega) (fun hin=>by have:=HDL.out D hin;omega))
      have HAV:Hid (AL w n0 (AB.mk n0 (n0+1) (n0+1+1) (n0+1+1+1) (n0+1+1+1+1) (w3).heap.size) number mark stop (la+1) log (D :: Ds) V):=Hi { hAV with hd:=HMK.out }
      have HWV:=Hi hWV
      have HR:=Hi hr
      have HNO:Hid (∀ y∈log,y.1≠nameOf logH next):=Hi (log_new HLG.out HKK.out.2.1)
      clear hS' hr hAV hWV hDD
      have o3:=blk_cell HAV.out.ho 3
      simp only[gA,gB,gC] at o3
      have v0:=(blk1 HWV.out).1
      dsimp only
      have HNV:Hid (n0<=V.heap.size):=Hi (by have:=blk_lt HAV.out.hm;dsimp only at this;omega)
      have HLW:Hid (w5.heap.size≠n0+1+1+1):=Hi (by have:=HX7.out;have:=HAN.out.X;dsimp only at this;omega)
      repeat' ((fail_if_success (with_reducible (show Code.wp _ (Code.region 20 _ _) _ _ _)));(fail_if_success at_builtin);first|go_values|go_skip|go_guarded|go_step|go_upon|go_back)
      go_region_held3 (fun w'=>w'.cell? ⟨n0+1+1+1+1,3,none⟩=some (.map (some (n0+1+1+1)))/\w'.cell? ⟨w5.heap.size,0,none⟩=some (.int .i64 (en:Int))) (first|exact⟨o3,v0⟩|exact⟨o8,v8⟩|exact⟨o9,v9⟩) (first
       | (go_at_call 79;refine(sname_any _ next).mono ?_;rintro e1 w8 ⟨rfl,hb8x⟩;have hb8:Below V.heap.size V w8:=(by first|exact hb8x|exact(Below.refl _ _).drew.trans hb8x|exact(bdrewN (Below.refl _ _) _).trans hb8x);have HA8:=Hi (HAV.out.below hb8 (Nat.le_refl _) HNV.out);have W8:=Hi (blk_below hb8 HWV.out (blk_lt HWV.out));obtain⟨wS,hS9,hAS,hKS⟩:=HA8.out.put HAN.out (nameOf logH next) en HNO.out;have W9:=Hi ((hKS _ HLW.out).trans W8.out);have v8:=(blk1 W8.out).1;have v9:=(blk1 W9.out).1;have o8:=blk_cell HA8.out.ho 3;have o9:=blk_cell hAS.ho 3;simp only[gA,gB,gC] at o8 o9;have HAS:=Hi hAS;clear hb8x hb8 hAS hKS))
      clear o3 v0 v8 o8 o9 v9 HA8 W8 HAV HWV
      have o2:=blk_cell HAS.out.ho 2
      have of:=blk_free HAS.out.ho 2
      have x0:=(blk1 HAS.out.hx).1
      have wla:IntKind.i64.wrap (la+1-1)=la:=by rw[Int.add_sub_cancel];exact IntWalk.i64_in _ (by have:=HSR.out;have:=HKK.out;omega)
      simp only[gA,gB,gC] at o2
      have wla2:RowKit.wrap64 la=la:=by first|exact IntWalk.wrap64_in _ (by have:=HSR.out;have:=HKK.out;omega)|exact(IntWalk.i64_left la).symm.trans (by have h:=wla;rw[Int.add_sub_cancel] at h;exact h)
      repeat' ((fail_if_success (with_reducible (show Code.wp _ (Code.region 22 _ _) _ _ _)));(fail_if_success at_builtin);first|go_values|go_skip|go_guarded|go_step|go_upon|go_back)
      rw[wla2]
      have A9:=HAS.out.stop HAN.out la
      have W10:=blk_set_other W9.out (show w5.heap.size≠n0+1+1+1+1 by have:=HX7.out;have:=HAN.out.X;dsimp only at this;omega) 2 (.int .i64 la)
      clear o2 of x0 wla wla2 W9 HAS hS9
      dsimp only at A9
      generalize wS.setCell ⟨n0+1+1+1+1,2,none⟩ (.int .i64 la)=wT at A9 W10⊢
      have HAE:=Hi A9
      have e0:=(blk1 W10).1
      have HW10:=Hi W10
      clear A9 W10
      obtain⟨k2,rfl⟩:∃ k2,kk=k2+1:=⟨kk-1,by have:=HKK.out;omega⟩
      by_cases he:en=0\/en<d.length
      ·have HE:Hid (roadGo fs mark (281474976710658-x).toNat x []=some (log++[(nameOf logH next,en)],la)):=Hi (HRG.out.trans (roadGo_last HGET.out HR.out he))
       rcases Nat.eq_zero_or_pos en with h0|h0
       ·subst h0
        have t5:(((0:Nat):Int)==0)=true:=by simp
        clear he
        have o2:=blk_cell HAE.out.ho 2
        have m0:=(blk1 HAE.out.hm).1
        have ff:=fun i=>blk_free HAE.out.hr i
        have y0:=blk_cell HAE.out.hr 0
        have y1:=blk_cell HAE.out.hr 1
        have y2:=blk_cell HAE.out.hr 2
        have y3:=blk_cell HAE.out.hr 3
        simp only[gA,gB,gC] at o2 y0 y1 y2 y3
        rcases Bool.eq_false_or_eq_true (decide (la<mark)) with tt|tt
        ·have k0:=blk_cell HAE.out.hz 0
         have k1:=blk_cell HAE.out.hz 1
         have k2:=blk_cell HAE.out.hz 2
         have k3:=blk_cell HAE.out.hz 3
         simp only[gA,gB,gC] at k0 k1 k2 k3
         repeat' ((fail_if_success at_builtin);first|go_values|go_skip|go_guarded|go_step|go_upon|go_back)
         have HTT:=Hi tt
         clear o2 m0 ff y0 y1 y2 y3 k0 k1 k2 k3 tt
         rw[Exit.noGoto_ret]
         have HRA:Hid (along fs number mark=⟨number,mark,mark,[]⟩):=Hi (along_less HFX.out HE.out (by simpa using HTT.out))
         refine along_end (w:=w) (r:=⟨number,mark,mark,[]⟩) (m:=none) rfl (set4_road (x:=(⟨number,mark,mark,[]⟩,none)) HAE.out.hr) (.inl ⟨rfl,rfl⟩) ((((HAE.out.hb.setCell (p:=⟨n0+1,0,none⟩) (Nat.le_succ _) _).setCell (p:=⟨n0+1,1,none⟩) (Nat.le_succ _) _).setCell (p:=⟨n0+1,2,none⟩) (Nat.le_succ _) _).setCell (p:=⟨n0+1,3,none⟩) (Nat.le_succ _) _) (HAE.out.hd.others ((((KeepsOthers.setCell _ _ _).trans (KeepsOthers.setCell _ _ _)).trans (KeepsOthers.setCell _ _ _)).trans (KeepsOthers.setCell _ _ _))) ?_
         intro V hV hb
         exact⟨none,by rw[HRA.out],.inl ⟨rfl,by rw[HRA.out]⟩,by rw[HN0.out];exact hb⟩
        ·have k0:=blk_cell HAE.out.ho 0
         have k1:=blk_cell HAE.out.ho 1
         have k3:=blk_cell HAE.out.ho 3
         simp only[gA,gB,gC] at k0 k1 k3
         repeat' ((fail_if_success at_builtin);first|go_values|go_skip|go_guarded|go_step|go_upon|go_back)
         have HTT:=Hi tt
         clear o2 m0 ff y0 y1 y2 y3 k0 k1 k3 tt
         rw[Exit.noGoto_ret]
         have HRA:Hid (along fs number mark=⟨number,mark,la,log++[(nameOf logH next,0)]⟩):=Hi (along_more HFX.out HE.out (by simpa using HTT.out))
         refine along_end (w:=w) (r:=⟨number,mark,la,log++[(nameOf logH next,0)]⟩) (m:=some (n0+1+1+1)) rfl (set4_road (x:=(⟨number,mark,la,log++[(nameOf logH next,0)]⟩,some (n0+1+1+1))) HAE.out.hr) (.inr ⟨_,rfl,by omega,HAE.out.hl.at_ ?m1⟩) ((((HAE.out.hb.setCell (p:=⟨n0+1,0,none⟩) (Nat.le_succ _) _).setCell (p:=⟨n0+1,1,none⟩) (Nat.le_succ _) _).setCell (p:=⟨n0+1,2,none⟩) (Nat.le_succ _) _).setCell (p:=⟨n0+1,3,none⟩) (Nat.le_succ _) _) (HAE.out.hd.others ((((KeepsOthers.setCell _ _ _).trans (KeepsOthers.setCell _ _ _)).trans (KeepsOthers.setCell _ _ _)).trans (KeepsOthers.setCell _ _ _))) ?m2
         case m1 =>
          have hne:∀ (V:World) (i:Nat) (v:Value),(V.setCell ⟨n0+1,i,none⟩ v).heap[n0+1+1+1]?=V.heap[n0+1+1+1]? := fun V i v=>Below.heap_setCell _ _ _ _ (by first|(show n0+1+1+1≠n0+1;omega)|(show n0+1≠n0+1+1+1;omega))
          exact(hne _ _ _).trans ((hne _ _ _).trans ((hne _ _ _).trans (hne _ _ _)))
         case m2 =>
          intro V hV hb
          exact⟨some (n0+1+1+1),by rw[HRA.out],by rw[HRA.out,HN0.out];exact hV,by rw[HN0.out];exact hb⟩
       ·have t5:((en:Int)==0)=false:=by simp;omega
        have t7:decide ((en:Int)<(d.length:Int))=true:=by simp;omega
        have t6:decide (en<d.length)=true:=by simp;omega
        clear he h0
        have o2:=blk_cell HAE.out.ho 2
        have m0:=(blk1 HAE.out.hm).1
        have ff:=fun i=>blk_free HAE.out.hr i
        have y0:=blk_cell HAE.out.hr 0
        have y1:=blk_cell HAE.out.hr 1
        have y2:=blk_cell HAE.out.hr 2
        have y3:=blk_cell HAE.out.hr 3
        simp only[gA,gB,gC] at o2 y0 y1 y2 y3
        rcases Bool.eq_false_or_eq_true (decide (la<mark)) with tt|tt
        ·have k0:=blk_cell HAE.out.hz 0
         have k1:=blk_cell HAE.out.hz 1
         have k2:=blk_cell HAE.out.hz 2
         have k3:=blk_cell HAE.out.hz 3
         simp only[gA,gB,gC] at k0 k1 k2 k3
         repeat' ((fail_if_success at_builtin);first|go_values|go_skip|go_guarded|go_step|go_upon|go_back)
         have HTT:=Hi tt
         clear o2 m0 ff y0 y1 y2 y3 k0 k1 k2 k3 tt
         rw[Exit.noGoto_ret]
         have HRA:Hid (along fs number mark=⟨number,mark,mark,[]⟩):=Hi (along_less HFX.out HE.out (by simpa using HTT.out))
         refine along_end (w:=w) (r:=⟨number,mark,mark,[]⟩) (m:=none) rfl (set4_road (x:=(⟨number,mark,mark,[]⟩,none)) HAE.out.hr) (.inl ⟨rfl,rfl⟩) ((((HAE.out.hb.setCell (p:=⟨n0+1,0,none⟩) (Nat.le_succ _) _).setCell (p:=⟨n0+1,1,none⟩) (Nat.le_succ _) _).setCell (p:=⟨n0+1,2,none⟩) (Nat.le_succ _) _).setCell (p:=⟨n0+1,3,none⟩) (Nat.le_succ _) _) (HAE.out.hd.others ((((KeepsOthers.setCell _ _ _).trans (KeepsOthers.setCell _ _ _)).trans (KeepsOthers.setCell _ _ _)).trans (KeepsOthers.setCell _ _ _))) ?_
         intro V hV hb
         exact⟨none,by rw[HRA.out],.inl ⟨rfl,by rw[HRA.out]⟩,by rw[HN0.out];exact hb⟩
        ·have k0:=blk_cell HAE.out.ho 0
         have k1:=blk_cell HAE.out.ho 1
         have k3:=blk_cell HAE.out.ho 3
         simp only[gA,gB,gC] at k0 k1 k3
         repeat' ((fail_if_success at_builtin);first|go_values|go_skip|go_guarded|go_step|go_upon|go_back)
         have HTT:=Hi tt
         clear o2 m0 ff y0 y1 y2 y3 k0 k1 k3 tt
         rw[Exit.noGoto_ret]
         have HRA:Hid (along fs number mark=⟨number,mark,la,log++[(nameOf logH next,en)]⟩):=Hi (along_more HFX.out HE.out (by simpa using HTT.out))
         refine along_end (w:=w) (r:=⟨number,mark,la,log++[(nameOf logH next,en)]⟩) (m:=some (n0+1+1+1)) rfl (set4_road (x:=(⟨number,mark,la,log++[(nameOf logH next,en)]⟩,some (n0+1+1+1))) HAE.out.hr) (.inr ⟨_,rfl,by omega,HAE.out.hl.at_ ?m1⟩) ((((HAE.out.hb.setCell (p:=⟨n0+1,0,none⟩) (Nat.le_succ _) _).setCell (p:=⟨n0+1,1,none⟩) (Nat.le_succ _) _).setCell (p:=⟨n0+1,2,none⟩) (Nat.le_succ _) _).setCell (p:=⟨n0+1,3,none⟩) (Nat.le_succ _) _) (HAE.out.hd.others ((((KeepsOthers.setCell _ _ _).trans (KeepsOthers.setCell _ _ _)).trans (KeepsOthers.setCell _ _ _)).trans (KeepsOthers.setCell _ _ _))) ?m2
         case m1 =>
          have hne:∀ (V:World) (i:Nat) (v:Value),(V.setCell ⟨n0+1,i,none⟩ v).heap[n0+1+1+1]?=V.heap[n0+1+1+1]? := fun V i v=>Below.heap_setCell _ _ _ _ (by first|(show n0+1+1+1≠n0+1;omega)|(show n0+1≠n0+1+1+1;omega))
          exact(hne _ _ _).trans ((hne _ _ _).trans ((hne _ _ _).trans (hne _ _ _)))
         case m2 =>
          intro V hV hb
          exact⟨some (n0+1+1+1),by rw[HRA.out],by rw[HRA.out,HN0.out];exact hV,by rw[HN0.out];exact hb⟩
      ·have HRG2:Hid (roadGo fs mark (281474976710658-x).toNat x []=roadGo fs mark k2 (la+1) (log++[(nameOf logH next,en)])):=Hi (HRG.out.trans (roadGo_on HGET.out HR.out he))
       have t5:((en:Int)==0)=false:=by simp;omega
       have t6:decide (en<d.length)=false:=by simp;omega
       have t7:decide ((en:Int)<(d.length:Int))=false:=by simp;omega
       have HE0:Hid (¬ (en=0\/en<d.length)):=Hi he
       clear he
       repeat' ((fail_if_success at_builtin);first|go_values|go_skip|go_guarded|go_step|go_upon|go_back)
       refine⟨k2,Nat.lt_succ_self _,D :: Ds,la+1,la,log++[(nameOf logH next,en)],(fun n=>match n with|12 => .int .i64 next|13 => .slice da d.length dc|14 => .bool true|15 => .pointer (some ⟨w5.heap.size,0,none⟩)|52 => .int .i64 next|53 => .tuple #[.slice da d.length dc,.bool true]|54 => .map (some mb)|55 => .int .i64 next|56 => .string ⟨(nameOf logH next).toArray⟩|57 => .tuple #[.slice da d.length dc,.bool true]|58 => .slice da d.length dc|59 => .bool true|60 => .bool true|61 => .bool false|62 => .slice da d.length dc|63 => .int .i64 next|64 => .func (.func 163) #[] #[.pointer (some ⟨B1,0,none⟩),.pointer (some ⟨B2,0,none⟩)]|85 => .pointer (some ⟨n0+1+1+1+1,3,none⟩)|86 => .map (some (n0+1+1+1))|87 => .int .i64 next|88 => .string ⟨(nameOf logH next).toArray⟩|89 => .int .i64 (en:Int)|90 => .int .i64 (la+1)|91 => .int .i64 la|92 => .pointer (some ⟨n0+1+1+1+1,2,none⟩)|93 => .int .i64 (en:Int)|94 => .bool false|95 => .bool false|96 => .int .i64 (en:Int)|97 => .slice da d.length dc|98 => .int .i64 (d.length:Int)|99 => .bool false|100 => .bool false|_=>us n),?s0,HAE,Hi ?s1,HRG2,Hi ?s2,Hi ?s3,Hi (.inr (by omega))⟩
       case s0=>rfl
       case s1=>have:=blk_lt HW10.out;have:=HX7.out;have:=HSZ5.out;omega
       case s2=>have:=HSR.out;have:=HKK.out;have:=HE0.out;omega
       case s3 =>
        intro z hz
        rcases List.mem_append.1 hz with hz|hz
        ·obtain⟨j,h1,h2,h3,h4⟩:=HLG.out z hz
         exact⟨j,h1,h2,by have:=HSR.out;omega,h4⟩
        ·rw[List.mem_singleton.1 hz]
         exact⟨next,rfl,HKK.out.2.1,by have:=HSR.out;have:=HE0.out;omega,by have:=HSR.out;have:=HE0.out;omega⟩
def MRo(w:World)(m:Option Nat)(r:Nat)(l todo:List (Value×Value)):Prop :=
 (m=none/\l=[]/\todo=[]/\∃ s c,w.heap[r]?=some (.mapIter none s #[] c))\/∃ b,m=some b/\MR w .string b r l todo
def leftO(w:World)(m:Option Nat)(r:Nat):Nat:=match m with
 | none=>0
 | some b=>w.rangeLeft b r
theorem MRo.kept{w w':World}{m:Option Nat}{r:Nat}{l todo:List (Value×Value)}(h:MRo w m r l todo)(hm:∀ b,m=some b->w'.heap[b]?=w.heap[b]?)(hr:w'.heap[r]?=w.heap[r]?):MRo w' m r l todo:=by
 rcases h with⟨h1,h2,h3,s,c,h⟩|⟨b,h1,h⟩
 ·exact .inl ⟨h1,h2,h3,s,c,hr.trans h⟩
 ·exact .inr ⟨b,h1,h.kept (hm b h1) hr⟩
theorem MRo.ne{w:World}{m:Option Nat}{r:Nat}{l todo:List (Value×Value)}(h:MRo w m r l todo){j:Nat}{c:Array Value}{t:TypeId}{f:Nat×Nat}(hj:w.heap[j]?=some (.cells c t f)):j≠r:=by
 rcases h with⟨h1,h2,h3,s,c,h⟩|⟨b,h1,h⟩
 ·intro e;subst e;rw[h] at hj;cases hj
 ·exact h.ne hj
theorem MRo.left{w:World}{m:Option Nat}{r:Nat}{l todo:List (Value×Value)}(h:MRo w m r l todo):leftO w m r=todo.length:=by
 rcases h with⟨rfl,h2,rfl,s,c,h⟩|⟨b,rfl,h⟩
 ·rfl
 ·exact h.left
theorem logm_range{w:World}{n0:Nat}{m:Option Nat}{log:List (Bs×Nat)}(h:LogV n0 m log w) :
  ∃ o,(Instr.range 239 (.map m)).run Tryz.prog w = .ok (.pointer (some ⟨w.heap.size,0,none⟩)) (w.alloc o)/\MRo (w.alloc o) m w.heap.size (log.map logEnt) (log.map logEnt):=by
 rcases h with⟨rfl,rfl⟩|⟨b,rfl,-,h⟩
 ·refine⟨.mapIter none 0 #[] 0,?_,.inl ⟨rfl,rfl,rfl,0,0,blk_new _ _⟩⟩
  simp[Instr.range,run_underlying Tryz.underlying239]
 ·obtain⟨o,h1,h2⟩:=h.range (P:=Tryz.prog) 239 9 3 Tryz.underlying239
  exact⟨o,h1,.inr ⟨b,rfl,h2⟩⟩
theorem MRo.next{w:World}{m:Option Nat}{r:Nat}{l todo:List (Value×Value)}(h:MRo w m r l todo)(ty:TypeId) :
  (todo=[]/\(Instr.next (.pointer (some ⟨r,0,none⟩)) false ty).run Tryz.prog w = .ok (.tuple #[.bool false]) w) \/
  ∃ x todo' w',x∈todo/\todo.Perm (x :: todo')/\(Instr.next (.pointer (some ⟨r,0,none⟩)) false ty).run Tryz.prog w = .ok (.tuple #[.bool true,x.1,x.2]) w'/\MRo w' m r l todo' /\
   (Instr.entry (.pointer (some ⟨r,0,none⟩))).run Tryz.prog w' = .ok (.tuple #[x.1,x.2]) w'/\w'.os=w.os/\w'.tape=w.tape/\w'.output=w.output/\w'.heap.size=w.heap.size/\∀ j,j≠r->w'.heap[j]?=w.heap[j]? := by
 rcases h with⟨rfl,h2,rfl,s,c,h⟩|⟨b,rfl,h⟩
 ·refine .inl ⟨rfl,?_⟩
  simp[Instr.next,getObj,Sem.run_bind,Sem.run,h,Result.andThen]
 ·rcases h.next (P:=Tryz.prog) ty with h1|⟨x,todo',w',h1,h2,h3,h4,h5⟩
  ·exact .inl h1
  ·exact .inr ⟨x,todo',w',h1,h2,h3,.inr ⟨b,rfl,h4⟩,h5⟩
theorem LogV.below{n0:Nat}{m:Option Nat}{log:List (Bs×Nat)}{w w':World}(h:LogV n0 m log w)(hb:Below w.heap.size w w'):LogV n0 m log w':=by
 rcases h with h|⟨b,h1,h2,h3⟩
 ·exact .inl h
 ·exact .inr ⟨b,h1,h2,h3.below hb⟩
theorem bestP_mem:∀ (l:List RoadM) (f:RoadM),bestP f l=f\/bestP f l∈l
 | [],f => .inl rfl
 | y :: t,f=>by
  show bestP (if furtherB y.1 f.1 then y else f) t=f\/bestP (if furtherB y.1 f.1 then y else f) t∈y :: t
  rcases bestP_mem t (if furtherB y.1 f.1 then y else f) with h|h
  ·rw[h]
   split
   ·exact .inr (.head _)
   ·exact .inl rfl
  ·exact .inr (.tail _ h)
theorem rckpts_any(w:World){n1 mb:Nat}{fs:Fs}(H:DM w n1 mb fs)(hlen:fs.length<=1000000) :
  Calls Tryz.prog 147 #[.map (some mb),.func (.func 39) #[] #[]] w fun e w'=>∃ v,e = .returned v/\w'.ownsRow w.heap.size 3 1 v (ckptsOf fs).length ((ckptsOf fs).map (Value.int .i64))/\Below w.heap.size w w':=by
 have e1:((fs.map Prod.fst).filterMap (saysG (numOfName ckptH))).mergeSort leI=ckptsOf fs:=by
  unfold ckptsOf
  rw[List.filterMap_map]
  rfl
 have e2:((fs.map Prod.fst).filterMap (saysG (numOfName ckptH))).length=(ckptsOf fs).length:=by rw[<-e1,List.length_mergeSort]
 obtain⟨ms,rfl,h2,-⟩:=H
 refine(rnumbers_any w mb 39 (ms.map FBm.ent) ((ms.map FBm.f).map Prod.fst) h2 (by simp[FBm.ent,FBm.f,encS]) (by simpa using hlen) (numOfName ckptH) (fun w' s=>cnumber_any w' s) (fun args w'=>enters_of Tryz.func39 (by kernel_rfl) rfl args w')).mono ?_
 rintro e w' ⟨v,rfl,ho,hb⟩
 rw[e1,e2] at ho
 exact⟨v,rfl,ho,hb⟩
theorem run_bpre{W:World}{a:Option Addr}{n c hi:Nat}(h2:hi<=c) :
  (Instr.slice 27 (.slice a n c) none (some (.int .i64 (hi:Int))) none).run Tryz.prog W = .ok (.slice a hi c) W:=by
 obtain⟨i0,hi0,hz0,hz1,hz2⟩:=info_parts Tryz.info5
 have hel:Tryz.prog.elem 27=5:=by simp[Program.elem,Tryz.underlying27]
 rw[run_slice_h W 27 a n c (by rw[hel];exact Tryz.underlying27) .i64 hi (by omega) (by omega),hel]
 have e0:Option.map (fun x:Addr=>x.add 0) a=a:=by cases a<;>simp[Addr.add]
 simp[sizeOf,typeInfo,hi0,hz1,sliced,Result.andThen,e0]
theorem perm_map{α:Type}(f:α->Value×Value){l:List α}{l':List (Value×Value)}{a:Value×Value}(h:(l.map f).Perm (a :: l')):∃ y l2,a=f y/\(l2.map f).Perm l'/\l.Perm (y :: l2):=by
 obtain⟨y,hy,rfl⟩:=List.mem_map.1 (h.mem_iff.2 (List.mem_cons_self ..))
 obtain⟨s,t,rfl⟩:=List.append_of_mem hy
 have hp:(s++y :: t).Perm (y :: (s++t)):=List.perm_middle
 exact⟨y,s++t,rfl,List.Perm.cons_inv ((hp.map f).symm.trans h),hp⟩
theorem Tryz.infoRoad:(Tryz.prog.info? 241).map (fun i=>(i.zero,i.size,i.bytes))=some (some (.agg #[.int .i64 0,.int .i64 0,.int .i64 0,.map none]),4,32):=by kernel_rfl
end Go.Proofs.YtbppnihcbcdglaaGreat
