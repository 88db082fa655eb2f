import Derived.Test.YtbppnihcbcdglaaGreatD42
import Derived.Test.YtbppnihcbcdglaaGreatZ44
namespace Go.Proofs.YtbppnihcbcdglaaGreat
open Go.RowKit
set_option linter.unusedVariables false
set_option linter.unusedSimpArgs false
def openB(a b c e:Int):Obj := .cells #[.int .i64 a,.int .i64 b,.int .i64 c,.int .i64 e] 44 (0,0)
structure LX (w0:World) (n1 db sb RB:Nat) (r:Road) (mo:Option Nat) (d st:Fs) (w:World):Prop where
 hr:w.heap[w0.heap.size]?=some (openB 0 0 0 0)
 rb:w.heap[RB]?=some (roadB r.number r.mark r.stop mo)
 hd:DM w n1 db d
 hs:DM w n1 sb st
 fr:Fr w0 w (fun k=>k=sb)
 lsb:sb<w0.heap.size
 ldb:db<w0.heap.size
 ln1:n1<=sb
 ne:db≠sb
theorem LX.size{w0 w:World}{n1 db sb RB:Nat}{r:Road}{mo:Option Nat}{d st:Fs}(h:LX w0 n1 db sb RB r mo d st w):w0.heap.size<w.heap.size:=blk_lt h.hr
theorem LX.below{w0 w w':World}{n1 db sb RB:Nat}{r:Road}{mo:Option Nat}{d st:Fs}(h:LX w0 n1 db sb RB r mo d st w)(hb:Below w.heap.size w w'):LX w0 n1 db sb RB r mo d st w' :=
 ⟨blk_below hb h.hr (blk_lt h.hr),blk_below hb h.rb (blk_lt h.rb),h.hd.below hb,h.hs.below hb,h.fr.then_below hb,h.lsb,h.ldb,h.ln1,h.ne⟩
theorem LX.turn{w0 w w':World}{n1 db sb RB g:Nat}{r:Road}{mo:Option Nat}{d st:Fs}(h:LX w0 n1 db sb RB r mo d st w)(hg:w0.heap.size<g)(hrb:g≠RB)(hu:∀ cur f,w.heap[g]? ≠ some (.cells cur 5 f))
  (hos:w'.os=w.os) (htp:w'.tape=w.tape) (hou:w'.output=w.output) (hsz:w'.heap.size=w.heap.size) (hb:∀ j,j≠g->w'.heap[j]?=w.heap[j]?):LX w0 n1 db sb RB r mo d st w':=by
 have h1:=h.lsb
 have h2:=h.ldb
 have h3:=h.ln1
 have hk:KpD n1 w w':=⟨fun k q1 _=>hb k (by omega),fun k cur f hk=>(hb k (fun e=>by subst e;exact hu _ _ hk)).trans hk⟩
 exact⟨(hb _ (by omega)).trans h.hr,(hb _ hrb.symm).trans h.rb,h.hd.kept (hb _ (by omega)) hk,h.hs.kept (hb _ (by omega)) hk,⟨hos.trans h.fr.os,htp.trans h.fr.tape,hou.trans h.fr.output,by rw[hsz];exact h.fr.size,fun k q1 q2=>(hb k (by omega)).trans (h.fr.block k q1 q2)⟩,h.lsb,h.ldb,h.ln1,h.ne⟩
theorem LX.put{w0 w:World}{n1 db sb RB:Nat}{r:Road}{mo:Option Nat}{d st:Fs}(h:LX w0 n1 db sb RB r mo d st w)(hn:(st.map Prod.fst).Nodup)(m:FBm)(hs:m.stays w n1) :
  ∃ w',(Instr.mapUpdate 118 (.map (some sb)) (.string ⟨m.f.1.toArray⟩) (.slice m.a m.f.2.length m.c)).run Tryz.prog w = .ok () w'/\LX w0 n1 db sb RB r mo d (setF st m.f.1 m.f.2) w'/\w'.heap.size=w.heap.size/\∀ j,j≠sb->w'.heap[j]?=w.heap[j]? := by
 obtain⟨w',hrun,hD,hos,htp,hou,hsz,hblk,hk⟩:=h.hs.put hn h.ln1 m hs
 have h1:=h.lsb
 have hne:sb≠RB:=fun e=>by
  have:=h.hs.ne h.rb
  exact this e.symm
 exact⟨w',hrun,⟨(hblk _ (by omega)).trans h.hr,(hblk _ hne.symm).trans h.rb,h.hd.kept (hblk _ h.ne) hk,hD,⟨hos.trans h.fr.os,htp.trans h.fr.tape,hou.trans h.fr.output,by rw[hsz];exact h.fr.size,fun k q1 q2=>(hblk k q2).trans (h.fr.block k q1 q2)⟩,h.lsb,h.ldb,h.ln1,h.ne⟩,hsz,hblk⟩
theorem set4_open{w:World}{N:Nat}{a b c e:Int}(h:w.heap[N]?=some (openB a b c e))(v0 v1 v2 v3:Int) :
  ((((w.setCell ⟨N,0,none⟩ (.int .i64 v0)).setCell ⟨N,1,none⟩ (.int .i64 v1)).setCell ⟨N,2,none⟩ (.int .i64 v2)).setCell ⟨N,3,none⟩ (.int .i64 v3)).heap[N]?=some (openB v0 v1 v2 v3):=by
 have:=blk_set (blk_set (blk_set (blk_set h 0 (.int .i64 v0)) 1 (.int .i64 v1)) 2 (.int .i64 v2)) 3 (.int .i64 v3)
 simpa [openB] using this
theorem LX.fin{w0 w:World}{n1 db sb RB:Nat}{r:Road}{mo:Option Nat}{d st:Fs}(h:LX w0 n1 db sb RB r mo d st w)(v0 v1 v2 v3:Int) :
  DM ((((w.setCell ⟨w0.heap.size,0,none⟩ (.int .i64 v0)).setCell ⟨w0.heap.size,1,none⟩ (.int .i64 v1)).setCell ⟨w0.heap.size,2,none⟩ (.int .i64 v2)).setCell ⟨w0.heap.size,3,none⟩ (.int .i64 v3)) n1 sb st /\
  Fr w0 ((((w.setCell ⟨w0.heap.size,0,none⟩ (.int .i64 v0)).setCell ⟨w0.heap.size,1,none⟩ (.int .i64 v1)).setCell ⟨w0.heap.size,2,none⟩ (.int .i64 v2)).setCell ⟨w0.heap.size,3,none⟩ (.int .i64 v3)) (fun k=>k=sb):=by
 refine⟨h.hs.kept ?_ ⟨fun k q1 _=>?_,fun g cur f hg=>?_⟩,(((h.fr.setCell (p:=⟨w0.heap.size,0,none⟩) (.inr (Nat.le_refl _)) _).setCell (p:=⟨w0.heap.size,1,none⟩) (.inr (Nat.le_refl _)) _).setCell (p:=⟨w0.heap.size,2,none⟩) (.inr (Nat.le_refl _)) _).setCell (p:=⟨w0.heap.size,3,none⟩) (.inr (Nat.le_refl _)) _⟩
 ·have:=h.lsb
  rw[Below.heap_setCell _ _ _ _ (by show sb≠w0.heap.size;omega),Below.heap_setCell _ _ _ _ (by show sb≠w0.heap.size;omega),Below.heap_setCell _ _ _ _ (by show sb≠w0.heap.size;omega),Below.heap_setCell _ _ _ _ (by show sb≠w0.heap.size;omega)]
 ·have:=h.lsb
  have:=h.ln1
  rw[Below.heap_setCell _ _ _ _ (by show k≠w0.heap.size;omega),Below.heap_setCell _ _ _ _ (by show k≠w0.heap.size;omega),Below.heap_setCell _ _ _ _ (by show k≠w0.heap.size;omega),Below.heap_setCell _ _ _ _ (by show k≠w0.heap.size;omega)]
 ·have hne:g≠w0.heap.size:=fun e=>by
   rw[e,h.hr] at hg
   unfold openB at hg
   injection hg with hg
   injection hg with _ h2
   exact absurd h2 (by decide)
  exact blk_set_other (blk_set_other (blk_set_other (blk_set_other hg hne _ _) hne _ _) hne _ _) hne _ _
theorem MRo.notU8{w:World}{m:Option Nat}{r:Nat}{l todo:List (Value×Value)}(h:MRo w m r l todo):∀ cur f,w.heap[r]? ≠ some (.cells cur 5 f):=fun cur f e=>h.ne e rfl
def roadsTo(d:Fs)(ks:List Int):List Road:=ks.filterMap fun k=>if (decG (datC d k)).2=0/\(decG (datC d k)).1.number=k then some (along d k (decG (datC d k)).1.mark) else none
theorem roadsTo_snoc(d:Fs)(ks:List Int)(k:Int):roadsTo d (ks++[k])=roadsTo d ks++(if (decG (datC d k)).2=0/\(decG (datC d k)).1.number=k then [along d k (decG (datC d k)).1.mark] else []):=by
 unfold roadsTo
 rw[List.filterMap_append]
 congr 1
 by_cases h:(decG (datC d k)).2=0/\(decG (datC d k)).1.number=k
 ·simp[h]
 ·simp[h]
set_option maxRecDepth 20000 in
set_option maxHeartbeats 4000000 in
theorem led_any(w:World){n1 db sb:Nat}{d:Fs}(H:DM w n1 db d)(hfs:FsOk d)(hlen:d.length<=1000000)(hS:MP w .string sb [])(hn1:n1<=sb)(hne:db≠sb) :
  Calls Tryz.prog 80 #[.map (some db),.map (some sb)] w fun e w'=>e = .returned (.agg #[.int .i64 (ledF encM d).2.mark,.int .i64 (ledF encM d).2.stop,.int .i64 ((ledF encM d).2.stop-(ledF encM d).2.mark),.int .i64 0]) /\
   (∃ st,DM w' n1 sb st/\(st.map Prod.fst).Nodup/\∀ k,getF st k=getF (ledF encM d).1 k)/\Fr w w' (fun k=>k=sb):=by
 have HD:=Hi H
 have HF:=Hi hfs
 have HL:=Hi hlen
 have HS:=Hi hS
 have HNE:=Hi (And.intro hn1 hne)
 clear H hfs hlen hS hn1 hne
 have hb1:Below w.heap.size w (w.alloc (.cells #[.int .i64 0,.int .i64 0,.int .i64 0,.int .i64 0] 44)):=(Below.refl _ w).alloc (Nat.le_refl _) _
 have n1':=blk_new w (.cells #[.int .i64 0,.int .i64 0,.int .i64 0,.int .i64 0] 44)
 obtain⟨N,hN⟩:∃ N,w.heap.size=N:=⟨_,rfl⟩
 have HN:=Hi hN
 rw[hN] at hb1 n1'
 go_enter Tryz.func80,Tryz.ntmps80
 repeat' ((fail_if_success (with_reducible (show Code.wp _ (Code.region 2 _ _) _ _ _)));(fail_if_success at_builtin);first|go_values|go_skip|go_guarded|go_step|go_upon|go_back)
 generalize w.alloc (.cells #[.int .i64 0,.int .i64 0,.int .i64 0,.int .i64 0] 44)=w1 at hb1 n1'⊢
 have HR1:=Hi n1'
 have HB1:=Hi hb1
 clear hN hb1 n1'
 repeat' ((fail_if_success at_builtin);first|go_values|go_skip|go_guarded|go_step|go_upon|go_back)
 refine(rckpts_any w1 (HD.out.below (by rw[HN.out];exact HB1.out)) HL.out).mono ?_
 rintro e1 w2 ⟨v,rfl,ho,hb2⟩
 dsimp only
 obtain⟨a9,c9,rfl,hc9,-,-,-⟩:=own_rowT ho
 have HO:=Hi ho
 have HR2:=Hi (blk_below hb2 HR1.out (blk_lt HR1.out))
 have HB2:=Hi (HB1.out.trans (hb2.mono (by have:=HB1.out.size;have:=HN.out;omega)))
 obtain⟨ks,hks⟩:∃ ks,ckptsOf d=ks:=⟨_,rfl⟩
 have HKS:=Hi hks
 have hfl:Hid (ks.length<=1000000):=Hi (by rw[<-hks];unfold ckptsOf;rw[List.length_mergeSort];have:=List.length_filterMap_le (fun x:Bs×Bs=>ckptOf x.1) d;have:=HL.out;omega)
 have hflI:(ks.length:Int)<=1000000:=by have:=hfl.out;omega
 have HW1:=Hi (show w1.heap.size<=w2.heap.size from hb2.size)
 rw[hks] at HO⊢
 clear ho hb2 hks hc9 HB1 HR1
 repeat' ((fail_if_success at_builtin);first|go_values|go_skip|go_guarded|go_step|go_upon|go_back)
 go_loopw [5,19] (fun fv c wr=>∃ (j:Nat) (rl:List RoadM),c = .int .i64 j/\j<=ks.length/\wr.ownsRow w2.heap.size 241 4 fv rl.length (rl.flatMap RoadM.row)/\Hid (rl.map Prod.fst=roadsTo d (ks.take j))/\Hid (rl.length<=j)/\Hid (∀ x∈rl,LogV N x.2 x.1.log wr)/\Hid (Below w2.heap.size w2 wr)) (fun _ c _=>ks.length-(intOf c).toNat)
 case atStart=>exact⟨0,[],rfl,Nat.zero_le _,World.ownsRow_nil _ _ _ _,Hi rfl,Hi (Nat.le_refl _),Hi (fun x hx=>(by cases hx)),Hi (Below.refl _ _)⟩
 case round =>
  obtain⟨j,rl,rfl,hj,hown,HRL,HRJ,HLG,HB⟩:=hrel
  have HOW:=Hi hown
  clear hown
  by_cases hlt:j<ks.length
  ·have hlt':(j:Int)<(ks.length:Int):=by omega
   obtain⟨k,hk⟩:∃ k,ks[j]?=some k:=⟨_,List.getElem?_eq_getElem hlt⟩
   obtain⟨g,cap,hv,hcap,hg⟩:=own_shape HO.out (by omega)
   cases hv
   have q1:wr.cell? ⟨g,j,none⟩=some (.int .i64 k):=(own_cell2 (own_below HO.out HB.out) j _ (by rw[List.getElem?_map,hk];rfl))
   have HLT:=Hi hlt
   have HTK:Hid (ks.take (j+1)=ks.take j++[k]):=Hi (by rw[List.take_add_one,hk];rfl)
   clear hk hlt hj hcap hg
   repeat' ((fail_if_success at_builtin);first|go_values|go_skip|go_guarded|go_step|go_upon|go_back)
   (refine(cname_any wr k).mono ?_;rintro e1 w3 ⟨rfl,hb3⟩;dsimp only)
   have hbN:Below N w wr:=HB2.out.trans (HB.out.mono (by have:=HB2.out.size;have:=HN.out;omega))
   have hbN3:=hbN.trans (hb3.mono (by have:=hbN.size;have:=HN.out;omega))
   have HD3:=Hi (HD.out.below (by rw[HN.out];exact hbN3))
   have HOW3:=Hi (own_below HOW.out hb3)
   have HB3:=Hi (HB.out.trans (hb3.mono HB.out.size))
   have HLG3:Hid (∀ x∈rl,LogV N x.2 x.1.log w3):=Hi (fun x hx=>(HLG.out x hx).below hb3)
   clear hbN hbN3 hb3 q1 HOW
   obtain⟨da,dc,hst,hlk0⟩:=HD3.out.look HF.out.nodup (nameOf ckptH k)
   have hlk:=(lookup_dir2 db _ false w3).trans hlk0
   have hbs:=hst.bs
   dsimp only at hbs
   have HDL:Hid ((datC d k).length<=4294967296):=Hi (by
    unfold datC
    cases hg:getF d (nameOf ckptH k) with
    | none=>exact Nat.zero_le _
    | some b=>exact HF.out.len _ _ hg)
   obtain⟨im,e,hg⟩:∃ im e,decG (datC d k)=(im,e):=⟨_,_,rfl⟩
   have HG:=Hi hg
   have HRS:=Hi (roadsTo_snoc d (ks.take j) k)
   have HDC:Hid (datC d k=(getF d (nameOf ckptH k)).getD []):=Hi rfl
   rw[<-HDC.out] at hbs hlk
   obtain⟨dat,hdat⟩:∃ dat,datC d k=dat:=⟨_,rfl⟩
   rw[hdat] at hbs hlk HG HRS HDL
   clear hst hlk0 hg HDC hdat
   repeat' ((fail_if_success at_builtin);first|go_values|go_skip|go_guarded|go_step|go_upon|go_back)
   refine gread_cps w3 da dc dat hbs HDL.out _ ?_
   intro pa pn pc ea en ec w4 hb4
   rw[HG.out]
   dsimp only
   have i0:=blk_new w4 (.cells #[.int .i64 im.number,.int .i64 im.mark,.slice pa pn pc,.slice ea en ec] 75)
   have hb5:Below w3.heap.size w3 (w4.alloc (.cells #[.int .i64 im.number,.int .i64 im.mark,.slice pa pn pc,.slice ea en ec] 75)):=hb4.alloc hb4.size _
   repeat' ((fail_if_success (with_reducible (show Code.wp _ (Code.region 6 _ _) _ _ _)));(fail_if_success at_builtin);first|go_values|go_skip|go_guarded|go_step|go_upon|go_back)
   clear hlk hbs
   generalize w4.alloc (.cells #[.int .i64 im.number,.int .i64 im.mark,.slice pa pn pc,.slice ea en ec] 75)=w5 at i0 hb5⊢
   have HOW5:=Hi (own_below HOW3.out hb5)
   have HB5:=Hi (HB3.out.trans (hb5.mono HB3.out.size))
   have HLG5:Hid (∀ x∈rl,LogV N x.2 x.1.log w5):=Hi (fun x hx=>(HLG3.out x hx).below hb5)
   have HD5:=Hi (HD3.out.below hb5)
   obtain⟨i0,i1,-⟩:=blk4 i0
   have t3:(e==0)=decide (e=0):=rfl
   clear hb4 hb5 HOW3 HB3 HLG3 HD3
   by_cases he:e=0
   ·subst he
    by_cases hk:im.number=k
    ·have t4:(im.number==k)=true:=by simpa using hk
     have hmk:0<=im.mark/\im.mark<=281474976710655:=by
      have h1:=HG.out
      have:=dec_mark (b:=dat) (by rw[h1])
      rw[h1] at this
      exact this
     have HRL6:Hid ((rl++[(along d k im.mark,none)]).map Prod.fst=roadsTo d (ks.take (j+1))):=Hi (by rw[HTK.out,HRS.out,HG.out,if_pos ⟨rfl,hk⟩,List.map_append,HRL.out];rfl)
     have HMK:=Hi hmk
     clear hk hmk
     repeat' ((fail_if_success at_builtin);first|go_values|go_skip|go_guarded|go_step|go_upon|go_back)
     (refine(along_any w5 db HD5.out HF.out HL.out k im.mark HMK.out).mono ?_;rintro e1 w6 ⟨m,rfl,hlog,hb6⟩;dsimp only)
     obtain⟨r,hr⟩:∃ r,along d k im.mark=r:=⟨_,rfl⟩
     rw[hr] at hlog HRL6⊢
     unfold Road.val
     have HLV:Hid (LogV N m r.log w6):=Hi (by
      rcases hlog with h|⟨b,h1,h2,h3⟩
      ·exact .inl h
      ·exact .inr ⟨b,h1,by have:=HB5.out.size;have:=HB2.out.size;have:=HN.out;omega,h3⟩)
     have HOW6:=Hi (own_below HOW5.out hb6)
     have HB6:=Hi (HB5.out.trans (hb6.mono HB5.out.size))
     have HLG6:Hid (∀ x∈rl,LogV N x.2 x.1.log w6):=Hi (fun x hx=>(HLG5.out x hx).below hb6)
     have hbx:Below w6.heap.size w6 (w6.alloc (.cells #[.int .i64 r.number,.int .i64 r.mark,.int .i64 r.stop,.map m] 241)):=(Below.refl _ _).alloc (Nat.le_refl _) _
     have n7:=blk_new w6 (.cells #[.int .i64 r.number,.int .i64 r.mark,.int .i64 r.stop,.map m] 241)
     have HOWX:=Hi (own_below HOW6.out hbx)
     have HBX:=Hi (HB6.out.trans (hbx.mono HB6.out.size))
     have HLGX:Hid (∀ x∈rl,LogV N x.2 x.1.log (w6.alloc (.cells #[.int .i64 r.number,.int .i64 r.mark,.int .i64 r.stop,.map m] 241))):=Hi (fun x hx=>(HLG6.out x hx).below hbx)
     have HLVX:=Hi (HLV.out.below hbx)
     clear hlog hr hb6 HOW5 HB5 HLG5 HD5 i0 i1 HOW6 HB6 HLG6 HLV hbx
     repeat' ((fail_if_success at_builtin);first|go_values|go_skip|go_guarded|go_step|go_upon|go_back)
     obtain⟨i0,hi,hz0,hz1,hz2⟩:=info_parts Tryz.infoRoad
     refine wpList_append_own (w6.alloc (.cells #[.int .i64 r.number,.int .i64 r.mark,.int .i64 r.stop,.map m] 241)) rfl _ _ 237 rfl w2.heap.size 241 i0 _ 4 32 Tryz.underlying237 hi hz0 hz1 hz2 rfl (by decide) _ rl.length _ rfl HOWX.out ⟨w6.heap.size,0,none⟩ 1 1 (RoadM.row (r,m)) rfl rfl ?_ (by simp[RoadM.row,Value.oneCell']) (by unfold maxLen;have:=HRJ.out;have:=hfl.out;have:=HLT.out;omega) (by have:=HRJ.out;have:=hfl.out;have:=HLT.out;omega) HBX.out.size ?_
     ·intro jj u hj
      match jj,hj with
      | 0,hj=>cases hj;exact blk_cell n7 0
      | 1,hj=>cases hj;exact blk_cell n7 1
      | 2,hj=>cases hj;exact blk_cell n7 2
      | 3,hj=>cases hj;exact blk_cell n7 3
     ·intro v' w7 hown' hg7 _
      have HO7:Hid (w7.ownsRow w2.heap.size 241 4 v' (rl++[(r,m)]).length ((rl++[(r,m)]).flatMap RoadM.row)):=Hi (by rw[List.length_append,List.flatMap_append];simpa using hown')
      have HB7:=Hi (HBX.out.grown hg7 HBX.out.size (fun k e=>own_ge HOWX.out e))
      have hlv:∀ (m:Option Nat) (l:List (Bs×Nat)),LogV N m l (w6.alloc (.cells #[.int .i64 r.number,.int .i64 r.mark,.int .i64 r.stop,.map m] 241))->True:=fun _ _ _=>trivial
      have HLG7:Hid (∀ x∈rl++[(r,m)],LogV N x.2 x.1.log w7):=Hi (by
       have hk:∀ x:RoadM,LogV N x.2 x.1.log (w6.alloc (.cells #[.int .i64 r.number,.int .i64 r.mark,.int .i64 r.stop,.map m] 241))->LogV N x.2 x.1.log w7:=by
        intro x hx
        rcases hx with h|⟨b,h1,h2,es,c,h3,h4⟩
        ·exact .inl h
        ·refine .inr ⟨b,h1,h2,es,c,(hg7.block b (blk_lt h3) (Ne.symm (own_neo HOWX.out h3 (fun c t f e=>by cases e)))).trans h3,h4⟩
       intro x hx
       rcases List.mem_append.1 hx with hx|hx
       ·exact hk x (HLGX.out x hx)
       ·obtain rfl:x=(r,m):=by simpa using hx
        exact hk _ HLVX.out)
      have HRL7:Hid ((rl++[(r,m)]).map Prod.fst=roadsTo d (ks.take (j+1))):=Hi (by rw[<-HRL6.out,List.map_append,List.map_append];rfl)
      clear hown' hg7 hlv
      repeat' ((fail_if_success at_builtin);first|go_values|go_skip|go_guarded|go_step|go_upon|go_back)
      go_roundw
      case rel=>exact⟨j+1,rl++[(r,m)],by go_num,HLT.out,HO7.out,HRL7,Hi (by have:=HRJ.out;rw[List.length_append,List.length_singleton];omega),HLG7,HB7⟩
      case measure=>have:=HLT.out;simp[intOf];omega
    ·have t4:(im.number==k)=false:=by simpa using hk
     have HRL6:Hid (rl.map Prod.fst=roadsTo d (ks.take (j+1))):=Hi (by rw[HTK.out,HRS.out,HG.out,if_neg (by rintro⟨-,h⟩;exact hk h),List.append_nil];exact HRL.out)
     clear hk
     repeat' ((fail_if_success at_builtin);first|go_values|go_skip|go_guarded|go_step|go_upon|go_back)
     go_roundw
     case rel=>exact⟨j+1,rl,by go_num,HLT.out,HOW5.out,HRL6,Hi (by have:=HRJ.out;omega),HLG5,HB5⟩
     case measure=>have:=HLT.out;simp[intOf];omega
   ·have t4:(e==0)=false:=by simpa using he
    have HRL6:Hid (rl.map Prod.fst=roadsTo d (ks.take (j+1))):=Hi (by rw[HTK.out,HRS.out,HG.out,if_neg (by rintro⟨h,-⟩;exact he h),List.append_nil];exact HRL.out)
    clear he t3
    repeat' ((fail_if_success at_builtin);first|go_values|go_skip|go_guarded|go_step|go_upon|go_back)
    go_roundw
    case rel=>exact⟨j+1,rl,by go_num,HLT.out,HOW5.out,HRL6,Hi (by have:=HRJ.out;omega),HLG5,HB5⟩
    case measure=>have:=HLT.out;simp[intOf];omega
  ·have hje:j=ks.length:=by omega
   subst hje
   have hlt2:decide (ks.length<ks.length)=false:=by simp
   have HRL2:Hid (rl.map Prod.fst=roadsOf d):=Hi (by have h:=HRL.out;rw[List.take_length] at h;rw[h,<-HKS.out];rfl)
   obtain⟨ra,rc,rfl,hrc,hnil,hrow,-⟩:=own_rowT HOW.out
   have HRW:=Hi hrow.c
   have hbN:Below N w wr:=HB2.out.trans (HB.out.mono (by have:=HB2.out.size;have:=HN.out;omega))
   have HDr:=Hi (HD.out.below (by rw[HN.out];exact hbN))
   have HBN:=Hi hbN
   have HRr:=Hi (blk_below HB.out HR2.out (blk_lt HR2.out))
   clear hlt hj hrc hnil hrow hbN HRL HOW
   repeat' ((fail_if_success at_builtin);first|go_values|go_skip|go_guarded|go_step|go_upon|go_back)
   (refine(along_any wr db HDr.out HF.out HL.out 0 0 ⟨Int.le_refl _,by decide⟩).mono ?_;rintro e1 w3 ⟨m0,rfl,hlog,hb3⟩;dsimp only)
   have HLV0:Hid (LogV N m0 (along d 0 0).log w3):=Hi (by
    rcases hlog with h|⟨b,h1,h2,h3⟩
    ·exact .inl h
    ·exact .inr ⟨b,h1,by have:=HBN.out.size;have:=HN.out;omega,h3⟩)
   have HRW3:=Hi (HRW.out.below hb3)
   have HLG3:Hid (∀ x∈rl,LogV N x.2 x.1.log w3):=Hi (fun x hx=>(HLG.out x hx).below hb3)
   have HB3:=Hi (HBN.out.trans (hb3.mono (by have:=HBN.out.size;have:=HN.out;omega)))
   have HR3:=Hi (blk_below hb3 HRr.out (blk_lt HRr.out))
   clear hlog hb3 HRr HBN HLG HRW HB
   repeat' ((fail_if_success at_builtin);first|go_values|go_skip|go_guarded|go_step|go_upon|go_back)
   refine(best_any w3 (along d 0 0,m0) ra rc rl HRW3.out (by have:=HRJ.out;have:=hfl.out;omega)).mono ?_
   rintro e1 w4 ⟨rfl,hb4⟩
   dsimp only
   obtain⟨R,hR⟩:∃ R,bestP (along d 0 0,m0) rl=R:=⟨_,rfl⟩
   have HBR:Hid (R.1=bestR (along d 0 0) (roadsOf d)):=Hi (by rw[<-hR,bestP_fst,HRL2.out])
   have HLV:Hid (LogV N R.2 R.1.log w4):=Hi (by
    rcases bestP_mem rl (along d 0 0,m0) with h|h
    ·rw[<-hR,h];exact HLV0.out.below hb4
    ·rw[<-hR];exact(HLG3.out _ h).below hb4)
   have HB4:=Hi (HB3.out.trans (hb4.mono (by have:=HB3.out.size;have:=HN.out;omega)))
   have HR4:=Hi (blk_below hb4 HR3.out (blk_lt HR3.out))
   rw[hR]
   obtain⟨⟨rn,rm,rs,rlog⟩,mo⟩:=R
   unfold Road.val
   dsimp only at HBR HLV⊢
   clear hR hb4 HR3 HB3 HLG3 HLV0 HRW3 HRL2 HRJ
   have n5:=blk_new w4 (.cells #[.int .i64 rn,.int .i64 rm,.int .i64 rs,.map mo] 241)
   have hb5:Below w4.heap.size w4 (w4.alloc (.cells #[.int .i64 rn,.int .i64 rm,.int .i64 rs,.map mo] 241)):=(Below.refl _ _).alloc (Nat.le_refl _) _
   repeat' ((fail_if_success (with_reducible (show Code.wp _ (Code.region 10 _ _) _ _ _)));(fail_if_success at_builtin);first|go_values|go_skip|go_guarded|go_step|go_upon|go_back)
   generalize w4.alloc (.cells #[.int .i64 rn,.int .i64 rm,.int .i64 rs,.map mo] 241)=w5 at n5 hb5⊢
   obtain⟨RB,hRB⟩:∃ RB,w4.heap.size=RB:=⟨_,rfl⟩
   rw[hRB] at n5
   have HLV5:=Hi (HLV.out.below hb5)
   have HR5:=Hi (blk_below hb5 HR4.out (blk_lt HR4.out))
   have HB5:=Hi (HB4.out.trans (hb5.mono (by have:=HB4.out.size;have:=HN.out;omega)))
   have HRB5:=Hi n5
   have HNRB:Hid (N<RB):=Hi (by have:=blk_lt HR4.out;omega)
   obtain⟨o,hrun,hMR⟩:=logm_range HLV5.out
   have c3:=blk_cell n5 3
   simp only[gA,gB,gC] at c3
   have hbo:Below w5.heap.size w5 (w5.alloc o):=(Below.refl _ _).alloc (Nat.le_refl _) _
   rw[hRB]
   clear hb5 hRB n5 HLV HR4 HB4
   repeat' ((fail_if_success at_builtin);first|go_values|go_skip|go_guarded|go_step|go_upon|go_back)
   clear hrun c3
   obtain⟨rr,hrr⟩:∃ rr,w5.heap.size=rr:=⟨_,rfl⟩
   generalize w5.alloc o=w6 at hMR hbo⊢
   rw[hrr] at hMR⊢
   have HLX:Hid (LX w n1 db sb RB ⟨rn,rm,rs,rlog⟩ mo d [] w6):=Hi (by
    have hlN:sb<w.heap.size:=HS.out.lt
    have hlD:db<w.heap.size:=HD.out.lt
    have hb6:=HB5.out.trans (hbo.mono (by have:=HB5.out.size;have:=HN.out;omega))
    have hb6':Below w.heap.size w w6:=by rw[HN.out];exact hb6
    refine⟨by rw[HN.out];exact blk_below hbo HR5.out (blk_lt HR5.out),blk_below hbo HRB5.out (blk_lt HRB5.out),HD.out.below hb6',?_,?_,hlN,hlD,HNE.out.1,HNE.out.2⟩
    ·exact⟨[],rfl,HS.out.below hb6',fun m hm=>(by cases hm)⟩
    ·exact Fr.pure hb6' _)
   have HMR:=Hi hMR
   have HRR:Hid (N<rr/\RB<rr):=Hi (by have:=blk_lt HR5.out;have:=blk_lt HRB5.out;omega)
   have HLVM:Hid (∀ b,mo=some b->N<=b):=Hi (fun b hb=>by
    rcases HLV5.out with⟨h1,-⟩|⟨b',h1,h2,-⟩
    ·rw[h1] at hb;cases hb
    ·rw[h1] at hb;cases hb;exact h2)
   clear hMR hbo hrr HR5 HRB5 HB5 HLV5
   have HSM:Hid (∀ x∈rlog,∃ b,getF d x.1=some b/\x.2<=b.length):=Hi (fun x hx=>best_small d x (by rw[<-HBR.out];exact hx))
   go_loopw [] (fun wr=>∃ (done todo:List (Bs×Nat)) (tv:List (Value×Value)),Hid (LX w n1 db sb RB ⟨rn,rm,rs,rlog⟩ mo d (laidF d done) wr)/\Hid (MRo wr mo rr (rlog.map logEnt) tv)/\Hid ((todo.map logEnt).Perm tv)/\Hid ((done++todo).Perm rlog)) (fun wr=>leftO wr mo rr)
   case atStart=>exact⟨[],rlog,rlog.map logEnt,HLX,HMR,Hi (List.Perm.refl _),Hi (List.Perm.refl _)⟩
   case round =>
    clear HLX HMR
    obtain⟨done,todo,tv,HX,HM,HT,HP⟩:=hrel
    rcases HM.out.next 0 with⟨h0,hnext⟩|⟨x,tv',w7,hx,hpm,hnext,hM7,hent,hos,htp,hou,hsz,hblk⟩
    ·have htd:todo=[]:=by
      have h1:=HT.out.length_eq
      rw[h0] at h1
      simpa using h1
     subst htd
     have hpd:done.Perm rlog:=by have h:=HP.out;rwa [List.append_nil] at h
     have hri:RoadIs d ⟨rn,rm,rs,rlog⟩:=by rw[HBR.out];exact best_is HF.out.nodup
     have HRI:=Hi hri
     have HGET:Hid (∀ k,getF (laidF d done) k=getF (laidF d rlog) k):=Hi (laid_perm d hpd (road_uniq hri))
     have HL1:Hid (ledF encM d=(stOf d (laidF d rlog) ⟨rn,rm,rs,rlog⟩ (newM d ⟨rn,rm,rs,rlog⟩),⟨rn,rm,rs,rlog⟩)):=Hi (by rw[led_eq,<-HBR.out])
     have b0:=blk_cell HX.out.rb 0
     simp only[roadB,gA,gB,gC] at b0
     have wsub:IntKind.i64.wrap (rs-rm)=rs-rm:=IntWalk.i64_in _ (by have:=hri.mark;have:=hri.le;have:=hri.max;dsimp only at *;omega)
     have HWS:=Hi wsub
     clear hpd hri h0 wsub
     by_cases hrn:0<rn
     ·have t0:decide (0<rn)=true:=decide_eq_true hrn
      have HST:Hid ((ledF encM d).1=setF (setF (laidF d rlog) (nameOf ckptH rn) ((getF d (nameOf ckptH rn)).getD [])) manN (encM (newM d ⟨rn,rm,rs,rlog⟩))):=Hi (by rw[HL1.out];show stOf d _ _ _=_;unfold stOf;rw[if_pos hrn])
      have HMAY:Hid (mayM (newM d ⟨rn,rm,rs,rlog⟩)=true):=Hi (newM_may (d:=d) (r:=⟨rn,rm,rs,rlog⟩) (by show 1<=rn;omega) (by
       rcases HRI.out.base with⟨h1,-⟩|⟨-,h2,-⟩
       ·dsimp only at h1;omega
       ·exact h2) HRI.out.mark)
      obtain⟨da,dc,hla⟩:=HX.out.hd.look_all HF.out.nodup (nameOf ckptH rn)
      have HLA:=Hi hla
      obtain⟨nm,hnm⟩:∃ nm,nameOf ckptH rn=nm:=⟨_,rfl⟩
      obtain⟨dat,hdat⟩:∃ dat,(getF d nm).getD []=dat:=⟨_,rfl⟩
      have HNM:=Hi hnm
      rw[hnm,hdat] at HLA HST
      clear hrn hla hnm hdat HM HT HP HSM HLVM
      have hbr:Below wr.heap.size wr wr:=Below.refl _ _
      repeat' ((fail_if_success (with_reducible (show Code.wp _ (Code.region 15 _ _) _ _ _)));(fail_if_success at_builtin);first|go_values|go_skip|go_guarded|go_step|go_upon|go_back)
      clear t0 hnext
      go_region_held3 (fun w'=>w'.cell? ⟨RB,0,none⟩=some (.int .i64 rn)) (first|exact b0|exact o8|exact o9) (first
       | (go_at_call 93;refine(cname_any _ rn).mono ?_;rintro e1 w8 ⟨rfl,hb8x⟩;rw[HNM.out];have hbr:=(show Below wr.heap.size wr w8 from (by first|exact hbr.trans (hb8x.mono hbr.size)|exact hbr.trans (((Below.refl _ _).drew.trans hb8x).mono hbr.size)|exact hbr.trans (((bdrewN (Below.refl _ _) _).trans hb8x).mono hbr.size)|exact hb8x|exact(Below.refl _ _).drew.trans hb8x|exact(bdrewN (Below.refl _ _) _).trans hb8x));have HX8:=Hi (HX.out.below hbr);obtain⟨hst8,hlk8⟩:=HLA.out w8 (hbr.block _ HX.out.hd.lt) (KpD.of_below hbr);have hlk:=(lookup_dir2 db _ false w8).trans hlk8;obtain⟨wS,hS9,hXS,-,-⟩:=HX8.out.put (laid_nodup d done) ⟨(nm,dat),da,dc⟩ hst8;have o8:=blk_cell HX8.out.rb 0;have o9:=blk_cell hXS.rb 0;simp only[roadB,gA,gB,gC] at o8 o9;dsimp only at hS9 hXS;have HXS:=Hi hXS;clear hb8x hXS hlk8 hst8))
      obtain⟨st2,hst2⟩:∃ st2,setF (laidF d done) nm dat=st2:=⟨_,rfl⟩
      have HND2:Hid ((st2.map Prod.fst).Nodup):=Hi (by rw[<-hst2];exact set_nodup (laid_nodup d done) _ _)
      have HG2:Hid (∀ k,getF st2 k=getF (setF (laidF d rlog) nm dat) k):=Hi (fun k=>by rw[<-hst2,getF_set,getF_set,HGET.out])
      have hXS:=HXS.out
      rw[hst2] at hXS
      clear HX hbr HX8 HLA o8 o9 b0 hlk hS9 HXS hst2 HGET
      have HX:=Hi hXS
      have b0:=blk_cell HX.out.rb 0
      have b1:=blk_cell HX.out.rb 1
      simp only[roadB,gA,gB,gC] at b0 b1
      have n9:=blk_new wS (.cells #[.int .i64 1,.int .i64 rn,.int .i64 rm,.int .i64 0,.int .i64 0] 46)
      have hb9:Below wS.heap.size wS (wS.alloc (.cells #[.int .i64 1,.int .i64 rn,.int .i64 rm,.int .i64 0,.int .i64 0] 46)):=(Below.refl _ _).alloc (Nat.le_refl _) _
      repeat' ((fail_if_success (with_reducible (show Code.wp _ (Code.region 17 _ _) _ _ _)));(fail_if_success at_builtin);first|go_values|go_skip|go_guarded|go_step|go_upon|go_back)
      clear b0 b1 hXS
      generalize wS.alloc (.cells #[.int .i64 1,.int .i64 rn,.int .i64 rm,.int .i64 0,.int .i64 0] 46)=w9 at n9 hb9⊢
      have HX9:=Hi (HX.out.below hb9)
      obtain⟨MB,hMB⟩:∃ MB,wS.heap.size=MB:=⟨_,rfl⟩
      have HMB:Hid (w.heap.size<MB/\RB<MB):=Hi (by have:=HX.out.size;have:=blk_lt HX.out.rb;omega)
      rw[hMB] at n9⊢
      have HN9:=Hi n9
      obtain⟨ma,mc,hst9,hlk9⟩:=HX9.out.hd.look HF.out.nodup manN
      have hlk:(Instr.lookup 137 (.map (some db)) (.string ⟨#[109,97,110,105,102,101,115,116]⟩) false).run Tryz.prog w9=_:=(lookup_dir2 db _ false w9).trans hlk9
      have hbs:=hst9.bs
      dsimp only at hbs
      obtain⟨md,hmd⟩:∃ md,(getF d manN).getD []=md:=⟨_,rfl⟩
      have HMDL:Hid (md.length<=4294967296):=Hi (by
       rw[<-hmd]
       cases hg:getF d manN with
       | none=>exact Nat.zero_le _
       | some b=>exact HF.out.len _ _ hg)
      obtain⟨om,oe,ho⟩:∃ om oe,decM md=(om,oe):=⟨_,_,rfl⟩
      have HOM:=Hi ho
      have HNEW:Hid (newM d ⟨rn,rm,rs,rlog⟩=⟨if oe=0/\om.number<281474976710655 then om.number+1 else 1,rn,rm,0,0⟩):=Hi (by unfold newM;rw[hmd,ho])
      rw[hmd] at hbs hlk
      clear hst9 hlk9 hmd ho hb9 n9 hMB HX
      repeat' ((fail_if_success at_builtin);first|go_values|go_skip|go_guarded|go_step|go_upon|go_back)
      (refine(decM_any w9 ma mc md hbs (by have:=HMDL.out;omega)).mono ?_;rintro e1 w10 ⟨rfl,hb10⟩;dsimp only)
      rw[HOM.out]
      unfold Mf.cells
      dsimp only
      have n11:=blk_new w10 (.cells #[.int .i64 om.number,.int .i64 om.file,.int .i64 om.mark,.int .i64 om.prev,.int .i64 om.pmark] 46)
      have hb11:Below w9.heap.size w9 (w10.alloc (.cells #[.int .i64 om.number,.int .i64 om.file,.int .i64 om.mark,.int .i64 om.prev,.int .i64 om.pmark] 46)):=hb10.alloc hb10.size _
      repeat' ((fail_if_success (with_reducible (show Code.wp _ (Code.region 18 _ _) _ _ _)));(fail_if_success at_builtin);first|go_values|go_skip|go_guarded|go_step|go_upon|go_back)
      clear hlk hbs
      generalize w10.alloc (.cells #[.int .i64 om.number,.int .i64 om.file,.int .i64 om.mark,.int .i64 om.prev,.int .i64 om.pmark] 46)=w11 at n11 hb11⊢
      have HX11:=Hi (HX9.out.below hb11)
      have HN11:=Hi (blk_below hb11 HN9.out (blk_lt HN9.out))
      have o0:=blk_cell n11 0
      simp only[gA,gB,gC] at o0
      clear hb10 hb11 n11 HX9 HN9
      by_cases hc:oe=0/\om.number<281474976710655
      ·obtain⟨rfl,hc2⟩:=hc
       have t1:decide (om.number<281474976710655)=true:=decide_eq_true hc2
       have hom:=mayM_all (decM_may (d:=md) (by have h:=HOM.out;rw[h]))
       have hom1:1<=om.number:=by have h:=HOM.out;rw[h] at hom;exact hom.1
       have wadd:IntKind.i64.wrap (om.number+1)=om.number+1:=IntWalk.i64_in _ (by omega)
       have HNEW2:Hid (newM d ⟨rn,rm,rs,rlog⟩=⟨om.number+1,rn,rm,0,0⟩):=Hi (by rw[HNEW.out,if_pos ⟨rfl,hc2⟩])
       have ff:=fun i=>blk_free HN11.out i
       have y0:=blk_cell HN11.out 0
       simp only[gA,gB,gC] at y0
       clear hom hom1 hc2
       repeat' ((fail_if_success (with_reducible (show Code.wp _ (Code.region 20 _ _) _ _ _)));(fail_if_success at_builtin);first|go_values|go_skip|go_guarded|go_step|go_upon|go_back)
       clear o0 t1 ff y0 wadd
       have HXC:=Hi (HX11.out.turn (w':=w11.setCell ⟨MB,0,none⟩ (.int .i64 (om.number+1))) (g:=MB) HMB.out.1 (by have:=HMB.out.2;omega) (fun cur f h=>by have h2:=HN11.out;rw[h2] at h;injection h with h;injection h with _ h3;exact absurd h3 (by decide)) rfl rfl rfl (by simp[World.setCell]) (fun j hj=>Below.heap_setCell _ _ _ _ hj))
       have HNC:Hid ((w11.setCell ⟨MB,0,none⟩ (.int .i64 (om.number+1))).heap[MB]?=some (.cells #[.int .i64 (om.number+1),.int .i64 rn,.int .i64 rm,.int .i64 0,.int .i64 0] 46 (0,0))):=Hi (blk_set HN11.out 0 _)
       generalize w11.setCell ⟨MB,0,none⟩ (.int .i64 (om.number+1))=w12 at HXC HNC⊢
       clear HX11 HN11
       (have m0:=blk_cell HNC.out 0;have m1:=blk_cell HNC.out 1;have m2:=blk_cell HNC.out 2;have m3:=blk_cell HNC.out 3;have m4:=blk_cell HNC.out 4;simp only[gA,gB,gC] at m0 m1 m2 m3 m4;have henc:=encode_any w12 ⟨om.number+1,rn,rm,0,0⟩ (by have h:=HMAY.out;rwa [HNEW2.out] at h);unfold Mf.cells at henc;dsimp only at henc;have HENC:=Hi henc;clear henc;(repeat' ((fail_if_success at_builtin);first|go_values|go_skip|go_guarded|go_step|go_upon|go_back));refine HENC.out.mono ?_;rintro e1 w13 ⟨ev,rfl,hoe,hb13⟩;dsimp only;obtain⟨ea,ec,rfl,-,-⟩:=hoe.shape;have HX13:=Hi (HXC.out.below hb13);obtain⟨wT,hT,hXT,-,-⟩:=HX13.out.put HND2.out ⟨(manN,encM ⟨om.number+1,rn,rm,0,0⟩),ea,ec⟩ (FBm.stays_own hoe);dsimp only at hT hXT;have hT2:(Instr.mapUpdate 118 (.map (some sb)) (.string ⟨#[109,97,110,105,102,101,115,116]⟩) (.slice ea (encM ⟨om.number+1,rn,rm,0,0⟩).length ec)).run Tryz.prog w13 = .ok () wT:=hT;clear hoe hb13 hT m0 m1 m2 m3 m4;have HX:=Hi hXT;(repeat' ((fail_if_success (with_reducible (show Code.wp _ (Code.region 21 _ _) _ _ _)));(fail_if_success at_builtin);first|go_values|go_skip|go_guarded|go_step|go_upon|go_back));clear hT2 hXT;(have b1:=blk_cell HX.out.rb 1;have b2:=blk_cell HX.out.rb 2;have hR:=HX.out.hr;rw[HN.out] at hR;have y0:=blk_cell hR 0;have y1:=blk_cell hR 1;have y2:=blk_cell hR 2;have y3:=blk_cell hR 3;have ff:=fun i=>blk_free hR i;simp only[roadB,openB,gA,gB,gC] at b1 b2 y0 y1 y2 y3;have hs4:=set4_open hR rm rs (rs-rm) 0;have s0:=blk_cell hs4 0;have s1:=blk_cell hs4 1;have s2:=blk_cell hs4 2;have s3:=blk_cell hs4 3;simp only[openB,gA,gB,gC] at s0 s1 s2 s3;have hfin:=HX.out.fin rm rs (rs-rm) 0;rw[HN.out] at hfin;have HFIN:=Hi hfin;have wsub:=HWS.out;clear hR hs4 hfin;(repeat' ((fail_if_success at_builtin);first|go_values|go_skip|go_guarded|go_step|go_upon|go_back));refine bodyPost_ret (v:=(.agg #[.int .i64 rm,.int .i64 rs,.int .i64 (rs-rm),.int .i64 0])) (by simp[results,Tryz.results80,go_sem,s0,s1,s2,s3]) rfl ⟨by rw[HL1.out],⟨setF st2 manN (encM ⟨om.number+1,rn,rm,0,0⟩),HFIN.out.1,set_nodup HND2.out _ _,(fun k=>by rw[HST.out,getF_set,getF_set,HNEW2.out,HG2.out])⟩,HFIN.out.2⟩))
      ·have HNEW2:Hid (newM d ⟨rn,rm,rs,rlog⟩=⟨1,rn,rm,0,0⟩):=Hi (by rw[HNEW.out,if_neg hc])
       have HXC:=HX11
       have HNC:=HN11
       by_cases hoe:oe=0
       ·subst hoe
        have t1:decide (om.number<281474976710655)=false:=decide_eq_false (fun h=>hc ⟨rfl,h⟩)
        clear hc
        repeat' ((fail_if_success (with_reducible (show Code.wp _ (Code.region 20 _ _) _ _ _)));(fail_if_success at_builtin);first|go_values|go_skip|go_guarded|go_step|go_upon|go_back)
        clear o0 t1
        (have m0:=blk_cell HNC.out 0;have m1:=blk_cell HNC.out 1;have m2:=blk_cell HNC.out 2;have m3:=blk_cell HNC.out 3;have m4:=blk_cell HNC.out 4;simp only[gA,gB,gC] at m0 m1 m2 m3 m4;have henc:=encode_any w11 ⟨1,rn,rm,0,0⟩ (by have h:=HMAY.out;rwa [HNEW2.out] at h);unfold Mf.cells at henc;dsimp only at henc;have HENC:=Hi henc;clear henc;(repeat' ((fail_if_success at_builtin);first|go_values|go_skip|go_guarded|go_step|go_upon|go_back));refine HENC.out.mono ?_;rintro e1 w13 ⟨ev,rfl,hoe,hb13⟩;dsimp only;obtain⟨ea,ec,rfl,-,-⟩:=hoe.shape;have HX13:=Hi (HXC.out.below hb13);obtain⟨wT,hT,hXT,-,-⟩:=HX13.out.put HND2.out ⟨(manN,encM ⟨1,rn,rm,0,0⟩),ea,ec⟩ (FBm.stays_own hoe);dsimp only at hT hXT;have hT2:(Instr.mapUpdate 118 (.map (some sb)) (.string ⟨#[109,97,110,105,102,101,115,116]⟩) (.slice ea (encM ⟨1,rn,rm,0,0⟩).length ec)).run Tryz.prog w13 = .ok () wT:=hT;clear hoe hb13 hT m0 m1 m2 m3 m4;have HX:=Hi hXT;(repeat' ((fail_if_success (with_reducible (show Code.wp _ (Code.region 21 _ _) _ _ _)));(fail_if_success at_builtin);first|go_values|go_skip|go_guarded|go_step|go_upon|go_back));clear hT2 hXT;(have b1:=blk_cell HX.out.rb 1;have b2:=blk_cell HX.out.rb 2;have hR:=HX.out.hr;rw[HN.out] at hR;have y0:=blk_cell hR 0;have y1:=blk_cell hR 1;have y2:=blk_cell hR 2;have y3:=blk_cell hR 3;have ff:=fun i=>blk_free hR i;simp only[roadB,openB,gA,gB,gC] at b1 b2 y0 y1 y2 y3;have hs4:=set4_open hR rm rs (rs-rm) 0;have s0:=blk_cell hs4 0;have s1:=blk_cell hs4 1;have s2:=blk_cell hs4 2;have s3:=blk_cell hs4 3;simp only[openB,gA,gB,gC] at s0 s1 s2 s3;have hfin:=HX.out.fin rm rs (rs-rm) 0;rw[HN.out] at hfin;have HFIN:=Hi hfin;have wsub:=HWS.out;clear hR hs4 hfin;(repeat' ((fail_if_success at_builtin);first|go_values|go_skip|go_guarded|go_step|go_upon|go_back));refine bodyPost_ret (v:=(.agg #[.int .i64 rm,.int .i64 rs,.int .i64 (rs-rm),.int .i64 0])) (by simp[results,Tryz.results80,go_sem,s0,s1,s2,s3]) rfl ⟨by rw[HL1.out],⟨setF st2 manN (encM ⟨1,rn,rm,0,0⟩),HFIN.out.1,set_nodup HND2.out _ _,(fun k=>by rw[HST.out,getF_set,getF_set,HNEW2.out,HG2.out])⟩,HFIN.out.2⟩))
       ·have t1:(oe==0)=false:=by simpa using hoe
        clear hc hoe
        repeat' ((fail_if_success (with_reducible (show Code.wp _ (Code.region 20 _ _) _ _ _)));(fail_if_success at_builtin);first|go_values|go_skip|go_guarded|go_step|go_upon|go_back)
        clear o0 t1
        (have m0:=blk_cell HNC.out 0;have m1:=blk_cell HNC.out 1;have m2:=blk_cell HNC.out 2;have m3:=blk_cell HNC.out 3;have m4:=blk_cell HNC.out 4;simp only[gA,gB,gC] at m0 m1 m2 m3 m4;have henc:=encode_any w11 ⟨1,rn,rm,0,0⟩ (by have h:=HMAY.out;rwa [HNEW2.out] at h);unfold Mf.cells at henc;dsimp only at henc;have HENC:=Hi henc;clear henc;(repeat' ((fail_if_success at_builtin);first|go_values|go_skip|go_guarded|go_step|go_upon|go_back));refine HENC.out.mono ?_;rintro e1 w13 ⟨ev,rfl,hoe,hb13⟩;dsimp only;obtain⟨ea,ec,rfl,-,-⟩:=hoe.shape;have HX13:=Hi (HXC.out.below hb13);obtain⟨wT,hT,hXT,-,-⟩:=HX13.out.put HND2.out ⟨(manN,encM ⟨1,rn,rm,0,0⟩),ea,ec⟩ (FBm.stays_own hoe);dsimp only at hT hXT;have hT2:(Instr.mapUpdate 118 (.map (some sb)) (.string ⟨#[109,97,110,105,102,101,115,116]⟩) (.slice ea (encM ⟨1,rn,rm,0,0⟩).length ec)).run Tryz.prog w13 = .ok () wT:=hT;clear hoe hb13 hT m0 m1 m2 m3 m4;have HX:=Hi hXT;(repeat' ((fail_if_success (with_reducible (show Code.wp _ (Code.region 21 _ _) _ _ _)));(fail_if_success at_builtin);first|go_values|go_skip|go_guarded|go_step|go_upon|go_back));clear hT2 hXT;(have b1:=blk_cell HX.out.rb 1;have b2:=blk_cell HX.out.rb 2;have hR:=HX.out.hr;rw[HN.out] at hR;have y0:=blk_cell hR 0;have y1:=blk_cell hR 1;have y2:=blk_cell hR 2;have y3:=blk_cell hR 3;have ff:=fun i=>blk_free hR i;simp only[roadB,openB,gA,gB,gC] at b1 b2 y0 y1 y2 y3;have hs4:=set4_open hR rm rs (rs-rm) 0;have s0:=blk_cell hs4 0;have s1:=blk_cell hs4 1;have s2:=blk_cell hs4 2;have s3:=blk_cell hs4 3;simp only[openB,gA,gB,gC] at s0 s1 s2 s3;have hfin:=HX.out.fin rm rs (rs-rm) 0;rw[HN.out] at hfin;have HFIN:=Hi hfin;have wsub:=HWS.out;clear hR hs4 hfin;(repeat' ((fail_if_success at_builtin);first|go_values|go_skip|go_guarded|go_step|go_upon|go_back));refine bodyPost_ret (v:=(.agg #[.int .i64 rm,.int .i64 rs,.int .i64 (rs-rm),.int .i64 0])) (by simp[results,Tryz.results80,go_sem,s0,s1,s2,s3]) rfl ⟨by rw[HL1.out],⟨setF st2 manN (encM ⟨1,rn,rm,0,0⟩),HFIN.out.1,set_nodup HND2.out _ _,(fun k=>by rw[HST.out,getF_set,getF_set,HNEW2.out,HG2.out])⟩,HFIN.out.2⟩))
     ·have t0:decide (0<rn)=false:=decide_eq_false hrn
      have HST:Hid ((ledF encM d).1=laidF d rlog):=Hi (by rw[HL1.out];show stOf d _ _ _=_;unfold stOf;rw[if_neg hrn])
      clear hrn
      repeat' ((fail_if_success (with_reducible (show Code.wp _ (Code.region 21 _ _) _ _ _)));(fail_if_success at_builtin);first|go_values|go_skip|go_guarded|go_step|go_upon|go_back)
      clear b0 t0 hnext
      (have b1:=blk_cell HX.out.rb 1;have b2:=blk_cell HX.out.rb 2;have hR:=HX.out.hr;rw[HN.out] at hR;have y0:=blk_cell hR 0;have y1:=blk_cell hR 1;have y2:=blk_cell hR 2;have y3:=blk_cell hR 3;have ff:=fun i=>blk_free hR i;simp only[roadB,openB,gA,gB,gC] at b1 b2 y0 y1 y2 y3;have hs4:=set4_open hR rm rs (rs-rm) 0;have s0:=blk_cell hs4 0;have s1:=blk_cell hs4 1;have s2:=blk_cell hs4 2;have s3:=blk_cell hs4 3;simp only[openB,gA,gB,gC] at s0 s1 s2 s3;have hfin:=HX.out.fin rm rs (rs-rm) 0;rw[HN.out] at hfin;have HFIN:=Hi hfin;have wsub:=HWS.out;clear hR hs4 hfin;(repeat' ((fail_if_success at_builtin);first|go_values|go_skip|go_guarded|go_step|go_upon|go_back));refine bodyPost_ret (v:=(.agg #[.int .i64 rm,.int .i64 rs,.int .i64 (rs-rm),.int .i64 0])) (by simp[results,Tryz.results80,go_sem,s0,s1,s2,s3]) rfl ⟨by rw[HL1.out],⟨laidF d done,HFIN.out.1,laid_nodup d done,(fun k=>by rw[HST.out];exact HGET.out k)⟩,HFIN.out.2⟩)
    ·obtain⟨y,todo',rfl,htd,hpt⟩:=perm_map logEnt (HT.out.trans hpm)
     obtain⟨nm,sz⟩:=y
     have hyl:(nm,sz)∈rlog:=HP.out.mem_iff.1 (List.mem_append_right _ (hpt.mem_iff.2 (List.mem_cons_self ..)))
     obtain⟨b,hgb,hle⟩:=HSM.out _ hyl
     dsimp only at hgb hle
     have HX7:=Hi (HX.out.turn (g:=rr) (by have:=HRR.out;have:=HN.out;omega) (by have:=HRR.out;omega) HM.out.notU8 hos htp hou hsz hblk)
     obtain⟨da,dc,hst,hlk0⟩:=HX7.out.hd.find HF.out.nodup hgb
     have hlk:=(lookup_dir2 db ⟨nm.toArray⟩ false w7).trans (hlk0 false)
     simp only[Bool.false_eq_true,if_false] at hlk
     have hsl:=run_bpre (W:=w7) (a:=da) (n:=b.length) (c:=dc) (hi:=sz) (by have:=hst.le;dsimp only at this;omega)
     obtain⟨w8,hput,hX8,hsz8,hblk8⟩:=HX7.out.put (laid_nodup d done) ⟨(nm,b.take sz),da,dc⟩ (hst.take sz hle)
     dsimp only at hput hX8
     have htl:(b.take sz).length=sz:=by rw[List.length_take];omega
     rw[htl] at hput
     have HX8:Hid (LX w n1 db sb RB ⟨rn,rm,rs,rlog⟩ mo d (laidF d (done++[(nm,sz)])) w8):=Hi (by rw[laid_snoc,hgb];exact hX8)
     have HM8:Hid (MRo w8 mo rr (rlog.map logEnt) tv'):=Hi (hM7.kept (fun b hb=>hblk8 _ (by have:=HLVM.out b hb;have:=HX7.out.lsb;have:=HN.out;omega)) (hblk8 _ (by have:=HX7.out.lsb;have:=HN.out;have:=HRR.out;omega)))
     have HP8:Hid ((done++[(nm,sz)]++todo').Perm rlog):=Hi (by
      refine List.Perm.trans ?_ HP.out
      rw[List.append_assoc]
      exact List.Perm.append_left done hpt.symm)
     have HLE:Hid (leftO w8 mo rr<leftO wr mo rr):=Hi (by rw[HM8.out.left,HM.out.left,hpm.length_eq,List.length_cons];omega)
     have HTD:=Hi htd
     clear hx hpm hM7 hos htp hou hsz hblk hpt hyl hgb hle hst hlk0 htl hX8 hsz8 hblk8 htd
     unfold logEnt at hnext hent
     dsimp only at hnext hent
     repeat' ((fail_if_success at_builtin);first|go_values|go_skip|go_guarded|go_step|go_upon|go_back)
     go_roundw
     case rel=>exact⟨done++[(nm,sz)],todo',tv',HX8,HM8,HTD,HP8⟩
     case measure=>exact HLE.out
end Go.Proofs.YtbppnihcbcdglaaGreat
