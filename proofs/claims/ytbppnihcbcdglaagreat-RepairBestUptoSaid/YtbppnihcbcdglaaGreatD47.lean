import Derived.WalkKit
import Derived.ProofKit
import Derived.OpenShut
import Derived.JoinedCond
import Derived.Carry
import Derived.Deep.SlicePairs
import Derived.Test.YtbppnihcbcdglaaGreatV8
import Derived.Test.YtbppnihcbcdglaaGreatD46
namespace Go.Proofs.YtbppnihcbcdglaaGreat
open Go.ChangeShapes Go.WideShapes Go.ChangeAt Go.RowKit
set_option linter.unusedVariables false
variable {H:Type} {enc:TypeId×Value->H}
theorem Tryz.laidOut:laidOutB Tryz.prog=true:=by kernel_rfl
theorem cells_fb:Tryz.prog.cellsOf 55=2:=by kernel_rfl
theorem cells_str:Tryz.prog.cellsOf 9=1:=by kernel_rfl
theorem cells_bs:Tryz.prog.cellsOf 27=1:=by kernel_rfl
theorem cells_u8:Tryz.prog.cellsOf 5=1:=by kernel_rfl
theorem u8_of(n:Int)(h:(Lit.int .u8 n).wf=true):Value.int .u8 n=B (UInt8.ofNat n.toNat):=by
 have hx:0<=n/\n<=255:=by simpa [Lit.wf,IntKind.min,IntKind.max,IntKind.signed,IntKind.bits] using h
 unfold B
 congr 1
 rw[UInt8.toNat_ofNat']
 omega
theorem open_bs{w:World}{base:Nat}{spare:Nat->Bool}{held:Bool}{fuel:Nat}{cs:List Value}{x:DataW H×List MemPlace}(h:DataW.trod enc Tryz.prog w base spare held fuel 27 cs=some x) :
  ∃ a c xs,cs=[.slice a xs.length c]/\BS w a c xs:=by
 rcases open_ints (k := .u8) Tryz.underlying27 Tryz.underlying5 cells_u8 h with⟨rfl,-⟩|⟨a,len,cap,zs,rfl,-,hl,-,hz,-,hc,hw⟩
 ·exact⟨none,0,[],rfl,Nat.le_refl _,fun _=>rfl,.inl rfl⟩
 ·have hzl:len<=zs.length:=by rw[hz];split<;>omega
  refine⟨some a,cap,(zs.take len).map (fun n=>UInt8.ofNat n.toNat),?_,?_,(fun e=>by cases e),?_⟩
  ·rw[List.length_map,List.length_take,Nat.min_eq_left hzl]
  ·rw[List.length_map,List.length_take];omega
  ·by_cases h0:len=0
   ·left;subst h0;simp
   ·right
    have hs:=World.cell?_spot (hc 0 (by omega))
    obtain⟨b,o,sp⟩:=a
    obtain rfl:sp=none:=by simpa [Addr.add] using hs
    refine⟨b,o,rfl,fun i u hu=>?_⟩
    rw[List.getElem?_map] at hu
    cases hzi:(zs.take len)[i]? with
    | none=>rw[hzi] at hu;cases hu
    | some z =>
     rw[hzi] at hu
     obtain rfl:UInt8.ofNat z.toNat=u:=by simpa using hu
     have hi:i<len:=by
      have:=(List.getElem?_eq_some_iff.1 hzi).1
      rw[List.length_take] at this;omega
     have hzi2:zs[i]?=some z:=by rw[<-hzi,List.getElem?_take,if_pos hi]
     have hci:=hc i (by omega)
     rw[Addr.add_lit] at hci
     rw[hci,List.getD_eq_getElem?_getD,hzi2]
     exact congrArg some (u8_of z (hw z (List.mem_of_getElem? hzi2)))
theorem open_files{w:World}{base:Nat}{spare:Nat->Bool}{held:Bool}{fuel:Nat}{cs:List Value}{x:DataW H×List MemPlace}(h:DataW.trod enc Tryz.prog w base spare held fuel 40 cs=some x) :
  ∃ fa fc ms,cs=[.slice fa ms.length fc]/\Files w fa fc ms:=by
 rcases Deep.open_slice_pairs Tryz.underlying40 Tryz.underlying55 cells_fb rfl rfl cells_str cells_bs h with⟨rfl,-⟩|⟨a,len,cap,m,n,V0,V1,D0,D1,P0,P1,rfl,-,hl,-,hm,-,hx⟩
 ·exact⟨none,0,[],rfl,.inl rfl,Nat.le_refl _,fun _=>rfl,fun m hm=>by cases hm⟩
 ·have hlm:len<=m:=by rw[hm];split<;>omega
  have each:∀ i,i<len->∃ q:FBm,w.cell? (a.add (i*2))=some (encS q.f.1)/\w.cell? (a.add (i*2+1))=some (.slice q.a q.f.2.length q.c)/\BS w q.a q.c q.f.2:=by
   intro i hi
   obtain⟨h0,h1,h2,h3⟩:=hx i (by omega)
   obtain⟨s,hs,-,-⟩:=DataW.trod_string Tryz.underlying9 h2
   obtain⟨ba,bc,xs,hb,hB⟩:=open_bs h3
   simp only[List.cons.injEq,and_true] at hs hb
   refine⟨⟨(s.data.toList,xs),ba,bc⟩,?_,?_,hB⟩
   ·rw[h0,hs];rfl
   ·rw[h1,hb]
  haveI:Inhabited FBm:=⟨⟨([],[]),none,0⟩⟩
  obtain⟨q,hq⟩:=Deep.choose_lt each
  have hlen:((List.range len).map q).length=len:=by simp
  have hat:∀ i m',((List.range len).map q)[i]?=some m'->i<len/\m'=q i:=fun i m' hm'=>by
   rw[List.getElem?_map] at hm'
   by_cases hi:i<len
   ·rw[List.getElem?_range hi] at hm'
    exact⟨hi,(Option.some.inj hm').symm⟩
   ·rw[List.getElem?_eq_none (by simpa using hi)] at hm'
    cases hm'
  refine⟨some a,cap,(List.range len).map q,by rw[hlen],?_,by rw[hlen];exact hl,(fun e=>by cases e),fun m' hm'=>?_⟩
  ·by_cases h0:len=0
   ·left;subst h0;rfl
   ·right
    have hs:=World.cell?_spot (hq 0 (by omega)).1
    obtain⟨b,o,sp⟩:=a
    obtain rfl:sp=none:=by simpa [Addr.add] using hs
    refine⟨b,o,rfl,fun i u hu=>?_⟩
    have hi:i<len*2:=by
     have:=(List.getElem?_eq_some_iff.1 hu).1
     rw[rows_len,hlen] at this
     exact this
    obtain⟨k,r,hr,rfl⟩:∃ k r,r<2/\i=k*2+r:=⟨i / 2,i%2,Nat.mod_lt _ (by decide),by omega⟩
    have hk:k<len:=by omega
    have hm':((List.range len).map q)[k]?=some (q k):=by rw[List.getElem?_map,List.getElem?_range hk];rfl
    rw[flat_at FBm.row 2 (fun _=>rfl) _ k _ r hm' hr] at hu
    obtain⟨c0,c1,-⟩:=hq k hk
    rw[Addr.add_lit] at c0 c1
    match r,hr with
    | 0,_=>cases hu;exact c0
    | 1,_=>cases hu;exact c1
  ·obtain⟨i,hi,e⟩:=List.mem_iff_getElem.1 hm'
   obtain⟨hil,rfl⟩:=hat i m' (by rw[List.getElem?_eq_getElem hi,e])
   exact(hq i hil).2.2
theorem okW{P:Program}{W:World}{r:Reach}{b0:Nat}{t e:TypeId}{v:Value}(ht:P.underlying t=some (.slice e))(hval:Value.okWide P W r b0 t v):∃ a l c,v = .slice a l c:=by
 obtain⟨a,l,c,h⟩:=okWide_slice ht hval
 exact⟨a,l,c,h⟩
set_option maxRecDepth 100000 in
theorem arg_files{W:World}{r:Reach}{b0:Nat}{v:Value}{d:DataW H}{ps:List MemPlace}{base:Nat}{spare:Nat->Bool}{held:Bool}(hval:Value.okWide Tryz.prog W r b0 40 v)(h:DataW.Trod enc Tryz.prog W base spare held 40 v d ps) :
  ∃ fa fc ms,v = .slice fa ms.length fc/\Files W fa fc ms:=by
 obtain⟨a,l,c,rfl⟩:=okW Tryz.underlying40 hval
 obtain⟨n,hn⟩:=h
 obtain⟨fa,fc,ms,hv,hF⟩:=open_files hn
 simp only[Value.cells,List.cons.injEq,and_true] at hv
 exact⟨fa,fc,ms,hv,hF⟩
set_option maxRecDepth 100000 in
theorem arg_bs{W:World}{r:Reach}{b0:Nat}{v:Value}{d:DataW H}{ps:List MemPlace}{base:Nat}{spare:Nat->Bool}{held:Bool}(hval:Value.okWide Tryz.prog W r b0 27 v)(h:DataW.Trod enc Tryz.prog W base spare held 27 v d ps) :
  ∃ a c xs,v = .slice a xs.length c/\BS W a c xs:=by
 obtain⟨a,l,c,rfl⟩:=okW Tryz.underlying27 hval
 obtain⟨n,hn⟩:=h
 obtain⟨fa,fc,xs,hv,hB⟩:=open_bs hn
 simp only[Value.cells,List.cons.injEq,and_true] at hv
 exact⟨fa,fc,xs,hv,hB⟩
def IntsC(w:World)(a:Option Addr)(xs:List Int):Prop:=RowC w a (xs.map (Value.int .i64))
set_option maxRecDepth 100000 in
theorem arg_ints{W:World}{r:Reach}{b0:Nat}{v:Value}{d:DataW H}{ps:List MemPlace}{base:Nat}{spare:Nat->Bool}{held:Bool}(hval:Value.okWide Tryz.prog W r b0 57 v)(h:DataW.Trod enc Tryz.prog W base spare held 57 v d ps) :
  ∃ a c xs,v = .slice a xs.length c/\IntsC W a xs/\∀ n∈xs,(Lit.int .i64 n).wf=true:=by
 obtain⟨a,l,c,rfl⟩:=okW Tryz.underlying57 hval
 obtain⟨n,hn⟩:=h
 rcases open_ints (k := .i64) Tryz.underlying57 Tryz.underlying3 (by kernel_rfl) hn with⟨hv,-⟩|⟨a',len,cap,zs,hv,-,hl,-,hz,-,hc,hw⟩
 ·simp only[Value.cells,List.cons.injEq,and_true] at hv
  exact⟨none,0,[],hv,.inl rfl,fun n hn=>by cases hn⟩
 ·simp only[Value.cells,List.cons.injEq,and_true] at hv
  have hzl:len<=zs.length:=by rw[hz];split<;>omega
  refine⟨some a',cap,zs.take len,by rw[List.length_take,Nat.min_eq_left hzl];exact hv,?_,fun n hn=>hw n (List.mem_of_mem_take hn)⟩
  by_cases h0:len=0
  ·left;subst h0;rfl
  ·right
   have hs:=World.cell?_spot (hc 0 (by omega))
   obtain⟨b,o,sp⟩:=a'
   obtain rfl:sp=none:=by simpa [Addr.add] using hs
   refine⟨b,o,rfl,fun i u hu=>?_⟩
   rw[List.getElem?_map] at hu
   cases hzi:(zs.take len)[i]? with
   | none=>rw[hzi] at hu;cases hu
   | some z =>
    rw[hzi] at hu
    obtain rfl:Value.int .i64 z=u:=by simpa using hu
    have hi:i<len:=by
     have:=(List.getElem?_eq_some_iff.1 hzi).1
     rw[List.length_take] at this;omega
    have hzi2:zs[i]?=some z:=by rw[<-hzi,List.getElem?_take,if_pos hi]
    have hci:=hc i (by omega)
    rw[Addr.add_lit] at hci
    rw[hci,List.getD_eq_getElem?_getD,hzi2]
    rfl
theorem trodAll_keep{P:Program}(hl:laidOutB P=true){W W':World}(hb:Below W.heap.size W W'):∀ {ts:List TypeId} {vs:List Value} {ds:List (DataW H)} {ps:List MemPlace},(ts.all fun t=>P.readableRec t&&decide (t<P.types.size))=true ->
  DataW.TrodAll enc P W 0 (fun _=>true) true ts vs ds ps->(∀ x∈ps,x.block<W.heap.size)->DataW.TrodAll enc P W' 0 (fun b=>decide (b<W.heap.size)) true ts vs ds ps
 | [],[],[],_,_,h,_=>h
 | t :: ts,_ :: _,_ :: _,_,hT,⟨p,q,h1,h2,e⟩,hs=>by
  rw[List.all_cons,Bool.and_eq_true,Bool.and_eq_true] at hT
  exact⟨p,q,Below.trod hl hT.1.1 (of_decide_eq_true hT.1.2) h1 hb (fun x hx=>hs x (by rw[e];exact List.mem_append_left _ hx)),trodAll_keep hl hb hT.2 h2 (fun x hx=>hs x (by rw[e];exact List.mem_append_right _ hx)),e⟩
theorem trodAll_below{W W':World}(hb:Below W.heap.size W W'){ts:List TypeId}{vs:List Value}{ds:List (DataW H)}{ps:List MemPlace}(hT:(ts.all fun t=>Tryz.prog.readableRec t&&decide (t<Tryz.prog.types.size))=true)
  (h:DataW.TrodAll enc Tryz.prog W 0 (fun _=>true) true ts vs ds ps) (hs:∀ x∈ps,x.block<W.heap.size):DataW.TrodAll enc Tryz.prog W' 0 (fun b=>decide (b<W.heap.size)) true ts vs ds ps:=trodAll_keep Tryz.laidOut hb hT h hs
theorem post_kept{f:Func}{s:ChangeSpec}{apart fresh handsOn:Bool}{W W':World}{args:Array Value}{v:Value}{ds gs:List (DataW H)}{before pa pv:List MemPlace}
  (hW:DataW.Whole enc Tryz.prog f.params.toList s.vars apart W args.toList ds gs before)
  (hres:∀ (b:Nat) (sp:Nat->Bool) (hd:Bool),DataW.TrodAll enc Tryz.prog W' b sp hd f.resultTypes.toList (v.resultList f.resultTypes.size) (s.fn H (ds++gs)).results [])
  (hargs:DataW.TrodAll enc Tryz.prog W' 0 (fun b=>decide (b<W.heap.size)) true f.params.toList args.toList (s.fn H (ds++gs)).args pa)
  (hvars:∀ sp:Nat->Bool,DataW.TrodVars enc Tryz.prog W' sp s.vars (s.fn H (ds++gs)).vars pv)
  (hb:Below W.heap.size W W'):s.post enc Tryz.prog f apart fresh handsOn false W args v W' :=
 ⟨ds,gs,before,[],pa,pv,hW,hres _ _ _,hargs,hvars _,hb.frame _,(fun h=>nomatch h)⟩
end Go.Proofs.YtbppnihcbcdglaaGreat
namespace Go.Proofs.YtbppnihcbcdglaaGreat
open Go.RowKit
set_option linter.unusedSimpArgs false
end Go.Proofs.YtbppnihcbcdglaaGreat
