/- A part of the proof of AllocateNeeds: SlB. No condition. -/
import Derived.Shelf.SortM.Plain
import Derived.Shelf.SortM.SortNone
import Derived.Test.YteopfmnnhlhbmaaHn18
import Derived.Test.YteopfmnnhlhbmaaHn17
import Derived.Test.YteopfmnnhlhbmaaHn13
set_option linter.unusedSimpArgs false
set_option linter.unusedVariables false
set_option linter.constructorNameAsVariable false
set_option maxRecDepth 100000
set_option maxHeartbeats 4000000
namespace Go.Proofs.Yteopfmnnhlhbmaa
open Go.RowKit Go.Maps Go.Sort Go.Shelf
theorem uy(m:Nat):AnyZI.SortsIn Try.prog kl Fence.wide m:=
 ⟨λblk off cap ss W hH hblk hsz=>callsIn_wide.2 (AnyM.slices_Sort_int Ck blk off cap ss W hH hblk hsz),
  λp cap W=>callsIn_wide.2 (AnyM.slices_Sort_int_none Ck p cap W)⟩
abbrev s8:Value->Option (DataW Unit×List MemPlace):=λ_=>some (.nil,[])
def lX(e:MapEntry):Int:=match e.key with
 |.int _ k=>k
 |_=>0
theorem Rx{k:Int}(h0:0<=k)(h1:k<4611686018427387904):(Lit.int .i64 k).wf=true:=by
 simp[Lit.wf,IntKind.min,IntKind.max,IntKind.bits,IntKind.signed];omega
theorem x8{x:dl}{es:Array MapEntry}{c:Nat}(h:pA x es c)(hc:x.cnt<=1099511627776)(hk:∀k v,x.get k=some v->0<=k/\k<4611686018427387904):
  WideElems.Fit Try.prog 3 s8 es c/\∀e ∈ es.toList,WideElems.rg Try.prog 3 s8 e=(.int .i64 (lX e),.nil):=by
 have hrd:∀e ∈ es.toList,WideElems.rd Try.prog 3 s8 e=some (.int .i64 (lX e),.nil):=λe he=>by
  obtain⟨k,v,h1,h2,_⟩:=h.ent e he
  obtain⟨q1,q2⟩:=hk k v h2
  unfold WideElems.rd lX
  rw[h1,Maps.keyOf_int_mk Try.underlying3 (Rx q1 q2)]
  rfl
 refine⟨⟨?_,⟨λe he=>?_,?_,?_⟩,λe he=>⟨_,hrd e he⟩⟩,λe he=>?_⟩
 ·rw[h.cnt];exact Nat.le_trans hc (by decide)
 ·obtain⟨k,v,_,_,_,_,h5⟩:=h.ent e he;exact h5
 ·exact List.pairwise_map.2 (h.one.imp λhab=>Nat.ne_of_lt hab.2)
 ·exact List.pairwise_map.2 (h.one.imp λhab=>hab.1)
 ·unfold WideElems.rg;rw[hrd e he];rfl
theorem ly(r:Nat):iw Try.prog 37 [.f 71 [] [.bx 1 (λ_=> .cv (.map (some r)))]]
  (λM=>∃x,M r=some (.mp x)/\x.cnt<=1099511627776/\∀k v,x.get k=some v->0<=k/\k<4611686018427387904)
  (λM rs N=>∃ss:List Int,(∀x,M r=some (.mp x)->∀k,k ∈ ss↔(x.get k).isSome=true)/\ss.Pairwise (· < ·)/\rs=[.v (.fs 1 ss.length (λi _=> .n .i64 (ss.getD i 0)))]/\N=λ_=>none):=by
 rintro M ⟨x,hMr,hcnt,hk⟩
 refine⟨⟨_,Try.func37,by kernel_rfl,by rfl⟩,λφ w args' hφ ha hM=>?_⟩
 obtain⟨args'⟩:=args'
 obtain⟨hlen,hval⟩:=ha
 obtain⟨u,rfl⟩:∃u,args'=[u]:=by
  match args',hlen with
  |[u],_=>exact⟨u,rfl⟩
 have hu:VR (Sg.data φ) (.f 71 [] [.bx 1 (λ_=> .cv (.map (some r)))]) u:=hval 0 _ rfl
 obtain⟨c,cs0,rfl,hz,hb0,hcell⟩:∃c cs0,u= .func (.func 71) #[] #[.pointer (some ⟨c,0,none⟩)]/\φ c=some cs0/\1<=cs0.size/\cs0.getD 0 undef= .map (some r):=by
  cases hu with
  |@f _ _ _ _ c1 c2 n1 h1 n2 h2=>
   have e1:c1= #[]:=Array.eq_empty_of_size_eq_zero n1.symm
   have h0:=h2 0 _ rfl
   obtain⟨c2⟩:=c2
   match c2,n2,h0 with
   |[p],_,h0=>
    cases h0 with
    |@bx _ _ _ c cs0 hz hb q1 q2=>
     have:=q2 0 (by decide)
     generalize hq:cs0.getD 0 undef=q at this
     cases this
     exact⟨c,cs0,by rw[e1],hz,hb,hq⟩
 obtain⟨cs,t,fr,hc,hpre⟩:=hφ c cs0 hz
 have hcell? :w.cell? ⟨c,0,none⟩=some (.map (some r)):=by
  have hlt:0<cs.size:=Nat.lt_of_lt_of_le (by omega) hpre.1
  have:=hpre.getD (i:=0) (by omega)
  rw[hcell] at this
  simp[World.cell?,hc]
  rw[Array.getElem?_eq_getElem hlt]
  simpa [Array.getD,hlt] using this
 have hclt:c<w.heap.size:=(Array.getElem?_eq_some_iff.1 hc).1
 obtain⟨_,es,clock,hr1,hr2⟩:=hM r _ (oI hMr)
 have hr3:pA x es clock:=⟨hr2.cnt,hr2.ent,hr2.dom,hr2.one,hr2.stp⟩
 obtain⟨hfit,hrg⟩:=x8 hr3 hcnt hk
 have hown:w.ownsMap Try.prog 3 s8 r es.size (.map ((es.toList.map (WideElems.rg Try.prog 3 s8)).foldr DataW.insert [])):=⟨es,clock,hr1,hfit,Nat.le_refl _,rfl⟩
 generalize hD:(DataW.map ((es.toList.map (WideElems.rg Try.prog 3 s8)).foldr DataW.insert []):DataW Unit)=D0 at hown
 have hperm:(Go.intKeys D0).Perm (es.toList.map lX):=by
  rw[<-hD]
  refine((WideShapes.sorted_perm (es.toList.map (WideElems.rg Try.prog 3 s8))).map _).trans (List.Perm.of_eq ?_)
  rw[List.map_map]
  refine List.map_congr_left λe he=>?_
  simp only[Function.comp,hrg e he]
  rfl
 have hsize:Maps.size D0=x.cnt:=by
  rw[<-hD,Maps.size_eq,(WideShapes.sorted_perm _).length_eq,List.length_map,<-hr3.cnt]
  rfl
 have hseq:SeqGives Fence.wide 2 Try.prog 71 #[.pointer (some ⟨c,0,none⟩)] encZ (λss=>ss.Perm (Go.intKeys D0)) (Maps.size D0) w:=
  AnyZI.keys_gives (ρ:=nQ) {OZ with} Fence.wide _ trivial rfl (by omega) c r es.size D0 _ hclt hcell? hown
 have cS:=AnyZI.sorted_in Ae Fence.wide 5 trivial trivial trivial trivial rfl (by omega) (uy _) (enters_of Try.func70 (by kernel_rfl) rfl) 71 #[.pointer (some ⟨c,0,none⟩)] trivial (enters_of Try.func71 (by kernel_rfl) rfl) _ _ (by rw[hsize];exact Nat.le_trans hcnt (by decide)) (by rw[hsize];omega) _ hseq
 change CallsIn _ _ Try.prog 37 _ _ _ at cS
 refine(callsIn_wide.1 cS).mono ?_
 rintro e w' ⟨v,ss,rfl,hS,hrow,hnil,hbel⟩
 have hfull:=hS.trans hperm
 have hmem:∀k,k ∈ ss.mergeSort (λx y=>decide (x<=y))↔(x.get k).isSome=true:=λk=>by
  rw[List.mem_mergeSort,hfull.mem_iff,List.mem_map]
  constructor
  ·rintro ⟨e,he,rfl⟩
   obtain⟨k,v,h1,h2,_⟩:=hr3.ent e he
   have:lX e=k:=by unfold lX;rw[h1]
   rw[this,h2];rfl
  ·intro hs
   obtain⟨v,hv⟩:=Option.isSome_iff_exists.1 hs
   obtain⟨e,he,h1⟩:=hr3.dom k v hv
   exact⟨e,he,by unfold lX;rw[h1]⟩
 have hnd:ss.Nodup:=by
  refine hfull.nodup_iff.2 (List.pairwise_map.2 (hr3.one.imp_of_mem λ{a b} ha hb hab e=>hab.1 ?_))
  obtain⟨k,_,h1,_⟩:=hr3.ent a ha
  obtain⟨k',_,h1',_⟩:=hr3.ent b hb
  have e1:lX a=k:=by unfold lX;rw[h1]
  have e2:lX b=k':=by unfold lX;rw[h1']
  rw[h1,h1',<-e1,<-e2,e]
 have hpw:(ss.mergeSort (λx y=>decide (x<=y))).Pairwise (· < ·):=by
  have p1:=List.pairwise_mergeSort (le:=λx y:Int=>decide (x<=y)) (λa b c h1 h2=>by simp only[decide_eq_true_eq] at*;omega) (λa b=>by simp only[Bool.or_eq_true,decide_eq_true_eq];omega) ss
  have p2:(ss.mergeSort (λx y=>decide (x<=y))).Nodup:=(List.mergeSort_perm ss _).nodup_iff.2 hnd
  exact(p1.and p2).imp λ⟨h1,h2⟩=>by simp only[decide_eq_true_eq] at h1;omega
 have hle:(ss.mergeSort (λx y=>decide (x<=y))).length=ss.length:=List.length_mergeSort _
 generalize ss.mergeSort (λx y=>decide (x<=y))=zs at hmem hpw hle hrow
 rw[<-hle] at hrow
 have keep:∀c fs,φ c=some fs->∃cs t fr,w'.heap[c]? =some (.cells cs t fr)/\fZ fs cs:=λc fs hf=>by
  obtain⟨cs,t,fr,h1,h2⟩:=hφ c fs hf
  exact⟨cs,t,fr,by rw[hbel.block c (Array.getElem?_eq_some_iff.1 h1).1];exact h1,h2⟩
 suffices fin:∃φ':Fz,VR ⟨λ_=>none,λ_=>False,φ'⟩ (.fs 1 zs.length (λi _=> .n .i64 (zs.getD i 0))) v/\(∀c fs,φ' c=some fs->∃cs t fr,w'.heap[c]? =some (.cells cs t fr)/\fZ fs cs)/\(∀c,c<w.heap.size->φ' c=φ c) by
  obtain⟨φ',hv,h1,h2⟩:=fin
  exact⟨_,⟨.nil,0,2^40,λ_=>none⟩,_,⟨_,λ_=>none,[.fs 1 zs.length (λi _=> .n .i64 (zs.getD i 0))],⟨zs,λx' hx'=>by rw[hMr] at hx';cases hx';exact hmem,hpw,rfl,rfl⟩,rfl,⟨⟨rfl,rfl⟩,True.intro⟩,λr x hx=>by cases hx⟩,hv,HR.emptyAt w' hbel.size h1,hbel,h2⟩
 obtain⟨hlz,⟨rfl,hz0⟩|⟨g,cap,cur,rfl,hg,hheap,hcap,_,hcur,htake⟩⟩:=hrow
 ·refine⟨φ,?_,keep,λ_ _=>rfl⟩
  generalize hf:(λi _=>AV.n .i64 (zs.getD i 0):Nat->Nat->AV)=f
  rw[hz0]
  exact .fs0 _ _ _ _
 ·refine⟨λc=>if c=g then some cur else φ c,.fs (c:=g) (off:=0) (cs:=cur) (if_pos rfl) (by rw[hcur];omega) (λi j hi hj=>rfl) (λi j hi hj=>?_) _ hcap,λc fs hf=>?_,λc hc=>if_neg (by omega)⟩
  ·obtain rfl:j=0:=by omega
   have hi':i<cur.size:=by omega
   have e1:(cur.toList.take (zs.length*1))[i]? =some cur[i]:=by
    rw[List.getElem?_take,if_pos (by omega)];simp[hi']
   rw[htake,List.getElem?_map,List.getElem?_eq_getElem hi] at e1
   have e2:cur.getD (0+i*1+0) undef=encZ zs[i]:=by
    have:(0+i*1+0)=i:=by omega
    rw[this]
    simp only[Array.getD,hi',dif_pos]
    exact(Option.some.inj e1).symm
   rw[e2]
   have e3:zs.getD i 0=zs[i]:=by simp[List.getD,hi]
   rw[e3]
   exact .n _ _
  ·have hf:(if c=g then some cur else φ c)=some fs:=hf
   by_cases e:c=g
   ·rw[if_pos e] at hf
    cases hf
    exact⟨cur,_,_,by rw[e];exact hheap,fZ.refl _⟩
   ·rw[if_neg e] at hf
    exact keep c fs hf
end Go.Proofs.Yteopfmnnhlhbmaa