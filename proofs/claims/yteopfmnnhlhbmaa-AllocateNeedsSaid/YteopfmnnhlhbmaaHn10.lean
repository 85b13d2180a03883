/- A part of the proof of AllocateNeeds: Map Map2 Pt Tr Tp Pc Pd Pe. No condition. -/
import Derived.MapKept
import Derived.Test.YteopfmnnhlhbmaaHn03
import Derived.Test.YteopfmnnhlhbmaaHn01
set_option linter.unusedSimpArgs false
set_option linter.unusedVariables false
set_option linter.constructorNameAsVariable false
set_option maxRecDepth 100000
set_option maxHeartbeats 4000000
namespace Go.Proofs.Yteopfmnnhlhbmaa
open Go.RowKit Go.MapKept
def x9:Value->Option Int| .int .i64 n=>some n|_=>none
def yA(k:Int):List MapEntry->Bool
 |[]=>true
 |e::es=>(match x9 e.key with|some n=>n != k|none=>false)&&yA k es
section
variable {P:Program} {T K E:TypeId} (hT:P.underlying T=some (.map K E)) (hK:P.underlying K=some (.int .i64))
include hT hK
end
attribute [go_sem] yA x9
end Go.Proofs.Yteopfmnnhlhbmaa
namespace Go.Proofs.Yteopfmnnhlhbmaa
open Go.RowKit Go.MapKept
section
variable {P:Program} {T K E:TypeId} (hT:P.underlying T=some (.map K E)) (hK:P.underlying K=some (.int .i64))
include hT hK
end
end Go.Proofs.Yteopfmnnhlhbmaa
namespace Go.Proofs.Yteopfmnnhlhbmaa
open Go.RowKit
def ft(l:List Nat):List Value:=l.map λ(n:Nat)=> .int .i64 (n:Int)
theorem uX{l:List Nat}{i:Nat}(h:i<l.length):(ft l)[i]? =some (.int .i64 (l.getD i 0:Nat)):=by simp[ft,h]
theorem lP(l:List Nat)(k:Nat):ft (l++[k])=ft l++[.int .i64 (k:Int)]:=by simp[ft]
inductive T where
 |nil
 |plain (i:RI) (r:T)
 |ite (i:RI) (a:T) (j:RI) (r:T)
 |ite2 (i:RI) (a:T) (e:RI) (b:T) (j:RI) (r:T)
 |loop (i:RI) (a:T) (j:RI) (r:T)
def T.flat:T->List RI
 |.nil=>[]
 |.plain i r=>i::r.flat
 |.ite i a j r=>i::(a.flat++j::r.flat)
 |.ite2 i a e b j r=>i::(a.flat++e::(b.flat++j::r.flat))
 |.loop i a j r=>i::(a.flat++j::r.flat)
def T.size:T->Nat
 |.nil=>0
 |.plain _ r=>r.size+1
 |.ite _ a _ r=>a.size+r.size+2
 |.ite2 _ a _ b _ r=>a.size+b.size+r.size+3
 |.loop _ a _ r=>a.size+r.size+2
theorem T.flat_length:∀t:T,t.flat.length=t.size
 |.nil=>rfl
 |.plain i r=>by simp only[flat,size,List.length_cons,r.flat_length]
 |.ite i a j r=>by simp only[flat,size,List.length_cons,List.length_append,a.flat_length,r.flat_length];omega
 |.ite2 i a e b j r=>by simp only[flat,size,List.length_cons,List.length_append,a.flat_length,b.flat_length,r.flat_length];omega
 |.loop i a j r=>by simp only[flat,size,List.length_cons,List.length_append,a.flat_length,r.flat_length];omega
def T.wf:Bool->Nat->T->Prop
 |_,_,.nil=>True
 |w,d,.plain i r=>(i.op≠27/\i.op≠28/\i.op≠29/\i.op≠31)/\(i.op=30->w=true)/\r.wf w d
 |w,d,.ite i a j r=>i.op=27/\j.op=31/\0<d/\a.wf w (d-1)/\r.wf w d
 |w,d,.ite2 i a e b j r=>i.op=27/\e.op=28/\j.op=31/\0<d/\a.wf w (d-1)/\b.wf w (d-1)/\r.wf w d
 |w,d,.loop i a j r=>i.op=29/\j.op=31/\0<d/\a.wf true (d-1)/\r.wf w d
theorem ko:∀(n:Nat) (l:List RI) (k:Nat) (o:List NB),l.length<=n->o.length<=8->(aX l k o).2=false->
  (o=[]/\∃t:T,l=t.flat/\t.wf false (8-o.length))\/
  (∃(o':List NB) (b:NB) (t:T) (x:RI) (l':List RI) (k':Nat),o=o'++[b]/\l=t.flat++x::l'/\t.wf b.within (8-o.length)/\((x.op=31/\(aX l' k' o').2=false)\/(x.op=28/\b.loop=false/\b.other=false/\(aX l' k' (o'++[⟨b.loop,b.within,true⟩])).2=false)))
 |n,[],k,o,_,_,h=>by
  left
  simp only[aX,decide_eq_false_iff_not] at h
  have:o=[]:=by
   cases o with
   |nil=>rfl
   |cons a l=>simp at h
  exact⟨this,.nil,rfl,trivial⟩
 |0,i::l,k,o,hn,_,_=>by simp at hn
 |n+1,i::l,k,o,hn,h8,h=>by
  have hl:l.length<=n:=by simpa using hn
  simp only[aX] at h
  cases hs:aD i.op o with
  |none=>rw[hs] at h;cases h
  |some o1=>
   rw[hs] at h
   simp only at h
   have hl1:=jn hs h8
   by_cases o27:i.op=27
   ·
    rw[o27] at hs
    simp only[aD,if_true] at hs
    split at hs
    ·rename_i hlt
     simp only[Option.some.injEq] at hs
     subst hs
     rcases ko n l (k+1) _ hl hl1 h with⟨h0,_⟩|⟨o',b,a,x,l',k',h1,h2,h3,h4⟩
     ·simp at h0
     ·obtain⟨rfl,hb⟩:=List.append_inj' h1 rfl
      simp only[List.cons.injEq,and_true] at hb
      subst hb
      have hle:l'.length<=n:=by have:=congrArg List.length h2;simp at this;omega
      have hd:8-(o++[(⟨false,(bG o).within,false⟩:NB)]).length=8-o.length-1:=by simp;omega
      rw[hd] at h3
      simp only at h3
      rcases h4 with⟨hx,hr⟩|⟨hx,_,_,hr⟩
      ·rcases ko n l' k' o hle h8 hr with⟨h0,t,ht,hw⟩|⟨o2,b2,t,y,l2,k2,g1,g2,g3,g4⟩
       ·left
        subst h0
        exact⟨rfl,.ite i a x t,by rw[h2,ht];rfl,o27,hx,by simp,by simpa [bG] using h3,hw⟩
       ·right
        refine⟨o2,b2,.ite i a x t,y,l2,k2,g1,by rw[h2,g2];simp[T.flat],⟨o27,hx,by omega,?_,g3⟩,g4⟩
        rw[g1,dK] at h3
        rw[g1];exact h3
      ·rcases ko n l' k' _ hle (by simp;omega) hr with⟨h0,_⟩|⟨o2,b2,t2,y,l2,k2,g1,g2,g3,g4⟩
       ·simp at h0
       ·obtain⟨rfl,hb2⟩:=List.append_inj' g1 rfl
        simp only[List.cons.injEq,and_true] at hb2
        subst hb2
        have hle2:l2.length<=n:=by have:=congrArg List.length g2;simp at this;omega
        have hd2:8-(o++[(⟨false,(bG o).within,true⟩:NB)]).length=8-o.length-1:=by simp;omega
        rw[hd2] at g3
        simp only at g3
        rcases g4 with⟨hy,hr2⟩|⟨_,_,hoth,_⟩
        ·rcases ko n l2 k2 o hle2 h8 hr2 with⟨h0,t,ht,hw⟩|⟨o3,b3,t,z,l3,k3,f1,f2,f3,f4⟩
         ·left
          subst h0
          exact⟨rfl,.ite2 i a x t2 y t,by rw[h2,g2,ht];rfl,o27,hx,hy,by simp,by simpa [bG] using h3,by simpa [bG] using g3,hw⟩
         ·right
          refine⟨o3,b3,.ite2 i a x t2 y t,z,l3,k3,f1,by rw[h2,g2,f2];simp[T.flat],⟨o27,hx,hy,by omega,?_,?_,f3⟩,f4⟩
          ·rw[f1,dK] at h3;rw[f1];exact h3
          ·rw[f1,dK] at g3;rw[f1];exact g3
        ·cases hoth
    ·cases hs
   by_cases o29:i.op=29
   ·rw[o29] at hs
    simp only[aD] at hs
    rw[if_neg (by decide),if_pos trivial] at hs
    split at hs
    ·rename_i hlt
     simp only[Option.some.injEq] at hs
     subst hs
     rcases ko n l (k+1) _ hl hl1 h with⟨h0,_⟩|⟨o',b,a,x,l',k',h1,h2,h3,h4⟩
     ·simp at h0
     ·obtain⟨rfl,hb⟩:=List.append_inj' h1 rfl
      simp only[List.cons.injEq,and_true] at hb
      subst hb
      have hle:l'.length<=n:=by have:=congrArg List.length h2;simp at this;omega
      have hd:8-(o++[(⟨true,true,false⟩:NB)]).length=8-o.length-1:=by simp;omega
      rw[hd] at h3
      simp only at h3
      rcases h4 with⟨hx,hr⟩|⟨_,hlp,_,_⟩
      ·rcases ko n l' k' o hle h8 hr with⟨h0,t,ht,hw⟩|⟨o2,b2,t,y,l2,k2,g1,g2,g3,g4⟩
       ·left
        subst h0
        exact⟨rfl,.loop i a x t,by rw[h2,ht];rfl,o29,hx,by simp,by simpa using h3,hw⟩
       ·right
        exact⟨o2,b2,.loop i a x t,y,l2,k2,g1,by rw[h2,g2];simp[T.flat],⟨o29,hx,by omega,h3,g3⟩,g4⟩
      ·cases hlp
    ·cases hs
   by_cases o28:i.op=28
   ·rw[o28] at hs
    simp only[aD] at hs
    rw[if_neg (by decide),if_neg (by decide),if_pos trivial] at hs
    split at hs
    ·rename_i hc
     simp only[Option.some.injEq] at hs
     subst hs
     rcases List.eq_nil_or_concat o with rfl|⟨o',b,rfl⟩
     ·simp at hc
     ·rw[List.concat_eq_append] at*
      rw[dK] at hc h
      right
      exact⟨o',b,.nil,i,l,k+1,rfl,rfl,trivial,.inr ⟨o28,hc.2.1,hc.2.2,by simpa using h⟩⟩
    ·cases hs
   by_cases o31:i.op=31
   ·rw[o31] at hs
    simp only[aD] at hs
    rw[if_neg (by decide),if_neg (by decide),if_neg (by decide),if_neg (by decide),if_pos trivial] at hs
    split at hs
    ·rename_i hc
     simp only[Option.some.injEq] at hs
     subst hs
     rcases List.eq_nil_or_concat o with rfl|⟨o',b,rfl⟩
     ·simp at hc
     ·rw[List.concat_eq_append] at*
      right
      exact⟨o',b,.nil,i,l,k+1,rfl,rfl,trivial,.inl ⟨o31,by simpa using h⟩⟩
    ·cases hs
   ·
    have ho1:o1=o/\(i.op=30->(bG o).within=true):=by
     unfold aD at hs
     rw[if_neg o27,if_neg o29,if_neg o28] at hs
     by_cases h30:i.op=30
     ·rw[if_pos h30] at hs
      split at hs
      ·rename_i hw;simp at hs;exact⟨hs.symm,λ_=>hw⟩
      ·cases hs
     ·rw[if_neg h30,if_neg o31] at hs
      simp at hs
      exact⟨hs.symm,λe=>absurd e h30⟩
    obtain⟨rfl,h30⟩:=ho1
    rcases ko n l (k+1) _ hl h8 h with⟨h0,t,ht,hw⟩|⟨o',b,t,x,l',k',h1,h2,h3,h4⟩
    ·left
     subst h0
     refine⟨rfl,.plain i t,by rw[ht];rfl,⟨o27,o28,o29,o31⟩,λe=>?_,hw⟩
     have:=h30 e
     simp[bG] at this
    ·right
     refine⟨o',b,.plain i t,x,l',k',h1,by rw[h2];rfl,⟨⟨o27,o28,o29,o31⟩,λe=>?_,h3⟩,h4⟩
     have:=h30 e
     rw[h1,dK] at this
     exact this
theorem nG(cd:List RI)(h:(aX cd 0 []).2=false):∃t:T,cd=t.flat/\t.wf false 8:=by
 rcases ko cd.length cd 0 [] (Nat.le_refl _) (by simp) h with⟨_,t,h1,h2⟩|⟨o',b,_,_,_,_,h1,_⟩
 ·exact⟨t,h1,by simpa using h2⟩
 ·simp at h1
def T.leaves:T->Nat->List Nat
 |.nil,_=>[]
 |.plain i r,k=>if i.op=30 then k::r.leaves (k+1) else r.leaves (k+1)
 |.ite i a j r,k=>a.leaves (k+1)++r.leaves (k+a.size+2)
 |.ite2 i a e b j r,k=>a.leaves (k+1)++b.leaves (k+a.size+2)++r.leaves (k+a.size+b.size+3)
 |.loop i a j r,k=>r.leaves (k+a.size+2)
def T.pt:T->Nat->Nat->List Nat
 |.nil,_,_=>[]
 |.plain i r,k,e=>(if i.op=30 then e else 0)::r.pt (k+1) e
 |.ite i a j r,k,e=>(k+a.size+1)::(a.pt (k+1) e++0::r.pt (k+a.size+2) e)
 |.ite2 i a x b j r,k,e=>(k+a.size+1)::(a.pt (k+1) e++(k+a.size+b.size+2)::(b.pt (k+a.size+2) e++0::r.pt (k+a.size+b.size+3) e))
 |.loop i a j r,k,e=>(k+a.size+1)::(a.pt (k+1) (k+a.size+1)++0::r.pt (k+a.size+2) e)
theorem br{α:Type}(A:List α)(x y:α)(B:List α){k:Nat}(hk:A.length=k):(A++x::B).set k y=A++y::B:=by
 subst hk
 rw[List.set_append_right _ _ (Nat.le_refl _)]
 simp
def gb(cd:List RI)(k:Nat)(l:List RI):Prop:=∀j,j<l.length->cd.getD (k+j) default=l.getD j default
theorem gb.head{cd:List RI}{k:Nat}{i:RI}{l:List RI}(h:gb cd k (i::l)):cd.getD k default=i:=by simpa using h 0 (by simp)
theorem gb.tail{cd:List RI}{k:Nat}{i:RI}{l:List RI}(h:gb cd k (i::l)):gb cd (k+1) l:=λj hj=>by
 have:=h (j+1) (by simpa using hj)
 simpa [Nat.add_assoc,Nat.add_comm 1 j] using this
theorem gb.left{cd:List RI}{k:Nat}{a b:List RI}(h:gb cd k (a++b)):gb cd k a:=λj hj=>by
 have:=h j (by simp;omega)
 rw[this]
 simp[List.getD_eq_getElem?_getD,List.getElem?_append_left hj]
theorem gb.right{cd:List RI}{k:Nat}{a b:List RI}(h:gb cd k (a++b)):gb cd (k+a.length) b:=λj hj=>by
 have:=h (a.length+j) (by simp;omega)
 rw[Nat.add_assoc,this]
 simp[List.getD_eq_getElem?_getD,List.getElem?_append_right]
abbrev aq(cd:List RI)(b:Nat):Int:=(cd.getD b default).op
def cJ(cd:List RI)(i:Nat)(out:List Int)(opn:List Nat):Option (List Int×List Nat):=
 let o:=out.set i (-1)
 let b:=opn.getLastD 0
 if aq cd i=27\/aq cd i=29 then(if opn.length=8 then none else some (o,opn++[i]))
 else if aq cd i=28 then(if opn.length=0\/aq cd b≠27\/0<=o.getD b 0 then none else some (o.set b i,opn))
 else if aq cd i=31 then(if opn.length=0 then none else some ((if aq cd b=27/\0<=o.getD b 0 then o.set (o.getD b 0).toNat i else o.set b i).set i b,opn.dropLast))
 else if aq cd i=30 then(if opn.any λb=>decide (aq cd b=29) then some (o,opn) else none)
 else some (o,opn)
def cT(cd:List RI):Nat->Nat->List Int->List Nat->Except Nat (List Int×List Nat)
 |0,_,out,opn=> .ok (out,opn)
 |n+1,k,out,opn=>match cJ cd k out opn with
  |none=> .error k
  |some (o,p)=>cT cd n (k+1) o p
def iq(cd:List RI)(out:List Int):Bool->List Nat->List NB
 |_,[]=>[]
 |w,b::l=>⟨decide (aq cd b=29),w||decide (aq cd b=29),decide (aq cd b=27/\0<=out.getD b 0)⟩::iq cd out (w||decide (aq cd b=29)) l
theorem gA(cd:List RI)(out:List Int):∀(w:Bool) (l:List Nat),(iq cd out w l).length=l.length
 |_,[]=>rfl
 |w,b::l=>by simp[iq,gA cd out _ l]
theorem fq(cd:List RI)(out:List Int)(b:Nat):∀(w:Bool) (l:List Nat),
  iq cd out w (l++[b])=iq cd out w l++[⟨decide (aq cd b=29),w||(l.any λb=>decide (aq cd b=29))||decide (aq cd b=29),decide (aq cd b=27/\0<=out.getD b 0)⟩]
 |w,[]=>by simp[iq]
 |w,c::l=>by simp only[List.cons_append,iq,fq cd out b _ l,List.any_cons,Bool.or_assoc]
theorem fQ(cd:List RI)(out out':List Int):∀(w:Bool) (l:List Nat),(∀b ∈ l,out'.getD b 0=out.getD b 0)->iq cd out' w l=iq cd out w l
 |_,[],_=>rfl
 |w,b::l,h=>by simp only[iq,h b (by simp),fQ cd out out' _ l (λc hc=>h c (by simp[hc]))]
theorem lO(o:List NB)(b:NB):bG (o++[b])=b:=dK o b
structure ru(cd:List RI)(k:Nat)(out:List Int)(opn:List Nat)(nb:List NB):Prop where
 nb:nb=iq cd out false opn
 lt:∀b ∈ opn,b<k/\(aq cd b=27\/aq cd b=29)
 sorted:opn.Pairwise (· < ·)
 back:∀b ∈ opn,0<=out.getD b 0->b<(out.getD b 0).toNat/\(out.getD b 0).toNat<k
 len:out.length=cd.length
 deep:opn.length<=8
theorem cB{α:Type}(l:List α)(i j:Nat)(v d:α):(l.set i v).getD j d=if i=j/\i<l.length then v else l.getD j d:=by
 simp only[List.getD_eq_getElem?_getD,List.getElem?_set]
 by_cases h:i=j
 ·subst h
  by_cases h2:i<l.length
  ·simp[h2]
  ·simp[h2]
 ·simp[h]
theorem i5{α:Type}(l:List α)(h:l.length≠0)(d:α):∃l',l=l'++[l.getLastD d]:=by
 have hne:l≠[]:=λe=>h (by simp[e])
 refine⟨l.dropLast,?_⟩
 rw[List.getLastD_eq_getLast?,List.getLast?_eq_some_getLast hne,Option.getD_some,List.dropLast_concat_getLast hne]
theorem uV(cd:List RI)(out:List Int)(opn:List Nat):(bG (iq cd out false opn)).within=opn.any λb=>decide (aq cd b=29):=by
 by_cases h:opn.length=0
 ·have:opn=[]:=List.eq_nil_of_length_eq_zero h
  subst this
  rfl
 ·obtain⟨l,hl⟩:=i5 opn h 0
  rw[hl,fq,lO,List.any_append]
  simp
theorem lK{cd:List RI}{k:Nat}{out:List Int}{opn:List Nat}{nb:List NB}(h:ru cd k out opn nb)(hk:k<cd.length):
  (cJ cd k out opn=none/\aD (aq cd k) nb=none)\/∃o p nb',cJ cd k out opn=some (o,p)/\aD (aq cd k) nb=some nb'/\ru cd (k+1) o p nb':=by
 obtain⟨hnb,hlt,hso,hba,hle,hdp⟩:=h
 have hlen:nb.length=opn.length:=by rw[hnb,gA]
 have keep:∀b ∈ opn,(out.set k (-1)).getD b 0=out.getD b 0:=λb hb=>by
  rw[cB,if_neg]
  have:=(hlt b hb).1
  omega
 have hnb1:nb=iq cd (out.set k (-1)) false opn:=by rw[hnb];exact(fQ _ _ _ _ _ keep).symm
 have hlt1:∀b ∈ opn,b<k+1/\(aq cd b=27\/aq cd b=29):=λb hb=>⟨by have:=(hlt b hb).1;omega,(hlt b hb).2⟩
 have hba1:∀b ∈ opn,0<=(out.set k (-1)).getD b 0->b<((out.set k (-1)).getD b 0).toNat/\((out.set k (-1)).getD b 0).toNat<k+1:=λb hb=>by
  rw[keep b hb];intro h0;have:=hba b hb h0;omega
 have hnew:(out.set k (-1)).getD k 0= -1:=by rw[cB,if_pos ⟨rfl,by omega⟩]
 have hwi:(bG nb).within=opn.any λb=>decide (aq cd b=29):=by rw[hnb];exact uV _ _ _
 have hle1:(out.set k (-1)).length=cd.length:=by simpa using hle
 have push:∀x:Int,aq cd k=x->(x=27\/x=29)->¬opn.length=8->ru cd (k+1) (out.set k (-1)) (opn++[k]) (nb++[⟨decide (x=29),(bG nb).within||decide (x=29),false⟩]):=by
  intro x hx hx2 h8
  refine⟨?_,?_,?_,?_,hle1,by simp;omega⟩
  ·rw[fq,<-hnb1,hx,hnew,hwi]
   simp
  ·intro b hb
   rcases List.mem_append.1 hb with hb|hb
   ·exact hlt1 b hb
   ·have:b=k:=by simpa using hb
    subst this
    exact⟨by omega,by rw[hx];exact hx2⟩
  ·rw[List.pairwise_append]
   exact⟨hso,by simp,λa ha b hb=>by have:b=k:=by simpa using hb
                                    rw[this];exact(hlt a ha).1⟩
  ·intro b hb
   rcases List.mem_append.1 hb with hb|hb
   ·exact hba1 b hb
   ·have:b=k:=by simpa using hb
    subst this
    rw[hnew]
    intro h0
    exact absurd h0 (by decide)
 have same:ru cd (k+1) (out.set k (-1)) opn nb:=⟨hnb1,hlt1,hso,hba1,hle1,hdp⟩
 unfold cJ aD
 dsimp only
 by_cases o27:aq cd k=27
 ·rw[if_pos (.inl o27),if_pos o27]
  by_cases h8:opn.length=8
  ·left
   rw[if_pos h8,if_neg (by omega)]
   exact⟨rfl,rfl⟩
  ·right
   rw[if_neg h8,if_pos (by omega)]
   have:=push 27 o27 (.inl rfl) h8
   exact⟨_,_,_,rfl,rfl,by simpa using this⟩
 rw[if_neg o27]
 by_cases o29:aq cd k=29
 ·rw[if_pos (.inr o29),if_pos o29]
  by_cases h8:opn.length=8
  ·left
   rw[if_pos h8,if_neg (by omega)]
   exact⟨rfl,rfl⟩
  ·right
   rw[if_neg h8,if_pos (by omega)]
   have:=push 29 o29 (.inr rfl) h8
   exact⟨_,_,_,rfl,rfl,by simpa using this⟩
 rw[if_neg o29,if_neg (by rintro (h|h)<;>contradiction)]
 by_cases h0:opn.length=0
 ·
  have hnil:opn=[]:=List.eq_nil_of_length_eq_zero h0
  have hnbn:nb=[]:=List.eq_nil_of_length_eq_zero (by omega)
  by_cases o28:aq cd k=28
  ·rw[if_pos o28,if_pos o28,if_pos (.inl h0),if_neg (by simp[hnbn])]
   exact .inl ⟨rfl,rfl⟩
  rw[if_neg o28,if_neg o28]
  by_cases o30:aq cd k=30
  ·rw[if_neg (by rw[o30];decide),if_pos o30,if_pos o30,if_neg (by simp[hnil]),if_neg (by simp[hnbn,bG])]
   exact .inl ⟨rfl,rfl⟩
  by_cases o31:aq cd k=31
  ·rw[if_pos o31,if_pos h0,if_neg o30,if_pos o31,if_neg (by simp[hnbn])]
   exact .inl ⟨rfl,rfl⟩
  ·rw[if_neg o31,if_neg o30,if_neg o30,if_neg o31]
   exact .inr ⟨_,_,_,rfl,rfl,same⟩
 obtain⟨l,hl⟩:=i5 opn h0 0
 obtain⟨b,hb⟩:∃b,opn.getLastD 0=b:=⟨_,rfl⟩
 rw[hb] at hl ⊢
 have hbm:b ∈ opn:=by rw[hl];simp
 have hbl:=hlt b hbm
 have hnbl:nb=iq cd (out.set k (-1)) false l++[⟨decide (aq cd b=29),(l.any λb=>decide (aq cd b=29))||decide (aq cd b=29),decide (aq cd b=27/\0<=(out.set k (-1)).getD b 0)⟩]:=by
  rw[hnb1,hl,fq];simp
 have htop:bG nb=⟨decide (aq cd b=29),(l.any λb=>decide (aq cd b=29))||decide (aq cd b=29),decide (aq cd b=27/\0<=(out.set k (-1)).getD b 0)⟩:=by rw[hnbl,lO]
 have hne:nb≠[]:=by rw[hnbl];simp
 have hnot:∀c ∈ l,c≠b:=λc hc e=>by
  rw[hl,List.pairwise_append] at hso
  have:=hso.2.2 c hc b (by simp)
  omega
 have hcb:∀c ∈ l,c<b:=λc hc=>by
  rw[hl,List.pairwise_append] at hso
  exact hso.2.2 c hc b (by simp)
 have hml:∀c ∈ l,c ∈ opn:=λc hc=>by rw[hl];simp[hc]
 have hsl:l.Pairwise (· < ·):=by rw[hl,List.pairwise_append] at hso;exact hso.1
 have hbc:b<(out.set k (-1)).length:=by rw[hle1];omega
 by_cases o28:aq cd k=28
 ·rw[if_pos o28,if_pos o28]
  by_cases hbad:aq cd b≠27\/0<=(out.set k (-1)).getD b 0
  ·left
   rw[if_pos (.inr hbad),if_neg]
   ·exact⟨rfl,rfl⟩
   ·rintro ⟨_,g1,g2⟩
    rw[htop] at g1 g2
    simp only[decide_eq_false_iff_not] at g1 g2
    rcases hbl.2 with g|g
    ·rcases hbad with hb1|hb1
     ·exact hb1 g
     ·exact g2 ⟨g,hb1⟩
    ·exact g1 g
  ·right
   have hb27:aq cd b=27:=Classical.byContradiction λg=>hbad (.inl g)
   have hbn:¬0<=(out.set k (-1)).getD b 0:=λg=>hbad (.inr g)
   rw[if_neg (by rintro (g|g);exact h0 g;exact hbad g),if_pos ⟨hne,by rw[htop];simp[hb27],by rw[htop];simp only[decide_eq_false_iff_not];exact λg=>hbn g.2⟩]
   refine⟨_,_,_,rfl,rfl,?_,hlt1,hso,?_,by simpa using hle1,hdp⟩
   ·have hd:nb.dropLast=iq cd (out.set k (-1)) false l:=by rw[hnbl];simp
    rw[hd,htop]
    conv=>rhs;rw[hl]
    rw[fq,fQ cd (out.set k (-1)) ((out.set k (-1)).set b (k:Int)) false l (λc hc=>by rw[cB,if_neg];rintro ⟨e,_⟩;exact hnot c hc e.symm)]
    have:((out.set k (-1)).set b (k:Int)).getD b 0=k:=by rw[cB,if_pos ⟨rfl,hbc⟩]
    rw[this]
    simp[hb27]
   ·intro c hc
    rw[cB]
    split
    ·rename_i hcc
     intro _
     have:=hbl.1
     simp
     omega
    ·exact hba1 c hc
 rw[if_neg o28,if_neg o28]
 by_cases o30:aq cd k=30
 ·rw[if_neg (by rw[o30];decide),if_pos o30,if_pos o30,hwi]
  cases ha:opn.any λb=>decide (aq cd b=29) with
  |true=>exact .inr ⟨_,_,_,rfl,rfl,same⟩
  |false=>exact .inl ⟨rfl,rfl⟩
 rw[if_neg o30,if_neg o30]
 by_cases o31:aq cd k=31
 ·right
  rw[if_pos o31,if_neg h0,if_pos o31,if_pos hne]
  have hdl:opn.dropLast=l:=by rw[hl];simp
  refine⟨_,_,_,rfl,rfl,?_,?_,?_,?_,?_,?_⟩
  ·rw[hdl]
   have hd:nb.dropLast=iq cd (out.set k (-1)) false l:=by rw[hnbl];simp
   rw[hd]
   refine(fQ cd _ _ false l λc hc=>?_).symm
   have hck:c<k:=(hlt c (hml c hc)).1
   rw[cB,if_neg (by omega)]
   split
   ·rename_i hg
    rw[cB,if_neg]
    rintro ⟨e,_⟩
    have h1:=(hba1 b hbm hg.2).1
    have h2:=hcb c hc
    omega
   ·rw[cB,if_neg]
    rintro ⟨e,_⟩
    exact hnot c hc e.symm
  ·rw[hdl];exact λc hc=>hlt1 c (hml c hc)
  ·rw[hdl];exact hsl
  ·rw[hdl]
   intro c hc
   have hck:c<k:=(hlt c (hml c hc)).1
   rw[cB,if_neg (by omega)]
   have hsame:(if aq cd b=27/\0<=(out.set k (-1)).getD b 0 then(out.set k (-1)).set ((out.set k (-1)).getD b 0).toNat (k:Int) else(out.set k (-1)).set b (k:Int)).getD c 0=(out.set k (-1)).getD c 0:=by
    split
    ·rename_i hg
     rw[cB,if_neg]
     rintro ⟨e,_⟩
     have h1:=(hba1 b hbm hg.2).1
     have h2:=hcb c hc
     omega
    ·rw[cB,if_neg]
     rintro ⟨e,_⟩
     exact hnot c hc e.symm
   rw[hsame]
   exact hba1 c (hml c hc)
  ·split<;>simpa using hle1
  ·rw[hdl]
   have:=congrArg List.length hl
   simp at this
   omega
 ·rw[if_neg o31,if_neg o31]
  exact .inr ⟨_,_,_,rfl,rfl,same⟩
theorem jR{cd:List RI}:∀(n k:Nat) (out:List Int) (opn:List Nat) (nb:List NB),ru cd k out opn nb->k+n=cd.length->
  (aX (cd.drop k) k nb).2=match cT cd n k out opn with| .error _=>true| .ok (_,p)=>decide (0<p.length)
 |0,k,out,opn,nb,h,hk=>by
  have:cd.drop k=[]:=List.drop_eq_nil_of_le (by omega)
  rw[this]
  simp only[aX,cT]
  rw[h.nb,gA]
 |n+1,k,out,opn,nb,h,hk=>by
  have hkl:k<cd.length:=by omega
  have hop:aq cd k=cd[k].op:=by simp[aq,List.getD_eq_getElem?_getD,List.getElem?_eq_getElem hkl]
  rw[List.drop_eq_getElem_cons hkl]
  simp only[aX,cT]
  rw[<-hop]
  rcases lK h hkl with⟨h1,h2⟩|⟨o,p,nb',h1,h2,h3⟩
  ·rw[h1,h2]
  ·rw[h1,h2]
   exact jR n (k+1) o p nb' h3 (by omega)
theorem jS(cd:List RI):ru cd 0 (List.replicate cd.length 0) [] []:=⟨rfl,λ_ h=>(by cases h),.nil,λ_ h=>(by cases h),by simp,by simp⟩
def T.rp:T->Nat->List Int
 |.nil,_=>[]
 |.plain i r,k=> -1::r.rp (k+1)
 |.ite i a j r,k=>((k+a.size+1:Nat):Int)::(a.rp (k+1)++(k:Int)::r.rp (k+a.size+2))
 |.ite2 i a x b j r,k=>((k+a.size+1:Nat):Int)::(a.rp (k+1)++((k+a.size+b.size+2:Nat):Int)::(b.rp (k+a.size+2)++(k:Int)::r.rp (k+a.size+b.size+3)))
 |.loop i a j r,k=>((k+a.size+1:Nat):Int)::(a.rp (k+1)++(k:Int)::r.rp (k+a.size+2))
theorem T.rp_length:∀(t:T) (k:Nat),(t.rp k).length=t.size
 |.nil,_=>rfl
 |.plain i r,k=>by simp only[rp,size,List.length_cons,r.rp_length]
 |.ite i a j r,k=>by simp only[rp,size,List.length_cons,List.length_append,a.rp_length,r.rp_length];omega
 |.ite2 i a x b j r,k=>by simp only[rp,size,List.length_cons,List.length_append,a.rp_length,b.rp_length,r.rp_length];omega
 |.loop i a j r,k=>by simp only[rp,size,List.length_cons,List.length_append,a.rp_length,r.rp_length];omega
theorem co{α:Type}(A:List α)(x:α)(B:List α)(d:α){k:Nat}(hk:A.length=k):(A++x::B).getD k d=x:=by
 subst hk
 simp[List.getD_eq_getElem?_getD]
theorem cR(cd:List RI):∀(t:T) (w:Bool) (d k:Nat) (A:List Int) (m m':Nat) (opn:List Nat),gb cd k t.flat->t.wf w d->A.length=k->(w=true->(opn.any λb=>decide (aq cd b=29))=true)->opn.length+d<=8->
  cT cd (t.size+m') k (A++List.replicate (t.size+m) 0) opn=cT cd m' (k+t.size) (A++(t.rp k++List.replicate m 0)) opn
 |.nil,w,d,k,A,m,m',opn,hc,hw,hA,hl,hd=>by simp[T.size,T.rp]
 |.plain i r,w,d,k,A,m,m',opn,hc,hw,hA,hl,hd=>by
  obtain⟨⟨h1,h2,h3,h4⟩,h5,hr⟩:=hw
  have hi:aq cd k=i.op:=by show(cd.getD k default).op=_;rw[hc.head]
  have hset:(A++List.replicate (r.size+1+m) (0:Int)).set k (-1)=A++[-1]++List.replicate (r.size+m) 0:=by
   rw[show r.size+1+m=(r.size+m)+1 by omega,List.replicate_succ,br _ _ _ _ hA];simp
  simp only[T.size]
  rw[show r.size+1+m'=(r.size+m')+1 by omega,cT]
  have hs:cJ cd k (A++List.replicate (r.size+1+m) 0) opn=some (A++[-1]++List.replicate (r.size+m) 0,opn):=by
   unfold cJ
   rw[hset,hi]
   rw[if_neg (by rintro (h|h)<;>contradiction),if_neg h2,if_neg h4]
   by_cases h30:i.op=30
   ·rw[if_pos h30,if_pos (hl (h5 h30))]
   ·rw[if_neg h30]
  rw[hs]
  simp only
  rw[cR cd r w d (k+1) (A++[-1]) m m' opn hc.tail hr (by simp[hA]) hl hd,show k+1+r.size=k+(r.size+1) by omega]
  simp[T.rp]
 |.ite i a j r,w,d,k,A,m,m',opn,hc,hw,hA,hl,hd=>by
  obtain⟨h1,h2,h3,ha,hr⟩:=hw
  simp only[T.flat] at hc
  have hi:aq cd k=27:=by show(cd.getD k default).op=_;rw[hc.head,h1]
  have hcj:=hc.tail.right
  rw[a.flat_length] at hcj
  have hj:aq cd (k+1+a.size)=31:=by show(cd.getD (k+1+a.size) default).op=_;rw[hcj.head,h2]
  simp only[T.size]
  rw[show a.size+r.size+2+m'=(a.size+(r.size+m'+1))+1 by omega,cT]
  have hs:cJ cd k (A++List.replicate (a.size+r.size+2+m) 0) opn=some ((A++[-1])++List.replicate (a.size+(r.size+m+1)) 0,opn++[k]):=by
   unfold cJ
   rw[hi,if_pos (.inl rfl),if_neg (by omega),show a.size+r.size+2+m=(a.size+(r.size+m+1))+1 by omega,List.replicate_succ,br _ _ _ _ hA]
   simp
  rw[hs]
  simp only
  rw[cR cd a w (d-1) (k+1) (A++[-1]) (r.size+m+1) (r.size+m'+1) (opn++[k]) hc.tail.left ha (by simp[hA]) (λh=>by rw[List.any_append,hl h];rfl) (by simp;omega),cT]
  have hal:=a.rp_length (k+1)
  have hs2:cJ cd (k+1+a.size) (A++[-1]++(a.rp (k+1)++List.replicate (r.size+m+1) 0)) (opn++[k])=
    some (A++(((k+a.size+1:Nat):Int)::(a.rp (k+1)++[(k:Int)]))++List.replicate (r.size+m) 0,opn):=by
   unfold cJ
   have e1:(A++[-1]++(a.rp (k+1)++List.replicate (r.size+m+1) (0:Int))).set (k+1+a.size) (-1)=A++(-1:Int)::(a.rp (k+1)++ -1::List.replicate (r.size+m) 0):=by
    rw[List.replicate_succ,<-List.append_assoc,br _ _ _ _ (by simp[hA,hal];omega)];simp
   have e2:(A++(-1:Int)::(a.rp (k+1)++ -1::List.replicate (r.size+m) 0)).getD k 0= -1:=co _ _ _ _ hA
   have e3:(opn++[k]).getLastD 0=k:=by simp
   dsimp only
   rw[hj,e1,e3,e2,if_neg (by decide),if_neg (by decide),if_pos rfl,if_neg (by simp),if_neg (by rintro ⟨_,h⟩;exact absurd h (by decide)),br _ _ _ _ hA]
   have e4:(A++((k+1+a.size:Nat):Int)::(a.rp (k+1)++ -1::List.replicate (r.size+m) (0:Int))).set (k+1+a.size) (k:Int)=A++((k+1+a.size:Nat):Int)::(a.rp (k+1)++(k:Int)::List.replicate (r.size+m) 0):=by
    have:=br (A++((k+1+a.size:Nat):Int)::a.rp (k+1)) (-1) (k:Int) (List.replicate (r.size+m) (0:Int)) (k:=k+1+a.size) (by simp[hA,hal];omega)
    simpa using this
   rw[e4,List.dropLast_concat,show k+1+a.size=k+a.size+1 by omega]
   simp
  rw[hs2]
  simp only
  rw[cR cd r w d (k+1+a.size+1) (A++(((k+a.size+1:Nat):Int)::(a.rp (k+1)++[(k:Int)]))) m m' opn hcj.tail hr (by simp[hA,hal];omega) hl hd]
  rw[show k+1+a.size+1=k+a.size+2 by omega,show k+a.size+2+r.size=k+(a.size+r.size+2) by omega]
  simp[T.rp]
 |.loop i a j r,w,d,k,A,m,m',opn,hc,hw,hA,hl,hd=>by
  obtain⟨h1,h2,h3,ha,hr⟩:=hw
  simp only[T.flat] at hc
  have hi:aq cd k=29:=by show(cd.getD k default).op=_;rw[hc.head,h1]
  have hcj:=hc.tail.right
  rw[a.flat_length] at hcj
  have hj:aq cd (k+1+a.size)=31:=by show(cd.getD (k+1+a.size) default).op=_;rw[hcj.head,h2]
  simp only[T.size]
  rw[show a.size+r.size+2+m'=(a.size+(r.size+m'+1))+1 by omega,cT]
  have hs:cJ cd k (A++List.replicate (a.size+r.size+2+m) 0) opn=some ((A++[-1])++List.replicate (a.size+(r.size+m+1)) 0,opn++[k]):=by
   unfold cJ
   rw[hi,if_pos (.inr rfl),if_neg (by omega),show a.size+r.size+2+m=(a.size+(r.size+m+1))+1 by omega,List.replicate_succ,br _ _ _ _ hA]
   simp
  rw[hs]
  simp only
  rw[cR cd a true (d-1) (k+1) (A++[-1]) (r.size+m+1) (r.size+m'+1) (opn++[k]) hc.tail.left ha (by simp[hA]) (λh=>by rw[List.any_append];simp[hi]) (by simp;omega),cT]
  have hal:=a.rp_length (k+1)
  have hs2:cJ cd (k+1+a.size) (A++[-1]++(a.rp (k+1)++List.replicate (r.size+m+1) 0)) (opn++[k])=
    some (A++(((k+a.size+1:Nat):Int)::(a.rp (k+1)++[(k:Int)]))++List.replicate (r.size+m) 0,opn):=by
   unfold cJ
   have e1:(A++[-1]++(a.rp (k+1)++List.replicate (r.size+m+1) (0:Int))).set (k+1+a.size) (-1)=A++(-1:Int)::(a.rp (k+1)++ -1::List.replicate (r.size+m) 0):=by
    rw[List.replicate_succ,<-List.append_assoc,br _ _ _ _ (by simp[hA,hal];omega)];simp
   have e2:(A++(-1:Int)::(a.rp (k+1)++ -1::List.replicate (r.size+m) 0)).getD k 0= -1:=co _ _ _ _ hA
   have e3:(opn++[k]).getLastD 0=k:=by simp
   dsimp only
   rw[hj,e1,e3,e2,if_neg (by decide),if_neg (by decide),if_pos rfl,if_neg (by simp),if_neg (by rintro ⟨_,h⟩;exact absurd h (by decide)),br _ _ _ _ hA]
   have e4:(A++((k+1+a.size:Nat):Int)::(a.rp (k+1)++ -1::List.replicate (r.size+m) (0:Int))).set (k+1+a.size) (k:Int)=A++((k+1+a.size:Nat):Int)::(a.rp (k+1)++(k:Int)::List.replicate (r.size+m) 0):=by
    have:=br (A++((k+1+a.size:Nat):Int)::a.rp (k+1)) (-1) (k:Int) (List.replicate (r.size+m) (0:Int)) (k:=k+1+a.size) (by simp[hA,hal];omega)
    simpa using this
   rw[e4,List.dropLast_concat,show k+1+a.size=k+a.size+1 by omega]
   simp
  rw[hs2]
  simp only
  rw[cR cd r w d (k+1+a.size+1) (A++(((k+a.size+1:Nat):Int)::(a.rp (k+1)++[(k:Int)]))) m m' opn hcj.tail hr (by simp[hA,hal];omega) hl hd]
  rw[show k+1+a.size+1=k+a.size+2 by omega,show k+a.size+2+r.size=k+(a.size+r.size+2) by omega]
  simp[T.rp]
 |.ite2 i a x b j r,w,d,k,A,m,m',opn,hc,hw,hA,hl,hd=>by
  obtain⟨h1,hx,h2,h3,ha,hb,hr⟩:=hw
  simp only[T.flat] at hc
  have hi:aq cd k=27:=by show(cd.getD k default).op=_;rw[hc.head,h1]
  have hcx:=hc.tail.right
  rw[a.flat_length] at hcx
  have hxo:aq cd (k+1+a.size)=28:=by show(cd.getD (k+1+a.size) default).op=_;rw[hcx.head,hx]
  have hcj:=hcx.tail.right
  rw[b.flat_length] at hcj
  have hj:aq cd (k+1+a.size+1+b.size)=31:=by show(cd.getD (k+1+a.size+1+b.size) default).op=_;rw[hcj.head,h2]
  have hal:=a.rp_length (k+1)
  have hbl:=b.rp_length (k+1+a.size+1)
  simp only[T.size]
  rw[show a.size+b.size+r.size+3+m'=(a.size+(b.size+(r.size+m'+1)+1))+1 by omega,cT]
  have hs:cJ cd k (A++List.replicate (a.size+b.size+r.size+3+m) 0) opn=some ((A++[-1])++List.replicate (a.size+(b.size+(r.size+m+1)+1)) 0,opn++[k]):=by
   unfold cJ
   rw[hi,if_pos (.inl rfl),if_neg (by omega),show a.size+b.size+r.size+3+m=(a.size+(b.size+(r.size+m+1)+1))+1 by omega,List.replicate_succ,br _ _ _ _ hA]
   simp
  rw[hs]
  simp only
  rw[cR cd a w (d-1) (k+1) (A++[-1]) (b.size+(r.size+m+1)+1) (b.size+(r.size+m'+1)+1) (opn++[k]) hc.tail.left ha (by simp[hA]) (λh=>by rw[List.any_append,hl h];rfl) (by simp;omega),cT]
  have e3:(opn++[k]).getLastD 0=k:=by simp
  have hs2:cJ cd (k+1+a.size) (A++[-1]++(a.rp (k+1)++List.replicate (b.size+(r.size+m+1)+1) 0)) (opn++[k])=
    some (A++(((k+1+a.size:Nat):Int)::(a.rp (k+1)++[(-1:Int)]))++List.replicate (b.size+(r.size+m+1)) 0,opn++[k]):=by
   unfold cJ
   have e1:(A++[-1]++(a.rp (k+1)++List.replicate (b.size+(r.size+m+1)+1) (0:Int))).set (k+1+a.size) (-1)=A++(-1:Int)::(a.rp (k+1)++ -1::List.replicate (b.size+(r.size+m+1)) 0):=by
    rw[List.replicate_succ,<-List.append_assoc,br _ _ _ _ (by simp[hA,hal];omega)];simp
   have e2:(A++(-1:Int)::(a.rp (k+1)++ -1::List.replicate (b.size+(r.size+m+1)) 0)).getD k 0= -1:=co _ _ _ _ hA
   dsimp only
   rw[hxo,e1,e3,e2,hi,if_neg (by decide),if_pos rfl,if_neg (by simp),br _ _ _ _ hA]
   simp
  rw[hs2]
  simp only
  rw[cR cd b w (d-1) (k+1+a.size+1) (A++(((k+1+a.size:Nat):Int)::(a.rp (k+1)++[(-1:Int)]))) (r.size+m+1) (r.size+m'+1) (opn++[k]) hcx.tail.left hb (by simp[hA,hal];omega) (λh=>by rw[List.any_append,hl h];rfl) (by simp;omega),cT]
  have hs3:cJ cd (k+1+a.size+1+b.size) (A++(((k+1+a.size:Nat):Int)::(a.rp (k+1)++[(-1:Int)]))++(b.rp (k+1+a.size+1)++List.replicate (r.size+m+1) 0)) (opn++[k])=
    some (A++(((k+1+a.size:Nat):Int)::(a.rp (k+1)++(((k+1+a.size+1+b.size:Nat):Int)::(b.rp (k+1+a.size+1)++[(k:Int)]))))++List.replicate (r.size+m) 0,opn):=by
   unfold cJ
   have e1:(A++(((k+1+a.size:Nat):Int)::(a.rp (k+1)++[(-1:Int)]))++(b.rp (k+1+a.size+1)++List.replicate (r.size+m+1) 0)).set (k+1+a.size+1+b.size) (-1)=
     A++((k+1+a.size:Nat):Int)::(a.rp (k+1)++ -1::(b.rp (k+1+a.size+1)++ -1::List.replicate (r.size+m) 0)):=by
    rw[List.replicate_succ,<-List.append_assoc,br _ _ _ _ (by simp[hA,hal,hbl];omega)];simp
   have e2:(A++((k+1+a.size:Nat):Int)::(a.rp (k+1)++ -1::(b.rp (k+1+a.size+1)++ -1::List.replicate (r.size+m) 0))).getD k 0=((k+1+a.size:Nat):Int):=co _ _ _ _ hA
   have e4:(A++((k+1+a.size:Nat):Int)::(a.rp (k+1)++ -1::(b.rp (k+1+a.size+1)++ -1::List.replicate (r.size+m) (0:Int)))).set (k+1+a.size) ((k+1+a.size+1+b.size:Nat):Int)=
     A++((k+1+a.size:Nat):Int)::(a.rp (k+1)++((k+1+a.size+1+b.size:Nat):Int)::(b.rp (k+1+a.size+1)++ -1::List.replicate (r.size+m) 0)):=by
    have:=br (A++((k+1+a.size:Nat):Int)::a.rp (k+1)) (-1) ((k+1+a.size+1+b.size:Nat):Int) (b.rp (k+1+a.size+1)++ -1::List.replicate (r.size+m) (0:Int)) (k:=k+1+a.size) (by simp[hA,hal];omega)
    simpa using this
   have e5:(A++((k+1+a.size:Nat):Int)::(a.rp (k+1)++((k+1+a.size+1+b.size:Nat):Int)::(b.rp (k+1+a.size+1)++ -1::List.replicate (r.size+m) (0:Int)))).set (k+1+a.size+1+b.size) (k:Int)=
     A++((k+1+a.size:Nat):Int)::(a.rp (k+1)++((k+1+a.size+1+b.size:Nat):Int)::(b.rp (k+1+a.size+1)++(k:Int)::List.replicate (r.size+m) 0)):=by
    have:=br (A++((k+1+a.size:Nat):Int)::(a.rp (k+1)++((k+1+a.size+1+b.size:Nat):Int)::b.rp (k+1+a.size+1))) (-1) (k:Int) (List.replicate (r.size+m) (0:Int)) (k:=k+1+a.size+1+b.size) (by simp[hA,hal,hbl];omega)
    simpa using this
   dsimp only
   rw[hj,e1,e3,e2,hi,if_neg (by decide),if_neg (by decide),if_pos rfl,if_neg (by simp),if_pos ⟨rfl,by omega⟩,Int.toNat_natCast,e4,e5,List.dropLast_concat]
   simp
  rw[hs3]
  simp only
  rw[cR cd r w d (k+1+a.size+1+b.size+1) (A++(((k+1+a.size:Nat):Int)::(a.rp (k+1)++(((k+1+a.size+1+b.size:Nat):Int)::(b.rp (k+1+a.size+1)++[(k:Int)]))))) m m' opn hcj.tail hr (by simp[hA,hal,hbl];omega) hl hd]
  simp only[T.rp]
  rw[show k+a.size+1=k+1+a.size by omega,show k+a.size+b.size+2=k+1+a.size+1+b.size by omega,show k+a.size+2=k+1+a.size+1 by omega,show k+a.size+b.size+3=k+1+a.size+1+b.size+1 by omega,show k+(a.size+b.size+r.size+3)=k+1+a.size+1+b.size+1+r.size by omega]
  simp
theorem nD(t:T)(hw:t.wf false 8):cT t.flat t.flat.length 0 (List.replicate t.flat.length 0) []= .ok (t.rp 0,[]):=by
 have h:=cR t.flat t false 8 0 [] 0 0 [] (λj hj=>by simp) hw rfl (λh=>by cases h) (by simp)
 rw[t.flat_length]
 simpa [cT] using h
def cY(cd:List RI)(i:Nat)(out:List Int)(opn:List Nat):Option (List Int×List Nat):=
 if aq cd i=29 then some (out,opn++[i])
 else if aq cd i=31 then(if 0<=out.getD i 0/\(out.getD i 0).toNat<cd.length then(if aq cd (out.getD i 0).toNat=29 then(if opn.length=0 then none else some (out,opn.dropLast)) else some (out,opn)) else none)
 else if aq cd i=30 then(if opn.length≠0/\opn.getLastD 0<cd.length then some (out.set i (out.getD (opn.getLastD 0) 0),opn) else none)
 else some (out,opn)
def eE(cd:List RI):Nat->Nat->List Int->List Nat->Option (List Int×List Nat)
 |0,_,out,opn=>some (out,opn)
 |n+1,k,out,opn=>(cY cd k out opn).bind λr=>eE cd n (k+1) r.1 r.2
def T.rq:T->Nat->Int->List Int
 |.nil,_,_=>[]
 |.plain i r,k,e=>(if i.op=30 then e else-1)::r.rq (k+1) e
 |.ite i a j r,k,e=>((k+a.size+1:Nat):Int)::(a.rq (k+1) e++(k:Int)::r.rq (k+a.size+2) e)
 |.ite2 i a x b j r,k,e=>((k+a.size+1:Nat):Int)::(a.rq (k+1) e++((k+a.size+b.size+2:Nat):Int)::(b.rq (k+a.size+2) e++(k:Int)::r.rq (k+a.size+b.size+3) e))
 |.loop i a j r,k,e=>((k+a.size+1:Nat):Int)::(a.rq (k+1) ((k+a.size+1:Nat):Int)++(k:Int)::r.rq (k+a.size+2) e)
theorem T.rq_length:∀(t:T) (k:Nat) (e:Int),(t.rq k e).length=t.size
 |.nil,_,_=>rfl
 |.plain i r,k,e=>by simp only[rq,size,List.length_cons,r.rq_length]
 |.ite i a j r,k,e=>by simp only[rq,size,List.length_cons,List.length_append,a.rq_length,r.rq_length];omega
 |.ite2 i a x b j r,k,e=>by simp only[rq,size,List.length_cons,List.length_append,a.rq_length,b.rq_length,r.rq_length];omega
 |.loop i a j r,k,e=>by simp only[rq,size,List.length_cons,List.length_append,a.rq_length,r.rq_length];omega
def B5(A:List Int)(opn:List Nat)(e:Int):Prop:=opn.length≠0/\opn.getLastD 0<A.length/\A.getD (opn.getLastD 0) 0=e
theorem B5.app{A:List Int}{opn:List Nat}{e:Int}(h:B5 A opn e)(B:List Int):B5 (A++B) opn e:=
 ⟨h.1,by simp only[List.length_append];have:=h.2.1;omega,by rw[List.getD_eq_getElem?_getD,List.getElem?_append_left h.2.1,<-List.getD_eq_getElem?_getD];exact h.2.2⟩
theorem cU(cd:List RI):∀(t:T) (w:Bool) (d k:Nat) (A B:List Int) (m':Nat) (opn:List Nat) (e:Int),gb cd k t.flat->t.wf w d->A.length=k->k+t.size<=cd.length->(w=true->B5 A opn e)->
  eE cd (t.size+m') k (A++(t.rp k++B)) opn=eE cd m' (k+t.size) (A++(t.rq k e++B)) opn
 |.nil,w,d,k,A,B,m',opn,e,hc,hw,hA,hk,hl=>by simp[T.size,T.rp,T.rq]
 |.plain i r,w,d,k,A,B,m',opn,e,hc,hw,hA,hk,hl=>by
  obtain⟨⟨h1,h2,h3,h4⟩,h5,hr⟩:=hw
  have hi:aq cd k=i.op:=by show(cd.getD k default).op=_;rw[hc.head]
  simp only[T.size] at hk ⊢
  rw[show r.size+1+m'=(r.size+m')+1 by omega,eE]
  have hs:cY cd k (A++((T.plain i r).rp k++B)) opn=some ((A++[if i.op=30 then e else-1])++(r.rp (k+1)++B),opn):=by
   unfold cY
   rw[hi,if_neg h3,if_neg h4]
   simp only[T.rp]
   by_cases h30:i.op=30
   ·obtain⟨g1,g2,g3⟩:=hl (h5 h30)
    have hg:(A++(-1::r.rp (k+1)++B)).getD (opn.getLastD 0) 0=e:=by
     rw[List.getD_eq_getElem?_getD,List.getElem?_append_left g2,<-List.getD_eq_getElem?_getD];exact g3
    rw[if_pos h30,if_pos ⟨g1,by omega⟩,hg,List.cons_append,br _ _ _ _ hA,if_pos h30]
    simp
   ·rw[if_neg h30,if_neg h30]
    simp
  rw[hs]
  simp only[Option.bind_some]
  rw[cU cd r w d (k+1) (A++[if i.op=30 then e else-1]) B m' opn e hc.tail hr (by simp[hA]) (by omega) (λh=>(hl h).app _),show k+1+r.size=k+(r.size+1) by omega]
  simp[T.rq]
 |.ite i a j r,w,d,k,A,B,m',opn,e,hc,hw,hA,hk,hl=>by
  obtain⟨h1,h2,h3,ha,hr⟩:=hw
  simp only[T.flat] at hc
  have hi:aq cd k=27:=by show(cd.getD k default).op=_;rw[hc.head,h1]
  have hcj:=hc.tail.right
  rw[a.flat_length] at hcj
  have hj:aq cd (k+1+a.size)=31:=by show(cd.getD (k+1+a.size) default).op=_;rw[hcj.head,h2]
  have hal:=a.rq_length (k+1) e
  simp only[T.size] at hk ⊢
  rw[show a.size+r.size+2+m'=(a.size+(r.size+m'+1))+1 by omega,eE]
  have hs:cY cd k (A++((T.ite i a j r).rp k++B)) opn=some ((A++[((k+a.size+1:Nat):Int)])++(a.rp (k+1)++((k:Int)::(r.rp (k+a.size+2)++B))),opn):=by
   unfold cY
   rw[hi,if_neg (by decide),if_neg (by decide),if_neg (by decide)]
   simp[T.rp]
  rw[hs]
  simp only[Option.bind_some]
  rw[cU cd a w (d-1) (k+1) (A++[((k+a.size+1:Nat):Int)]) ((k:Int)::(r.rp (k+a.size+2)++B)) (r.size+m'+1) opn e hc.tail.left ha (by simp[hA]) (by omega) (λh=>(hl h).app _),eE]
  have hs2:cY cd (k+1+a.size) (A++[((k+a.size+1:Nat):Int)]++(a.rq (k+1) e++((k:Int)::(r.rp (k+a.size+2)++B)))) opn=
    some ((A++(((k+a.size+1:Nat):Int)::(a.rq (k+1) e++[(k:Int)])))++(r.rp (k+a.size+2)++B),opn):=by
   have e1:(A++[((k+a.size+1:Nat):Int)]++(a.rq (k+1) e++((k:Int)::(r.rp (k+a.size+2)++B)))).getD (k+1+a.size) 0=k:=by
    rw[<-List.append_assoc];exact co _ _ _ _ (by simp only[List.length_append,List.length_cons,List.length_nil,hA,hal];try omega)
   unfold cY
   rw[hj,if_neg (by decide),if_pos rfl,e1,if_pos ⟨by omega,by rw[Int.toNat_natCast];omega⟩,Int.toNat_natCast,hi,if_neg (by decide)]
   simp
  rw[hs2]
  simp only[Option.bind_some]
  rw[show k+1+a.size+1=k+a.size+2 by omega]
  rw[cU cd r w d (k+a.size+2) (A++(((k+a.size+1:Nat):Int)::(a.rq (k+1) e++[(k:Int)]))) B m' opn e (by have:=hcj.tail;rw[show k+1+a.size+1=k+a.size+2 by omega] at this;exact this) hr (by simp only[List.length_append,List.length_cons,List.length_nil,hA,hal];omega) (by omega) (λh=>(hl h).app _)]
  rw[show k+a.size+2+r.size=k+(a.size+r.size+2) by omega]
  simp[T.rq]
 |.loop i a j r,w,d,k,A,B,m',opn,e,hc,hw,hA,hk,hl=>by
  obtain⟨h1,h2,h3,ha,hr⟩:=hw
  simp only[T.flat] at hc
  have hi:aq cd k=29:=by show(cd.getD k default).op=_;rw[hc.head,h1]
  have hcj:=hc.tail.right
  rw[a.flat_length] at hcj
  have hj:aq cd (k+1+a.size)=31:=by show(cd.getD (k+1+a.size) default).op=_;rw[hcj.head,h2]
  have hal:=a.rq_length (k+1) ((k+a.size+1:Nat):Int)
  simp only[T.size] at hk ⊢
  rw[show a.size+r.size+2+m'=(a.size+(r.size+m'+1))+1 by omega,eE]
  have hs:cY cd k (A++((T.loop i a j r).rp k++B)) opn=some ((A++[((k+a.size+1:Nat):Int)])++(a.rp (k+1)++((k:Int)::(r.rp (k+a.size+2)++B))),opn++[k]):=by
   unfold cY
   rw[hi,if_pos rfl]
   simp[T.rp]
  rw[hs]
  simp only[Option.bind_some]
  rw[cU cd a true (d-1) (k+1) (A++[((k+a.size+1:Nat):Int)]) ((k:Int)::(r.rp (k+a.size+2)++B)) (r.size+m'+1) (opn++[k]) ((k+a.size+1:Nat):Int) hc.tail.left ha (by simp[hA]) (by omega)
   (λ_=>⟨by simp,by simp[hA],by rw[show(opn++[k]).getLastD 0=k by simp];exact co _ _ _ _ hA⟩),eE]
  have hs2:cY cd (k+1+a.size) (A++[((k+a.size+1:Nat):Int)]++(a.rq (k+1) ((k+a.size+1:Nat):Int)++((k:Int)::(r.rp (k+a.size+2)++B)))) (opn++[k])=
    some ((A++(((k+a.size+1:Nat):Int)::(a.rq (k+1) ((k+a.size+1:Nat):Int)++[(k:Int)])))++(r.rp (k+a.size+2)++B),opn):=by
   have e1:(A++[((k+a.size+1:Nat):Int)]++(a.rq (k+1) ((k+a.size+1:Nat):Int)++((k:Int)::(r.rp (k+a.size+2)++B)))).getD (k+1+a.size) 0=k:=by
    rw[<-List.append_assoc];exact co _ _ _ _ (by simp only[List.length_append,List.length_cons,List.length_nil,hA,hal];try omega)
   unfold cY
   rw[hj,if_neg (by decide),if_pos rfl,e1,if_pos ⟨by omega,by rw[Int.toNat_natCast];omega⟩,Int.toNat_natCast,hi,if_pos rfl,if_neg (by simp),List.dropLast_concat]
   simp
  rw[hs2]
  simp only[Option.bind_some]
  rw[show k+1+a.size+1=k+a.size+2 by omega]
  rw[cU cd r w d (k+a.size+2) (A++(((k+a.size+1:Nat):Int)::(a.rq (k+1) ((k+a.size+1:Nat):Int)++[(k:Int)]))) B m' opn e (by have:=hcj.tail;rw[show k+1+a.size+1=k+a.size+2 by omega] at this;exact this) hr (by simp only[List.length_append,List.length_cons,List.length_nil,hA,hal];omega) (by omega) (λh=>(hl h).app _)]
  rw[show k+a.size+2+r.size=k+(a.size+r.size+2) by omega]
  simp[T.rq]
 |.ite2 i a x b j r,w,d,k,A,B,m',opn,e,hc,hw,hA,hk,hl=>by
  obtain⟨h1,hx,h2,h3,ha,hb,hr⟩:=hw
  simp only[T.flat] at hc
  have hi:aq cd k=27:=by show(cd.getD k default).op=_;rw[hc.head,h1]
  have hcx:=hc.tail.right
  rw[a.flat_length] at hcx
  have hxo:aq cd (k+1+a.size)=28:=by show(cd.getD (k+1+a.size) default).op=_;rw[hcx.head,hx]
  have hcj:=hcx.tail.right
  rw[b.flat_length] at hcj
  have hj:aq cd (k+1+a.size+1+b.size)=31:=by show(cd.getD (k+1+a.size+1+b.size) default).op=_;rw[hcj.head,h2]
  have hal:=a.rq_length (k+1) e
  have hbl:=b.rq_length (k+1+a.size+1) e
  have r1:k+a.size+1=k+1+a.size:=by omega
  have r2:k+a.size+b.size+2=k+1+a.size+1+b.size:=by omega
  have r3:k+a.size+2=k+1+a.size+1:=by omega
  have r4:k+a.size+b.size+3=k+1+a.size+1+b.size+1:=by omega
  simp only[T.size] at hk ⊢
  simp only[T.rp,T.rq]
  rw[r1,r2,r3,r4]
  rw[show a.size+b.size+r.size+3+m'=(a.size+(b.size+(r.size+m'+1)+1))+1 by omega,eE]
  obtain⟨R,hR⟩:∃R,R=r.rp (k+1+a.size+1+b.size+1)++B:=⟨_,rfl⟩
  have hs:cY cd k (A++(((k+1+a.size:Nat):Int)::(a.rp (k+1)++((k+1+a.size+1+b.size:Nat):Int)::(b.rp (k+1+a.size+1)++(k:Int)::r.rp (k+1+a.size+1+b.size+1)))++B)) opn=
    some ((A++[((k+1+a.size:Nat):Int)])++(a.rp (k+1)++(((k+1+a.size+1+b.size:Nat):Int)::(b.rp (k+1+a.size+1)++(k:Int)::R))),opn):=by
   unfold cY
   rw[hi,if_neg (by decide),if_neg (by decide),if_neg (by decide),hR]
   simp
  rw[hs]
  simp only[Option.bind_some]
  rw[cU cd a w (d-1) (k+1) (A++[((k+1+a.size:Nat):Int)]) (((k+1+a.size+1+b.size:Nat):Int)::(b.rp (k+1+a.size+1)++(k:Int)::R)) (b.size+(r.size+m'+1)+1) opn e hc.tail.left ha (by simp[hA]) (by omega) (λh=>(hl h).app _),eE]
  have hs2:cY cd (k+1+a.size) (A++[((k+1+a.size:Nat):Int)]++(a.rq (k+1) e++(((k+1+a.size+1+b.size:Nat):Int)::(b.rp (k+1+a.size+1)++(k:Int)::R)))) opn=
    some ((A++(((k+1+a.size:Nat):Int)::(a.rq (k+1) e++[((k+1+a.size+1+b.size:Nat):Int)])))++(b.rp (k+1+a.size+1)++((k:Int)::R)),opn):=by
   unfold cY
   rw[hxo,if_neg (by decide),if_neg (by decide),if_neg (by decide)]
   simp
  rw[hs2]
  simp only[Option.bind_some]
  rw[cU cd b w (d-1) (k+1+a.size+1) (A++(((k+1+a.size:Nat):Int)::(a.rq (k+1) e++[((k+1+a.size+1+b.size:Nat):Int)]))) ((k:Int)::R) (r.size+m'+1) opn e hcx.tail.left hb (by simp only[List.length_append,List.length_cons,List.length_nil,hA,hal];omega) (by omega) (λh=>(hl h).app _),eE]
  have hs3:cY cd (k+1+a.size+1+b.size) (A++(((k+1+a.size:Nat):Int)::(a.rq (k+1) e++[((k+1+a.size+1+b.size:Nat):Int)]))++(b.rq (k+1+a.size+1) e++((k:Int)::R))) opn=
    some ((A++(((k+1+a.size:Nat):Int)::(a.rq (k+1) e++(((k+1+a.size+1+b.size:Nat):Int)::(b.rq (k+1+a.size+1) e++[(k:Int)])))))++R,opn):=by
   have e1:(A++(((k+1+a.size:Nat):Int)::(a.rq (k+1) e++[((k+1+a.size+1+b.size:Nat):Int)]))++(b.rq (k+1+a.size+1) e++((k:Int)::R))).getD (k+1+a.size+1+b.size) 0=k:=by
    rw[<-List.append_assoc];exact co _ _ _ _ (by simp[hA,hal,hbl];omega)
   unfold cY
   rw[hj,if_neg (by decide),if_pos rfl,e1,if_pos ⟨by omega,by rw[Int.toNat_natCast];omega⟩,Int.toNat_natCast,hi,if_neg (by decide)]
   simp
  rw[hs3]
  simp only[Option.bind_some]
  rw[hR,cU cd r w d (k+1+a.size+1+b.size+1) (A++(((k+1+a.size:Nat):Int)::(a.rq (k+1) e++(((k+1+a.size+1+b.size:Nat):Int)::(b.rq (k+1+a.size+1) e++[(k:Int)]))))) B m' opn e hcj.tail hr (by simp[hA,hal,hbl];omega) (by omega) (λh=>(hl h).app _)]
  rw[show k+(a.size+b.size+r.size+3)=k+1+a.size+1+b.size+1+r.size by omega]
  simp
theorem nL(t:T)(hw:t.wf false 8):eE t.flat t.flat.length 0 (t.rp 0) []=some (t.rq 0 0,[]):=by
 have h:=cU t.flat t false 8 0 [] [] 0 [] 0 (λj hj=>by simp) hw rfl (by rw[t.flat_length];omega) (λh=>by cases h)
 rw[t.flat_length]
 simpa [eE] using h
end Go.Proofs.Yteopfmnnhlhbmaa