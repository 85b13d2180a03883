/- A part of the proof of OptimizerShortens: Map Map2 Pt Tr Tp Pc Pd Pe. No condition. -/
import Derived.MapKept
import Derived.Test.YtidhfimbnjaceaaGs03
import Derived.Test.YtidhfimbnjaceaaGs01
set_option linter.unusedSimpArgs false
set_option linter.unusedVariables false
set_option linter.constructorNameAsVariable false
set_option maxRecDepth 100000
set_option maxHeartbeats 4000000
namespace Go.Proofs.Ytidhfimbnjaceaa
open Go.RowKit Go.MapKept
def fx:Value->Option Int| .int .i64 n=>some n|_=>none
def i8(k:Int):List MapEntry->Bool
 |[]=>true
 |e::es=>(match fx e.key with|some n=>n != k|none=>false)&&i8 k es
def bU(k:Int):List MapEntry->Option Value
 |[]=>none
 |e::es=>match fx e.key with|some n=>if k=n then some e.val else bU k es|none=>none
def iH:List MapEntry->Bool
 |[]=>true
 |e::es=>(fx e.key).isSome&&iH es
theorem jj{v:Value}{n:Int}(h:fx v=some n):v= .int .i64 n:=by
 unfold fx at h
 split at h<;>simp_all
theorem gQ(k:Int):∀(l:List MapEntry) (i:Nat),i8 k l=true->Instr.findNow (.int .i64) (.int .i64 k) l i=some none
 |[],_,_=>rfl
 |e::es,i,h=>by
  simp only[i8,Bool.and_eq_true] at h
  obtain⟨h1,h2⟩:=h
  cases hk:fx e.key with
  |none=>rw[hk] at h1;cases h1
  |some n=>
   rw[hk] at h1
   have hn:n≠k:=by simpa using h1
   simp only[Instr.findNow,jj hk,Instr.sameNow,if_true]
   have:(k==n)=false:=by simp;exact λh=>hn h.symm
   rw[this]
   exact gQ k es (i+1) h2
theorem ka(k:Int):∀(l:List MapEntry) (i:Nat),iH l=true->∃r,Instr.findNow (.int .i64) (.int .i64 k) l i=some r/\r.map (·.2)=bU k l
 |[],_,_=>⟨none,rfl,rfl⟩
 |e::es,i,h=>by
  simp only[iH,Bool.and_eq_true] at h
  obtain⟨h1,h2⟩:=h
  cases hk:fx e.key with
  |none=>rw[hk] at h1;cases h1
  |some n=>
   simp only[Instr.findNow,jj hk,Instr.sameNow,if_true]
   by_cases hkn:k=n
   ·subst hkn
    exact⟨some (i,e.val),by simp,by simp[bU,hk]⟩
   ·have:(k==n)=false:=by simpa using hkn
    rw[this]
    obtain⟨r,h3,h4⟩:=ka k es (i+1) h2
    exact⟨r,h3,by rw[h4];simp[bU,hk,hkn]⟩
section
variable {P:Program} {T K E:TypeId} (hT:P.underlying T=some (.map K E)) (hK:P.underlying K=some (.int .i64))
include hT hK
theorem jP(w:World)(r:Nat)(es:Array MapEntry)(c:Nat)(hr:w.heap[r]? =some (.map es c))(k:Int)(v:Value)(h:i8 k es.toList=true):
  (Instr.mapUpdate T (.map (some r)) (.int .i64 k) v).run P w= .ok () {w with heap:=w.heap.setIfInBounds r (.map (es.push {key:= .int .i64 k,val:=v,born:=c}) (c+1))}:=by
 have hf:=gQ k es.toList 0 h
 have hc:MapKept.IsKey (.int .i64) (.int .i64 k):=by simp[MapKept.IsKey]
 simp[Instr.mapUpdate,run_underlying hT,MapKept.run_getObj_map hr,MapKept.run_checkKey hK hc,MapKept.run_findKey hK hf,MapKept.run_setObj_map _ hr,Result.andThen]
theorem f5(w:World)(es:Array MapEntry)(c:Nat)(k:Int)(v:Value)(h:i8 k es.toList=true):
  (Instr.mapUpdate T (.map (some w.heap.size)) (.int .i64 k) v).run P (w.alloc (.map es c))= .ok () (w.alloc (.map (es.push {key:= .int .i64 k,val:=v,born:=c}) (c+1))):=by
 rw[jP hT hK _ _ es c (heap_alloc_new w _) k v h]
 congr 1
 show World.mk _ _ _ _ _=World.mk _ _ _ _ _
 congr 1
 show(w.heap.push _).setIfInBounds w.heap.size _=w.heap.push _
 apply Array.ext_getElem?
 intro i
 simp only[Array.getElem?_setIfInBounds,Array.getElem?_push,Array.size_push]
 by_cases hi:i=w.heap.size
 ·subst hi;simp
 ·simp[hi,Ne.symm hi]
theorem av(w:World)(r:Nat)(es:Array MapEntry)(c:Nat)(hr:w.heap[r]? =some (.map es c))(k:Int)(hk:iH es.toList=true)(z:Value)(hz:(zeroValue E).run P w= .ok z w):
  (Instr.lookup T (.map (some r)) (.int .i64 k) true).run P w= .ok (.tuple #[(bU k es.toList).getD z,.bool (bU k es.toList).isSome]) w:=by
 obtain⟨x,h1,h2⟩:=ka k es.toList 0 hk
 have hc:MapKept.IsKey (.int .i64) (.int .i64 k):=by simp[MapKept.IsKey]
 cases x with
 |none=>
  have h3:bU k es.toList=none:=by simpa using h2.symm
  simp[Instr.lookup,run_underlying hT,MapKept.run_getObj_map hr,MapKept.run_checkKey hK hc,MapKept.run_findKey hK h1,Result.andThen,h3,hz]
 |some y=>
  have h3:bU k es.toList=some y.2:=by simpa using h2.symm
  simp[Instr.lookup,run_underlying hT,MapKept.run_getObj_map hr,MapKept.run_checkKey hK hc,MapKept.run_findKey hK h1,Result.andThen,h3]
end
attribute [go_sem] i8 fx
section
variable {P:Program} {T K E:TypeId} (hT:P.underlying T=some (.map K E)) (hK:P.underlying K=some (.int .i64))
include hT hK
end
end Go.Proofs.Ytidhfimbnjaceaa
namespace Go.Proofs.Ytidhfimbnjaceaa
open Go.RowKit
inductive T where
 |nil
 |plain (i:RI) (r:T)
 |ite (i:RI) (a:T) (j:RI) (r:T)
 |ite2 (i:RI) (a:T) (e:RI) (b:T) (j:RI) (r:T)
 |loop (i:RI) (a:T) (j:RI) (r:T)
def T.flat:T->List RI
 |.nil=>[]
 |.plain i r=>i::r.flat
 |.ite i a j r=>i::(a.flat++j::r.flat)
 |.ite2 i a e b j r=>i::(a.flat++e::(b.flat++j::r.flat))
 |.loop i a j r=>i::(a.flat++j::r.flat)
def T.size:T->Nat
 |.nil=>0
 |.plain _ r=>r.size+1
 |.ite _ a _ r=>a.size+r.size+2
 |.ite2 _ a _ b _ r=>a.size+b.size+r.size+3
 |.loop _ a _ r=>a.size+r.size+2
theorem T.flat_length:∀t:T,t.flat.length=t.size
 |.nil=>rfl
 |.plain i r=>by simp only[flat,size,List.length_cons,r.flat_length]
 |.ite i a j r=>by simp only[flat,size,List.length_cons,List.length_append,a.flat_length,r.flat_length];omega
 |.ite2 i a e b j r=>by simp only[flat,size,List.length_cons,List.length_append,a.flat_length,b.flat_length,r.flat_length];omega
 |.loop i a j r=>by simp only[flat,size,List.length_cons,List.length_append,a.flat_length,r.flat_length];omega
def T.wf:Bool->Nat->T->Prop
 |_,_,.nil=>True
 |w,d,.plain i r=>(i.op≠27/\i.op≠28/\i.op≠29/\i.op≠31)/\(i.op=30->w=true)/\r.wf w d
 |w,d,.ite i a j r=>i.op=27/\j.op=31/\0<d/\a.wf w (d-1)/\r.wf w d
 |w,d,.ite2 i a e b j r=>i.op=27/\e.op=28/\j.op=31/\0<d/\a.wf w (d-1)/\b.wf w (d-1)/\r.wf w d
 |w,d,.loop i a j r=>i.op=29/\j.op=31/\0<d/\a.wf true (d-1)/\r.wf w d
theorem jh:∀(n:Nat) (l:List RI) (k:Nat) (o:List NB),l.length<=n->o.length<=8->(a8 l k o).2=false->
  (o=[]/\∃t:T,l=t.flat/\t.wf false (8-o.length))\/
  (∃(o':List NB) (b:NB) (t:T) (x:RI) (l':List RI) (k':Nat),o=o'++[b]/\l=t.flat++x::l'/\t.wf b.within (8-o.length)/\((x.op=31/\(a8 l' k' o').2=false)\/(x.op=28/\b.loop=false/\b.other=false/\(a8 l' k' (o'++[⟨b.loop,b.within,true⟩])).2=false)))
 |n,[],k,o,_,_,h=>by
  left
  simp only[a8,decide_eq_false_iff_not] at h
  have:o=[]:=by
   cases o with
   |nil=>rfl
   |cons a l=>simp at h
  exact⟨this,.nil,rfl,trivial⟩
 |0,i::l,k,o,hn,_,_=>by simp at hn
 |n+1,i::l,k,o,hn,h8,h=>by
  have hl:l.length<=n:=by simpa using hn
  simp only[a8] at h
  cases hs:ay i.op o with
  |none=>rw[hs] at h;cases h
  |some o1=>
   rw[hs] at h
   simp only at h
   have hl1:=lG hs h8
   by_cases o27:i.op=27
   ·
    rw[o27] at hs
    simp only[ay,if_true] at hs
    split at hs
    ·rename_i hlt
     simp only[Option.some.injEq] at hs
     subst hs
     rcases jh n l (k+1) _ hl hl1 h with⟨h0,_⟩|⟨o',b,a,x,l',k',h1,h2,h3,h4⟩
     ·simp at h0
     ·obtain⟨rfl,hb⟩:=List.append_inj' h1 rfl
      simp only[List.cons.injEq,and_true] at hb
      subst hb
      have hle:l'.length<=n:=by have:=congrArg List.length h2;simp at this;omega
      have hd:8-(o++[(⟨false,(bW o).within,false⟩:NB)]).length=8-o.length-1:=by simp;omega
      rw[hd] at h3
      simp only at h3
      rcases h4 with⟨hx,hr⟩|⟨hx,_,_,hr⟩
      ·rcases jh n l' k' o hle h8 hr with⟨h0,t,ht,hw⟩|⟨o2,b2,t,y,l2,k2,g1,g2,g3,g4⟩
       ·left
        subst h0
        exact⟨rfl,.ite i a x t,by rw[h2,ht];rfl,o27,hx,by simp,by simpa [bW] using h3,hw⟩
       ·right
        refine⟨o2,b2,.ite i a x t,y,l2,k2,g1,by rw[h2,g2];simp[T.flat],⟨o27,hx,by omega,?_,g3⟩,g4⟩
        rw[g1,eg] at h3
        rw[g1];exact h3
      ·rcases jh n l' k' _ hle (by simp;omega) hr with⟨h0,_⟩|⟨o2,b2,t2,y,l2,k2,g1,g2,g3,g4⟩
       ·simp at h0
       ·obtain⟨rfl,hb2⟩:=List.append_inj' g1 rfl
        simp only[List.cons.injEq,and_true] at hb2
        subst hb2
        have hle2:l2.length<=n:=by have:=congrArg List.length g2;simp at this;omega
        have hd2:8-(o++[(⟨false,(bW o).within,true⟩:NB)]).length=8-o.length-1:=by simp;omega
        rw[hd2] at g3
        simp only at g3
        rcases g4 with⟨hy,hr2⟩|⟨_,_,hoth,_⟩
        ·rcases jh n l2 k2 o hle2 h8 hr2 with⟨h0,t,ht,hw⟩|⟨o3,b3,t,z,l3,k3,f1,f2,f3,f4⟩
         ·left
          subst h0
          exact⟨rfl,.ite2 i a x t2 y t,by rw[h2,g2,ht];rfl,o27,hx,hy,by simp,by simpa [bW] using h3,by simpa [bW] using g3,hw⟩
         ·right
          refine⟨o3,b3,.ite2 i a x t2 y t,z,l3,k3,f1,by rw[h2,g2,f2];simp[T.flat],⟨o27,hx,hy,by omega,?_,?_,f3⟩,f4⟩
          ·rw[f1,eg] at h3;rw[f1];exact h3
          ·rw[f1,eg] at g3;rw[f1];exact g3
        ·cases hoth
    ·cases hs
   by_cases o29:i.op=29
   ·rw[o29] at hs
    simp only[ay] at hs
    rw[if_neg (by decide),if_pos trivial] at hs
    split at hs
    ·rename_i hlt
     simp only[Option.some.injEq] at hs
     subst hs
     rcases jh n l (k+1) _ hl hl1 h with⟨h0,_⟩|⟨o',b,a,x,l',k',h1,h2,h3,h4⟩
     ·simp at h0
     ·obtain⟨rfl,hb⟩:=List.append_inj' h1 rfl
      simp only[List.cons.injEq,and_true] at hb
      subst hb
      have hle:l'.length<=n:=by have:=congrArg List.length h2;simp at this;omega
      have hd:8-(o++[(⟨true,true,false⟩:NB)]).length=8-o.length-1:=by simp;omega
      rw[hd] at h3
      simp only at h3
      rcases h4 with⟨hx,hr⟩|⟨_,hlp,_,_⟩
      ·rcases jh n l' k' o hle h8 hr with⟨h0,t,ht,hw⟩|⟨o2,b2,t,y,l2,k2,g1,g2,g3,g4⟩
       ·left
        subst h0
        exact⟨rfl,.loop i a x t,by rw[h2,ht];rfl,o29,hx,by simp,by simpa using h3,hw⟩
       ·right
        exact⟨o2,b2,.loop i a x t,y,l2,k2,g1,by rw[h2,g2];simp[T.flat],⟨o29,hx,by omega,h3,g3⟩,g4⟩
      ·cases hlp
    ·cases hs
   by_cases o28:i.op=28
   ·rw[o28] at hs
    simp only[ay] at hs
    rw[if_neg (by decide),if_neg (by decide),if_pos trivial] at hs
    split at hs
    ·rename_i hc
     simp only[Option.some.injEq] at hs
     subst hs
     rcases List.eq_nil_or_concat o with rfl|⟨o',b,rfl⟩
     ·simp at hc
     ·rw[List.concat_eq_append] at*
      rw[eg] at hc h
      right
      exact⟨o',b,.nil,i,l,k+1,rfl,rfl,trivial,.inr ⟨o28,hc.2.1,hc.2.2,by simpa using h⟩⟩
    ·cases hs
   by_cases o31:i.op=31
   ·rw[o31] at hs
    simp only[ay] at hs
    rw[if_neg (by decide),if_neg (by decide),if_neg (by decide),if_neg (by decide),if_pos trivial] at hs
    split at hs
    ·rename_i hc
     simp only[Option.some.injEq] at hs
     subst hs
     rcases List.eq_nil_or_concat o with rfl|⟨o',b,rfl⟩
     ·simp at hc
     ·rw[List.concat_eq_append] at*
      right
      exact⟨o',b,.nil,i,l,k+1,rfl,rfl,trivial,.inl ⟨o31,by simpa using h⟩⟩
    ·cases hs
   ·
    have ho1:o1=o/\(i.op=30->(bW o).within=true):=by
     unfold ay at hs
     rw[if_neg o27,if_neg o29,if_neg o28] at hs
     by_cases h30:i.op=30
     ·rw[if_pos h30] at hs
      split at hs
      ·rename_i hw;simp at hs;exact⟨hs.symm,λ_=>hw⟩
      ·cases hs
     ·rw[if_neg h30,if_neg o31] at hs
      simp at hs
      exact⟨hs.symm,λe=>absurd e h30⟩
    obtain⟨rfl,h30⟩:=ho1
    rcases jh n l (k+1) _ hl h8 h with⟨h0,t,ht,hw⟩|⟨o',b,t,x,l',k',h1,h2,h3,h4⟩
    ·left
     subst h0
     refine⟨rfl,.plain i t,by rw[ht];rfl,⟨o27,o28,o29,o31⟩,λe=>?_,hw⟩
     have:=h30 e
     simp[bW] at this
    ·right
     refine⟨o',b,.plain i t,x,l',k',h1,by rw[h2];rfl,⟨⟨o27,o28,o29,o31⟩,λe=>?_,h3⟩,h4⟩
     have:=h30 e
     rw[h1,eg] at this
     exact this
theorem pr(cd:List RI)(h:(a8 cd 0 []).2=false):∃t:T,cd=t.flat/\t.wf false 8:=by
 rcases jh cd.length cd 0 [] (Nat.le_refl _) (by simp) h with⟨_,t,h1,h2⟩|⟨o',b,_,_,_,_,h1,_⟩
 ·exact⟨t,h1,by simpa using h2⟩
 ·simp at h1
theorem cI{α:Type}(A:List α)(x y:α)(B:List α){k:Nat}(hk:A.length=k):(A++x::B).set k y=A++y::B:=by
 subst hk
 rw[List.set_append_right _ _ (Nat.le_refl _)]
 simp
def iX(cd:List RI)(k:Nat)(l:List RI):Prop:=∀j,j<l.length->cd.getD (k+j) default=l.getD j default
theorem iX.head{cd:List RI}{k:Nat}{i:RI}{l:List RI}(h:iX cd k (i::l)):cd.getD k default=i:=by simpa using h 0 (by simp)
theorem iX.tail{cd:List RI}{k:Nat}{i:RI}{l:List RI}(h:iX cd k (i::l)):iX cd (k+1) l:=λj hj=>by
 have:=h (j+1) (by simpa using hj)
 simpa [Nat.add_assoc,Nat.add_comm 1 j] using this
theorem iX.left{cd:List RI}{k:Nat}{a b:List RI}(h:iX cd k (a++b)):iX cd k a:=λj hj=>by
 have:=h j (by simp;omega)
 rw[this]
 simp[List.getD_eq_getElem?_getD,List.getElem?_append_left hj]
theorem iX.right{cd:List RI}{k:Nat}{a b:List RI}(h:iX cd k (a++b)):iX cd (k+a.length) b:=λj hj=>by
 have:=h (a.length+j) (by simp;omega)
 rw[Nat.add_assoc,this]
 simp[List.getD_eq_getElem?_getD,List.getElem?_append_right]
abbrev dF(cd:List RI)(b:Nat):Int:=(cd.getD b default).op
theorem gi{α:Type}(A:List α)(x:α)(B:List α)(d:α){k:Nat}(hk:A.length=k):(A++x::B).getD k d=x:=by
 subst hk
 simp[List.getD_eq_getElem?_getD]
def T.rq:T->Nat->Int->List Int
 |.nil,_,_=>[]
 |.plain i r,k,e=>(if i.op=30 then e else-1)::r.rq (k+1) e
 |.ite i a j r,k,e=>((k+a.size+1:Nat):Int)::(a.rq (k+1) e++(k:Int)::r.rq (k+a.size+2) e)
 |.ite2 i a x b j r,k,e=>((k+a.size+1:Nat):Int)::(a.rq (k+1) e++((k+a.size+b.size+2:Nat):Int)::(b.rq (k+a.size+2) e++(k:Int)::r.rq (k+a.size+b.size+3) e))
 |.loop i a j r,k,e=>((k+a.size+1:Nat):Int)::(a.rq (k+1) ((k+a.size+1:Nat):Int)++(k:Int)::r.rq (k+a.size+2) e)
theorem T.rq_length:∀(t:T) (k:Nat) (e:Int),(t.rq k e).length=t.size
 |.nil,_,_=>rfl
 |.plain i r,k,e=>by simp only[rq,size,List.length_cons,r.rq_length]
 |.ite i a j r,k,e=>by simp only[rq,size,List.length_cons,List.length_append,a.rq_length,r.rq_length];omega
 |.ite2 i a x b j r,k,e=>by simp only[rq,size,List.length_cons,List.length_append,a.rq_length,b.rq_length,r.rq_length];omega
 |.loop i a j r,k,e=>by simp only[rq,size,List.length_cons,List.length_append,a.rq_length,r.rq_length];omega
end Go.Proofs.Ytidhfimbnjaceaa