/- A part of the proof of OptimizerOptimizes: PpA PpB. No condition. -/
import Derived.Test.YtidhfimbnjaceaaGreatGq15
import Derived.Test.YtidhfimbnjaceaaGreatGq12
set_option linter.unusedSimpArgs false
set_option linter.unusedVariables false
set_option linter.constructorNameAsVariable false
set_option maxRecDepth 100000
set_option maxHeartbeats 4000000
namespace Go.Proofs.YtidhfimbnjaceaaGreat
open Go.RowKit
def ej(cd:List RI)(i:Nat)(s:vP):Option vP:=
 let out:=s.out.set i (-1)
 if a8 cd i=27 then some ⟨out,i::s.op,s.lp⟩
 else if a8 cd i=29 then some ⟨out,i::s.op,i::s.lp⟩
 else if a8 cd i=28 then match s.op with
  |b::_=>some ⟨out.set b i,s.op,s.lp⟩
  |[]=>none
 else if a8 cd i=31 then match s.op with
  |b::rest=>
   let out:=out.set i b
   let out:=if 0<=out.getD b 0 then out.set (out.getD b 0).toNat i else out.set b i
   if a8 cd b=29 then match s.lp with
    |_::lp=>some ⟨out,rest,lp⟩
    |[]=>none
   else some ⟨out,rest,s.lp⟩
  |[]=>none
 else if a8 cd i=30 then match s.lp with
  |l::_=>some ⟨out.set i l,s.op,s.lp⟩
  |[]=>none
 else some ⟨out,s.op,s.lp⟩
def jM(cd:List RI):Nat->Nat->vP->Option vP
 |0,_,s=>some s
 |n+1,k,s=>(ej cd k s).bind (jM cd n (k+1))
def jv(cd:List RI):Nat->Nat->List Int->Option (List Int)
 |0,_,o=>some o
 |n+1,k,o=>if a8 cd k=30 then(if 0<=o.getD k 0 then jv cd n (k+1) (o.set k (o.getD (o.getD k 0).toNat 0)) else none) else jv cd n (k+1) o
theorem mj(cs:List In)(b:Nat):a8 (cs.map cO) b=(cs.getD b (0,0,0,0,0)).1:=by
 unfold a8
 simp only[List.getD_eq_getElem?_getD,List.getElem?_map]
 cases cs[b]? <;>rfl
theorem wD(cs:List In)(i:Nat)(s:vP):fy cs i (cs.getD i (0,0,0,0,0)).1 s=ej (cs.map cO) i s:=by
 unfold fy ej
 simp only[mj]
 rfl
theorem tz(cs:List In):∀(n k:Nat) (s:vP),k+n=cs.length->gX cs (cs.drop k) k s=jM (cs.map cO) n k s
 |0,k,s,h=>by
  rw[List.drop_of_length_le (by omega)];rfl
 |n+1,k,s,h=>by
  rw[bw (d:=(0,0,0,0,0)) (by omega),gX,wD,jM]
  congr 1
  funext s
  exact tz cs n (k+1) s (by omega)
theorem o6(cs:List In):∀(n k:Nat) (o:List Int),k+n=cs.length->eL (cs.drop k) k o=jv (cs.map cO) n k o
 |0,k,o,h=>by
  rw[List.drop_of_length_le (by omega)];rfl
 |n+1,k,o,h=>by
  rw[bw (d:=(0,0,0,0,0)) (by omega),eL,jv,mj]
  split
  ·split
   ·exact o6 cs n (k+1) _ (by omega)
   ·rfl
  ·exact o6 cs n (k+1) _ (by omega)
def T.rz:T->Nat->Nat->List Int
 |.nil,_,_=>[]
 |.plain i r,k,l=>(if i.op=30 then(l:Int) else-1)::r.rz (k+1) l
 |.ite i a j r,k,l=>((k+a.size+1:Nat):Int)::(a.rz (k+1) l++(k:Int)::r.rz (k+a.size+2) l)
 |.ite2 i a x b j r,k,l=>((k+a.size+1:Nat):Int)::(a.rz (k+1) l++((k+a.size+b.size+2:Nat):Int)::(b.rz (k+a.size+2) l++(k:Int)::r.rz (k+a.size+b.size+3) l))
 |.loop i a j r,k,l=>((k+a.size+1:Nat):Int)::(a.rz (k+1) k++(k:Int)::r.rz (k+a.size+2) l)
theorem T.rz_length:∀(t:T) (k l:Nat),(t.rz k l).length=t.size
 |.nil,_,_=>rfl
 |.plain i r,k,l=>by simp only[rz,size,List.length_cons,r.rz_length]
 |.ite i a j r,k,l=>by simp only[rz,size,List.length_cons,List.length_append,a.rz_length,r.rz_length];omega
 |.ite2 i a x b j r,k,l=>by simp only[rz,size,List.length_cons,List.length_append,a.rz_length,b.rz_length,r.rz_length];omega
 |.loop i a j r,k,l=>by simp only[rz,size,List.length_cons,List.length_append,a.rz_length,r.rz_length];omega
theorem dw(cd:List RI):∀(t:T) (w:Bool) (d k:Nat) (A:List Int) (m m':Nat) (op lp:List Nat),je cd k t.flat->t.wf w d->A.length=k->(w=true->lp≠[])->
  jM cd (t.size+m') k ⟨A++List.replicate (t.size+m) 0,op,lp⟩=jM cd m' (k+t.size) ⟨A++(t.rz k (lp.headD 0)++List.replicate m 0),op,lp⟩
 |.nil,w,d,k,A,m,m',op,lp,hc,hw,hA,hl=>by simp[T.size,T.rz]
 |.plain i r,w,d,k,A,m,m',op,lp,hc,hw,hA,hl=>by
  obtain⟨⟨h1,h2,h3,h4⟩,h5,hr⟩:=hw
  have hi:a8 cd k=i.op:=by show(cd.getD k default).op=_;rw[hc.head]
  have hset:∀v:Int,(A++List.replicate (r.size+1+m) (0:Int)).set k v=A++[v]++List.replicate (r.size+m) 0:=λv=>by
   rw[show r.size+1+m=(r.size+m)+1 by omega,List.replicate_succ,bJ _ _ _ _ hA];simp
  simp only[T.size]
  rw[show r.size+1+m'=(r.size+m')+1 by omega,jM]
  have hs:ej cd k ⟨A++List.replicate (r.size+1+m) 0,op,lp⟩=some ⟨A++[if i.op=30 then((lp.headD 0:Nat):Int) else-1]++List.replicate (r.size+m) 0,op,lp⟩:=by
   unfold ej
   simp only
   rw[hi,if_neg h1,if_neg h3,if_neg h2,if_neg h4]
   by_cases h30:i.op=30
   ·rw[if_pos h30,if_pos h30]
    cases lp with
    |nil=>exact absurd rfl (hl (h5 h30))
    |cons l lr=>
     simp only[List.headD_cons]
     rw[List.set_set,hset]
   ·rw[if_neg h30,if_neg h30,hset]
  rw[hs]
  simp only[Option.bind_some]
  rw[dw cd r w d (k+1) (A++[if i.op=30 then((lp.headD 0:Nat):Int) else-1]) m m' op lp hc.tail hr (by simp[hA]) hl,show k+1+r.size=k+(r.size+1) by omega]
  simp[T.rz]
 |.ite i a j r,w,d,k,A,m,m',op,lp,hc,hw,hA,hl=>by
  obtain⟨h1,h2,h3,ha,hr⟩:=hw
  simp only[T.flat] at hc
  have hi:a8 cd k=27:=by show(cd.getD k default).op=_;rw[hc.head,h1]
  have hcj:=hc.tail.right
  rw[a.flat_length] at hcj
  have hj:a8 cd (k+1+a.size)=31:=by show(cd.getD (k+1+a.size) default).op=_;rw[hcj.head,h2]
  generalize hL:lp.headD 0=L
  simp only[T.size]
  rw[show a.size+r.size+2+m'=(a.size+(r.size+m'+1))+1 by omega,jM]
  have hs:ej cd k ⟨A++List.replicate (a.size+r.size+2+m) 0,op,lp⟩=some ⟨(A++[-1])++List.replicate (a.size+(r.size+m+1)) 0,k::op,lp⟩:=by
   unfold ej
   simp only
   rw[hi,if_pos rfl,show a.size+r.size+2+m=(a.size+(r.size+m+1))+1 by omega,List.replicate_succ,bJ _ _ _ _ hA]
   simp
  rw[hs]
  simp only[Option.bind_some]
  rw[dw cd a w (d-1) (k+1) (A++[-1]) (r.size+m+1) (r.size+m'+1) (k::op) lp hc.tail.left ha (by simp[hA]) hl,hL,jM]
  have hal:=a.rz_length (k+1) L
  have hs2:ej cd (k+1+a.size) ⟨A++[-1]++(a.rz (k+1) L++List.replicate (r.size+m+1) 0),k::op,lp⟩=
    some ⟨A++(((k+a.size+1:Nat):Int)::(a.rz (k+1) L++[(k:Int)]))++List.replicate (r.size+m) 0,op,lp⟩:=by
   unfold ej
   have e1:∀v:Int,(A++[-1]++(a.rz (k+1) L++List.replicate (r.size+m+1) (0:Int))).set (k+1+a.size) v=A++(-1:Int)::(a.rz (k+1) L++v::List.replicate (r.size+m) 0):=λv=>by
    rw[List.replicate_succ,<-List.append_assoc,bJ _ _ _ _ (by simp[hA,hal];omega)];simp
   have e2:(A++(-1:Int)::(a.rz (k+1) L++(k:Int)::List.replicate (r.size+m) 0)).getD k 0= -1:=cR _ _ _ _ hA
   simp only
   rw[hj,if_neg (by decide),if_neg (by decide),if_neg (by decide),if_pos rfl,hi,if_neg (by decide),List.set_set,e1,e2,if_neg (by decide),bJ _ _ _ _ hA,show k+1+a.size=k+a.size+1 by omega]
   simp
  rw[hs2]
  simp only[Option.bind_some]
  rw[dw cd r w d (k+1+a.size+1) (A++(((k+a.size+1:Nat):Int)::(a.rz (k+1) L++[(k:Int)]))) m m' op lp hcj.tail hr (by simp[hA,hal];omega) hl,hL]
  rw[show k+1+a.size+1=k+a.size+2 by omega,show k+a.size+2+r.size=k+(a.size+r.size+2) by omega]
  simp[T.rz]
 |.loop i a j r,w,d,k,A,m,m',op,lp,hc,hw,hA,hl=>by
  obtain⟨h1,h2,h3,ha,hr⟩:=hw
  simp only[T.flat] at hc
  have hi:a8 cd k=29:=by show(cd.getD k default).op=_;rw[hc.head,h1]
  have hcj:=hc.tail.right
  rw[a.flat_length] at hcj
  have hj:a8 cd (k+1+a.size)=31:=by show(cd.getD (k+1+a.size) default).op=_;rw[hcj.head,h2]
  simp only[T.size]
  rw[show a.size+r.size+2+m'=(a.size+(r.size+m'+1))+1 by omega,jM]
  have hs:ej cd k ⟨A++List.replicate (a.size+r.size+2+m) 0,op,lp⟩=some ⟨(A++[-1])++List.replicate (a.size+(r.size+m+1)) 0,k::op,k::lp⟩:=by
   unfold ej
   simp only
   rw[hi,if_neg (by decide),if_pos rfl,show a.size+r.size+2+m=(a.size+(r.size+m+1))+1 by omega,List.replicate_succ,bJ _ _ _ _ hA]
   simp
  rw[hs]
  simp only[Option.bind_some]
  rw[dw cd a true (d-1) (k+1) (A++[-1]) (r.size+m+1) (r.size+m'+1) (k::op) (k::lp) hc.tail.left ha (by simp[hA]) (by simp),jM]
  simp only[List.headD_cons]
  have hal:=a.rz_length (k+1) k
  have hs2:ej cd (k+1+a.size) ⟨A++[-1]++(a.rz (k+1) k++List.replicate (r.size+m+1) 0),k::op,k::lp⟩=
    some ⟨A++(((k+a.size+1:Nat):Int)::(a.rz (k+1) k++[(k:Int)]))++List.replicate (r.size+m) 0,op,lp⟩:=by
   unfold ej
   have e1:∀v:Int,(A++[-1]++(a.rz (k+1) k++List.replicate (r.size+m+1) (0:Int))).set (k+1+a.size) v=A++(-1:Int)::(a.rz (k+1) k++v::List.replicate (r.size+m) 0):=λv=>by
    rw[List.replicate_succ,<-List.append_assoc,bJ _ _ _ _ (by simp[hA,hal];omega)];simp
   have e2:(A++(-1:Int)::(a.rz (k+1) k++(k:Int)::List.replicate (r.size+m) 0)).getD k 0= -1:=cR _ _ _ _ hA
   simp only
   rw[hj,if_neg (by decide),if_neg (by decide),if_neg (by decide),if_pos rfl,hi,if_pos rfl,List.set_set,e1,e2,if_neg (by decide),bJ _ _ _ _ hA,show k+1+a.size=k+a.size+1 by omega]
   simp
  rw[hs2]
  simp only[Option.bind_some]
  rw[dw cd r w d (k+1+a.size+1) (A++(((k+a.size+1:Nat):Int)::(a.rz (k+1) k++[(k:Int)]))) m m' op lp hcj.tail hr (by simp[hA,hal];omega) hl]
  rw[show k+1+a.size+1=k+a.size+2 by omega,show k+a.size+2+r.size=k+(a.size+r.size+2) by omega]
  simp[T.rz]
 |.ite2 i a x b j r,w,d,k,A,m,m',op,lp,hc,hw,hA,hl=>by
  obtain⟨h1,hx,h2,h3,ha,hb,hr⟩:=hw
  simp only[T.flat] at hc
  have hi:a8 cd k=27:=by show(cd.getD k default).op=_;rw[hc.head,h1]
  have hcx:=hc.tail.right
  rw[a.flat_length] at hcx
  have hxo:a8 cd (k+1+a.size)=28:=by show(cd.getD (k+1+a.size) default).op=_;rw[hcx.head,hx]
  have hcj:=hcx.tail.right
  rw[b.flat_length] at hcj
  have hj:a8 cd (k+1+a.size+1+b.size)=31:=by show(cd.getD (k+1+a.size+1+b.size) default).op=_;rw[hcj.head,h2]
  generalize hL:lp.headD 0=L
  have hal:=a.rz_length (k+1) L
  have hbl:=b.rz_length (k+1+a.size+1) L
  simp only[T.size]
  rw[show a.size+b.size+r.size+3+m'=(a.size+(b.size+(r.size+m'+1)+1))+1 by omega,jM]
  have hs:ej cd k ⟨A++List.replicate (a.size+b.size+r.size+3+m) 0,op,lp⟩=some ⟨(A++[-1])++List.replicate (a.size+(b.size+(r.size+m+1)+1)) 0,k::op,lp⟩:=by
   unfold ej
   simp only
   rw[hi,if_pos rfl,show a.size+b.size+r.size+3+m=(a.size+(b.size+(r.size+m+1)+1))+1 by omega,List.replicate_succ,bJ _ _ _ _ hA]
   simp
  rw[hs]
  simp only[Option.bind_some]
  rw[dw cd a w (d-1) (k+1) (A++[-1]) (b.size+(r.size+m+1)+1) (b.size+(r.size+m'+1)+1) (k::op) lp hc.tail.left ha (by simp[hA]) hl,hL,jM]
  have hs2:ej cd (k+1+a.size) ⟨A++[-1]++(a.rz (k+1) L++List.replicate (b.size+(r.size+m+1)+1) 0),k::op,lp⟩=
    some ⟨A++(((k+1+a.size:Nat):Int)::(a.rz (k+1) L++[(-1:Int)]))++List.replicate (b.size+(r.size+m+1)) 0,k::op,lp⟩:=by
   unfold ej
   have e1:(A++[-1]++(a.rz (k+1) L++List.replicate (b.size+(r.size+m+1)+1) (0:Int))).set (k+1+a.size) (-1)=A++(-1:Int)::(a.rz (k+1) L++ -1::List.replicate (b.size+(r.size+m+1)) 0):=by
    rw[List.replicate_succ,<-List.append_assoc,bJ _ _ _ _ (by simp[hA,hal];omega)];simp
   simp only
   rw[hxo,if_neg (by decide),if_neg (by decide),if_pos rfl,e1,bJ _ _ _ _ hA]
   simp
  rw[hs2]
  simp only[Option.bind_some]
  rw[dw cd b w (d-1) (k+1+a.size+1) (A++(((k+1+a.size:Nat):Int)::(a.rz (k+1) L++[(-1:Int)]))) (r.size+m+1) (r.size+m'+1) (k::op) lp hcx.tail.left hb (by simp[hA,hal];omega) hl,hL,jM]
  have hs3:ej cd (k+1+a.size+1+b.size) ⟨A++(((k+1+a.size:Nat):Int)::(a.rz (k+1) L++[(-1:Int)]))++(b.rz (k+1+a.size+1) L++List.replicate (r.size+m+1) 0),k::op,lp⟩=
    some ⟨A++(((k+1+a.size:Nat):Int)::(a.rz (k+1) L++(((k+1+a.size+1+b.size:Nat):Int)::(b.rz (k+1+a.size+1) L++[(k:Int)]))))++List.replicate (r.size+m) 0,op,lp⟩:=by
   unfold ej
   have e1:∀v:Int,(A++(((k+1+a.size:Nat):Int)::(a.rz (k+1) L++[(-1:Int)]))++(b.rz (k+1+a.size+1) L++List.replicate (r.size+m+1) 0)).set (k+1+a.size+1+b.size) v=
     A++((k+1+a.size:Nat):Int)::(a.rz (k+1) L++ -1::(b.rz (k+1+a.size+1) L++v::List.replicate (r.size+m) 0)):=λv=>by
    rw[List.replicate_succ,<-List.append_assoc,bJ _ _ _ _ (by simp[hA,hal,hbl];omega)];simp
   have e2:(A++((k+1+a.size:Nat):Int)::(a.rz (k+1) L++ -1::(b.rz (k+1+a.size+1) L++(k:Int)::List.replicate (r.size+m) 0))).getD k 0=((k+1+a.size:Nat):Int):=cR _ _ _ _ hA
   have e4:(A++((k+1+a.size:Nat):Int)::(a.rz (k+1) L++ -1::(b.rz (k+1+a.size+1) L++(k:Int)::List.replicate (r.size+m) (0:Int)))).set (k+1+a.size) ((k+1+a.size+1+b.size:Nat):Int)=
     A++((k+1+a.size:Nat):Int)::(a.rz (k+1) L++((k+1+a.size+1+b.size:Nat):Int)::(b.rz (k+1+a.size+1) L++(k:Int)::List.replicate (r.size+m) 0)):=by
    have:=bJ (A++((k+1+a.size:Nat):Int)::a.rz (k+1) L) (-1) ((k+1+a.size+1+b.size:Nat):Int) (b.rz (k+1+a.size+1) L++(k:Int)::List.replicate (r.size+m) (0:Int)) (k:=k+1+a.size) (by simp[hA,hal];omega)
    simpa using this
   simp only
   rw[hj,if_neg (by decide),if_neg (by decide),if_neg (by decide),if_pos rfl,hi,if_neg (by decide),List.set_set,e1,e2,if_pos (by omega),Int.toNat_natCast,e4]
   simp
  rw[hs3]
  simp only[Option.bind_some]
  rw[dw cd r w d (k+1+a.size+1+b.size+1) (A++(((k+1+a.size:Nat):Int)::(a.rz (k+1) L++(((k+1+a.size+1+b.size:Nat):Int)::(b.rz (k+1+a.size+1) L++[(k:Int)]))))) m m' op lp hcj.tail hr (by simp[hA,hal,hbl];omega) hl,hL]
  simp only[T.rz]
  rw[show k+a.size+1=k+1+a.size by omega,show k+a.size+b.size+2=k+1+a.size+1+b.size by omega,show k+a.size+2=k+1+a.size+1 by omega,show k+a.size+b.size+3=k+1+a.size+1+b.size+1 by omega,show k+(a.size+b.size+r.size+3)=k+1+a.size+1+b.size+1+r.size by omega]
  simp
theorem n9{A B:List Int}{l:Nat}(h:l<A.length):(A++B).getD l 0=A.getD l 0:=by
 rw[List.getD_eq_getElem?_getD,List.getElem?_append_left h,<-List.getD_eq_getElem?_getD]
def Am(A:List Int)(l:Nat)(e:Int):Prop:=l<A.length/\A.getD l 0=e
theorem Am.app{A:List Int}{l:Nat}{e:Int}(h:Am A l e)(B:List Int):Am (A++B) l e:=⟨by simp only[List.length_append];have:=h.1;omega,by rw[n9 h.1];exact h.2⟩
theorem dA(cd:List RI):∀(t:T) (w:Bool) (d k:Nat) (A B:List Int) (m':Nat) (l:Nat) (e:Int),je cd k t.flat->t.wf w d->A.length=k->(w=true->Am A l e)->
  jv cd (t.size+m') k (A++(t.rz k l++B))=jv cd m' (k+t.size) (A++(t.rq k e++B))
 |.nil,w,d,k,A,B,m',l,e,hc,hw,hA,hl=>by simp[T.size,T.rz,T.rq]
 |.plain i r,w,d,k,A,B,m',l,e,hc,hw,hA,hl=>by
  obtain⟨⟨h1,h2,h3,h4⟩,h5,hr⟩:=hw
  have hi:a8 cd k=i.op:=by show(cd.getD k default).op=_;rw[hc.head]
  simp only[T.size]
  rw[show r.size+1+m'=(r.size+m')+1 by omega,jv,hi]
  have ih:=dA cd r w d (k+1) (A++[if i.op=30 then e else-1]) B m' l e hc.tail hr (by simp[hA]) (λh=>(hl h).app _)
  rw[show k+1+r.size=k+(r.size+1) by omega] at ih
  by_cases h30:i.op=30
  ·obtain⟨g1,g2⟩:=hl (h5 h30)
   have e1:(A++((T.plain i r).rz k l++B)).getD k 0=(l:Int):=by
    simp only[T.rz,if_pos h30,List.cons_append];exact cR _ _ _ _ hA
   have e2:(A++((T.plain i r).rz k l++B)).getD l 0=e:=by rw[n9 g1];exact g2
   rw[if_pos h30,e1,if_pos (by omega),Int.toNat_natCast,e2]
   simp only[T.rz,T.rq,List.cons_append]
   rw[bJ _ _ _ _ hA,if_pos h30]
   rw[if_pos h30] at ih
   simpa using ih
  ·rw[if_neg h30]
   simp only[T.rz,T.rq,if_neg h30,List.cons_append]
   rw[if_neg h30] at ih
   simpa using ih
 |.ite i a j r,w,d,k,A,B,m',l,e,hc,hw,hA,hl=>by
  obtain⟨h1,h2,h3,ha,hr⟩:=hw
  simp only[T.flat] at hc
  have hi:a8 cd k=27:=by show(cd.getD k default).op=_;rw[hc.head,h1]
  have hcj:=hc.tail.right
  rw[a.flat_length] at hcj
  have hj:a8 cd (k+1+a.size)=31:=by show(cd.getD (k+1+a.size) default).op=_;rw[hcj.head,h2]
  have hal:=a.rq_length (k+1) e
  simp only[T.size]
  rw[show a.size+r.size+2+m'=(a.size+(r.size+m'+1))+1 by omega,jv,hi,if_neg (by decide)]
  have ih1:=dA cd a w (d-1) (k+1) (A++[((k+a.size+1:Nat):Int)]) ((k:Int)::(r.rz (k+a.size+2) l++B)) (r.size+m'+1) l e hc.tail.left ha (by simp[hA]) (λh=>(hl h).app _)
  have ih2:=dA cd r w d (k+a.size+2) (A++(((k+a.size+1:Nat):Int)::(a.rq (k+1) e++[(k:Int)]))) B m' l e (by have:=hcj.tail;rw[show k+1+a.size+1=k+a.size+2 by omega] at this;exact this) hr (by simp only[List.length_append,List.length_cons,List.length_nil,hA,hal];omega) (λh=>(hl h).app _)
  simp only[T.rz,T.rq]
  rw[jv,hj,if_neg (by decide)] at ih1
  rw[show k+1+a.size+1=k+a.size+2 by omega] at ih1
  rw[show k+a.size+2+r.size=k+(a.size+r.size+2) by omega] at ih2
  have t1:A++(((k+a.size+1:Nat):Int)::(a.rz (k+1) l++(k:Int)::r.rz (k+a.size+2) l)++B)=A++[((k+a.size+1:Nat):Int)]++(a.rz (k+1) l++((k:Int)::(r.rz (k+a.size+2) l++B))):=by simp
  have t2:A++[((k+a.size+1:Nat):Int)]++(a.rq (k+1) e++((k:Int)::(r.rz (k+a.size+2) l++B)))=A++(((k+a.size+1:Nat):Int)::(a.rq (k+1) e++[(k:Int)]))++(r.rz (k+a.size+2) l++B):=by simp
  rw[t1,ih1,t2,ih2]
  simp
 |.loop i a j r,w,d,k,A,B,m',l,e,hc,hw,hA,hl=>by
  obtain⟨h1,h2,h3,ha,hr⟩:=hw
  simp only[T.flat] at hc
  have hi:a8 cd k=29:=by show(cd.getD k default).op=_;rw[hc.head,h1]
  have hcj:=hc.tail.right
  rw[a.flat_length] at hcj
  have hj:a8 cd (k+1+a.size)=31:=by show(cd.getD (k+1+a.size) default).op=_;rw[hcj.head,h2]
  have hal:=a.rq_length (k+1) ((k+a.size+1:Nat):Int)
  simp only[T.size]
  rw[show a.size+r.size+2+m'=(a.size+(r.size+m'+1))+1 by omega,jv,hi,if_neg (by decide)]
  have ih1:=dA cd a true (d-1) (k+1) (A++[((k+a.size+1:Nat):Int)]) ((k:Int)::(r.rz (k+a.size+2) l++B)) (r.size+m'+1) k ((k+a.size+1:Nat):Int) hc.tail.left ha (by simp[hA]) (λ_=>⟨by simp[hA],cR _ _ _ _ hA⟩)
  have ih2:=dA cd r w d (k+a.size+2) (A++(((k+a.size+1:Nat):Int)::(a.rq (k+1) ((k+a.size+1:Nat):Int)++[(k:Int)]))) B m' l e (by have:=hcj.tail;rw[show k+1+a.size+1=k+a.size+2 by omega] at this;exact this) hr (by simp only[List.length_append,List.length_cons,List.length_nil,hA,hal];omega) (λh=>(hl h).app _)
  simp only[T.rz,T.rq]
  rw[jv,hj,if_neg (by decide)] at ih1
  rw[show k+1+a.size+1=k+a.size+2 by omega] at ih1
  rw[show k+a.size+2+r.size=k+(a.size+r.size+2) by omega] at ih2
  have t1:A++(((k+a.size+1:Nat):Int)::(a.rz (k+1) k++(k:Int)::r.rz (k+a.size+2) l)++B)=A++[((k+a.size+1:Nat):Int)]++(a.rz (k+1) k++((k:Int)::(r.rz (k+a.size+2) l++B))):=by simp
  have t2:A++[((k+a.size+1:Nat):Int)]++(a.rq (k+1) ((k+a.size+1:Nat):Int)++((k:Int)::(r.rz (k+a.size+2) l++B)))=A++(((k+a.size+1:Nat):Int)::(a.rq (k+1) ((k+a.size+1:Nat):Int)++[(k:Int)]))++(r.rz (k+a.size+2) l++B):=by simp
  rw[t1,ih1,t2,ih2]
  simp
 |.ite2 i a x b j r,w,d,k,A,B,m',l,e,hc,hw,hA,hl=>by
  obtain⟨h1,hx,h2,h3,ha,hb,hr⟩:=hw
  simp only[T.flat] at hc
  have hi:a8 cd k=27:=by show(cd.getD k default).op=_;rw[hc.head,h1]
  have hcx:=hc.tail.right
  rw[a.flat_length] at hcx
  have hxo:a8 cd (k+1+a.size)=28:=by show(cd.getD (k+1+a.size) default).op=_;rw[hcx.head,hx]
  have hcj:=hcx.tail.right
  rw[b.flat_length] at hcj
  have hj:a8 cd (k+1+a.size+1+b.size)=31:=by show(cd.getD (k+1+a.size+1+b.size) default).op=_;rw[hcj.head,h2]
  have hal:=a.rq_length (k+1) e
  have hbl:=b.rq_length (k+1+a.size+1) e
  have r1:k+a.size+1=k+1+a.size:=by omega
  have r2:k+a.size+b.size+2=k+1+a.size+1+b.size:=by omega
  have r3:k+a.size+2=k+1+a.size+1:=by omega
  have r4:k+a.size+b.size+3=k+1+a.size+1+b.size+1:=by omega
  simp only[T.size,T.rz,T.rq]
  rw[r1,r2,r3,r4]
  rw[show a.size+b.size+r.size+3+m'=(a.size+(b.size+(r.size+m'+1)+1))+1 by omega,jv,hi,if_neg (by decide)]
  obtain⟨R,hR⟩:∃R,R=r.rz (k+1+a.size+1+b.size+1) l++B:=⟨_,rfl⟩
  have ih1:=dA cd a w (d-1) (k+1) (A++[((k+1+a.size:Nat):Int)]) (((k+1+a.size+1+b.size:Nat):Int)::(b.rz (k+1+a.size+1) l++(k:Int)::R)) (b.size+(r.size+m'+1)+1) l e hc.tail.left ha (by simp[hA]) (λh=>(hl h).app _)
  rw[jv,hxo,if_neg (by decide)] at ih1
  have ih2:=dA cd b w (d-1) (k+1+a.size+1) (A++(((k+1+a.size:Nat):Int)::(a.rq (k+1) e++[((k+1+a.size+1+b.size:Nat):Int)]))) ((k:Int)::R) (r.size+m'+1) l e hcx.tail.left hb (by simp only[List.length_append,List.length_cons,List.length_nil,hA,hal];omega) (λh=>(hl h).app _)
  rw[jv,hj,if_neg (by decide)] at ih2
  have ih3:=dA cd r w d (k+1+a.size+1+b.size+1) (A++(((k+1+a.size:Nat):Int)::(a.rq (k+1) e++(((k+1+a.size+1+b.size:Nat):Int)::(b.rq (k+1+a.size+1) e++[(k:Int)]))))) B m' l e hcj.tail hr (by simp[hA,hal,hbl];omega) (λh=>(hl h).app _)
  rw[<-hR] at ih3
  have t1:A++(((k+1+a.size:Nat):Int)::(a.rz (k+1) l++((k+1+a.size+1+b.size:Nat):Int)::(b.rz (k+1+a.size+1) l++(k:Int)::r.rz (k+1+a.size+1+b.size+1) l))++B)=A++[((k+1+a.size:Nat):Int)]++(a.rz (k+1) l++(((k+1+a.size+1+b.size:Nat):Int)::(b.rz (k+1+a.size+1) l++(k:Int)::R))):=by rw[hR];simp
  have t2:A++[((k+1+a.size:Nat):Int)]++(a.rq (k+1) e++(((k+1+a.size+1+b.size:Nat):Int)::(b.rz (k+1+a.size+1) l++(k:Int)::R)))=A++(((k+1+a.size:Nat):Int)::(a.rq (k+1) e++[((k+1+a.size+1+b.size:Nat):Int)]))++(b.rz (k+1+a.size+1) l++((k:Int)::R)):=by simp
  have t3:A++(((k+1+a.size:Nat):Int)::(a.rq (k+1) e++[((k+1+a.size+1+b.size:Nat):Int)]))++(b.rq (k+1+a.size+1) e++((k:Int)::R))=A++(((k+1+a.size:Nat):Int)::(a.rq (k+1) e++(((k+1+a.size+1+b.size:Nat):Int)::(b.rq (k+1+a.size+1) e++[(k:Int)]))))++R:=by simp
  rw[t1,ih1,t2,ih2,t3,ih3,show k+(a.size+b.size+r.size+3)=k+1+a.size+1+b.size+1+r.size by omega]
  simp
theorem su{cs:List In}{t:T}(ht:cs.map cO=t.flat)(hw:t.wf false 8):eU cs=some (t.rq 0 0):=by
 have hl:cs.length=t.size:=by rw[<-t.flat_length,<-ht,List.length_map]
 unfold eU
 have h1:=tz cs cs.length 0 ⟨List.replicate cs.length 0,[],[]⟩ (by omega)
 rw[List.drop_zero] at h1
 rw[h1,ht]
 have h2:=dw t.flat t false 8 0 [] 0 0 [] [] (λj hj=>by simp) hw rfl (λh=>by cases h)
 simp only[List.nil_append,Nat.add_zero,Nat.zero_add,List.headD_nil,List.replicate_zero,List.append_nil] at h2
 rw[hl,h2,jM]
 simp only[Option.bind_some]
 have h3:=o6 cs cs.length 0 (t.rz 0 0) (by omega)
 rw[List.drop_zero] at h3
 rw[h3,ht,hl]
 have h4:=dA t.flat t false 8 0 [] [] 0 0 0 (λj hj=>by simp) hw rfl (λh=>by cases h)
 simp only[List.nil_append,Nat.add_zero,Nat.zero_add,List.append_nil] at h4
 rw[h4,jv]
end Go.Proofs.YtidhfimbnjaceaaGreat