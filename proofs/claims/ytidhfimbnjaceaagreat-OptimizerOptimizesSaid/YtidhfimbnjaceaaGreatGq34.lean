/- A part of the proof of OptimizerOptimizes: LkE FvD LkG. No condition. -/
import Derived.Test.YtidhfimbnjaceaaGreatGq33
import Derived.Test.YtidhfimbnjaceaaGreatGq17
set_option linter.unusedSimpArgs false
set_option linter.unusedVariables false
set_option linter.constructorNameAsVariable false
set_option maxRecDepth 100000
set_option maxHeartbeats 4000000
namespace Go.Proofs.YtidhfimbnjaceaaGreat
open Go.RowKit
structure VR2(n m:Nat)(fs k:List In):Prop where
 eq:k=fs
 dis:fs.Pairwise λf g=>cE f g=false
 ok:∀f ∈ fs,A3 n m f
theorem kF{α:Type}{p q:α->Bool}:∀{l:List α},(∀x ∈ l,p x=q x)->l.filter p=l.filter q
 |[],_=>rfl
 |x::l,h=>by
  rw[List.filter_cons,List.filter_cons,h x (List.mem_cons_self ..),kF (λy hy=>h y (List.mem_cons_of_mem _ hy))]
theorem I2{α:Type}(p q:α->Bool)(l:List α):(l.any λx=>p x||q x)=(l.any p||l.any q):=by
 induction l with
 |nil=>rfl
 |cons x l ih=>simp only[List.any_cons,ih];cases p x<;>cases q x<;>simp
theorem I3{α:Type}{l:List α}{p:α->Bool}(h:∀x ∈ l,p x=false):l.any p=false:=by
 rw[List.any_eq_false];intro x hx;rw[h x hx];simp
theorem zF{n m:Nat}(xs:List In){f:In}(h:A3 n m f):(xs.any λx=>kb x f)=cY (fg xs) (kh xs) f:=by
 obtain⟨op,to,a,b,arg⟩:=f
 obtain⟨⟨hto0,hto1⟩,ha1,hb1,harg⟩:=h
 simp only at hto0 hto1 ha1 hb1 harg
 have e:∀x:In,kb x (op,to,a,b,arg)=(((decide (ar x.1 x.2.1=((to.toNat:Nat):Int))||(decide (0<=a)&&decide (ar x.1 x.2.1=((a.toNat:Nat):Int))))||(decide (0<=b)&&decide (ar x.1 x.2.1=((b.toNat:Nat):Int))))||(decide (op=3)&&(decide (x.1=4)&&decide (x.2.2.2.2=((arg.toNat:Nat):Int))))):=λx=>by
  unfold kb
  simp only
  generalize ar x.1 x.2.1=w
  rw[Bool.eq_iff_iff]
  simp only[Bool.or_eq_true,Bool.and_eq_true,decide_eq_true_eq]
  constructor
  ·rintro (⟨h0,(h1|h1)|h1⟩|⟨⟨h1,h2⟩,h3⟩)
   ·exact .inl (.inl (.inl (by omega)))
   ·exact .inl (.inl (.inr (by omega)))
   ·exact .inl (.inr (by omega))
   ·have:=harg h2;exact .inr ⟨h2,h1,by omega⟩
  ·rintro (((h1|h1)|h1)|⟨h1,h2,h3⟩)
   ·exact .inl ⟨by omega,.inl (.inl (by omega))⟩
   ·exact .inl ⟨by omega,.inl (.inr (by omega))⟩
   ·exact .inl ⟨by omega,.inr (by omega)⟩
   ·have:=harg h1;exact .inr ⟨⟨h2,h1⟩,by omega⟩
 simp only[e,I2]
 unfold cY
 simp only
 have one:∀(c:Bool) (p:In->Bool),(xs.any λx=>c&&p x)=(c&&xs.any p):=λc p=>by cases c<;>simp
 rw[one,one,one]
 rfl
theorem tG{n m:Nat}(xs fs:List In)(h:∀f ∈ fs,A3 n m f):eH kb fs xs=ew (fg xs) (kh xs) fs:=
 kF λf hf=>by rw[zF xs (h f hf)]
theorem lO{f g:In}:cE f g=true↔f.1=g.1/\f.2.2.1=g.2.2.1/\f.2.2.2.1=g.2.2.2.1/\f.2.2.2.2=g.2.2.2.2:=by
 rw[tU];simp
theorem IH{t:List In}(h:t.Pairwise λf g=>cE f g=false):∀{f g:In},f ∈ t->g ∈ t->cE f g=true->f=g:=by
 induction h with
 |nil=>intro f g hf;cases hf
 |@cons x l h1 h2 ih=>
  intro f g hf hg hc
  rcases List.mem_cons.1 hf with e1|h3<;>rcases List.mem_cons.1 hg with e2|h4
  ·rw[e1,e2]
  ·rw[e1,h1 g h4] at hc;cases hc
  ·have:=h1 f h3
   rw[e2] at hc ⊢
   rw[lO] at hc
   have h':cE x f=true:=lO.2 ⟨hc.1.symm,hc.2.1.symm,hc.2.2.1.symm,hc.2.2.2.symm⟩
   rw[this] at h';cases h'
  ·exact ih h3 h4 hc
theorem wy{t:List In}(h:t.Pairwise λf g=>cE f g=false)(f:In):(t.any λg=>dL f g)=ks t f:=by
 unfold ks
 rcases gu (λg=>cE g f) t 0 with⟨h1,h2⟩|⟨j,hj,h1,g0,h2,h3⟩
 ·have:decide (0<=idx (λg=>cE g f) t 0)=false:=by simp;omega
  rw[this,Bool.false_and]
  refine I3 λg hg=>?_
  cases he:dL f g
  ·rfl
  ·have he':f=g:=by simpa [dL] using he
   subst he'
   have:=h2 f hg
   rw[lO.2 ⟨rfl,rfl,rfl,rfl⟩] at this;cases this
 ·rw[h1]
  have h0:(0:Int)<=((0+j:Nat):Int):=by omega
  rw[decide_eq_true h0,Bool.true_and,Int.toNat_natCast,Nat.zero_add]
  have hgd:t.getD j dj=g0:=by rw[List.getD_eq_getElem?_getD,h2];rfl
  have hg:t.getD j dj ∈ t:=by rw[hgd];exact List.mem_of_getElem? h2
  have hc:cE (t.getD j dj) f=true:=by rw[hgd];exact h3
  rw[Bool.eq_iff_iff,List.any_eq_true,decide_eq_true_eq]
  constructor
  ·rintro ⟨g,hg',he⟩
   have he':f=g:=by simpa [dL] using he
   subst he'
   rw[IH h hg hg' hc]
  ·intro hto
   refine⟨_,hg,?_⟩
   have:=lO.1 hc
   have:f=t.getD j dj:=Prod.ext this.1.symm (Prod.ext hto.symm (Prod.ext this.2.1.symm (Prod.ext this.2.2.1.symm this.2.2.2.symm)))
   rw[<-this];simp[dL]
def vT(x:In)(k:List In):Int:=if di x.1=true then idx (λf=>cE f x) k 0 else-1
def sF(x:In)(k k':List In):Option (In×List In):=
 if 0<=vT x k'/\(k'.getD (vT x k').toNat dj).2.1=x.2.1 then none
 else some (if 0<=vT x k' then(36,x.2.1,(k'.getD (vT x k').toNat dj).2.1,-1,0) else x,
  ew (fg [x]) (kh [x]) k'++(if di x.1=true/\vT x k'<0/\x.2.1≠x.2.2.1/\x.2.1≠x.2.2.2.1 then[x] else[]))
theorem ph:∀k:Nat,k<39->di (k:Int)=true->(bL k).getD 1 false=true:=by decide
theorem zV{op:Int}(h:op=27\/op=28\/op=29\/op=31):di op=false:=by rcases h with rfl|rfl|rfl|rfl<;>rfl
theorem UZ:∀op:Int,di op=true->op≠4:=λop h e=>by subst e;revert h;decide
theorem r6{regs nA:Nat}{par:Int}{cs:List In}{pt:List Int}(hin:∀x ∈ cs,mY regs par nA x)(harg:∀x ∈ cs,0<=x.2.2.2.2)(hsh:fF cs pt cs.length 0 0=some 0):
  ∃a b,bV kb dL dZ cs pt cs 0 ⟨[],[],[]⟩=some a/\tP (λk xs=>ew (fg xs) (kh xs) k) jt sF cs pt cs 0 ⟨[],[],[]⟩=some b/\a.out=b.out:=by
 refine nJ (R:=VR2 regs nA) (λfs k xs _ h=>?_) (λfs k t k2 h h2=>?_) (λx hx fs k fs' k' h h' hcase=>?_) ⟨rfl,.nil,λf hf=>(by cases hf)⟩ hsh
 ·obtain⟨rfl,h1,h2⟩:=h
  refine⟨(tG xs k h2).symm,h1.filter _,λf hf=>h2 f (List.mem_filter.1 hf).1⟩
 ·obtain⟨rfl,h1,h3⟩:=h
  obtain⟨rfl,h4,h5⟩:=h2
  refine⟨?_,h1.filter _,λf hf=>h3 f (List.mem_filter.1 hf).1⟩
  exact(kF λf hf=>wy h4 f).symm
 obtain⟨rfl,hd,hok⟩:=h
 obtain⟨rfl,hd',hok'⟩:=h'
 have hc:=hin x hx
 have keep1:∀y:In,(∀i,fg [y] i=fg [x] i)->(∀i,kh [y] i=kh [x] i)->eH kb k' [y]=ew (fg [x]) (kh [x]) k':=λy e1 e2=>by
  rw[tG [y] k' hok',funext e1,funext e2]
 have good:VR2 regs nA (ew (fg [x]) (kh [x]) k') (ew (fg [x]) (kh [x]) k'):=⟨rfl,hd'.filter _,λf hf=>hok' f (List.mem_filter.1 hf).1⟩
 by_cases he:di x.1=true
 ·have hns:¬mu x.1:=λh=>by
   have:di x.1=false:=zV h
   rw[he] at this;cases this
  rcases hcase with h|⟨-,rfl⟩
  ·exact absurd h hns
  have hsx:vT x k'=idx (λf=>cE f x) k' 0:=if_pos he
  have hto:0<=x.2.1/\x.2.1<regs:=by
   have:=hc.to
   obtain⟨q,hq⟩:∃q:Nat,x.1=(q:Int):=⟨x.1.toNat,by have:=hc.op;omega⟩
   rw[hq] at he
   rw[hq,Int.toNat_natCast,if_pos (ph q (by have:=hc.op;omega) he)] at this
   exact this
  have hwx:ar x.1 x.2.1=x.2.1:=by
   obtain⟨q,hq⟩:∃q:Nat,x.1=(q:Int):=⟨x.1.toNat,by have:=hc.op;omega⟩
   rw[hq] at he
   unfold ar
   rw[hq,Int.toNat_natCast,if_pos (ph q (by have:=hc.op;omega) he)]
  by_cases hi:0<=idx (λf=>cE f x) k' 0
  ·have hdI:(k'.getD (idx (λf=>cE f x) k' 0).toNat dj)=(k'.getD (idx (λf=>cE f x) k' 0).toNat (0,0,0,0,0)):=rfl
   have hV:dZ x k'=if(k'.getD (idx (λf=>cE f x) k' 0).toNat (0,0,0,0,0)).2.1=x.2.1 then(x,false,[]) else((36,x.2.1,(k'.getD (idx (λf=>cE f x) k' 0).toNat (0,0,0,0,0)).2.1,-1,0),true,[]):=by
    unfold dZ;rw[if_pos he,if_pos hi]
   have hS:sF x k' k'=if(k'.getD (idx (λf=>cE f x) k' 0).toNat (0,0,0,0,0)).2.1=x.2.1 then none else some ((36,x.2.1,(k'.getD (idx (λf=>cE f x) k' 0).toNat (0,0,0,0,0)).2.1,-1,0),ew (fg [x]) (kh [x]) k'):=by
    unfold sF
    rw[hsx,hdI,if_pos hi,if_neg (show ¬(di x.1=true/\idx (λf=>cE f x) k' 0<0/\x.2.1≠x.2.2.1/\x.2.1≠x.2.2.2.1) by omega),List.append_nil]
    by_cases hz:(k'.getD (idx (λf=>cE f x) k' 0).toNat (0,0,0,0,0)).2.1=x.2.1
    ·rw[if_pos ⟨hi,hz⟩,if_pos hz]
    ·rw[if_neg (λh=>hz h.2),if_neg hz]
   rw[hV,hS]
   generalize (k'.getD (idx (λf=>cE f x) k' 0).toNat (0,0,0,0,0)).2.1=z
   by_cases hz:z=x.2.1
   ·simp only[if_pos hz,Bool.false_eq_true,if_false]
    exact⟨trivial,hns⟩
   ·simp only[if_neg hz,if_true]
    refine⟨_,rfl,?_⟩
    rw[List.append_nil,keep1]
    ·exact good
    ·intro i
     simp only[fg,List.any_cons,List.any_nil,Bool.or_false,hwx]
     rfl
    ·intro i
     simp only[kh,List.any_cons,List.any_nil,Bool.or_false]
     rw[decide_eq_false (UZ _ he)]
     rfl
  ·have hnew:∀f ∈ k',cE f x=false:=by
    rcases gu (λg=>cE g x) k' 0 with⟨h1,h2⟩|⟨j,hj,h1,_⟩
    ·exact h2
    ·omega
   have hV:dZ x k'=if x.2.1=x.2.2.1\/x.2.1=x.2.2.2.1 then(x,true,[]) else(x,true,[x]):=by
    unfold dZ;rw[if_pos he,if_neg hi]
   have hS:sF x k' k'=some (x,ew (fg [x]) (kh [x]) k'++if x.2.1=x.2.2.1\/x.2.1=x.2.2.2.1 then[] else[x]):=by
    unfold sF
    rw[hsx,if_neg (λh=>hi h.1),if_neg hi]
    congr 3
    by_cases hq:x.2.1=x.2.2.1\/x.2.1=x.2.2.2.1
    ·rw[if_pos hq,if_neg (λh=>hq.elim h.2.2.1 h.2.2.2)]
    ·rw[if_neg hq,if_pos ⟨he,by omega,λh=>hq (.inl h),λh=>hq (.inr h)⟩]
   rw[hV,hS]
   by_cases hq:x.2.1=x.2.2.1\/x.2.1=x.2.2.2.1
   ·simp only[if_pos hq,if_true]
    refine⟨_,rfl,?_⟩
    rw[List.append_nil,List.append_nil,keep1 x (λ_=>rfl) (λ_=>rfl)]
    exact good
   ·simp only[if_neg hq,if_true]
    refine⟨_,rfl,?_⟩
    rw[keep1 x (λ_=>rfl) (λ_=>rfl)]
    refine⟨rfl,?_,λf hf=>?_⟩
    ·rw[List.pairwise_append]
     refine⟨hd'.filter _,List.pairwise_singleton _ _,λf hf g hg=>?_⟩
     rw[List.mem_singleton] at hg
     subst hg
     exact hnew f (List.mem_filter.1 hf).1
    ·rcases List.mem_append.1 hf with hf|hf
     ·exact hok' f (List.mem_filter.1 hf).1
     ·rw[List.mem_singleton] at hf
      subst hf
      refine⟨hto,?_,?_,λh3=>⟨harg _ hx,?_⟩⟩
      ·have:=hc.a;split at this<;>omega
      ·have:=hc.b;split at this<;>omega
      ·have:=hc.arg
       rw[h3] at this
       have hm:bZ nA par 3=nA-1:=by unfold bZ;simp
       rw[hm] at this;omega
 ·have hV:dZ x k=(x,true,[]):=by unfold dZ;rw[if_neg he]
  have hS:sF x k k'=some (x,ew (fg [x]) (kh [x]) k'):=by
   unfold sF vT
   rw[if_neg he,if_neg (by omega),if_neg (by omega),if_neg (λh=>he h.1),List.append_nil]
  rw[hV,hS]
  simp only[if_true]
  refine⟨_,rfl,?_⟩
  rw[List.append_nil,keep1 x (λ_=>rfl) (λ_=>rfl)]
  exact good
def fO(st:List (List In))(i _j:Nat):AV:= .fs 5 (st.reverse.getD i []).length (cC (st.reverse.getD i []))
theorem dK(st:List (List In))(i j:Nat):(fO st i j).pu 3=true:=rfl
theorem lM(st:List (List In))(t:List In)(i j:Nat)(hi:i<st.length):fO (t::st) i j=fO st i j:=by
 unfold fO;rw[List.reverse_cons,aF (by simpa using hi)]
theorem pg(st:List (List In))(t:List In)(j:Nat):fO (t::st) st.length j= .fs 5 t.length (cC t):=by
 unfold fO;rw[List.reverse_cons]
 have:=aG (l:=st.reverse) (x:=t) (d:=[])
 rw[List.length_reverse] at this
 rw[this]
def kl(n m k:Nat)(l:List In):Prop:=l.length<=k/\∀f ∈ l,A3 n m f
structure tX(n m k:Nat)(s:rM (List In)):Prop where
 out:s.out.length<=k
 st:s.st.length<=k
 fk:kl n m k s.k
 kst:∀t ∈ s.st,kl n m k t
theorem kl.mono{n m k k':Nat}{l:List In}(h:kl n m k l)(hk:k<=k'):kl n m k' l:=⟨Nat.le_trans h.1 hk,h.2⟩
theorem kl.filter{n m k:Nat}{l:List In}(h:kl n m k l)(p:In->Bool):kl n m k (l.filter p):=⟨Nat.le_trans (List.length_filter_le _ _) h.1,λf hf=>h.2 f (List.mem_filter.1 hf).1⟩
def X3(k xs:List In):List In:=ew (fg xs) (kh xs) k
theorem wi{n m:Nat}{cs:List In}{pt:List Int}{k i:Nat}{op:Int}{l:List In}{st:List (List In)}{q:List In×List (List In)}(h1:st.length<=k)(h2:kl n m k l)(h3:∀t ∈ st,kl n m k t)
  (h:zO X3 jt cs pt i op l st=some q):q.2.length<=k+1/\kl n m k q.1/\∀t ∈ q.2,kl n m k t:=by
 unfold zO at h
 split at h
 ·cases h
  refine⟨by simp;omega,h2,λt ht=>?_⟩
  rcases List.mem_cons.1 ht with rfl|ht
  ·exact h2
  ·exact h3 t ht
 split at h
 ·split at h
  ·rename_i t r
   cases h
   refine⟨by simp at h1 ⊢;omega,h3 t (List.mem_cons_self ..),λt' ht=>?_⟩
   rcases List.mem_cons.1 ht with rfl|ht
   ·exact h2
   ·exact h3 t' (List.mem_cons_of_mem _ ht)
  ·cases h
 split at h
 ·split at h
  ·cases h;exact⟨by simp only;omega,h2.filter _,h3⟩
  ·cases h
 split at h
 ·split at h
  ·split at h
   ·cases h;exact⟨by simp only;omega,h2.filter _,h3⟩
   ·split at h
    ·rename_i t r
     cases h
     exact⟨by simp at h1 ⊢;omega,h2.filter _,λt' ht=>h3 t' (List.mem_cons_of_mem _ ht)⟩
    ·cases h
  ·cases h
 cases h
 exact⟨by simp only;omega,h2,h3⟩
theorem uc{n m k:Nat}{x:In}{s:rM (List In)}{q:List In×List (List In)}(h:tX n m k s)(hx:di x.1=true->A3 n m x)(h1:q.2.length<=k+1)(h2:kl n m k q.1)(h3:∀t ∈ q.2,kl n m k t):tX n m (k+1) (mE sF x s q):=by
 have ho:=h.out
 unfold mE sF
 split
 ·rename_i r hr
  split at hr
  ·cases hr
  cases hr
  refine⟨by simp;omega,h1,?_,λt ht=>(h3 t ht).mono (by omega)⟩
  simp only
  have hf:=h2.filter (λf=> !cY (fg [x]) (kh [x]) f)
  split
  ·rename_i hc
   refine⟨by rw[List.length_append];have:=hf.1;simp only[List.length_cons,List.length_nil,ew];omega,λf hf'=>?_⟩
   rcases List.mem_append.1 hf' with h'|h'
   ·exact hf.2 f h'
   ·rw[List.mem_singleton] at h';subst h';exact hx hc.1
  ·rw[List.append_nil];exact hf.mono (by omega)
 ·exact⟨by simp only;omega,h1,h2.mono (by omega),λt ht=>(h3 t ht).mono (by omega)⟩
theorem qE(H:AH)(b:Nat):min H.low b<=(H.kill b).low:=by
 unfold AH.kill
 split
 ·exact Nat.le_refl _
 ·exact Nat.min_le_left _ _
theorem vI{x:AB}{L:List In}{y:In}{l:List AV}(hl:l.length=5)(hn:L.length<1000000)(h:∀j,j<5->l[j]?.getD .u=qG y j){i j:Nat}(hi:i<L.length+1)(hj:j<5):
  ((x.app 0 (.fn (L.length*5) λi=>cC L (i / 5) (i%5))).app (L.length*5) (.li l)).get (i*5+j)=cC (L++[y]) i j:=by
 rw[AB.app_get _ _ _ _ (by simp only[dm.len];omega) (by simp only[dm.len];omega)]
 by_cases h2:i<L.length
 ·rw[if_neg (by omega),AB.app_get _ _ _ _ (by simp only[dm.len];omega) (by simp only[dm.len];omega),if_pos (by omega),Nat.sub_zero]
  show cC L ((i*5+j) / 5) ((i*5+j)%5)=_
  rw[show(i*5+j) / 5=i by omega,show(i*5+j)%5=j by omega]
  unfold cC
  rw[aF h2]
 ·obtain rfl:i=L.length:=by omega
  rw[if_pos (by omega)]
  show l[L.length*5+j-L.length*5]?.getD .u=_
  rw[show L.length*5+j-L.length*5=j by omega,h j hj]
  unfold cC
  rw[aG]
theorem sj{na:Nat}{ra:Nat->Nat->AV}{regs:Nat}{par:Int}{cs:List In}{pt:List Int}{xc p2 p3:AV}{fin:rM (List In)}(hna:na<1000000)(hra:∀i j,i<na->j<2->(ra i j).cell=true)(hcs:cs.length<100000)(hr:regs<1000000)
  (hck:a7 Tryz.prog 26 [ae na ra regs par cs] [.v xc,.v (.n .i64 0)])
  (hpt:a7 Tryz.prog 27 [.fs 5 cs.length (cC cs)] [.v (.fs 1 pt.length (iC .i64 pt)),.v p2,.v p3]) (hptl:pt.length=cs.length)
  (hin:∀x ∈ cs,(0<=x.1/\x.1<39)/\ar x.1 x.2.1<regs) (hin4:∀x ∈ cs,x.1=4->0<=x.2.2.2.2/\x.2.2.2.2<na) (hinE:∀x ∈ cs,di x.1=true->A3 regs na x) (hgo:tP X3 jt sF cs pt cs 0 ⟨[],[],[]⟩=some fin):
  a7 Tryz.prog 16 [ae na ra regs par cs] [.a [.v (.fs 2 na ra),.v (.n .i64 regs),.v (.n .i64 par),.o 37 5 fin.out.length 0 (cC fin.out)],.v (.n .i64 0)]:=by
 have hin':=hin
 have hcp:=gg (na:=na) (ra:=ra) (regs:=regs) (par:=par) (cs:=cs) hna hra (by omega)
 refine af ay K1 ⟨by simp,by decide⟩ ?_
 simp only[aZ,ae] at hck hcp ⊢
 repeat first|with_reducible refine ab ?_|simp only[go_sem,simprocAttr]
 refine cV hck ?_
 repeat first|with_reducible refine ab ?_|simp only[decide_true,go_sem,simprocAttr]
 refine cV hpt ?_
 repeat first|with_reducible refine ab ?_|simp only[go_sem,simprocAttr]
 refine cV hcp ?_
 repeat first|with_reducible refine ab ?_|simp only[go_sem,simprocAttr]
 refine GA.wk (Wk.mk (L:=[(1,.p 0 0),(2,.p 1 0),(3,.n .i64 0),(6,.fs 1 pt.length (iC .i64 pt)),(9,.p 2 0),(10,.fs 5 0 (cC [])),(11,.sl0),(12,.n .i64 0)]) (bl:=[aq 0 25 [.fs 2 na ra,.n .i64 regs,.n .i64 par,.sl0],aq 0 25 [.sl0,.n .i64 0,.n .i64 0,.sl0],aq 0 25 [.fs 2 na ra,.n .i64 regs,.n .i64 par,.fs 5 cs.length (cC cs)]]) [4,1,0] [2] ?_ ?_ ?_) ?_
 ·simp only[aB,aD,go_sem,simprocAttr]
  repeat' refine aa ?_ ?_
  all_goals first|exact bi|skip
  exact .cv (.sl0 _ _)
 ·exact(.cons rfl (.lstw (x:=_) (by simp only[go_sem,simprocAttr]<;>rfl) (by rfl) (by rfl) (by rfl) (by rfl) (by rfl) (by rfl) (by simp) (λi hi=>(by rcases Iw hi with rfl|rfl|rfl|rfl<;>(simp only[go_sem,simprocAttr];first|exact Wv.same rfl|exact Wv.os rfl|exact Wv.cv (Cv.own (ty:=93) (z:=0) (by simp) (by simp only[go_sem,simprocAttr]) hra))))) (.cons rfl (.ls) (.cons rfl (.ls) .nil)))
 ·simp
 refine GA.wk (Wk.nilb 2 3 5 37 (x:=aq 0 25 [.fs 2 na ra,.n .i64 regs,.n .i64 par,.sl0]) (by simp only[go_sem,simprocAttr]) (by simp only[go_sem,simprocAttr]) (by decide) (by decide) (by simp only[go_sem,simprocAttr]) rfl (by simp only[go_sem,simprocAttr])) ?_
 refine GA.wk (Wk.nil 11 1 65 (by simp only[go_sem,simprocAttr]) (by decide) (by simp only[go_sem,simprocAttr])) ?_
 simp only[cA,go_sem,simprocAttr]
 refine GA.loop (I:=λmm e H=>∃(i:Nat) (s:rM (List In)),mm=cs.length-i/\i<=cs.length/\tX regs na i s/\tP X3 jt sF cs pt (cs.drop i) i s=some fin/\e=au [(1,.p 0 0),(2,.p 1 0),(3,.n .i64 0),(6,.fs 1 pt.length (iC .i64 pt)),(9,.p 2 0),(10,.fs 5 s.k.length (cC s.k)),(11,.os 4 s.st.length),(12,.n .i64 i)]/\H=ao [am 65 1 s.st.length 0 (fO s.st),am 37 5 s.out.length 0 (cC s.out),aq 0 25 [.fs 2 na ra,.n .i64 regs,.n .i64 par,.os 3 s.out.length],aq 0 25 [.sl0,.n .i64 0,.n .i64 0,.sl0],aq 0 25 [.fs 2 na ra,.n .i64 regs,.n .i64 par,.fs 5 cs.length (cC cs)]]) (Wk.mk [4,3,2,1,0] [] ?_ ?_ ?_) ⟨0,⟨[],[],[]⟩,rfl,by omega,⟨by simp,by simp,⟨by simp,by simp⟩,by simp⟩,hgo,rfl,rfl⟩ ?_
 ·simp only[aB,aD,go_sem,simprocAttr]
  repeat' refine aa ?_ ?_
  all_goals first|exact bi|skip
 ·exact(.cons rfl (.r0) (.cons rfl (.r0) (.cons rfl (.w4) (.cons rfl (.ls) (.cons rfl (.ls) .nil)))))
 ·simp
 rintro mm e H ⟨k,⟨out,l,st⟩,rfl,hk,hinv,hs,rfl,rfl⟩
 have⟨ho,hst,hl,hlst⟩:=hinv
 simp only at ho hst hl hlst
 repeat first|with_reducible refine ab ?_|simp only[go_sem,simprocAttr]
 refine⟨λh=>?_,λh=>?_⟩
 ·have hkn:k<cs.length:=by omega
  have h0:(0:Int)<=(k:Int):=by omega
  have hk1:k+1<=cs.length:=hkn
  have hkp:k<pt.length:=by omega
  have hkpi:(k:Int)<(pt.length:Int):=by omega
  have hm:cs.getD k (0,0,0,0,0) ∈ cs:=by rw[List.getD_eq_getElem?_getD,List.getElem?_eq_getElem hkn];exact List.getElem_mem _
  rw[bw (d:=(0,0,0,0,0)) hkn,tP] at hs
  have htd:(cs.take (k+1)).drop k=[cs.getD k (0,0,0,0,0)]:=by
   rw[c9 (d:=(0,0,0,0,0)) hkn,List.drop_append_of_le_length (by rw[List.length_take];omega),List.drop_eq_nil_of_le (by rw[List.length_take];omega)];rfl
  obtain⟨s2,hsw,hs⟩:=Option.bind_eq_some_iff.1 hs
  have hcc0:=gG cs k
  have hcc1:=kG cs k
  have hcc2:=lQ cs k
  have hcc3:=lP cs k
  have hcc4:=lu cs k
  have hcall:=jZ (n:=regs) (m:=na) (w:=fg ((cs.take (k+1)).drop k)) (ch:=kh ((cs.take (k+1)).drop k))
  generalize cs.getD k (0,0,0,0,0)=x at hsw hcc0 hcc1 hcc2 hcc3 hcc4 hm htd
  obtain⟨hxo,hxw⟩:=hin x hm
  have hxE:=hinE x hm
  unfold oa at hsw
  obtain⟨qq,hsw,hfin⟩:=Option.map_eq_some_iff.1 hsw
  obtain⟨hq1,hq2,hq3⟩:=wi hst hl hlst hsw
  have key:tX regs na (k+1) s2:=hfin ▸ uc hinv hxE hq1 hq2 hq3
  obtain⟨opc,to,a,b,arg⟩:=x
  simp only at hsw hcc0 hcc1 hcc2 hcc3 hcc4 hxo hxw hxE
  (try simp only[h0,h,hcc0,hcc1,hcc2,hcc3,hcc4,go_sem,simprocAttr])
  iterate 11 (with_reducible refine GA.go ay rfl ?_;try simp only[h0,h,hcc0,hcc1,hcc2,hcc3,hcc4,go_sem,simprocAttr])
  have hls:(st.length+1)*1<1099511627776/\(st.length+1)*24<=140737488355328/\st.length+1<=9223372036854775807/\st.length*1+1<1099511627776/\st.length+1<1099511627776:=by omega
  have hll:=hl.1
  refine GA.wk (Wk.mk (L:=[(1,.p 0 0),(2,.p 1 0),(3,.n .i64 0),(6,.fs 1 pt.length (iC .i64 pt)),(9,.p 2 0),(10,.fs 5 l.length (cC l)),(11,.os 4 st.length),(12,.n .i64 k),(13,.p 5 0),(14,.n .i64 st.length),(52,.n .i64 opc)]) (bl:=[aq 0 37 [.n .i64 opc,.n .i64 to,.n .i64 a,.n .i64 b,.n .u32 arg],am 65 1 st.length 0 (fO st),am 37 5 out.length 0 (cC out),aq 0 25 [.fs 2 na ra,.n .i64 regs,.n .i64 par,.os 3 out.length],aq 0 25 [.sl0,.n .i64 0,.n .i64 0,.sl0],aq 0 25 [.fs 2 na ra,.n .i64 regs,.n .i64 par,.fs 5 cs.length (cC cs)]]) [5,4,3,2,1,0] [] ?_ ?_ ?_) ?_
  ·simp only[aB,aD,go_sem,simprocAttr]
   repeat' refine aa ?_ ?_
   all_goals first|exact bi|skip
  ·exact(.cons rfl (.l5) (.cons rfl (.k2 (λi j _ hj=>dK _ _ _)) (.cons rfl (.k5) (.cons rfl (.w4) (.cons rfl (.ls) (.cons rfl (.ls) .nil))))))
  ·simp
  refine GA.cutQ (au [(1,.p 0 0),(2,.p 1 0),(3,.n .i64 0),(6,.fs 1 pt.length (iC .i64 pt)),(9,.p 2 0),(10,.fs 5 qq.1.length (cC qq.1)),(11,.os 4 qq.2.length),(12,.n .i64 k),(13,.p 5 0)]) (ao [aq 0 37 [.n .i64 opc,.n .i64 to,.n .i64 a,.n .i64 b,.n .u32 arg],am 65 1 qq.2.length 0 (fO qq.2),am 37 5 out.length 0 (cC out),aq 0 25 [.fs 2 na ra,.n .i64 regs,.n .i64 par,.os 3 out.length],aq 0 25 [.sl0,.n .i64 0,.n .i64 0,.sl0],aq 0 25 [.fs 2 na ra,.n .i64 regs,.n .i64 par,.fs 5 cs.length (cC cs)]]) ?_ ?_
  rotate_left
  ·intro e' H' hw
   refine GA.wk hw ?_
   clear hsw
   have hql:=hq2.1
   have hol:(out.length+1)*5<1099511627776/\(out.length+1)*40<=140737488355328/\out.length+1<=9223372036854775807/\out.length*5+5<1099511627776:=by omega
   have endd:∀(yop yto ya yb yarg:Int) (L:List In) (e1:Tr AV) (H1:AH) (Q:AE->Tr AV->AH->Prop),s2=⟨out++[(yop,yto,ya,yb,yarg)],L,qq.2⟩->Wk 206 e1 H1 (au [(1,.p 0 0),(2,.p 1 0),(3,.n .i64 0),(6,.fs 1 pt.length (iC .i64 pt)),(9,.p 2 0),(10,.fs 5 L.length (cC L)),(11,.os 4 qq.2.length),(12,.n .i64 k),(16,.p 6 0)]) (ao [aq 0 37 [.n .i64 yop,.n .i64 yto,.n .i64 ya,.n .i64 yb,.n .u32 yarg],aq 0 37 [.n .i64 opc,.n .i64 to,.n .i64 a,.n .i64 b,.n .u32 arg],am 65 1 qq.2.length 0 (fO qq.2),am 37 5 out.length 0 (cC out),aq 0 25 [.fs 2 na ra,.n .i64 regs,.n .i64 par,.os 3 out.length],aq 0 25 [.sl0,.n .i64 0,.n .i64 0,.sl0],aq 0 25 [.fs 2 na ra,.n .i64 regs,.n .i64 par,.fs 5 cs.length (cC cs)]])->(∀e' H',Wk 206 e' H' (au [(1,.p 0 0),(2,.p 1 0),(3,.n .i64 0),(6,.fs 1 pt.length (iC .i64 pt)),(9,.p 2 0),(10,.fs 5 s2.k.length (cC s2.k)),(11,.os 4 s2.st.length),(12,.n .i64 k)]) (ao [am 65 1 s2.st.length 0 (fO s2.st),am 37 5 s2.out.length 0 (cC s2.out),aq 0 25 [.fs 2 na ra,.n .i64 regs,.n .i64 par,.os 3 s2.out.length],aq 0 25 [.sl0,.n .i64 0,.n .i64 0,.sl0],aq 0 25 [.fs 2 na ra,.n .i64 regs,.n .i64 par,.fs 5 cs.length (cC cs)]])->Q .normal e' H')->GA Tryz.prog 206 (aj Tryz.prog 16) (.reg rN) e1 H1 Q:=by
    intro yop yto ya yb yarg L e1 H1 Q hs2 hw1 hq
    refine GA.wk hw1 (GA.cutQ _ _ ?_ hq)
    subst hs2
    repeat first|with_reducible refine ab ?_|simp only[hol.1,hol.2.1,hol.2.2.1,hol.2.2.2,decide_true,go_sem,simprocAttr]
    refine Wk.mk [4,8,2,1,0] [] ?_ ?_ ?_
    ·simp only[aB,aD,go_sem,simprocAttr]
     repeat' refine aa ?_ ?_
     all_goals first|exact bi|skip
    ·refine(.cons rfl (.k2 (λi j _ hj=>dK _ _ _)) (.cons rfl (.snoc (by simp only[go_sem,simprocAttr]<;>rfl) (by simp) (by rfl) rfl (by decide) (by omega) (λi j hi _=>by unfold cC;rw[aF hi]) (λj hj=>?_) (λi j _ hj=>by rcases cJ hj with rfl|rfl|rfl|rfl|rfl<;>rfl)) (.cons rfl (.w4) (.cons rfl (.ls) (.cons rfl (.ls) .nil)))))
     unfold cC;rw[aG];rcases cJ hj with rfl|rfl|rfl|rfl|rfl<;>rfl
    ·simp
   have hadd:IntKind.wrap .i64 ((k:Int)+1)=((k+1:Nat):Int):=by rw[b8 (by omega)];omega
   have mid:∀(yop yto ya yb yarg ix:Int) (e1:Tr AV) (H1:AH) (Q:AE->Tr AV->AH->Prop),Wk 206 e1 H1 (au [(1,.p 0 0),(2,.p 1 0),(3,.n .i64 0),(6,.fs 1 pt.length (iC .i64 pt)),(9,.p 2 0),(10,.fs 5 qq.1.length (cC qq.1)),(11,.os 4 qq.2.length),(12,.n .i64 k),(13,.p 5 0),(15,.n .i64 ix),(16,.p 6 0)]) (ao [aq 0 37 [.n .i64 yop,.n .i64 yto,.n .i64 ya,.n .i64 yb,.n .u32 yarg],aq 0 37 [.n .i64 opc,.n .i64 to,.n .i64 a,.n .i64 b,.n .u32 arg],am 65 1 qq.2.length 0 (fO qq.2),am 37 5 out.length 0 (cC out),aq 0 25 [.fs 2 na ra,.n .i64 regs,.n .i64 par,.os 3 out.length],aq 0 25 [.sl0,.n .i64 0,.n .i64 0,.sl0],aq 0 25 [.fs 2 na ra,.n .i64 regs,.n .i64 par,.fs 5 cs.length (cC cs)]])->s2=⟨out++[(yop,yto,ya,yb,yarg)],ew (fg [(opc,to,a,b,arg)]) (kh [(opc,to,a,b,arg)]) qq.1++(if di opc=true/\ix<0/\to≠a/\to≠b then[(opc,to,a,b,arg)] else[]),qq.2⟩->(∀e' H',Wk 206 e' H' (au [(1,.p 0 0),(2,.p 1 0),(3,.n .i64 0),(6,.fs 1 pt.length (iC .i64 pt)),(9,.p 2 0),(10,.fs 5 s2.k.length (cC s2.k)),(11,.os 4 s2.st.length),(12,.n .i64 k)]) (ao [am 65 1 s2.st.length 0 (fO s2.st),am 37 5 s2.out.length 0 (cC s2.out),aq 0 25 [.fs 2 na ra,.n .i64 regs,.n .i64 par,.os 3 s2.out.length],aq 0 25 [.sl0,.n .i64 0,.n .i64 0,.sl0],aq 0 25 [.fs 2 na ra,.n .i64 regs,.n .i64 par,.fs 5 cs.length (cC cs)]])->Q .normal e' H')->
     GA Tryz.prog 206 (aj Tryz.prog 16) (.seq (.mix v8) (.seq (.seq (.reg v6) (.cond (.t 191) (.seq (.reg v5) (.frk v7 v4)) .skip)) (.reg rN))) e1 H1 Q:=by
    intro yop yto ya yb yarg ix e1 H1 Q hw1 hs2 hq
    refine GA.wk hw1 ?_
    repeat first|with_reducible refine ab ?_|simp only[hadd,go_sem,simprocAttr]
    refine ai [] (.cons (.rfl (by rfl)) (.cons (.rfl (by rfl)) (.cons (.rfl (by rfl)) .nil))) (dN na ra regs par cs k (k+1) (by omega) (by omega) (by omega) hr hin') (by simp only[go_sem,simprocAttr]) ?_
    repeat first|with_reducible refine ab ?_|simp only[go_sem,simprocAttr]
    refine ai [] (.cons (.rfl (by rfl)) (.cons (.rfl (by rfl)) (.cons (.rfl (by rfl)) .nil))) (iR na ra regs par cs k (k+1) (by omega) (by omega) (by omega) hna hin4) (by simp only[go_sem,simprocAttr]) ?_
    repeat first|with_reducible refine ab ?_|simp only[go_sem,simprocAttr]
    refine ai [7,8] (fargs:=[.fs 5 qq.1.length (cC qq.1),.fs 1 regs (bF (fg ((cs.take (k+1)).drop k))),.fs 1 na (bF (kh ((cs.take (k+1)).drop k)))]) (.cons (.rfl (by rfl)) (.cons (Cv.own (ty:=4) (z:=0) (by simp) (by simp only[go_sem,simprocAttr]<;>rfl) (λ_ _ _ _=>rfl)) (.cons (Cv.own (ty:=4) (z:=0) (by simp) (by simp only[go_sem,simprocAttr]<;>rfl) (λ_ _ _ _=>rfl)) .nil))) (jZ qq.1 _ _ (by omega) hq2.2) (by simp only[go_sem,simprocAttr]) ?_
    simp only[htd]
    have hL:=(hq2.filter (λf=> !cY (fg [(opc,to,a,b,arg)]) (kh [(opc,to,a,b,arg)]) f)).1
    change (ew (fg [(opc,to,a,b,arg)]) (kh [(opc,to,a,b,arg)]) qq.1).length<=k at hL
    generalize ew (fg [(opc,to,a,b,arg)]) (kh [(opc,to,a,b,arg)]) qq.1=L at hs2 hL ⊢
    simp only[go_sem,simprocAttr]
    refine GA.wk (Wk.mk (L:=[(1,.p 0 0),(2,.p 1 0),(3,.n .i64 0),(6,.fs 1 pt.length (iC .i64 pt)),(9,.p 2 0),(10,.fs 5 L.length (cC L)),(11,.os 4 qq.2.length),(12,.n .i64 k),(13,.p 5 0),(15,.n .i64 ix),(16,.p 6 0)]) (bl:=[aq 0 37 [.n .i64 yop,.n .i64 yto,.n .i64 ya,.n .i64 yb,.n .u32 yarg],aq 0 37 [.n .i64 opc,.n .i64 to,.n .i64 a,.n .i64 b,.n .u32 arg],am 65 1 qq.2.length 0 (fO qq.2),am 37 5 out.length 0 (cC out),aq 0 25 [.fs 2 na ra,.n .i64 regs,.n .i64 par,.os 3 out.length],aq 0 25 [.sl0,.n .i64 0,.n .i64 0,.sl0],aq 0 25 [.fs 2 na ra,.n .i64 regs,.n .i64 par,.fs 5 cs.length (cC cs)]]) [6,5,4,3,2,1,0] [9] ?_ ?_ ?_) ?_
    ·simp only[aB,aD,go_sem,simprocAttr]
     repeat' refine aa ?_ ?_
     all_goals first|exact bi|skip
     exact .cv (Cv.own (ty:=72) (z:=0) (by simp) (by simp only[go_sem,simprocAttr]<;>rfl) (λi j _ hj=>bh i hj))
    ·exact(.cons rfl (.l5) (.cons rfl (.l5) (.cons rfl (.k2 (λi j _ hj=>dK _ _ _)) (.cons rfl (.k5) (.cons rfl (.w4) (.cons rfl (.ls) (.cons rfl (.ls) .nil)))))))
    ·simp
    repeat first|with_reducible refine ab ?_|simp only[go_sem,simprocAttr]
    refine cV (eT opc) ?_
    cases he:di opc
    ·rw[if_neg (by simp[he]),List.append_nil] at hs2
     (try simp only[he,decide_false,go_sem,simprocAttr])
     iterate 2 (with_reducible refine GA.go ay rfl ?_;try simp only[he,decide_false,go_sem,simprocAttr])
     refine endd yop yto ya yb yarg L _ _ _ hs2 (Wk.mk [6,5,4,3,2,1,0] [] ?_ ?_ ?_) hq
     ·simp only[aB,aD,go_sem,simprocAttr]
      repeat' refine aa ?_ ?_
      all_goals first|exact bi|skip
     ·exact(.cons rfl (.l5) (.cons rfl (.l5) (.cons rfl (.k2 (λi j _ hj=>dK _ _ _)) (.cons rfl (.k5) (.cons rfl (.w4) (.cons rfl (.ls) (.cons rfl (.ls) .nil)))))))
     ·simp
    cases d0:decide (ix<0)
    ·have h0':¬ix<0:=by simpa using d0
     rw[if_neg (λh=>h0' h.2.1),List.append_nil] at hs2
     (try simp only[he,d0,decide_true,decide_false,go_sem,simprocAttr])
     iterate 2 (with_reducible refine GA.go ay rfl ?_;try simp only[he,d0,decide_true,decide_false,go_sem,simprocAttr])
     refine endd yop yto ya yb yarg L _ _ _ hs2 (Wk.mk [6,5,4,3,2,1,0] [] ?_ ?_ ?_) hq
     ·simp only[aB,aD,go_sem,simprocAttr]
      repeat' refine aa ?_ ?_
      all_goals first|exact bi|skip
     ·exact(.cons rfl (.l5) (.cons rfl (.l5) (.cons rfl (.k2 (λi j _ hj=>dK _ _ _)) (.cons rfl (.k5) (.cons rfl (.w4) (.cons rfl (.ls) (.cons rfl (.ls) .nil)))))))
     ·simp
    have h0':ix<0:=by simpa using d0
    cases d1:decide (to=a)
    rotate_left
    ·have h1':to=a:=by simpa using d1
     rw[if_neg (λh=>h.2.2.1 h1'),List.append_nil] at hs2
     (try simp only[he,d0,d1,decide_true,decide_false,go_sem,simprocAttr])
     iterate 2 (with_reducible refine GA.go ay rfl ?_;try simp only[he,d0,d1,decide_true,decide_false,go_sem,simprocAttr])
     refine endd yop yto ya yb yarg L _ _ _ hs2 (Wk.mk [6,5,4,3,2,1,0] [] ?_ ?_ ?_) hq
     ·simp only[aB,aD,go_sem,simprocAttr]
      repeat' refine aa ?_ ?_
      all_goals first|exact bi|skip
     ·exact(.cons rfl (.l5) (.cons rfl (.l5) (.cons rfl (.k2 (λi j _ hj=>dK _ _ _)) (.cons rfl (.k5) (.cons rfl (.w4) (.cons rfl (.ls) (.cons rfl (.ls) .nil)))))))
     ·simp
    have h1':¬to=a:=by simpa using d1
    cases d2:decide (to=b)
    rotate_left
    ·have h2':to=b:=by simpa using d2
     rw[if_neg (λh=>h.2.2.2 h2'),List.append_nil] at hs2
     (try simp only[he,d0,d1,d2,decide_true,decide_false,go_sem,simprocAttr])
     iterate 2 (with_reducible refine GA.go ay rfl ?_;try simp only[he,d0,d1,d2,decide_true,decide_false,go_sem,simprocAttr])
     refine endd yop yto ya yb yarg L _ _ _ hs2 (Wk.mk [6,5,4,3,2,1,0] [] ?_ ?_ ?_) hq
     ·simp only[aB,aD,go_sem,simprocAttr]
      repeat' refine aa ?_ ?_
      all_goals first|exact bi|skip
     ·exact(.cons rfl (.l5) (.cons rfl (.l5) (.cons rfl (.k2 (λi j _ hj=>dK _ _ _)) (.cons rfl (.k5) (.cons rfl (.w4) (.cons rfl (.ls) (.cons rfl (.ls) .nil)))))))
     ·simp
    have h2':¬to=b:=by simpa using d2
    rw[if_pos ⟨he,h0',h1',h2'⟩] at hs2
    (try simp only[he,d0,d1,d2,decide_true,decide_false,go_sem,simprocAttr])
    iterate 3 (with_reducible refine GA.go ay rfl ?_;try simp only[he,d0,d1,d2,decide_true,decide_false,go_sem,simprocAttr])
    have hlm:L.length*5<1099511627776/\L.length*40<=140737488355328/\L.length<=9223372036854775807/\(L.length+1)*5<1099511627776/\(L.length+1)*40<=140737488355328/\L.length+1<=9223372036854775807/\L.length*5+5<1099511627776:=by omega
    have hLl:(L++[(opc,to,a,b,arg)]).length=L.length+1:=by simp
    refine GA.cutQ (au [(1,.p 0 0),(2,.p 1 0),(3,.n .i64 0),(6,.fs 1 pt.length (iC .i64 pt)),(9,.p 2 0),(10,.fs 5 (L.length+1) (cC (L++[(opc,to,a,b,arg)]))),(11,.os 4 qq.2.length),(12,.n .i64 k),(16,.p 6 0)]) (ao [aq 0 37 [.n .i64 yop,.n .i64 yto,.n .i64 ya,.n .i64 yb,.n .u32 yarg],aq 0 37 [.n .i64 opc,.n .i64 to,.n .i64 a,.n .i64 b,.n .u32 arg],am 65 1 qq.2.length 0 (fO qq.2),am 37 5 out.length 0 (cC out),aq 0 25 [.fs 2 na ra,.n .i64 regs,.n .i64 par,.os 3 out.length],aq 0 25 [.sl0,.n .i64 0,.n .i64 0,.sl0],aq 0 25 [.fs 2 na ra,.n .i64 regs,.n .i64 par,.fs 5 cs.length (cC cs)]]) ?_ (λe' H' hw=>endd yop yto ya yb yarg (L++[(opc,to,a,b,arg)]) _ _ _ hs2 (by rw[hLl];exact hw) hq)
    refine GA.frkm ay 7 (by simp only[eC,go_sem,simprocAttr]) ?_
    simp only[hlm.1,hlm.2.1,hlm.2.2.1,hlm.2.2.2.1,hlm.2.2.2.2.1,hlm.2.2.2.2.2.1,hlm.2.2.2.2.2.2,decide_true,go_sem,simprocAttr]
    repeat' refine aa ?_ ?_
    all_goals first
     |decide
     |exact Nat.le_trans (by simp only[go_sem,simprocAttr];decide) (qE _ _)
     |(refine Wk.mk [6,5,4,3,2,1,0] [9] ?_ ?_ ?_
       ·simp only[aB,aD,go_sem,simprocAttr]
        repeat' refine aa ?_ ?_
        all_goals first|trivial|exact Wv.same rfl|exact Wv.p rfl|exact Wv.os rfl|exact Wv.n (by omega)|skip
        refine Wv.cv (Cv.os (x:=_) (by simp) (by simp only[go_sem,simprocAttr]<;>rfl) (by simp only[go_sem,simprocAttr]<;>first|done|omega) (λi j hi hj=>vI rfl (by omega) (λj hj=>by rcases cJ hj with rfl|rfl|rfl|rfl|rfl<;>rfl) hi hj) (λi j _ hj=>bh i hj))
       ·exact(.cons rfl (.l5) (.cons rfl (.l5) (.cons rfl (.k2 (λi j _ hj=>dK _ _ _)) (.cons rfl (.k5) (.cons rfl (.w4) (.cons rfl (.ls) (.cons rfl (.ls) .nil)))))))
       ·simp)
   have hmid:∀(ix:Int) (y:In),vT (opc,to,a,b,arg) qq.1=ix->¬(0<=ix/\(qq.1.getD ix.toNat dj).2.1=to)->y=(if 0<=ix then(36,to,(qq.1.getD ix.toNat dj).2.1,-1,0) else(opc,to,a,b,arg))->
     s2=⟨out++[y],ew (fg [(opc,to,a,b,arg)]) (kh [(opc,to,a,b,arg)]) qq.1++(if di opc=true/\ix<0/\to≠a/\to≠b then[(opc,to,a,b,arg)] else[]),qq.2⟩:=by
    intro ix y h1 h2 h3
    rw[<-hfin]
    unfold mE sF
    simp only
    rw[h1,if_neg h2,h3]
   repeat first|with_reducible refine ab ?_|simp only[go_sem,simprocAttr]
   refine cV (eT opc) ?_
   have hfi:=qP qq.1 (opc,to,a,b,arg) (by omega)
   have hif:=mz (λg=>cE g (opc,to,a,b,arg)) qq.1 0
   cases he:di opc
   ·have hix:vT (opc,to,a,b,arg) qq.1= -1:=by unfold vT;rw[if_neg (by simp[he])]
    have hs2:=hmid (-1) (opc,to,a,b,arg) hix (by omega) (by rw[if_neg (by omega)])
    (try simp only[he,decide_true,decide_false,go_sem,simprocAttr])
    iterate 14 (with_reducible refine GA.go ay rfl ?_;try simp only[he,decide_true,decide_false,go_sem,simprocAttr])
    refine mid opc to a b arg (-1) _ _ _ (Wk.mk [6,5,4,3,2,1,0] [] ?_ ?_ ?_) hs2 ?_
    ·simp only[aB,aD,go_sem,simprocAttr]
     repeat' refine aa ?_ ?_
     all_goals first|exact bi|skip
    ·exact(.cons rfl (.l5) (.cons rfl (.l5) (.cons rfl (.k2 (λi j _ hj=>dK _ _ _)) (.cons rfl (.k5) (.cons rfl (.w4) (.cons rfl (.ls) (.cons rfl (.ls) .nil)))))))
    ·simp
    intro e' H' hw
    refine GA.wk hw ?_
    repeat first|with_reducible refine ab ?_|simp only[hadd,go_sem,simprocAttr]
    refine⟨_,_,_,?_,Wk.mk [4,3,2,1,0] [] ?_ ?_ ?_,k+1,s2,rfl,by omega,key,hs,rfl,rfl⟩
    ·omega
    ·simp only[aB,aD,go_sem,simprocAttr]
     repeat' refine aa ?_ ?_
     all_goals first|exact bi|skip
    ·exact(.cons rfl (.k2 (λi j _ hj=>dK _ _ _)) (.cons rfl (.k5) (.cons rfl (.w4) (.cons rfl (.ls) (.cons rfl (.ls) .nil)))))
    ·simp
   have hix:vT (opc,to,a,b,arg) qq.1=idx (λg=>cE g (opc,to,a,b,arg)) qq.1 0:=by unfold vT;rw[if_pos he]
   generalize idx (λg=>cE g (opc,to,a,b,arg)) qq.1 0=ix at hfi hif hix
   simp only[aY] at hfi
   repeat first|with_reducible refine ab ?_|simp only[he,decide_true,go_sem,simprocAttr]
   refine fm hfi ?_
   by_cases hi:0<=ix
   rotate_left
   ·have hs2:=hmid ix (opc,to,a,b,arg) hix (by omega) (by rw[if_neg hi])
    (try simp only[hi,decide_true,decide_false,go_sem,simprocAttr])
    iterate 12 (with_reducible refine GA.go ay rfl ?_;try simp only[hi,decide_true,decide_false,go_sem,simprocAttr])
    refine mid opc to a b arg ix _ _ _ (Wk.mk [6,5,4,3,2,1,0] [] ?_ ?_ ?_) hs2 ?_
    ·simp only[aB,aD,go_sem,simprocAttr]
     repeat' refine aa ?_ ?_
     all_goals first|exact bi|skip
    ·exact(.cons rfl (.l5) (.cons rfl (.l5) (.cons rfl (.k2 (λi j _ hj=>dK _ _ _)) (.cons rfl (.k5) (.cons rfl (.w4) (.cons rfl (.ls) (.cons rfl (.ls) .nil)))))))
    ·simp
    intro e' H' hw
    refine GA.wk hw ?_
    repeat first|with_reducible refine ab ?_|simp only[hadd,go_sem,simprocAttr]
    refine⟨_,_,_,?_,Wk.mk [4,3,2,1,0] [] ?_ ?_ ?_,k+1,s2,rfl,by omega,key,hs,rfl,rfl⟩
    ·omega
    ·simp only[aB,aD,go_sem,simprocAttr]
     repeat' refine aa ?_ ?_
     all_goals first|exact bi|skip
    ·exact(.cons rfl (.k2 (λi j _ hj=>dK _ _ _)) (.cons rfl (.k5) (.cons rfl (.w4) (.cons rfl (.ls) (.cons rfl (.ls) .nil)))))
    ·simp
   obtain⟨q,rfl⟩:∃q:Nat,ix=(q:Int):=⟨ix.toNat,by omega⟩
   have hq0:(q:Int)<(qq.1.length:Int):=by omega
   have hbq:=kG qq.1 q
   have hbq':(qq.1.getD q dj).2.1=(qq.1.getD q (0,0,0,0,0)).2.1:=rfl
   have hsF:(qq.1.getD q (0,0,0,0,0)).2.1=to->s2=⟨out,qq.1,qq.2⟩:=by
    intro h1
    rw[<-hfin]
    unfold mE sF
    simp only
    rw[hix,if_pos ⟨hi,by rw[Int.toNat_natCast];exact h1⟩]
   have hmq:=hmid q (36,to,(qq.1.getD q (0,0,0,0,0)).2.1,-1,0) hix
   rw[Int.toNat_natCast,hbq'] at hmq
   generalize (qq.1.getD q (0,0,0,0,0)).2.1=z at hbq hsF hmq
   by_cases hz:z=to
   ·have hs2:=hsF hz
    repeat first|with_reducible refine ab ?_|simp only[hi,hq0,hbq,hz,hadd,decide_true,go_sem,simprocAttr]
    subst hs2
    refine⟨_,_,_,?_,Wk.mk [4,3,2,1,0] [] ?_ ?_ ?_,k+1,_,rfl,by omega,key,hs,rfl,rfl⟩
    ·omega
    ·simp only[aB,aD,go_sem,simprocAttr]
     repeat' refine aa ?_ ?_
     all_goals first|exact bi|skip
    ·exact(.cons rfl (.k2 (λi j _ hj=>dK _ _ _)) (.cons rfl (.k5) (.cons rfl (.w4) (.cons rfl (.ls) (.cons rfl (.ls) .nil)))))
    ·simp
   ·have hs2:=hmq (λh=>hz h.2) (by rw[if_pos hi])
    (try simp only[hi,hq0,hbq,hz,decide_true,decide_false,go_sem,simprocAttr])
    iterate 12 (with_reducible refine GA.go ay rfl ?_;try simp only[hi,hq0,hbq,hz,decide_true,decide_false,go_sem,simprocAttr])
    refine mid 36 to z (-1) 0 q _ _ _ (Wk.mk [6,5,4,3,2,1,0] [] ?_ ?_ ?_) hs2 ?_
    ·simp only[aB,aD,go_sem,simprocAttr]
     repeat' refine aa ?_ ?_
     all_goals first|exact bi|skip
    ·exact(.cons rfl (.l5) (.cons rfl (.l5) (.cons rfl (.k2 (λi j _ hj=>dK _ _ _)) (.cons rfl (.k5) (.cons rfl (.w4) (.cons rfl (.ls) (.cons rfl (.ls) .nil)))))))
    ·simp
    intro e' H' hw
    refine GA.wk hw ?_
    repeat first|with_reducible refine ab ?_|simp only[hadd,go_sem,simprocAttr]
    refine⟨_,_,_,?_,Wk.mk [4,3,2,1,0] [] ?_ ?_ ?_,k+1,s2,rfl,by omega,key,hs,rfl,rfl⟩
    ·omega
    ·simp only[aB,aD,go_sem,simprocAttr]
     repeat' refine aa ?_ ?_
     all_goals first|exact bi|skip
    ·exact(.cons rfl (.k2 (λi j _ hj=>dK _ _ _)) (.cons rfl (.k5) (.cons rfl (.w4) (.cons rfl (.ls) (.cons rfl (.ls) .nil)))))
    ·simp
  clear key hs hfin
  unfold zO at hsw
  repeat first|with_reducible refine ab ?_|simp only[go_sem,simprocAttr]
  refine⟨λh1=>?_,λh1=>?_⟩
  ·rw[if_pos h1] at hsw
   cases hsw
   repeat first|with_reducible refine ab ?_|simp only[hls.1,hls.2.1,hls.2.2.1,hls.2.2.2.1,hls.2.2.2.2,decide_true,go_sem,simprocAttr]
   refine Wk.mk [5,7,3,2,1,0] [] ?_ ?_ ?_
   ·simp only[aB,aD,go_sem,simprocAttr]
    repeat' refine aa ?_ ?_
    all_goals first|exact bi|skip
   ·refine(.cons rfl (.l5) (.cons rfl (.snocw (by simp only[go_sem,simprocAttr]<;>rfl) (by simp) (by rfl) rfl (by decide) (by omega) (λi j hi _=>lM _ _ _ _ hi) (λi j _ _=>dK _ _ _) (λj hj=>?_)) (.cons rfl (.k5) (.cons rfl (.w4) (.cons rfl (.ls) (.cons rfl (.ls) .nil))))))
    rw[pg]
    cases Nat.lt_one_iff.1 hj
    exact Wv.same rfl
   ·simp
  rw[if_neg h1] at hsw
  repeat first|with_reducible refine ab ?_|simp only[go_sem,simprocAttr]
  refine⟨λh2=>?_,λh2=>?_⟩
  ·rw[if_pos h2] at hsw
   cases st with
   |nil=>cases hsw
   |cons t r=>
   simp only at hsw
   cases hsw
   have hrl:r.length<=k:=by simp only[List.length_cons] at hst;omega
   have hsub:IntKind.wrap .i64 (((r.length+1:Nat):Int)-1)=(r.length:Int):=by rw[b8 (by omega)];omega
   have hz0:(0:Int)<=(r.length:Int):=by omega
   have hz1:(r.length:Int)<((r.length+1:Nat):Int):=by omega
   have hz2:r.length<r.length+1/\r.length+1<=r.length+1:=by omega
   have hg0:(am 65 1 (r.length+1) 0 (fO (t::r))).get r.length= .fs 5 t.length (cC t):=by
    have:=aH (ty:=65) (n:=r.length+1) (z:=0) (row:=fO (t::r)) r.length 0 (by decide:0<1)
    rw[pg,Nat.mul_one] at this
    exact this
   repeat first|with_reducible refine ab ?_|simp only[hsub,hz0,hz1,hz2.1,hz2.2,hg0,decide_true,go_sem,simprocAttr]
   refine Wk.mk [5,4,3,2,1,0] [] ?_ ?_ ?_
   ·simp only[aB,aD,go_sem,simprocAttr]
    repeat' refine aa ?_ ?_
    all_goals first|exact bi|skip
   ·refine(.cons rfl (.l5) (.cons rfl (.putw (n:=r.length+1) (q:=r.length) (by simp only[go_sem,simprocAttr]<;>rfl) (by simp) rfl (by omega) rfl (by decide) (by omega) (λi j hi hne hj=>?_) (λi j _ _=>dK _ _ _) (λj hj=>?_)) (.cons rfl (.k5) (.cons rfl (.w4) (.cons rfl (.ls) (.cons rfl (.ls) .nil))))))
    ·rw[lM _ _ _ _ (by omega),lM _ _ _ _ (by omega)]
    ·rw[pg]
     cases Nat.lt_one_iff.1 hj
     exact Wv.same rfl
   ·simp
  rw[if_neg h2] at hsw
  repeat first|with_reducible refine ab ?_|simp only[go_sem,simprocAttr]
  refine⟨λh3=>?_,λh3=>?_⟩
  ·rw[if_pos h3] at hsw
   split at hsw
   rotate_left
   ·cases hsw
   rename_i hrg
   obtain⟨q,hq⟩:∃q:Nat,pt.getD k 0=(q:Int):=⟨(pt.getD k 0).toNat,by omega⟩
   rw[hq] at hrg hsw
   rw[Int.toNat_natCast] at hsw
   cases hsw
   have hpk:iC .i64 pt k 0= .n .i64 (q:Int):=by unfold iC;rw[hq]
   repeat first|with_reducible refine ab ?_|simp only[h0,hkpi,hpk,go_sem,simprocAttr]
   refine ai [] (.cons (.rfl (by rfl)) (.cons (.rfl (by rfl)) (.cons (.rfl (by rfl)) .nil))) (dN na ra regs par cs k q (by omega) (by omega) (by omega) hr hin') (by simp only[go_sem,simprocAttr]) ?_
   repeat first|with_reducible refine ab ?_|simp only[go_sem,simprocAttr]
   refine ai [] (.cons (.rfl (by rfl)) (.cons (.rfl (by rfl)) (.cons (.rfl (by rfl)) .nil))) (iR na ra regs par cs k q (by omega) (by omega) (by omega) hna hin4) (by simp only[go_sem,simprocAttr]) ?_
   repeat first|with_reducible refine ab ?_|simp only[go_sem,simprocAttr]
   refine ai [6,7] (fargs:=[.fs 5 l.length (cC l),.fs 1 regs (bF (fg ((cs.take q).drop k))),.fs 1 na (bF (kh ((cs.take q).drop k)))]) (.cons (.rfl (by rfl)) (.cons (Cv.own (ty:=4) (z:=0) (by simp) (by simp only[go_sem,simprocAttr]<;>rfl) (λ_ _ _ _=>rfl)) (.cons (Cv.own (ty:=4) (z:=0) (by simp) (by simp only[go_sem,simprocAttr]<;>rfl) (λ_ _ _ _=>rfl)) .nil))) (jZ l _ _ (by omega) hl.2) (by simp only[go_sem,simprocAttr]) ?_
   repeat first|with_reducible refine ab ?_|simp only[go_sem,simprocAttr]
   refine Wk.mk [5,4,3,2,1,0] [8] ?_ ?_ ?_
   ·simp only[aB,aD,go_sem,simprocAttr]
    repeat' refine aa ?_ ?_
    all_goals first|exact bi|skip
    exact .cv (Cv.own (ty:=72) (z:=0) (by simp) (by simp only[go_sem,simprocAttr]<;>rfl) (λi j _ hj=>bh i hj))
   ·exact(.cons rfl (.l5) (.cons rfl (.k2 (λi j _ hj=>dK _ _ _)) (.cons rfl (.k5) (.cons rfl (.w4) (.cons rfl (.ls) (.cons rfl (.ls) .nil))))))
   ·simp
  rw[if_neg h3] at hsw
  repeat first|with_reducible refine ab ?_|simp only[go_sem,simprocAttr]
  refine⟨λh4=>?_,λh4=>?_⟩
  ·rw[if_pos h4] at hsw
   split at hsw
   rotate_left
   ·cases hsw
   rename_i hrg
   obtain⟨q,hq⟩:∃q:Nat,pt.getD k 0=(q:Int):=⟨(pt.getD k 0).toNat,by omega⟩
   rw[hq] at hrg hsw
   rw[Int.toNat_natCast] at hsw
   have hpk:iC .i64 pt k 0= .n .i64 (q:Int):=by unfold iC;rw[hq]
   have hq0:(0:Int)<=(q:Int):=by omega
   have hq2':(q:Int)<(cs.length:Int):=by omega
   have hcq:=gG cs q
   repeat first|with_reducible refine ab ?_|simp only[h0,hkpi,hpk,hq0,hq2',hcq,go_sem,simprocAttr]
   refine⟨λh5=>?_,λh5=>?_⟩
   ·rw[if_pos (show(cs.getD q dj).1=29 from h5)] at hsw
    cases hsw
    repeat first|with_reducible refine ab ?_|simp only[h0,hkpi,hpk,go_sem,simprocAttr]
    refine ai [] (.cons (.rfl (by rfl)) (.cons (.rfl (by rfl)) (.cons (.rfl (by rfl)) .nil))) (dN na ra regs par cs q k (by omega) (by omega) (by omega) hr hin') (by simp only[go_sem,simprocAttr]) ?_
    repeat first|with_reducible refine ab ?_|simp only[go_sem,simprocAttr]
    refine ai [] (.cons (.rfl (by rfl)) (.cons (.rfl (by rfl)) (.cons (.rfl (by rfl)) .nil))) (iR na ra regs par cs q k (by omega) (by omega) (by omega) hna hin4) (by simp only[go_sem,simprocAttr]) ?_
    repeat first|with_reducible refine ab ?_|simp only[go_sem,simprocAttr]
    refine ai [6,7] (fargs:=[.fs 5 l.length (cC l),.fs 1 regs (bF (fg ((cs.take k).drop q))),.fs 1 na (bF (kh ((cs.take k).drop q)))]) (.cons (.rfl (by rfl)) (.cons (Cv.own (ty:=4) (z:=0) (by simp) (by simp only[go_sem,simprocAttr]<;>rfl) (λ_ _ _ _=>rfl)) (.cons (Cv.own (ty:=4) (z:=0) (by simp) (by simp only[go_sem,simprocAttr]<;>rfl) (λ_ _ _ _=>rfl)) .nil))) (jZ l _ _ (by omega) hl.2) (by simp only[go_sem,simprocAttr]) ?_
    repeat first|with_reducible refine ab ?_|simp only[go_sem,simprocAttr]
    refine Wk.mk [5,4,3,2,1,0] [8] ?_ ?_ ?_
    ·simp only[aB,aD,go_sem,simprocAttr]
     repeat' refine aa ?_ ?_
     all_goals first|exact bi|skip
     exact .cv (Cv.own (ty:=72) (z:=0) (by simp) (by simp only[go_sem,simprocAttr]<;>rfl) (λi j _ hj=>bh i hj))
    ·exact(.cons rfl (.l5) (.cons rfl (.k2 (λi j _ hj=>dK _ _ _)) (.cons rfl (.k5) (.cons rfl (.w4) (.cons rfl (.ls) (.cons rfl (.ls) .nil))))))
    ·simp
   ·rw[if_neg (show ¬(cs.getD q dj).1=29 from h5)] at hsw
    cases st with
    |nil=>cases hsw
    |cons t r=>
    simp only at hsw
    cases hsw
    have hrl:r.length<=k:=by simp only[List.length_cons] at hst;omega
    have hsub:IntKind.wrap .i64 (((r.length+1:Nat):Int)-1)=(r.length:Int):=by rw[b8 (by omega)];omega
    have hz0:(0:Int)<=(r.length:Int):=by omega
    have hz1:(r.length:Int)<((r.length+1:Nat):Int):=by omega
    have hz2:r.length<r.length+1/\r.length+1<=r.length+1:=by omega
    have hg0:(am 65 1 (r.length+1) 0 (fO (t::r))).get r.length= .fs 5 t.length (cC t):=by
     have:=aH (ty:=65) (n:=r.length+1) (z:=0) (row:=fO (t::r)) r.length 0 (by decide:0<1)
     rw[pg,Nat.mul_one] at this
     exact this
    have hz3:(r.length:Int)<=((r.length+1:Nat):Int):=by omega
    repeat first|with_reducible refine ab ?_|simp only[hsub,hz0,hz1,hz2.1,hz2.2,hg0,go_sem,simprocAttr]
    refine fm (nI l t (by omega) (by have:=(hlst t (List.mem_cons_self ..)).1;omega)) ?_
    repeat first|with_reducible refine ab ?_|simp only[hsub,hz0,hz3,Int.le_refl,go_sem,simprocAttr]
    refine Wk.mk [5,4,3,2,1,0] [6] ?_ ?_ ?_
    ·simp only[aB,aD,go_sem,simprocAttr]
     repeat' refine aa ?_ ?_
     all_goals first|exact bi|skip
     exact .cv (Cv.own (ty:=72) (z:=0) (by simp) (by simp only[go_sem,simprocAttr]<;>rfl) (λi j _ hj=>bh i hj))
    ·exact(.cons rfl (.l5) (.cons rfl (.pop (n:=r.length+1) (by simp only[go_sem,simprocAttr]<;>rfl) rfl (by decide) (by omega) (λi j hi _=>lM _ _ _ _ hi) (λi j _ _=>dK _ _ _)) (.cons rfl (.k5) (.cons rfl (.w4) (.cons rfl (.ls) (.cons rfl (.ls) .nil))))))
    ·simp
  rw[if_neg h4] at hsw
  cases hsw
  repeat first|with_reducible refine ab ?_|simp only[go_sem,simprocAttr]
  refine Wk.mk [5,4,3,2,1,0] [] ?_ ?_ ?_
  ·simp only[aB,aD,go_sem,simprocAttr]
   repeat' refine aa ?_ ?_
   all_goals first|exact bi|skip
  ·exact(.cons rfl (.l5) (.cons rfl (.k2 (λi j _ hj=>dK _ _ _)) (.cons rfl (.k5) (.cons rfl (.w4) (.cons rfl (.ls) (.cons rfl (.ls) .nil))))))
  ·simp
 ·have hkn:k=cs.length:=by omega
  subst hkn
  rw[List.drop_length,tP] at hs
  cases hs
  repeat first|with_reducible refine ab ?_|simp only[go_sem,simprocAttr]
  refine⟨[_,_],rfl,.a (by simp) (.v rfl rfl (.v rfl rfl (.v rfl rfl (.o (x:=_) (by simp only[go_sem,simprocAttr];rfl) (by rfl) (by rfl) (by rfl) (by rfl) (by decide) (Nat.le_refl _) (Nat.le_refl _) (λi j _ hj=>aH i j hj) (λi j _ hj=>bh i hj) .nil)))) rfl (.v rfl rfl .nil)⟩
/-! ### nesting,by the operations alone-/
def cQ:List Int->List NB->Option (List NB)
 |[],o=>some o
 |x::l,o=>(aP x o).bind (cQ l)
theorem gn:∀(a b:List Int) (o:List NB),cQ (a++b) o=(cQ a o).bind (cQ b)
 |[],b,o=>rfl
 |x::a,b,o=>by
  rw[List.cons_append,cQ,cQ,Option.bind_assoc]
  congr 1
  funext o'
  exact gn a b o'
theorem iI:∀(l:List RI) (k:Nat) (o:List NB),(bp l k o).2=false↔cQ (l.map (·.op)) o=some []
 |[],k,o=>by
  simp only[bp,List.map_nil,cQ,decide_eq_false_iff_not,Option.some.injEq]
  constructor
  ·intro h;exact List.eq_nil_of_length_eq_zero (by omega)
  ·rintro rfl;simp
 |i::l,k,o=>by
  rw[bp,List.map_cons,cQ]
  cases h:aP i.op o with
  |none=>simp
  |some o'=>exact iI l (k+1) o'
theorem tC(cs:List In):(cs.map cO).map (·.op)=cs.map (·.1):=by
 rw[List.map_map];rfl
def fN(op:Int):Prop:=op≠27/\op≠28/\op≠29/\op≠30/\op≠31
theorem dX{op:Int}(h:fN op)(o:List NB):aP op o=some o:=by
 obtain⟨h1,h2,h3,h4,h5⟩:=h
 unfold aP
 rw[if_neg h1,if_neg h3,if_neg h2,if_neg h4,if_neg h5]
/-! ### what Check asks-/
structure Gd(regs par nA:Int)(x:In):Prop where
 chk:dM regs par nA (cO x)=0
 arg:0<=x.2.2.2.2/\x.2.2.2.2<4294967296
theorem ot{regs spills nA:Int}:∀(l:List RI) (k:Nat),(∀i ∈ l,dM regs spills nA i=0)->cz regs spills nA l k=none
 |[],_,_=>rfl
 |x::l,k,h=>by
  unfold cz
  rw[if_neg (λhn=>hn (h x (List.mem_cons_self ..)))]
  exact ot l (k+1) λi hi=>h i (List.mem_cons_of_mem _ hi)
theorem dY.gd{la:List (Bool×Int)}{regs:Nat}{par:Int}{cs:List In}(h:dY la regs par cs):∀x ∈ cs,Gd regs par la.length x:=λx hx=>⟨(cq h.chk).ins x hx,h.arg x hx⟩
theorem dY.nest{la:List (Bool×Int)}{regs:Nat}{par:Int}{cs:List In}(h:dY la regs par cs):cQ (cs.map (·.1)) []=some []:=by
 have:=(iI _ _ _).1 (cq h.chk).nest
 rwa [tC] at this
theorem jL{la:List (Bool×Int)}{regs:Nat}{par:Int}{cs cs2:List In}(h:dY la regs par cs)(hl:cs2.length<=cs.length)(hi:∀x ∈ cs2,Gd regs par la.length x)(hn:cQ (cs2.map (·.1)) []=some []):dY la regs par cs2:=by
 refine⟨?_,λx hx=>(hi x hx).arg⟩
 have hz:=h.chk
 have hk:=cq hz
 have hn2:(bp (cs2.map cO) 0 []).2=false:=(iI _ _ _).2 (by rw[tC];exact hn)
 have hc2:cz regs par ((la.map kn).length:Nat) (cs2.map cO) 0=none:=ot _ _ λi hm=>by
  obtain⟨x,hx,rfl⟩:=List.mem_map.1 hm
  rw[List.length_map]
  exact(hi x hx).chk
 have hlen:=hk.ncs
 unfold eX bT at hz ⊢
 split at hz
 ·simp at hz
 rename_i h8
 rw[if_neg h8]
 split at hz
 ·simp at hz
 rename_i n hn1
 split at hz
 ·simp at hz
 rename_i hr
 rw[if_neg hr,if_neg (by rw[List.length_map];omega),hc2]
 simp only[hn2]
 rfl
/-! ### a walk keeps the nesting-/
variable {F:Type} {D:In->F->Bool} {E:F->F->Bool} {V:In->List F->In×Bool×List F} {cs:List In} {pt:List Int}
theorem Ur{pf:F->Prop}{i:Nat}{op:Int}{fs:List F}{st:List (List F)}{q:List F×List (List F)}(h:cZ D E cs pt i op fs st=some q)(h1:∀f ∈ fs,pf f)(h2:∀t ∈ st,∀f ∈ t,pf f):(∀f ∈ q.1,pf f)/\∀t ∈ q.2,∀f ∈ t,pf f:=by
 have hwo:∀xs,∀f ∈ eH D fs xs,pf f:=λxs f hf=>h1 f (List.mem_filter.1 hf).1
 have hbo:∀t,∀f ∈ ow E fs t,pf f:=λt f hf=>h1 f (List.mem_filter.1 hf).1
 unfold cZ at h
 split at h
 ·cases h
  exact⟨h1,λt ht=>(List.mem_cons.1 ht).elim (λe=>e ▸ h1) (h2 t)⟩
 split at h
 ·split at h
  ·cases h
   exact⟨h2 _ (List.mem_cons_self ..),λt ht=>(List.mem_cons.1 ht).elim (λe=>e ▸ h1) λh'=>h2 t (List.mem_cons_of_mem _ h')⟩
  ·cases h
 split at h
 ·split at h
  ·cases h;exact⟨hwo _,h2⟩
  ·cases h
 split at h
 ·split at h
  ·split at h
   ·cases h;exact⟨hwo _,h2⟩
   ·split at h
    ·cases h;exact⟨hbo _,λt ht=>h2 t (List.mem_cons_of_mem _ ht)⟩
    ·cases h
  ·cases h
 cases h
 exact⟨h1,h2⟩
theorem gf{pf:F->Prop}{G:In->Prop}
  (hv:∀x ∈ cs,∀fs,(∀f ∈ fs,pf f)->if(V x fs).2.1=true then G (V x fs).1/\(∀o,aP (V x fs).1.1 o=aP x.1 o)/\∀f ∈ (V x fs).2.2,pf f else fN x.1):
  ∀(l:List In) (i:Nat) (s s2:oz F),(∀x ∈ l,x ∈ cs)->bV D E V cs pt l i s=some s2->(∀f ∈ s.fs,pf f)->(∀t ∈ s.op,∀f ∈ t,pf f)->
   ∃l2:List In,s2.out=s.out++l2/\(∀y ∈ l2,G y)/\∀o,cQ (l2.map (·.1)) o=cQ (l.map (·.1)) o
 |[],i,s,s2,_,h,_,_=>by
  cases h
  exact⟨[],by simp,(λy hy=>by cases hy),λo=>rfl⟩
 |x::l,i,s,s2,hm,h,h1,h2=>by
  rw[bV] at h
  obtain⟨s1,hs,h⟩:=Option.bind_eq_some_iff.1 h
  have hx:=hv x (hm x (List.mem_cons_self ..)) s.fs h1
  unfold b6 at hs
  split at hs
  ·rename_i hr
   rw[if_pos hr] at hx
   obtain⟨hG,hne,hpf⟩:=hx
   obtain⟨q,hq,rfl⟩:=Option.map_eq_some_iff.1 hs
   obtain⟨g1,g2⟩:=Ur hq h1 h2
   obtain⟨l2,e1,e2,e3⟩:=gf hv l (i+1) _ s2 (λy hy=>hm y (List.mem_cons_of_mem _ hy)) h (λf hf=>by
    rcases List.mem_append.1 hf with hf|hf
    ·exact g1 f (List.mem_filter.1 hf).1
    ·exact hpf f hf) g2
   refine⟨(V x s.fs).1::l2,by rw[e1];simp,λy hy=>(List.mem_cons.1 hy).elim (λe=>e ▸ hG) (e2 y),λo=>?_⟩
   rw[List.map_cons,List.map_cons,cQ,cQ,hne]
   congr 1
   funext o'
   exact e3 o'
  ·rename_i hr
   rw[if_neg hr] at hx
   cases hs
   obtain⟨l2,e1,e2,e3⟩:=gf hv l (i+1) _ s2 (λy hy=>hm y (List.mem_cons_of_mem _ hy)) h h1 h2
   refine⟨l2,e1,e2,λo=>?_⟩
   rw[List.map_cons,cQ,dX hx,Option.bind_some]
   exact e3 o
/-! ### the instructions that passes make-/
theorem mY.gd{regs par nA:Int}{x:In}(h:mY regs par nA x)(ha:0<=x.2.2.2.2/\x.2.2.2.2<4294967296):Gd regs par nA x:=by
 refine⟨?_,ha⟩
 obtain⟨k,hk⟩:∃k:Nat,x.1=(k:Int):=⟨x.1.toNat,by have:=h.op;omega⟩
 obtain⟨s1,s2,s3⟩:=l6 k (by have:=h.op;omega)
 have rr:∀(n:Int) (u v:Bool),u=v->(if v=true then 0<=n/\n<regs else n= -1)->aE regs n u=true:=by
  rintro n u v rfl hv
  unfold aE
  cases u<;>simp_all
 have e:x.1.toNat=k:=by omega
 have t1:=rr x.2.1 (cP x.1) _ (by rw[e,s1,<-hk]) h.to
 have t2:=rr x.2.2.1 (ee x.1) _ (by unfold ua;rw[e,s2,<-hk]) h.a
 have t3:=rr x.2.2.2.1 (eu x.1) _ (by unfold rV;rw[e,s3,<-hk]) h.b
 have t4:=h.arg
 have t5:=h.isop
 unfold dM
 rw[if_neg (show ¬dS (cO x).op=false by show ¬dS x.1=false;rw[t5];simp),if_neg ?_]
 show ¬(aE regs x.2.1 (cP x.1)=false\/aE regs x.2.2.1 (ee x.1)=false\/aE regs x.2.2.2.1 (eu x.1)=false\/bZ nA par x.1<x.2.2.2.2)
 rw[t1,t2,t3];simp;omega
theorem Gd.inC{regs par nA:Int}{x:In}(h:Gd regs par nA x):mY regs par nA x:=xf h.chk
theorem mT{op:Int}(h:bI op=true):fN op:=by
 obtain⟨h1,h2⟩:=fE h
 exact⟨by omega,by omega,by omega,by omega,by omega⟩
theorem qQ{op:Int}(h:di op=true):fN op:=by
 unfold di at h
 simp only[Bool.or_eq_true,decide_eq_true_eq] at h
 rcases h with((h|h)|h)|h
 ·exact mT h
 all_goals subst h;exact⟨by decide,by decide,by decide,by decide,by decide⟩
theorem sQ:fN 0:=⟨by decide,by decide,by decide,by decide,by decide⟩
theorem lL:fN 36:=⟨by decide,by decide,by decide,by decide,by decide⟩
theorem zU:fN 38:=⟨by decide,by decide,by decide,by decide,by decide⟩
theorem AA{op:Int}(h0:0<=op)(h:bI op=true\/op=36):(bL op.toNat).getD 1 false=true:=by
 have key:∀k:Nat,k<39->(bI (k:Int)=true\/(k:Int)=36)->(bL k).getD 1 false=true:=by decide
 rcases h with h|h
 ·obtain⟨h1,h2⟩:=fE h
  exact key op.toNat (by omega) (.inl (by rw[show((op.toNat:Nat):Int)=op by omega];exact h))
 ·exact key op.toNat (by omega) (.inr (by omega))
/-! ### Fold-/
theorem vn{regs:Nat}{par nA:Int}{x:In}(hx:Gd regs par nA x)(fs:List (Int×Int))(hf:∀f ∈ fs,0<=f.2/\f.2<4294967296):
  Gd regs par nA (b9 iX fs x)/\(∀o,aP (b9 iX fs x).1 o=aP x.1 o)/\∀f ∈ cw (b9 iX fs x),0<=f.2/\f.2<4294967296:=by
 have hc:=hx.inC
 have hop:Proofs.YtidhfimbnjaceaaGreat.opOk x:=hc.op
 have hok:=(jx hf hop hx.arg).2
 have h3:∀f ∈ cw (b9 iX fs x),0<=f.2/\f.2<4294967296:=λf hm=>by
  unfold cw at hm
  split at hm
  ·rw[List.mem_singleton.1 hm];exact hok
  ·cases hm
 refine⟨?_,?_,h3⟩
 ·
  have push:∀n:Int,0<=n/\n<4294967296->(bI x.1=true\/x.1=36)->Gd regs par nA (0,x.2.1,-1,-1,n):=λn hn h=>by
   have ht:=hc.to
   rw[if_pos (AA hc.op.1 h)] at ht
   refine mY.gd ⟨by simp,?_,?_,?_,?_,rfl⟩ hn
   ·exact ht
   ·exact rfl
   ·exact rfl
   ·show n<=bZ nA par 0
    unfold bZ
    rw[if_pos rfl];omega
  revert hok
  unfold b9
  split
  ·intro _;exact hx
  rename_i h1
  have h2:bI x.1=true\/x.1=36:=by
   simp only[Bool.and_eq_true,Bool.not_eq_true',decide_eq_false_iff_not,not_and,Classical.not_not] at h1
   cases ha:bI x.1
   ·exact .inr (h1 ha)
   ·exact .inl rfl
  split
  ·intro _;exact hx
  split
  ·split
   ·intro h;exact push _ h h2
   ·intro _;exact hx
  ·intro h;exact push _ h h2
 ·intro o
  unfold b9
  split
  ·rfl
  rename_i h1
  have hfl:fN x.1:=by
   cases ha:bI x.1
   ·have:x.1=36:=by simpa [ha] using h1
    rw[this];exact lL
   ·exact mT ha
  split
  ·rfl
  split
  ·split
   ·rw[dX hfl,dX sQ]
   ·rfl
  ·rw[dX hfl,dX sQ]
theorem kS{la:List (Bool×Int)}{regs:Nat}{par:Int}{cs:List In}(h:dY la regs par cs):dY la regs par (dE regs cs):=by
 obtain⟨_,_,hsh,_⟩:=(cq h.chk).pt
 obtain⟨s,hs⟩:=fu DK EK VK (λx hx _ fs=>rfl) hsh (cy regs)
 have he:dE regs cs=s.out:=by unfold dE;rw[hs];rfl
 obtain⟨l2,e1,e2,e3⟩:=gf (pf:=λf=>0<=f.2/\f.2<4294967296) (G:=Gd regs par la.length) (λx hx fs hf=>by
  rw[if_pos (show(VK x fs).2.1=true from rfl)]
  exact vn (h.gd x hx) fs hf) cs 0 _ s (λx hx=>hx) hs (λf hf=>by
   obtain⟨q,_,_,h3⟩:=(jy regs f.1 f.2).1 hf
   omega) (by simp)
 refine jL h kE ?_ ?_
 ·rw[he,e1];simpa using e2
 ·rw[he,e1]
  simp only[List.nil_append]
  rw[e3,h.nest]
/-! ### Copies-/
theorem pZ{regs:Nat}{fs:List (Int×Int)}(hf:∀f ∈ fs,(0<=f.1/\f.1<regs)/\0<=f.2/\f.2<regs)(r:Int):(0<=r/\r<regs->0<=ef fs r/\ef fs r<regs)/\(r= -1->ef fs r= -1):=by
 induction fs with
 |nil=>exact⟨λh=>h,λh=>h⟩
 |cons f l ih=>
  have ih:=ih λg hg=>hf g (List.mem_cons_of_mem _ hg)
  have h1:=hf f (List.mem_cons_self ..)
  rw[ef]
  split
  ·exact⟨λ_=>h1.2,λh=>by omega⟩
  ·exact ih
theorem xQ{regs:Nat}{par nA:Int}{x:In}(hx:Gd regs par nA x)(fs:List (Int×Int))(hf:∀f ∈ fs,(0<=f.1/\f.1<regs)/\0<=f.2/\f.2<regs):
  if(eW x fs).2.1=true then Gd regs par nA (eW x fs).1/\(∀o,aP (eW x fs).1.1 o=aP x.1 o)/\∀f ∈ (eW x fs).2.2,(0<=f.1/\f.1<regs)/\0<=f.2/\f.2<regs else fN x.1:=by
 have hc:=hx.inC
 have ra:=pZ hf x.2.2.1
 have rb:=pZ hf x.2.2.2.1
 have gd:Gd regs par nA (x.1,x.2.1,ef fs x.2.2.1,ef fs x.2.2.2.1,x.2.2.2.2):=by
  refine mY.gd ⟨hc.op,hc.to,?_,?_,hc.arg,hc.isop⟩ hx.arg
  ·have:=hc.a
   simp only
   split
   ·rename_i hu;rw[if_pos hu] at this;exact ra.1 this
   ·rename_i hu;rw[if_neg hu] at this;exact ra.2 this
  ·have:=hc.b
   simp only
   split
   ·rename_i hu;rw[if_pos hu] at this;exact rb.1 this
   ·rename_i hu;rw[if_neg hu] at this;exact rb.2 this
 unfold eW fZ
 by_cases h36:x.1=36
 ·rw[if_pos h36]
  by_cases e:ef fs x.2.2.1=x.2.1
  ·rw[if_pos e,if_neg (by simp),h36];exact lL
  ·rw[if_neg e,if_pos rfl]
   refine⟨gd,λo=>rfl,λf hm=>?_⟩
   rw[List.mem_singleton.1 hm]
   have ht:=hc.to
   rw[if_pos (AA hc.op.1 (.inr h36))] at ht
   have:=hc.a
   rw[h36,if_pos (show ua 36=true from tm.1)] at this
   exact⟨ht,ra.1 this⟩
 ·rw[if_neg h36,if_pos rfl]
  exact⟨gd,λo=>rfl,λf hm=>by cases hm⟩
theorem mN{la:List (Bool×Int)}{regs:Nat}{par:Int}{cs:List In}(h:dY la regs par cs):dY la regs par (fT cs):=by
 obtain⟨_,_,hsh,_⟩:=(cq h.chk).pt
 obtain⟨s,hs⟩:=fu kc (λf g=>decide (f.1=g.1)&&decide (f.2=g.2)) eW (λx hx hst fs=>by
  unfold eW fZ
  rw[if_neg (by omega)]) hsh []
 have he:fT cs=s.out:=by unfold fT;rw[hs];rfl
 obtain⟨l2,e1,e2,e3⟩:=gf (pf:=λf=>(0<=f.1/\f.1<(regs:Int))/\0<=f.2/\f.2<(regs:Int)) (G:=Gd regs par la.length) (λx hx fs hf=>xQ (h.gd x hx) fs hf) cs 0 _ s (λx hx=>hx) hs (λf hf=>by cases hf) (by simp)
 refine jL h mO ?_ ?_
 ·rw[he,e1];simpa using e2
 ·rw[he,e1]
  simp only[List.nil_append]
  rw[e3,h.nest]
/-! ### Share-/
theorem IE:∀k:Nat,k<39->di (k:Int)=true->(bL k).getD 1 false=true:=by decide
theorem mY.expTo{regs par nA:Int}{x:In}(h:mY regs par nA x)(he:di x.1=true):0<=x.2.1/\x.2.1<regs:=by
 have:=h.to
 obtain⟨k,hk⟩:∃k:Nat,x.1=(k:Int):=⟨x.1.toNat,by have:=h.op;omega⟩
 rw[hk] at he
 rw[hk,Int.toNat_natCast,if_pos (IE k (by have:=h.op;omega) he)] at this
 exact this
theorem wj{regs:Nat}{par nA:Int}{x:In}(hx:Gd regs par nA x)(fs:List In)(hf:∀f ∈ fs,0<=f.2.1/\f.2.1<regs):
  if(dZ x fs).2.1=true then Gd regs par nA (dZ x fs).1/\(∀o,aP (dZ x fs).1.1 o=aP x.1 o)/\∀f ∈ (dZ x fs).2.2,0<=f.2.1/\f.2.1<regs else fN x.1:=by
 have hc:=hx.inC
 unfold dZ
 by_cases he:di x.1=true
 ·have hto:=hc.expTo he
  have hfl:=qQ he
  rw[if_pos he]
  by_cases hi:0<=idx (λf=>cE f x) fs 0
  ·have hm:0<=(fs.getD (idx (λf=>cE f x) fs 0).toNat (0,0,0,0,0)).2.1/\(fs.getD (idx (λf=>cE f x) fs 0).toNat (0,0,0,0,0)).2.1<regs:=by
    rcases gu (λf=>cE f x) fs 0 with⟨h1,_⟩|⟨j,hj,h1,f,h3,_⟩
    ·omega
    ·rw[h1,Int.toNat_natCast,Nat.zero_add,List.getD_eq_getElem?_getD,h3]
     exact hf f (List.mem_of_getElem? h3)
   rw[if_pos hi]
   generalize (fs.getD (idx (λf=>cE f x) fs 0).toNat (0,0,0,0,0)).2.1=z at hm ⊢
   by_cases hz:z=x.2.1
   ·rw[if_pos hz,if_neg (by simp)];exact hfl
   ·rw[if_neg hz,if_pos rfl]
    refine⟨mY.gd ⟨by simp,hto,hm,rfl,by show(0:Int)<=bZ nA par 36;unfold bZ;simp,rfl⟩ (by simp),λo=>?_,λf hm=>by cases hm⟩
    rw[dX hfl,dX lL]
  ·rw[if_neg hi]
   by_cases hq:x.2.1=x.2.2.1\/x.2.1=x.2.2.2.1
   ·rw[if_pos hq,if_pos rfl];exact⟨hx,λo=>rfl,λf hm=>by cases hm⟩
   ·rw[if_neg hq,if_pos rfl]
    exact⟨hx,λo=>rfl,λf hm=>by rw[List.mem_singleton.1 hm];exact hto⟩
 ·rw[if_neg he,if_pos rfl]
  exact⟨hx,λo=>rfl,λf hm=>by cases hm⟩
theorem l7{la:List (Bool×Int)}{regs:Nat}{par:Int}{cs:List In}(h:dY la regs par cs):dY la regs par (fR cs):=by
 obtain⟨_,_,hsh,_⟩:=(cq h.chk).pt
 obtain⟨s,hs⟩:=fu kb dL dZ (λx hx hst fs=>by
  unfold dZ
  rw[mJ hst]
  rfl) hsh []
 have he:fR cs=s.out:=by unfold fR;rw[hs];rfl
 obtain⟨l2,e1,e2,e3⟩:=gf (pf:=λf=>0<=f.2.1/\f.2.1<(regs:Int)) (G:=Gd regs par la.length) (λx hx fs hf=>wj (h.gd x hx) fs hf) cs 0 _ s (λx hx=>hx) hs (λf hf=>by cases hf) (by simp)
 refine jL h l8 ?_ ?_
 ·rw[he,e1];simpa using e2
 ·rw[he,e1]
  simp only[List.nil_append]
  rw[e3,h.nest]
/-! ### Prune-/
theorem qr{L:Lv}:∀(l:List In) (i:Nat),∀x ∈ cL L l i,x ∈ l
 |[],_,x,h=>h
 |y::l,i,x,h=>by
  unfold cL at h
  rcases List.mem_append.1 h with h|h
  ·split at h
   ·rw[List.mem_singleton.1 h];exact List.mem_cons_self ..
   ·cases h
  ·exact List.mem_cons_of_mem _ (qr l (i+1) x h)
theorem u9{op:Int}(h:fL op=true):fN op:=by
 unfold fL at h
 simp only[Bool.or_eq_true,decide_eq_true_eq] at h
 rcases h with((h|h)|h)|h
 ·exact qQ h
 ·subst h;exact sQ
 ·subst h;exact lL
 ·subst h;exact zU
theorem kw{L:Lv}:∀(l:List In) (i:Nat) (o:List NB),cQ ((cL L l i).map (·.1)) o=cQ (l.map (·.1)) o
 |[],_,o=>rfl
 |x::l,i,o=>by
  unfold cL
  rw[List.map_append,gn,List.map_cons,cQ]
  split
  ·rw[List.map_cons,List.map_nil,cQ,Option.bind_assoc]
   congr 1
   funext o'
   exact kw l (i+1) o'
  ·rename_i hk
   have hi:fL x.1=true:=by
    unfold eM at hk
    simp only[Bool.or_eq_true,not_or,Bool.not_eq_true,Bool.not_eq_false'] at hk
    exact hk.1
   rw[dX (u9 hi)]
   exact kw l (i+1) o
theorem n6{cs:List In}:∀{f k i:Nat},fM cs f k=some i->sK cs i=true
 |0,k,i,h=>by cases h
 |f+1,k,i,h=>by
  rw[fM] at h
  split at h
  ·split at h
   ·rename_i hh;cases h;exact hh
   ·exact n6 h
  ·cases h
theorem xL{l:List In}{i:Nat}(h:jc l=some i){o o2:List NB}(hn:cQ (l.map (·.1)) o=some o2):cQ ((fq l i (ke l i)).map (·.1)) o=some o2:=by
 have hlt:=j4 h
 have hh:=n6 h
 have hl:l=l.take i++l.getD i (0,0,0,0,0)::l.getD (i+1) (0,0,0,0,0)::l.drop (i+2):=by
  rw[<-bw (d:=(0,0,0,0,0)) (show i+1<l.length by omega),<-bw (d:=(0,0,0,0,0)) (show i<l.length by omega),List.take_append_drop]
 have h1:(l.getD (i+1) (0,0,0,0,0)).1=31:=by
  unfold sK at hh
  simp only[Bool.and_eq_true,decide_eq_true_eq] at hh
  exact hh.1
 have h2:(l.getD i (0,0,0,0,0)).1=27\/(l.getD i (0,0,0,0,0)).1=29\/(l.getD i (0,0,0,0,0)).1=28:=by
  unfold sK at hh
  simp only[Bool.and_eq_true,Bool.or_eq_true,decide_eq_true_eq] at hh
  omega
 have ho:l.map (·.1)=(l.take i).map (·.1)++(l.getD i (0,0,0,0,0)).1::(l.getD (i+1) (0,0,0,0,0)).1::(l.drop (i+2)).map (·.1):=by
  conv=>lhs;rw[hl]
  simp only[List.map_append,List.map_cons]
 rw[ho,gn,h1] at hn
 obtain⟨o1,g1,g2⟩:=Option.bind_eq_some_iff.1 hn
 rw[cQ] at g2
 obtain⟨o3,g3,g4⟩:=Option.bind_eq_some_iff.1 g2
 rw[cQ] at g4
 obtain⟨o4,g5,g6⟩:=Option.bind_eq_some_iff.1 g4
 unfold fq ke
 by_cases h28:(l.getD i (0,0,0,0,0)).1=28
 ·rw[if_pos h28,bw (d:=(0,0,0,0,0)) (show i+1<l.length by omega)]
  simp only[List.map_append,List.map_cons]
  rw[gn,g1,Option.bind_some,h1,cQ]
  rw[h28] at g3
  unfold aP at g3 g5 ⊢
  simp only[Int.reduceEq,if_false,if_true] at g3 g5 ⊢
  split at g3
  ·rename_i hc
   cases g3
   rw[if_pos hc.1,Option.bind_some]
   rw[if_pos (by simp)] at g5
   cases g5
   simpa using g6
  ·cases g3
 ·rw[if_neg h28]
  simp only[List.map_append]
  rw[gn,g1,Option.bind_some]
  unfold aP at g3 g5
  simp only[Int.reduceEq,if_false,if_true] at g5
  rcases h2 with h2|h2|h2
  ·rw[h2] at g3
   simp only[Int.reduceEq,if_false,if_true] at g3
   split at g3
   ·cases g3
    rw[if_pos (by simp)] at g5
    cases g5
    simpa using g6
   ·cases g3
  ·rw[h2] at g3
   simp only[Int.reduceEq,if_false,if_true] at g3
   split at g3
   ·cases g3
    rw[if_pos (by simp)] at g5
    cases g5
    simpa using g6
   ·cases g3
  ·exact absurd h2 h28
theorem ol:∀(f:Nat) (l:List In) (o o2:List NB),cQ (l.map (·.1)) o=some o2->cQ ((gz f l).map (·.1)) o=some o2/\∀x ∈ gz f l,x ∈ l
 |0,l,o,o2,h=>⟨h,λx hx=>hx⟩
 |f+1,l,o,o2,h=>by
  rw[gz]
  split
  ·exact⟨h,λx hx=>hx⟩
  ·rename_i i hi
   obtain⟨h1,h2⟩:=ol f _ o o2 (xL hi h)
   refine⟨h1,λx hx=>?_⟩
   have:=h2 x hx
   unfold fq at this
   rcases List.mem_append.1 this with h'|h'
   ·exact List.mem_of_mem_take h'
   ·exact List.mem_of_mem_drop h'
theorem mh{la:List (Bool×Int)}{regs fuel:Nat}{par:Int}{cs:List In}(hL:jY fuel regs cs≠none)(h:dY la regs par cs):dY la regs par (fI fuel regs cs):=by
 refine jL h mi ?_ ?_
 all_goals
  unfold fI
  cases hc:jY fuel regs cs with
  |none=>exact absurd hc hL
  |some L=>
   simp only
   obtain⟨h1,h2⟩:=ol (cL L cs 0).length (cL L cs 0) [] [] (by rw[kw,h.nest])
   first
    |exact h1
    |exact λx hx=>h.gd x (qr _ _ x (h2 x hx))
end Go.Proofs.YtidhfimbnjaceaaGreat