/- A part of the proof of CostMemory: CmA CmB CmC CmD CmE. No condition. -/
import Derived.Test.YthehakngpbjgjaaGreatGc21
import Derived.Test.YthehakngpbjgjaaGreatGc22
import Derived.Test.YthehakngpbjgjaaGreatGc17
set_option linter.unusedSimpArgs false
set_option linter.unusedVariables false
set_option linter.constructorNameAsVariable false
set_option maxRecDepth 100000
set_option maxHeartbeats 4000000
namespace Go.Proofs.YthehakngpbjgjaaGreat
open Go.RowKit
def pA(l:List (Bool×Int))(i j:Nat):AV:=if j=0 then .b (l.getD i (false,0)).1 else .n .i64 (l.getD i (false,0)).2
def pI(l:List (Int×Int))(i j:Nat):AV:=if j=0 then .n .i64 (l.getD i (0,0)).1 else .n .u32 (l.getD i (0,0)).2
theorem iR(l:List (Bool×Int))(i:Nat):pA l i 0= .b (l.getD i (false,0)).1:=rfl
theorem iQ(l:List (Bool×Int))(i:Nat):pA l i 1= .n .i64 (l.getD i (false,0)).2:=rfl
theorem pH(l:List (Int×Int))(i:Nat):pI l i 0= .n .i64 (l.getD i (0,0)).1:=rfl
theorem pG(l:List (Int×Int))(i:Nat):pI l i 1= .n .u32 (l.getD i (0,0)).2:=rfl
def aI(la:List (Bool×Int))(loc:Int)(cs:List (Int×Int)):AV:= .agg [.fs 2 la.length (pA la),.n .i64 loc,.fs 2 cs.length (pI cs)]
theorem bb{α:Type}{d:α}{l:List α}{k:Nat}(h:k<l.length):l.drop k=l.getD k d::l.drop (k+1):=by
 rw[List.drop_eq_getElem_cons h,List.getD_eq_getElem?_getD,List.getElem?_eq_getElem h];rfl
/-! ### the table of operations-/
def cL(k:Int):Int:=if k=0 then 4294967296 else if k=1\/k=2 then 16 else if k=3\/k=4 then 8 else if k=35 then 16 else 1
def eV(k:Int):Bool:=decide (k<=4)||decide (k=35)
def kA(k:Nat):List AV->Bool
 |[.s _,.s _,.s _,.n .u64 l,.b a]=>decide (l=cL k)&&a==eV k
 |_=>false
noncomputable def P6:Bool:=match gc (jg QD.get 3000 20) 79 [] with
 |some (.agg L)=>decide (L.length=180)&&(List.range 36).all λk=>kA k ((L.drop (k*5)).take 5)
 |_=>false
theorem pL:P6=true:=by kernel_rfl
theorem jA{P:Program}{C:aB}(hC:∀B,aA P B C){g:FuncId}{xs:List AV}{v:AV}(h:gc C g xs=some v):cF P g xs [.v v]:=by
 unfold gc at h
 split at h
 ·rename_i v' H' hr
  cases hs:v'.sc 3 with
  |false=>rw[hs] at h;cases h
  |true=>
   rw[hs] at h
   cases h
   exact fC hC hr hs
 ·cases h
theorem kz{k:Nat}{l:List AV}(h:kA k l=true):∃a b c,l=[.s a,.s b,.s c,.n .u64 (cL k),.b (eV k)]:=by
 unfold kA at h
 split at h
 ·rename_i a b c l q
  simp only[Bool.and_eq_true,decide_eq_true_eq,beq_iff_eq] at h
  exact⟨a,b,c,by rw[h.1,h.2]⟩
 ·cases h
theorem pK:∃L:List AV,cF Tryz.prog 79 [] [.v (.agg L)]/\L.length=36*5/\∀k:Nat,k<36->∃a b c,(L.drop (k*5)).take 5=[.s a,.s b,.s c,.n .u64 (cL k),.b (eV k)]:=by
 have h:=pL
 unfold P6 at h
 split at h
 ·rename_i L hr
  simp only[Bool.and_eq_true,decide_eq_true_eq] at h
  exact⟨L,jA (λB=>fh B ba ii 3000 20) hr,h.1,λk hk=>kz (List.all_eq_true.1 h.2 k (List.mem_range.2 hk))⟩
 ·cases h
def QN(a b c:ByteArray)(k:Int):AV:= .agg [.s a,.s b,.s c,.n .u64 (cL k),.b (eV k)]
def gL:AV:= .agg [.s ⟨#[]⟩,.s ⟨#[]⟩,.s ⟨#[]⟩,.n .u64 0,.b false]
theorem lF(op:Int)(h:op<0\/36<=op):cF Tryz.prog 50 [.n .i64 op] [.v gL,.v (.b false)]:=by
 refine ar ba so ⟨by simp,by decide⟩ ?_
 simp only[a8,gL]
 by_cases h0:op<0
 ·repeat first|with_reducible refine aq ?_|simp only[h0,decide_true,go_sem,simprocAttr]
  exact⟨[_,_],rfl,⟨rfl,rfl⟩,⟨rfl,rfl⟩,trivial⟩
 ·have h1:36<=op:=by omega
  repeat first|with_reducible refine aq ?_|simp only[h0,h1,ge_iff_le,decide_true,decide_false,go_sem,simprocAttr]
  exact⟨[_,_],rfl,⟨rfl,rfl⟩,⟨rfl,rfl⟩,trivial⟩
theorem eg(k:Nat)(hk:k<36):∃a b c,cF Tryz.prog 50 [.n .i64 k] [.v (QN a b c k),.v (.b true)]:=by
 obtain⟨L,hL,hlen,hrow⟩:=pK
 obtain⟨a,b,c,hr⟩:=hrow k hk
 refine⟨a,b,c,?_⟩
 refine ar ba so ⟨by simp,by decide⟩ ?_
 simp only[a8,QN]
 have h0:¬((k:Int)<0):=by omega
 have h1:¬((36:Int)<=k):=by omega
 have h2:(0:Int)<=(k:Int):=by omega
 have h3:(k:Int)<36:=by omega
 repeat first|with_reducible refine aq ?_|simp only[h0,h1,ge_iff_le,decide_true,decide_false,go_sem,simprocAttr]
 refine ah [] (fargs:=[]) (bP.same rfl) hL ?_ ?_
 ·simp only[go_sem,simprocAttr]
 repeat first|with_reducible refine aq ?_|simp only[hlen,h2,h3,hr,Int.toNat_natCast,and_self,go_sem,simprocAttr]
 exact⟨[_,_],rfl,⟨rfl,rfl⟩,⟨rfl,rfl⟩,trivial⟩
/-! ### an instruction-/
def aK(i:Int×Int):Int:=if i.1<0\/36<=i.1 then 1 else if cL i.1<=i.2 then 2 else 0
theorem hY(op arg:Int)(ha:0<=arg)(ha2:arg<4294967296):cF Tryz.prog 76 [.agg [.n .i64 op,.n .u32 arg]] [.v (.n .i64 (aK (op,arg)))]:=by
 refine ar ba EH ⟨by simp,by decide⟩ ?_
 simp only[a8]
 have hw:IntKind.u64.wrap arg=arg:=by
  unfold IntKind.wrap;simp[IntKind.signed,IntKind.bits];omega
 repeat first|with_reducible refine aq ?_|simp only[go_sem,simprocAttr]
 by_cases h:op<0\/36<=op
 ·refine ah [] (fargs:=[.n .i64 op]) (bP.same rfl) (lF op h) ?_ ?_
  ·simp only[go_sem,simprocAttr]
  simp only[gL]
  repeat first|with_reducible refine aq ?_|simp only[go_sem,simprocAttr]
  exact ab (by simp only[aK,h,if_true]) rfl
 ·obtain⟨k,rfl⟩:∃k:Nat,op=k:=⟨op.toNat,by omega⟩
  obtain⟨a,b,c,hk⟩:=eg k (by omega)
  refine ah [] (fargs:=[.n .i64 k]) (bP.same rfl) hk ?_ ?_
  ·simp only[go_sem,simprocAttr]
  simp only[QN]
  by_cases h2:cL k<=arg
  ·repeat first|with_reducible refine aq ?_|simp only[hw,h2,ge_iff_le,decide_true,go_sem,simprocAttr]
   exact ab (by simp only[aK,h,h2,if_true,if_false]) rfl
  ·repeat first|with_reducible refine aq ?_|simp only[hw,h2,ge_iff_le,decide_false,go_sem,simprocAttr]
   exact ab (by simp only[aK,h,h2,if_false]) rfl
/-! ### arrays-/
def cM:List (Bool×Int)->Int->Int
 |[],_=>0
 |a::l,left=>if a.2<1\/left<a.2 then 2 else cM l (left-a.2)
def aP(la:List (Bool×Int)):Int:=if 8<la.length then 6 else cM la 65536
theorem ir(la:List (Bool×Int))(hl:la.length<=9223372036854775807):cF Tryz.prog 75 [.fs 2 la.length (pA la)] [.v (.n .i64 (aP la))]:=by
 refine ar ba F0 ⟨by simp,by decide⟩ ?_
 simp only[a8]
 by_cases h8:8<la.length
 ·have h8':(8:Int)<(la.length:Int):=by omega
  repeat first|with_reducible refine aq ?_|simp only[h8',gt_iff_lt,decide_true,go_sem,simprocAttr]
  exact ab (by simp only[aP,h8,if_true]) rfl
 have h8':¬(8:Int)<(la.length:Int):=by omega
 have hE:aP la=cM la 65536:=by simp only[aP,h8,if_false]
 repeat first|with_reducible refine aq ?_|simp only[h8',gt_iff_lt,decide_false,go_sem,simprocAttr]
 refine GA.loop (I:=λm e H=>∃(k:Nat) (left:Int),m=la.length-k/\k<=la.length/\cM la 65536=cM (la.drop k) left/\0<=left/\left<=65536/\e=aG [(3,.n .i64 left),(9,.fs 2 la.length (pA la)),(10,.n .i64 la.length),(11,.n .i64 k)]/\H=au []) (Wk.mk [] [] ?_ ?_ ?_) ⟨0,65536,rfl,by omega,rfl,by omega,by omega,rfl,rfl⟩ ?_
 ·simp only[co,bD,go_sem,simprocAttr]
  repeat' refine aw ?_ ?_
  all_goals first|exact cI|skip
 ·trivial
 ·decide
 rintro m e H ⟨k,left,rfl,hk,hs,hl0,hl1,rfl,rfl⟩
 repeat first|with_reducible refine aq ?_|simp only[go_sem,simprocAttr]
 refine⟨λh=>?_,λh=>?_⟩
 ·have hk':k<la.length:=by omega
  have h0:(0:Int)<=(k:Int):=by omega
  rw[bb (d:=(false,0)) hk',cM] at hs
  by_cases h1:(la.getD k (false,0)).2<1
  ·repeat first|with_reducible refine aq ?_|simp only[h0,h,iR,iQ,h1,decide_true,go_sem,simprocAttr]
   rw[if_pos (.inl h1)] at hs
   exact ab (by rw[hE,hs]) rfl
  by_cases h2:left<(la.getD k (false,0)).2
  ·repeat first|with_reducible refine aq ?_|simp only[h0,h,iR,iQ,h1,h2,gt_iff_lt,decide_true,decide_false,go_sem,simprocAttr]
   rw[if_pos (.inr h2)] at hs
   exact ab (by rw[hE,hs]) rfl
  rw[if_neg (by omega)] at hs
  repeat first|with_reducible refine aq ?_|simp only[h0,h,iR,iQ,h1,h2,gt_iff_lt,decide_false,go_sem,simprocAttr]
  refine⟨_,_,_,?_,Wk.mk [] [] ?_ ?_ ?_,k+1,left-(la.getD k (false,0)).2,rfl,by omega,hs,by omega,by omega,rfl,rfl⟩
  ·omega
  ·simp only[co,bD,go_sem,simprocAttr]
   repeat' refine aw ?_ ?_
   all_goals first|exact cI|skip
  ·trivial
  ·decide
 ·repeat first|with_reducible refine aq ?_|simp only[go_sem,simprocAttr]
  have:k=la.length:=by omega
  subst this
  rw[List.drop_length,cM] at hs
  exact ab (by rw[hE,hs]) rfl
/-! ### what is in form-/
def aD:List (Int×Int)->Int
 |[]=>0
 |i::l=>if aK i=0 then aD l else aK i
def ay(la:List (Bool×Int))(loc:Int)(cs:List (Int×Int)):Int:=if aP la=0 then(if loc<0\/16<loc then 2 else if 1024<cs.length then 6 else aD cs) else aP la
def dH(cs:List (Int×Int)):Prop:=∀i ∈ cs,0<=i.2/\i.2<4294967296
theorem dw{α:Type}{l:List α}{k:Nat}{d:α}(h:k<l.length):l.getD k d ∈ l:=by rw[List.getD_eq_getElem?_getD,List.getElem?_eq_getElem h];exact List.getElem_mem _
theorem gr(la:List (Bool×Int))(loc:Int)(cs:List (Int×Int))(hl:la.length<=9223372036854775807)(hc:cs.length<=9223372036854775807)(ha:dH cs):cF Tryz.prog 47 [aI la loc cs] [.v (.n .i64 (ay la loc cs))]:=by
 refine ar ba HJ ⟨by simp,by decide⟩ ?_
 simp only[a8,aI]
 repeat first|with_reducible refine aq ?_|simp only[go_sem,simprocAttr]
 refine ah [] (fargs:=[.fs 2 la.length (pA la)]) (bP.same rfl) (ir la hl) ?_ ?_
 ·simp only[go_sem,simprocAttr]
 by_cases hA:aP la=0
 rotate_left
 ·repeat first|with_reducible refine aq ?_|simp only[hA,ne_eq,not_false_eq_true,decide_true,go_sem,simprocAttr]
  exact ab (by simp only[ay,hA,if_false]) rfl
 repeat first|with_reducible refine aq ?_|simp only[hA,ne_eq,not_true_eq_false,decide_false,go_sem,simprocAttr]
 by_cases h1:loc<0
 ·repeat first|with_reducible refine aq ?_|simp only[h1,decide_true,go_sem,simprocAttr]
  exact ab (by simp only[ay,hA,h1,true_or,if_true]) rfl
 by_cases h2:16<loc
 ·repeat first|with_reducible refine aq ?_|simp only[h1,h2,gt_iff_lt,decide_true,decide_false,go_sem,simprocAttr]
  exact ab (by simp only[ay,hA,h2,or_true,if_true]) rfl
 have hlo:¬(loc<0\/16<loc):=by omega
 by_cases h3:1024<cs.length
 ·have h3':(1024:Int)<(cs.length:Int):=by omega
  repeat first|with_reducible refine aq ?_|simp only[h1,h2,h3',gt_iff_lt,decide_true,decide_false,go_sem,simprocAttr]
  exact ab (by simp only[ay,hA,hlo,h3,if_true,if_false]) rfl
 have h3':¬(1024:Int)<(cs.length:Int):=by omega
 repeat first|with_reducible refine aq ?_|simp only[h1,h2,h3',gt_iff_lt,decide_false,go_sem,simprocAttr]
 refine GA.loop (I:=λm e H=>∃(k:Nat),m=cs.length-k/\k<=cs.length/\aD cs=aD (cs.drop k)/\e=aG [(28,.fs 2 cs.length (pI cs)),(29,.n .i64 cs.length),(30,.n .i64 k)]/\H=au []) (Wk.mk [] [] ?_ ?_ ?_) ⟨0,rfl,by omega,rfl,rfl,rfl⟩ ?_
 ·simp only[co,bD,go_sem,simprocAttr]
  repeat' refine aw ?_ ?_
  all_goals first|exact cI|skip
 ·trivial
 ·decide
 rintro m e H ⟨k,rfl,hk,hs,rfl,rfl⟩
 have hE:ay la loc cs=aD cs:=by simp only[ay,hA,hlo,h3,if_true,if_false]
 repeat first|with_reducible refine aq ?_|simp only[go_sem,simprocAttr]
 refine⟨λh=>?_,λh=>?_⟩
 ·have hk':k<cs.length:=by omega
  have h0:(0:Int)<=(k:Int):=by omega
  have hm:=ha _ (dw (d:=(0,0)) hk')
  rw[bb (d:=(0,0)) hk',aD] at hs
  repeat first|with_reducible refine aq ?_|simp only[h0,h,pH,pG,go_sem,simprocAttr]
  refine ah [] (fargs:=[.agg [.n .i64 (cs.getD k (0,0)).1,.n .u32 (cs.getD k (0,0)).2]]) (bP.same rfl) (hY _ _ hm.1 hm.2) ?_ ?_
  ·simp only[go_sem,simprocAttr]
  by_cases hi:aK (cs.getD k (0,0))=0
  ·rw[if_pos hi] at hs
   repeat first|with_reducible refine aq ?_|simp only[hi,ne_eq,not_true_eq_false,decide_false,go_sem,simprocAttr]
   refine⟨_,_,_,?_,Wk.mk [] [] ?_ ?_ ?_,k+1,rfl,by omega,hs,rfl,rfl⟩
   ·omega
   ·simp only[co,bD,go_sem,simprocAttr]
    repeat' refine aw ?_ ?_
    all_goals first|exact cI|skip
   ·trivial
   ·decide
  ·rw[if_neg hi] at hs
   repeat first|with_reducible refine aq ?_|simp only[hi,ne_eq,not_false_eq_true,decide_true,go_sem,simprocAttr]
   exact ab (by rw[hE,hs]) rfl
 ·repeat first|with_reducible refine aq ?_|simp only[go_sem,simprocAttr]
  have:k=cs.length:=by omega
  subst this
  rw[List.drop_length,aD] at hs
  exact ab (by rw[hE,hs]) rfl
theorem gk{op:Int}(h0:¬op=0)(h1:¬op=1)(h2:¬op=2)(h3:¬op=3)(h4:¬op=4)(h5:¬op=35):cL op=1:=by
 simp only[cL,h0,h1,h2,h3,h4,h5,or_self,if_false]
theorem gS(op arg:Int)(ha:0<=arg)(ha2:arg<4294967296):cF Tryz.prog 51 [.agg [.n .i64 op,.n .u32 arg]] [.v (.n .i64 (aK (op,arg)))]:=by
 refine ar ba kp ⟨by simp,by decide⟩ ?_
 simp only[a8]
 have hw:IntKind.i64.wrap arg=arg:=av (by omega)
 by_cases h0:op<0
 ·repeat first|with_reducible refine aq ?_|simp only[h0,decide_true,go_sem,simprocAttr]
  exact ab (by simp only[aK,h0,true_or,if_true]) rfl
 by_cases h1:36<=op
 ·repeat first|with_reducible refine aq ?_|simp only[h0,h1,ge_iff_le,decide_true,decide_false,go_sem,simprocAttr]
  exact ab (by simp only[aK,h1,or_true,if_true]) rfl
 have hno:¬(op<0\/36<=op):=by omega
 by_cases e0:op=0
 ·subst e0
  repeat first|with_reducible refine aq ?_|simp only[h0,h1,ge_iff_le,decide_true,decide_false,go_sem,simprocAttr]
  exact ab (by simp[aK,cL];omega) rfl
 have key:∀most:Int,cL op=most+1->(if most<arg then(2:Int) else 0)=aK (op,arg):=λmost hm=>by
  simp only[aK,hno,if_false,hm]
  by_cases h:most<arg
  ·rw[if_pos h,if_pos (by omega)]
  ·rw[if_neg h,if_neg (by omega)]
 by_cases e1:op=1
 ·subst e1
  have:=key 15 rfl
  by_cases hg:15<arg
  ·rw[if_pos hg] at this
   repeat first|with_reducible refine aq ?_|simp only[h0,h1,hw,hg,ge_iff_le,gt_iff_lt,decide_true,decide_false,go_sem,simprocAttr]
   exact ab (congrArg _ this) rfl
  ·rw[if_neg hg] at this
   repeat first|with_reducible refine aq ?_|simp only[h0,h1,hw,hg,ge_iff_le,gt_iff_lt,decide_true,decide_false,go_sem,simprocAttr]
   exact ab (congrArg _ this) rfl
 by_cases e2:op=2
 ·subst e2
  have:=key 15 rfl
  by_cases hg:15<arg
  ·rw[if_pos hg] at this
   repeat first|with_reducible refine aq ?_|simp only[h0,h1,hw,hg,ge_iff_le,gt_iff_lt,decide_true,decide_false,go_sem,simprocAttr]
   exact ab (congrArg _ this) rfl
  ·rw[if_neg hg] at this
   repeat first|with_reducible refine aq ?_|simp only[h0,h1,hw,hg,ge_iff_le,gt_iff_lt,decide_true,decide_false,go_sem,simprocAttr]
   exact ab (congrArg _ this) rfl
 by_cases e3:op=3
 ·subst e3
  have:=key 7 rfl
  by_cases hg:7<arg
  ·rw[if_pos hg] at this
   repeat first|with_reducible refine aq ?_|simp only[h0,h1,hw,hg,ge_iff_le,gt_iff_lt,decide_true,decide_false,go_sem,simprocAttr]
   exact ab (congrArg _ this) rfl
  ·rw[if_neg hg] at this
   repeat first|with_reducible refine aq ?_|simp only[h0,h1,hw,hg,ge_iff_le,gt_iff_lt,decide_true,decide_false,go_sem,simprocAttr]
   exact ab (congrArg _ this) rfl
 by_cases e4:op=4
 ·subst e4
  have:=key 7 rfl
  by_cases hg:7<arg
  ·rw[if_pos hg] at this
   repeat first|with_reducible refine aq ?_|simp only[h0,h1,hw,hg,ge_iff_le,gt_iff_lt,decide_true,decide_false,go_sem,simprocAttr]
   exact ab (congrArg _ this) rfl
  ·rw[if_neg hg] at this
   repeat first|with_reducible refine aq ?_|simp only[h0,h1,hw,hg,ge_iff_le,gt_iff_lt,decide_true,decide_false,go_sem,simprocAttr]
   exact ab (congrArg _ this) rfl
 by_cases e5:op=35
 ·subst e5
  have:=key 15 rfl
  by_cases hg:15<arg
  ·rw[if_pos hg] at this
   repeat first|with_reducible refine aq ?_|simp only[h0,h1,hw,hg,ge_iff_le,gt_iff_lt,decide_true,decide_false,go_sem,simprocAttr]
   exact ab (congrArg _ this) rfl
  ·rw[if_neg hg] at this
   repeat first|with_reducible refine aq ?_|simp only[h0,h1,hw,hg,ge_iff_le,gt_iff_lt,decide_true,decide_false,go_sem,simprocAttr]
   exact ab (congrArg _ this) rfl
 have:=key 0 (gk e0 e1 e2 e3 e4 e5)
 by_cases hg:0<arg
 ·rw[if_pos hg] at this
  repeat first|with_reducible refine aq ?_|simp only[h0,h1,e0,e1,e2,e3,e4,e5,hw,hg,ge_iff_le,gt_iff_lt,decide_true,decide_false,go_sem,simprocAttr]
  exact ab (congrArg _ this) rfl
 ·rw[if_neg hg] at this
  repeat first|with_reducible refine aq ?_|simp only[h0,h1,e0,e1,e2,e3,e4,e5,hw,hg,ge_iff_le,gt_iff_lt,decide_true,decide_false,go_sem,simprocAttr]
  exact ab (congrArg _ this) rfl
/-! ### Form-/
def dn:List (Bool×Int)->Bool
 |[]=>true
 |a::l=>decide (1<=a.2)&&decide (a.2<=65536)&&dn l
def bn:List (Bool×Int)->Int
 |[]=>0
 |a::l=>a.2+bn l
theorem cy:∀{la:List (Bool×Int)},dn la=true->0<=bn la
 |[],_=>Int.le_refl 0
 |a::l,h=>by
  simp only[dn,Bool.and_eq_true,decide_eq_true_eq] at h
  have:=cy h.2
  simp only[bn];omega
theorem eu:∀(la:List (Bool×Int)) (left:Int),0<=left->left<=65536->cM la left=if dn la=true/\bn la<=left then 0 else 2
 |[],left,h0,h=>by simp only[cM,dn,bn,h0,and_self,if_true]
 |a::l,left,h0,h=>by
  simp only[cM]
  by_cases hb:a.2<1\/left<a.2
  ·rw[if_pos hb,if_neg]
   rintro ⟨h1,h2⟩
   simp only[dn,Bool.and_eq_true,decide_eq_true_eq,bn] at h1 h2
   have:=cy h1.2
   omega
  ·rw[if_neg hb,eu l (left-a.2) (by omega) (by omega)]
   simp only[dn,bn,Bool.and_eq_true,decide_eq_true_eq]
   by_cases h1:dn l=true/\bn l<=left-a.2
   ·rw[if_pos h1,if_pos ⟨⟨⟨by omega,by omega⟩,h1.1⟩,by omega⟩]
   ·rw[if_neg h1,if_neg (λh2=>h1 ⟨h2.1.2,by omega⟩)]
theorem bL{la:List (Bool×Int)}{loc:Int}{cs:List (Int×Int)}(h:¬8<la.length)(hb:¬(dn la=true/\bn la<=65536)):ay la loc cs=2:=by
 have e:aP la=2:=by simp only[aP,h,if_false];rw[eu la 65536 (by omega) (by omega),if_neg hb]
 simp only[ay,e];rfl
theorem de{la:List (Bool×Int)}{loc:Int}{cs:List (Int×Int)}(h:¬8<la.length)(hb:dn la=true/\bn la<=65536):ay la loc cs=if loc<0\/16<loc then 2 else if 1024<cs.length then 6 else aD cs:=by
 have e:aP la=0:=by simp only[aP,h,if_false];rw[eu la 65536 (by omega) (by omega),if_pos hb]
 simp only[ay,e,if_true]
theorem jl(la:List (Bool×Int))(loc:Int)(cs:List (Int×Int))(hl:la.length<=9223372036854775807)(hc:cs.length<=9223372036854775807)(ha:dH cs):cF Tryz.prog 25 [aI la loc cs] [.v (.n .i64 (ay la loc cs))]:=by
 refine ar ba qE ⟨by simp,by decide⟩ ?_
 simp only[a8,aI]
 by_cases h8:8<la.length
 ·have h8':(8:Int)<(la.length:Int):=by omega
  repeat first|with_reducible refine aq ?_|simp only[h8',gt_iff_lt,decide_true,go_sem,simprocAttr]
  exact ab (by simp only[ay,aP,h8,if_true];rfl) rfl
 have h8':¬(8:Int)<(la.length:Int):=by omega
 repeat first|with_reducible refine aq ?_|simp only[h8',gt_iff_lt,decide_false,go_sem,simprocAttr]
 refine GA.loop (I:=λm e H=>∃(k:Nat) (s:Int),m=la.length-k/\k<=la.length/\dn la=dn (la.drop k)/\bn la=s+bn (la.drop k)/\0<=s/\s<=65536*k/\e=aG [(1,.p 0 0),(3,.n .i64 s),(4,.n .i64 k)]/\H=au [cm 0 25 [.fs 2 la.length (pA la),.n .i64 loc,.fs 2 cs.length (pI cs)]]) (Wk.mk [0] [] ?_ ?_ ?_) ⟨0,0,rfl,by omega,rfl,by simp,by omega,by omega,rfl,rfl⟩ ?_
 ·simp only[co,bD,go_sem,simprocAttr]
  repeat' refine aw ?_ ?_
  all_goals first|exact cI|skip
 ·exact .cons rfl .ls .nil
 ·simp
 rintro m e H ⟨k,s,rfl,hk,hs,hs2,hs0,hs1,rfl,rfl⟩
 repeat first|with_reducible refine aq ?_|simp only[go_sem,simprocAttr]
 refine⟨λh=>?_,λh=>?_⟩
 ·have hk':k<la.length:=by omega
  have h0:(0:Int)<=(k:Int):=by omega
  rw[bb (d:=(false,0)) hk',dn] at hs
  rw[bb (d:=(false,0)) hk',bn] at hs2
  by_cases h1:(la.getD k (false,0)).2<1
  ·repeat first|with_reducible refine aq ?_|simp only[h0,h,iR,iQ,h1,decide_true,go_sem,simprocAttr]
   exact ab (by rw[bL h8 (λhh=>by rw[hs] at hh;simp only[Bool.and_eq_true,decide_eq_true_eq] at hh;omega)]) rfl
  by_cases h2:65536<(la.getD k (false,0)).2
  ·repeat first|with_reducible refine aq ?_|simp only[h0,h,iR,iQ,h1,h2,gt_iff_lt,decide_true,decide_false,go_sem,simprocAttr]
   exact ab (by rw[bL h8 (λhh=>by rw[hs] at hh;simp only[Bool.and_eq_true,decide_eq_true_eq] at hh;omega)]) rfl
  have hs':dn la=dn (la.drop (k+1)):=by
   rw[hs,decide_eq_true (show 1<=(la.getD k (false,0)).2 by omega),decide_eq_true (show(la.getD k (false,0)).2<=65536 by omega),Bool.true_and,Bool.true_and]
  repeat first|with_reducible refine aq ?_|simp only[h0,h,iR,iQ,h1,h2,gt_iff_lt,decide_false,go_sem,simprocAttr]
  refine⟨_,_,_,?_,Wk.mk [0] [] ?_ ?_ ?_,k+1,s+(la.getD k (false,0)).2,rfl,by omega,hs',by omega,by omega,by omega,rfl,rfl⟩
  ·omega
  ·simp only[co,bD,go_sem,simprocAttr]
   repeat' refine aw ?_ ?_
   all_goals first|exact cI|skip
  ·exact .cons rfl .ls .nil
  ·simp
 have:k=la.length:=by omega
 subst this
 rw[List.drop_length] at hs hs2
 simp only[bn,Int.add_zero] at hs2
 simp only[dn] at hs
 by_cases g1:65536<s
 ·repeat first|with_reducible refine aq ?_|simp only[g1,gt_iff_lt,decide_true,go_sem,simprocAttr]
  exact ab (by rw[bL h8 (by omega)]) rfl
 have hE:ay la loc cs=if loc<0\/16<loc then 2 else if 1024<cs.length then 6 else aD cs:=de h8 ⟨hs,by omega⟩
 by_cases g2:loc<0
 ·repeat first|with_reducible refine aq ?_|simp only[g1,g2,gt_iff_lt,decide_true,decide_false,go_sem,simprocAttr]
  exact ab (by rw[hE,if_pos (.inl g2)]) rfl
 by_cases g3:16<loc
 ·repeat first|with_reducible refine aq ?_|simp only[g1,g2,g3,gt_iff_lt,decide_true,decide_false,go_sem,simprocAttr]
  exact ab (by rw[hE,if_pos (.inr g3)]) rfl
 rw[if_neg (by omega)] at hE
 by_cases g4:1024<cs.length
 ·have g4':(1024:Int)<(cs.length:Int):=by omega
  repeat first|with_reducible refine aq ?_|simp only[g1,g2,g3,g4',gt_iff_lt,decide_true,decide_false,go_sem,simprocAttr]
  exact ab (by rw[hE,if_pos g4]) rfl
 have g4':¬(1024:Int)<(cs.length:Int):=by omega
 rw[if_neg g4] at hE
 repeat first|with_reducible refine aq ?_|simp only[g1,g2,g3,g4',gt_iff_lt,decide_false,go_sem,simprocAttr]
 refine GA.loop (I:=λm e H=>∃(k:Nat),m=cs.length-k/\k<=cs.length/\aD cs=aD (cs.drop k)/\e=aG [(1,.p 0 0),(5,.n .i64 k)]/\H=au [cm 0 25 [.fs 2 la.length (pA la),.n .i64 loc,.fs 2 cs.length (pI cs)]]) (Wk.mk [0] [] ?_ ?_ ?_) ⟨0,rfl,by omega,rfl,rfl,rfl⟩ ?_
 ·simp only[co,bD,go_sem,simprocAttr]
  repeat' refine aw ?_ ?_
  all_goals first|exact cI|skip
 ·exact .cons rfl .ls .nil
 ·simp
 rintro m e H ⟨k,rfl,hk,hs,rfl,rfl⟩
 repeat first|with_reducible refine aq ?_|simp only[go_sem,simprocAttr]
 refine⟨λh=>?_,λh=>?_⟩
 ·have hk':k<cs.length:=by omega
  have h0:(0:Int)<=(k:Int):=by omega
  have hm:=ha _ (dw (d:=(0,0)) hk')
  rw[bb (d:=(0,0)) hk',aD] at hs
  repeat first|with_reducible refine aq ?_|simp only[h0,h,pH,pG,go_sem,simprocAttr]
  refine ah [] (fargs:=[.agg [.n .i64 (cs.getD k (0,0)).1,.n .u32 (cs.getD k (0,0)).2]]) (bP.same rfl) (gS _ _ hm.1 hm.2) ?_ ?_
  ·simp only[go_sem,simprocAttr]
  by_cases hi:aK (cs.getD k (0,0))=0
  ·rw[if_pos hi] at hs
   repeat first|with_reducible refine aq ?_|simp only[hi,ne_eq,not_true_eq_false,decide_false,go_sem,simprocAttr]
   refine⟨_,_,_,?_,Wk.mk [0] [] ?_ ?_ ?_,k+1,rfl,by omega,hs,rfl,rfl⟩
   ·omega
   ·simp only[co,bD,go_sem,simprocAttr]
    repeat' refine aw ?_ ?_
    all_goals first|exact cI|skip
   ·exact .cons rfl .ls .nil
   ·simp
  ·rw[if_neg hi] at hs
   repeat first|with_reducible refine aq ?_|simp only[hi,ne_eq,not_false_eq_true,decide_true,go_sem,simprocAttr]
   exact ab (by rw[hE,hs]) rfl
 ·repeat first|with_reducible refine aq ?_|simp only[go_sem,simprocAttr]
  have:k=cs.length:=by omega
  subst this
  rw[List.drop_length,aD] at hs
  exact ab (by rw[hE,hs]) rfl
/-! ### the memory-/
def ed:List (Bool×Int)->Int
 |[]=>0
 |a::l=>(if a.1=true then 4*a.2 else a.2)+ed l
def cK(la:List (Bool×Int))(loc:Int):Int:=4*(loc+48)+ed la
theorem da:∀{la:List (Bool×Int)},dn la=true->0<=ed la/\ed la<=4*bn la
 |[],_=>⟨Int.le_refl 0,Int.le_refl 0⟩
 |a::l,h=>by
  simp only[dn,Bool.and_eq_true,decide_eq_true_eq] at h
  have:=da h.2
  simp only[bn,ed];split<;>omega
theorem dy{la:List (Bool×Int)}{loc:Int}{cs:List (Int×Int)}(h:ay la loc cs=0):dn la=true/\bn la<=65536/\0<=loc/\loc<=16/\la.length<=8/\cs.length<=1024/\aD cs=0:=by
 by_cases h8:8<la.length
 ·simp only[ay,aP,h8,if_true] at h;simp at h
 by_cases hb:dn la=true/\bn la<=65536
 ·rw[de h8 hb] at h
  split at h
  ·cases h
  ·split at h
   ·cases h
   ·exact⟨hb.1,hb.2,by omega,by omega,by omega,by omega,h⟩
 ·rw[bL h8 hb] at h;cases h
theorem fV(la:List (Bool×Int))(loc:Int)(cs:List (Int×Int))(hl:la.length<=9223372036854775807)(hc:cs.length<=9223372036854775807)(ha:dH cs):cF Tryz.prog 10 [aI la loc cs] [.v (.n .i64 (if ay la loc cs=0 then cK la loc else 0)),.v (.n .i64 (ay la loc cs))]:=by
 refine ar ba qG ⟨by simp,by decide⟩ ?_
 simp only[a8,aI]
 repeat first|with_reducible refine aq ?_|simp only[go_sem,simprocAttr]
 refine ah [] (fargs:=[aI la loc cs]) (bP.same rfl) (jl la loc cs hl hc ha) ?_ ?_
 ·simp only[go_sem,simprocAttr]
 by_cases hf:ay la loc cs=0
 rotate_left
 ·repeat first|with_reducible refine aq ?_|simp only[hf,ne_eq,not_false_eq_true,decide_true,go_sem,simprocAttr]
  exact⟨[_,_],rfl,⟨rfl,rfl⟩,⟨rfl,rfl⟩,trivial⟩
 obtain⟨f1,f2,f3,f4,f5,f6,f7⟩:=dy hf
 have f0:=da f1
 have w1:IntKind.i64.wrap (4*loc)=4*loc:=av (by omega)
 have w2:IntKind.i64.wrap (4*loc+128)=4*loc+128:=av (by omega)
 have w3:IntKind.i64.wrap (4*loc+128+64)=4*loc+128+64:=av (by omega)
 repeat first|with_reducible refine aq ?_|simp only[hf,w1,w2,w3,ne_eq,not_true_eq_false,decide_false,go_sem,simprocAttr]
 refine GA.loop (I:=λm e H=>∃(k:Nat) (s:Int),m=la.length-k/\k<=la.length/\dn (la.drop k)=true/\cK la loc=s+ed (la.drop k)/\bn (la.drop k)<=65536/\0<=s/\s<=1000000/\e=aG [(1,.p 0 0),(5,.n .i64 s),(6,.n .i64 k)]/\H=au [cm 0 25 [.fs 2 la.length (pA la),.n .i64 loc,.fs 2 cs.length (pI cs)]]) (Wk.mk [0] [] ?_ ?_ ?_) ⟨0,4*loc+128+64,rfl,by omega,f1,by simp only[cK,List.drop_zero];omega,f2,by omega,by omega,rfl,rfl⟩ ?_
 ·simp only[co,bD,go_sem,simprocAttr]
  repeat' refine aw ?_ ?_
  all_goals first|exact cI|skip
 ·exact .cons rfl .ls .nil
 ·simp
 rintro m e H ⟨k,s,rfl,hk,hs,hs2,hs5,hs0,hs1,rfl,rfl⟩
 repeat first|with_reducible refine aq ?_|simp only[go_sem,simprocAttr]
 refine⟨λh=>?_,λh=>?_⟩
 ·have hk':k<la.length:=by omega
  have h0:(0:Int)<=(k:Int):=by omega
  rw[bb (d:=(false,0)) hk'] at hs hs2 hs5
  simp only[dn,ed,bn,Bool.and_eq_true,decide_eq_true_eq] at hs hs2 hs5
  have hm:=da hs.2
  have hp:=cy hs.2
  have hM:cK la loc<=1000000:=by simp only[cK];omega
  cases hw:(la.getD k (false,0)).1
  ·have v2:IntKind.i64.wrap (s+(la.getD k (false,0)).2)=s+(la.getD k (false,0)).2:=av (by omega)
   rw[hw] at hs2
   simp only[Bool.false_eq_true,if_false] at hs2
   repeat first|with_reducible refine aq ?_|simp only[h0,h,iR,iQ,hw,v2,go_sem,simprocAttr]
   refine⟨_,_,_,?_,Wk.mk [0] [] ?_ ?_ ?_,k+1,s+(la.getD k (false,0)).2,rfl,by omega,hs.2,by omega,by omega,by omega,by omega,rfl,rfl⟩
   ·omega
   ·simp only[co,bD,go_sem,simprocAttr]
    repeat' refine aw ?_ ?_
    all_goals first|exact cI|skip
   ·exact .cons rfl .ls .nil
   ·simp
  ·have v1:IntKind.i64.wrap (4*(la.getD k (false,0)).2)=4*(la.getD k (false,0)).2:=av (by omega)
   have v2:IntKind.i64.wrap (s+4*(la.getD k (false,0)).2)=s+4*(la.getD k (false,0)).2:=av (by omega)
   rw[hw] at hs2
   simp only[if_true] at hs2
   repeat first|with_reducible refine aq ?_|simp only[h0,h,iR,iQ,hw,v1,v2,go_sem,simprocAttr]
   refine⟨_,_,_,?_,Wk.mk [0] [] ?_ ?_ ?_,k+1,s+4*(la.getD k (false,0)).2,rfl,by omega,hs.2,by omega,by omega,by omega,by omega,rfl,rfl⟩
   ·omega
   ·simp only[co,bD,go_sem,simprocAttr]
    repeat' refine aw ?_ ?_
    all_goals first|exact cI|skip
   ·exact .cons rfl .ls .nil
   ·simp
 ·repeat first|with_reducible refine aq ?_|simp only[go_sem,simprocAttr]
  have:k=la.length:=by omega
  subst this
  rw[List.drop_length] at hs2
  simp only[ed,Int.add_zero] at hs2
  exact⟨[_,_],rfl,⟨by rw[hs2],rfl⟩,⟨rfl,rfl⟩,trivial⟩
theorem aC{k k':IntKind}{a b:Int}(h:0<=b):bu (binOp .shr 0 (.int k a) (.int k' b))=some (.n k (a.fdiv (2^min b.toNat k.bits))):=by
 unfold binOp Op.shift
 simp only[if_neg (Int.not_lt.2 h)]
 rfl
theorem Cl{k k':IntKind}{a b:Int}(h:0<=b):bu (binOp .shl 0 (.int k a) (.int k' b))=some (.n k (k.wrap (a*2^min b.toNat k.bits))):=by
 unfold binOp Op.shift
 simp only[if_neg (Int.not_lt.2 h)]
 rfl
theorem Cm{k:IntKind}{a b:Int}(h:b≠0):bu (binOp .quo 0 (.int k a) (.int k b))=some (.n k (k.wrap (a.tdiv b))):=by
 unfold binOp Op.intDiv
 simp only[ne_eq,not_true_eq_false,if_false,if_neg h]
 rfl
theorem P4(k:IntKind)(a b:Int):bu (binOp .or 0 (.int k a) (.int k b))=some (.n k (k.wrap ((BitVec.ofInt k.bits a|||BitVec.ofInt k.bits b).toNat:Int))):=by
 unfold binOp Op.intBits
 simp only[ne_eq,not_true_eq_false,if_false]
 rfl
def ck(n:Int):Int:=if n<0\/9007199254740991<n then 0 else n
theorem fm(n:Int):0<=ck n/\ck n<=9007199254740991:=by unfold ck;split<;>omega
theorem gY(n:Int):cF Tryz.prog 93 [.n .i64 n] [.v (.n .i64 (ck n))]:=by
 refine ar ba qV ⟨by simp,by decide⟩ ?_
 simp only[a8]
 by_cases h0:n<0
 ·repeat first|with_reducible refine aq ?_|simp only[h0,decide_true,go_sem,simprocAttr]
  exact ab (by simp only[ck,h0,true_or,if_true]) rfl
 by_cases h1:9007199254740991<n
 ·repeat first|with_reducible refine aq ?_|simp only[h0,h1,gt_iff_lt,decide_true,decide_false,go_sem,simprocAttr]
  exact ab (by simp only[ck,h1,or_true,if_true]) rfl
 ·repeat first|with_reducible refine aq ?_|simp only[h0,h1,gt_iff_lt,decide_false,go_sem,simprocAttr]
  exact ab (by simp only[ck,h0,h1,or_self,if_false]) rfl
theorem Dq:(2:Int)^min 32 64=4294967296:=by decide
theorem Dr:(2:Int)^min 16 64=65536:=by decide
theorem e8:(2:Int)^min 8 64=256:=by decide
def kt:ByteArray:=⟨#[0,1,2,2,3,3,3,3,4,4,4,4,4,4,4,4,5,5,5,5,5,5,5,5,5,5,5,5,5,5,5,5,6,6,6,6,6,6,6,6,6,6,6,6,6,6,6,6,6,6,6,6,6,6,6,6,6,6,6,6,6,6,6,6,7,7,7,7,7,7,7,7,7,7,7,7,7,7,7,7,7,7,7,7,7,7,7,7,7,7,7,7,7,7,7,7,7,7,7,7,7,7,7,7,7,7,7,7,7,7,7,7,7,7,7,7,7,7,7,7,7,7,7,7,7,7,7,7,8,8,8,8,8,8,8,8,8,8,8,8,8,8,8,8,8,8,8,8,8,8,8,8,8,8,8,8,8,8,8,8,8,8,8,8,8,8,8,8,8,8,8,8,8,8,8,8,8,8,8,8,8,8,8,8,8,8,8,8,8,8,8,8,8,8,8,8,8,8,8,8,8,8,8,8,8,8,8,8,8,8,8,8,8,8,8,8,8,8,8,8,8,8,8,8,8,8,8,8,8,8,8,8,8,8,8,8,8,8,8,8,8,8,8,8,8,8,8,8,8,8,8,8,8,8,8,8]⟩
def PZ:Bool:=(List.range 256).all λj=>match kt[j]? with
 |some c=>decide (c.toNat<=8)
 |none=>false
theorem ks:PZ=true:=by kernel_rfl
def gN(j:Nat):Int:=match kt[j]? with
 |some c=>c.toNat
 |none=>0
theorem fe(j:Nat)(h:j<256):∃c,kt[j]? =some c/\(c.toNat:Int)=gN j/\0<=gN j/\gN j<=8:=by
 have:=List.all_eq_true.1 ks j (List.mem_range.2 h)
 unfold gN
 split at this
 ·rename_i c hc
  rw[hc]
  have:=of_decide_eq_true this
  exact⟨c,rfl,rfl,by omega,by omega⟩
 ·cases this
abbrev Sc:List AO:=
 [o1 19 (.mv (.t 2)),o1 20 (.mv (.t 0)),o1 21 (.cvi .u8 (.t 20)),o1 22 (.sx (.c (.s kt)) (.t 21)),o1 23 (.cvi .i64 (.t 22)),o1 24 (.bin .add (.t 19) (.t 23)),o1 2 (.mv (.t 24))]
theorem CA:ko=Sc:=by kernel_rfl
def dL(y n:Int):Int:=if 256<=y then n+8+gN (y / 256).toNat else n+gN y.toNat
def eE(y n:Int):Int:=if 65536<=y then dL (y / 65536) (n+16) else dL y n
def bE(x:Int):Int:=if 4294967296<=x then eE (x / 4294967296) 32 else eE x 0
theorem dP{y n:Int}(h0:0<=y)(h1:y<65536)(hn:0<=n)(hn2:n<=40\/(n<=48/\y<256)):0<=dL y n/\dL y n<=56:=by
 unfold dL
 split
 ·obtain⟨_,_,_,q1,q2⟩:=fe (y / 256).toNat (by omega)
  omega
 ·obtain⟨_,_,_,q1,q2⟩:=fe y.toNat (by omega)
  omega
theorem iX{x:Int}(h0:0<=x)(h1:x<=9007199254740991):0<=bE x/\bE x<=56:=by
 unfold bE eE
 split
 ·split
  ·exact dP (by omega) (by omega) (by omega) (.inr ⟨by omega,by omega⟩)
  ·exact dP (by omega) (by omega) (by omega) (.inl (by omega))
 ·split
  ·exact dP (by omega) (by omega) (by omega) (.inl (by omega))
  ·exact dP (by omega) (by omega) (by omega) (.inl (by omega))
theorem jL(x:Int)(h0:0<=x)(h1:x<=9007199254740991):cF Tryz.prog 123 [.n .u64 x] [.v (.n .i64 (bE x))]:=by
 have s32:(0:Int)<=32:=by decide
 have s16:(0:Int)<=16:=by decide
 have s8:(0:Int)<=8:=by decide
 have a1:IntKind.i64.wrap 48=48:=rfl
 have a2:IntKind.i64.wrap 40=40:=rfl
 have a3:IntKind.i64.wrap 16=16:=rfl
 have a4:IntKind.i64.wrap 8=8:=rfl
 have a5:IntKind.i64.wrap 24=24:=rfl
 have fin:∀(y n:Int),0<=y->y<256->0<=n->n<=48->∃c,kt[y.toNat]? =some c/\IntKind.u8.wrap y=y/\IntKind.i64.wrap (c.toNat:Int)=c.toNat/\IntKind.i64.wrap (n+(c.toNat:Int))=n+gN y.toNat:=by
  intro y n hy0 hy1 hn0 hn1
  obtain⟨c,hc,hc1,q1,q2⟩:=fe y.toNat (by omega)
  exact⟨c,hc,by rw[IntKind.wrap_u8];omega,av (by omega),by rw[hc1];exact av (by omega)⟩
 refine ar ba qN ⟨by simp,by decide⟩ ?_
 simp only[a8]
 rw[CA]
 by_cases g1:4294967296<=x
 ·by_cases g2:65536<=x / 4294967296
  ·have g3:¬256<=x / 4294967296 / 65536:=by omega
   have hy:(0:Int)<=x / 4294967296 / 65536:=by omega
   obtain⟨c,q1,q2,q3,q4⟩:=fin (x / 4294967296 / 65536) 48 hy (by omega) (by omega) (by omega)
   repeat first|with_reducible refine aq ?_|simp only[g1,ge_iff_le,decide_true,decide_false,aC s32,aC s16,aC s8,Dq,Dr,e8,g2,g3,a1,q1,q2,q3,q4,hy,go_sem,simprocAttr]
   exact ab (by simp only[bE,eE,dL,g1,g2,g3,if_true,if_false,Int.reduceAdd]) rfl
  ·by_cases g3:256<=x / 4294967296
   ·have hy:(0:Int)<=x / 4294967296 / 256:=by omega
    obtain⟨c,q1,q2,q3,q4⟩:=fin (x / 4294967296 / 256) 40 hy (by omega) (by omega) (by omega)
    repeat first|with_reducible refine aq ?_|simp only[g1,ge_iff_le,decide_true,decide_false,aC s32,aC s16,aC s8,Dq,Dr,e8,g2,g3,a2,q1,q2,q3,q4,hy,go_sem,simprocAttr]
    exact ab (by simp only[bE,eE,dL,g1,g2,g3,if_true,if_false,Int.reduceAdd]) rfl
   ·have hy:(0:Int)<=x / 4294967296:=by omega
    obtain⟨c,q1,q2,q3,q4⟩:=fin (x / 4294967296) 32 hy (by omega) (by omega) (by omega)
    repeat first|with_reducible refine aq ?_|simp only[g1,ge_iff_le,decide_true,decide_false,aC s32,aC s16,aC s8,Dq,Dr,e8,g2,g3,q1,q2,q3,q4,hy,go_sem,simprocAttr]
    exact ab (by simp only[bE,eE,dL,g1,g2,g3,if_true,if_false,Int.reduceAdd]) rfl
 ·by_cases g2:65536<=x
  ·by_cases g3:256<=x / 65536
   ·have hy:(0:Int)<=x / 65536 / 256:=by omega
    obtain⟨c,q1,q2,q3,q4⟩:=fin (x / 65536 / 256) 24 hy (by omega) (by omega) (by omega)
    repeat first|with_reducible refine aq ?_|simp only[g1,ge_iff_le,decide_true,decide_false,aC s32,aC s16,aC s8,Dq,Dr,e8,g2,g3,a3,a5,q1,q2,q3,q4,hy,go_sem,simprocAttr]
    exact ab (by simp only[bE,eE,dL,g1,g2,g3,if_true,if_false,Int.reduceAdd]) rfl
   ·have hy:(0:Int)<=x / 65536:=by omega
    obtain⟨c,q1,q2,q3,q4⟩:=fin (x / 65536) 16 hy (by omega) (by omega) (by omega)
    repeat first|with_reducible refine aq ?_|simp only[g1,ge_iff_le,decide_true,decide_false,aC s32,aC s16,aC s8,Dq,Dr,e8,g2,g3,a3,q1,q2,q3,q4,hy,go_sem,simprocAttr]
    exact ab (by simp only[bE,eE,dL,g1,g2,g3,if_true,if_false,Int.reduceAdd]) rfl
  ·by_cases g3:256<=x
   ·have hy:(0:Int)<=x / 256:=by omega
    obtain⟨c,q1,q2,q3,q4⟩:=fin (x / 256) 8 hy (by omega) (by omega) (by omega)
    repeat first|with_reducible refine aq ?_|simp only[g1,ge_iff_le,decide_true,decide_false,aC s32,aC s16,aC s8,Dq,Dr,e8,g2,g3,a4,q1,q2,q3,q4,hy,go_sem,simprocAttr]
    exact ab (by simp only[bE,eE,dL,g1,g2,g3,if_true,if_false,Int.reduceAdd]) rfl
   ·obtain⟨c,q1,q2,q3,q4⟩:=fin x 0 h0 (by omega) (by omega) (by omega)
    repeat first|with_reducible refine aq ?_|simp only[g1,ge_iff_le,decide_true,decide_false,aC s32,aC s16,aC s8,Dq,Dr,e8,g2,g3,q1,q2,q3,q4,h0,go_sem,simprocAttr]
    exact ab (by simp only[bE,eE,dL,g1,g2,g3,if_true,if_false,Int.reduceAdd]) rfl
theorem qa(x:Int)(h0:0<=x)(h1:x<=9007199254740991):cF Tryz.prog 114 [.n .u64 x] [.v (.n .i64 (bE x))]:=by
 refine ar ba qO ⟨by simp,by decide⟩ ?_
 simp only[a8]
 repeat first|with_reducible refine aq ?_|simp only[go_sem,simprocAttr]
 refine ah [] (fargs:=[.n .u64 x]) (bP.same rfl) (jL x h0 h1) ?_ ?_
 ·simp only[go_sem,simprocAttr]
 repeat first|with_reducible refine aq ?_|simp only[go_sem,simprocAttr]
 exact ab rfl rfl
def dx(n:Int):Int:=if 1<=bE n then(bE n-1) / 7 else 0
theorem i6{n:Int}(h0:0<=n)(h1:n<=9007199254740991):0<=dx n/\dx n<=7:=by
 have:=iX h0 h1
 unfold dx;split<;>omega
theorem gq(n:Int)(h0:0<=n)(h1:n<=9007199254740991):cF Tryz.prog 94 [.n .i64 n] [.v (.n .i64 (dx n))]:=by
 have hl:=iX h0 h1
 have hw:IntKind.u64.wrap n=n:=by rw[IntKind.wrap_u64];omega
 have hq:(7:Int)≠0:=by decide
 have hw2:IntKind.i64.wrap (bE n-1)=bE n-1:=av (by omega)
 refine ar ba qP ⟨by simp,by decide⟩ ?_
 simp only[a8]
 repeat first|with_reducible refine aq ?_|simp only[hw,go_sem,simprocAttr]
 refine ah [] (fargs:=[.n .u64 n]) (bP.same rfl) (qa n h0 h1) ?_ ?_
 ·simp only[go_sem,simprocAttr]
 have key:IntKind.i64.wrap ((if 0<bE n-1 then bE n-1 else 0).tdiv 7)=dx n:=by
  unfold dx
  by_cases h:1<=bE n
  ·have e:(if 0<bE n-1 then bE n-1 else 0)=bE n-1:=by split<;>omega
   rw[e,if_pos h,Int.tdiv_eq_ediv_of_nonneg (by omega)]
   exact av (by omega)
  ·rw[if_neg (by omega),if_neg h];rfl
 repeat first|with_reducible refine aq ?_|simp only[hw2,sd,dp,jw,Cm hq,go_sem,simprocAttr]
 exact ab (by rw[key]) rfl
/-! ### bytes-/
def bC(l:List Int)(i _j:Nat):AV:= .n .u8 (l.getD i 0)
theorem lO{l l':List Int}{i:Nat}{d:Int}(h:i<l.length):(l++l').getD i d=l.getD i d:=by
 simp[List.getD_eq_getElem?_getD,List.getElem?_append_left h]
theorem lQ{l:List Int}{x d:Int}:(l++[x]).getD l.length d=x:=by
 simp[List.getD_eq_getElem?_getD]
def gi(N:Int):Nat->List Int
 |0=>[]
 |j+1=>IntKind.u8.wrap (N / 2^(8*j))::gi N j
theorem ef(N:Int):∀j,(gi N j).length=j
 |0=>rfl
 |j+1=>by simp only[gi,List.length_cons,ef N j]
def br(n:Int):List Int:=bits .or .u8 (IntKind.u8.wrap (255*2^(8-dx (ck n)).toNat)) (IntKind.u8.wrap (ck n / 2^(8*dx (ck n)).toNat))::gi (ck n) (dx (ck n)).toNat
theorem bW(n:Int):(br n).length<=8:=by
 have:=i6 (fm n).1 (fm n).2
 simp only[br,List.length_cons,ef];omega
theorem fG{l:List Int}{x:Int}(hl:l.length<1100000):∀i j,i<l.length+1->j<1->((aE 5 1 l.length 0 (bC l)).app (l.length*1) (.li [.n .u8 x])).get (i*1+j)=bC (l++[x]) i j:=
 fS rfl (by omega) (λi j hi _=>by unfold bC;rw[lO hi]) (λj hj=>by
  obtain rfl:j=0:=by omega
  unfold bC
  rw[lQ]
  rfl)
theorem CB(l:List Int)(hl:l.length<1000000)(n:Int){H:AH}{b:Nat}(hb:ey (λb2=>[b].reverse[b2]?) [] H b (aE 5 1 l.length 0 (bC l))):eY Tryz.prog 77 [.os b l.length,.n .i64 n] H λv H'=>v= .os 0 (l++br n).length/\H'=au [aE 5 1 (l++br n).length 0 (bC (l++br n))]:=by
 refine kJ ba rh (by simp) ?_
 refine GA.wk (Wk.arg _ _ _ (by simp)) ?_
 refine GA.wk (e2:=aG [(0,.os 0 l.length),(1,.n .i64 n)]) (H2:=au [aE 5 1 l.length 0 (bC l)]) (Wk.mk [b] [] ?_ ?_ ?_) ?_
 ·simp only[a8]
  simp only[co,bD,go_sem,simprocAttr]
  repeat' refine aw ?_ ?_
  all_goals first|exact cI|skip
 ·exact .cons rfl hb .nil
 ·simp
 have hn:=fm n
 have hf:=i6 hn.1 hn.2
 have hE:br n=bits .or .u8 (IntKind.u8.wrap (255*2^(8-dx (ck n)).toNat)) (IntKind.u8.wrap (ck n / 2^(8*dx (ck n)).toNat))::gi (ck n) (dx (ck n)).toNat:=rfl
 generalize hN:ck n=N at hn hf hE
 generalize hK:dx N=K at hf hE
 have v1:IntKind.i64.wrap (8-K)=8-K:=av (by omega)
 have v2:IntKind.i64.wrap (8*K)=8*K:=av (by omega)
 have s1:(0:Int)<=8-K:=by omega
 have s2:(0:Int)<=8*K:=by omega
 have h0:(0:Int)<=(l.length:Int):=by omega
 have hlim:(l.length+1)*1<1099511627776/\l.length+1<1099511627776/\(l.length+1)*1<=140737488355328/\l.length+1<=140737488355328/\l.length+1<=9223372036854775807:=by omega
 repeat first|with_reducible refine aq ?_|simp only[go_sem,simprocAttr]
 refine ah [] (fargs:=[.n .i64 n]) (bP.same rfl) (gY n) ?_ ?_
 ·simp only[go_sem,simprocAttr]
 repeat first|with_reducible refine aq ?_|simp only[hN,go_sem,simprocAttr]
 refine ah [] (fargs:=[.n .i64 N]) (bP.same rfl) (hK ▸ gq N hn.1 hn.2) ?_ ?_
 ·simp only[go_sem,simprocAttr]
 repeat first|with_reducible refine aq ?_|simp only[v1,v2,Cl s1,aC s2,P4,h0,hlim.1,hlim.2.1,hlim.2.2.1,hlim.2.2.2.1,hlim.2.2.2.2,decide_true,go_sem,simprocAttr]
 generalize hX:bits BinOp.or .u8 (IntKind.u8.wrap (255*2^(8-K).toNat)) (IntKind.u8.wrap (N / 2^(8*K).toNat))=X at hE
 have vK:IntKind.i64.wrap (K-1)=K-1:=av (by omega)
 simp only[vK]
 refine GA.loop (I:=λm e H=>∃(j:Nat) (xs:List Int),m=j/\j<=7/\xs++gi N j=l++br n/\xs.length<=l.length+8/\e=aG [(0,.os 0 xs.length),(1,.n .i64 N),(7,.n .i64 ((j:Int)-1))]/\H=au [aE 5 1 xs.length 0 (bC xs)]) (Wk.mk [2] [] ?_ ?_ ?_) ⟨K.toNat,l++[X],rfl,by omega,by rw[hE];simp,by simp,rfl,rfl⟩ ?_
 ·simp only[co,bD,List.length_append,List.length_cons,List.length_nil,go_sem,simprocAttr]
  repeat' refine aw ?_ ?_
  all_goals first|exact cI|skip
 ·refine .cons rfl (.rows (x:=_) (by simp only[go_sem,simprocAttr];rfl) (by rfl) (by rfl) (by rfl) ?_ (Nat.le_refl _) (by decide) ?_ (λi j _ _=>rfl)) .nil
  ·simp only[go_sem,simprocAttr,List.length_append,List.length_cons,List.length_nil]
  ·simp only[go_sem,simprocAttr,List.length_append,List.length_cons,List.length_nil]
   have:=fG (x:=X) (l:=l) (by omega)
   simpa only[Nat.mul_one] using this
 ·simp
 rintro m e H ⟨j,xs,rfl,hj,hs,hxl,rfl,rfl⟩
 cases m with
 |zero=>
  rw[gi,List.append_nil] at hs
  subst hs
  have e0:(((0:Nat):Int)-1)= -1:=rfl
  have e1:¬(0:Int)<= -1:=by decide
  simp only[e0]
  repeat first|with_reducible refine aq ?_|simp only[e1,ge_iff_le,decide_false,go_sem,simprocAttr]
 |succ i=>
  have e0:(((i+1:Nat):Int)-1)=i:=by omega
  have e1:(0:Int)<=i:=by omega
  have e2:(0:Int)<=8*(i:Int):=by omega
  have w1:IntKind.i64.wrap (8*(i:Int))=8*(i:Int):=av (by omega)
  have hT:(8*(i:Int)).toNat=8*i:=by omega
  have hm:min (8*i) 64=8*i:=by omega
  have g0:(0:Int)<=(xs.length:Int):=by omega
  have hlim:(xs.length+1)*1<1099511627776/\xs.length+1<1099511627776/\(xs.length+1)*1<=140737488355328/\xs.length+1<=140737488355328/\xs.length+1<=9223372036854775807:=by omega
  simp only[e0]
  repeat first|with_reducible refine aq ?_|simp only[e1,ge_iff_le,decide_true,w1,hT,hm,aC e2,g0,hlim.1,hlim.2.1,hlim.2.2.1,hlim.2.2.2.1,hlim.2.2.2.2,go_sem,simprocAttr]
  rw[gi] at hs
  have hlen:=congrArg List.length hs
  simp only[List.length_append,List.length_cons,ef] at hlen
  have h8:=bW n
  have hg:=fG (x:=IntKind.u8.wrap (N / 2^(8*i))) (l:=xs) (by omega)
  simp only[Nat.mul_one] at hg
  refine⟨_,_,_,?_,Wk.mk [2] [] ?_ ?_ ?_,i,xs++[IntKind.u8.wrap (N / 2^(8*i))],rfl,by omega,by rw[<-hs];simp,by simp only[List.length_append,List.length_cons,List.length_nil];omega,rfl,rfl⟩
  ·omega
  ·simp only[co,bD,List.length_append,List.length_cons,List.length_nil,go_sem,simprocAttr]
   repeat' refine aw ?_ ?_
   all_goals first|exact cI|skip
  ·refine .cons rfl (.rows (x:=_) (by simp only[go_sem,simprocAttr];rfl) (by rfl) (by rfl) (by rfl) ?_ (Nat.le_refl _) (by decide) ?_ (λi j _ _=>rfl)) .nil
   ·simp only[go_sem,simprocAttr,List.length_append,List.length_cons,List.length_nil]
   ·simp only[go_sem,simprocAttr,List.length_append,List.length_cons,List.length_nil,Nat.mul_one]
    exact hg
  ·simp
theorem bv(l:List Int)(hl:l.length<1000000)(n:Int):cF Tryz.prog 48 [.fs 1 l.length (bC l),.n .i64 n] [.o 5 1 (l++br n).length 0 (bC (l++br n))]:=by
 refine ar ba rG ⟨by simp,by decide⟩ ?_
 simp only[a8]
 refine GA.seq ?_
 refine GA.go ba rfl ?_
 simp only[go_sem,simprocAttr]
 refine GA.seq ?_
 refine GA.regx (l1:=[(o1 5 (.mv (.t 0))),⟨some 6,none,.cl (.c (.f 78 [] [])) [(.t 5)]⟩,(o1 7 (.mv (.t 1)))]) (l2:=[(o1 4 (.mv (.t 8)))]) rfl ?_
 simp only[go_sem,simprocAttr]
 refine ah [] (.cons (.rfl (by rfl)) .nil) (ep (n:=l.length) (row:=bC l) hl (λi j _ _=>rfl)) ?_ ?_
 ·simp only[go_sem,simprocAttr]
 simp only[go_sem,simprocAttr]
 refine⟨aG [(1,.n .i64 n)],QI.of (λp hp=>?_),77,[],[],[.os 0 l.length,.n .i64 n],?_,?_,(CB l hl n ?_).mono ?_⟩
 ·simp only[List.mem_cons,List.not_mem_nil,or_false] at hp
  subst hp
  exact⟨by simp,by simp only[go_sem,simprocAttr],rfl⟩
 ·simp only[go_sem,simprocAttr]
 ·simp only[go_sem,simprocAttr]
 ·exact .k1
 rintro v H' ⟨rfl,rfl⟩
 simp only[go_sem,simprocAttr]
 repeat first|with_reducible refine aq ?_|simp only[go_sem,simprocAttr]
 rw[<-List.length_append]
 exact⟨[_],rfl,.o (x:=_) (by simp only[go_sem,simprocAttr];rfl) (by rfl) (by rfl) (by rfl) (by decide) (Nat.le_refl _) (Nat.le_refl _) (λi j _ hj=>a9 i j hj) (λi j _ _=>rfl) rfl .nil⟩
theorem l4(b:Bool):cF Tryz.prog 49 [.b b] [.v (.n .u32 (if b=true then 1 else 0))]:=by
 refine ar ba qM ⟨by simp,by decide⟩ ?_
 simp only[a8]
 cases b
 ·repeat first|with_reducible refine aq ?_|simp only[go_sem,simprocAttr]
  exact ab rfl rfl
 ·repeat first|with_reducible refine aq ?_|simp only[go_sem,simprocAttr]
  exact ab rfl rfl
def qw(a:Bool×Int):List Int:=br (2*a.2+(if a.1=true then 1 else 0))
def Df(i:Int×Int):List Int:=IntKind.u8.wrap i.1::(if eV i.1=true then br i.2 else[])
def qo(la:List (Bool×Int))(loc:Int)(cs:List (Int×Int)):List Int:=br la.length++la.flatMap qw++br loc++br cs.length++cs.flatMap Df
theorem ig(la:List (Bool×Int))(loc:Int)(cs:List (Int×Int))(hl:la.length<=9223372036854775807)(hc:cs.length<=9223372036854775807)(ha:dH cs)(hf:¬ay la loc cs=0):cF Tryz.prog 24 [aI la loc cs] [.v .sl0,.v (.n .i64 (ay la loc cs))]:=by
 refine ar ba uM ⟨by simp,by decide⟩ ?_
 simp only[a8,aI]
 repeat first|with_reducible refine aq ?_|simp only[go_sem,simprocAttr]
 refine ah [] (fargs:=[aI la loc cs]) (bP.same rfl) (gr la loc cs hl hc ha) ?_ ?_
 ·simp only[go_sem,simprocAttr]
 repeat first|with_reducible refine aq ?_|simp only[hf,ne_eq,not_false_eq_true,decide_true,go_sem,simprocAttr]
 exact⟨[_,_],rfl,⟨rfl,rfl⟩,⟨rfl,rfl⟩,trivial⟩
theorem fZ:∀{la:List (Bool×Int)} (k:Nat),dn la=true->dn (la.drop k)=true
 |la,0,h=>h
 |[],k+1,h=>h
 |a::l,k+1,h=>by
  simp only[dn,Bool.and_eq_true] at h
  exact fZ k h.2
theorem dh:∀{cs:List (Int×Int)} (k:Nat),aD cs=0->aD (cs.drop k)=0
 |cs,0,h=>h
 |[],k+1,h=>h
 |i::l,k+1,h=>by
  simp only[aD] at h
  split at h
  ·exact dh k h
  ·rename_i g;exact absurd h g
theorem jO{i:Int×Int}(h:aK i=0):0<=i.1/\i.1<36:=by
 unfold aK at h
 split at h
 ·cases h
 ·omega
theorem gx(la:List (Bool×Int))(loc:Int)(cs:List (Int×Int))(ha:dH cs)(hf:ay la loc cs=0):cF Tryz.prog 24 [aI la loc cs] [.o 5 1 (qo la loc cs).length 0 (bC (qo la loc cs)),.v (.n .i64 0)]:=by
 obtain⟨f1,f2,f3,f4,f5,f6,f7⟩:=dy hf
 refine ar ba uM ⟨by simp,by decide⟩ ?_
 simp only[a8,aI]
 repeat first|with_reducible refine aq ?_|simp only[go_sem,simprocAttr]
 refine ah [] (fargs:=[aI la loc cs]) (bP.same rfl) (gr la loc cs (by omega) (by omega) ha) ?_ ?_
 ·simp only[go_sem,simprocAttr]
 repeat first|with_reducible refine aq ?_|simp only[hf,ne_eq,not_true_eq_false,decide_false,go_sem,simprocAttr]
 refine ah [] (fargs:=[.fs 1 ([]:List Int).length (bC []),.n .i64 la.length]) (.cons (.sl0 _ _) (.cons (.rfl rfl) .nil)) (bv [] (by decide) la.length) ?_ ?_
 ·simp only[go_sem,simprocAttr]
 repeat first|with_reducible refine aq ?_|simp only[go_sem,simprocAttr]
 have b0:=bW (la.length:Int)
 have b1:=bW loc
 have b2:=bW (cs.length:Int)
 refine GA.loop (I:=λm e H=>∃(k:Nat) (xs:List Int),m=la.length-k/\k<=la.length/\xs++(la.drop k).flatMap qw=br la.length++la.flatMap qw/\xs.length<=8+8*k/\bn (la.drop k)<=65536/\e=aG [(1,.p 0 0),(5,.os 1 xs.length),(22,.fs 2 la.length (pA la)),(23,.n .i64 la.length),(24,.n .i64 k)]/\H=au [aE 5 1 xs.length 0 (bC xs),cm 0 25 [.fs 2 la.length (pA la),.n .i64 loc,.fs 2 cs.length (pI cs)]]) (Wk.mk [1,0] [] ?_ ?_ ?_) ⟨0,br la.length,rfl,by omega,rfl,by omega,f2,rfl,rfl⟩ ?_
 ·simp only[co,bD,go_sem,simprocAttr]
  repeat' refine aw ?_ ?_
  all_goals first|exact cI|skip
 ·exact .cons rfl .k1 (.cons rfl .ls .nil)
 ·simp
 rintro m e H ⟨k,xs,rfl,hk,hs,hxl,hsum,rfl,rfl⟩
 repeat first|with_reducible refine aq ?_|simp only[go_sem,simprocAttr]
 refine⟨λh=>?_,λh=>?_⟩
 ·have hk':k<la.length:=by omega
  have h0:(0:Int)<=(k:Int):=by omega
  have hok:=fZ k f1
  rw[bb (d:=(false,0)) hk'] at hs hsum hok
  simp only[dn,bn,List.flatMap_cons,Bool.and_eq_true,decide_eq_true_eq] at hs hsum hok
  have hp:=cy hok.2
  have bx:=bW (2*(la.getD k (false,0)).2+(if(la.getD k (false,0)).1=true then 1 else 0))
  have v1:IntKind.i64.wrap (2*(la.getD k (false,0)).2)=2*(la.getD k (false,0)).2:=av (by omega)
  have v2:IntKind.i64.wrap (if(la.getD k (false,0)).1=true then 1 else 0)=(if(la.getD k (false,0)).1=true then 1 else 0):=av (by split<;>omega)
  have v3:IntKind.i64.wrap (2*(la.getD k (false,0)).2+(if(la.getD k (false,0)).1=true then 1 else 0))=2*(la.getD k (false,0)).2+(if(la.getD k (false,0)).1=true then 1 else 0):=av (by split<;>omega)
  repeat first|with_reducible refine aq ?_|simp only[h0,h,iR,iQ,v1,go_sem,simprocAttr]
  refine ah [] (fargs:=[.b (la.getD k (false,0)).1]) (bP.same rfl) (l4 _) ?_ ?_
  ·simp only[go_sem,simprocAttr]
  repeat first|with_reducible refine aq ?_|simp only[v1,v2,v3,go_sem,simprocAttr]
  refine ah [1] (.cons (.ownb (ty:=5) (z:=0) (by simp only[go_sem,simprocAttr]) (λi j _ _=>rfl) (by simp)) (.cons (.rfl rfl) .nil)) (bv xs (by omega) (2*(la.getD k (false,0)).2+(if(la.getD k (false,0)).1=true then 1 else 0))) ?_ ?_
  ·simp only[go_sem,simprocAttr]
  repeat first|with_reducible refine aq ?_|simp only[go_sem,simprocAttr]
  refine⟨_,_,_,?_,Wk.mk [3,0] [] ?_ ?_ ?_,k+1,xs++br (2*(la.getD k (false,0)).2+(if(la.getD k (false,0)).1=true then 1 else 0)),rfl,by omega,by rw[<-hs];simp only[qw,List.append_assoc],by simp only[List.length_append];omega,by omega,rfl,rfl⟩
  ·omega
  ·simp only[co,bD,List.length_append,go_sem,simprocAttr]
   repeat' refine aw ?_ ?_
   all_goals first|exact cI|skip
  ·refine .cons rfl (.rows (x:=_) (by simp only[go_sem,simprocAttr];rfl) (by rfl) (by rfl) (by rfl) ?_ (Nat.le_refl _) (by decide) (λi j _ hj=>a9 i j hj) (λi j _ _=>rfl)) (.cons rfl .ls .nil)
   simp only[go_sem,simprocAttr,List.length_append,Nat.le_refl]
  ·simp
 have:k=la.length:=by omega
 subst this
 rw[List.drop_length,List.flatMap_nil,List.append_nil] at hs
 have hxs:xs.length<=72:=by omega
 have ln:(xs++br loc).length<=80:=by simp only[List.length_append];omega
 repeat first|with_reducible refine aq ?_|simp only[go_sem,simprocAttr]
 refine ah [1] (.cons (.ownb (ty:=5) (z:=0) (by simp only[go_sem,simprocAttr]) (λi j _ _=>rfl) (by simp)) (.cons (.rfl rfl) .nil)) (bv xs (by omega) loc) ?_ ?_
 ·simp only[go_sem,simprocAttr]
 repeat first|with_reducible refine aq ?_|simp only[go_sem,simprocAttr]
 rw[<-List.length_append]
 refine ah [2] (.cons (.ownb (ty:=5) (z:=0) (by simp only[go_sem,simprocAttr]) (λi j _ _=>rfl) (by simp)) (.cons (.rfl rfl) .nil)) (bv (xs++br loc) (by omega) cs.length) ?_ ?_
 ·simp only[go_sem,simprocAttr]
 repeat first|with_reducible refine aq ?_|simp only[go_sem,simprocAttr]
 have hX:(xs++br loc++br cs.length).length<=88:=by simp only[List.length_append] at ln ⊢;omega
 refine GA.loop (I:=λm e H=>∃(k:Nat) (xs:List Int),m=cs.length-k/\k<=cs.length/\xs++(cs.drop k).flatMap Df=qo la loc cs/\xs.length<=88+9*k/\e=aG [(5,.os 0 xs.length),(48,.fs 2 cs.length (pI cs)),(49,.n .i64 cs.length),(50,.n .i64 k)]/\H=au [aE 5 1 xs.length 0 (bC xs)]) (Wk.mk [3] [] ?_ ?_ ?_) ⟨0,xs++br loc++br cs.length,rfl,by omega,by rw[hs];simp only[qo,List.drop_zero],by omega,rfl,rfl⟩ ?_
 ·simp only[co,bD,List.length_append,go_sem,simprocAttr]
  repeat' refine aw ?_ ?_
  all_goals first|exact cI|skip
 ·refine .cons rfl (.rows (x:=_) (by simp only[go_sem,simprocAttr];rfl) (by rfl) (by rfl) (by rfl) ?_ (Nat.le_refl _) (by decide) (λi j _ hj=>a9 i j hj) (λi j _ _=>rfl)) .nil
  simp only[go_sem,simprocAttr,List.length_append,Nat.le_refl]
 ·simp
 clear hs hxs ln hX hxl xs
 rintro m e H ⟨k,xs,rfl,hk,hs,hxl,rfl,rfl⟩
 repeat first|with_reducible refine aq ?_|simp only[go_sem,simprocAttr]
 refine⟨λh=>?_,λh=>?_⟩
 ·have hk':k<cs.length:=by omega
  have h0:(0:Int)<=(k:Int):=by omega
  have hok:=dh k f7
  have hm:=ha _ (dw (d:=(0,0)) hk')
  rw[bb (d:=(0,0)) hk'] at hs hok
  simp only[aD,List.flatMap_cons] at hs hok
  have hi:aK (cs.getD k (0,0))=0:=by
   by_cases g:aK (cs.getD k (0,0))=0
   ·exact g
   ·rw[if_neg g] at hok;exact hok
  obtain⟨g1,g2⟩:=jO hi
  obtain⟨op,hop⟩:∃op:Nat,(cs.getD k (0,0)).1=op:=⟨(cs.getD k (0,0)).1.toNat,by omega⟩
  obtain⟨na,nb,nc,hkn⟩:=eg op (by omega)
  have bx:=bW (cs.getD k (0,0)).2
  have v1:IntKind.i64.wrap (cs.getD k (0,0)).2=(cs.getD k (0,0)).2:=av (by omega)
  have hlim:(xs.length+1)*1<1099511627776/\xs.length+1<1099511627776/\(xs.length+1)*1<=140737488355328/\xs.length+1<=140737488355328/\xs.length+1<=9223372036854775807:=by omega
  have hg:=fG (x:=IntKind.u8.wrap op) (l:=xs) (by omega)
  simp only[Nat.mul_one] at hg
  have hl1:(xs++[IntKind.u8.wrap op]).length=xs.length+1:=by simp
  simp only[Df,hop] at hs
  repeat first|with_reducible refine aq ?_|simp only[h0,h,pH,pG,hop,hlim.1,hlim.2.1,hlim.2.2.1,hlim.2.2.2.1,hlim.2.2.2.2,decide_true,go_sem,simprocAttr]
  refine ah [] (fargs:=[.n .i64 op]) (bP.same rfl) hkn ?_ ?_
  ·simp only[go_sem,simprocAttr]
  simp only[QN]
  cases hA:eV op
  ·simp only[hA,Bool.false_eq_true,if_false] at hs
   repeat first|with_reducible refine aq ?_|simp only[hA,go_sem,simprocAttr]
   refine⟨_,_,_,?_,Wk.mk [3] [] ?_ ?_ ?_,k+1,xs++[IntKind.u8.wrap op],rfl,by omega,by rw[<-hs];simp,by rw[hl1];omega,rfl,rfl⟩
   ·omega
   ·simp only[co,bD,hl1,go_sem,simprocAttr]
    repeat' refine aw ?_ ?_
    all_goals first|exact cI|skip
   ·refine .cons rfl (.rows (x:=_) (by simp only[go_sem,simprocAttr];rfl) (by rfl) (by rfl) (by rfl) ?_ (Nat.le_refl _) (by decide) ?_ (λi j _ _=>rfl)) .nil
    ·simp only[go_sem,simprocAttr,hl1]
    ·simp only[go_sem,simprocAttr,hl1,Nat.mul_one]
     exact hg
   ·simp
  ·simp only[hA,if_true] at hs
   repeat first|with_reducible refine aq ?_|simp only[hA,go_sem,simprocAttr]
   rw[<-hl1]
   refine ah [3] (.cons (.os (x:=_) (by simp) (by simp only[go_sem,simprocAttr];rfl) ?_ ?_ (λi j _ _=>rfl)) (.cons (.rfl rfl) .nil)) (bv (xs++[IntKind.u8.wrap op]) (by omega) (IntKind.i64.wrap (cs.getD k (0,0)).2)) ?_ ?_
   ·simp only[go_sem,simprocAttr,hl1,Nat.le_refl]
   ·simp only[go_sem,simprocAttr,hl1,Nat.mul_one]
    exact hg
   ·simp only[go_sem,simprocAttr]
   rw[v1]
   repeat first|with_reducible refine aq ?_|simp only[go_sem,simprocAttr]
   refine⟨_,_,_,?_,Wk.mk [5] [] ?_ ?_ ?_,k+1,xs++[IntKind.u8.wrap op]++br (cs.getD k (0,0)).2,rfl,by omega,by rw[<-hs];simp,by rw[List.length_append,hl1];omega,rfl,rfl⟩
   ·omega
   ·simp only[co,bD,List.length_append,go_sem,simprocAttr]
    repeat' refine aw ?_ ?_
    all_goals first|exact cI|skip
   ·refine .cons rfl (.rows (x:=_) (by simp only[go_sem,simprocAttr];rfl) (by rfl) (by rfl) (by rfl) ?_ (Nat.le_refl _) (by decide) (λi j _ hj=>a9 i j hj) (λi j _ _=>rfl)) .nil
    simp only[go_sem,simprocAttr,List.length_append,Nat.le_refl]
   ·simp
 ·repeat first|with_reducible refine aq ?_|simp only[go_sem,simprocAttr]
  have:k=cs.length:=by omega
  subst this
  rw[List.drop_length,List.flatMap_nil,List.append_nil] at hs
  subst hs
  exact⟨[_,_],rfl,.o (x:=_) (by simp only[go_sem,simprocAttr];rfl) (by rfl) (by rfl) (by rfl) (by decide) (Nat.le_refl _) (Nat.le_refl _) (λi j _ hj=>a9 i j hj) (λi j _ _=>rfl) rfl (.v rfl rfl .nil)⟩
theorem hJ(la:List (Bool×Int))(loc:Int)(cs:List (Int×Int))(hl:la.length<=9223372036854775807)(hc:cs.length<=9223372036854775807)(ha:dH cs):cF Tryz.prog 9 [aI la loc cs] [.v (.n .i64 (if ay la loc cs=0 then cK la loc else 0)),.v (.n .i64 (ay la loc cs))]:=by
 refine ar ba qJ ⟨by simp,by decide⟩ ?_
 simp only[a8,aI]
 repeat first|with_reducible refine aq ?_|simp only[go_sem,simprocAttr]
 by_cases hf:ay la loc cs=0
 rotate_left
 ·refine ah [] (fargs:=[aI la loc cs]) (bP.same rfl) (ig la loc cs hl hc ha hf) ?_ ?_
  ·simp only[go_sem,simprocAttr]
  repeat first|with_reducible refine aq ?_|simp only[hf,ne_eq,not_false_eq_true,decide_true,go_sem,simprocAttr]
  exact⟨[_,_],rfl,⟨rfl,rfl⟩,⟨rfl,rfl⟩,trivial⟩
 refine ah [] (fargs:=[aI la loc cs]) (bP.same rfl) (gx la loc cs ha hf) ?_ ?_
 ·simp only[go_sem,simprocAttr]
 obtain⟨f1,f2,f3,f4,f5,f6,f7⟩:=dy hf
 have f0:=da f1
 have w1:IntKind.i64.wrap (loc+32)=loc+32:=av (by omega)
 have w2:IntKind.i64.wrap (loc+32+16)=loc+32+16:=av (by omega)
 have w3:IntKind.i64.wrap (4*(loc+32+16))=4*(loc+32+16):=av (by omega)
 repeat first|with_reducible refine aq ?_|simp only[hf,w1,w2,w3,ne_eq,not_true_eq_false,decide_false,go_sem,simprocAttr]
 refine GA.loop (I:=λm e H=>∃(k:Nat) (s:Int),m=la.length-k/\k<=la.length/\dn (la.drop k)=true/\cK la loc=s+ed (la.drop k)/\bn (la.drop k)<=65536/\0<=s/\s<=1000000/\e=aG [(6,.n .i64 s),(24,.fs 2 la.length (pA la)),(25,.n .i64 la.length),(26,.n .i64 k)]/\H=au []) (Wk.mk [] [] ?_ ?_ ?_) ⟨0,4*(loc+32+16),rfl,by omega,f1,by simp only[cK,List.drop_zero];omega,f2,by omega,by omega,rfl,rfl⟩ ?_
 ·simp only[co,bD,go_sem,simprocAttr]
  repeat' refine aw ?_ ?_
  all_goals first|exact cI|skip
 ·exact .nil
 ·simp
 rintro m e H ⟨k,s,rfl,hk,hs,hs2,hs5,hs0,hs1,rfl,rfl⟩
 repeat first|with_reducible refine aq ?_|simp only[go_sem,simprocAttr]
 refine⟨λh=>?_,λh=>?_⟩
 ·have hk':k<la.length:=by omega
  have h0:(0:Int)<=(k:Int):=by omega
  rw[bb (d:=(false,0)) hk'] at hs hs2 hs5
  simp only[dn,ed,bn,Bool.and_eq_true,decide_eq_true_eq] at hs hs2 hs5
  have hm:=da hs.2
  have hp:=cy hs.2
  have hM:cK la loc<=1000000:=by simp only[cK];omega
  cases hw:(la.getD k (false,0)).1
  ·have v2:IntKind.i64.wrap (s+(la.getD k (false,0)).2)=s+(la.getD k (false,0)).2:=av (by omega)
   rw[hw] at hs2
   simp only[Bool.false_eq_true,if_false] at hs2
   repeat first|with_reducible refine aq ?_|simp only[h0,h,iR,iQ,hw,v2,go_sem,simprocAttr]
   refine⟨_,_,_,?_,Wk.mk [] [] ?_ ?_ ?_,k+1,s+(la.getD k (false,0)).2,rfl,by omega,hs.2,by omega,by omega,by omega,by omega,rfl,rfl⟩
   ·omega
   ·simp only[co,bD,go_sem,simprocAttr]
    repeat' refine aw ?_ ?_
    all_goals first|exact cI|skip
   ·exact .nil
   ·simp
  ·have v1:IntKind.i64.wrap ((la.getD k (false,0)).2*4)=(la.getD k (false,0)).2*4:=av (by omega)
   have v2:IntKind.i64.wrap (s+(la.getD k (false,0)).2*4)=s+(la.getD k (false,0)).2*4:=av (by omega)
   rw[hw] at hs2
   simp only[if_true] at hs2
   repeat first|with_reducible refine aq ?_|simp only[h0,h,iR,iQ,hw,v1,v2,go_sem,simprocAttr]
   refine⟨_,_,_,?_,Wk.mk [] [] ?_ ?_ ?_,k+1,s+(la.getD k (false,0)).2*4,rfl,by omega,hs.2,by omega,by omega,by omega,by omega,rfl,rfl⟩
   ·omega
   ·simp only[co,bD,go_sem,simprocAttr]
    repeat' refine aw ?_ ?_
    all_goals first|exact cI|skip
   ·exact .nil
   ·simp
 ·repeat first|with_reducible refine aq ?_|simp only[go_sem,simprocAttr]
  have:k=la.length:=by omega
  subst this
  rw[List.drop_length] at hs2
  simp only[ed,Int.add_zero] at hs2
  exact⟨[_,_],rfl,⟨by rw[hs2],rfl⟩,⟨rfl,rfl⟩,trivial⟩
def tC(l:List Bool)(i _j:Nat):AV:= .b (l.getD i false)
theorem tC0(l:List Bool)(i j:Nat):tC l i j= .b (l.getD i false):=rfl
def kb:List (Int×Int)->List Bool->Int->Int
 |[],_,lo=>lo
 |i::l,st,lo=>if 3<lo then lo else if i.1=29 then kb l (st++[true]) (lo+1) else if i.1=27 then kb l (st++[false]) lo else if i.1=31 then(if st.length=0 then kb l st lo else kb l (st.take (st.length-1)) (if st.getD (st.length-1) false=true then lo-1 else lo)) else kb l st lo
theorem lP{l l':List Bool}{i:Nat}(h:i<l.length):(l++l').getD i false=l.getD i false:=by
 simp[List.getD_eq_getElem?_getD,List.getElem?_append_left h]
theorem lR{l:List Bool}{x:Bool}:(l++[x]).getD l.length false=x:=by
 simp[List.getD_eq_getElem?_getD]
theorem iJ{l:List Bool}{x:Bool}(hl:l.length<1100000):∀i j,i<l.length+1->j<1->((aE 4 1 l.length 0 (tC l)).app (l.length*1) (.li [.b x])).get (i*1+j)=tC (l++[x]) i j:=
 fS rfl (by omega) (λi j hi _=>by unfold tC;rw[lP hi]) (λj hj=>by
  obtain rfl:j=0:=by omega
  unfold tC
  rw[lR]
  rfl)
theorem fT(cs:List (Int×Int))(hc:cs.length<=200):cF Tryz.prog 20 [.fs 2 cs.length (pI cs)] [.v (.b (decide (kb cs [] 0<=3)))]:=by
 refine ar ba qF ⟨by simp,by decide⟩ ?_
 simp only[a8]
 repeat first|with_reducible refine aq ?_|simp only[go_sem,simprocAttr]
 refine GA.wk (Wk.nil 3 1 4 (by simp only[go_sem,simprocAttr]) (by decide) (by simp only[go_sem,simprocAttr])) ?_
 simp only[ja]
 refine GA.loop (I:=λm e H=>∃(k:Nat) (st:List Bool) (lo:Int),m=cs.length-k/\k<=cs.length/\kb cs [] 0=kb (cs.drop k) st lo/\st.length<=k/\ -200<=lo+k/\lo<=k/\e=aG [(0,.fs 2 cs.length (pI cs)),(3,.os 0 st.length),(4,.n .i64 lo),(5,.n .i64 k)]/\H=au [aE 4 1 st.length 0 (tC st)]) (Wk.mk [0] [] ?_ ?_ ?_) ⟨0,[],0,rfl,by omega,rfl,by simp,by omega,by omega,rfl,rfl⟩ ?_
 ·simp only[co,bD,go_sem,simprocAttr]
  repeat' refine aw ?_ ?_
  all_goals first|exact cI|skip
 ·exact .cons rfl (.r1) .nil
 ·simp
 rintro m e H ⟨k,st,lo,rfl,hk,hs,hsl,hlo,hlo2,rfl,rfl⟩
 have h0:(0:Int)<=(k:Int):=by omega
 by_cases h:(k:Int)<cs.length
 rotate_left
 ·repeat first|with_reducible refine aq ?_|simp only[h,decide_false,go_sem,simprocAttr]
  have:k=cs.length:=by omega
  subst this
  rw[List.drop_length,kb] at hs
  exact ab (by rw[hs]) rfl
 have hk':k<cs.length:=by omega
 rw[bb (d:=(0,0)) hk',kb] at hs
 by_cases h3:3<lo
 ·rw[if_pos h3] at hs
  have h3':¬lo<=3:=by omega
  repeat first|with_reducible refine aq ?_|simp only[h,h3',decide_true,decide_false,go_sem,simprocAttr]
  exact ab (by rw[hs,decide_eq_false h3']) rfl
 rw[if_neg h3] at hs
 have h3':lo<=3:=by omega
 have hlim:(st.length+1)*1<1099511627776/\st.length+1<1099511627776/\(st.length+1)*1<=140737488355328/\st.length+1<=140737488355328/\st.length+1<=9223372036854775807:=by omega
 by_cases e1:(cs.getD k (0,0)).1=29
 ·rw[if_pos e1] at hs
  have hg:=iJ (x:=true) (l:=st) (by omega)
  simp only[Nat.mul_one] at hg
  have hl1:(st++[true]).length=st.length+1:=by simp
  repeat first|with_reducible refine aq ?_|simp only[h,h0,h3',pH,pG,e1,decide_true,hlim.1,hlim.2.1,hlim.2.2.1,hlim.2.2.2.1,hlim.2.2.2.2,go_sem,simprocAttr]
  refine⟨_,_,_,?_,Wk.mk [2] [] ?_ ?_ ?_,k+1,st++[true],lo+1,rfl,by omega,hs,by rw[hl1];omega,by omega,by omega,rfl,rfl⟩
  ·omega
  ·simp only[co,bD,hl1,go_sem,simprocAttr]
   repeat' refine aw ?_ ?_
   all_goals first|exact cI|skip
  ·refine .cons rfl (.rows (x:=_) (by simp only[go_sem,simprocAttr];rfl) (by rfl) (by rfl) (by rfl) ?_ (Nat.le_refl _) (by decide) ?_ (λi j _ _=>rfl)) .nil
   ·simp only[go_sem,simprocAttr,hl1]
   ·simp only[go_sem,simprocAttr,hl1,Nat.mul_one]
    exact hg
  ·simp
 rw[if_neg e1] at hs
 by_cases e2:(cs.getD k (0,0)).1=27
 ·rw[if_pos e2] at hs
  have hg:=iJ (x:=false) (l:=st) (by omega)
  simp only[Nat.mul_one] at hg
  have hl1:(st++[false]).length=st.length+1:=by simp
  repeat first|with_reducible refine aq ?_|simp only[h,h0,h3',pH,pG,e1,e2,decide_true,decide_false,hlim.1,hlim.2.1,hlim.2.2.1,hlim.2.2.2.1,hlim.2.2.2.2,go_sem,simprocAttr]
  refine⟨_,_,_,?_,Wk.mk [2] [] ?_ ?_ ?_,k+1,st++[false],lo,rfl,by omega,hs,by rw[hl1];omega,by omega,by omega,rfl,rfl⟩
  ·omega
  ·simp only[co,bD,hl1,go_sem,simprocAttr]
   repeat' refine aw ?_ ?_
   all_goals first|exact cI|skip
  ·refine .cons rfl (.rows (x:=_) (by simp only[go_sem,simprocAttr];rfl) (by rfl) (by rfl) (by rfl) ?_ (Nat.le_refl _) (by decide) ?_ (λi j _ _=>rfl)) .nil
   ·simp only[go_sem,simprocAttr,hl1]
   ·simp only[go_sem,simprocAttr,hl1,Nat.mul_one]
    exact hg
  ·simp
 rw[if_neg e2] at hs
 by_cases e3:(cs.getD k (0,0)).1=31
 rotate_left
 ·rw[if_neg e3] at hs
  repeat first|with_reducible refine aq ?_|simp only[h,h0,h3',pH,pG,e1,e2,e3,decide_true,decide_false,go_sem,simprocAttr]
  refine⟨_,_,_,?_,Wk.mk [0] [] ?_ ?_ ?_,k+1,st,lo,rfl,by omega,hs,by omega,by omega,by omega,rfl,rfl⟩
  ·omega
  ·simp only[co,bD,go_sem,simprocAttr]
   repeat' refine aw ?_ ?_
   all_goals first|exact cI|skip
  ·exact .cons rfl .k1 .nil
  ·simp
 rw[if_pos e3] at hs
 by_cases e4:st.length=0
 ·rw[if_pos e4] at hs
  have w1:IntKind.i64.wrap ((st.length:Int)-1)=(st.length:Int)-1:=av (by omega)
  have g1:¬(0:Int)<=(st.length:Int)-1:=by omega
  repeat first|with_reducible refine aq ?_|simp only[h,h0,h3',pH,pG,e1,e2,e3,w1,g1,ge_iff_le,decide_true,decide_false,go_sem,simprocAttr]
  refine⟨_,_,_,?_,Wk.mk [0] [] ?_ ?_ ?_,k+1,st,lo,rfl,by omega,hs,by omega,by omega,by omega,rfl,rfl⟩
  ·omega
  ·simp only[co,bD,go_sem,simprocAttr]
   repeat' refine aw ?_ ?_
   all_goals first|exact cI|skip
  ·exact .cons rfl .k1 .nil
  ·simp
 rw[if_neg e4] at hs
 obtain⟨n,hn⟩:∃n,st.length=n+1:=⟨st.length-1,by omega⟩
 have w1:IntKind.i64.wrap (((n+1:Nat):Int)-1)=(n:Int):=(av (by omega)).trans (by omega)
 have g1:(0:Int)<=(n:Int):=by omega
 have g2:(n:Int)<(n+1:Nat):=by omega
 rw[hn,Nat.add_sub_cancel] at hs
 have hl1:(st.take n).length=n:=by rw[List.length_take];omega
 have g3:n<n+1:=Nat.lt_succ_self n
 have g4:(aE 4 1 (n+1) 0 (tC st)).get n= .b (st.getD n false):=by
  have:=a9 (ty:=4) (esz:=1) (n:=n+1) (z:=0) (row:=tC st) n 0 (by decide)
  rw[Nat.mul_one,Nat.add_zero] at this
  exact this
 have g5:(n:Int)<=(n+1:Nat):=by omega
 cases hb:st.getD n false
 ·rw[hb] at hs
  simp only[Bool.false_eq_true,if_false] at hs
  repeat first|with_reducible refine aq ?_|simp only[h,h0,h3',pH,pG,e1,e2,e3,w1,g1,g2,g3,g4,g5,hn,tC0,hb,ge_iff_le,decide_true,decide_false,go_sem,simprocAttr]
  refine⟨_,_,_,?_,Wk.mk [0] [] ?_ ?_ ?_,k+1,st.take n,lo,rfl,by omega,hs,by rw[hl1];omega,by omega,by omega,rfl,rfl⟩
  ·omega
  ·simp only[co,bD,hl1,go_sem,simprocAttr]
   repeat' refine aw ?_ ?_
   all_goals first|exact cI|skip
  ·refine .cons rfl (.rows (x:=_) (by simp only[go_sem,simprocAttr];rfl) (by rfl) (by rfl) (by rfl) ?_ (Nat.le_refl _) (by decide) ?_ (λi j _ _=>rfl)) .nil
   ·simp only[go_sem,simprocAttr,hl1];omega
   ·intro i j hi hj
    rw[hl1] at hi
    simp only[go_sem,simprocAttr]
    have hq:=a9 (ty:=4) (esz:=1) (n:=n+1) (z:=0) (row:=tC st) i j hj
    rw[Nat.mul_one] at hq
    rw[hq]
    unfold tC
    simp[List.getD_eq_getElem?_getD,List.getElem?_take,hi]
  ·simp
 ·rw[hb] at hs
  simp only[if_true] at hs
  have w2:IntKind.i64.wrap (lo-1)=lo-1:=av (by omega)
  repeat first|with_reducible refine aq ?_|simp only[h,h0,h3',pH,pG,e1,e2,e3,w1,w2,g1,g2,g3,g4,g5,hn,tC0,hb,ge_iff_le,decide_true,decide_false,go_sem,simprocAttr]
  refine⟨_,_,_,?_,Wk.mk [0] [] ?_ ?_ ?_,k+1,st.take n,lo-1,rfl,by omega,hs,by rw[hl1];omega,by omega,by omega,rfl,rfl⟩
  ·omega
  ·simp only[co,bD,hl1,go_sem,simprocAttr]
   repeat' refine aw ?_ ?_
   all_goals first|exact cI|skip
  ·refine .cons rfl (.rows (x:=_) (by simp only[go_sem,simprocAttr];rfl) (by rfl) (by rfl) (by rfl) ?_ (Nat.le_refl _) (by decide) ?_ (λi j _ _=>rfl)) .nil
   ·simp only[go_sem,simprocAttr,hl1];omega
   ·intro i j hi hj
    rw[hl1] at hi
    simp only[go_sem,simprocAttr]
    have hq:=a9 (ty:=4) (esz:=1) (n:=n+1) (z:=0) (row:=tC st) i j hj
    rw[Nat.mul_one] at hq
    rw[hq]
    unfold tC
    simp[List.getD_eq_getElem?_getD,List.getElem?_take,hi]
  ·simp
/-! ### Few-/
def CW:List (Bool×Int)->Bool
 |[]=>true
 |a::l=>if 300<a.2/\a.2<=65536 then false else CW l
def eF(la:List (Bool×Int))(cs:List (Int×Int)):Bool:=decide (la.length<=20)&&decide (cs.length<=200)&&decide (kb cs [] 0<=3)&&CW la
theorem ql(la:List (Bool×Int))(loc:Int)(cs:List (Int×Int)):cF Tryz.prog 7 [aI la loc cs] [.v (.b (eF la cs))]:=by
 refine ar ba qH ⟨by simp,by decide⟩ ?_
 simp only[a8,aI]
 by_cases h1:20<la.length
 ·have h1':(20:Int)<(la.length:Int):=by omega
  have e:eF la cs=false:=by simp only[eF,decide_eq_false (show ¬la.length<=20 by omega),Bool.false_and]
  repeat first|with_reducible refine aq ?_|simp only[h1',gt_iff_lt,decide_true,go_sem,simprocAttr]
  exact ab (by rw[e]) rfl
 have h1':¬(20:Int)<(la.length:Int):=by omega
 by_cases h2:200<cs.length
 ·have h2':(200:Int)<(cs.length:Int):=by omega
  have e:eF la cs=false:=by simp only[eF,decide_eq_false (show ¬cs.length<=200 by omega),Bool.false_and,Bool.and_false]
  repeat first|with_reducible refine aq ?_|simp only[h1',h2',gt_iff_lt,decide_true,decide_false,go_sem,simprocAttr]
  exact ab (by rw[e]) rfl
 have h2':¬(200:Int)<(cs.length:Int):=by omega
 repeat first|with_reducible refine aq ?_|simp only[h1',h2',gt_iff_lt,decide_false,go_sem,simprocAttr]
 refine ah [] (fargs:=[.fs 2 cs.length (pI cs)]) (bP.same rfl) (fT cs (by omega)) ?_ ?_
 ·simp only[go_sem,simprocAttr]
 by_cases h3:kb cs [] 0<=3
 rotate_left
 ·have e:eF la cs=false:=by simp only[eF,decide_eq_false h3,Bool.false_and,Bool.and_false]
  repeat first|with_reducible refine aq ?_|simp only[h3,decide_false,go_sem,simprocAttr]
  exact ab (by rw[e]) rfl
 have e:eF la cs=CW la:=by simp only[eF,decide_eq_true h3,decide_eq_true (show la.length<=20 by omega),decide_eq_true (show cs.length<=200 by omega),Bool.true_and]
 repeat first|with_reducible refine aq ?_|simp only[h3,decide_true,go_sem,simprocAttr]
 refine GA.loop (I:=λm e H=>∃(k:Nat),m=la.length-k/\k<=la.length/\CW la=CW (la.drop k)/\e=aG [(1,.p 0 0),(3,.n .i64 k)]/\H=au [cm 0 25 [.fs 2 la.length (pA la),.n .i64 loc,.fs 2 cs.length (pI cs)]]) (Wk.mk [0] [] ?_ ?_ ?_) ⟨0,rfl,by omega,rfl,rfl,rfl⟩ ?_
 ·simp only[co,bD,go_sem,simprocAttr]
  repeat' refine aw ?_ ?_
  all_goals first|exact cI|skip
 ·exact .cons rfl .ls .nil
 ·simp
 rintro m e H ⟨k,rfl,hk,hs,rfl,rfl⟩
 have h0:(0:Int)<=(k:Int):=by omega
 by_cases h:(k:Int)<la.length
 rotate_left
 ·repeat first|with_reducible refine aq ?_|simp only[h,decide_false,go_sem,simprocAttr]
  have:k=la.length:=by omega
  subst this
  rw[List.drop_length,CW] at hs
  exact ab (by rw[e,hs]) rfl
 have hk':k<la.length:=by omega
 rw[bb (d:=(false,0)) hk',CW] at hs
 by_cases g1:300<(la.getD k (false,0)).2
 rotate_left
 ·rw[if_neg (λq=>g1 q.1)] at hs
  repeat first|with_reducible refine aq ?_|simp only[h,h0,iR,iQ,g1,gt_iff_lt,decide_true,decide_false,go_sem,simprocAttr]
  refine⟨_,_,_,?_,Wk.mk [0] [] ?_ ?_ ?_,k+1,rfl,by omega,hs,rfl,rfl⟩
  ·omega
  ·simp only[co,bD,go_sem,simprocAttr]
   repeat' refine aw ?_ ?_
   all_goals first|exact cI|skip
  ·exact .cons rfl .ls .nil
  ·simp
 by_cases g2:(la.getD k (false,0)).2<=65536
 ·rw[if_pos ⟨g1,g2⟩] at hs
  repeat first|with_reducible refine aq ?_|simp only[h,h0,iR,iQ,g1,g2,gt_iff_lt,decide_true,go_sem,simprocAttr]
  exact ab (by rw[e,hs]) rfl
 ·rw[if_neg (λq=>g2 q.2)] at hs
  repeat first|with_reducible refine aq ?_|simp only[h,h0,iR,iQ,g1,g2,gt_iff_lt,decide_true,decide_false,go_sem,simprocAttr]
  refine⟨_,_,_,?_,Wk.mk [0] [] ?_ ?_ ?_,k+1,rfl,by omega,hs,rfl,rfl⟩
  ·omega
  ·simp only[co,bD,go_sem,simprocAttr]
   repeat' refine aw ?_ ?_
   all_goals first|exact cI|skip
  ·exact .cons rfl .ls .nil
  ·simp
theorem eo(la:List (Bool×Int))(loc:Int)(cs:List (Int×Int))(hl:la.length<=9223372036854775807)(hc:cs.length<=9223372036854775807)(ha:dH cs):cF Tryz.prog 3 [aI la loc cs] [.v (.b true)]:=by
 refine ar ba qI ⟨by simp,by decide⟩ ?_
 simp only[a8,aI]
 repeat first|with_reducible refine aq ?_|simp only[go_sem,simprocAttr]
 refine ah [] (fargs:=[aI la loc cs]) (bP.same rfl) (ql la loc cs) ?_ ?_
 ·simp only[go_sem,simprocAttr]
 cases hF:eF la cs
 ·repeat first|with_reducible refine aq ?_|simp only[hF,go_sem,simprocAttr]
  refine ah [] (fargs:=[]) (bP.same rfl) dF ?_ ?_
  ·simp only[go_sem,simprocAttr]
  repeat first|with_reducible refine aq ?_|simp only[go_sem,simprocAttr]
  exact ab rfl rfl
 repeat first|with_reducible refine aq ?_|simp only[hF,go_sem,simprocAttr]
 refine ah [] (fargs:=[aI la loc cs]) (bP.same rfl) (hJ la loc cs hl hc ha) ?_ ?_
 ·simp only[go_sem,simprocAttr]
 repeat first|with_reducible refine aq ?_|simp only[go_sem,simprocAttr]
 refine ah [] (fargs:=[aI la loc cs]) (bP.same rfl) (fV la loc cs hl hc ha) ?_ ?_
 ·simp only[go_sem,simprocAttr]
 repeat first|with_reducible refine aq ?_|simp only[decide_true,go_sem,simprocAttr]
 refine ah [] (fargs:=[]) (bP.same rfl) dF ?_ ?_
 ·simp only[go_sem,simprocAttr]
 repeat first|with_reducible refine aq ?_|simp only[go_sem,simprocAttr]
 exact ab rfl rfl
end Go.Proofs.YthehakngpbjgjaaGreat