/- A part of the proof of CostGrows: CmA CmC CmB CmD CmE. No condition. -/
import Derived.Test.YtdpkgnmmikebdaaGreatGf20
import Derived.Test.YtdpkgnmmikebdaaGreatGf21
import Derived.Test.YtdpkgnmmikebdaaGreatGf17
set_option linter.unusedSimpArgs false
set_option linter.unusedVariables false
set_option linter.constructorNameAsVariable false
set_option maxRecDepth 100000
set_option maxHeartbeats 4000000
namespace Go.Proofs.YtdpkgnmmikebdaaGreat
open Go.RowKit
def pA(l:List (Bool×Int))(i j:Nat):AV:=if j=0 then .b (l.getD i (false,0)).1 else .n .i64 (l.getD i (false,0)).2
def pI(l:List (Int×Int))(i j:Nat):AV:=if j=0 then .n .i64 (l.getD i (0,0)).1 else .n .u32 (l.getD i (0,0)).2
theorem AN(l:List (Bool×Int))(i:Nat):pA l i 0= .b (l.getD i (false,0)).1:=rfl
theorem AM(l:List (Bool×Int))(i:Nat):pA l i 1= .n .i64 (l.getD i (false,0)).2:=rfl
theorem cS(l:List (Int×Int))(i:Nat):pI l i 0= .n .i64 (l.getD i (0,0)).1:=rfl
theorem pj(l:List (Int×Int))(i:Nat):pI l i 1= .n .u32 (l.getD i (0,0)).2:=rfl
def aH(la:List (Bool×Int))(loc:Int)(cs:List (Int×Int)):AV:= .agg [.fs 2 la.length (pA la),.n .i64 loc,.fs 2 cs.length (pI cs)]
theorem cE{α:Type}{d:α}{l:List α}{k:Nat}(h:k<l.length):l.drop k=l.getD k d::l.drop (k+1):=by
 rw[List.drop_eq_getElem_cons h,List.getD_eq_getElem?_getD,List.getElem?_eq_getElem h];rfl
/-! ### the table of operations-/
def lj(k:Int):Int:=if k=0 then 4294967296 else if k=1\/k=2 then 16 else if k=3\/k=4 then 8 else if k=35 then 16 else 1
def lx(k:Int):Bool:=decide (k<=4)||decide (k=35)
def xK(k:Nat):List AV->Bool
 |[.s _,.s _,.s _,.n .u64 l,.b a]=>decide (l=lj k)&&a==lx k
 |_=>false
noncomputable def W0:BT:= .nd 131 (.lf 97 Vs) (.nd 132 (.lf 131 LX) (.lf 132 LQ))
theorem x9:uN Tryz.prog W0.get:=BT.tab (show BT.ok Tryz.prog W0 from⟨Vr,LW,LP⟩)
noncomputable def I9:Bool:=match ug (u4 W0.get 3000 20) 97 [] with
 |some (.agg L)=>decide (L.length=180)&&(List.range 36).all λk=>xK k ((L.drop (k*5)).take 5)
 |_=>false
theorem t8:I9=true:=by kernel_rfl
theorem oq{P:Program}{C:dE}(hC:∀B,dD P B C){g:FuncId}{xs:List AV}{v:AV}(h:ug C g xs=some v):bM P g xs [.v v]:=by
 unfold ug at h
 split at h
 ·rename_i v' H' hr
  cases hs:v'.sc 3 with
  |false=>rw[hs] at h;cases h
  |true=>
   rw[hs] at h
   cases h
   exact Cm hC hr hs
 ·cases h
theorem qD{k:Nat}{l:List AV}(h:xK k l=true):∃a b c,l=[.s a,.s b,.s c,.n .u64 (lj k),.b (lx k)]:=by
 unfold xK at h
 split at h
 ·rename_i a b c l q
  simp only[Bool.and_eq_true,decide_eq_true_eq,beq_iff_eq] at h
  exact⟨a,b,c,by rw[h.1,h.2]⟩
 ·cases h
theorem BL:∃L:List AV,bM Tryz.prog 97 [] [.v (.agg L)]/\L.length=36*5/\∀k:Nat,k<36->∃a b c,(L.drop (k*5)).take 5=[.s a,.s b,.s c,.n .u64 (lj k),.b (lx k)]:=by
 have h:=t8
 unfold I9 at h
 split at h
 ·rename_i L hr
  simp only[Bool.and_eq_true,decide_eq_true_eq] at h
  exact⟨L,oq (λB=>pc B aD x9 3000 20) hr,h.1,λk hk=>qD (List.all_eq_true.1 h.2 k (List.mem_range.2 hk))⟩
 ·cases h
def WZ(a b c:ByteArray)(k:Int):AV:= .agg [.s a,.s b,.s c,.n .u64 (lj k),.b (lx k)]
def sk:AV:= .agg [.s ⟨#[]⟩,.s ⟨#[]⟩,.s ⟨#[]⟩,.n .u64 0,.b false]
theorem yZ(op:Int)(h:op<0\/36<=op):bM Tryz.prog 70 [.n .i64 op] [.v sk,.v (.b false)]:=by
 refine ag aD Dt ⟨by simp,by decide⟩ ?_
 simp only[aE,sk]
 by_cases h0:op<0
 ·repeat first|with_reducible refine aq ?_|simp only[h0,decide_true,go_sem,simprocAttr]
  exact⟨[_,_],rfl,⟨rfl,rfl⟩,⟨rfl,rfl⟩,trivial⟩
 ·have h1:36<=op:=by omega
  repeat first|with_reducible refine aq ?_|simp only[h0,h1,ge_iff_le,decide_true,decide_false,go_sem,simprocAttr]
  exact⟨[_,_],rfl,⟨rfl,rfl⟩,⟨rfl,rfl⟩,trivial⟩
theorem mE(k:Nat)(hk:k<36):∃a b c,bM Tryz.prog 70 [.n .i64 k] [.v (WZ a b c k),.v (.b true)]:=by
 obtain⟨L,hL,hlen,hrow⟩:=BL
 obtain⟨a,b,c,hr⟩:=hrow k hk
 refine⟨a,b,c,?_⟩
 refine ag aD Dt ⟨by simp,by decide⟩ ?_
 simp only[aE,WZ]
 have h0:¬((k:Int)<0):=by omega
 have h1:¬((36:Int)<=k):=by omega
 have h2:(0:Int)<=(k:Int):=by omega
 have h3:(k:Int)<36:=by omega
 repeat first|with_reducible refine aq ?_|simp only[h0,h1,ge_iff_le,decide_true,decide_false,go_sem,simprocAttr]
 refine bS ([]) hL ?_
 repeat first|with_reducible refine aq ?_|simp only[hlen,h2,h3,hr,Int.toNat_natCast,and_self,go_sem,simprocAttr]
 exact⟨[_,_],rfl,⟨rfl,rfl⟩,⟨rfl,rfl⟩,trivial⟩
/-! ### an instruction-/
def dW(i:Int×Int):Int:=if i.1<0\/36<=i.1 then 1 else if lj i.1<=i.2 then 2 else 0
theorem sV(op arg:Int)(ha:0<=arg)(ha2:arg<4294967296):bM Tryz.prog 94 [.agg [.n .i64 op,.n .u32 arg]] [.v (.n .i64 (dW (op,arg)))]:=by
 refine ag aD Xy ⟨by simp,by decide⟩ ?_
 simp only[aE]
 have hw:IntKind.u64.wrap arg=arg:=by
  unfold IntKind.wrap;simp[IntKind.signed,IntKind.bits];omega
 repeat first|with_reducible refine aq ?_|simp only[go_sem,simprocAttr]
 by_cases h:op<0\/36<=op
 ·refine bS ([.n .i64 op]) (yZ op h) ?_
  simp only[sk]
  repeat first|with_reducible refine aq ?_|simp only[go_sem,simprocAttr]
  exact aa (by simp only[dW,h,if_true]) rfl
 ·obtain⟨k,rfl⟩:∃k:Nat,op=k:=⟨op.toNat,by omega⟩
  obtain⟨a,b,c,hk⟩:=mE k (by omega)
  refine bS ([.n .i64 k]) hk ?_
  simp only[WZ]
  by_cases h2:lj k<=arg
  ·repeat first|with_reducible refine aq ?_|simp only[hw,h2,ge_iff_le,decide_true,go_sem,simprocAttr]
   exact aa (by simp only[dW,h,h2,if_true,if_false]) rfl
  ·repeat first|with_reducible refine aq ?_|simp only[hw,h2,ge_iff_le,decide_false,go_sem,simprocAttr]
   exact aa (by simp only[dW,h,h2,if_false]) rfl
/-! ### arrays-/
def jg:List (Bool×Int)->Int->Int
 |[],_=>0
 |a::l,left=>if a.2<1\/left<a.2 then 2 else jg l (left-a.2)
def da(la:List (Bool×Int)):Int:=if 8<la.length then 6 else jg la 65536
theorem tB(la:List (Bool×Int))(hl:la.length<=9223372036854775807):bM Tryz.prog 93 [.fs 2 la.length (pA la)] [.v (.n .i64 (da la))]:=by
 refine ag aD XS ⟨by simp,by decide⟩ ?_
 simp only[aE]
 by_cases h8:8<la.length
 ·have h8':(8:Int)<(la.length:Int):=by omega
  repeat first|with_reducible refine aq ?_|simp only[h8',gt_iff_lt,decide_true,go_sem,simprocAttr]
  exact aa (by simp only[da,h8,if_true]) rfl
 have h8':¬(8:Int)<(la.length:Int):=by omega
 have hE:da la=jg la 65536:=by simp only[da,h8,if_false]
 repeat first|with_reducible refine aq ?_|simp only[h8',gt_iff_lt,decide_false,go_sem,simprocAttr]
 refine GA.loop (I:=λm e H=>∃(k:Nat) (left:Int),m=la.length-k/\k<=la.length/\jg la 65536=jg (la.drop k) left/\0<=left/\left<=65536/\e=az [(3,.n .i64 left),(9,.fs 2 la.length (pA la)),(10,.n .i64 la.length),(11,.n .i64 k)]/\H=ah []) (Wk.mk [] [] ?_ ?_ ?_) ⟨0,65536,rfl,by omega,rfl,by omega,by omega,rfl,rfl⟩ ?_
 ·exact a8
 ·trivial
 ·decide
 rintro m e H ⟨k,left,rfl,hk,hs,hl0,hl1,rfl,rfl⟩
 repeat first|with_reducible refine aq ?_|simp only[go_sem,simprocAttr]
 refine⟨λh=>?_,λh=>?_⟩
 ·have hk':k<la.length:=by omega
  have h0:(0:Int)<=(k:Int):=by omega
  rw[cE (d:=(false,0)) hk',jg] at hs
  by_cases h1:(la.getD k (false,0)).2<1
  ·repeat first|with_reducible refine aq ?_|simp only[h0,h,AN,AM,h1,decide_true,go_sem,simprocAttr]
   rw[if_pos (.inl h1)] at hs
   exact aa (by rw[hE,hs]) rfl
  by_cases h2:left<(la.getD k (false,0)).2
  ·repeat first|with_reducible refine aq ?_|simp only[h0,h,AN,AM,h1,h2,gt_iff_lt,decide_true,decide_false,go_sem,simprocAttr]
   rw[if_pos (.inr h2)] at hs
   exact aa (by rw[hE,hs]) rfl
  rw[if_neg (by omega)] at hs
  repeat first|with_reducible refine aq ?_|simp only[h0,h,AN,AM,h1,h2,gt_iff_lt,decide_false,go_sem,simprocAttr]
  refine⟨_,_,_,?_,Wk.mk [] [] ?_ ?_ ?_,k+1,left-(la.getD k (false,0)).2,rfl,by omega,hs,by omega,by omega,rfl,rfl⟩
  ·omega
  ·exact a8
  ·trivial
  ·decide
 ·repeat first|with_reducible refine aq ?_|simp only[go_sem,simprocAttr]
  have:k=la.length:=by omega
  subst this
  rw[List.drop_length,jg] at hs
  exact aa (by rw[hE,hs]) rfl
/-! ### what is in form-/
def co:List (Int×Int)->Int
 |[]=>0
 |i::l=>if dW i=0 then co l else dW i
def bj(la:List (Bool×Int))(loc:Int)(cs:List (Int×Int)):Int:=if da la=0 then(if loc<0\/16<loc then 2 else if 1024<cs.length then 6 else co cs) else da la
def cF(cs:List (Int×Int)):Prop:=∀i ∈ cs,0<=i.2/\i.2<4294967296
theorem eS{α:Type}{l:List α}{k:Nat}{d:α}(h:k<l.length):l.getD k d ∈ l:=by rw[List.getD_eq_getElem?_getD,List.getElem?_eq_getElem h];exact List.getElem_mem _
theorem rq(la:List (Bool×Int))(loc:Int)(cs:List (Int×Int))(hl:la.length<=9223372036854775807)(hc:cs.length<=9223372036854775807)(ha:cF cs):bM Tryz.prog 67 [aH la loc cs] [.v (.n .i64 (bj la loc cs))]:=by
 refine ag aD Yc ⟨by simp,by decide⟩ ?_
 simp only[aE,aH]
 repeat first|with_reducible refine aq ?_|simp only[go_sem,simprocAttr]
 refine bS ([.fs 2 la.length (pA la)]) (tB la hl) ?_
 by_cases hA:da la=0
 rotate_left
 ·repeat first|with_reducible refine aq ?_|simp only[hA,ne_eq,not_false_eq_true,decide_true,go_sem,simprocAttr]
  exact aa (by simp only[bj,hA,if_false]) rfl
 repeat first|with_reducible refine aq ?_|simp only[hA,ne_eq,not_true_eq_false,decide_false,go_sem,simprocAttr]
 by_cases h1:loc<0
 ·repeat first|with_reducible refine aq ?_|simp only[h1,decide_true,go_sem,simprocAttr]
  exact aa (by simp only[bj,hA,h1,true_or,if_true]) rfl
 by_cases h2:16<loc
 ·repeat first|with_reducible refine aq ?_|simp only[h1,h2,gt_iff_lt,decide_true,decide_false,go_sem,simprocAttr]
  exact aa (by simp only[bj,hA,h2,or_true,if_true]) rfl
 have hlo:¬(loc<0\/16<loc):=by omega
 by_cases h3:1024<cs.length
 ·have h3':(1024:Int)<(cs.length:Int):=by omega
  repeat first|with_reducible refine aq ?_|simp only[h1,h2,h3',gt_iff_lt,decide_true,decide_false,go_sem,simprocAttr]
  exact aa (by simp only[bj,hA,hlo,h3,if_true,if_false]) rfl
 have h3':¬(1024:Int)<(cs.length:Int):=by omega
 repeat first|with_reducible refine aq ?_|simp only[h1,h2,h3',gt_iff_lt,decide_false,go_sem,simprocAttr]
 refine GA.loop (I:=λm e H=>∃(k:Nat),m=cs.length-k/\k<=cs.length/\co cs=co (cs.drop k)/\e=az [(28,.fs 2 cs.length (pI cs)),(29,.n .i64 cs.length),(30,.n .i64 k)]/\H=ah []) (Wk.mk [] [] ?_ ?_ ?_) ⟨0,rfl,by omega,rfl,rfl,rfl⟩ ?_
 ·exact a8
 ·trivial
 ·decide
 rintro m e H ⟨k,rfl,hk,hs,rfl,rfl⟩
 have hE:bj la loc cs=co cs:=by simp only[bj,hA,hlo,h3,if_true,if_false]
 repeat first|with_reducible refine aq ?_|simp only[go_sem,simprocAttr]
 refine⟨λh=>?_,λh=>?_⟩
 ·have hk':k<cs.length:=by omega
  have h0:(0:Int)<=(k:Int):=by omega
  have hm:=ha _ (eS (d:=(0,0)) hk')
  rw[cE (d:=(0,0)) hk',co] at hs
  repeat first|with_reducible refine aq ?_|simp only[h0,h,cS,pj,go_sem,simprocAttr]
  refine bS ([.agg [.n .i64 (cs.getD k (0,0)).1,.n .u32 (cs.getD k (0,0)).2]]) (sV _ _ hm.1 hm.2) ?_
  by_cases hi:dW (cs.getD k (0,0))=0
  ·rw[if_pos hi] at hs
   repeat first|with_reducible refine aq ?_|simp only[hi,ne_eq,not_true_eq_false,decide_false,go_sem,simprocAttr]
   refine⟨_,_,_,?_,Wk.mk [] [] ?_ ?_ ?_,k+1,rfl,by omega,hs,rfl,rfl⟩
   ·omega
   ·exact a8
   ·trivial
   ·decide
  ·rw[if_neg hi] at hs
   repeat first|with_reducible refine aq ?_|simp only[hi,ne_eq,not_false_eq_true,decide_true,go_sem,simprocAttr]
   exact aa (by rw[hE,hs]) rfl
 ·repeat first|with_reducible refine aq ?_|simp only[go_sem,simprocAttr]
  have:k=cs.length:=by omega
  subst this
  rw[List.drop_length,co] at hs
  exact aa (by rw[hE,hs]) rfl
theorem bt{k k':IntKind}{a b:Int}(h:0<=b):dF (binOp .shr 0 (.int k a) (.int k' b))=some (.n k (a.fdiv (2^min b.toNat k.bits))):=by
 unfold binOp Op.shift
 simp only[if_neg (Int.not_lt.2 h)]
 rfl
theorem o9{k k':IntKind}{a b:Int}(h:0<=b):dF (binOp .shl 0 (.int k a) (.int k' b))=some (.n k (k.wrap (a*2^min b.toNat k.bits))):=by
 unfold binOp Op.shift
 simp only[if_neg (Int.not_lt.2 h)]
 rfl
theorem ky{k:IntKind}{a b:Int}(h:b≠0):dF (binOp .quo 0 (.int k a) (.int k b))=some (.n k (k.wrap (a.tdiv b))):=by
 unfold binOp Op.intDiv
 simp only[ne_eq,not_true_eq_false,if_false,if_neg h]
 rfl
theorem VL(k:IntKind)(a b:Int):dF (binOp .or 0 (.int k a) (.int k b))=some (.n k (k.wrap ((BitVec.ofInt k.bits a|||BitVec.ofInt k.bits b).toNat:Int))):=by
 unfold binOp Op.intBits
 simp only[ne_eq,not_true_eq_false,if_false]
 rfl
def gN(n:Int):Int:=if n<0\/9007199254740991<n then 0 else n
theorem pm(n:Int):0<=gN n/\gN n<=9007199254740991:=by unfold gN;split<;>omega
theorem sL(n:Int):bM Tryz.prog 129 [.n .i64 n] [.v (.n .i64 (gN n))]:=by
 refine ag aD UW ⟨by simp,by decide⟩ ?_
 simp only[aE]
 by_cases h0:n<0
 ·repeat first|with_reducible refine aq ?_|simp only[h0,decide_true,go_sem,simprocAttr]
  exact aa (by simp only[gN,h0,true_or,if_true]) rfl
 by_cases h1:9007199254740991<n
 ·repeat first|with_reducible refine aq ?_|simp only[h0,h1,gt_iff_lt,decide_true,decide_false,go_sem,simprocAttr]
  exact aa (by simp only[gN,h1,or_true,if_true]) rfl
 ·repeat first|with_reducible refine aq ?_|simp only[h0,h1,gt_iff_lt,decide_false,go_sem,simprocAttr]
  exact aa (by simp only[gN,h0,h1,or_self,if_false]) rfl
theorem J6:(2:Int)^min 32 64=4294967296:=by decide
theorem J7:(2:Int)^min 16 64=65536:=by decide
theorem e8:(2:Int)^min 8 64=256:=by decide
def xB:ByteArray:=⟨#[0,1,2,2,3,3,3,3,4,4,4,4,4,4,4,4,5,5,5,5,5,5,5,5,5,5,5,5,5,5,5,5,6,6,6,6,6,6,6,6,6,6,6,6,6,6,6,6,6,6,6,6,6,6,6,6,6,6,6,6,6,6,6,6,7,7,7,7,7,7,7,7,7,7,7,7,7,7,7,7,7,7,7,7,7,7,7,7,7,7,7,7,7,7,7,7,7,7,7,7,7,7,7,7,7,7,7,7,7,7,7,7,7,7,7,7,7,7,7,7,7,7,7,7,7,7,7,7,8,8,8,8,8,8,8,8,8,8,8,8,8,8,8,8,8,8,8,8,8,8,8,8,8,8,8,8,8,8,8,8,8,8,8,8,8,8,8,8,8,8,8,8,8,8,8,8,8,8,8,8,8,8,8,8,8,8,8,8,8,8,8,8,8,8,8,8,8,8,8,8,8,8,8,8,8,8,8,8,8,8,8,8,8,8,8,8,8,8,8,8,8,8,8,8,8,8,8,8,8,8,8,8,8,8,8,8,8,8,8,8,8,8,8,8,8,8,8,8,8,8,8,8,8,8,8,8]⟩
def VG:Bool:=(List.range 256).all λj=>match xB[j]? with
 |some c=>decide (c.toNat<=8)
 |none=>false
theorem xA:VG=true:=by kernel_rfl
def l8(j:Nat):Int:=match xB[j]? with
 |some c=>c.toNat
 |none=>0
theorem jG(j:Nat)(h:j<256):∃c,xB[j]? =some c/\(c.toNat:Int)=l8 j/\0<=l8 j/\l8 j<=8:=by
 have:=List.all_eq_true.1 xA j (List.mem_range.2 h)
 unfold l8
 split at this
 ·rename_i c hc
  rw[hc]
  have:=of_decide_eq_true this
  exact⟨c,rfl,rfl,by omega,by omega⟩
 ·cases this
abbrev ZW:List AO:=
 [o1 19 (.mv (.t 2)),o1 20 (.mv (.t 0)),o1 21 (.cvi .u8 (.t 20)),o1 22 (.sx (.c (.s xB)) (.t 21)),o1 23 (.cvi .i64 (.t 22)),o1 24 (.bin .add (.t 19) (.t 23)),o1 2 (.mv (.t 24))]
theorem I4:xq=ZW:=by kernel_rfl
def jW(y n:Int):Int:=if 256<=y then n+8+l8 (y / 256).toNat else n+l8 y.toNat
def mD(y n:Int):Int:=if 65536<=y then jW (y / 65536) (n+16) else jW y n
def ew(x:Int):Int:=if 4294967296<=x then mD (x / 4294967296) 32 else mD x 0
theorem lO{y n:Int}(h0:0<=y)(h1:y<65536)(hn:0<=n)(hn2:n<=40\/(n<=48/\y<256)):0<=jW y n/\jW y n<=56:=by
 unfold jW
 split
 ·obtain⟨_,_,_,q1,q2⟩:=jG (y / 256).toNat (by omega)
  omega
 ·obtain⟨_,_,_,q1,q2⟩:=jG y.toNat (by omega)
  omega
theorem ul{x:Int}(h0:0<=x)(h1:x<=9007199254740991):0<=ew x/\ew x<=56:=by
 unfold ew mD
 split
 ·split
  ·exact lO (by omega) (by omega) (by omega) (.inr ⟨by omega,by omega⟩)
  ·exact lO (by omega) (by omega) (by omega) (.inl (by omega))
 ·split
  ·exact lO (by omega) (by omega) (by omega) (.inl (by omega))
  ·exact lO (by omega) (by omega) (by omega) (.inl (by omega))
theorem vT(x:Int)(h0:0<=x)(h1:x<=9007199254740991):bM Tryz.prog 201 [.n .u64 x] [.v (.n .i64 (ew x))]:=by
 have s32:(0:Int)<=32:=by decide
 have s16:(0:Int)<=16:=by decide
 have s8:(0:Int)<=8:=by decide
 have a1:IntKind.i64.wrap 48=48:=rfl
 have a2:IntKind.i64.wrap 40=40:=rfl
 have a3:IntKind.i64.wrap 16=16:=rfl
 have a4:IntKind.i64.wrap 8=8:=rfl
 have a5:IntKind.i64.wrap 24=24:=rfl
 have fin:∀(y n:Int),0<=y->y<256->0<=n->n<=48->∃c,xB[y.toNat]? =some c/\IntKind.u8.wrap y=y/\IntKind.i64.wrap (c.toNat:Int)=c.toNat/\IntKind.i64.wrap (n+(c.toNat:Int))=n+l8 y.toNat:=by
  intro y n hy0 hy1 hn0 hn1
  obtain⟨c,hc,hc1,q1,q2⟩:=jG y.toNat (by omega)
  exact⟨c,hc,by rw[IntKind.wrap_u8];omega,aj (by omega),by rw[hc1];exact aj (by omega)⟩
 refine ag aD UK ⟨by simp,by decide⟩ ?_
 simp only[aE]
 rw[I4]
 by_cases g1:4294967296<=x
 ·by_cases g2:65536<=x / 4294967296
  ·have g3:¬256<=x / 4294967296 / 65536:=by omega
   have hy:(0:Int)<=x / 4294967296 / 65536:=by omega
   obtain⟨c,q1,q2,q3,q4⟩:=fin (x / 4294967296 / 65536) 48 hy (by omega) (by omega) (by omega)
   repeat first|with_reducible refine aq ?_|simp only[g1,ge_iff_le,decide_true,decide_false,bt s32,bt s16,bt s8,J6,J7,e8,g2,g3,a1,q1,q2,q3,q4,hy,go_sem,simprocAttr]
   exact aa (by simp only[ew,mD,jW,g1,g2,g3,if_true,if_false,Int.reduceAdd]) rfl
  ·by_cases g3:256<=x / 4294967296
   ·have hy:(0:Int)<=x / 4294967296 / 256:=by omega
    obtain⟨c,q1,q2,q3,q4⟩:=fin (x / 4294967296 / 256) 40 hy (by omega) (by omega) (by omega)
    repeat first|with_reducible refine aq ?_|simp only[g1,ge_iff_le,decide_true,decide_false,bt s32,bt s16,bt s8,J6,J7,e8,g2,g3,a2,q1,q2,q3,q4,hy,go_sem,simprocAttr]
    exact aa (by simp only[ew,mD,jW,g1,g2,g3,if_true,if_false,Int.reduceAdd]) rfl
   ·have hy:(0:Int)<=x / 4294967296:=by omega
    obtain⟨c,q1,q2,q3,q4⟩:=fin (x / 4294967296) 32 hy (by omega) (by omega) (by omega)
    repeat first|with_reducible refine aq ?_|simp only[g1,ge_iff_le,decide_true,decide_false,bt s32,bt s16,bt s8,J6,J7,e8,g2,g3,q1,q2,q3,q4,hy,go_sem,simprocAttr]
    exact aa (by simp only[ew,mD,jW,g1,g2,g3,if_true,if_false,Int.reduceAdd]) rfl
 ·by_cases g2:65536<=x
  ·by_cases g3:256<=x / 65536
   ·have hy:(0:Int)<=x / 65536 / 256:=by omega
    obtain⟨c,q1,q2,q3,q4⟩:=fin (x / 65536 / 256) 24 hy (by omega) (by omega) (by omega)
    repeat first|with_reducible refine aq ?_|simp only[g1,ge_iff_le,decide_true,decide_false,bt s32,bt s16,bt s8,J6,J7,e8,g2,g3,a3,a5,q1,q2,q3,q4,hy,go_sem,simprocAttr]
    exact aa (by simp only[ew,mD,jW,g1,g2,g3,if_true,if_false,Int.reduceAdd]) rfl
   ·have hy:(0:Int)<=x / 65536:=by omega
    obtain⟨c,q1,q2,q3,q4⟩:=fin (x / 65536) 16 hy (by omega) (by omega) (by omega)
    repeat first|with_reducible refine aq ?_|simp only[g1,ge_iff_le,decide_true,decide_false,bt s32,bt s16,bt s8,J6,J7,e8,g2,g3,a3,q1,q2,q3,q4,hy,go_sem,simprocAttr]
    exact aa (by simp only[ew,mD,jW,g1,g2,g3,if_true,if_false,Int.reduceAdd]) rfl
  ·by_cases g3:256<=x
   ·have hy:(0:Int)<=x / 256:=by omega
    obtain⟨c,q1,q2,q3,q4⟩:=fin (x / 256) 8 hy (by omega) (by omega) (by omega)
    repeat first|with_reducible refine aq ?_|simp only[g1,ge_iff_le,decide_true,decide_false,bt s32,bt s16,bt s8,J6,J7,e8,g2,g3,a4,q1,q2,q3,q4,hy,go_sem,simprocAttr]
    exact aa (by simp only[ew,mD,jW,g1,g2,g3,if_true,if_false,Int.reduceAdd]) rfl
   ·obtain⟨c,q1,q2,q3,q4⟩:=fin x 0 h0 (by omega) (by omega) (by omega)
    repeat first|with_reducible refine aq ?_|simp only[g1,ge_iff_le,decide_true,decide_false,bt s32,bt s16,bt s8,J6,J7,e8,g2,g3,q1,q2,q3,q4,h0,go_sem,simprocAttr]
    exact aa (by simp only[ew,mD,jW,g1,g2,g3,if_true,if_false,Int.reduceAdd]) rfl
theorem uk(x:Int)(h0:0<=x)(h1:x<=9007199254740991):bM Tryz.prog 175 [.n .u64 x] [.v (.n .i64 (ew x))]:=by
 refine ag aD UO ⟨by simp,by decide⟩ ?_
 simp only[aE]
 repeat first|with_reducible refine aq ?_|simp only[go_sem,simprocAttr]
 refine bS ([.n .u64 x]) (vT x h0 h1) ?_
 repeat first|with_reducible refine aq ?_|simp only[go_sem,simprocAttr]
 exact aa rfl rfl
def kM(n:Int):Int:=if 1<=ew n then(ew n-1) / 7 else 0
theorem uy{n:Int}(h0:0<=n)(h1:n<=9007199254740991):0<=kM n/\kM n<=7:=by
 have:=ul h0 h1
 unfold kM;split<;>omega
theorem rp(n:Int)(h0:0<=n)(h1:n<=9007199254740991):bM Tryz.prog 130 [.n .i64 n] [.v (.n .i64 (kM n))]:=by
 have hl:=ul h0 h1
 have hw:IntKind.u64.wrap n=n:=by rw[IntKind.wrap_u64];omega
 have hq:(7:Int)≠0:=by decide
 have hw2:IntKind.i64.wrap (ew n-1)=ew n-1:=aj (by omega)
 refine ag aD UR ⟨by simp,by decide⟩ ?_
 simp only[aE]
 repeat first|with_reducible refine aq ?_|simp only[hw,go_sem,simprocAttr]
 refine bS ([.n .u64 n]) (uk n h0 h1) ?_
 have key:IntKind.i64.wrap ((if 0<ew n-1 then ew n-1 else 0).tdiv 7)=kM n:=by
  unfold kM
  by_cases h:1<=ew n
  ·have e:(if 0<ew n-1 then ew n-1 else 0)=ew n-1:=by split<;>omega
   rw[e,if_pos h,Int.tdiv_eq_ediv_of_nonneg (by omega)]
   exact aj (by omega)
  ·rw[if_neg (by omega),if_neg h];rfl
 repeat first|with_reducible refine aq ?_|simp only[hw2,oB,gG,sa,ky hq,go_sem,simprocAttr]
 exact aa (by rw[key]) rfl
/-! ### bytes-/
def bC(l:List Int)(i _j:Nat):AV:= .n .u8 (l.getD i 0)
theorem zl{l l':List Int}{i:Nat}{d:Int}(h:i<l.length):(l++l').getD i d=l.getD i d:=by
 simp[List.getD_eq_getElem?_getD,List.getElem?_append_left h]
theorem zn{l:List Int}{x d:Int}:(l++[x]).getD l.length d=x:=by
 simp[List.getD_eq_getElem?_getD]
def qV(N:Int):Nat->List Int
 |0=>[]
 |j+1=>IntKind.u8.wrap (N / 2^(8*j))::qV N j
theorem mC(N:Int):∀j,(qV N j).length=j
 |0=>rfl
 |j+1=>by simp only[qV,List.length_cons,mC N j]
def eL(n:Int):List Int:=bits .or .u8 (IntKind.u8.wrap (255*2^(8-kM (gN n)).toNat)) (IntKind.u8.wrap (gN n / 2^(8*kM (gN n)).toNat))::qV (gN n) (kM (gN n)).toNat
theorem fV(n:Int):(eL n).length<=8:=by
 have:=uy (pm n).1 (pm n).2
 simp only[eL,List.length_cons,mC];omega
theorem pY{l:List Int}{x:Int}(hl:l.length<1100000):∀i j,i<l.length+1->j<1->((ai 5 1 l.length 0 (bC l)).app (l.length*1) (.li [.n .u8 x])).get (i*1+j)=bC (l++[x]) i j:=
 ma rfl (by omega) (λi j hi _=>by unfold bC;rw[zl hi]) (λj hj=>by
  obtain rfl:j=0:=by omega
  unfold bC
  rw[zn]
  rfl)
theorem I5(l:List Int)(hl:l.length<1000000)(n:Int){H:AH}{b:Nat}(hb:dh (λb2=>[b].reverse[b2]?) [] H b (ai 5 1 l.length 0 (bC l))):oP Tryz.prog 95 [.os b l.length,.n .i64 n] H λv H'=>v= .os 0 (l++eL n).length/\H'=ah [ai 5 1 (l++eL n).length 0 (bC (l++eL n))]:=by
 refine xW aD U6 (by simp) ?_
 refine GA.wk (Wk.arg _ _ _ (by simp)) ?_
 refine GA.wk (e2:=az [(0,.os 0 l.length),(1,.n .i64 n)]) (H2:=ah [ai 5 1 l.length 0 (bC l)]) (Wk.mk [b] [] ?_ ?_ ?_) ?_
 ·simp only[aE]
  simp only[eo,cQ,go_sem,simprocAttr]
  repeat' refine aY ?_ ?_
  all_goals first|exact i8|skip
 ·exact .cr hb .nil
 ·simp
 have hn:=pm n
 have hf:=uy hn.1 hn.2
 have hE:eL n=bits .or .u8 (IntKind.u8.wrap (255*2^(8-kM (gN n)).toNat)) (IntKind.u8.wrap (gN n / 2^(8*kM (gN n)).toNat))::qV (gN n) (kM (gN n)).toNat:=rfl
 generalize hN:gN n=N at hn hf hE
 generalize hK:kM N=K at hf hE
 have v1:IntKind.i64.wrap (8-K)=8-K:=aj (by omega)
 have v2:IntKind.i64.wrap (8*K)=8*K:=aj (by omega)
 have s1:(0:Int)<=8-K:=by omega
 have s2:(0:Int)<=8*K:=by omega
 have h0:(0:Int)<=(l.length:Int):=by omega
 have hlim:(l.length+1)*1<1099511627776/\l.length+1<1099511627776/\(l.length+1)*1<=140737488355328/\l.length+1<=140737488355328/\l.length+1<=9223372036854775807:=by omega
 repeat first|with_reducible refine aq ?_|simp only[go_sem,simprocAttr]
 refine bS ([.n .i64 n]) (sL n) ?_
 repeat first|with_reducible refine aq ?_|simp only[hN,go_sem,simprocAttr]
 refine bS ([.n .i64 N]) (hK ▸ rp N hn.1 hn.2) ?_
 repeat first|with_reducible refine aq ?_|simp only[v1,v2,o9 s1,bt s2,VL,h0,hlim.1,hlim.2.1,hlim.2.2.1,hlim.2.2.2.1,hlim.2.2.2.2,decide_true,go_sem,simprocAttr]
 generalize hX:bits BinOp.or .u8 (IntKind.u8.wrap (255*2^(8-K).toNat)) (IntKind.u8.wrap (N / 2^(8*K).toNat))=X at hE
 have vK:IntKind.i64.wrap (K-1)=K-1:=aj (by omega)
 simp only[vK]
 refine GA.loop (I:=λm e H=>∃(j:Nat) (xs:List Int),m=j/\j<=7/\xs++qV N j=l++eL n/\xs.length<=l.length+8/\e=az [(0,.os 0 xs.length),(1,.n .i64 N),(7,.n .i64 ((j:Int)-1))]/\H=ah [ai 5 1 xs.length 0 (bC xs)]) (Wk.mk [2] [] ?_ ?_ ?_) ⟨K.toNat,l++[X],rfl,by omega,by rw[hE];simp,by simp,rfl,rfl⟩ ?_
 ·simp only[eo,cQ,List.length_append,List.length_cons,List.length_nil,go_sem,simprocAttr]
  repeat' refine aY ?_ ?_
  all_goals first|exact i8|skip
 ·refine .cr (.rows (x:=_) (by simp only[go_sem,simprocAttr];rfl) (by rfl) (by rfl) (by rfl) ?_ (Nat.le_refl _) (by decide) ?_ (λi j _ _=>rfl)) .nil
  ·simp only[go_sem,simprocAttr,List.length_append,List.length_cons,List.length_nil]
  ·simp only[go_sem,simprocAttr,List.length_append,List.length_cons,List.length_nil]
   have:=pY (x:=X) (l:=l) (by omega)
   simpa only[Nat.mul_one] using this
 ·simp
 rintro m e H ⟨j,xs,rfl,hj,hs,hxl,rfl,rfl⟩
 cases m with
 |zero=>
  rw[qV,List.append_nil] at hs
  subst hs
  have e0:(((0:Nat):Int)-1)= -1:=rfl
  have e1:¬(0:Int)<= -1:=by decide
  simp only[e0]
  repeat first|with_reducible refine aq ?_|simp only[e1,ge_iff_le,decide_false,go_sem,simprocAttr]
 |succ i=>
  have e0:(((i+1:Nat):Int)-1)=i:=by omega
  have e1:(0:Int)<=i:=by omega
  have e2:(0:Int)<=8*(i:Int):=by omega
  have w1:IntKind.i64.wrap (8*(i:Int))=8*(i:Int):=aj (by omega)
  have hT:(8*(i:Int)).toNat=8*i:=by omega
  have hm:min (8*i) 64=8*i:=by omega
  have g0:(0:Int)<=(xs.length:Int):=by omega
  have hlim:(xs.length+1)*1<1099511627776/\xs.length+1<1099511627776/\(xs.length+1)*1<=140737488355328/\xs.length+1<=140737488355328/\xs.length+1<=9223372036854775807:=by omega
  simp only[e0]
  repeat first|with_reducible refine aq ?_|simp only[e1,ge_iff_le,decide_true,w1,hT,hm,bt e2,g0,hlim.1,hlim.2.1,hlim.2.2.1,hlim.2.2.2.1,hlim.2.2.2.2,go_sem,simprocAttr]
  rw[qV] at hs
  have hlen:=congrArg List.length hs
  simp only[List.length_append,List.length_cons,mC] at hlen
  have h8:=fV n
  have hg:=pY (x:=IntKind.u8.wrap (N / 2^(8*i))) (l:=xs) (by omega)
  simp only[Nat.mul_one] at hg
  refine⟨_,_,_,?_,Wk.mk [2] [] ?_ ?_ ?_,i,xs++[IntKind.u8.wrap (N / 2^(8*i))],rfl,by omega,by rw[<-hs];simp,by simp only[List.length_append,List.length_cons,List.length_nil];omega,rfl,rfl⟩
  ·omega
  ·simp only[eo,cQ,List.length_append,List.length_cons,List.length_nil,go_sem,simprocAttr]
   repeat' refine aY ?_ ?_
   all_goals first|exact i8|skip
  ·refine .cr (.rows (x:=_) (by simp only[go_sem,simprocAttr];rfl) (by rfl) (by rfl) (by rfl) ?_ (Nat.le_refl _) (by decide) ?_ (λi j _ _=>rfl)) .nil
   ·simp only[go_sem,simprocAttr,List.length_append,List.length_cons,List.length_nil]
   ·simp only[go_sem,simprocAttr,List.length_append,List.length_cons,List.length_nil,Nat.mul_one]
    exact hg
  ·simp
theorem eX(l:List Int)(hl:l.length<1000000)(n:Int):bM Tryz.prog 68 [.fs 1 l.length (bC l),.n .i64 n] [.o 5 1 (l++eL n).length 0 (bC (l++eL n))]:=by
 refine ag aD Vf ⟨by simp,by decide⟩ ?_
 simp only[aE]
 refine GA.seq ?_
 refine GA.go aD rfl ?_
 simp only[go_sem,simprocAttr]
 refine GA.seq ?_
 refine GA.regx (l1:=[(o1 5 (.mv (.t 0))),⟨some 6,none,.cl (.c (.f 96 [] [])) [(.t 5)]⟩,(o1 7 (.mv (.t 1)))]) (l2:=[(o1 4 (.mv (.t 8)))]) rfl ?_
 simp only[go_sem,simprocAttr]
 refine aW [] (.cons (.rfl (by rfl)) .nil) (tp (n:=l.length) (row:=bC l) hl (λi j _ _=>rfl)) ?_ ?_
 ·simp only[go_sem,simprocAttr]
 simp only[go_sem,simprocAttr]
 refine⟨az [(1,.n .i64 n)],WP.of (λp hp=>?_),95,[],[],[.os 0 l.length,.n .i64 n],?_,?_,(I5 l hl n ?_).mono ?_⟩
 ·simp only[List.mem_cons,List.not_mem_nil,or_false] at hp
  subst hp
  exact⟨by simp,by simp only[go_sem,simprocAttr],rfl⟩
 ·simp only[go_sem,simprocAttr]
 ·simp only[go_sem,simprocAttr]
 ·exact .k1
 rintro v H' ⟨rfl,rfl⟩
 simp only[go_sem,simprocAttr]
 repeat first|with_reducible refine aq ?_|simp only[go_sem,simprocAttr]
 rw[<-List.length_append]
 exact⟨[_],rfl,.o (x:=_) (by simp only[go_sem,simprocAttr];rfl) (by rfl) (by rfl) (by rfl) (by decide) (Nat.le_refl _) (Nat.le_refl _) (λi j _ hj=>aJ i j hj) (λi j _ _=>rfl) rfl .nil⟩
/-! ### Form-/
def ol:List (Bool×Int)->Bool
 |[]=>true
 |a::l=>decide (1<=a.2)&&decide (a.2<=65536)&&ol l
def gJ:List (Bool×Int)->Int
 |[]=>0
 |a::l=>a.2+gJ l
theorem jH:∀{la:List (Bool×Int)},ol la=true->0<=gJ la
 |[],_=>Int.le_refl 0
 |a::l,h=>by
  simp only[ol,Bool.and_eq_true,decide_eq_true_eq] at h
  have:=jH h.2
  simp only[gJ];omega
theorem nh:∀(la:List (Bool×Int)) (left:Int),0<=left->left<=65536->jg la left=if ol la=true/\gJ la<=left then 0 else 2
 |[],left,h0,h=>by simp only[jg,ol,gJ,h0,and_self,if_true]
 |a::l,left,h0,h=>by
  simp only[jg]
  by_cases hb:a.2<1\/left<a.2
  ·rw[if_pos hb,if_neg]
   rintro ⟨h1,h2⟩
   simp only[ol,Bool.and_eq_true,decide_eq_true_eq,gJ] at h1 h2
   have:=jH h1.2
   omega
  ·rw[if_neg hb,nh l (left-a.2) (by omega) (by omega)]
   simp only[ol,gJ,Bool.and_eq_true,decide_eq_true_eq]
   by_cases h1:ol l=true/\gJ l<=left-a.2
   ·rw[if_pos h1,if_pos ⟨⟨⟨by omega,by omega⟩,h1.1⟩,by omega⟩]
   ·rw[if_neg h1,if_neg (λh2=>h1 ⟨h2.1.2,by omega⟩)]
theorem rx{la:List (Bool×Int)}{loc:Int}{cs:List (Int×Int)}(h:¬8<la.length)(hb:¬(ol la=true/\gJ la<=65536)):bj la loc cs=2:=by
 have e:da la=2:=by simp only[da,h,if_false];rw[nh la 65536 (by omega) (by omega),if_neg hb]
 simp only[bj,e];rfl
theorem pO{la:List (Bool×Int)}{loc:Int}{cs:List (Int×Int)}(h:¬8<la.length)(hb:ol la=true/\gJ la<=65536):bj la loc cs=if loc<0\/16<loc then 2 else if 1024<cs.length then 6 else co cs:=by
 have e:da la=0:=by simp only[da,h,if_false];rw[nh la 65536 (by omega) (by omega),if_pos hb]
 simp only[bj,e,if_true]
/-! ### the memory-/
def qP:List (Bool×Int)->Int
 |[]=>0
 |a::l=>(if a.1=true then 4*a.2 else a.2)+qP l
def jS(la:List (Bool×Int))(loc:Int):Int:=4*(loc+48)+qP la
theorem pr:∀{la:List (Bool×Int)},ol la=true->0<=qP la/\qP la<=4*gJ la
 |[],_=>⟨Int.le_refl 0,Int.le_refl 0⟩
 |a::l,h=>by
  simp only[ol,Bool.and_eq_true,decide_eq_true_eq] at h
  have:=pr h.2
  simp only[gJ,qP];split<;>omega
theorem oC{la:List (Bool×Int)}{loc:Int}{cs:List (Int×Int)}(h:bj la loc cs=0):ol la=true/\gJ la<=65536/\0<=loc/\loc<=16/\la.length<=8/\cs.length<=1024/\co cs=0:=by
 by_cases h8:8<la.length
 ·simp only[bj,da,h8,if_true] at h;simp at h
 by_cases hb:ol la=true/\gJ la<=65536
 ·rw[pO h8 hb] at h
  split at h
  ·cases h
  ·split at h
   ·cases h
   ·exact⟨hb.1,hb.2,by omega,by omega,by omega,by omega,h⟩
 ·rw[rx h8 hb] at h;cases h
theorem zI(b:Bool):bM Tryz.prog 69 [.b b] [.v (.n .u32 (if b=true then 1 else 0))]:=by
 refine ag aD Uz ⟨by simp,by decide⟩ ?_
 simp only[aE]
 cases b
 ·repeat first|with_reducible refine aq ?_|simp only[go_sem,simprocAttr]
  exact aa rfl rfl
 ·repeat first|with_reducible refine aq ?_|simp only[go_sem,simprocAttr]
  exact aa rfl rfl
def CQ(a:Bool×Int):List Int:=eL (2*a.2+(if a.1=true then 1 else 0))
def JT(i:Int×Int):List Int:=IntKind.u8.wrap i.1::(if lx i.1=true then eL i.2 else[])
def CD(la:List (Bool×Int))(loc:Int)(cs:List (Int×Int)):List Int:=eL la.length++la.flatMap CQ++eL loc++eL cs.length++cs.flatMap JT
theorem mU(la:List (Bool×Int))(loc:Int)(cs:List (Int×Int))(hl:la.length<=9223372036854775807)(hc:cs.length<=9223372036854775807)(ha:cF cs)(hf:¬bj la loc cs=0):bM Tryz.prog 38 [aH la loc cs] [.v .sl0,.v (.n .i64 (bj la loc cs))]:=by
 refine ag aD Pj ⟨by simp,by decide⟩ ?_
 simp only[aE,aH]
 repeat first|with_reducible refine aq ?_|simp only[go_sem,simprocAttr]
 refine bS ([aH la loc cs]) (rq la loc cs hl hc ha) ?_
 repeat first|with_reducible refine aq ?_|simp only[hf,ne_eq,not_false_eq_true,decide_true,go_sem,simprocAttr]
 exact⟨[_,_],rfl,⟨rfl,rfl⟩,⟨rfl,rfl⟩,trivial⟩
theorem qM:∀{la:List (Bool×Int)} (k:Nat),ol la=true->ol (la.drop k)=true
 |la,0,h=>h
 |[],k+1,h=>h
 |a::l,k+1,h=>by
  simp only[ol,Bool.and_eq_true] at h
  exact qM k h.2
theorem kj:∀{cs:List (Int×Int)} (k:Nat),co cs=0->co (cs.drop k)=0
 |cs,0,h=>h
 |[],k+1,h=>h
 |i::l,k+1,h=>by
  simp only[co] at h
  split at h
  ·exact kj k h
  ·rename_i g;exact absurd h g
theorem v5{i:Int×Int}(h:dW i=0):0<=i.1/\i.1<36:=by
 unfold dW at h
 split at h
 ·cases h
 ·omega
theorem lr(la:List (Bool×Int))(loc:Int)(cs:List (Int×Int))(ha:cF cs)(hf:bj la loc cs=0):bM Tryz.prog 38 [aH la loc cs] [.o 5 1 (CD la loc cs).length 0 (bC (CD la loc cs)),.v (.n .i64 0)]:=by
 obtain⟨f1,f2,f3,f4,f5,f6,f7⟩:=oC hf
 refine ag aD Pj ⟨by simp,by decide⟩ ?_
 simp only[aE,aH]
 repeat first|with_reducible refine aq ?_|simp only[go_sem,simprocAttr]
 refine bS ([aH la loc cs]) (rq la loc cs (by omega) (by omega) ha) ?_
 repeat first|with_reducible refine aq ?_|simp only[hf,ne_eq,not_true_eq_false,decide_false,go_sem,simprocAttr]
 refine aW [] (fargs:=[.fs 1 ([]:List Int).length (bC []),.n .i64 la.length]) (.cons (.sl0 _ _) (.cons (.rfl rfl) .nil)) (eX [] (by decide) la.length) ?_ ?_
 ·simp only[go_sem,simprocAttr]
 repeat first|with_reducible refine aq ?_|simp only[go_sem,simprocAttr]
 have b0:=fV (la.length:Int)
 have b1:=fV loc
 have b2:=fV (cs.length:Int)
 refine GA.loop (I:=λm e H=>∃(k:Nat) (xs:List Int),m=la.length-k/\k<=la.length/\xs++(la.drop k).flatMap CQ=eL la.length++la.flatMap CQ/\xs.length<=8+8*k/\gJ (la.drop k)<=65536/\e=az [(1,.p 0 0),(5,.os 1 xs.length),(22,.fs 2 la.length (pA la)),(23,.n .i64 la.length),(24,.n .i64 k)]/\H=ah [ai 5 1 xs.length 0 (bC xs),ae 0 25 [.fs 2 la.length (pA la),.n .i64 loc,.fs 2 cs.length (pI cs)]]) (Wk.mk [1,0] [] ?_ ?_ ?_) ⟨0,eL la.length,rfl,by omega,rfl,by omega,f2,rfl,rfl⟩ ?_
 ·exact a8
 ·exact .cr .k1 (.cr .ls .nil)
 ·simp
 rintro m e H ⟨k,xs,rfl,hk,hs,hxl,hsum,rfl,rfl⟩
 repeat first|with_reducible refine aq ?_|simp only[go_sem,simprocAttr]
 refine⟨λh=>?_,λh=>?_⟩
 ·have hk':k<la.length:=by omega
  have h0:(0:Int)<=(k:Int):=by omega
  have hok:=qM k f1
  rw[cE (d:=(false,0)) hk'] at hs hsum hok
  simp only[ol,gJ,List.flatMap_cons,Bool.and_eq_true,decide_eq_true_eq] at hs hsum hok
  have hp:=jH hok.2
  have bx:=fV (2*(la.getD k (false,0)).2+(if(la.getD k (false,0)).1=true then 1 else 0))
  have v1:IntKind.i64.wrap (2*(la.getD k (false,0)).2)=2*(la.getD k (false,0)).2:=aj (by omega)
  have v2:IntKind.i64.wrap (if(la.getD k (false,0)).1=true then 1 else 0)=(if(la.getD k (false,0)).1=true then 1 else 0):=aj (by split<;>omega)
  have v3:IntKind.i64.wrap (2*(la.getD k (false,0)).2+(if(la.getD k (false,0)).1=true then 1 else 0))=2*(la.getD k (false,0)).2+(if(la.getD k (false,0)).1=true then 1 else 0):=aj (by split<;>omega)
  repeat first|with_reducible refine aq ?_|simp only[h0,h,AN,AM,v1,go_sem,simprocAttr]
  refine bS ([.b (la.getD k (false,0)).1]) (zI _) ?_
  repeat first|with_reducible refine aq ?_|simp only[v1,v2,v3,go_sem,simprocAttr]
  refine aW [1] (.cons (.ownb (ty:=5) (z:=0) (by simp only[go_sem,simprocAttr]) (λi j _ _=>rfl) (by simp)) (.cons (.rfl rfl) .nil)) (eX xs (by omega) (2*(la.getD k (false,0)).2+(if(la.getD k (false,0)).1=true then 1 else 0))) ?_ ?_
  ·simp only[go_sem,simprocAttr]
  repeat first|with_reducible refine aq ?_|simp only[go_sem,simprocAttr]
  refine⟨_,_,_,?_,Wk.mk [3,0] [] ?_ ?_ ?_,k+1,xs++eL (2*(la.getD k (false,0)).2+(if(la.getD k (false,0)).1=true then 1 else 0)),rfl,by omega,by rw[<-hs];simp only[CQ,List.append_assoc],by simp only[List.length_append];omega,by omega,rfl,rfl⟩
  ·omega
  ·simp only[eo,cQ,List.length_append,go_sem,simprocAttr]
   repeat' refine aY ?_ ?_
   all_goals first|exact i8|skip
  ·refine .cr (.rows (x:=_) (by simp only[go_sem,simprocAttr];rfl) (by rfl) (by rfl) (by rfl) ?_ (Nat.le_refl _) (by decide) (λi j _ hj=>aJ i j hj) (λi j _ _=>rfl)) (.cr .ls .nil)
   simp only[go_sem,simprocAttr,List.length_append,Nat.le_refl]
  ·simp
 have:k=la.length:=by omega
 subst this
 rw[List.drop_length,List.flatMap_nil,List.append_nil] at hs
 have hxs:xs.length<=72:=by omega
 have ln:(xs++eL loc).length<=80:=by simp only[List.length_append];omega
 repeat first|with_reducible refine aq ?_|simp only[go_sem,simprocAttr]
 refine aW [1] (.cons (.ownb (ty:=5) (z:=0) (by simp only[go_sem,simprocAttr]) (λi j _ _=>rfl) (by simp)) (.cons (.rfl rfl) .nil)) (eX xs (by omega) loc) ?_ ?_
 ·simp only[go_sem,simprocAttr]
 repeat first|with_reducible refine aq ?_|simp only[go_sem,simprocAttr]
 rw[<-List.length_append]
 refine aW [2] (.cons (.ownb (ty:=5) (z:=0) (by simp only[go_sem,simprocAttr]) (λi j _ _=>rfl) (by simp)) (.cons (.rfl rfl) .nil)) (eX (xs++eL loc) (by omega) cs.length) ?_ ?_
 ·simp only[go_sem,simprocAttr]
 repeat first|with_reducible refine aq ?_|simp only[go_sem,simprocAttr]
 have hX:(xs++eL loc++eL cs.length).length<=88:=by simp only[List.length_append] at ln ⊢;omega
 refine GA.loop (I:=λm e H=>∃(k:Nat) (xs:List Int),m=cs.length-k/\k<=cs.length/\xs++(cs.drop k).flatMap JT=CD la loc cs/\xs.length<=88+9*k/\e=az [(5,.os 0 xs.length),(48,.fs 2 cs.length (pI cs)),(49,.n .i64 cs.length),(50,.n .i64 k)]/\H=ah [ai 5 1 xs.length 0 (bC xs)]) (Wk.mk [3] [] ?_ ?_ ?_) ⟨0,xs++eL loc++eL cs.length,rfl,by omega,by rw[hs];simp only[CD,List.drop_zero],by omega,rfl,rfl⟩ ?_
 ·simp only[eo,cQ,List.length_append,go_sem,simprocAttr]
  repeat' refine aY ?_ ?_
  all_goals first|exact i8|skip
 ·refine .cr (.rows (x:=_) (by simp only[go_sem,simprocAttr];rfl) (by rfl) (by rfl) (by rfl) ?_ (Nat.le_refl _) (by decide) (λi j _ hj=>aJ i j hj) (λi j _ _=>rfl)) .nil
  simp only[go_sem,simprocAttr,List.length_append,Nat.le_refl]
 ·simp
 clear hs hxs ln hX hxl xs
 rintro m e H ⟨k,xs,rfl,hk,hs,hxl,rfl,rfl⟩
 repeat first|with_reducible refine aq ?_|simp only[go_sem,simprocAttr]
 refine⟨λh=>?_,λh=>?_⟩
 ·have hk':k<cs.length:=by omega
  have h0:(0:Int)<=(k:Int):=by omega
  have hok:=kj k f7
  have hm:=ha _ (eS (d:=(0,0)) hk')
  rw[cE (d:=(0,0)) hk'] at hs hok
  simp only[co,List.flatMap_cons] at hs hok
  have hi:dW (cs.getD k (0,0))=0:=by
   by_cases g:dW (cs.getD k (0,0))=0
   ·exact g
   ·rw[if_neg g] at hok;exact hok
  obtain⟨g1,g2⟩:=v5 hi
  obtain⟨op,hop⟩:∃op:Nat,(cs.getD k (0,0)).1=op:=⟨(cs.getD k (0,0)).1.toNat,by omega⟩
  obtain⟨na,nb,nc,hkn⟩:=mE op (by omega)
  have bx:=fV (cs.getD k (0,0)).2
  have v1:IntKind.i64.wrap (cs.getD k (0,0)).2=(cs.getD k (0,0)).2:=aj (by omega)
  have hlim:(xs.length+1)*1<1099511627776/\xs.length+1<1099511627776/\(xs.length+1)*1<=140737488355328/\xs.length+1<=140737488355328/\xs.length+1<=9223372036854775807:=by omega
  have hg:=pY (x:=IntKind.u8.wrap op) (l:=xs) (by omega)
  simp only[Nat.mul_one] at hg
  have hl1:(xs++[IntKind.u8.wrap op]).length=xs.length+1:=by simp
  simp only[JT,hop] at hs
  repeat first|with_reducible refine aq ?_|simp only[h0,h,cS,pj,hop,hlim.1,hlim.2.1,hlim.2.2.1,hlim.2.2.2.1,hlim.2.2.2.2,decide_true,go_sem,simprocAttr]
  refine bS ([.n .i64 op]) hkn ?_
  simp only[WZ]
  cases hA:lx op
  ·simp only[hA,Bool.false_eq_true,if_false] at hs
   repeat first|with_reducible refine aq ?_|simp only[hA,go_sem,simprocAttr]
   refine⟨_,_,_,?_,Wk.mk [3] [] ?_ ?_ ?_,k+1,xs++[IntKind.u8.wrap op],rfl,by omega,by rw[<-hs];simp,by rw[hl1];omega,rfl,rfl⟩
   ·omega
   ·simp only[eo,cQ,hl1,go_sem,simprocAttr]
    repeat' refine aY ?_ ?_
    all_goals first|exact i8|skip
   ·refine .cr (.rows (x:=_) (by simp only[go_sem,simprocAttr];rfl) (by rfl) (by rfl) (by rfl) ?_ (Nat.le_refl _) (by decide) ?_ (λi j _ _=>rfl)) .nil
    ·simp only[go_sem,simprocAttr,hl1]
    ·simp only[go_sem,simprocAttr,hl1,Nat.mul_one]
     exact hg
   ·simp
  ·simp only[hA,if_true] at hs
   repeat first|with_reducible refine aq ?_|simp only[hA,go_sem,simprocAttr]
   rw[<-hl1]
   refine aW [3] (.cons (.os (x:=_) (by simp) (by simp only[go_sem,simprocAttr];rfl) ?_ ?_ (λi j _ _=>rfl)) (.cons (.rfl rfl) .nil)) (eX (xs++[IntKind.u8.wrap op]) (by omega) (IntKind.i64.wrap (cs.getD k (0,0)).2)) ?_ ?_
   ·simp only[go_sem,simprocAttr,hl1,Nat.le_refl]
   ·simp only[go_sem,simprocAttr,hl1,Nat.mul_one]
    exact hg
   ·simp only[go_sem,simprocAttr]
   rw[v1]
   repeat first|with_reducible refine aq ?_|simp only[go_sem,simprocAttr]
   refine⟨_,_,_,?_,Wk.mk [5] [] ?_ ?_ ?_,k+1,xs++[IntKind.u8.wrap op]++eL (cs.getD k (0,0)).2,rfl,by omega,by rw[<-hs];simp,by rw[List.length_append,hl1];omega,rfl,rfl⟩
   ·omega
   ·simp only[eo,cQ,List.length_append,go_sem,simprocAttr]
    repeat' refine aY ?_ ?_
    all_goals first|exact i8|skip
   ·refine .cr (.rows (x:=_) (by simp only[go_sem,simprocAttr];rfl) (by rfl) (by rfl) (by rfl) ?_ (Nat.le_refl _) (by decide) (λi j _ hj=>aJ i j hj) (λi j _ _=>rfl)) .nil
    simp only[go_sem,simprocAttr,List.length_append,Nat.le_refl]
   ·simp
 ·repeat first|with_reducible refine aq ?_|simp only[go_sem,simprocAttr]
  have:k=cs.length:=by omega
  subst this
  rw[List.drop_length,List.flatMap_nil,List.append_nil] at hs
  subst hs
  exact⟨[_,_],rfl,.o (x:=_) (by simp only[go_sem,simprocAttr];rfl) (by rfl) (by rfl) (by rfl) (by decide) (Nat.le_refl _) (Nat.le_refl _) (λi j _ hj=>aJ i j hj) (λi j _ _=>rfl) rfl (.v rfl rfl .nil)⟩
theorem mA(la:List (Bool×Int))(loc:Int)(cs:List (Int×Int))(hl:la.length<=9223372036854775807)(hc:cs.length<=9223372036854775807)(ha:cF cs):bM Tryz.prog 15 [aH la loc cs] [.v (.n .i64 (if bj la loc cs=0 then jS la loc else 0)),.v (.n .i64 (bj la loc cs))]:=by
 refine ag aD Nq ⟨by simp,by decide⟩ ?_
 simp only[aE,aH]
 repeat first|with_reducible refine aq ?_|simp only[go_sem,simprocAttr]
 by_cases hf:bj la loc cs=0
 rotate_left
 ·refine bS ([aH la loc cs]) (mU la loc cs hl hc ha hf) ?_
  repeat first|with_reducible refine aq ?_|simp only[hf,ne_eq,not_false_eq_true,decide_true,go_sem,simprocAttr]
  exact⟨[_,_],rfl,⟨rfl,rfl⟩,⟨rfl,rfl⟩,trivial⟩
 refine bS ([aH la loc cs]) (lr la loc cs ha hf) ?_
 obtain⟨f1,f2,f3,f4,f5,f6,f7⟩:=oC hf
 have f0:=pr f1
 have w1:IntKind.i64.wrap (loc+32)=loc+32:=aj (by omega)
 have w2:IntKind.i64.wrap (loc+32+16)=loc+32+16:=aj (by omega)
 have w3:IntKind.i64.wrap (4*(loc+32+16))=4*(loc+32+16):=aj (by omega)
 repeat first|with_reducible refine aq ?_|simp only[hf,w1,w2,w3,ne_eq,not_true_eq_false,decide_false,go_sem,simprocAttr]
 refine GA.loop (I:=λm e H=>∃(k:Nat) (s:Int),m=la.length-k/\k<=la.length/\ol (la.drop k)=true/\jS la loc=s+qP (la.drop k)/\gJ (la.drop k)<=65536/\0<=s/\s<=1000000/\e=az [(6,.n .i64 s),(24,.fs 2 la.length (pA la)),(25,.n .i64 la.length),(26,.n .i64 k)]/\H=ah []) (Wk.mk [] [] ?_ ?_ ?_) ⟨0,4*(loc+32+16),rfl,by omega,f1,by simp only[jS,List.drop_zero];omega,f2,by omega,by omega,rfl,rfl⟩ ?_
 ·exact a8
 ·exact .nil
 ·simp
 rintro m e H ⟨k,s,rfl,hk,hs,hs2,hs5,hs0,hs1,rfl,rfl⟩
 repeat first|with_reducible refine aq ?_|simp only[go_sem,simprocAttr]
 refine⟨λh=>?_,λh=>?_⟩
 ·have hk':k<la.length:=by omega
  have h0:(0:Int)<=(k:Int):=by omega
  rw[cE (d:=(false,0)) hk'] at hs hs2 hs5
  simp only[ol,qP,gJ,Bool.and_eq_true,decide_eq_true_eq] at hs hs2 hs5
  have hm:=pr hs.2
  have hp:=jH hs.2
  have hM:jS la loc<=1000000:=by simp only[jS];omega
  cases hw:(la.getD k (false,0)).1
  ·have v2:IntKind.i64.wrap (s+(la.getD k (false,0)).2)=s+(la.getD k (false,0)).2:=aj (by omega)
   rw[hw] at hs2
   simp only[Bool.false_eq_true,if_false] at hs2
   repeat first|with_reducible refine aq ?_|simp only[h0,h,AN,AM,hw,v2,go_sem,simprocAttr]
   refine⟨_,_,_,?_,Wk.mk [] [] ?_ ?_ ?_,k+1,s+(la.getD k (false,0)).2,rfl,by omega,hs.2,by omega,by omega,by omega,by omega,rfl,rfl⟩
   ·omega
   ·exact a8
   ·exact .nil
   ·simp
  ·have v1:IntKind.i64.wrap ((la.getD k (false,0)).2*4)=(la.getD k (false,0)).2*4:=aj (by omega)
   have v2:IntKind.i64.wrap (s+(la.getD k (false,0)).2*4)=s+(la.getD k (false,0)).2*4:=aj (by omega)
   rw[hw] at hs2
   simp only[if_true] at hs2
   repeat first|with_reducible refine aq ?_|simp only[h0,h,AN,AM,hw,v1,v2,go_sem,simprocAttr]
   refine⟨_,_,_,?_,Wk.mk [] [] ?_ ?_ ?_,k+1,s+(la.getD k (false,0)).2*4,rfl,by omega,hs.2,by omega,by omega,by omega,by omega,rfl,rfl⟩
   ·omega
   ·exact a8
   ·exact .nil
   ·simp
 ·repeat first|with_reducible refine aq ?_|simp only[go_sem,simprocAttr]
  have:k=la.length:=by omega
  subst this
  rw[List.drop_length] at hs2
  simp only[qP,Int.add_zero] at hs2
  exact⟨[_,_],rfl,⟨by rw[hs2],rfl⟩,⟨rfl,rfl⟩,trivial⟩
def tC(l:List Bool)(i _j:Nat):AV:= .b (l.getD i false)
theorem tC0(l:List Bool)(i j:Nat):tC l i j= .b (l.getD i false):=rfl
def xd:List (Int×Int)->List Bool->Int->Int
 |[],_,lo=>lo
 |i::l,st,lo=>if 3<lo then lo else if i.1=29 then xd l (st++[true]) (lo+1) else if i.1=27 then xd l (st++[false]) lo else if i.1=31 then(if st.length=0 then xd l st lo else xd l (st.take (st.length-1)) (if st.getD (st.length-1) false=true then lo-1 else lo)) else xd l st lo
theorem zm{l l':List Bool}{i:Nat}(h:i<l.length):(l++l').getD i false=l.getD i false:=by
 simp[List.getD_eq_getElem?_getD,List.getElem?_append_left h]
theorem zo{l:List Bool}{x:Bool}:(l++[x]).getD l.length false=x:=by
 simp[List.getD_eq_getElem?_getD]
theorem tS{l:List Bool}{x:Bool}(hl:l.length<1100000):∀i j,i<l.length+1->j<1->((ai 4 1 l.length 0 (tC l)).app (l.length*1) (.li [.b x])).get (i*1+j)=tC (l++[x]) i j:=
 ma rfl (by omega) (λi j hi _=>by unfold tC;rw[zm hi]) (λj hj=>by
  obtain rfl:j=0:=by omega
  unfold tC
  rw[zo]
  rfl)
theorem qy(cs:List (Int×Int))(hc:cs.length<=200):bM Tryz.prog 19 [.fs 2 cs.length (pI cs)] [.v (.b (decide (xd cs [] 0<=3)))]:=by
 refine ag aD Mo ⟨by simp,by decide⟩ ?_
 simp only[aE]
 repeat first|with_reducible refine aq ?_|simp only[go_sem,simprocAttr]
 refine GA.wk (Wk.nil 3 1 4 (by simp only[go_sem,simprocAttr]) (by decide) (by simp only[go_sem,simprocAttr])) ?_
 simp only[kf]
 refine GA.loop (I:=λm e H=>∃(k:Nat) (st:List Bool) (lo:Int),m=cs.length-k/\k<=cs.length/\xd cs [] 0=xd (cs.drop k) st lo/\st.length<=k/\ -200<=lo+k/\lo<=k/\e=az [(0,.fs 2 cs.length (pI cs)),(3,.os 0 st.length),(4,.n .i64 lo),(5,.n .i64 k)]/\H=ah [ai 4 1 st.length 0 (tC st)]) (Wk.mk [0] [] ?_ ?_ ?_) ⟨0,[],0,rfl,by omega,rfl,by simp,by omega,by omega,rfl,rfl⟩ ?_
 ·exact a8
 ·exact .cr (.r1) .nil
 ·simp
 rintro m e H ⟨k,st,lo,rfl,hk,hs,hsl,hlo,hlo2,rfl,rfl⟩
 have h0:(0:Int)<=(k:Int):=by omega
 by_cases h:(k:Int)<cs.length
 rotate_left
 ·repeat first|with_reducible refine aq ?_|simp only[h,decide_false,go_sem,simprocAttr]
  have:k=cs.length:=by omega
  subst this
  rw[List.drop_length,xd] at hs
  exact aa (by rw[hs]) rfl
 have hk':k<cs.length:=by omega
 rw[cE (d:=(0,0)) hk',xd] at hs
 by_cases h3:3<lo
 ·rw[if_pos h3] at hs
  have h3':¬lo<=3:=by omega
  repeat first|with_reducible refine aq ?_|simp only[h,h3',decide_true,decide_false,go_sem,simprocAttr]
  exact aa (by rw[hs,decide_eq_false h3']) rfl
 rw[if_neg h3] at hs
 have h3':lo<=3:=by omega
 have hlim:(st.length+1)*1<1099511627776/\st.length+1<1099511627776/\(st.length+1)*1<=140737488355328/\st.length+1<=140737488355328/\st.length+1<=9223372036854775807:=by omega
 by_cases e1:(cs.getD k (0,0)).1=29
 ·rw[if_pos e1] at hs
  have hg:=tS (x:=true) (l:=st) (by omega)
  simp only[Nat.mul_one] at hg
  have hl1:(st++[true]).length=st.length+1:=by simp
  repeat first|with_reducible refine aq ?_|simp only[h,h0,h3',cS,pj,e1,decide_true,hlim.1,hlim.2.1,hlim.2.2.1,hlim.2.2.2.1,hlim.2.2.2.2,go_sem,simprocAttr]
  refine⟨_,_,_,?_,Wk.mk [2] [] ?_ ?_ ?_,k+1,st++[true],lo+1,rfl,by omega,hs,by rw[hl1];omega,by omega,by omega,rfl,rfl⟩
  ·omega
  ·simp only[eo,cQ,hl1,go_sem,simprocAttr]
   repeat' refine aY ?_ ?_
   all_goals first|exact i8|skip
  ·refine .cr (.rows (x:=_) (by simp only[go_sem,simprocAttr];rfl) (by rfl) (by rfl) (by rfl) ?_ (Nat.le_refl _) (by decide) ?_ (λi j _ _=>rfl)) .nil
   ·simp only[go_sem,simprocAttr,hl1]
   ·simp only[go_sem,simprocAttr,hl1,Nat.mul_one]
    exact hg
  ·simp
 rw[if_neg e1] at hs
 by_cases e2:(cs.getD k (0,0)).1=27
 ·rw[if_pos e2] at hs
  have hg:=tS (x:=false) (l:=st) (by omega)
  simp only[Nat.mul_one] at hg
  have hl1:(st++[false]).length=st.length+1:=by simp
  repeat first|with_reducible refine aq ?_|simp only[h,h0,h3',cS,pj,e1,e2,decide_true,decide_false,hlim.1,hlim.2.1,hlim.2.2.1,hlim.2.2.2.1,hlim.2.2.2.2,go_sem,simprocAttr]
  refine⟨_,_,_,?_,Wk.mk [2] [] ?_ ?_ ?_,k+1,st++[false],lo,rfl,by omega,hs,by rw[hl1];omega,by omega,by omega,rfl,rfl⟩
  ·omega
  ·simp only[eo,cQ,hl1,go_sem,simprocAttr]
   repeat' refine aY ?_ ?_
   all_goals first|exact i8|skip
  ·refine .cr (.rows (x:=_) (by simp only[go_sem,simprocAttr];rfl) (by rfl) (by rfl) (by rfl) ?_ (Nat.le_refl _) (by decide) ?_ (λi j _ _=>rfl)) .nil
   ·simp only[go_sem,simprocAttr,hl1]
   ·simp only[go_sem,simprocAttr,hl1,Nat.mul_one]
    exact hg
  ·simp
 rw[if_neg e2] at hs
 by_cases e3:(cs.getD k (0,0)).1=31
 rotate_left
 ·rw[if_neg e3] at hs
  repeat first|with_reducible refine aq ?_|simp only[h,h0,h3',cS,pj,e1,e2,e3,decide_true,decide_false,go_sem,simprocAttr]
  refine⟨_,_,_,?_,Wk.mk [0] [] ?_ ?_ ?_,k+1,st,lo,rfl,by omega,hs,by omega,by omega,by omega,rfl,rfl⟩
  ·omega
  ·exact a8
  ·exact .cr .k1 .nil
  ·simp
 rw[if_pos e3] at hs
 by_cases e4:st.length=0
 ·rw[if_pos e4] at hs
  have w1:IntKind.i64.wrap ((st.length:Int)-1)=(st.length:Int)-1:=aj (by omega)
  have g1:¬(0:Int)<=(st.length:Int)-1:=by omega
  repeat first|with_reducible refine aq ?_|simp only[h,h0,h3',cS,pj,e1,e2,e3,w1,g1,ge_iff_le,decide_true,decide_false,go_sem,simprocAttr]
  refine⟨_,_,_,?_,Wk.mk [0] [] ?_ ?_ ?_,k+1,st,lo,rfl,by omega,hs,by omega,by omega,by omega,rfl,rfl⟩
  ·omega
  ·exact a8
  ·exact .cr .k1 .nil
  ·simp
 rw[if_neg e4] at hs
 obtain⟨n,hn⟩:∃n,st.length=n+1:=⟨st.length-1,by omega⟩
 have w1:IntKind.i64.wrap (((n+1:Nat):Int)-1)=(n:Int):=(aj (by omega)).trans (by omega)
 have g1:(0:Int)<=(n:Int):=by omega
 have g2:(n:Int)<(n+1:Nat):=by omega
 rw[hn,Nat.add_sub_cancel] at hs
 have hl1:(st.take n).length=n:=by rw[List.length_take];omega
 have g3:n<n+1:=Nat.lt_succ_self n
 have g4:(ai 4 1 (n+1) 0 (tC st)).get n= .b (st.getD n false):=by
  have:=aJ (ty:=4) (esz:=1) (n:=n+1) (z:=0) (row:=tC st) n 0 (by decide)
  rw[Nat.mul_one,Nat.add_zero] at this
  exact this
 have g5:(n:Int)<=(n+1:Nat):=by omega
 cases hb:st.getD n false
 ·rw[hb] at hs
  simp only[Bool.false_eq_true,if_false] at hs
  repeat first|with_reducible refine aq ?_|simp only[h,h0,h3',cS,pj,e1,e2,e3,w1,g1,g2,g3,g4,g5,hn,tC0,hb,ge_iff_le,decide_true,decide_false,go_sem,simprocAttr]
  refine⟨_,_,_,?_,Wk.mk [0] [] ?_ ?_ ?_,k+1,st.take n,lo,rfl,by omega,hs,by rw[hl1];omega,by omega,by omega,rfl,rfl⟩
  ·omega
  ·simp only[eo,cQ,hl1,go_sem,simprocAttr]
   repeat' refine aY ?_ ?_
   all_goals first|exact i8|skip
  ·refine .cr (.rows (x:=_) (by simp only[go_sem,simprocAttr];rfl) (by rfl) (by rfl) (by rfl) ?_ (Nat.le_refl _) (by decide) ?_ (λi j _ _=>rfl)) .nil
   ·simp only[go_sem,simprocAttr,hl1];omega
   ·intro i j hi hj
    rw[hl1] at hi
    simp only[go_sem,simprocAttr]
    have hq:=aJ (ty:=4) (esz:=1) (n:=n+1) (z:=0) (row:=tC st) i j hj
    rw[Nat.mul_one] at hq
    rw[hq]
    unfold tC
    simp[List.getD_eq_getElem?_getD,List.getElem?_take,hi]
  ·simp
 ·rw[hb] at hs
  simp only[if_true] at hs
  have w2:IntKind.i64.wrap (lo-1)=lo-1:=aj (by omega)
  repeat first|with_reducible refine aq ?_|simp only[h,h0,h3',cS,pj,e1,e2,e3,w1,w2,g1,g2,g3,g4,g5,hn,tC0,hb,ge_iff_le,decide_true,decide_false,go_sem,simprocAttr]
  refine⟨_,_,_,?_,Wk.mk [0] [] ?_ ?_ ?_,k+1,st.take n,lo-1,rfl,by omega,hs,by rw[hl1];omega,by omega,by omega,rfl,rfl⟩
  ·omega
  ·simp only[eo,cQ,hl1,go_sem,simprocAttr]
   repeat' refine aY ?_ ?_
   all_goals first|exact i8|skip
  ·refine .cr (.rows (x:=_) (by simp only[go_sem,simprocAttr];rfl) (by rfl) (by rfl) (by rfl) ?_ (Nat.le_refl _) (by decide) ?_ (λi j _ _=>rfl)) .nil
   ·simp only[go_sem,simprocAttr,hl1];omega
   ·intro i j hi hj
    rw[hl1] at hi
    simp only[go_sem,simprocAttr]
    have hq:=aJ (ty:=4) (esz:=1) (n:=n+1) (z:=0) (row:=tC st) i j hj
    rw[Nat.mul_one] at hq
    rw[hq]
    unfold tC
    simp[List.getD_eq_getElem?_getD,List.getElem?_take,hi]
  ·simp
/-! ### Few-/
def Jr:List (Bool×Int)->Bool
 |[]=>true
 |a::l=>if 300<a.2/\a.2<=65536 then false else Jr l
def nJ(la:List (Bool×Int))(cs:List (Int×Int)):Bool:=decide (la.length<=20)&&decide (cs.length<=200)&&decide (xd cs [] 0<=3)&&Jr la
theorem Cu(la:List (Bool×Int))(loc:Int)(cs:List (Int×Int)):bM Tryz.prog 8 [aH la loc cs] [.v (.b (nJ la cs))]:=by
 refine ag aD MJ ⟨by simp,by decide⟩ ?_
 simp only[aE,aH]
 by_cases h1:20<la.length
 ·have h1':(20:Int)<(la.length:Int):=by omega
  have e:nJ la cs=false:=by simp only[nJ,decide_eq_false (show ¬la.length<=20 by omega),Bool.false_and]
  repeat first|with_reducible refine aq ?_|simp only[h1',gt_iff_lt,decide_true,go_sem,simprocAttr]
  exact aa (by rw[e]) rfl
 have h1':¬(20:Int)<(la.length:Int):=by omega
 by_cases h2:200<cs.length
 ·have h2':(200:Int)<(cs.length:Int):=by omega
  have e:nJ la cs=false:=by simp only[nJ,decide_eq_false (show ¬cs.length<=200 by omega),Bool.false_and,Bool.and_false]
  repeat first|with_reducible refine aq ?_|simp only[h1',h2',gt_iff_lt,decide_true,decide_false,go_sem,simprocAttr]
  exact aa (by rw[e]) rfl
 have h2':¬(200:Int)<(cs.length:Int):=by omega
 repeat first|with_reducible refine aq ?_|simp only[h1',h2',gt_iff_lt,decide_false,go_sem,simprocAttr]
 refine bS ([.fs 2 cs.length (pI cs)]) (qy cs (by omega)) ?_
 by_cases h3:xd cs [] 0<=3
 rotate_left
 ·have e:nJ la cs=false:=by simp only[nJ,decide_eq_false h3,Bool.false_and,Bool.and_false]
  repeat first|with_reducible refine aq ?_|simp only[h3,decide_false,go_sem,simprocAttr]
  exact aa (by rw[e]) rfl
 have e:nJ la cs=Jr la:=by simp only[nJ,decide_eq_true h3,decide_eq_true (show la.length<=20 by omega),decide_eq_true (show cs.length<=200 by omega),Bool.true_and]
 repeat first|with_reducible refine aq ?_|simp only[h3,decide_true,go_sem,simprocAttr]
 refine GA.loop (I:=λm e H=>∃(k:Nat),m=la.length-k/\k<=la.length/\Jr la=Jr (la.drop k)/\e=az [(1,.p 0 0),(3,.n .i64 k)]/\H=ah [ae 0 25 [.fs 2 la.length (pA la),.n .i64 loc,.fs 2 cs.length (pI cs)]]) (Wk.mk [0] [] ?_ ?_ ?_) ⟨0,rfl,by omega,rfl,rfl,rfl⟩ ?_
 ·exact a8
 ·exact .cr .ls .nil
 ·simp
 rintro m e H ⟨k,rfl,hk,hs,rfl,rfl⟩
 have h0:(0:Int)<=(k:Int):=by omega
 by_cases h:(k:Int)<la.length
 rotate_left
 ·repeat first|with_reducible refine aq ?_|simp only[h,decide_false,go_sem,simprocAttr]
  have:k=la.length:=by omega
  subst this
  rw[List.drop_length,Jr] at hs
  exact aa (by rw[e,hs]) rfl
 have hk':k<la.length:=by omega
 rw[cE (d:=(false,0)) hk',Jr] at hs
 by_cases g1:300<(la.getD k (false,0)).2
 rotate_left
 ·rw[if_neg (λq=>g1 q.1)] at hs
  repeat first|with_reducible refine aq ?_|simp only[h,h0,AN,AM,g1,gt_iff_lt,decide_true,decide_false,go_sem,simprocAttr]
  refine⟨_,_,_,?_,Wk.mk [0] [] ?_ ?_ ?_,k+1,rfl,by omega,hs,rfl,rfl⟩
  ·omega
  ·exact a8
  ·exact .cr .ls .nil
  ·simp
 by_cases g2:(la.getD k (false,0)).2<=65536
 ·rw[if_pos ⟨g1,g2⟩] at hs
  repeat first|with_reducible refine aq ?_|simp only[h,h0,AN,AM,g1,g2,gt_iff_lt,decide_true,go_sem,simprocAttr]
  exact aa (by rw[e,hs]) rfl
 ·rw[if_neg (λq=>g2 q.2)] at hs
  repeat first|with_reducible refine aq ?_|simp only[h,h0,AN,AM,g1,g2,gt_iff_lt,decide_true,decide_false,go_sem,simprocAttr]
  refine⟨_,_,_,?_,Wk.mk [0] [] ?_ ?_ ?_,k+1,rfl,by omega,hs,rfl,rfl⟩
  ·omega
  ·exact a8
  ·exact .cr .ls .nil
  ·simp
end Go.Proofs.YtdpkgnmmikebdaaGreat