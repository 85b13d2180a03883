/- A part of the proof of CostBounds: CmA CmC CmB CmD CmE. No condition. -/
import Derived.Test.YthehakngpbjgjaaGreatGd23
import Derived.Test.YthehakngpbjgjaaGreatGd18
import Derived.Test.YthehakngpbjgjaaGreatGd17
set_option linter.unusedSimpArgs false
set_option linter.unusedVariables false
set_option linter.constructorNameAsVariable false
set_option maxRecDepth 100000
set_option maxHeartbeats 4000000
namespace Go.Proofs.YthehakngpbjgjaaGreat
open Go.RowKit
def pA(l:List (Bool×Int))(i j:Nat):AV:=if j=0 then .b (l.getD i (false,0)).1 else .n .i64 (l.getD i (false,0)).2
def pI(l:List (Int×Int))(i j:Nat):AV:=if j=0 then .n .i64 (l.getD i (0,0)).1 else .n .u32 (l.getD i (0,0)).2
theorem um(l:List (Bool×Int))(i:Nat):pA l i 0= .b (l.getD i (false,0)).1:=rfl
theorem ul(l:List (Bool×Int))(i:Nat):pA l i 1= .n .i64 (l.getD i (false,0)).2:=rfl
theorem bp(l:List (Int×Int))(i:Nat):pI l i 0= .n .i64 (l.getD i (0,0)).1:=rfl
theorem ja(l:List (Int×Int))(i:Nat):pI l i 1= .n .u32 (l.getD i (0,0)).2:=rfl
def aL(la:List (Bool×Int))(loc:Int)(cs:List (Int×Int)):AV:= .agg [.fs 2 la.length (pA la),.n .i64 loc,.fs 2 cs.length (pI cs)]
theorem bU{α:Type}{d:α}{l:List α}{k:Nat}(h:k<l.length):l.drop k=l.getD k d::l.drop (k+1):=by
 rw[List.drop_eq_getElem_cons h,List.getD_eq_getElem?_getD,List.getElem?_eq_getElem h];rfl
/-! ### the table of operations-/
def fQ(k:Int):Int:=if k=0 then 4294967296 else if k=1\/k=2 then 16 else if k=3\/k=4 then 8 else if k=35 then 16 else 1
def j4(k:Int):Bool:=decide (k<=4)||decide (k=35)
def ry(k:Nat):List AV->Bool
 |[.s _,.s _,.s _,.n .u64 l,.b a]=>decide (l=fQ k)&&a==j4 k
 |_=>false
noncomputable def W5:Bool:=match lw (oH XK.get 3000 20) 79 [] with
 |some (.agg L)=>decide (L.length=180)&&(List.range 36).all λk=>ry k ((L.drop (k*5)).take 5)
 |_=>false
theorem wX:W5=true:=by kernel_rfl
theorem pe{P:Program}{C:bE}(hC:∀B,bz P B C){g:FuncId}{xs:List AV}{v:AV}(h:lw C g xs=some v):cg P g xs [.v v]:=by
 unfold lw at h
 split at h
 ·rename_i v' H' hr
  cases hs:v'.sc 3 with
  |false=>rw[hs] at h;cases h
  |true=>
   rw[hs] at h
   cases h
   exact kA hC hr hs
 ·cases h
theorem rx{k:Nat}{l:List AV}(h:ry k l=true):∃a b c,l=[.s a,.s b,.s c,.n .u64 (fQ k),.b (j4 k)]:=by
 unfold ry at h
 split at h
 ·rename_i a b c l q
  simp only[Bool.and_eq_true,decide_eq_true_eq,beq_iff_eq] at h
  exact⟨a,b,c,by rw[h.1,h.2]⟩
 ·cases h
theorem wW:∃L:List AV,cg Tryz.prog 79 [] [.v (.agg L)]/\L.length=36*5/\∀k:Nat,k<36->∃a b c,(L.drop (k*5)).take 5=[.s a,.s b,.s c,.n .u64 (fQ k),.b (j4 k)]:=by
 have h:=wX
 unfold W5 at h
 split at h
 ·rename_i L hr
  simp only[Bool.and_eq_true,decide_eq_true_eq] at h
  exact⟨L,pe (λB=>kf B am ng 3000 20) hr,h.1,λk hk=>rx (List.all_eq_true.1 h.2 k (List.mem_range.2 hk))⟩
 ·cases h
def X0(a b c:ByteArray)(k:Int):AV:= .agg [.s a,.s b,.s c,.n .u64 (fQ k),.b (j4 k)]
def mg:AV:= .agg [.s ⟨#[]⟩,.s ⟨#[]⟩,.s ⟨#[]⟩,.n .u64 0,.b false]
theorem sK(op:Int)(h:op<0\/36<=op):cg Tryz.prog 50 [.n .i64 op] [.v mg,.v (.b false)]:=by
 refine az am z6 ⟨by simp,by decide⟩ ?_
 simp only[aQ,mg]
 by_cases h0:op<0
 ·repeat first|with_reducible refine ay ?_|simp only[h0,decide_true,go_sem,simprocAttr]
  exact⟨[_,_],rfl,⟨rfl,rfl⟩,⟨rfl,rfl⟩,trivial⟩
 ·have h1:36<=op:=by omega
  repeat first|with_reducible refine ay ?_|simp only[h0,h1,ge_iff_le,decide_true,decide_false,go_sem,simprocAttr]
  exact⟨[_,_],rfl,⟨rfl,rfl⟩,⟨rfl,rfl⟩,trivial⟩
theorem jh(k:Nat)(hk:k<36):∃a b c,cg Tryz.prog 50 [.n .i64 k] [.v (X0 a b c k),.v (.b true)]:=by
 obtain⟨L,hL,hlen,hrow⟩:=wW
 obtain⟨a,b,c,hr⟩:=hrow k hk
 refine⟨a,b,c,?_⟩
 refine az am z6 ⟨by simp,by decide⟩ ?_
 simp only[aQ,X0]
 have h0:¬((k:Int)<0):=by omega
 have h1:¬((36:Int)<=k):=by omega
 have h2:(0:Int)<=(k:Int):=by omega
 have h3:(k:Int)<36:=by omega
 repeat first|with_reducible refine ay ?_|simp only[h0,h1,ge_iff_le,decide_true,decide_false,go_sem,simprocAttr]
 refine ae [] (fargs:=[]) (aV.same rfl) hL ?_ ?_
 ·simp only[go_sem,simprocAttr]
 repeat first|with_reducible refine ay ?_|simp only[hlen,h2,h3,hr,Int.toNat_natCast,and_self,go_sem,simprocAttr]
 exact⟨[_,_],rfl,⟨rfl,rfl⟩,⟨rfl,rfl⟩,trivial⟩
/-! ### an instruction-/
def bZ(i:Int×Int):Int:=if i.1<0\/36<=i.1 then 1 else if fQ i.1<=i.2 then 2 else 0
theorem mU(op arg:Int)(ha:0<=arg)(ha2:arg<4294967296):cg Tryz.prog 76 [.agg [.n .i64 op,.n .u32 arg]] [.v (.n .i64 (bZ (op,arg)))]:=by
 refine az am L7 ⟨by simp,by decide⟩ ?_
 simp only[aQ]
 have hw:IntKind.u64.wrap arg=arg:=by
  unfold IntKind.wrap;simp[IntKind.signed,IntKind.bits];omega
 repeat first|with_reducible refine ay ?_|simp only[go_sem,simprocAttr]
 by_cases h:op<0\/36<=op
 ·refine ae [] (fargs:=[.n .i64 op]) (aV.same rfl) (sK op h) ?_ ?_
  ·simp only[go_sem,simprocAttr]
  simp only[mg]
  repeat first|with_reducible refine ay ?_|simp only[go_sem,simprocAttr]
  exact ai (by simp only[bZ,h,if_true]) rfl
 ·obtain⟨k,rfl⟩:∃k:Nat,op=k:=⟨op.toNat,by omega⟩
  obtain⟨a,b,c,hk⟩:=jh k (by omega)
  refine ae [] (fargs:=[.n .i64 k]) (aV.same rfl) hk ?_ ?_
  ·simp only[go_sem,simprocAttr]
  simp only[X0]
  by_cases h2:fQ k<=arg
  ·repeat first|with_reducible refine ay ?_|simp only[hw,h2,ge_iff_le,decide_true,go_sem,simprocAttr]
   exact ai (by simp only[bZ,h,h2,if_true,if_false]) rfl
  ·repeat first|with_reducible refine ay ?_|simp only[hw,h2,ge_iff_le,decide_false,go_sem,simprocAttr]
   exact ai (by simp only[bZ,h,h2,if_false]) rfl
/-! ### arrays-/
def fS:List (Bool×Int)->Int->Int
 |[],_=>0
 |a::l,left=>if a.2<1\/left<a.2 then 2 else fS l (left-a.2)
def cd(la:List (Bool×Int)):Int:=if 8<la.length then 6 else fS la 65536
theorem nv(la:List (Bool×Int))(hl:la.length<=9223372036854775807):cg Tryz.prog 75 [.fs 2 la.length (pA la)] [.v (.n .i64 (cd la))]:=by
 refine az am Nt ⟨by simp,by decide⟩ ?_
 simp only[aQ]
 by_cases h8:8<la.length
 ·have h8':(8:Int)<(la.length:Int):=by omega
  repeat first|with_reducible refine ay ?_|simp only[h8',gt_iff_lt,decide_true,go_sem,simprocAttr]
  exact ai (by simp only[cd,h8,if_true]) rfl
 have h8':¬(8:Int)<(la.length:Int):=by omega
 have hE:cd la=fS la 65536:=by simp only[cd,h8,if_false]
 repeat first|with_reducible refine ay ?_|simp only[h8',gt_iff_lt,decide_false,go_sem,simprocAttr]
 refine GA.loop (I:=λm e H=>∃(k:Nat) (left:Int),m=la.length-k/\k<=la.length/\fS la 65536=fS (la.drop k) left/\0<=left/\left<=65536/\e=aC [(3,.n .i64 left),(9,.fs 2 la.length (pA la)),(10,.n .i64 la.length),(11,.n .i64 k)]/\H=ag []) (Wk.mk [] [] ?_ ?_ ?_) ⟨0,65536,rfl,by omega,rfl,by omega,by omega,rfl,rfl⟩ ?_
 ·simp only[aK,aJ,go_sem,simprocAttr]
  repeat' refine af ?_ ?_
  all_goals first|exact aR|skip
 ·trivial
 ·decide
 rintro m e H ⟨k,left,rfl,hk,hs,hl0,hl1,rfl,rfl⟩
 repeat first|with_reducible refine ay ?_|simp only[go_sem,simprocAttr]
 refine⟨λh=>?_,λh=>?_⟩
 ·have hk':k<la.length:=by omega
  have h0:(0:Int)<=(k:Int):=by omega
  rw[bU (d:=(false,0)) hk',fS] at hs
  by_cases h1:(la.getD k (false,0)).2<1
  ·repeat first|with_reducible refine ay ?_|simp only[h0,h,um,ul,h1,decide_true,go_sem,simprocAttr]
   rw[if_pos (.inl h1)] at hs
   exact ai (by rw[hE,hs]) rfl
  by_cases h2:left<(la.getD k (false,0)).2
  ·repeat first|with_reducible refine ay ?_|simp only[h0,h,um,ul,h1,h2,gt_iff_lt,decide_true,decide_false,go_sem,simprocAttr]
   rw[if_pos (.inr h2)] at hs
   exact ai (by rw[hE,hs]) rfl
  rw[if_neg (by omega)] at hs
  repeat first|with_reducible refine ay ?_|simp only[h0,h,um,ul,h1,h2,gt_iff_lt,decide_false,go_sem,simprocAttr]
  refine⟨_,_,_,?_,Wk.mk [] [] ?_ ?_ ?_,k+1,left-(la.getD k (false,0)).2,rfl,by omega,hs,by omega,by omega,rfl,rfl⟩
  ·omega
  ·simp only[aK,aJ,go_sem,simprocAttr]
   repeat' refine af ?_ ?_
   all_goals first|exact aR|skip
  ·trivial
  ·decide
 ·repeat first|with_reducible refine ay ?_|simp only[go_sem,simprocAttr]
  have:k=la.length:=by omega
  subst this
  rw[List.drop_length,fS] at hs
  exact ai (by rw[hE,hs]) rfl
/-! ### what is in form-/
def bK:List (Int×Int)->Int
 |[]=>0
 |i::l=>if bZ i=0 then bK l else bZ i
def a9(la:List (Bool×Int))(loc:Int)(cs:List (Int×Int)):Int:=if cd la=0 then(if loc<0\/16<loc then 2 else if 1024<cs.length then 6 else bK cs) else cd la
def dU(cs:List (Int×Int)):Prop:=∀i ∈ cs,0<=i.2/\i.2<4294967296
theorem ek{α:Type}{l:List α}{k:Nat}{d:α}(h:k<l.length):l.getD k d ∈ l:=by rw[List.getD_eq_getElem?_getD,List.getElem?_eq_getElem h];exact List.getElem_mem _
theorem lJ(la:List (Bool×Int))(loc:Int)(cs:List (Int×Int))(hl:la.length<=9223372036854775807)(hc:cs.length<=9223372036854775807)(ha:dU cs):cg Tryz.prog 47 [aL la loc cs] [.v (.n .i64 (a9 la loc cs))]:=by
 refine az am O9 ⟨by simp,by decide⟩ ?_
 simp only[aQ,aL]
 repeat first|with_reducible refine ay ?_|simp only[go_sem,simprocAttr]
 refine ae [] (fargs:=[.fs 2 la.length (pA la)]) (aV.same rfl) (nv la hl) ?_ ?_
 ·simp only[go_sem,simprocAttr]
 by_cases hA:cd la=0
 rotate_left
 ·repeat first|with_reducible refine ay ?_|simp only[hA,ne_eq,not_false_eq_true,decide_true,go_sem,simprocAttr]
  exact ai (by simp only[a9,hA,if_false]) rfl
 repeat first|with_reducible refine ay ?_|simp only[hA,ne_eq,not_true_eq_false,decide_false,go_sem,simprocAttr]
 by_cases h1:loc<0
 ·repeat first|with_reducible refine ay ?_|simp only[h1,decide_true,go_sem,simprocAttr]
  exact ai (by simp only[a9,hA,h1,true_or,if_true]) rfl
 by_cases h2:16<loc
 ·repeat first|with_reducible refine ay ?_|simp only[h1,h2,gt_iff_lt,decide_true,decide_false,go_sem,simprocAttr]
  exact ai (by simp only[a9,hA,h2,or_true,if_true]) rfl
 have hlo:¬(loc<0\/16<loc):=by omega
 by_cases h3:1024<cs.length
 ·have h3':(1024:Int)<(cs.length:Int):=by omega
  repeat first|with_reducible refine ay ?_|simp only[h1,h2,h3',gt_iff_lt,decide_true,decide_false,go_sem,simprocAttr]
  exact ai (by simp only[a9,hA,hlo,h3,if_true,if_false]) rfl
 have h3':¬(1024:Int)<(cs.length:Int):=by omega
 repeat first|with_reducible refine ay ?_|simp only[h1,h2,h3',gt_iff_lt,decide_false,go_sem,simprocAttr]
 refine GA.loop (I:=λm e H=>∃(k:Nat),m=cs.length-k/\k<=cs.length/\bK cs=bK (cs.drop k)/\e=aC [(28,.fs 2 cs.length (pI cs)),(29,.n .i64 cs.length),(30,.n .i64 k)]/\H=ag []) (Wk.mk [] [] ?_ ?_ ?_) ⟨0,rfl,by omega,rfl,rfl,rfl⟩ ?_
 ·simp only[aK,aJ,go_sem,simprocAttr]
  repeat' refine af ?_ ?_
  all_goals first|exact aR|skip
 ·trivial
 ·decide
 rintro m e H ⟨k,rfl,hk,hs,rfl,rfl⟩
 have hE:a9 la loc cs=bK cs:=by simp only[a9,hA,hlo,h3,if_true,if_false]
 repeat first|with_reducible refine ay ?_|simp only[go_sem,simprocAttr]
 refine⟨λh=>?_,λh=>?_⟩
 ·have hk':k<cs.length:=by omega
  have h0:(0:Int)<=(k:Int):=by omega
  have hm:=ha _ (ek (d:=(0,0)) hk')
  rw[bU (d:=(0,0)) hk',bK] at hs
  repeat first|with_reducible refine ay ?_|simp only[h0,h,bp,ja,go_sem,simprocAttr]
  refine ae [] (fargs:=[.agg [.n .i64 (cs.getD k (0,0)).1,.n .u32 (cs.getD k (0,0)).2]]) (aV.same rfl) (mU _ _ hm.1 hm.2) ?_ ?_
  ·simp only[go_sem,simprocAttr]
  by_cases hi:bZ (cs.getD k (0,0))=0
  ·rw[if_pos hi] at hs
   repeat first|with_reducible refine ay ?_|simp only[hi,ne_eq,not_true_eq_false,decide_false,go_sem,simprocAttr]
   refine⟨_,_,_,?_,Wk.mk [] [] ?_ ?_ ?_,k+1,rfl,by omega,hs,rfl,rfl⟩
   ·omega
   ·simp only[aK,aJ,go_sem,simprocAttr]
    repeat' refine af ?_ ?_
    all_goals first|exact aR|skip
   ·trivial
   ·decide
  ·rw[if_neg hi] at hs
   repeat first|with_reducible refine ay ?_|simp only[hi,ne_eq,not_false_eq_true,decide_true,go_sem,simprocAttr]
   exact ai (by rw[hE,hs]) rfl
 ·repeat first|with_reducible refine ay ?_|simp only[go_sem,simprocAttr]
  have:k=cs.length:=by omega
  subst this
  rw[List.drop_length,bK] at hs
  exact ai (by rw[hE,hs]) rfl
theorem bH{k k':IntKind}{a b:Int}(h:0<=b):dt (binOp .shr 0 (.int k a) (.int k' b))=some (.n k (a.fdiv (2^min b.toNat k.bits))):=by
 unfold binOp Op.shift
 simp only[if_neg (Int.not_lt.2 h)]
 rfl
theorem JA{k k':IntKind}{a b:Int}(h:0<=b):dt (binOp .shl 0 (.int k a) (.int k' b))=some (.n k (k.wrap (a*2^min b.toNat k.bits))):=by
 unfold binOp Op.shift
 simp only[if_neg (Int.not_lt.2 h)]
 rfl
theorem iX{k:IntKind}{a b:Int}(h:b≠0):dt (binOp .quo 0 (.int k a) (.int k b))=some (.n k (k.wrap (a.tdiv b))):=by
 unfold binOp Op.intDiv
 simp only[ne_eq,not_true_eq_false,if_false,if_neg h]
 rfl
theorem W3(k:IntKind)(a b:Int):dt (binOp .or 0 (.int k a) (.int k b))=some (.n k (k.wrap ((BitVec.ofInt k.bits a|||BitVec.ofInt k.bits b).toNat:Int))):=by
 unfold binOp Op.intBits
 simp only[ne_eq,not_true_eq_false,if_false]
 rfl
def eS(n:Int):Int:=if n<0\/9007199254740991<n then 0 else n
theorem km(n:Int):0<=eS n/\eS n<=9007199254740991:=by unfold eS;split<;>omega
theorem mI(n:Int):cg Tryz.prog 93 [.n .i64 n] [.v (.n .i64 (eS n))]:=by
 refine az am yK ⟨by simp,by decide⟩ ?_
 simp only[aQ]
 by_cases h0:n<0
 ·repeat first|with_reducible refine ay ?_|simp only[h0,decide_true,go_sem,simprocAttr]
  exact ai (by simp only[eS,h0,true_or,if_true]) rfl
 by_cases h1:9007199254740991<n
 ·repeat first|with_reducible refine ay ?_|simp only[h0,h1,gt_iff_lt,decide_true,decide_false,go_sem,simprocAttr]
  exact ai (by simp only[eS,h1,or_true,if_true]) rfl
 ·repeat first|with_reducible refine ay ?_|simp only[h0,h1,gt_iff_lt,decide_false,go_sem,simprocAttr]
  exact ai (by simp only[eS,h0,h1,or_self,if_false]) rfl
theorem KH:(2:Int)^min 32 64=4294967296:=by decide
theorem KI:(2:Int)^min 16 64=65536:=by decide
theorem e8:(2:Int)^min 8 64=256:=by decide
def ro:ByteArray:=⟨#[0,1,2,2,3,3,3,3,4,4,4,4,4,4,4,4,5,5,5,5,5,5,5,5,5,5,5,5,5,5,5,5,6,6,6,6,6,6,6,6,6,6,6,6,6,6,6,6,6,6,6,6,6,6,6,6,6,6,6,6,6,6,6,6,7,7,7,7,7,7,7,7,7,7,7,7,7,7,7,7,7,7,7,7,7,7,7,7,7,7,7,7,7,7,7,7,7,7,7,7,7,7,7,7,7,7,7,7,7,7,7,7,7,7,7,7,7,7,7,7,7,7,7,7,7,7,7,7,8,8,8,8,8,8,8,8,8,8,8,8,8,8,8,8,8,8,8,8,8,8,8,8,8,8,8,8,8,8,8,8,8,8,8,8,8,8,8,8,8,8,8,8,8,8,8,8,8,8,8,8,8,8,8,8,8,8,8,8,8,8,8,8,8,8,8,8,8,8,8,8,8,8,8,8,8,8,8,8,8,8,8,8,8,8,8,8,8,8,8,8,8,8,8,8,8,8,8,8,8,8,8,8,8,8,8,8,8,8,8,8,8,8,8,8,8,8,8,8,8,8,8,8,8,8,8,8]⟩
def WY:Bool:=(List.range 256).all λj=>match ro[j]? with
 |some c=>decide (c.toNat<=8)
 |none=>false
theorem rn:WY=true:=by kernel_rfl
def mq(j:Nat):Int:=match ro[j]? with
 |some c=>c.toNat
 |none=>0
theorem ka(j:Nat)(h:j<256):∃c,ro[j]? =some c/\(c.toNat:Int)=mq j/\0<=mq j/\mq j<=8:=by
 have:=List.all_eq_true.1 rn j (List.mem_range.2 h)
 unfold mq
 split at this
 ·rename_i c hc
  rw[hc]
  have:=of_decide_eq_true this
  exact⟨c,rfl,rfl,by omega,by omega⟩
 ·cases this
abbrev Zo:List AO:=
 [o1 19 (.mv (.t 2)),o1 20 (.mv (.t 0)),o1 21 (.cvi .u8 (.t 20)),o1 22 (.sx (.c (.s ro)) (.t 21)),o1 23 (.cvi .i64 (.t 22)),o1 24 (.bin .add (.t 19) (.t 23)),o1 2 (.mv (.t 24))]
theorem JO:qO=Zo:=by kernel_rfl
def iz(y n:Int):Int:=if 256<=y then n+8+mq (y / 256).toNat else n+mq y.toNat
def jG(y n:Int):Int:=if 65536<=y then iz (y / 65536) (n+16) else iz y n
def dI(x:Int):Int:=if 4294967296<=x then jG (x / 4294967296) 32 else jG x 0
theorem iJ{y n:Int}(h0:0<=y)(h1:y<65536)(hn:0<=n)(hn2:n<=40\/(n<=48/\y<256)):0<=iz y n/\iz y n<=56:=by
 unfold iz
 split
 ·obtain⟨_,_,_,q1,q2⟩:=ka (y / 256).toNat (by omega)
  omega
 ·obtain⟨_,_,_,q1,q2⟩:=ka y.toNat (by omega)
  omega
theorem nV{x:Int}(h0:0<=x)(h1:x<=9007199254740991):0<=dI x/\dI x<=56:=by
 unfold dI jG
 split
 ·split
  ·exact iJ (by omega) (by omega) (by omega) (.inr ⟨by omega,by omega⟩)
  ·exact iJ (by omega) (by omega) (by omega) (.inl (by omega))
 ·split
  ·exact iJ (by omega) (by omega) (by omega) (.inl (by omega))
  ·exact iJ (by omega) (by omega) (by omega) (.inl (by omega))
theorem pD(x:Int)(h0:0<=x)(h1:x<=9007199254740991):cg Tryz.prog 123 [.n .u64 x] [.v (.n .i64 (dI x))]:=by
 have s32:(0:Int)<=32:=by decide
 have s16:(0:Int)<=16:=by decide
 have s8:(0:Int)<=8:=by decide
 have a1:IntKind.i64.wrap 48=48:=rfl
 have a2:IntKind.i64.wrap 40=40:=rfl
 have a3:IntKind.i64.wrap 16=16:=rfl
 have a4:IntKind.i64.wrap 8=8:=rfl
 have a5:IntKind.i64.wrap 24=24:=rfl
 have fin:∀(y n:Int),0<=y->y<256->0<=n->n<=48->∃c,ro[y.toNat]? =some c/\IntKind.u8.wrap y=y/\IntKind.i64.wrap (c.toNat:Int)=c.toNat/\IntKind.i64.wrap (n+(c.toNat:Int))=n+mq y.toNat:=by
  intro y n hy0 hy1 hn0 hn1
  obtain⟨c,hc,hc1,q1,q2⟩:=ka y.toNat (by omega)
  exact⟨c,hc,by rw[IntKind.wrap_u8];omega,ao (by omega),by rw[hc1];exact ao (by omega)⟩
 refine az am yC ⟨by simp,by decide⟩ ?_
 simp only[aQ]
 rw[JO]
 by_cases g1:4294967296<=x
 ·by_cases g2:65536<=x / 4294967296
  ·have g3:¬256<=x / 4294967296 / 65536:=by omega
   have hy:(0:Int)<=x / 4294967296 / 65536:=by omega
   obtain⟨c,q1,q2,q3,q4⟩:=fin (x / 4294967296 / 65536) 48 hy (by omega) (by omega) (by omega)
   repeat first|with_reducible refine ay ?_|simp only[g1,ge_iff_le,decide_true,decide_false,bH s32,bH s16,bH s8,KH,KI,e8,g2,g3,a1,q1,q2,q3,q4,hy,go_sem,simprocAttr]
   exact ai (by simp only[dI,jG,iz,g1,g2,g3,if_true,if_false,Int.reduceAdd]) rfl
  ·by_cases g3:256<=x / 4294967296
   ·have hy:(0:Int)<=x / 4294967296 / 256:=by omega
    obtain⟨c,q1,q2,q3,q4⟩:=fin (x / 4294967296 / 256) 40 hy (by omega) (by omega) (by omega)
    repeat first|with_reducible refine ay ?_|simp only[g1,ge_iff_le,decide_true,decide_false,bH s32,bH s16,bH s8,KH,KI,e8,g2,g3,a2,q1,q2,q3,q4,hy,go_sem,simprocAttr]
    exact ai (by simp only[dI,jG,iz,g1,g2,g3,if_true,if_false,Int.reduceAdd]) rfl
   ·have hy:(0:Int)<=x / 4294967296:=by omega
    obtain⟨c,q1,q2,q3,q4⟩:=fin (x / 4294967296) 32 hy (by omega) (by omega) (by omega)
    repeat first|with_reducible refine ay ?_|simp only[g1,ge_iff_le,decide_true,decide_false,bH s32,bH s16,bH s8,KH,KI,e8,g2,g3,q1,q2,q3,q4,hy,go_sem,simprocAttr]
    exact ai (by simp only[dI,jG,iz,g1,g2,g3,if_true,if_false,Int.reduceAdd]) rfl
 ·by_cases g2:65536<=x
  ·by_cases g3:256<=x / 65536
   ·have hy:(0:Int)<=x / 65536 / 256:=by omega
    obtain⟨c,q1,q2,q3,q4⟩:=fin (x / 65536 / 256) 24 hy (by omega) (by omega) (by omega)
    repeat first|with_reducible refine ay ?_|simp only[g1,ge_iff_le,decide_true,decide_false,bH s32,bH s16,bH s8,KH,KI,e8,g2,g3,a3,a5,q1,q2,q3,q4,hy,go_sem,simprocAttr]
    exact ai (by simp only[dI,jG,iz,g1,g2,g3,if_true,if_false,Int.reduceAdd]) rfl
   ·have hy:(0:Int)<=x / 65536:=by omega
    obtain⟨c,q1,q2,q3,q4⟩:=fin (x / 65536) 16 hy (by omega) (by omega) (by omega)
    repeat first|with_reducible refine ay ?_|simp only[g1,ge_iff_le,decide_true,decide_false,bH s32,bH s16,bH s8,KH,KI,e8,g2,g3,a3,q1,q2,q3,q4,hy,go_sem,simprocAttr]
    exact ai (by simp only[dI,jG,iz,g1,g2,g3,if_true,if_false,Int.reduceAdd]) rfl
  ·by_cases g3:256<=x
   ·have hy:(0:Int)<=x / 256:=by omega
    obtain⟨c,q1,q2,q3,q4⟩:=fin (x / 256) 8 hy (by omega) (by omega) (by omega)
    repeat first|with_reducible refine ay ?_|simp only[g1,ge_iff_le,decide_true,decide_false,bH s32,bH s16,bH s8,KH,KI,e8,g2,g3,a4,q1,q2,q3,q4,hy,go_sem,simprocAttr]
    exact ai (by simp only[dI,jG,iz,g1,g2,g3,if_true,if_false,Int.reduceAdd]) rfl
   ·obtain⟨c,q1,q2,q3,q4⟩:=fin x 0 h0 (by omega) (by omega) (by omega)
    repeat first|with_reducible refine ay ?_|simp only[g1,ge_iff_le,decide_true,decide_false,bH s32,bH s16,bH s8,KH,KI,e8,g2,g3,q1,q2,q3,q4,h0,go_sem,simprocAttr]
    exact ai (by simp only[dI,jG,iz,g1,g2,g3,if_true,if_false,Int.reduceAdd]) rfl
theorem xp(x:Int)(h0:0<=x)(h1:x<=9007199254740991):cg Tryz.prog 114 [.n .u64 x] [.v (.n .i64 (dI x))]:=by
 refine az am yD ⟨by simp,by decide⟩ ?_
 simp only[aQ]
 repeat first|with_reducible refine ay ?_|simp only[go_sem,simprocAttr]
 refine ae [] (fargs:=[.n .u64 x]) (aV.same rfl) (pD x h0 h1) ?_ ?_
 ·simp only[go_sem,simprocAttr]
 repeat first|with_reducible refine ay ?_|simp only[go_sem,simprocAttr]
 exact ai rfl rfl
def hD(n:Int):Int:=if 1<=dI n then(dI n-1) / 7 else 0
theorem oa{n:Int}(h0:0<=n)(h1:n<=9007199254740991):0<=hD n/\hD n<=7:=by
 have:=nV h0 h1
 unfold hD;split<;>omega
theorem lI(n:Int)(h0:0<=n)(h1:n<=9007199254740991):cg Tryz.prog 94 [.n .i64 n] [.v (.n .i64 (hD n))]:=by
 have hl:=nV h0 h1
 have hw:IntKind.u64.wrap n=n:=by rw[IntKind.wrap_u64];omega
 have hq:(7:Int)≠0:=by decide
 have hw2:IntKind.i64.wrap (dI n-1)=dI n-1:=ao (by omega)
 refine az am yE ⟨by simp,by decide⟩ ?_
 simp only[aQ]
 repeat first|with_reducible refine ay ?_|simp only[hw,go_sem,simprocAttr]
 refine ae [] (fargs:=[.n .u64 n]) (aV.same rfl) (xp n h0 h1) ?_ ?_
 ·simp only[go_sem,simprocAttr]
 have key:IntKind.i64.wrap ((if 0<dI n-1 then dI n-1 else 0).tdiv 7)=hD n:=by
  unfold hD
  by_cases h:1<=dI n
  ·have e:(if 0<dI n-1 then dI n-1 else 0)=dI n-1:=by split<;>omega
   rw[e,if_pos h,Int.tdiv_eq_ediv_of_nonneg (by omega)]
   exact ao (by omega)
  ·rw[if_neg (by omega),if_neg h];rfl
 repeat first|with_reducible refine ay ?_|simp only[hw2,fR,eE,mN,iX hq,go_sem,simprocAttr]
 exact ai (by rw[key]) rfl
/-! ### bytes-/
def bC(l:List Int)(i _j:Nat):AV:= .n .u8 (l.getD i 0)
theorem sX{l l':List Int}{i:Nat}{d:Int}(h:i<l.length):(l++l').getD i d=l.getD i d:=by
 simp[List.getD_eq_getElem?_getD,List.getElem?_append_left h]
theorem sZ{l:List Int}{x d:Int}:(l++[x]).getD l.length d=x:=by
 simp[List.getD_eq_getElem?_getD]
def lB(N:Int):Nat->List Int
 |0=>[]
 |j+1=>IntKind.u8.wrap (N / 2^(8*j))::lB N j
theorem jg(N:Int):∀j,(lB N j).length=j
 |0=>rfl
 |j+1=>by simp only[lB,List.length_cons,jg N j]
def dy(n:Int):List Int:=bits .or .u8 (IntKind.u8.wrap (255*2^(8-hD (eS n)).toNat)) (IntKind.u8.wrap (eS n / 2^(8*hD (eS n)).toNat))::lB (eS n) (hD (eS n)).toNat
theorem eo(n:Int):(dy n).length<=8:=by
 have:=oa (km n).1 (km n).2
 simp only[dy,List.length_cons,jg];omega
theorem kH{l:List Int}{x:Int}(hl:l.length<1100000):∀i j,i<l.length+1->j<1->((ah 5 1 l.length 0 (bC l)).app (l.length*1) (.li [.n .u8 x])).get (i*1+j)=bC (l++[x]) i j:=
 iU rfl (by omega) (λi j hi _=>by unfold bC;rw[sX hi]) (λj hj=>by
  obtain rfl:j=0:=by omega
  unfold bC
  rw[sZ]
  rfl)
theorem JP(l:List Int)(hl:l.length<1000000)(n:Int){H:AH}{b:Nat}(hb:dq (λb2=>[b].reverse[b2]?) [] H b (ah 5 1 l.length 0 (bC l))):j6 Tryz.prog 77 [.os b l.length,.n .i64 n] H λv H'=>v= .os 0 (l++dy n).length/\H'=ag [ah 5 1 (l++dy n).length 0 (bC (l++dy n))]:=by
 refine rI am yV (by simp) ?_
 refine GA.wk (Wk.arg _ _ _ (by simp)) ?_
 refine GA.wk (e2:=aC [(0,.os 0 l.length),(1,.n .i64 n)]) (H2:=ag [ah 5 1 l.length 0 (bC l)]) (Wk.mk [b] [] ?_ ?_ ?_) ?_
 ·simp only[aQ]
  simp only[aK,aJ,go_sem,simprocAttr]
  repeat' refine af ?_ ?_
  all_goals first|exact aR|skip
 ·exact .cons rfl hb .nil
 ·simp
 have hn:=km n
 have hf:=oa hn.1 hn.2
 have hE:dy n=bits .or .u8 (IntKind.u8.wrap (255*2^(8-hD (eS n)).toNat)) (IntKind.u8.wrap (eS n / 2^(8*hD (eS n)).toNat))::lB (eS n) (hD (eS n)).toNat:=rfl
 generalize hN:eS n=N at hn hf hE
 generalize hK:hD N=K at hf hE
 have v1:IntKind.i64.wrap (8-K)=8-K:=ao (by omega)
 have v2:IntKind.i64.wrap (8*K)=8*K:=ao (by omega)
 have s1:(0:Int)<=8-K:=by omega
 have s2:(0:Int)<=8*K:=by omega
 have h0:(0:Int)<=(l.length:Int):=by omega
 have hlim:(l.length+1)*1<1099511627776/\l.length+1<1099511627776/\(l.length+1)*1<=140737488355328/\l.length+1<=140737488355328/\l.length+1<=9223372036854775807:=by omega
 repeat first|with_reducible refine ay ?_|simp only[go_sem,simprocAttr]
 refine ae [] (fargs:=[.n .i64 n]) (aV.same rfl) (mI n) ?_ ?_
 ·simp only[go_sem,simprocAttr]
 repeat first|with_reducible refine ay ?_|simp only[hN,go_sem,simprocAttr]
 refine ae [] (fargs:=[.n .i64 N]) (aV.same rfl) (hK ▸ lI N hn.1 hn.2) ?_ ?_
 ·simp only[go_sem,simprocAttr]
 repeat first|with_reducible refine ay ?_|simp only[v1,v2,JA s1,bH s2,W3,h0,hlim.1,hlim.2.1,hlim.2.2.1,hlim.2.2.2.1,hlim.2.2.2.2,decide_true,go_sem,simprocAttr]
 generalize hX:bits BinOp.or .u8 (IntKind.u8.wrap (255*2^(8-K).toNat)) (IntKind.u8.wrap (N / 2^(8*K).toNat))=X at hE
 have vK:IntKind.i64.wrap (K-1)=K-1:=ao (by omega)
 simp only[vK]
 refine GA.loop (I:=λm e H=>∃(j:Nat) (xs:List Int),m=j/\j<=7/\xs++lB N j=l++dy n/\xs.length<=l.length+8/\e=aC [(0,.os 0 xs.length),(1,.n .i64 N),(7,.n .i64 ((j:Int)-1))]/\H=ag [ah 5 1 xs.length 0 (bC xs)]) (Wk.mk [2] [] ?_ ?_ ?_) ⟨K.toNat,l++[X],rfl,by omega,by rw[hE];simp,by simp,rfl,rfl⟩ ?_
 ·simp only[aK,aJ,List.length_append,List.length_cons,List.length_nil,go_sem,simprocAttr]
  repeat' refine af ?_ ?_
  all_goals first|exact aR|skip
 ·refine .cons rfl (.rows (x:=_) (by simp only[go_sem,simprocAttr];rfl) (by rfl) (by rfl) (by rfl) ?_ (Nat.le_refl _) (by decide) ?_ (λi j _ _=>rfl)) .nil
  ·simp only[go_sem,simprocAttr,List.length_append,List.length_cons,List.length_nil]
  ·simp only[go_sem,simprocAttr,List.length_append,List.length_cons,List.length_nil]
   have:=kH (x:=X) (l:=l) (by omega)
   simpa only[Nat.mul_one] using this
 ·simp
 rintro m e H ⟨j,xs,rfl,hj,hs,hxl,rfl,rfl⟩
 cases m with
 |zero=>
  rw[lB,List.append_nil] at hs
  subst hs
  have e0:(((0:Nat):Int)-1)= -1:=rfl
  have e1:¬(0:Int)<= -1:=by decide
  simp only[e0]
  repeat first|with_reducible refine ay ?_|simp only[e1,ge_iff_le,decide_false,go_sem,simprocAttr]
 |succ i=>
  have e0:(((i+1:Nat):Int)-1)=i:=by omega
  have e1:(0:Int)<=i:=by omega
  have e2:(0:Int)<=8*(i:Int):=by omega
  have w1:IntKind.i64.wrap (8*(i:Int))=8*(i:Int):=ao (by omega)
  have hT:(8*(i:Int)).toNat=8*i:=by omega
  have hm:min (8*i) 64=8*i:=by omega
  have g0:(0:Int)<=(xs.length:Int):=by omega
  have hlim:(xs.length+1)*1<1099511627776/\xs.length+1<1099511627776/\(xs.length+1)*1<=140737488355328/\xs.length+1<=140737488355328/\xs.length+1<=9223372036854775807:=by omega
  simp only[e0]
  repeat first|with_reducible refine ay ?_|simp only[e1,ge_iff_le,decide_true,w1,hT,hm,bH e2,g0,hlim.1,hlim.2.1,hlim.2.2.1,hlim.2.2.2.1,hlim.2.2.2.2,go_sem,simprocAttr]
  rw[lB] at hs
  have hlen:=congrArg List.length hs
  simp only[List.length_append,List.length_cons,jg] at hlen
  have h8:=eo n
  have hg:=kH (x:=IntKind.u8.wrap (N / 2^(8*i))) (l:=xs) (by omega)
  simp only[Nat.mul_one] at hg
  refine⟨_,_,_,?_,Wk.mk [2] [] ?_ ?_ ?_,i,xs++[IntKind.u8.wrap (N / 2^(8*i))],rfl,by omega,by rw[<-hs];simp,by simp only[List.length_append,List.length_cons,List.length_nil];omega,rfl,rfl⟩
  ·omega
  ·simp only[aK,aJ,List.length_append,List.length_cons,List.length_nil,go_sem,simprocAttr]
   repeat' refine af ?_ ?_
   all_goals first|exact aR|skip
  ·refine .cons rfl (.rows (x:=_) (by simp only[go_sem,simprocAttr];rfl) (by rfl) (by rfl) (by rfl) ?_ (Nat.le_refl _) (by decide) ?_ (λi j _ _=>rfl)) .nil
   ·simp only[go_sem,simprocAttr,List.length_append,List.length_cons,List.length_nil]
   ·simp only[go_sem,simprocAttr,List.length_append,List.length_cons,List.length_nil,Nat.mul_one]
    exact hg
  ·simp
theorem dD(l:List Int)(hl:l.length<1000000)(n:Int):cg Tryz.prog 48 [.fs 1 l.length (bC l),.n .i64 n] [.o 5 1 (l++dy n).length 0 (bC (l++dy n))]:=by
 refine az am zo ⟨by simp,by decide⟩ ?_
 simp only[aQ]
 refine GA.seq ?_
 refine GA.go am rfl ?_
 simp only[go_sem,simprocAttr]
 refine GA.seq ?_
 refine GA.regx (l1:=[(o1 5 (.mv (.t 0))),⟨some 6,none,.cl (.c (.f 78 [] [])) [(.t 5)]⟩,(o1 7 (.mv (.t 1)))]) (l2:=[(o1 4 (.mv (.t 8)))]) rfl ?_
 simp only[go_sem,simprocAttr]
 refine ae [] (.cons (.rfl (by rfl)) .nil) (jq (n:=l.length) (row:=bC l) hl (λi j _ _=>rfl)) ?_ ?_
 ·simp only[go_sem,simprocAttr]
 simp only[go_sem,simprocAttr]
 refine⟨aC [(1,.n .i64 n)],XR.of (λp hp=>?_),77,[],[],[.os 0 l.length,.n .i64 n],?_,?_,(JP l hl n ?_).mono ?_⟩
 ·simp only[List.mem_cons,List.not_mem_nil,or_false] at hp
  subst hp
  exact⟨by simp,by simp only[go_sem,simprocAttr],rfl⟩
 ·simp only[go_sem,simprocAttr]
 ·simp only[go_sem,simprocAttr]
 ·exact .k1
 rintro v H' ⟨rfl,rfl⟩
 simp only[go_sem,simprocAttr]
 repeat first|with_reducible refine ay ?_|simp only[go_sem,simprocAttr]
 rw[<-List.length_append]
 exact⟨[_],rfl,.o (x:=_) (by simp only[go_sem,simprocAttr];rfl) (by rfl) (by rfl) (by rfl) (by decide) (Nat.le_refl _) (Nat.le_refl _) (λi j _ hj=>aE i j hj) (λi j _ _=>rfl) rfl .nil⟩
theorem lD{op:Int}(h0:¬op=0)(h1:¬op=1)(h2:¬op=2)(h3:¬op=3)(h4:¬op=4)(h5:¬op=35):fQ op=1:=by
 simp only[fQ,h0,h1,h2,h3,h4,h5,or_self,if_false]
theorem mB(op arg:Int)(ha:0<=arg)(ha2:arg<4294967296):cg Tryz.prog 51 [.agg [.n .i64 op,.n .u32 arg]] [.v (.n .i64 (bZ (op,arg)))]:=by
 refine az am qZ ⟨by simp,by decide⟩ ?_
 simp only[aQ]
 have hw:IntKind.i64.wrap arg=arg:=ao (by omega)
 by_cases h0:op<0
 ·repeat first|with_reducible refine ay ?_|simp only[h0,decide_true,go_sem,simprocAttr]
  exact ai (by simp only[bZ,h0,true_or,if_true]) rfl
 by_cases h1:36<=op
 ·repeat first|with_reducible refine ay ?_|simp only[h0,h1,ge_iff_le,decide_true,decide_false,go_sem,simprocAttr]
  exact ai (by simp only[bZ,h1,or_true,if_true]) rfl
 have hno:¬(op<0\/36<=op):=by omega
 by_cases e0:op=0
 ·subst e0
  repeat first|with_reducible refine ay ?_|simp only[h0,h1,ge_iff_le,decide_true,decide_false,go_sem,simprocAttr]
  exact ai (by simp[bZ,fQ];omega) rfl
 have key:∀most:Int,fQ op=most+1->(if most<arg then(2:Int) else 0)=bZ (op,arg):=λmost hm=>by
  simp only[bZ,hno,if_false,hm]
  by_cases h:most<arg
  ·rw[if_pos h,if_pos (by omega)]
  ·rw[if_neg h,if_neg (by omega)]
 by_cases e1:op=1
 ·subst e1
  have:=key 15 rfl
  by_cases hg:15<arg
  ·rw[if_pos hg] at this
   repeat first|with_reducible refine ay ?_|simp only[h0,h1,hw,hg,ge_iff_le,gt_iff_lt,decide_true,decide_false,go_sem,simprocAttr]
   exact ai (congrArg _ this) rfl
  ·rw[if_neg hg] at this
   repeat first|with_reducible refine ay ?_|simp only[h0,h1,hw,hg,ge_iff_le,gt_iff_lt,decide_true,decide_false,go_sem,simprocAttr]
   exact ai (congrArg _ this) rfl
 by_cases e2:op=2
 ·subst e2
  have:=key 15 rfl
  by_cases hg:15<arg
  ·rw[if_pos hg] at this
   repeat first|with_reducible refine ay ?_|simp only[h0,h1,hw,hg,ge_iff_le,gt_iff_lt,decide_true,decide_false,go_sem,simprocAttr]
   exact ai (congrArg _ this) rfl
  ·rw[if_neg hg] at this
   repeat first|with_reducible refine ay ?_|simp only[h0,h1,hw,hg,ge_iff_le,gt_iff_lt,decide_true,decide_false,go_sem,simprocAttr]
   exact ai (congrArg _ this) rfl
 by_cases e3:op=3
 ·subst e3
  have:=key 7 rfl
  by_cases hg:7<arg
  ·rw[if_pos hg] at this
   repeat first|with_reducible refine ay ?_|simp only[h0,h1,hw,hg,ge_iff_le,gt_iff_lt,decide_true,decide_false,go_sem,simprocAttr]
   exact ai (congrArg _ this) rfl
  ·rw[if_neg hg] at this
   repeat first|with_reducible refine ay ?_|simp only[h0,h1,hw,hg,ge_iff_le,gt_iff_lt,decide_true,decide_false,go_sem,simprocAttr]
   exact ai (congrArg _ this) rfl
 by_cases e4:op=4
 ·subst e4
  have:=key 7 rfl
  by_cases hg:7<arg
  ·rw[if_pos hg] at this
   repeat first|with_reducible refine ay ?_|simp only[h0,h1,hw,hg,ge_iff_le,gt_iff_lt,decide_true,decide_false,go_sem,simprocAttr]
   exact ai (congrArg _ this) rfl
  ·rw[if_neg hg] at this
   repeat first|with_reducible refine ay ?_|simp only[h0,h1,hw,hg,ge_iff_le,gt_iff_lt,decide_true,decide_false,go_sem,simprocAttr]
   exact ai (congrArg _ this) rfl
 by_cases e5:op=35
 ·subst e5
  have:=key 15 rfl
  by_cases hg:15<arg
  ·rw[if_pos hg] at this
   repeat first|with_reducible refine ay ?_|simp only[h0,h1,hw,hg,ge_iff_le,gt_iff_lt,decide_true,decide_false,go_sem,simprocAttr]
   exact ai (congrArg _ this) rfl
  ·rw[if_neg hg] at this
   repeat first|with_reducible refine ay ?_|simp only[h0,h1,hw,hg,ge_iff_le,gt_iff_lt,decide_true,decide_false,go_sem,simprocAttr]
   exact ai (congrArg _ this) rfl
 have:=key 0 (lD e0 e1 e2 e3 e4 e5)
 by_cases hg:0<arg
 ·rw[if_pos hg] at this
  repeat first|with_reducible refine ay ?_|simp only[h0,h1,e0,e1,e2,e3,e4,e5,hw,hg,ge_iff_le,gt_iff_lt,decide_true,decide_false,go_sem,simprocAttr]
  exact ai (congrArg _ this) rfl
 ·rw[if_neg hg] at this
  repeat first|with_reducible refine ay ?_|simp only[h0,h1,e0,e1,e2,e3,e4,e5,hw,hg,ge_iff_le,gt_iff_lt,decide_true,decide_false,go_sem,simprocAttr]
  exact ai (congrArg _ this) rfl
/-! ### Form-/
def jA:List (Bool×Int)->Bool
 |[]=>true
 |a::l=>decide (1<=a.2)&&decide (a.2<=65536)&&jA l
def eR:List (Bool×Int)->Int
 |[]=>0
 |a::l=>a.2+eR l
theorem iT:∀{la:List (Bool×Int)},jA la=true->0<=eR la
 |[],_=>Int.le_refl 0
 |a::l,h=>by
  simp only[jA,Bool.and_eq_true,decide_eq_true_eq] at h
  have:=iT h.2
  simp only[eR];omega
theorem ju:∀(la:List (Bool×Int)) (left:Int),0<=left->left<=65536->fS la left=if jA la=true/\eR la<=left then 0 else 2
 |[],left,h0,h=>by simp only[fS,jA,eR,h0,and_self,if_true]
 |a::l,left,h0,h=>by
  simp only[fS]
  by_cases hb:a.2<1\/left<a.2
  ·rw[if_pos hb,if_neg]
   rintro ⟨h1,h2⟩
   simp only[jA,Bool.and_eq_true,decide_eq_true_eq,eR] at h1 h2
   have:=iT h1.2
   omega
  ·rw[if_neg hb,ju l (left-a.2) (by omega) (by omega)]
   simp only[jA,eR,Bool.and_eq_true,decide_eq_true_eq]
   by_cases h1:jA l=true/\eR l<=left-a.2
   ·rw[if_pos h1,if_pos ⟨⟨⟨by omega,by omega⟩,h1.1⟩,by omega⟩]
   ·rw[if_neg h1,if_neg (λh2=>h1 ⟨h2.1.2,by omega⟩)]
theorem dR{la:List (Bool×Int)}{loc:Int}{cs:List (Int×Int)}(h:¬8<la.length)(hb:¬(jA la=true/\eR la<=65536)):a9 la loc cs=2:=by
 have e:cd la=2:=by simp only[cd,h,if_false];rw[ju la 65536 (by omega) (by omega),if_neg hb]
 simp only[a9,e];rfl
theorem gC{la:List (Bool×Int)}{loc:Int}{cs:List (Int×Int)}(h:¬8<la.length)(hb:jA la=true/\eR la<=65536):a9 la loc cs=if loc<0\/16<loc then 2 else if 1024<cs.length then 6 else bK cs:=by
 have e:cd la=0:=by simp only[cd,h,if_false];rw[ju la 65536 (by omega) (by omega),if_pos hb]
 simp only[a9,e,if_true]
theorem oM(la:List (Bool×Int))(loc:Int)(cs:List (Int×Int))(hl:la.length<=9223372036854775807)(hc:cs.length<=9223372036854775807)(ha:dU cs):cg Tryz.prog 25 [aL la loc cs] [.v (.n .i64 (a9 la loc cs))]:=by
 refine az am x7 ⟨by simp,by decide⟩ ?_
 simp only[aQ,aL]
 by_cases h8:8<la.length
 ·have h8':(8:Int)<(la.length:Int):=by omega
  repeat first|with_reducible refine ay ?_|simp only[h8',gt_iff_lt,decide_true,go_sem,simprocAttr]
  exact ai (by simp only[a9,cd,h8,if_true];rfl) rfl
 have h8':¬(8:Int)<(la.length:Int):=by omega
 repeat first|with_reducible refine ay ?_|simp only[h8',gt_iff_lt,decide_false,go_sem,simprocAttr]
 refine GA.loop (I:=λm e H=>∃(k:Nat) (s:Int),m=la.length-k/\k<=la.length/\jA la=jA (la.drop k)/\eR la=s+eR (la.drop k)/\0<=s/\s<=65536*k/\e=aC [(1,.p 0 0),(3,.n .i64 s),(4,.n .i64 k)]/\H=ag [aj 0 25 [.fs 2 la.length (pA la),.n .i64 loc,.fs 2 cs.length (pI cs)]]) (Wk.mk [0] [] ?_ ?_ ?_) ⟨0,0,rfl,by omega,rfl,by simp,by omega,by omega,rfl,rfl⟩ ?_
 ·simp only[aK,aJ,go_sem,simprocAttr]
  repeat' refine af ?_ ?_
  all_goals first|exact aR|skip
 ·exact .cons rfl .ls .nil
 ·simp
 rintro m e H ⟨k,s,rfl,hk,hs,hs2,hs0,hs1,rfl,rfl⟩
 repeat first|with_reducible refine ay ?_|simp only[go_sem,simprocAttr]
 refine⟨λh=>?_,λh=>?_⟩
 ·have hk':k<la.length:=by omega
  have h0:(0:Int)<=(k:Int):=by omega
  rw[bU (d:=(false,0)) hk',jA] at hs
  rw[bU (d:=(false,0)) hk',eR] at hs2
  by_cases h1:(la.getD k (false,0)).2<1
  ·repeat first|with_reducible refine ay ?_|simp only[h0,h,um,ul,h1,decide_true,go_sem,simprocAttr]
   exact ai (by rw[dR h8 (λhh=>by rw[hs] at hh;simp only[Bool.and_eq_true,decide_eq_true_eq] at hh;omega)]) rfl
  by_cases h2:65536<(la.getD k (false,0)).2
  ·repeat first|with_reducible refine ay ?_|simp only[h0,h,um,ul,h1,h2,gt_iff_lt,decide_true,decide_false,go_sem,simprocAttr]
   exact ai (by rw[dR h8 (λhh=>by rw[hs] at hh;simp only[Bool.and_eq_true,decide_eq_true_eq] at hh;omega)]) rfl
  have hs':jA la=jA (la.drop (k+1)):=by
   rw[hs,decide_eq_true (show 1<=(la.getD k (false,0)).2 by omega),decide_eq_true (show(la.getD k (false,0)).2<=65536 by omega),Bool.true_and,Bool.true_and]
  repeat first|with_reducible refine ay ?_|simp only[h0,h,um,ul,h1,h2,gt_iff_lt,decide_false,go_sem,simprocAttr]
  refine⟨_,_,_,?_,Wk.mk [0] [] ?_ ?_ ?_,k+1,s+(la.getD k (false,0)).2,rfl,by omega,hs',by omega,by omega,by omega,rfl,rfl⟩
  ·omega
  ·simp only[aK,aJ,go_sem,simprocAttr]
   repeat' refine af ?_ ?_
   all_goals first|exact aR|skip
  ·exact .cons rfl .ls .nil
  ·simp
 have:k=la.length:=by omega
 subst this
 rw[List.drop_length] at hs hs2
 simp only[eR,Int.add_zero] at hs2
 simp only[jA] at hs
 by_cases g1:65536<s
 ·repeat first|with_reducible refine ay ?_|simp only[g1,gt_iff_lt,decide_true,go_sem,simprocAttr]
  exact ai (by rw[dR h8 (by omega)]) rfl
 have hE:a9 la loc cs=if loc<0\/16<loc then 2 else if 1024<cs.length then 6 else bK cs:=gC h8 ⟨hs,by omega⟩
 by_cases g2:loc<0
 ·repeat first|with_reducible refine ay ?_|simp only[g1,g2,gt_iff_lt,decide_true,decide_false,go_sem,simprocAttr]
  exact ai (by rw[hE,if_pos (.inl g2)]) rfl
 by_cases g3:16<loc
 ·repeat first|with_reducible refine ay ?_|simp only[g1,g2,g3,gt_iff_lt,decide_true,decide_false,go_sem,simprocAttr]
  exact ai (by rw[hE,if_pos (.inr g3)]) rfl
 rw[if_neg (by omega)] at hE
 by_cases g4:1024<cs.length
 ·have g4':(1024:Int)<(cs.length:Int):=by omega
  repeat first|with_reducible refine ay ?_|simp only[g1,g2,g3,g4',gt_iff_lt,decide_true,decide_false,go_sem,simprocAttr]
  exact ai (by rw[hE,if_pos g4]) rfl
 have g4':¬(1024:Int)<(cs.length:Int):=by omega
 rw[if_neg g4] at hE
 repeat first|with_reducible refine ay ?_|simp only[g1,g2,g3,g4',gt_iff_lt,decide_false,go_sem,simprocAttr]
 refine GA.loop (I:=λm e H=>∃(k:Nat),m=cs.length-k/\k<=cs.length/\bK cs=bK (cs.drop k)/\e=aC [(1,.p 0 0),(5,.n .i64 k)]/\H=ag [aj 0 25 [.fs 2 la.length (pA la),.n .i64 loc,.fs 2 cs.length (pI cs)]]) (Wk.mk [0] [] ?_ ?_ ?_) ⟨0,rfl,by omega,rfl,rfl,rfl⟩ ?_
 ·simp only[aK,aJ,go_sem,simprocAttr]
  repeat' refine af ?_ ?_
  all_goals first|exact aR|skip
 ·exact .cons rfl .ls .nil
 ·simp
 rintro m e H ⟨k,rfl,hk,hs,rfl,rfl⟩
 repeat first|with_reducible refine ay ?_|simp only[go_sem,simprocAttr]
 refine⟨λh=>?_,λh=>?_⟩
 ·have hk':k<cs.length:=by omega
  have h0:(0:Int)<=(k:Int):=by omega
  have hm:=ha _ (ek (d:=(0,0)) hk')
  rw[bU (d:=(0,0)) hk',bK] at hs
  repeat first|with_reducible refine ay ?_|simp only[h0,h,bp,ja,go_sem,simprocAttr]
  refine ae [] (fargs:=[.agg [.n .i64 (cs.getD k (0,0)).1,.n .u32 (cs.getD k (0,0)).2]]) (aV.same rfl) (mB _ _ hm.1 hm.2) ?_ ?_
  ·simp only[go_sem,simprocAttr]
  by_cases hi:bZ (cs.getD k (0,0))=0
  ·rw[if_pos hi] at hs
   repeat first|with_reducible refine ay ?_|simp only[hi,ne_eq,not_true_eq_false,decide_false,go_sem,simprocAttr]
   refine⟨_,_,_,?_,Wk.mk [0] [] ?_ ?_ ?_,k+1,rfl,by omega,hs,rfl,rfl⟩
   ·omega
   ·simp only[aK,aJ,go_sem,simprocAttr]
    repeat' refine af ?_ ?_
    all_goals first|exact aR|skip
   ·exact .cons rfl .ls .nil
   ·simp
  ·rw[if_neg hi] at hs
   repeat first|with_reducible refine ay ?_|simp only[hi,ne_eq,not_false_eq_true,decide_true,go_sem,simprocAttr]
   exact ai (by rw[hE,hs]) rfl
 ·repeat first|with_reducible refine ay ?_|simp only[go_sem,simprocAttr]
  have:k=cs.length:=by omega
  subst this
  rw[List.drop_length,bK] at hs
  exact ai (by rw[hE,hs]) rfl
/-! ### the memory-/
theorem jX{la:List (Bool×Int)}{loc:Int}{cs:List (Int×Int)}(h:a9 la loc cs=0):jA la=true/\eR la<=65536/\0<=loc/\loc<=16/\la.length<=8/\cs.length<=1024/\bK cs=0:=by
 by_cases h8:8<la.length
 ·simp only[a9,cd,h8,if_true] at h;simp at h
 by_cases hb:jA la=true/\eR la<=65536
 ·rw[gC h8 hb] at h
  split at h
  ·cases h
  ·split at h
   ·cases h
   ·exact⟨hb.1,hb.2,by omega,by omega,by omega,by omega,h⟩
 ·rw[dR h8 hb] at h;cases h
theorem tr(b:Bool):cg Tryz.prog 49 [.b b] [.v (.n .u32 (if b=true then 1 else 0))]:=by
 refine az am yB ⟨by simp,by decide⟩ ?_
 simp only[aQ]
 cases b
 ·repeat first|with_reducible refine ay ?_|simp only[go_sem,simprocAttr]
  exact ai rfl rfl
 ·repeat first|with_reducible refine ay ?_|simp only[go_sem,simprocAttr]
  exact ai rfl rfl
def xR(a:Bool×Int):List Int:=dy (2*a.2+(if a.1=true then 1 else 0))
def Ky(i:Int×Int):List Int:=IntKind.u8.wrap i.1::(if j4 i.1=true then dy i.2 else[])
def xH(la:List (Bool×Int))(loc:Int)(cs:List (Int×Int)):List Int:=dy la.length++la.flatMap xR++dy loc++dy cs.length++cs.flatMap Ky
theorem m8(la:List (Bool×Int))(loc:Int)(cs:List (Int×Int))(hl:la.length<=9223372036854775807)(hc:cs.length<=9223372036854775807)(ha:dU cs)(hf:¬a9 la loc cs=0):cg Tryz.prog 24 [aL la loc cs] [.v .sl0,.v (.n .i64 (a9 la loc cs))]:=by
 refine az am Cy ⟨by simp,by decide⟩ ?_
 simp only[aQ,aL]
 repeat first|with_reducible refine ay ?_|simp only[go_sem,simprocAttr]
 refine ae [] (fargs:=[aL la loc cs]) (aV.same rfl) (lJ la loc cs hl hc ha) ?_ ?_
 ·simp only[go_sem,simprocAttr]
 repeat first|with_reducible refine ay ?_|simp only[hf,ne_eq,not_false_eq_true,decide_true,go_sem,simprocAttr]
 exact⟨[_,_],rfl,⟨rfl,rfl⟩,⟨rfl,rfl⟩,trivial⟩
theorem lm:∀{la:List (Bool×Int)} (k:Nat),jA la=true->jA (la.drop k)=true
 |la,0,h=>h
 |[],k+1,h=>h
 |a::l,k+1,h=>by
  simp only[jA,Bool.and_eq_true] at h
  exact lm k h.2
theorem gJ:∀{cs:List (Int×Int)} (k:Nat),bK cs=0->bK (cs.drop k)=0
 |cs,0,h=>h
 |[],k+1,h=>h
 |i::l,k+1,h=>by
  simp only[bK] at h
  split at h
  ·exact gJ k h
  ·rename_i g;exact absurd h g
theorem pN{i:Int×Int}(h:bZ i=0):0<=i.1/\i.1<36:=by
 unfold bZ at h
 split at h
 ·cases h
 ·omega
theorem lO(la:List (Bool×Int))(loc:Int)(cs:List (Int×Int))(ha:dU cs)(hf:a9 la loc cs=0):cg Tryz.prog 24 [aL la loc cs] [.o 5 1 (xH la loc cs).length 0 (bC (xH la loc cs)),.v (.n .i64 0)]:=by
 obtain⟨f1,f2,f3,f4,f5,f6,f7⟩:=jX hf
 refine az am Cy ⟨by simp,by decide⟩ ?_
 simp only[aQ,aL]
 repeat first|with_reducible refine ay ?_|simp only[go_sem,simprocAttr]
 refine ae [] (fargs:=[aL la loc cs]) (aV.same rfl) (lJ la loc cs (by omega) (by omega) ha) ?_ ?_
 ·simp only[go_sem,simprocAttr]
 repeat first|with_reducible refine ay ?_|simp only[hf,ne_eq,not_true_eq_false,decide_false,go_sem,simprocAttr]
 refine ae [] (fargs:=[.fs 1 ([]:List Int).length (bC []),.n .i64 la.length]) (.cons (.sl0 _ _) (.cons (.rfl rfl) .nil)) (dD [] (by decide) la.length) ?_ ?_
 ·simp only[go_sem,simprocAttr]
 repeat first|with_reducible refine ay ?_|simp only[go_sem,simprocAttr]
 have b0:=eo (la.length:Int)
 have b1:=eo loc
 have b2:=eo (cs.length:Int)
 refine GA.loop (I:=λm e H=>∃(k:Nat) (xs:List Int),m=la.length-k/\k<=la.length/\xs++(la.drop k).flatMap xR=dy la.length++la.flatMap xR/\xs.length<=8+8*k/\eR (la.drop k)<=65536/\e=aC [(1,.p 0 0),(5,.os 1 xs.length),(22,.fs 2 la.length (pA la)),(23,.n .i64 la.length),(24,.n .i64 k)]/\H=ag [ah 5 1 xs.length 0 (bC xs),aj 0 25 [.fs 2 la.length (pA la),.n .i64 loc,.fs 2 cs.length (pI cs)]]) (Wk.mk [1,0] [] ?_ ?_ ?_) ⟨0,dy la.length,rfl,by omega,rfl,by omega,f2,rfl,rfl⟩ ?_
 ·simp only[aK,aJ,go_sem,simprocAttr]
  repeat' refine af ?_ ?_
  all_goals first|exact aR|skip
 ·exact .cons rfl .k1 (.cons rfl .ls .nil)
 ·simp
 rintro m e H ⟨k,xs,rfl,hk,hs,hxl,hsum,rfl,rfl⟩
 repeat first|with_reducible refine ay ?_|simp only[go_sem,simprocAttr]
 refine⟨λh=>?_,λh=>?_⟩
 ·have hk':k<la.length:=by omega
  have h0:(0:Int)<=(k:Int):=by omega
  have hok:=lm k f1
  rw[bU (d:=(false,0)) hk'] at hs hsum hok
  simp only[jA,eR,List.flatMap_cons,Bool.and_eq_true,decide_eq_true_eq] at hs hsum hok
  have hp:=iT hok.2
  have bx:=eo (2*(la.getD k (false,0)).2+(if(la.getD k (false,0)).1=true then 1 else 0))
  have v1:IntKind.i64.wrap (2*(la.getD k (false,0)).2)=2*(la.getD k (false,0)).2:=ao (by omega)
  have v2:IntKind.i64.wrap (if(la.getD k (false,0)).1=true then 1 else 0)=(if(la.getD k (false,0)).1=true then 1 else 0):=ao (by split<;>omega)
  have v3:IntKind.i64.wrap (2*(la.getD k (false,0)).2+(if(la.getD k (false,0)).1=true then 1 else 0))=2*(la.getD k (false,0)).2+(if(la.getD k (false,0)).1=true then 1 else 0):=ao (by split<;>omega)
  repeat first|with_reducible refine ay ?_|simp only[h0,h,um,ul,v1,go_sem,simprocAttr]
  refine ae [] (fargs:=[.b (la.getD k (false,0)).1]) (aV.same rfl) (tr _) ?_ ?_
  ·simp only[go_sem,simprocAttr]
  repeat first|with_reducible refine ay ?_|simp only[v1,v2,v3,go_sem,simprocAttr]
  refine ae [1] (.cons (.ownb (ty:=5) (z:=0) (by simp only[go_sem,simprocAttr]) (λi j _ _=>rfl) (by simp)) (.cons (.rfl rfl) .nil)) (dD xs (by omega) (2*(la.getD k (false,0)).2+(if(la.getD k (false,0)).1=true then 1 else 0))) ?_ ?_
  ·simp only[go_sem,simprocAttr]
  repeat first|with_reducible refine ay ?_|simp only[go_sem,simprocAttr]
  refine⟨_,_,_,?_,Wk.mk [3,0] [] ?_ ?_ ?_,k+1,xs++dy (2*(la.getD k (false,0)).2+(if(la.getD k (false,0)).1=true then 1 else 0)),rfl,by omega,by rw[<-hs];simp only[xR,List.append_assoc],by simp only[List.length_append];omega,by omega,rfl,rfl⟩
  ·omega
  ·simp only[aK,aJ,List.length_append,go_sem,simprocAttr]
   repeat' refine af ?_ ?_
   all_goals first|exact aR|skip
  ·refine .cons rfl (.rows (x:=_) (by simp only[go_sem,simprocAttr];rfl) (by rfl) (by rfl) (by rfl) ?_ (Nat.le_refl _) (by decide) (λi j _ hj=>aE i j hj) (λi j _ _=>rfl)) (.cons rfl .ls .nil)
   simp only[go_sem,simprocAttr,List.length_append,Nat.le_refl]
  ·simp
 have:k=la.length:=by omega
 subst this
 rw[List.drop_length,List.flatMap_nil,List.append_nil] at hs
 have hxs:xs.length<=72:=by omega
 have ln:(xs++dy loc).length<=80:=by simp only[List.length_append];omega
 repeat first|with_reducible refine ay ?_|simp only[go_sem,simprocAttr]
 refine ae [1] (.cons (.ownb (ty:=5) (z:=0) (by simp only[go_sem,simprocAttr]) (λi j _ _=>rfl) (by simp)) (.cons (.rfl rfl) .nil)) (dD xs (by omega) loc) ?_ ?_
 ·simp only[go_sem,simprocAttr]
 repeat first|with_reducible refine ay ?_|simp only[go_sem,simprocAttr]
 rw[<-List.length_append]
 refine ae [2] (.cons (.ownb (ty:=5) (z:=0) (by simp only[go_sem,simprocAttr]) (λi j _ _=>rfl) (by simp)) (.cons (.rfl rfl) .nil)) (dD (xs++dy loc) (by omega) cs.length) ?_ ?_
 ·simp only[go_sem,simprocAttr]
 repeat first|with_reducible refine ay ?_|simp only[go_sem,simprocAttr]
 have hX:(xs++dy loc++dy cs.length).length<=88:=by simp only[List.length_append] at ln ⊢;omega
 refine GA.loop (I:=λm e H=>∃(k:Nat) (xs:List Int),m=cs.length-k/\k<=cs.length/\xs++(cs.drop k).flatMap Ky=xH la loc cs/\xs.length<=88+9*k/\e=aC [(5,.os 0 xs.length),(48,.fs 2 cs.length (pI cs)),(49,.n .i64 cs.length),(50,.n .i64 k)]/\H=ag [ah 5 1 xs.length 0 (bC xs)]) (Wk.mk [3] [] ?_ ?_ ?_) ⟨0,xs++dy loc++dy cs.length,rfl,by omega,by rw[hs];simp only[xH,List.drop_zero],by omega,rfl,rfl⟩ ?_
 ·simp only[aK,aJ,List.length_append,go_sem,simprocAttr]
  repeat' refine af ?_ ?_
  all_goals first|exact aR|skip
 ·refine .cons rfl (.rows (x:=_) (by simp only[go_sem,simprocAttr];rfl) (by rfl) (by rfl) (by rfl) ?_ (Nat.le_refl _) (by decide) (λi j _ hj=>aE i j hj) (λi j _ _=>rfl)) .nil
  simp only[go_sem,simprocAttr,List.length_append,Nat.le_refl]
 ·simp
 clear hs hxs ln hX hxl xs
 rintro m e H ⟨k,xs,rfl,hk,hs,hxl,rfl,rfl⟩
 repeat first|with_reducible refine ay ?_|simp only[go_sem,simprocAttr]
 refine⟨λh=>?_,λh=>?_⟩
 ·have hk':k<cs.length:=by omega
  have h0:(0:Int)<=(k:Int):=by omega
  have hok:=gJ k f7
  have hm:=ha _ (ek (d:=(0,0)) hk')
  rw[bU (d:=(0,0)) hk'] at hs hok
  simp only[bK,List.flatMap_cons] at hs hok
  have hi:bZ (cs.getD k (0,0))=0:=by
   by_cases g:bZ (cs.getD k (0,0))=0
   ·exact g
   ·rw[if_neg g] at hok;exact hok
  obtain⟨g1,g2⟩:=pN hi
  obtain⟨op,hop⟩:∃op:Nat,(cs.getD k (0,0)).1=op:=⟨(cs.getD k (0,0)).1.toNat,by omega⟩
  obtain⟨na,nb,nc,hkn⟩:=jh op (by omega)
  have bx:=eo (cs.getD k (0,0)).2
  have v1:IntKind.i64.wrap (cs.getD k (0,0)).2=(cs.getD k (0,0)).2:=ao (by omega)
  have hlim:(xs.length+1)*1<1099511627776/\xs.length+1<1099511627776/\(xs.length+1)*1<=140737488355328/\xs.length+1<=140737488355328/\xs.length+1<=9223372036854775807:=by omega
  have hg:=kH (x:=IntKind.u8.wrap op) (l:=xs) (by omega)
  simp only[Nat.mul_one] at hg
  have hl1:(xs++[IntKind.u8.wrap op]).length=xs.length+1:=by simp
  simp only[Ky,hop] at hs
  repeat first|with_reducible refine ay ?_|simp only[h0,h,bp,ja,hop,hlim.1,hlim.2.1,hlim.2.2.1,hlim.2.2.2.1,hlim.2.2.2.2,decide_true,go_sem,simprocAttr]
  refine ae [] (fargs:=[.n .i64 op]) (aV.same rfl) hkn ?_ ?_
  ·simp only[go_sem,simprocAttr]
  simp only[X0]
  cases hA:j4 op
  ·simp only[hA,Bool.false_eq_true,if_false] at hs
   repeat first|with_reducible refine ay ?_|simp only[hA,go_sem,simprocAttr]
   refine⟨_,_,_,?_,Wk.mk [3] [] ?_ ?_ ?_,k+1,xs++[IntKind.u8.wrap op],rfl,by omega,by rw[<-hs];simp,by rw[hl1];omega,rfl,rfl⟩
   ·omega
   ·simp only[aK,aJ,hl1,go_sem,simprocAttr]
    repeat' refine af ?_ ?_
    all_goals first|exact aR|skip
   ·refine .cons rfl (.rows (x:=_) (by simp only[go_sem,simprocAttr];rfl) (by rfl) (by rfl) (by rfl) ?_ (Nat.le_refl _) (by decide) ?_ (λi j _ _=>rfl)) .nil
    ·simp only[go_sem,simprocAttr,hl1]
    ·simp only[go_sem,simprocAttr,hl1,Nat.mul_one]
     exact hg
   ·simp
  ·simp only[hA,if_true] at hs
   repeat first|with_reducible refine ay ?_|simp only[hA,go_sem,simprocAttr]
   rw[<-hl1]
   refine ae [3] (.cons (.os (x:=_) (by simp) (by simp only[go_sem,simprocAttr];rfl) ?_ ?_ (λi j _ _=>rfl)) (.cons (.rfl rfl) .nil)) (dD (xs++[IntKind.u8.wrap op]) (by omega) (IntKind.i64.wrap (cs.getD k (0,0)).2)) ?_ ?_
   ·simp only[go_sem,simprocAttr,hl1,Nat.le_refl]
   ·simp only[go_sem,simprocAttr,hl1,Nat.mul_one]
    exact hg
   ·simp only[go_sem,simprocAttr]
   rw[v1]
   repeat first|with_reducible refine ay ?_|simp only[go_sem,simprocAttr]
   refine⟨_,_,_,?_,Wk.mk [5] [] ?_ ?_ ?_,k+1,xs++[IntKind.u8.wrap op]++dy (cs.getD k (0,0)).2,rfl,by omega,by rw[<-hs];simp,by rw[List.length_append,hl1];omega,rfl,rfl⟩
   ·omega
   ·simp only[aK,aJ,List.length_append,go_sem,simprocAttr]
    repeat' refine af ?_ ?_
    all_goals first|exact aR|skip
   ·refine .cons rfl (.rows (x:=_) (by simp only[go_sem,simprocAttr];rfl) (by rfl) (by rfl) (by rfl) ?_ (Nat.le_refl _) (by decide) (λi j _ hj=>aE i j hj) (λi j _ _=>rfl)) .nil
    simp only[go_sem,simprocAttr,List.length_append,Nat.le_refl]
   ·simp
 ·repeat first|with_reducible refine ay ?_|simp only[go_sem,simprocAttr]
  have:k=cs.length:=by omega
  subst this
  rw[List.drop_length,List.flatMap_nil,List.append_nil] at hs
  subst hs
  exact⟨[_,_],rfl,.o (x:=_) (by simp only[go_sem,simprocAttr];rfl) (by rfl) (by rfl) (by rfl) (by decide) (Nat.le_refl _) (Nat.le_refl _) (λi j _ hj=>aE i j hj) (λi j _ _=>rfl) rfl (.v rfl rfl .nil)⟩
def tC(l:List Bool)(i _j:Nat):AV:= .b (l.getD i false)
theorem tC0(l:List Bool)(i j:Nat):tC l i j= .b (l.getD i false):=rfl
def qz:List (Int×Int)->List Bool->Int->Int
 |[],_,lo=>lo
 |i::l,st,lo=>if 3<lo then lo else if i.1=29 then qz l (st++[true]) (lo+1) else if i.1=27 then qz l (st++[false]) lo else if i.1=31 then(if st.length=0 then qz l st lo else qz l (st.take (st.length-1)) (if st.getD (st.length-1) false=true then lo-1 else lo)) else qz l st lo
theorem sY{l l':List Bool}{i:Nat}(h:i<l.length):(l++l').getD i false=l.getD i false:=by
 simp[List.getD_eq_getElem?_getD,List.getElem?_append_left h]
theorem s9{l:List Bool}{x:Bool}:(l++[x]).getD l.length false=x:=by
 simp[List.getD_eq_getElem?_getD]
theorem nK{l:List Bool}{x:Bool}(hl:l.length<1100000):∀i j,i<l.length+1->j<1->((ah 4 1 l.length 0 (tC l)).app (l.length*1) (.li [.b x])).get (i*1+j)=tC (l++[x]) i j:=
 iU rfl (by omega) (λi j hi _=>by unfold tC;rw[sY hi]) (λj hj=>by
  obtain rfl:j=0:=by omega
  unfold tC
  rw[s9]
  rfl)
theorem kZ(cs:List (Int×Int))(hc:cs.length<=200):cg Tryz.prog 20 [.fs 2 cs.length (pI cs)] [.v (.b (decide (qz cs [] 0<=3)))]:=by
 refine az am x8 ⟨by simp,by decide⟩ ?_
 simp only[aQ]
 repeat first|with_reducible refine ay ?_|simp only[go_sem,simprocAttr]
 refine GA.wk (Wk.nil 3 1 4 (by simp only[go_sem,simprocAttr]) (by decide) (by simp only[go_sem,simprocAttr])) ?_
 simp only[da]
 refine GA.loop (I:=λm e H=>∃(k:Nat) (st:List Bool) (lo:Int),m=cs.length-k/\k<=cs.length/\qz cs [] 0=qz (cs.drop k) st lo/\st.length<=k/\ -200<=lo+k/\lo<=k/\e=aC [(0,.fs 2 cs.length (pI cs)),(3,.os 0 st.length),(4,.n .i64 lo),(5,.n .i64 k)]/\H=ag [ah 4 1 st.length 0 (tC st)]) (Wk.mk [0] [] ?_ ?_ ?_) ⟨0,[],0,rfl,by omega,rfl,by simp,by omega,by omega,rfl,rfl⟩ ?_
 ·simp only[aK,aJ,go_sem,simprocAttr]
  repeat' refine af ?_ ?_
  all_goals first|exact aR|skip
 ·exact .cons rfl (.r1) .nil
 ·simp
 rintro m e H ⟨k,st,lo,rfl,hk,hs,hsl,hlo,hlo2,rfl,rfl⟩
 have h0:(0:Int)<=(k:Int):=by omega
 by_cases h:(k:Int)<cs.length
 rotate_left
 ·repeat first|with_reducible refine ay ?_|simp only[h,decide_false,go_sem,simprocAttr]
  have:k=cs.length:=by omega
  subst this
  rw[List.drop_length,qz] at hs
  exact ai (by rw[hs]) rfl
 have hk':k<cs.length:=by omega
 rw[bU (d:=(0,0)) hk',qz] at hs
 by_cases h3:3<lo
 ·rw[if_pos h3] at hs
  have h3':¬lo<=3:=by omega
  repeat first|with_reducible refine ay ?_|simp only[h,h3',decide_true,decide_false,go_sem,simprocAttr]
  exact ai (by rw[hs,decide_eq_false h3']) rfl
 rw[if_neg h3] at hs
 have h3':lo<=3:=by omega
 have hlim:(st.length+1)*1<1099511627776/\st.length+1<1099511627776/\(st.length+1)*1<=140737488355328/\st.length+1<=140737488355328/\st.length+1<=9223372036854775807:=by omega
 by_cases e1:(cs.getD k (0,0)).1=29
 ·rw[if_pos e1] at hs
  have hg:=nK (x:=true) (l:=st) (by omega)
  simp only[Nat.mul_one] at hg
  have hl1:(st++[true]).length=st.length+1:=by simp
  repeat first|with_reducible refine ay ?_|simp only[h,h0,h3',bp,ja,e1,decide_true,hlim.1,hlim.2.1,hlim.2.2.1,hlim.2.2.2.1,hlim.2.2.2.2,go_sem,simprocAttr]
  refine⟨_,_,_,?_,Wk.mk [2] [] ?_ ?_ ?_,k+1,st++[true],lo+1,rfl,by omega,hs,by rw[hl1];omega,by omega,by omega,rfl,rfl⟩
  ·omega
  ·simp only[aK,aJ,hl1,go_sem,simprocAttr]
   repeat' refine af ?_ ?_
   all_goals first|exact aR|skip
  ·refine .cons rfl (.rows (x:=_) (by simp only[go_sem,simprocAttr];rfl) (by rfl) (by rfl) (by rfl) ?_ (Nat.le_refl _) (by decide) ?_ (λi j _ _=>rfl)) .nil
   ·simp only[go_sem,simprocAttr,hl1]
   ·simp only[go_sem,simprocAttr,hl1,Nat.mul_one]
    exact hg
  ·simp
 rw[if_neg e1] at hs
 by_cases e2:(cs.getD k (0,0)).1=27
 ·rw[if_pos e2] at hs
  have hg:=nK (x:=false) (l:=st) (by omega)
  simp only[Nat.mul_one] at hg
  have hl1:(st++[false]).length=st.length+1:=by simp
  repeat first|with_reducible refine ay ?_|simp only[h,h0,h3',bp,ja,e1,e2,decide_true,decide_false,hlim.1,hlim.2.1,hlim.2.2.1,hlim.2.2.2.1,hlim.2.2.2.2,go_sem,simprocAttr]
  refine⟨_,_,_,?_,Wk.mk [2] [] ?_ ?_ ?_,k+1,st++[false],lo,rfl,by omega,hs,by rw[hl1];omega,by omega,by omega,rfl,rfl⟩
  ·omega
  ·simp only[aK,aJ,hl1,go_sem,simprocAttr]
   repeat' refine af ?_ ?_
   all_goals first|exact aR|skip
  ·refine .cons rfl (.rows (x:=_) (by simp only[go_sem,simprocAttr];rfl) (by rfl) (by rfl) (by rfl) ?_ (Nat.le_refl _) (by decide) ?_ (λi j _ _=>rfl)) .nil
   ·simp only[go_sem,simprocAttr,hl1]
   ·simp only[go_sem,simprocAttr,hl1,Nat.mul_one]
    exact hg
  ·simp
 rw[if_neg e2] at hs
 by_cases e3:(cs.getD k (0,0)).1=31
 rotate_left
 ·rw[if_neg e3] at hs
  repeat first|with_reducible refine ay ?_|simp only[h,h0,h3',bp,ja,e1,e2,e3,decide_true,decide_false,go_sem,simprocAttr]
  refine⟨_,_,_,?_,Wk.mk [0] [] ?_ ?_ ?_,k+1,st,lo,rfl,by omega,hs,by omega,by omega,by omega,rfl,rfl⟩
  ·omega
  ·simp only[aK,aJ,go_sem,simprocAttr]
   repeat' refine af ?_ ?_
   all_goals first|exact aR|skip
  ·exact .cons rfl .k1 .nil
  ·simp
 rw[if_pos e3] at hs
 by_cases e4:st.length=0
 ·rw[if_pos e4] at hs
  have w1:IntKind.i64.wrap ((st.length:Int)-1)=(st.length:Int)-1:=ao (by omega)
  have g1:¬(0:Int)<=(st.length:Int)-1:=by omega
  repeat first|with_reducible refine ay ?_|simp only[h,h0,h3',bp,ja,e1,e2,e3,w1,g1,ge_iff_le,decide_true,decide_false,go_sem,simprocAttr]
  refine⟨_,_,_,?_,Wk.mk [0] [] ?_ ?_ ?_,k+1,st,lo,rfl,by omega,hs,by omega,by omega,by omega,rfl,rfl⟩
  ·omega
  ·simp only[aK,aJ,go_sem,simprocAttr]
   repeat' refine af ?_ ?_
   all_goals first|exact aR|skip
  ·exact .cons rfl .k1 .nil
  ·simp
 rw[if_neg e4] at hs
 obtain⟨n,hn⟩:∃n,st.length=n+1:=⟨st.length-1,by omega⟩
 have w1:IntKind.i64.wrap (((n+1:Nat):Int)-1)=(n:Int):=(ao (by omega)).trans (by omega)
 have g1:(0:Int)<=(n:Int):=by omega
 have g2:(n:Int)<(n+1:Nat):=by omega
 rw[hn,Nat.add_sub_cancel] at hs
 have hl1:(st.take n).length=n:=by rw[List.length_take];omega
 have g3:n<n+1:=Nat.lt_succ_self n
 have g4:(ah 4 1 (n+1) 0 (tC st)).get n= .b (st.getD n false):=by
  have:=aE (ty:=4) (esz:=1) (n:=n+1) (z:=0) (row:=tC st) n 0 (by decide)
  rw[Nat.mul_one,Nat.add_zero] at this
  exact this
 have g5:(n:Int)<=(n+1:Nat):=by omega
 cases hb:st.getD n false
 ·rw[hb] at hs
  simp only[Bool.false_eq_true,if_false] at hs
  repeat first|with_reducible refine ay ?_|simp only[h,h0,h3',bp,ja,e1,e2,e3,w1,g1,g2,g3,g4,g5,hn,tC0,hb,ge_iff_le,decide_true,decide_false,go_sem,simprocAttr]
  refine⟨_,_,_,?_,Wk.mk [0] [] ?_ ?_ ?_,k+1,st.take n,lo,rfl,by omega,hs,by rw[hl1];omega,by omega,by omega,rfl,rfl⟩
  ·omega
  ·simp only[aK,aJ,hl1,go_sem,simprocAttr]
   repeat' refine af ?_ ?_
   all_goals first|exact aR|skip
  ·refine .cons rfl (.rows (x:=_) (by simp only[go_sem,simprocAttr];rfl) (by rfl) (by rfl) (by rfl) ?_ (Nat.le_refl _) (by decide) ?_ (λi j _ _=>rfl)) .nil
   ·simp only[go_sem,simprocAttr,hl1];omega
   ·intro i j hi hj
    rw[hl1] at hi
    simp only[go_sem,simprocAttr]
    have hq:=aE (ty:=4) (esz:=1) (n:=n+1) (z:=0) (row:=tC st) i j hj
    rw[Nat.mul_one] at hq
    rw[hq]
    unfold tC
    simp[List.getD_eq_getElem?_getD,List.getElem?_take,hi]
  ·simp
 ·rw[hb] at hs
  simp only[if_true] at hs
  have w2:IntKind.i64.wrap (lo-1)=lo-1:=ao (by omega)
  repeat first|with_reducible refine ay ?_|simp only[h,h0,h3',bp,ja,e1,e2,e3,w1,w2,g1,g2,g3,g4,g5,hn,tC0,hb,ge_iff_le,decide_true,decide_false,go_sem,simprocAttr]
  refine⟨_,_,_,?_,Wk.mk [0] [] ?_ ?_ ?_,k+1,st.take n,lo-1,rfl,by omega,hs,by rw[hl1];omega,by omega,by omega,rfl,rfl⟩
  ·omega
  ·simp only[aK,aJ,hl1,go_sem,simprocAttr]
   repeat' refine af ?_ ?_
   all_goals first|exact aR|skip
  ·refine .cons rfl (.rows (x:=_) (by simp only[go_sem,simprocAttr];rfl) (by rfl) (by rfl) (by rfl) ?_ (Nat.le_refl _) (by decide) ?_ (λi j _ _=>rfl)) .nil
   ·simp only[go_sem,simprocAttr,hl1];omega
   ·intro i j hi hj
    rw[hl1] at hi
    simp only[go_sem,simprocAttr]
    have hq:=aE (ty:=4) (esz:=1) (n:=n+1) (z:=0) (row:=tC st) i j hj
    rw[Nat.mul_one] at hq
    rw[hq]
    unfold tC
    simp[List.getD_eq_getElem?_getD,List.getElem?_take,hi]
  ·simp
/-! ### Few-/
def Kb:List (Bool×Int)->Bool
 |[]=>true
 |a::l=>if 300<a.2/\a.2<=65536 then false else Kb l
def iA(la:List (Bool×Int))(cs:List (Int×Int)):Bool:=decide (la.length<=20)&&decide (cs.length<=200)&&decide (qz cs [] 0<=3)&&Kb la
theorem xD(la:List (Bool×Int))(loc:Int)(cs:List (Int×Int)):cg Tryz.prog 7 [aL la loc cs] [.v (.b (iA la cs))]:=by
 refine az am yd ⟨by simp,by decide⟩ ?_
 simp only[aQ,aL]
 by_cases h1:20<la.length
 ·have h1':(20:Int)<(la.length:Int):=by omega
  have e:iA la cs=false:=by simp only[iA,decide_eq_false (show ¬la.length<=20 by omega),Bool.false_and]
  repeat first|with_reducible refine ay ?_|simp only[h1',gt_iff_lt,decide_true,go_sem,simprocAttr]
  exact ai (by rw[e]) rfl
 have h1':¬(20:Int)<(la.length:Int):=by omega
 by_cases h2:200<cs.length
 ·have h2':(200:Int)<(cs.length:Int):=by omega
  have e:iA la cs=false:=by simp only[iA,decide_eq_false (show ¬cs.length<=200 by omega),Bool.false_and,Bool.and_false]
  repeat first|with_reducible refine ay ?_|simp only[h1',h2',gt_iff_lt,decide_true,decide_false,go_sem,simprocAttr]
  exact ai (by rw[e]) rfl
 have h2':¬(200:Int)<(cs.length:Int):=by omega
 repeat first|with_reducible refine ay ?_|simp only[h1',h2',gt_iff_lt,decide_false,go_sem,simprocAttr]
 refine ae [] (fargs:=[.fs 2 cs.length (pI cs)]) (aV.same rfl) (kZ cs (by omega)) ?_ ?_
 ·simp only[go_sem,simprocAttr]
 by_cases h3:qz cs [] 0<=3
 rotate_left
 ·have e:iA la cs=false:=by simp only[iA,decide_eq_false h3,Bool.false_and,Bool.and_false]
  repeat first|with_reducible refine ay ?_|simp only[h3,decide_false,go_sem,simprocAttr]
  exact ai (by rw[e]) rfl
 have e:iA la cs=Kb la:=by simp only[iA,decide_eq_true h3,decide_eq_true (show la.length<=20 by omega),decide_eq_true (show cs.length<=200 by omega),Bool.true_and]
 repeat first|with_reducible refine ay ?_|simp only[h3,decide_true,go_sem,simprocAttr]
 refine GA.loop (I:=λm e H=>∃(k:Nat),m=la.length-k/\k<=la.length/\Kb la=Kb (la.drop k)/\e=aC [(1,.p 0 0),(3,.n .i64 k)]/\H=ag [aj 0 25 [.fs 2 la.length (pA la),.n .i64 loc,.fs 2 cs.length (pI cs)]]) (Wk.mk [0] [] ?_ ?_ ?_) ⟨0,rfl,by omega,rfl,rfl,rfl⟩ ?_
 ·simp only[aK,aJ,go_sem,simprocAttr]
  repeat' refine af ?_ ?_
  all_goals first|exact aR|skip
 ·exact .cons rfl .ls .nil
 ·simp
 rintro m e H ⟨k,rfl,hk,hs,rfl,rfl⟩
 have h0:(0:Int)<=(k:Int):=by omega
 by_cases h:(k:Int)<la.length
 rotate_left
 ·repeat first|with_reducible refine ay ?_|simp only[h,decide_false,go_sem,simprocAttr]
  have:k=la.length:=by omega
  subst this
  rw[List.drop_length,Kb] at hs
  exact ai (by rw[e,hs]) rfl
 have hk':k<la.length:=by omega
 rw[bU (d:=(false,0)) hk',Kb] at hs
 by_cases g1:300<(la.getD k (false,0)).2
 rotate_left
 ·rw[if_neg (λq=>g1 q.1)] at hs
  repeat first|with_reducible refine ay ?_|simp only[h,h0,um,ul,g1,gt_iff_lt,decide_true,decide_false,go_sem,simprocAttr]
  refine⟨_,_,_,?_,Wk.mk [0] [] ?_ ?_ ?_,k+1,rfl,by omega,hs,rfl,rfl⟩
  ·omega
  ·simp only[aK,aJ,go_sem,simprocAttr]
   repeat' refine af ?_ ?_
   all_goals first|exact aR|skip
  ·exact .cons rfl .ls .nil
  ·simp
 by_cases g2:(la.getD k (false,0)).2<=65536
 ·rw[if_pos ⟨g1,g2⟩] at hs
  repeat first|with_reducible refine ay ?_|simp only[h,h0,um,ul,g1,g2,gt_iff_lt,decide_true,go_sem,simprocAttr]
  exact ai (by rw[e,hs]) rfl
 ·rw[if_neg (λq=>g2 q.2)] at hs
  repeat first|with_reducible refine ay ?_|simp only[h,h0,um,ul,g1,g2,gt_iff_lt,decide_true,decide_false,go_sem,simprocAttr]
  refine⟨_,_,_,?_,Wk.mk [0] [] ?_ ?_ ?_,k+1,rfl,by omega,hs,rfl,rfl⟩
  ·omega
  ·simp only[aK,aJ,go_sem,simprocAttr]
   repeat' refine af ?_ ?_
   all_goals first|exact aR|skip
  ·exact .cons rfl .ls .nil
  ·simp
end Go.Proofs.YthehakngpbjgjaaGreat