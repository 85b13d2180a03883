/- A part of the proof of CostReports: CmA CmC CmB CmD CmE. No condition. -/
import Derived.Test.YtdpkgnmmikebdaaGreatGe20
import Derived.Test.YtdpkgnmmikebdaaGreatGe21
import Derived.Test.YtdpkgnmmikebdaaGreatGe17
set_option linter.unusedSimpArgs false
set_option linter.unusedVariables false
set_option linter.constructorNameAsVariable false
set_option maxRecDepth 100000
set_option maxHeartbeats 4000000
namespace Go.Proofs.YtdpkgnmmikebdaaGreat
open Go.RowKit
def pA(l:List (Bool×Int))(i j:Nat):AV:=if j=0 then .b (l.getD i (false,0)).1 else .n .i64 (l.getD i (false,0)).2
def pI(l:List (Int×Int))(i j:Nat):AV:=if j=0 then .n .i64 (l.getD i (0,0)).1 else .n .u32 (l.getD i (0,0)).2
theorem A8(l:List (Bool×Int))(i:Nat):pA l i 0= .b (l.getD i (false,0)).1:=rfl
theorem A7(l:List (Bool×Int))(i:Nat):pA l i 1= .n .i64 (l.getD i (false,0)).2:=rfl
theorem cT(l:List (Int×Int))(i:Nat):pI l i 0= .n .i64 (l.getD i (0,0)).1:=rfl
theorem oZ(l:List (Int×Int))(i:Nat):pI l i 1= .n .u32 (l.getD i (0,0)).2:=rfl
def aK(la:List (Bool×Int))(loc:Int)(cs:List (Int×Int)):AV:= .agg [.fs 2 la.length (pA la),.n .i64 loc,.fs 2 cs.length (pI cs)]
theorem cE{α:Type}{d:α}{l:List α}{k:Nat}(h:k<l.length):l.drop k=l.getD k d::l.drop (k+1):=by
 rw[List.drop_eq_getElem_cons h,List.getD_eq_getElem?_getD,List.getElem?_eq_getElem h];rfl
/-! ### the table of operations-/
def kQ(k:Int):Int:=if k=0 then 4294967296 else if k=1\/k=2 then 16 else if k=3\/k=4 then 8 else if k=35 then 16 else 1
def kW(k:Int):Bool:=decide (k<=4)||decide (k=35)
def ya(k:Nat):List AV->Bool
 |[.s _,.s _,.s _,.n .u64 l,.b a]=>decide (l=kQ k)&&a==kW k
 |_=>false
noncomputable def Nx:Bool:=match nZ (sj O9.get 3000 20) 97 [] with
 |some (.agg L)=>decide (L.length=180)&&(List.range 36).all λk=>ya k ((L.drop (k*5)).take 5)
 |_=>false
theorem tP:Nx=true:=by kernel_rfl
theorem nY{P:Program}{C:bP}(hC:∀B,bM P B C){g:FuncId}{xs:List AV}{v:AV}(h:nZ C g xs=some v):bU P g xs [.v v]:=by
 unfold nZ at h
 split at h
 ·rename_i v' H' hr
  cases hs:v'.sc 3 with
  |false=>rw[hs] at h;cases h
  |true=>
   rw[hs] at h
   cases h
   exact pB hC hr hs
 ·cases h
theorem qv{k:Nat}{l:List AV}(h:ya k l=true):∃a b c,l=[.s a,.s b,.s c,.n .u64 (kQ k),.b (kW k)]:=by
 unfold ya at h
 split at h
 ·rename_i a b c l q
  simp only[Bool.and_eq_true,decide_eq_true_eq,beq_iff_eq] at h
  exact⟨a,b,c,by rw[h.1,h.2]⟩
 ·cases h
theorem B1:∃L:List AV,bU Tryz.prog 97 [] [.v (.agg L)]/\L.length=36*5/\∀k:Nat,k<36->∃a b c,(L.drop (k*5)).take 5=[.s a,.s b,.s c,.n .u64 (kQ k),.b (kW k)]:=by
 have h:=tP
 unfold Nx at h
 split at h
 ·rename_i L hr
  simp only[Bool.and_eq_true,decide_eq_true_eq] at h
  exact⟨L,nY (λB=>lx B aE pK 3000 20) hr,h.1,λk hk=>qv (List.all_eq_true.1 h.2 k (List.mem_range.2 hk))⟩
 ·cases h
def opV(a b c:ByteArray)(k:Int):AV:= .agg [.s a,.s b,.s c,.n .u64 (kQ k),.b (kW k)]
def rY:AV:= .agg [.s ⟨#[]⟩,.s ⟨#[]⟩,.s ⟨#[]⟩,.n .u64 0,.b false]
theorem zn(op:Int)(h:op<0\/36<=op):bU Tryz.prog 70 [.n .i64 op] [.v rY,.v (.b false)]:=by
 refine ah aE Bc ⟨by simp,by decide⟩ ?_
 simp only[aF,rY]
 by_cases h0:op<0
 ·repeat first|with_reducible refine au ?_|simp only[h0,decide_true,go_sem,simprocAttr]
  exact⟨[_,_],rfl,⟨rfl,rfl⟩,⟨rfl,rfl⟩,trivial⟩
 ·have h1:36<=op:=by omega
  repeat first|with_reducible refine au ?_|simp only[h0,h1,ge_iff_le,decide_true,decide_false,go_sem,simprocAttr]
  exact⟨[_,_],rfl,⟨rfl,rfl⟩,⟨rfl,rfl⟩,trivial⟩
theorem mb(k:Nat)(hk:k<36):∃a b c,bU Tryz.prog 70 [.n .i64 k] [.v (opV a b c k),.v (.b true)]:=by
 obtain⟨L,hL,hlen,hrow⟩:=B1
 obtain⟨a,b,c,hr⟩:=hrow k hk
 refine⟨a,b,c,?_⟩
 refine ah aE Bc ⟨by simp,by decide⟩ ?_
 simp only[aF,opV]
 have h0:¬((k:Int)<0):=by omega
 have h1:¬((36:Int)<=k):=by omega
 have h2:(0:Int)<=(k:Int):=by omega
 have h3:(k:Int)<36:=by omega
 repeat first|with_reducible refine au ?_|simp only[h0,h1,ge_iff_le,decide_true,decide_false,go_sem,simprocAttr]
 refine b6 ([]) hL ?_
 repeat first|with_reducible refine au ?_|simp only[hlen,h2,h3,hr,Int.toNat_natCast,and_self,go_sem,simprocAttr]
 exact⟨[_,_],rfl,⟨rfl,rfl⟩,⟨rfl,rfl⟩,trivial⟩
/-! ### an instruction-/
def dQ(i:Int×Int):Int:=if i.1<0\/36<=i.1 then 1 else if kQ i.1<=i.2 then 2 else 0
theorem sK(op arg:Int)(ha:0<=arg)(ha2:arg<4294967296):bU Tryz.prog 94 [.agg [.n .i64 op,.n .u32 arg]] [.v (.n .i64 (dQ (op,arg)))]:=by
 refine ah aE QC ⟨by simp,by decide⟩ ?_
 simp only[aF]
 have hw:IntKind.u64.wrap arg=arg:=by
  unfold IntKind.wrap;simp[IntKind.signed,IntKind.bits];omega
 repeat first|with_reducible refine au ?_|simp only[go_sem,simprocAttr]
 by_cases h:op<0\/36<=op
 ·refine b6 ([.n .i64 op]) (zn op h) ?_
  simp only[rY]
  repeat first|with_reducible refine au ?_|simp only[go_sem,simprocAttr]
  exact ae (by simp only[dQ,h,if_true]) rfl
 ·obtain⟨k,rfl⟩:∃k:Nat,op=k:=⟨op.toNat,by omega⟩
  obtain⟨a,b,c,hk⟩:=mb k (by omega)
  refine b6 ([.n .i64 k]) hk ?_
  simp only[opV]
  by_cases h2:kQ k<=arg
  ·repeat first|with_reducible refine au ?_|simp only[hw,h2,ge_iff_le,decide_true,go_sem,simprocAttr]
   exact ae (by simp only[dQ,h,h2,if_true,if_false]) rfl
  ·repeat first|with_reducible refine au ?_|simp only[hw,h2,ge_iff_le,decide_false,go_sem,simprocAttr]
   exact ae (by simp only[dQ,h,h2,if_false]) rfl
/-! ### arrays-/
def i8:List (Bool×Int)->Int->Int
 |[],_=>0
 |a::l,left=>if a.2<1\/left<a.2 then 2 else i8 l (left-a.2)
def dc(la:List (Bool×Int)):Int:=if 8<la.length then 6 else i8 la 65536
theorem ti(la:List (Bool×Int))(hl:la.length<=9223372036854775807):bU Tryz.prog 93 [.fs 2 la.length (pA la)] [.v (.n .i64 (dc la))]:=by
 refine ah aE R3 ⟨by simp,by decide⟩ ?_
 simp only[aF]
 by_cases h8:8<la.length
 ·have h8':(8:Int)<(la.length:Int):=by omega
  repeat first|with_reducible refine au ?_|simp only[h8',gt_iff_lt,decide_true,go_sem,simprocAttr]
  exact ae (by simp only[dc,h8,if_true]) rfl
 have h8':¬(8:Int)<(la.length:Int):=by omega
 have hE:dc la=i8 la 65536:=by simp only[dc,h8,if_false]
 repeat first|with_reducible refine au ?_|simp only[h8',gt_iff_lt,decide_false,go_sem,simprocAttr]
 refine GA.loop (I:=λm e H=>∃(k:Nat) (left:Int),m=la.length-k/\k<=la.length/\i8 la 65536=i8 (la.drop k) left/\0<=left/\left<=65536/\e=aA [(3,.n .i64 left),(9,.fs 2 la.length (pA la)),(10,.n .i64 la.length),(11,.n .i64 k)]/\H=ag []) (Wk.mk [] [] ?_ ?_ ?_) ⟨0,65536,rfl,by omega,rfl,by omega,by omega,rfl,rfl⟩ ?_
 ·exact aZ
 ·trivial
 ·decide
 rintro m e H ⟨k,left,rfl,hk,hs,hl0,hl1,rfl,rfl⟩
 repeat first|with_reducible refine au ?_|simp only[go_sem,simprocAttr]
 refine⟨λh=>?_,λh=>?_⟩
 ·have hk':k<la.length:=by omega
  have h0:(0:Int)<=(k:Int):=by omega
  rw[cE (d:=(false,0)) hk',i8] at hs
  by_cases h1:(la.getD k (false,0)).2<1
  ·repeat first|with_reducible refine au ?_|simp only[h0,h,A8,A7,h1,decide_true,go_sem,simprocAttr]
   rw[if_pos (.inl h1)] at hs
   exact ae (by rw[hE,hs]) rfl
  by_cases h2:left<(la.getD k (false,0)).2
  ·repeat first|with_reducible refine au ?_|simp only[h0,h,A8,A7,h1,h2,gt_iff_lt,decide_true,decide_false,go_sem,simprocAttr]
   rw[if_pos (.inr h2)] at hs
   exact ae (by rw[hE,hs]) rfl
  rw[if_neg (by omega)] at hs
  repeat first|with_reducible refine au ?_|simp only[h0,h,A8,A7,h1,h2,gt_iff_lt,decide_false,go_sem,simprocAttr]
  refine⟨_,_,_,?_,Wk.mk [] [] ?_ ?_ ?_,k+1,left-(la.getD k (false,0)).2,rfl,by omega,hs,by omega,by omega,rfl,rfl⟩
  ·omega
  ·exact aZ
  ·trivial
  ·decide
 ·repeat first|with_reducible refine au ?_|simp only[go_sem,simprocAttr]
  have:k=la.length:=by omega
  subst this
  rw[List.drop_length,i8] at hs
  exact ae (by rw[hE,hs]) rfl
/-! ### what is in form-/
def co:List (Int×Int)->Int
 |[]=>0
 |i::l=>if dQ i=0 then co l else dQ i
def bh(la:List (Bool×Int))(loc:Int)(cs:List (Int×Int)):Int:=if dc la=0 then(if loc<0\/16<loc then 2 else if 1024<cs.length then 6 else co cs) else dc la
def cL(cs:List (Int×Int)):Prop:=∀i ∈ cs,0<=i.2/\i.2<4294967296
theorem eN{α:Type}{l:List α}{k:Nat}{d:α}(h:k<l.length):l.getD k d ∈ l:=by rw[List.getD_eq_getElem?_getD,List.getElem?_eq_getElem h];exact List.getElem_mem _
theorem ra(la:List (Bool×Int))(loc:Int)(cs:List (Int×Int))(hl:la.length<=9223372036854775807)(hc:cs.length<=9223372036854775807)(ha:cL cs):bU Tryz.prog 67 [aK la loc cs] [.v (.n .i64 (bh la loc cs))]:=by
 refine ah aE TH ⟨by simp,by decide⟩ ?_
 simp only[aF,aK]
 repeat first|with_reducible refine au ?_|simp only[go_sem,simprocAttr]
 refine b6 ([.fs 2 la.length (pA la)]) (ti la hl) ?_
 by_cases hA:dc la=0
 rotate_left
 ·repeat first|with_reducible refine au ?_|simp only[hA,ne_eq,not_false_eq_true,decide_true,go_sem,simprocAttr]
  exact ae (by simp only[bh,hA,if_false]) rfl
 repeat first|with_reducible refine au ?_|simp only[hA,ne_eq,not_true_eq_false,decide_false,go_sem,simprocAttr]
 by_cases h1:loc<0
 ·repeat first|with_reducible refine au ?_|simp only[h1,decide_true,go_sem,simprocAttr]
  exact ae (by simp only[bh,hA,h1,true_or,if_true]) rfl
 by_cases h2:16<loc
 ·repeat first|with_reducible refine au ?_|simp only[h1,h2,gt_iff_lt,decide_true,decide_false,go_sem,simprocAttr]
  exact ae (by simp only[bh,hA,h2,or_true,if_true]) rfl
 have hlo:¬(loc<0\/16<loc):=by omega
 by_cases h3:1024<cs.length
 ·have h3':(1024:Int)<(cs.length:Int):=by omega
  repeat first|with_reducible refine au ?_|simp only[h1,h2,h3',gt_iff_lt,decide_true,decide_false,go_sem,simprocAttr]
  exact ae (by simp only[bh,hA,hlo,h3,if_true,if_false]) rfl
 have h3':¬(1024:Int)<(cs.length:Int):=by omega
 repeat first|with_reducible refine au ?_|simp only[h1,h2,h3',gt_iff_lt,decide_false,go_sem,simprocAttr]
 refine GA.loop (I:=λm e H=>∃(k:Nat),m=cs.length-k/\k<=cs.length/\co cs=co (cs.drop k)/\e=aA [(28,.fs 2 cs.length (pI cs)),(29,.n .i64 cs.length),(30,.n .i64 k)]/\H=ag []) (Wk.mk [] [] ?_ ?_ ?_) ⟨0,rfl,by omega,rfl,rfl,rfl⟩ ?_
 ·exact aZ
 ·trivial
 ·decide
 rintro m e H ⟨k,rfl,hk,hs,rfl,rfl⟩
 have hE:bh la loc cs=co cs:=by simp only[bh,hA,hlo,h3,if_true,if_false]
 repeat first|with_reducible refine au ?_|simp only[go_sem,simprocAttr]
 refine⟨λh=>?_,λh=>?_⟩
 ·have hk':k<cs.length:=by omega
  have h0:(0:Int)<=(k:Int):=by omega
  have hm:=ha _ (eN (d:=(0,0)) hk')
  rw[cE (d:=(0,0)) hk',co] at hs
  repeat first|with_reducible refine au ?_|simp only[h0,h,cT,oZ,go_sem,simprocAttr]
  refine b6 ([.agg [.n .i64 (cs.getD k (0,0)).1,.n .u32 (cs.getD k (0,0)).2]]) (sK _ _ hm.1 hm.2) ?_
  by_cases hi:dQ (cs.getD k (0,0))=0
  ·rw[if_pos hi] at hs
   repeat first|with_reducible refine au ?_|simp only[hi,ne_eq,not_true_eq_false,decide_false,go_sem,simprocAttr]
   refine⟨_,_,_,?_,Wk.mk [] [] ?_ ?_ ?_,k+1,rfl,by omega,hs,rfl,rfl⟩
   ·omega
   ·exact aZ
   ·trivial
   ·decide
  ·rw[if_neg hi] at hs
   repeat first|with_reducible refine au ?_|simp only[hi,ne_eq,not_false_eq_true,decide_true,go_sem,simprocAttr]
   exact ae (by rw[hE,hs]) rfl
 ·repeat first|with_reducible refine au ?_|simp only[go_sem,simprocAttr]
  have:k=cs.length:=by omega
  subst this
  rw[List.drop_length,co] at hs
  exact ae (by rw[hE,hs]) rfl
theorem bq{k k':IntKind}{a b:Int}(h:0<=b):dA (binOp .shr 0 (.int k a) (.int k' b))=some (.n k (a.fdiv (2^min b.toNat k.bits))):=by
 unfold binOp Op.shift
 simp only[if_neg (Int.not_lt.2 h)]
 rfl
theorem oS{k k':IntKind}{a b:Int}(h:0<=b):dA (binOp .shl 0 (.int k a) (.int k' b))=some (.n k (k.wrap (a*2^min b.toNat k.bits))):=by
 unfold binOp Op.shift
 simp only[if_neg (Int.not_lt.2 h)]
 rfl
theorem kg{k:IntKind}{a b:Int}(h:b≠0):dA (binOp .quo 0 (.int k a) (.int k b))=some (.n k (k.wrap (a.tdiv b))):=by
 unfold binOp Op.intDiv
 simp only[ne_eq,not_true_eq_false,if_false,if_neg h]
 rfl
theorem aaU(k:IntKind)(a b:Int):dA (binOp .or 0 (.int k a) (.int k b))=some (.n k (k.wrap ((BitVec.ofInt k.bits a|||BitVec.ofInt k.bits b).toNat:Int))):=by
 unfold binOp Op.intBits
 simp only[ne_eq,not_true_eq_false,if_false]
 rfl
def gH(n:Int):Int:=if n<0\/9007199254740991<n then 0 else n
theorem o7(n:Int):0<=gH n/\gH n<=9007199254740991:=by unfold gH;split<;>omega
theorem sA(n:Int):bU Tryz.prog 129 [.n .i64 n] [.v (.n .i64 (gH n))]:=by
 refine ah aE Ea ⟨by simp,by decide⟩ ?_
 simp only[aF]
 by_cases h0:n<0
 ·repeat first|with_reducible refine au ?_|simp only[h0,decide_true,go_sem,simprocAttr]
  exact ae (by simp only[gH,h0,true_or,if_true]) rfl
 by_cases h1:9007199254740991<n
 ·repeat first|with_reducible refine au ?_|simp only[h0,h1,gt_iff_lt,decide_true,decide_false,go_sem,simprocAttr]
  exact ae (by simp only[gH,h1,or_true,if_true]) rfl
 ·repeat first|with_reducible refine au ?_|simp only[h0,h1,gt_iff_lt,decide_false,go_sem,simprocAttr]
  exact ae (by simp only[gH,h0,h1,or_self,if_false]) rfl
theorem OC:(2:Int)^min 32 64=4294967296:=by decide
theorem OD:(2:Int)^min 16 64=65536:=by decide
theorem e8:(2:Int)^min 8 64=256:=by decide
def xX:ByteArray:=⟨#[0,1,2,2,3,3,3,3,4,4,4,4,4,4,4,4,5,5,5,5,5,5,5,5,5,5,5,5,5,5,5,5,6,6,6,6,6,6,6,6,6,6,6,6,6,6,6,6,6,6,6,6,6,6,6,6,6,6,6,6,6,6,6,6,7,7,7,7,7,7,7,7,7,7,7,7,7,7,7,7,7,7,7,7,7,7,7,7,7,7,7,7,7,7,7,7,7,7,7,7,7,7,7,7,7,7,7,7,7,7,7,7,7,7,7,7,7,7,7,7,7,7,7,7,7,7,7,7,8,8,8,8,8,8,8,8,8,8,8,8,8,8,8,8,8,8,8,8,8,8,8,8,8,8,8,8,8,8,8,8,8,8,8,8,8,8,8,8,8,8,8,8,8,8,8,8,8,8,8,8,8,8,8,8,8,8,8,8,8,8,8,8,8,8,8,8,8,8,8,8,8,8,8,8,8,8,8,8,8,8,8,8,8,8,8,8,8,8,8,8,8,8,8,8,8,8,8,8,8,8,8,8,8,8,8,8,8,8,8,8,8,8,8,8,8,8,8,8,8,8,8,8,8,8,8,8]⟩
def aaP:Bool:=(List.range 256).all λj=>match xX[j]? with
 |some c=>decide (c.toNat<=8)
 |none=>false
theorem xW:aaP=true:=by kernel_rfl
def lR(j:Nat):Int:=match xX[j]? with
 |some c=>c.toNat
 |none=>0
theorem jv(j:Nat)(h:j<256):∃c,xX[j]? =some c/\(c.toNat:Int)=lR j/\0<=lR j/\lR j<=8:=by
 have:=List.all_eq_true.1 xW j (List.mem_range.2 h)
 unfold lR
 split at this
 ·rename_i c hc
  rw[hc]
  have:=of_decide_eq_true this
  exact⟨c,rfl,rfl,by omega,by omega⟩
 ·cases this
abbrev adw:List AO:=
 [o1 19 (.mv (.t 2)),o1 20 (.mv (.t 0)),o1 21 (.cvi .u8 (.t 20)),o1 22 (.sx (.c (.s xX)) (.t 21)),o1 23 (.cvi .i64 (.t 22)),o1 24 (.bin .add (.t 19) (.t 23)),o1 2 (.mv (.t 24))]
theorem Nr:xf=adw:=by kernel_rfl
def jK(y n:Int):Int:=if 256<=y then n+8+lR (y / 256).toNat else n+lR y.toNat
def ma(y n:Int):Int:=if 65536<=y then jK (y / 65536) (n+16) else jK y n
def ep(x:Int):Int:=if 4294967296<=x then ma (x / 4294967296) 32 else ma x 0
theorem lA{y n:Int}(h0:0<=y)(h1:y<65536)(hn:0<=n)(hn2:n<=40\/(n<=48/\y<256)):0<=jK y n/\jK y n<=56:=by
 unfold jK
 split
 ·obtain⟨_,_,_,q1,q2⟩:=jv (y / 256).toNat (by omega)
  omega
 ·obtain⟨_,_,_,q1,q2⟩:=jv y.toNat (by omega)
  omega
theorem t9{x:Int}(h0:0<=x)(h1:x<=9007199254740991):0<=ep x/\ep x<=56:=by
 unfold ep ma
 split
 ·split
  ·exact lA (by omega) (by omega) (by omega) (.inr ⟨by omega,by omega⟩)
  ·exact lA (by omega) (by omega) (by omega) (.inl (by omega))
 ·split
  ·exact lA (by omega) (by omega) (by omega) (.inl (by omega))
  ·exact lA (by omega) (by omega) (by omega) (.inl (by omega))
theorem vE(x:Int)(h0:0<=x)(h1:x<=9007199254740991):bU Tryz.prog 201 [.n .u64 x] [.v (.n .i64 (ep x))]:=by
 have s32:(0:Int)<=32:=by decide
 have s16:(0:Int)<=16:=by decide
 have s8:(0:Int)<=8:=by decide
 have a1:IntKind.i64.wrap 48=48:=rfl
 have a2:IntKind.i64.wrap 40=40:=rfl
 have a3:IntKind.i64.wrap 16=16:=rfl
 have a4:IntKind.i64.wrap 8=8:=rfl
 have a5:IntKind.i64.wrap 24=24:=rfl
 have fin:∀(y n:Int),0<=y->y<256->0<=n->n<=48->∃c,xX[y.toNat]? =some c/\IntKind.u8.wrap y=y/\IntKind.i64.wrap (c.toNat:Int)=c.toNat/\IntKind.i64.wrap (n+(c.toNat:Int))=n+lR y.toNat:=by
  intro y n hy0 hy1 hn0 hn1
  obtain⟨c,hc,hc1,q1,q2⟩:=jv y.toNat (by omega)
  exact⟨c,hc,by rw[IntKind.wrap_u8];omega,aj (by omega),by rw[hc1];exact aj (by omega)⟩
 refine ah aE D7 ⟨by simp,by decide⟩ ?_
 simp only[aF]
 rw[Nr]
 by_cases g1:4294967296<=x
 ·by_cases g2:65536<=x / 4294967296
  ·have g3:¬256<=x / 4294967296 / 65536:=by omega
   have hy:(0:Int)<=x / 4294967296 / 65536:=by omega
   obtain⟨c,q1,q2,q3,q4⟩:=fin (x / 4294967296 / 65536) 48 hy (by omega) (by omega) (by omega)
   repeat first|with_reducible refine au ?_|simp only[g1,ge_iff_le,decide_true,decide_false,bq s32,bq s16,bq s8,OC,OD,e8,g2,g3,a1,q1,q2,q3,q4,hy,go_sem,simprocAttr]
   exact ae (by simp only[ep,ma,jK,g1,g2,g3,if_true,if_false,Int.reduceAdd]) rfl
  ·by_cases g3:256<=x / 4294967296
   ·have hy:(0:Int)<=x / 4294967296 / 256:=by omega
    obtain⟨c,q1,q2,q3,q4⟩:=fin (x / 4294967296 / 256) 40 hy (by omega) (by omega) (by omega)
    repeat first|with_reducible refine au ?_|simp only[g1,ge_iff_le,decide_true,decide_false,bq s32,bq s16,bq s8,OC,OD,e8,g2,g3,a2,q1,q2,q3,q4,hy,go_sem,simprocAttr]
    exact ae (by simp only[ep,ma,jK,g1,g2,g3,if_true,if_false,Int.reduceAdd]) rfl
   ·have hy:(0:Int)<=x / 4294967296:=by omega
    obtain⟨c,q1,q2,q3,q4⟩:=fin (x / 4294967296) 32 hy (by omega) (by omega) (by omega)
    repeat first|with_reducible refine au ?_|simp only[g1,ge_iff_le,decide_true,decide_false,bq s32,bq s16,bq s8,OC,OD,e8,g2,g3,q1,q2,q3,q4,hy,go_sem,simprocAttr]
    exact ae (by simp only[ep,ma,jK,g1,g2,g3,if_true,if_false,Int.reduceAdd]) rfl
 ·by_cases g2:65536<=x
  ·by_cases g3:256<=x / 65536
   ·have hy:(0:Int)<=x / 65536 / 256:=by omega
    obtain⟨c,q1,q2,q3,q4⟩:=fin (x / 65536 / 256) 24 hy (by omega) (by omega) (by omega)
    repeat first|with_reducible refine au ?_|simp only[g1,ge_iff_le,decide_true,decide_false,bq s32,bq s16,bq s8,OC,OD,e8,g2,g3,a3,a5,q1,q2,q3,q4,hy,go_sem,simprocAttr]
    exact ae (by simp only[ep,ma,jK,g1,g2,g3,if_true,if_false,Int.reduceAdd]) rfl
   ·have hy:(0:Int)<=x / 65536:=by omega
    obtain⟨c,q1,q2,q3,q4⟩:=fin (x / 65536) 16 hy (by omega) (by omega) (by omega)
    repeat first|with_reducible refine au ?_|simp only[g1,ge_iff_le,decide_true,decide_false,bq s32,bq s16,bq s8,OC,OD,e8,g2,g3,a3,q1,q2,q3,q4,hy,go_sem,simprocAttr]
    exact ae (by simp only[ep,ma,jK,g1,g2,g3,if_true,if_false,Int.reduceAdd]) rfl
  ·by_cases g3:256<=x
   ·have hy:(0:Int)<=x / 256:=by omega
    obtain⟨c,q1,q2,q3,q4⟩:=fin (x / 256) 8 hy (by omega) (by omega) (by omega)
    repeat first|with_reducible refine au ?_|simp only[g1,ge_iff_le,decide_true,decide_false,bq s32,bq s16,bq s8,OC,OD,e8,g2,g3,a4,q1,q2,q3,q4,hy,go_sem,simprocAttr]
    exact ae (by simp only[ep,ma,jK,g1,g2,g3,if_true,if_false,Int.reduceAdd]) rfl
   ·obtain⟨c,q1,q2,q3,q4⟩:=fin x 0 h0 (by omega) (by omega) (by omega)
    repeat first|with_reducible refine au ?_|simp only[g1,ge_iff_le,decide_true,decide_false,bq s32,bq s16,bq s8,OC,OD,e8,g2,g3,q1,q2,q3,q4,h0,go_sem,simprocAttr]
    exact ae (by simp only[ep,ma,jK,g1,g2,g3,if_true,if_false,Int.reduceAdd]) rfl
theorem t8(x:Int)(h0:0<=x)(h1:x<=9007199254740991):bU Tryz.prog 175 [.n .u64 x] [.v (.n .i64 (ep x))]:=by
 refine ah aE D8 ⟨by simp,by decide⟩ ?_
 simp only[aF]
 repeat first|with_reducible refine au ?_|simp only[go_sem,simprocAttr]
 refine b6 ([.n .u64 x]) (vE x h0 h1) ?_
 repeat first|with_reducible refine au ?_|simp only[go_sem,simprocAttr]
 exact ae rfl rfl
def kv(n:Int):Int:=if 1<=ep n then(ep n-1) / 7 else 0
theorem uh{n:Int}(h0:0<=n)(h1:n<=9007199254740991):0<=kv n/\kv n<=7:=by
 have:=t9 h0 h1
 unfold kv;split<;>omega
theorem qZ(n:Int)(h0:0<=n)(h1:n<=9007199254740991):bU Tryz.prog 130 [.n .i64 n] [.v (.n .i64 (kv n))]:=by
 have hl:=t9 h0 h1
 have hw:IntKind.u64.wrap n=n:=by rw[IntKind.wrap_u64];omega
 have hq:(7:Int)≠0:=by decide
 have hw2:IntKind.i64.wrap (ep n-1)=ep n-1:=aj (by omega)
 refine ah aE D9 ⟨by simp,by decide⟩ ?_
 simp only[aF]
 repeat first|with_reducible refine au ?_|simp only[hw,go_sem,simprocAttr]
 refine b6 ([.n .u64 n]) (t8 n h0 h1) ?_
 have key:IntKind.i64.wrap ((if 0<ep n-1 then ep n-1 else 0).tdiv 7)=kv n:=by
  unfold kv
  by_cases h:1<=ep n
  ·have e:(if 0<ep n-1 then ep n-1 else 0)=ep n-1:=by split<;>omega
   rw[e,if_pos h,Int.tdiv_eq_ediv_of_nonneg (by omega)]
   exact aj (by omega)
  ·rw[if_neg (by omega),if_neg h];rfl
 repeat first|with_reducible refine au ?_|simp only[hw2,ol,gz,rR,kg hq,go_sem,simprocAttr]
 exact ae (by rw[key]) rfl
/-! ### bytes-/
def bC(l:List Int)(i _j:Nat):AV:= .n .u8 (l.getD i 0)
theorem zD{l l':List Int}{i:Nat}{d:Int}(h:i<l.length):(l++l').getD i d=l.getD i d:=by
 simp[List.getD_eq_getElem?_getD,List.getElem?_append_left h]
theorem zF{l:List Int}{x d:Int}:(l++[x]).getD l.length d=x:=by
 simp[List.getD_eq_getElem?_getD]
def qN(N:Int):Nat->List Int
 |0=>[]
 |j+1=>IntKind.u8.wrap (N / 2^(8*j))::qN N j
theorem l9(N:Int):∀j,(qN N j).length=j
 |0=>rfl
 |j+1=>by simp only[qN,List.length_cons,l9 N j]
def eH(n:Int):List Int:=bits .or .u8 (IntKind.u8.wrap (255*2^(8-kv (gH n)).toNat)) (IntKind.u8.wrap (gH n / 2^(8*kv (gH n)).toNat))::qN (gH n) (kv (gH n)).toNat
theorem fQ(n:Int):(eH n).length<=8:=by
 have:=uh (o7 n).1 (o7 n).2
 simp only[eH,List.length_cons,l9];omega
theorem pN{l:List Int}{x:Int}(hl:l.length<1100000):∀i j,i<l.length+1->j<1->((ai 5 1 l.length 0 (bC l)).app (l.length*1) (.li [.n .u8 x])).get (i*1+j)=bC (l++[x]) i j:=
 lU rfl (by omega) (λi j hi _=>by unfold bC;rw[zD hi]) (λj hj=>by
  obtain rfl:j=0:=by omega
  unfold bC
  rw[zF]
  rfl)
theorem Ns(l:List Int)(hl:l.length<1000000)(n:Int){H:AH}{b:Nat}(hb:di (λb2=>[b].reverse[b2]?) [] H b (ai 5 1 l.length 0 (bC l))):oD Tryz.prog 95 [.os b l.length,.n .i64 n] H λv H'=>v= .os 0 (l++eH n).length/\H'=ag [ai 5 1 (l++eH n).length 0 (bC (l++eH n))]:=by
 refine yl aE Eb (by simp) ?_
 refine GA.wk (Wk.arg _ _ _ (by simp)) ?_
 refine GA.wk (e2:=aA [(0,.os 0 l.length),(1,.n .i64 n)]) (H2:=ag [ai 5 1 l.length 0 (bC l)]) (Wk.mk [b] [] ?_ ?_ ?_) ?_
 ·simp only[aF]
  simp only[ej,cQ,go_sem,simprocAttr]
  repeat' refine aW ?_ ?_
  all_goals first|exact iW|skip
 ·exact .cr hb .nil
 ·simp
 have hn:=o7 n
 have hf:=uh hn.1 hn.2
 have hE:eH n=bits .or .u8 (IntKind.u8.wrap (255*2^(8-kv (gH n)).toNat)) (IntKind.u8.wrap (gH n / 2^(8*kv (gH n)).toNat))::qN (gH n) (kv (gH n)).toNat:=rfl
 generalize hN:gH n=N at hn hf hE
 generalize hK:kv N=K at hf hE
 have v1:IntKind.i64.wrap (8-K)=8-K:=aj (by omega)
 have v2:IntKind.i64.wrap (8*K)=8*K:=aj (by omega)
 have s1:(0:Int)<=8-K:=by omega
 have s2:(0:Int)<=8*K:=by omega
 have h0:(0:Int)<=(l.length:Int):=by omega
 have hlim:(l.length+1)*1<1099511627776/\l.length+1<1099511627776/\(l.length+1)*1<=140737488355328/\l.length+1<=140737488355328/\l.length+1<=9223372036854775807:=by omega
 repeat first|with_reducible refine au ?_|simp only[go_sem,simprocAttr]
 refine b6 ([.n .i64 n]) (sA n) ?_
 repeat first|with_reducible refine au ?_|simp only[hN,go_sem,simprocAttr]
 refine b6 ([.n .i64 N]) (hK ▸ qZ N hn.1 hn.2) ?_
 repeat first|with_reducible refine au ?_|simp only[v1,v2,oS s1,bq s2,aaU,h0,hlim.1,hlim.2.1,hlim.2.2.1,hlim.2.2.2.1,hlim.2.2.2.2,decide_true,go_sem,simprocAttr]
 generalize hX:bits BinOp.or .u8 (IntKind.u8.wrap (255*2^(8-K).toNat)) (IntKind.u8.wrap (N / 2^(8*K).toNat))=X at hE
 have vK:IntKind.i64.wrap (K-1)=K-1:=aj (by omega)
 simp only[vK]
 refine GA.loop (I:=λm e H=>∃(j:Nat) (xs:List Int),m=j/\j<=7/\xs++qN N j=l++eH n/\xs.length<=l.length+8/\e=aA [(0,.os 0 xs.length),(1,.n .i64 N),(7,.n .i64 ((j:Int)-1))]/\H=ag [ai 5 1 xs.length 0 (bC xs)]) (Wk.mk [2] [] ?_ ?_ ?_) ⟨K.toNat,l++[X],rfl,by omega,by rw[hE];simp,by simp,rfl,rfl⟩ ?_
 ·simp only[ej,cQ,List.length_append,List.length_cons,List.length_nil,go_sem,simprocAttr]
  repeat' refine aW ?_ ?_
  all_goals first|exact iW|skip
 ·refine .cr (.rows (x:=_) (by simp only[go_sem,simprocAttr];rfl) (by rfl) (by rfl) (by rfl) ?_ (Nat.le_refl _) (by decide) ?_ (λi j _ _=>rfl)) .nil
  ·simp only[go_sem,simprocAttr,List.length_append,List.length_cons,List.length_nil]
  ·simp only[go_sem,simprocAttr,List.length_append,List.length_cons,List.length_nil]
   have:=pN (x:=X) (l:=l) (by omega)
   simpa only[Nat.mul_one] using this
 ·simp
 rintro m e H ⟨j,xs,rfl,hj,hs,hxl,rfl,rfl⟩
 cases m with
 |zero=>
  rw[qN,List.append_nil] at hs
  subst hs
  have e0:(((0:Nat):Int)-1)= -1:=rfl
  have e1:¬(0:Int)<= -1:=by decide
  simp only[e0]
  repeat first|with_reducible refine au ?_|simp only[e1,ge_iff_le,decide_false,go_sem,simprocAttr]
 |succ i=>
  have e0:(((i+1:Nat):Int)-1)=i:=by omega
  have e1:(0:Int)<=i:=by omega
  have e2:(0:Int)<=8*(i:Int):=by omega
  have w1:IntKind.i64.wrap (8*(i:Int))=8*(i:Int):=aj (by omega)
  have hT:(8*(i:Int)).toNat=8*i:=by omega
  have hm:min (8*i) 64=8*i:=by omega
  have g0:(0:Int)<=(xs.length:Int):=by omega
  have hlim:(xs.length+1)*1<1099511627776/\xs.length+1<1099511627776/\(xs.length+1)*1<=140737488355328/\xs.length+1<=140737488355328/\xs.length+1<=9223372036854775807:=by omega
  simp only[e0]
  repeat first|with_reducible refine au ?_|simp only[e1,ge_iff_le,decide_true,w1,hT,hm,bq e2,g0,hlim.1,hlim.2.1,hlim.2.2.1,hlim.2.2.2.1,hlim.2.2.2.2,go_sem,simprocAttr]
  rw[qN] at hs
  have hlen:=congrArg List.length hs
  simp only[List.length_append,List.length_cons,l9] at hlen
  have h8:=fQ n
  have hg:=pN (x:=IntKind.u8.wrap (N / 2^(8*i))) (l:=xs) (by omega)
  simp only[Nat.mul_one] at hg
  refine⟨_,_,_,?_,Wk.mk [2] [] ?_ ?_ ?_,i,xs++[IntKind.u8.wrap (N / 2^(8*i))],rfl,by omega,by rw[<-hs];simp,by simp only[List.length_append,List.length_cons,List.length_nil];omega,rfl,rfl⟩
  ·omega
  ·simp only[ej,cQ,List.length_append,List.length_cons,List.length_nil,go_sem,simprocAttr]
   repeat' refine aW ?_ ?_
   all_goals first|exact iW|skip
  ·refine .cr (.rows (x:=_) (by simp only[go_sem,simprocAttr];rfl) (by rfl) (by rfl) (by rfl) ?_ (Nat.le_refl _) (by decide) ?_ (λi j _ _=>rfl)) .nil
   ·simp only[go_sem,simprocAttr,List.length_append,List.length_cons,List.length_nil]
   ·simp only[go_sem,simprocAttr,List.length_append,List.length_cons,List.length_nil,Nat.mul_one]
    exact hg
  ·simp
theorem eR(l:List Int)(hl:l.length<1000000)(n:Int):bU Tryz.prog 68 [.fs 1 l.length (bC l),.n .i64 n] [.o 5 1 (l++eH n).length 0 (bC (l++eH n))]:=by
 refine ah aE Ew ⟨by simp,by decide⟩ ?_
 simp only[aF]
 refine GA.seq ?_
 refine GA.go aE rfl ?_
 simp only[go_sem,simprocAttr]
 refine GA.seq ?_
 refine GA.regx (l1:=[(o1 5 (.mv (.t 0))),⟨some 6,none,.cl (.c (.f 96 [] [])) [(.t 5)]⟩,(o1 7 (.mv (.t 1)))]) (l2:=[(o1 4 (.mv (.t 8)))]) rfl ?_
 simp only[go_sem,simprocAttr]
 refine bL [] (.cons (.rfl (by rfl)) .nil) (mR (n:=l.length) (row:=bC l) hl (λi j _ _=>rfl)) ?_ ?_
 ·simp only[go_sem,simprocAttr]
 simp only[go_sem,simprocAttr]
 refine⟨aA [(1,.n .i64 n)],PEk.of (λp hp=>?_),95,[],[],[.os 0 l.length,.n .i64 n],?_,?_,(Ns l hl n ?_).mono ?_⟩
 ·simp only[List.mem_cons,List.not_mem_nil,or_false] at hp
  subst hp
  exact⟨by simp,by simp only[go_sem,simprocAttr],rfl⟩
 ·simp only[go_sem,simprocAttr]
 ·simp only[go_sem,simprocAttr]
 ·exact .k1
 rintro v H' ⟨rfl,rfl⟩
 simp only[go_sem,simprocAttr]
 repeat first|with_reducible refine au ?_|simp only[go_sem,simprocAttr]
 rw[<-List.length_append]
 exact⟨[_],rfl,.o (x:=_) (by simp only[go_sem,simprocAttr];rfl) (by rfl) (by rfl) (by rfl) (by decide) (Nat.le_refl _) (Nat.le_refl _) (λi j _ hj=>aN i j hj) (λi j _ _=>rfl) rfl .nil⟩
/-! ### Form-/
def nV:List (Bool×Int)->Bool
 |[]=>true
 |a::l=>decide (1<=a.2)&&decide (a.2<=65536)&&nV l
def gD:List (Bool×Int)->Int
 |[]=>0
 |a::l=>a.2+gD l
theorem jw:∀{la:List (Bool×Int)},nV la=true->0<=gD la
 |[],_=>Int.le_refl 0
 |a::l,h=>by
  simp only[nV,Bool.and_eq_true,decide_eq_true_eq] at h
  have:=jw h.2
  simp only[gD];omega
theorem mU:∀(la:List (Bool×Int)) (left:Int),0<=left->left<=65536->i8 la left=if nV la=true/\gD la<=left then 0 else 2
 |[],left,h0,h=>by simp only[i8,nV,gD,h0,and_self,if_true]
 |a::l,left,h0,h=>by
  simp only[i8]
  by_cases hb:a.2<1\/left<a.2
  ·rw[if_pos hb,if_neg]
   rintro ⟨h1,h2⟩
   simp only[nV,Bool.and_eq_true,decide_eq_true_eq,gD] at h1 h2
   have:=jw h1.2
   omega
  ·rw[if_neg hb,mU l (left-a.2) (by omega) (by omega)]
   simp only[nV,gD,Bool.and_eq_true,decide_eq_true_eq]
   by_cases h1:nV l=true/\gD l<=left-a.2
   ·rw[if_pos h1,if_pos ⟨⟨⟨by omega,by omega⟩,h1.1⟩,by omega⟩]
   ·rw[if_neg h1,if_neg (λh2=>h1 ⟨h2.1.2,by omega⟩)]
theorem rd{la:List (Bool×Int)}{loc:Int}{cs:List (Int×Int)}(h:¬8<la.length)(hb:¬(nV la=true/\gD la<=65536)):bh la loc cs=2:=by
 have e:dc la=2:=by simp only[dc,h,if_false];rw[mU la 65536 (by omega) (by omega),if_neg hb]
 simp only[bh,e];rfl
theorem pD{la:List (Bool×Int)}{loc:Int}{cs:List (Int×Int)}(h:¬8<la.length)(hb:nV la=true/\gD la<=65536):bh la loc cs=if loc<0\/16<loc then 2 else if 1024<cs.length then 6 else co cs:=by
 have e:dc la=0:=by simp only[dc,h,if_false];rw[mU la 65536 (by omega) (by omega),if_pos hb]
 simp only[bh,e,if_true]
/-! ### the memory-/
def qH:List (Bool×Int)->Int
 |[]=>0
 |a::l=>(if a.1=true then 4*a.2 else a.2)+qH l
def kP(la:List (Bool×Int))(loc:Int):Int:=4*(loc+48)+qH la
theorem pd:∀{la:List (Bool×Int)},nV la=true->0<=qH la/\qH la<=4*gD la
 |[],_=>⟨Int.le_refl 0,Int.le_refl 0⟩
 |a::l,h=>by
  simp only[nV,Bool.and_eq_true,decide_eq_true_eq] at h
  have:=pd h.2
  simp only[gD,qH];split<;>omega
theorem om{la:List (Bool×Int)}{loc:Int}{cs:List (Int×Int)}(h:bh la loc cs=0):nV la=true/\gD la<=65536/\0<=loc/\loc<=16/\la.length<=8/\cs.length<=1024/\co cs=0:=by
 by_cases h8:8<la.length
 ·simp only[bh,dc,h8,if_true] at h;simp at h
 by_cases hb:nV la=true/\gD la<=65536
 ·rw[pD h8 hb] at h
  split at h
  ·cases h
  ·split at h
   ·cases h
   ·exact⟨hb.1,hb.2,by omega,by omega,by omega,by omega,h⟩
 ·rw[rd h8 hb] at h;cases h
theorem zY(b:Bool):bU Tryz.prog 69 [.b b] [.v (.n .u32 (if b=true then 1 else 0))]:=by
 refine ah aE D6 ⟨by simp,by decide⟩ ?_
 simp only[aF]
 cases b
 ·repeat first|with_reducible refine au ?_|simp only[go_sem,simprocAttr]
  exact ae rfl rfl
 ·repeat first|with_reducible refine au ?_|simp only[go_sem,simprocAttr]
  exact ae rfl rfl
def CU(a:Bool×Int):List Int:=eH (2*a.2+(if a.1=true then 1 else 0))
def Om(i:Int×Int):List Int:=IntKind.u8.wrap i.1::(if kW i.1=true then eH i.2 else[])
def CH(la:List (Bool×Int))(loc:Int)(cs:List (Int×Int)):List Int:=eH la.length++la.flatMap CU++eH loc++eH cs.length++cs.flatMap Om
theorem mI(la:List (Bool×Int))(loc:Int)(cs:List (Int×Int))(hl:la.length<=9223372036854775807)(hc:cs.length<=9223372036854775807)(ha:cL cs)(hf:¬bh la loc cs=0):bU Tryz.prog 38 [aK la loc cs] [.v .sl0,.v (.n .i64 (bh la loc cs))]:=by
 refine ah aE II ⟨by simp,by decide⟩ ?_
 simp only[aF,aK]
 repeat first|with_reducible refine au ?_|simp only[go_sem,simprocAttr]
 refine b6 ([aK la loc cs]) (ra la loc cs hl hc ha) ?_
 repeat first|with_reducible refine au ?_|simp only[hf,ne_eq,not_false_eq_true,decide_true,go_sem,simprocAttr]
 exact⟨[_,_],rfl,⟨rfl,rfl⟩,⟨rfl,rfl⟩,trivial⟩
theorem qE:∀{la:List (Bool×Int)} (k:Nat),nV la=true->nV (la.drop k)=true
 |la,0,h=>h
 |[],k+1,h=>h
 |a::l,k+1,h=>by
  simp only[nV,Bool.and_eq_true] at h
  exact qE k h.2
theorem jW:∀{cs:List (Int×Int)} (k:Nat),co cs=0->co (cs.drop k)=0
 |cs,0,h=>h
 |[],k+1,h=>h
 |i::l,k+1,h=>by
  simp only[co] at h
  split at h
  ·exact jW k h
  ·rename_i g;exact absurd h g
theorem vO{i:Int×Int}(h:dQ i=0):0<=i.1/\i.1<36:=by
 unfold dQ at h
 split at h
 ·cases h
 ·omega
theorem kT(la:List (Bool×Int))(loc:Int)(cs:List (Int×Int))(ha:cL cs)(hf:bh la loc cs=0):bU Tryz.prog 38 [aK la loc cs] [.o 5 1 (CH la loc cs).length 0 (bC (CH la loc cs)),.v (.n .i64 0)]:=by
 obtain⟨f1,f2,f3,f4,f5,f6,f7⟩:=om hf
 refine ah aE II ⟨by simp,by decide⟩ ?_
 simp only[aF,aK]
 repeat first|with_reducible refine au ?_|simp only[go_sem,simprocAttr]
 refine b6 ([aK la loc cs]) (ra la loc cs (by omega) (by omega) ha) ?_
 repeat first|with_reducible refine au ?_|simp only[hf,ne_eq,not_true_eq_false,decide_false,go_sem,simprocAttr]
 refine bL [] (fargs:=[.fs 1 ([]:List Int).length (bC []),.n .i64 la.length]) (.cons (.sl0 _ _) (.cons (.rfl rfl) .nil)) (eR [] (by decide) la.length) ?_ ?_
 ·simp only[go_sem,simprocAttr]
 repeat first|with_reducible refine au ?_|simp only[go_sem,simprocAttr]
 have b0:=fQ (la.length:Int)
 have b1:=fQ loc
 have b2:=fQ (cs.length:Int)
 refine GA.loop (I:=λm e H=>∃(k:Nat) (xs:List Int),m=la.length-k/\k<=la.length/\xs++(la.drop k).flatMap CU=eH la.length++la.flatMap CU/\xs.length<=8+8*k/\gD (la.drop k)<=65536/\e=aA [(1,.p 0 0),(5,.os 1 xs.length),(22,.fs 2 la.length (pA la)),(23,.n .i64 la.length),(24,.n .i64 k)]/\H=ag [ai 5 1 xs.length 0 (bC xs),aa 0 25 [.fs 2 la.length (pA la),.n .i64 loc,.fs 2 cs.length (pI cs)]]) (Wk.mk [1,0] [] ?_ ?_ ?_) ⟨0,eH la.length,rfl,by omega,rfl,by omega,f2,rfl,rfl⟩ ?_
 ·exact aZ
 ·exact .cr .k1 (.cr .ls .nil)
 ·simp
 rintro m e H ⟨k,xs,rfl,hk,hs,hxl,hsum,rfl,rfl⟩
 repeat first|with_reducible refine au ?_|simp only[go_sem,simprocAttr]
 refine⟨λh=>?_,λh=>?_⟩
 ·have hk':k<la.length:=by omega
  have h0:(0:Int)<=(k:Int):=by omega
  have hok:=qE k f1
  rw[cE (d:=(false,0)) hk'] at hs hsum hok
  simp only[nV,gD,List.flatMap_cons,Bool.and_eq_true,decide_eq_true_eq] at hs hsum hok
  have hp:=jw hok.2
  have bx:=fQ (2*(la.getD k (false,0)).2+(if(la.getD k (false,0)).1=true then 1 else 0))
  have v1:IntKind.i64.wrap (2*(la.getD k (false,0)).2)=2*(la.getD k (false,0)).2:=aj (by omega)
  have v2:IntKind.i64.wrap (if(la.getD k (false,0)).1=true then 1 else 0)=(if(la.getD k (false,0)).1=true then 1 else 0):=aj (by split<;>omega)
  have v3:IntKind.i64.wrap (2*(la.getD k (false,0)).2+(if(la.getD k (false,0)).1=true then 1 else 0))=2*(la.getD k (false,0)).2+(if(la.getD k (false,0)).1=true then 1 else 0):=aj (by split<;>omega)
  repeat first|with_reducible refine au ?_|simp only[h0,h,A8,A7,v1,go_sem,simprocAttr]
  refine b6 ([.b (la.getD k (false,0)).1]) (zY _) ?_
  repeat first|with_reducible refine au ?_|simp only[v1,v2,v3,go_sem,simprocAttr]
  refine bL [1] (.cons (.ownb (ty:=5) (z:=0) (by simp only[go_sem,simprocAttr]) (λi j _ _=>rfl) (by simp)) (.cons (.rfl rfl) .nil)) (eR xs (by omega) (2*(la.getD k (false,0)).2+(if(la.getD k (false,0)).1=true then 1 else 0))) ?_ ?_
  ·simp only[go_sem,simprocAttr]
  repeat first|with_reducible refine au ?_|simp only[go_sem,simprocAttr]
  refine⟨_,_,_,?_,Wk.mk [3,0] [] ?_ ?_ ?_,k+1,xs++eH (2*(la.getD k (false,0)).2+(if(la.getD k (false,0)).1=true then 1 else 0)),rfl,by omega,by rw[<-hs];simp only[CU,List.append_assoc],by simp only[List.length_append];omega,by omega,rfl,rfl⟩
  ·omega
  ·simp only[ej,cQ,List.length_append,go_sem,simprocAttr]
   repeat' refine aW ?_ ?_
   all_goals first|exact iW|skip
  ·refine .cr (.rows (x:=_) (by simp only[go_sem,simprocAttr];rfl) (by rfl) (by rfl) (by rfl) ?_ (Nat.le_refl _) (by decide) (λi j _ hj=>aN i j hj) (λi j _ _=>rfl)) (.cr .ls .nil)
   simp only[go_sem,simprocAttr,List.length_append,Nat.le_refl]
  ·simp
 have:k=la.length:=by omega
 subst this
 rw[List.drop_length,List.flatMap_nil,List.append_nil] at hs
 have hxs:xs.length<=72:=by omega
 have ln:(xs++eH loc).length<=80:=by simp only[List.length_append];omega
 repeat first|with_reducible refine au ?_|simp only[go_sem,simprocAttr]
 refine bL [1] (.cons (.ownb (ty:=5) (z:=0) (by simp only[go_sem,simprocAttr]) (λi j _ _=>rfl) (by simp)) (.cons (.rfl rfl) .nil)) (eR xs (by omega) loc) ?_ ?_
 ·simp only[go_sem,simprocAttr]
 repeat first|with_reducible refine au ?_|simp only[go_sem,simprocAttr]
 rw[<-List.length_append]
 refine bL [2] (.cons (.ownb (ty:=5) (z:=0) (by simp only[go_sem,simprocAttr]) (λi j _ _=>rfl) (by simp)) (.cons (.rfl rfl) .nil)) (eR (xs++eH loc) (by omega) cs.length) ?_ ?_
 ·simp only[go_sem,simprocAttr]
 repeat first|with_reducible refine au ?_|simp only[go_sem,simprocAttr]
 have hX:(xs++eH loc++eH cs.length).length<=88:=by simp only[List.length_append] at ln ⊢;omega
 refine GA.loop (I:=λm e H=>∃(k:Nat) (xs:List Int),m=cs.length-k/\k<=cs.length/\xs++(cs.drop k).flatMap Om=CH la loc cs/\xs.length<=88+9*k/\e=aA [(5,.os 0 xs.length),(48,.fs 2 cs.length (pI cs)),(49,.n .i64 cs.length),(50,.n .i64 k)]/\H=ag [ai 5 1 xs.length 0 (bC xs)]) (Wk.mk [3] [] ?_ ?_ ?_) ⟨0,xs++eH loc++eH cs.length,rfl,by omega,by rw[hs];simp only[CH,List.drop_zero],by omega,rfl,rfl⟩ ?_
 ·simp only[ej,cQ,List.length_append,go_sem,simprocAttr]
  repeat' refine aW ?_ ?_
  all_goals first|exact iW|skip
 ·refine .cr (.rows (x:=_) (by simp only[go_sem,simprocAttr];rfl) (by rfl) (by rfl) (by rfl) ?_ (Nat.le_refl _) (by decide) (λi j _ hj=>aN i j hj) (λi j _ _=>rfl)) .nil
  simp only[go_sem,simprocAttr,List.length_append,Nat.le_refl]
 ·simp
 clear hs hxs ln hX hxl xs
 rintro m e H ⟨k,xs,rfl,hk,hs,hxl,rfl,rfl⟩
 repeat first|with_reducible refine au ?_|simp only[go_sem,simprocAttr]
 refine⟨λh=>?_,λh=>?_⟩
 ·have hk':k<cs.length:=by omega
  have h0:(0:Int)<=(k:Int):=by omega
  have hok:=jW k f7
  have hm:=ha _ (eN (d:=(0,0)) hk')
  rw[cE (d:=(0,0)) hk'] at hs hok
  simp only[co,List.flatMap_cons] at hs hok
  have hi:dQ (cs.getD k (0,0))=0:=by
   by_cases g:dQ (cs.getD k (0,0))=0
   ·exact g
   ·rw[if_neg g] at hok;exact hok
  obtain⟨g1,g2⟩:=vO hi
  obtain⟨op,hop⟩:∃op:Nat,(cs.getD k (0,0)).1=op:=⟨(cs.getD k (0,0)).1.toNat,by omega⟩
  obtain⟨na,nb,nc,hkn⟩:=mb op (by omega)
  have bx:=fQ (cs.getD k (0,0)).2
  have v1:IntKind.i64.wrap (cs.getD k (0,0)).2=(cs.getD k (0,0)).2:=aj (by omega)
  have hlim:(xs.length+1)*1<1099511627776/\xs.length+1<1099511627776/\(xs.length+1)*1<=140737488355328/\xs.length+1<=140737488355328/\xs.length+1<=9223372036854775807:=by omega
  have hg:=pN (x:=IntKind.u8.wrap op) (l:=xs) (by omega)
  simp only[Nat.mul_one] at hg
  have hl1:(xs++[IntKind.u8.wrap op]).length=xs.length+1:=by simp
  simp only[Om,hop] at hs
  repeat first|with_reducible refine au ?_|simp only[h0,h,cT,oZ,hop,hlim.1,hlim.2.1,hlim.2.2.1,hlim.2.2.2.1,hlim.2.2.2.2,decide_true,go_sem,simprocAttr]
  refine b6 ([.n .i64 op]) hkn ?_
  simp only[opV]
  cases hA:kW op
  ·simp only[hA,Bool.false_eq_true,if_false] at hs
   repeat first|with_reducible refine au ?_|simp only[hA,go_sem,simprocAttr]
   refine⟨_,_,_,?_,Wk.mk [3] [] ?_ ?_ ?_,k+1,xs++[IntKind.u8.wrap op],rfl,by omega,by rw[<-hs];simp,by rw[hl1];omega,rfl,rfl⟩
   ·omega
   ·simp only[ej,cQ,hl1,go_sem,simprocAttr]
    repeat' refine aW ?_ ?_
    all_goals first|exact iW|skip
   ·refine .cr (.rows (x:=_) (by simp only[go_sem,simprocAttr];rfl) (by rfl) (by rfl) (by rfl) ?_ (Nat.le_refl _) (by decide) ?_ (λi j _ _=>rfl)) .nil
    ·simp only[go_sem,simprocAttr,hl1]
    ·simp only[go_sem,simprocAttr,hl1,Nat.mul_one]
     exact hg
   ·simp
  ·simp only[hA,if_true] at hs
   repeat first|with_reducible refine au ?_|simp only[hA,go_sem,simprocAttr]
   rw[<-hl1]
   refine bL [3] (.cons (.os (x:=_) (by simp) (by simp only[go_sem,simprocAttr];rfl) ?_ ?_ (λi j _ _=>rfl)) (.cons (.rfl rfl) .nil)) (eR (xs++[IntKind.u8.wrap op]) (by omega) (IntKind.i64.wrap (cs.getD k (0,0)).2)) ?_ ?_
   ·simp only[go_sem,simprocAttr,hl1,Nat.le_refl]
   ·simp only[go_sem,simprocAttr,hl1,Nat.mul_one]
    exact hg
   ·simp only[go_sem,simprocAttr]
   rw[v1]
   repeat first|with_reducible refine au ?_|simp only[go_sem,simprocAttr]
   refine⟨_,_,_,?_,Wk.mk [5] [] ?_ ?_ ?_,k+1,xs++[IntKind.u8.wrap op]++eH (cs.getD k (0,0)).2,rfl,by omega,by rw[<-hs];simp,by rw[List.length_append,hl1];omega,rfl,rfl⟩
   ·omega
   ·simp only[ej,cQ,List.length_append,go_sem,simprocAttr]
    repeat' refine aW ?_ ?_
    all_goals first|exact iW|skip
   ·refine .cr (.rows (x:=_) (by simp only[go_sem,simprocAttr];rfl) (by rfl) (by rfl) (by rfl) ?_ (Nat.le_refl _) (by decide) (λi j _ hj=>aN i j hj) (λi j _ _=>rfl)) .nil
    simp only[go_sem,simprocAttr,List.length_append,Nat.le_refl]
   ·simp
 ·repeat first|with_reducible refine au ?_|simp only[go_sem,simprocAttr]
  have:k=cs.length:=by omega
  subst this
  rw[List.drop_length,List.flatMap_nil,List.append_nil] at hs
  subst hs
  exact⟨[_,_],rfl,.o (x:=_) (by simp only[go_sem,simprocAttr];rfl) (by rfl) (by rfl) (by rfl) (by decide) (Nat.le_refl _) (Nat.le_refl _) (λi j _ hj=>aN i j hj) (λi j _ _=>rfl) rfl (.v rfl rfl .nil)⟩
theorem l7(la:List (Bool×Int))(loc:Int)(cs:List (Int×Int))(hl:la.length<=9223372036854775807)(hc:cs.length<=9223372036854775807)(ha:cL cs):bU Tryz.prog 15 [aK la loc cs] [.v (.n .i64 (if bh la loc cs=0 then kP la loc else 0)),.v (.n .i64 (bh la loc cs))]:=by
 refine ah aE De ⟨by simp,by decide⟩ ?_
 simp only[aF,aK]
 repeat first|with_reducible refine au ?_|simp only[go_sem,simprocAttr]
 by_cases hf:bh la loc cs=0
 rotate_left
 ·refine b6 ([aK la loc cs]) (mI la loc cs hl hc ha hf) ?_
  repeat first|with_reducible refine au ?_|simp only[hf,ne_eq,not_false_eq_true,decide_true,go_sem,simprocAttr]
  exact⟨[_,_],rfl,⟨rfl,rfl⟩,⟨rfl,rfl⟩,trivial⟩
 refine b6 ([aK la loc cs]) (kT la loc cs ha hf) ?_
 obtain⟨f1,f2,f3,f4,f5,f6,f7⟩:=om hf
 have f0:=pd f1
 have w1:IntKind.i64.wrap (loc+32)=loc+32:=aj (by omega)
 have w2:IntKind.i64.wrap (loc+32+16)=loc+32+16:=aj (by omega)
 have w3:IntKind.i64.wrap (4*(loc+32+16))=4*(loc+32+16):=aj (by omega)
 repeat first|with_reducible refine au ?_|simp only[hf,w1,w2,w3,ne_eq,not_true_eq_false,decide_false,go_sem,simprocAttr]
 refine GA.loop (I:=λm e H=>∃(k:Nat) (s:Int),m=la.length-k/\k<=la.length/\nV (la.drop k)=true/\kP la loc=s+qH (la.drop k)/\gD (la.drop k)<=65536/\0<=s/\s<=1000000/\e=aA [(6,.n .i64 s),(24,.fs 2 la.length (pA la)),(25,.n .i64 la.length),(26,.n .i64 k)]/\H=ag []) (Wk.mk [] [] ?_ ?_ ?_) ⟨0,4*(loc+32+16),rfl,by omega,f1,by simp only[kP,List.drop_zero];omega,f2,by omega,by omega,rfl,rfl⟩ ?_
 ·exact aZ
 ·exact .nil
 ·simp
 rintro m e H ⟨k,s,rfl,hk,hs,hs2,hs5,hs0,hs1,rfl,rfl⟩
 repeat first|with_reducible refine au ?_|simp only[go_sem,simprocAttr]
 refine⟨λh=>?_,λh=>?_⟩
 ·have hk':k<la.length:=by omega
  have h0:(0:Int)<=(k:Int):=by omega
  rw[cE (d:=(false,0)) hk'] at hs hs2 hs5
  simp only[nV,qH,gD,Bool.and_eq_true,decide_eq_true_eq] at hs hs2 hs5
  have hm:=pd hs.2
  have hp:=jw hs.2
  have hM:kP la loc<=1000000:=by simp only[kP];omega
  cases hw:(la.getD k (false,0)).1
  ·have v2:IntKind.i64.wrap (s+(la.getD k (false,0)).2)=s+(la.getD k (false,0)).2:=aj (by omega)
   rw[hw] at hs2
   simp only[Bool.false_eq_true,if_false] at hs2
   repeat first|with_reducible refine au ?_|simp only[h0,h,A8,A7,hw,v2,go_sem,simprocAttr]
   refine⟨_,_,_,?_,Wk.mk [] [] ?_ ?_ ?_,k+1,s+(la.getD k (false,0)).2,rfl,by omega,hs.2,by omega,by omega,by omega,by omega,rfl,rfl⟩
   ·omega
   ·exact aZ
   ·exact .nil
   ·simp
  ·have v1:IntKind.i64.wrap ((la.getD k (false,0)).2*4)=(la.getD k (false,0)).2*4:=aj (by omega)
   have v2:IntKind.i64.wrap (s+(la.getD k (false,0)).2*4)=s+(la.getD k (false,0)).2*4:=aj (by omega)
   rw[hw] at hs2
   simp only[if_true] at hs2
   repeat first|with_reducible refine au ?_|simp only[h0,h,A8,A7,hw,v1,v2,go_sem,simprocAttr]
   refine⟨_,_,_,?_,Wk.mk [] [] ?_ ?_ ?_,k+1,s+(la.getD k (false,0)).2*4,rfl,by omega,hs.2,by omega,by omega,by omega,by omega,rfl,rfl⟩
   ·omega
   ·exact aZ
   ·exact .nil
   ·simp
 ·repeat first|with_reducible refine au ?_|simp only[go_sem,simprocAttr]
  have:k=la.length:=by omega
  subst this
  rw[List.drop_length] at hs2
  simp only[qH,Int.add_zero] at hs2
  exact⟨[_,_],rfl,⟨by rw[hs2],rfl⟩,⟨rfl,rfl⟩,trivial⟩
def tC(l:List Bool)(i _j:Nat):AV:= .b (l.getD i false)
theorem tC0(l:List Bool)(i j:Nat):tC l i j= .b (l.getD i false):=rfl
def wP:List (Int×Int)->List Bool->Int->Int
 |[],_,lo=>lo
 |i::l,st,lo=>if 3<lo then lo else if i.1=29 then wP l (st++[true]) (lo+1) else if i.1=27 then wP l (st++[false]) lo else if i.1=31 then(if st.length=0 then wP l st lo else wP l (st.take (st.length-1)) (if st.getD (st.length-1) false=true then lo-1 else lo)) else wP l st lo
theorem zE{l l':List Bool}{i:Nat}(h:i<l.length):(l++l').getD i false=l.getD i false:=by
 simp[List.getD_eq_getElem?_getD,List.getElem?_append_left h]
theorem zG{l:List Bool}{x:Bool}:(l++[x]).getD l.length false=x:=by
 simp[List.getD_eq_getElem?_getD]
theorem tF{l:List Bool}{x:Bool}(hl:l.length<1100000):∀i j,i<l.length+1->j<1->((ai 4 1 l.length 0 (tC l)).app (l.length*1) (.li [.b x])).get (i*1+j)=tC (l++[x]) i j:=
 lU rfl (by omega) (λi j hi _=>by unfold tC;rw[zE hi]) (λj hj=>by
  obtain rfl:j=0:=by omega
  unfold tC
  rw[zG]
  rfl)
theorem qo(cs:List (Int×Int))(hc:cs.length<=200):bU Tryz.prog 19 [.fs 2 cs.length (pI cs)] [.v (.b (decide (wP cs [] 0<=3)))]:=by
 refine ah aE Da ⟨by simp,by decide⟩ ?_
 simp only[aF]
 repeat first|with_reducible refine au ?_|simp only[go_sem,simprocAttr]
 refine GA.wk (Wk.nil 3 1 4 (by simp only[go_sem,simprocAttr]) (by decide) (by simp only[go_sem,simprocAttr])) ?_
 simp only[jS]
 refine GA.loop (I:=λm e H=>∃(k:Nat) (st:List Bool) (lo:Int),m=cs.length-k/\k<=cs.length/\wP cs [] 0=wP (cs.drop k) st lo/\st.length<=k/\ -200<=lo+k/\lo<=k/\e=aA [(0,.fs 2 cs.length (pI cs)),(3,.os 0 st.length),(4,.n .i64 lo),(5,.n .i64 k)]/\H=ag [ai 4 1 st.length 0 (tC st)]) (Wk.mk [0] [] ?_ ?_ ?_) ⟨0,[],0,rfl,by omega,rfl,by simp,by omega,by omega,rfl,rfl⟩ ?_
 ·exact aZ
 ·exact .cr (.r1) .nil
 ·simp
 rintro m e H ⟨k,st,lo,rfl,hk,hs,hsl,hlo,hlo2,rfl,rfl⟩
 have h0:(0:Int)<=(k:Int):=by omega
 by_cases h:(k:Int)<cs.length
 rotate_left
 ·repeat first|with_reducible refine au ?_|simp only[h,decide_false,go_sem,simprocAttr]
  have:k=cs.length:=by omega
  subst this
  rw[List.drop_length,wP] at hs
  exact ae (by rw[hs]) rfl
 have hk':k<cs.length:=by omega
 rw[cE (d:=(0,0)) hk',wP] at hs
 by_cases h3:3<lo
 ·rw[if_pos h3] at hs
  have h3':¬lo<=3:=by omega
  repeat first|with_reducible refine au ?_|simp only[h,h3',decide_true,decide_false,go_sem,simprocAttr]
  exact ae (by rw[hs,decide_eq_false h3']) rfl
 rw[if_neg h3] at hs
 have h3':lo<=3:=by omega
 have hlim:(st.length+1)*1<1099511627776/\st.length+1<1099511627776/\(st.length+1)*1<=140737488355328/\st.length+1<=140737488355328/\st.length+1<=9223372036854775807:=by omega
 by_cases e1:(cs.getD k (0,0)).1=29
 ·rw[if_pos e1] at hs
  have hg:=tF (x:=true) (l:=st) (by omega)
  simp only[Nat.mul_one] at hg
  have hl1:(st++[true]).length=st.length+1:=by simp
  repeat first|with_reducible refine au ?_|simp only[h,h0,h3',cT,oZ,e1,decide_true,hlim.1,hlim.2.1,hlim.2.2.1,hlim.2.2.2.1,hlim.2.2.2.2,go_sem,simprocAttr]
  refine⟨_,_,_,?_,Wk.mk [2] [] ?_ ?_ ?_,k+1,st++[true],lo+1,rfl,by omega,hs,by rw[hl1];omega,by omega,by omega,rfl,rfl⟩
  ·omega
  ·simp only[ej,cQ,hl1,go_sem,simprocAttr]
   repeat' refine aW ?_ ?_
   all_goals first|exact iW|skip
  ·refine .cr (.rows (x:=_) (by simp only[go_sem,simprocAttr];rfl) (by rfl) (by rfl) (by rfl) ?_ (Nat.le_refl _) (by decide) ?_ (λi j _ _=>rfl)) .nil
   ·simp only[go_sem,simprocAttr,hl1]
   ·simp only[go_sem,simprocAttr,hl1,Nat.mul_one]
    exact hg
  ·simp
 rw[if_neg e1] at hs
 by_cases e2:(cs.getD k (0,0)).1=27
 ·rw[if_pos e2] at hs
  have hg:=tF (x:=false) (l:=st) (by omega)
  simp only[Nat.mul_one] at hg
  have hl1:(st++[false]).length=st.length+1:=by simp
  repeat first|with_reducible refine au ?_|simp only[h,h0,h3',cT,oZ,e1,e2,decide_true,decide_false,hlim.1,hlim.2.1,hlim.2.2.1,hlim.2.2.2.1,hlim.2.2.2.2,go_sem,simprocAttr]
  refine⟨_,_,_,?_,Wk.mk [2] [] ?_ ?_ ?_,k+1,st++[false],lo,rfl,by omega,hs,by rw[hl1];omega,by omega,by omega,rfl,rfl⟩
  ·omega
  ·simp only[ej,cQ,hl1,go_sem,simprocAttr]
   repeat' refine aW ?_ ?_
   all_goals first|exact iW|skip
  ·refine .cr (.rows (x:=_) (by simp only[go_sem,simprocAttr];rfl) (by rfl) (by rfl) (by rfl) ?_ (Nat.le_refl _) (by decide) ?_ (λi j _ _=>rfl)) .nil
   ·simp only[go_sem,simprocAttr,hl1]
   ·simp only[go_sem,simprocAttr,hl1,Nat.mul_one]
    exact hg
  ·simp
 rw[if_neg e2] at hs
 by_cases e3:(cs.getD k (0,0)).1=31
 rotate_left
 ·rw[if_neg e3] at hs
  repeat first|with_reducible refine au ?_|simp only[h,h0,h3',cT,oZ,e1,e2,e3,decide_true,decide_false,go_sem,simprocAttr]
  refine⟨_,_,_,?_,Wk.mk [0] [] ?_ ?_ ?_,k+1,st,lo,rfl,by omega,hs,by omega,by omega,by omega,rfl,rfl⟩
  ·omega
  ·exact aZ
  ·exact .cr .k1 .nil
  ·simp
 rw[if_pos e3] at hs
 by_cases e4:st.length=0
 ·rw[if_pos e4] at hs
  have w1:IntKind.i64.wrap ((st.length:Int)-1)=(st.length:Int)-1:=aj (by omega)
  have g1:¬(0:Int)<=(st.length:Int)-1:=by omega
  repeat first|with_reducible refine au ?_|simp only[h,h0,h3',cT,oZ,e1,e2,e3,w1,g1,ge_iff_le,decide_true,decide_false,go_sem,simprocAttr]
  refine⟨_,_,_,?_,Wk.mk [0] [] ?_ ?_ ?_,k+1,st,lo,rfl,by omega,hs,by omega,by omega,by omega,rfl,rfl⟩
  ·omega
  ·exact aZ
  ·exact .cr .k1 .nil
  ·simp
 rw[if_neg e4] at hs
 obtain⟨n,hn⟩:∃n,st.length=n+1:=⟨st.length-1,by omega⟩
 have w1:IntKind.i64.wrap (((n+1:Nat):Int)-1)=(n:Int):=(aj (by omega)).trans (by omega)
 have g1:(0:Int)<=(n:Int):=by omega
 have g2:(n:Int)<(n+1:Nat):=by omega
 rw[hn,Nat.add_sub_cancel] at hs
 have hl1:(st.take n).length=n:=by rw[List.length_take];omega
 have g3:n<n+1:=Nat.lt_succ_self n
 have g4:(ai 4 1 (n+1) 0 (tC st)).get n= .b (st.getD n false):=by
  have:=aN (ty:=4) (esz:=1) (n:=n+1) (z:=0) (row:=tC st) n 0 (by decide)
  rw[Nat.mul_one,Nat.add_zero] at this
  exact this
 have g5:(n:Int)<=(n+1:Nat):=by omega
 cases hb:st.getD n false
 ·rw[hb] at hs
  simp only[Bool.false_eq_true,if_false] at hs
  repeat first|with_reducible refine au ?_|simp only[h,h0,h3',cT,oZ,e1,e2,e3,w1,g1,g2,g3,g4,g5,hn,tC0,hb,ge_iff_le,decide_true,decide_false,go_sem,simprocAttr]
  refine⟨_,_,_,?_,Wk.mk [0] [] ?_ ?_ ?_,k+1,st.take n,lo,rfl,by omega,hs,by rw[hl1];omega,by omega,by omega,rfl,rfl⟩
  ·omega
  ·simp only[ej,cQ,hl1,go_sem,simprocAttr]
   repeat' refine aW ?_ ?_
   all_goals first|exact iW|skip
  ·refine .cr (.rows (x:=_) (by simp only[go_sem,simprocAttr];rfl) (by rfl) (by rfl) (by rfl) ?_ (Nat.le_refl _) (by decide) ?_ (λi j _ _=>rfl)) .nil
   ·simp only[go_sem,simprocAttr,hl1];omega
   ·intro i j hi hj
    rw[hl1] at hi
    simp only[go_sem,simprocAttr]
    have hq:=aN (ty:=4) (esz:=1) (n:=n+1) (z:=0) (row:=tC st) i j hj
    rw[Nat.mul_one] at hq
    rw[hq]
    unfold tC
    simp[List.getD_eq_getElem?_getD,List.getElem?_take,hi]
  ·simp
 ·rw[hb] at hs
  simp only[if_true] at hs
  have w2:IntKind.i64.wrap (lo-1)=lo-1:=aj (by omega)
  repeat first|with_reducible refine au ?_|simp only[h,h0,h3',cT,oZ,e1,e2,e3,w1,w2,g1,g2,g3,g4,g5,hn,tC0,hb,ge_iff_le,decide_true,decide_false,go_sem,simprocAttr]
  refine⟨_,_,_,?_,Wk.mk [0] [] ?_ ?_ ?_,k+1,st.take n,lo-1,rfl,by omega,hs,by rw[hl1];omega,by omega,by omega,rfl,rfl⟩
  ·omega
  ·simp only[ej,cQ,hl1,go_sem,simprocAttr]
   repeat' refine aW ?_ ?_
   all_goals first|exact iW|skip
  ·refine .cr (.rows (x:=_) (by simp only[go_sem,simprocAttr];rfl) (by rfl) (by rfl) (by rfl) ?_ (Nat.le_refl _) (by decide) ?_ (λi j _ _=>rfl)) .nil
   ·simp only[go_sem,simprocAttr,hl1];omega
   ·intro i j hi hj
    rw[hl1] at hi
    simp only[go_sem,simprocAttr]
    have hq:=aN (ty:=4) (esz:=1) (n:=n+1) (z:=0) (row:=tC st) i j hj
    rw[Nat.mul_one] at hq
    rw[hq]
    unfold tC
    simp[List.getD_eq_getElem?_getD,List.getElem?_take,hi]
  ·simp
/-! ### Few-/
def NS:List (Bool×Int)->Bool
 |[]=>true
 |a::l=>if 300<a.2/\a.2<=65536 then false else NS l
def ns(la:List (Bool×Int))(cs:List (Int×Int)):Bool:=decide (la.length<=20)&&decide (cs.length<=200)&&decide (wP cs [] 0<=3)&&NS la
theorem CD(la:List (Bool×Int))(loc:Int)(cs:List (Int×Int)):bU Tryz.prog 8 [aK la loc cs] [.v (.b (ns la cs))]:=by
 refine ah aE Dc ⟨by simp,by decide⟩ ?_
 simp only[aF,aK]
 by_cases h1:20<la.length
 ·have h1':(20:Int)<(la.length:Int):=by omega
  have e:ns la cs=false:=by simp only[ns,decide_eq_false (show ¬la.length<=20 by omega),Bool.false_and]
  repeat first|with_reducible refine au ?_|simp only[h1',gt_iff_lt,decide_true,go_sem,simprocAttr]
  exact ae (by rw[e]) rfl
 have h1':¬(20:Int)<(la.length:Int):=by omega
 by_cases h2:200<cs.length
 ·have h2':(200:Int)<(cs.length:Int):=by omega
  have e:ns la cs=false:=by simp only[ns,decide_eq_false (show ¬cs.length<=200 by omega),Bool.false_and,Bool.and_false]
  repeat first|with_reducible refine au ?_|simp only[h1',h2',gt_iff_lt,decide_true,decide_false,go_sem,simprocAttr]
  exact ae (by rw[e]) rfl
 have h2':¬(200:Int)<(cs.length:Int):=by omega
 repeat first|with_reducible refine au ?_|simp only[h1',h2',gt_iff_lt,decide_false,go_sem,simprocAttr]
 refine b6 ([.fs 2 cs.length (pI cs)]) (qo cs (by omega)) ?_
 by_cases h3:wP cs [] 0<=3
 rotate_left
 ·have e:ns la cs=false:=by simp only[ns,decide_eq_false h3,Bool.false_and,Bool.and_false]
  repeat first|with_reducible refine au ?_|simp only[h3,decide_false,go_sem,simprocAttr]
  exact ae (by rw[e]) rfl
 have e:ns la cs=NS la:=by simp only[ns,decide_eq_true h3,decide_eq_true (show la.length<=20 by omega),decide_eq_true (show cs.length<=200 by omega),Bool.true_and]
 repeat first|with_reducible refine au ?_|simp only[h3,decide_true,go_sem,simprocAttr]
 refine GA.loop (I:=λm e H=>∃(k:Nat),m=la.length-k/\k<=la.length/\NS la=NS (la.drop k)/\e=aA [(1,.p 0 0),(3,.n .i64 k)]/\H=ag [aa 0 25 [.fs 2 la.length (pA la),.n .i64 loc,.fs 2 cs.length (pI cs)]]) (Wk.mk [0] [] ?_ ?_ ?_) ⟨0,rfl,by omega,rfl,rfl,rfl⟩ ?_
 ·exact aZ
 ·exact .cr .ls .nil
 ·simp
 rintro m e H ⟨k,rfl,hk,hs,rfl,rfl⟩
 have h0:(0:Int)<=(k:Int):=by omega
 by_cases h:(k:Int)<la.length
 rotate_left
 ·repeat first|with_reducible refine au ?_|simp only[h,decide_false,go_sem,simprocAttr]
  have:k=la.length:=by omega
  subst this
  rw[List.drop_length,NS] at hs
  exact ae (by rw[e,hs]) rfl
 have hk':k<la.length:=by omega
 rw[cE (d:=(false,0)) hk',NS] at hs
 by_cases g1:300<(la.getD k (false,0)).2
 rotate_left
 ·rw[if_neg (λq=>g1 q.1)] at hs
  repeat first|with_reducible refine au ?_|simp only[h,h0,A8,A7,g1,gt_iff_lt,decide_true,decide_false,go_sem,simprocAttr]
  refine⟨_,_,_,?_,Wk.mk [0] [] ?_ ?_ ?_,k+1,rfl,by omega,hs,rfl,rfl⟩
  ·omega
  ·exact aZ
  ·exact .cr .ls .nil
  ·simp
 by_cases g2:(la.getD k (false,0)).2<=65536
 ·rw[if_pos ⟨g1,g2⟩] at hs
  repeat first|with_reducible refine au ?_|simp only[h,h0,A8,A7,g1,g2,gt_iff_lt,decide_true,go_sem,simprocAttr]
  exact ae (by rw[e,hs]) rfl
 ·rw[if_neg (λq=>g2 q.2)] at hs
  repeat first|with_reducible refine au ?_|simp only[h,h0,A8,A7,g1,g2,gt_iff_lt,decide_true,decide_false,go_sem,simprocAttr]
  refine⟨_,_,_,?_,Wk.mk [0] [] ?_ ?_ ?_,k+1,rfl,by omega,hs,rfl,rfl⟩
  ·omega
  ·exact aZ
  ·exact .cr .ls .nil
  ·simp
end Go.Proofs.YtdpkgnmmikebdaaGreat