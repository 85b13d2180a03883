/- A part of the proof of CostAdds: Cs1 CmA CmC CmB CmD CmE. No condition. -/
import Derived.Test.YtdpkgnmmikebdaaGreatGg20
import Derived.Test.YtdpkgnmmikebdaaGreatGg21
import Derived.Test.YtdpkgnmmikebdaaGreatGg17
set_option linter.unusedSimpArgs false
set_option linter.unusedVariables false
set_option linter.constructorNameAsVariable false
set_option maxRecDepth 100000
set_option maxHeartbeats 4000000
namespace Go.Proofs.YtdpkgnmmikebdaaGreat
open Go.RowKit
def lh(k:Int):Int:=if k=0 then 4294967296 else if k=1\/k=2 then 16 else if k=3\/k=4 then 8 else if k=35 then 16 else 1
def lx(k:Int):Bool:=decide (k<=4)||decide (k=35)
def xK(k:Nat):List AV->Bool
 |[.s _,.s _,.s _,.n .u64 l,.b a]=>decide (l=lh k)&&a==lx k
 |_=>false
def eU(op:Int):List UInt8×List UInt8:=
 if op=0\/op=1\/op=32 then([],[110]) else if op=2\/op=34\/op=35\/op=29 then([110],[]) else if op=3 then([110],[110]) else if op=4 then([110,110],[])
 else if op=5 then([97],[97,97]) else if op=6 then([97],[]) else if op=7 then([97,98],[98,97]) else if 8<=op/\op<=20 then([110,110],[110]) else if op=21\/op=22 then([110,110],[116])
 else if op=23 then([116],[116]) else if op=24\/op=25 then([116,116],[116]) else if op=26 then([116],[110]) else if op=27\/op=30 then([116],[]) else if op=33 then([],[116]) else([],[])
def VF(k:Nat):List AV->Bool
 |[.s _,.s a,.s b,_,_]=>a.data.toList==(eU k).1&&b.data.toList==(eU k).2
 |_=>false
theorem BJ(x:ByteArray):bN Tryz.prog 131 [.s x] [.v (.agg [.s x,.s ⟨#[110,110]⟩,.s ⟨#[110]⟩,.n .u64 1,.b false])]:=by
 refine ag aF LH ⟨by simp,by decide⟩ ?_
 simp only[aH]
 repeat first|with_reducible refine ao ?_|simp only[go_sem,simprocAttr]
 exact aa rfl rfl
theorem BI(x y z:ByteArray):bN Tryz.prog 132 [.s x,.s y,.s z] [.v (.agg [.s x,.s y,.s z,.n .u64 1,.b false])]:=by
 refine ag aF LD ⟨by simp,by decide⟩ ?_
 simp only[aH]
 repeat first|with_reducible refine ao ?_|simp only[go_sem,simprocAttr]
 exact aa rfl rfl
theorem qF:∃L:List AV,bN Tryz.prog 97 [] [.v (.agg L)]/\L.length=36*5/\((List.range 36).all λk=>xK k ((L.drop (k*5)).take 5)&&VF k ((L.drop (k*5)).take 5))=true:=by
 apply Exists.intro
 apply And.intro
 ·refine ag aF Vf ⟨by simp,by decide⟩ ?_
  simp only[aH]
  repeat first|with_reducible refine ao ?_|simp only[go_sem,simprocAttr]
  repeat first|(refine aR [] (fargs:=[.s _,.s _,.s _]) (cm.same rfl) (BI _ _ _) (by simp only[go_sem,simprocAttr]) ?_)|(refine aR [] (fargs:=[.s _]) (cm.same rfl) (BJ _) (by simp only[go_sem,simprocAttr]) ?_)|(with_reducible refine GA.go aF rfl ?_)|simp only[go_sem,simprocAttr]
  refine⟨[_],rfl,⟨rfl,?_⟩,trivial⟩
  rfl
 ·exact⟨rfl,by kernel_rfl⟩
def pA(l:List (Bool×Int))(i j:Nat):AV:=if j=0 then .b (l.getD i (false,0)).1 else .n .i64 (l.getD i (false,0)).2
def pI(l:List (Int×Int))(i j:Nat):AV:=if j=0 then .n .i64 (l.getD i (0,0)).1 else .n .u32 (l.getD i (0,0)).2
theorem Az(l:List (Bool×Int))(i:Nat):pA l i 0= .b (l.getD i (false,0)).1:=rfl
theorem Ay(l:List (Bool×Int))(i:Nat):pA l i 1= .n .i64 (l.getD i (false,0)).2:=rfl
theorem cT(l:List (Int×Int))(i:Nat):pI l i 0= .n .i64 (l.getD i (0,0)).1:=rfl
theorem ph(l:List (Int×Int))(i:Nat):pI l i 1= .n .u32 (l.getD i (0,0)).2:=rfl
def aJ(la:List (Bool×Int))(loc:Int)(cs:List (Int×Int)):AV:= .agg [.fs 2 la.length (pA la),.n .i64 loc,.fs 2 cs.length (pI cs)]
theorem cF{α:Type}{d:α}{l:List α}{k:Nat}(h:k<l.length):l.drop k=l.getD k d::l.drop (k+1):=by
 rw[List.drop_eq_getElem_cons h,List.getD_eq_getElem?_getD,List.getElem?_eq_getElem h];rfl
/-! ### the table of operations-/
theorem qz{k:Nat}{l:List AV}(h:xK k l=true):∃a b c,l=[.s a,.s b,.s c,.n .u64 (lh k),.b (lx k)]:=by
 unfold xK at h
 split at h
 ·rename_i a b c l q
  simp only[Bool.and_eq_true,decide_eq_true_eq,beq_iff_eq] at h
  exact⟨a,b,c,by rw[h.1,h.2]⟩
 ·cases h
theorem BF:∃L:List AV,bN Tryz.prog 97 [] [.v (.agg L)]/\L.length=36*5/\∀k:Nat,k<36->∃a b c,(L.drop (k*5)).take 5=[.s a,.s b,.s c,.n .u64 (lh k),.b (lx k)]:=by
 obtain⟨L,h1,h2,h3⟩:=qF
 exact⟨L,h1,h2,λk hk=>qz (Bool.and_eq_true_iff.1 (List.all_eq_true.1 h3 k (List.mem_range.2 hk))).1⟩
def WN(a b c:ByteArray)(k:Int):AV:= .agg [.s a,.s b,.s c,.n .u64 (lh k),.b (lx k)]
def sg:AV:= .agg [.s ⟨#[]⟩,.s ⟨#[]⟩,.s ⟨#[]⟩,.n .u64 0,.b false]
theorem yU(op:Int)(h:op<0\/36<=op):bN Tryz.prog 70 [.n .i64 op] [.v sg,.v (.b false)]:=by
 refine ag aF Dg ⟨by simp,by decide⟩ ?_
 simp only[aH,sg]
 by_cases h0:op<0
 ·repeat first|with_reducible refine ao ?_|simp only[h0,decide_true,go_sem,simprocAttr]
  exact⟨[_,_],rfl,⟨rfl,rfl⟩,⟨rfl,rfl⟩,trivial⟩
 ·have h1:36<=op:=by omega
  repeat first|with_reducible refine ao ?_|simp only[h0,h1,ge_iff_le,decide_true,decide_false,go_sem,simprocAttr]
  exact⟨[_,_],rfl,⟨rfl,rfl⟩,⟨rfl,rfl⟩,trivial⟩
theorem mN(k:Nat)(hk:k<36):∃a b c,bN Tryz.prog 70 [.n .i64 k] [.v (WN a b c k),.v (.b true)]:=by
 obtain⟨L,hL,hlen,hrow⟩:=BF
 obtain⟨a,b,c,hr⟩:=hrow k hk
 refine⟨a,b,c,?_⟩
 refine ag aF Dg ⟨by simp,by decide⟩ ?_
 simp only[aH,WN]
 have h0:¬((k:Int)<0):=by omega
 have h1:¬((36:Int)<=k):=by omega
 have h2:(0:Int)<=(k:Int):=by omega
 have h3:(k:Int)<36:=by omega
 repeat first|with_reducible refine ao ?_|simp only[h0,h1,ge_iff_le,decide_true,decide_false,go_sem,simprocAttr]
 refine bO ([]) hL ?_
 repeat first|with_reducible refine ao ?_|simp only[hlen,h2,h3,hr,Int.toNat_natCast,and_self,go_sem,simprocAttr]
 exact⟨[_,_],rfl,⟨rfl,rfl⟩,⟨rfl,rfl⟩,trivial⟩
/-! ### an instruction-/
def dN(i:Int×Int):Int:=if i.1<0\/36<=i.1 then 1 else if lh i.1<=i.2 then 2 else 0
theorem sU(op arg:Int)(ha:0<=arg)(ha2:arg<4294967296):bN Tryz.prog 94 [.agg [.n .i64 op,.n .u32 arg]] [.v (.n .i64 (dN (op,arg)))]:=by
 refine ag aF Xm ⟨by simp,by decide⟩ ?_
 simp only[aH]
 have hw:IntKind.u64.wrap arg=arg:=by
  unfold IntKind.wrap;simp[IntKind.signed,IntKind.bits];omega
 repeat first|with_reducible refine ao ?_|simp only[go_sem,simprocAttr]
 by_cases h:op<0\/36<=op
 ·refine bO ([.n .i64 op]) (yU op h) ?_
  simp only[sg]
  repeat first|with_reducible refine ao ?_|simp only[go_sem,simprocAttr]
  exact aa (by simp only[dN,h,if_true]) rfl
 ·obtain⟨k,rfl⟩:∃k:Nat,op=k:=⟨op.toNat,by omega⟩
  obtain⟨a,b,c,hk⟩:=mN k (by omega)
  refine bO ([.n .i64 k]) hk ?_
  simp only[WN]
  by_cases h2:lh k<=arg
  ·repeat first|with_reducible refine ao ?_|simp only[hw,h2,ge_iff_le,decide_true,go_sem,simprocAttr]
   exact aa (by simp only[dN,h,h2,if_true,if_false]) rfl
  ·repeat first|with_reducible refine ao ?_|simp only[hw,h2,ge_iff_le,decide_false,go_sem,simprocAttr]
   exact aa (by simp only[dN,h,h2,if_false]) rfl
/-! ### arrays-/
def ji:List (Bool×Int)->Int->Int
 |[],_=>0
 |a::l,left=>if a.2<1\/left<a.2 then 2 else ji l (left-a.2)
def cR(la:List (Bool×Int)):Int:=if 8<la.length then 6 else ji la 65536
theorem tA(la:List (Bool×Int))(hl:la.length<=9223372036854775807):bN Tryz.prog 93 [.fs 2 la.length (pA la)] [.v (.n .i64 (cR la))]:=by
 refine ag aF XI ⟨by simp,by decide⟩ ?_
 simp only[aH]
 by_cases h8:8<la.length
 ·have h8':(8:Int)<(la.length:Int):=by omega
  repeat first|with_reducible refine ao ?_|simp only[h8',gt_iff_lt,decide_true,go_sem,simprocAttr]
  exact aa (by simp only[cR,h8,if_true]) rfl
 have h8':¬(8:Int)<(la.length:Int):=by omega
 have hE:cR la=ji la 65536:=by simp only[cR,h8,if_false]
 repeat first|with_reducible refine ao ?_|simp only[h8',gt_iff_lt,decide_false,go_sem,simprocAttr]
 refine GA.loop (I:=λm e H=>∃(k:Nat) (left:Int),m=la.length-k/\k<=la.length/\ji la 65536=ji (la.drop k) left/\0<=left/\left<=65536/\e=aB [(3,.n .i64 left),(9,.fs 2 la.length (pA la)),(10,.n .i64 la.length),(11,.n .i64 k)]/\H=ah []) (Wk.mk [] [] ?_ ?_ ?_) ⟨0,65536,rfl,by omega,rfl,by omega,by omega,rfl,rfl⟩ ?_
 ·exact ba
 ·trivial
 ·decide
 rintro m e H ⟨k,left,rfl,hk,hs,hl0,hl1,rfl,rfl⟩
 repeat first|with_reducible refine ao ?_|simp only[go_sem,simprocAttr]
 refine⟨λh=>?_,λh=>?_⟩
 ·have hk':k<la.length:=by omega
  have h0:(0:Int)<=(k:Int):=by omega
  rw[cF (d:=(false,0)) hk',ji] at hs
  by_cases h1:(la.getD k (false,0)).2<1
  ·repeat first|with_reducible refine ao ?_|simp only[h0,h,Az,Ay,h1,decide_true,go_sem,simprocAttr]
   rw[if_pos (.inl h1)] at hs
   exact aa (by rw[hE,hs]) rfl
  by_cases h2:left<(la.getD k (false,0)).2
  ·repeat first|with_reducible refine ao ?_|simp only[h0,h,Az,Ay,h1,h2,gt_iff_lt,decide_true,decide_false,go_sem,simprocAttr]
   rw[if_pos (.inr h2)] at hs
   exact aa (by rw[hE,hs]) rfl
  rw[if_neg (by omega)] at hs
  repeat first|with_reducible refine ao ?_|simp only[h0,h,Az,Ay,h1,h2,gt_iff_lt,decide_false,go_sem,simprocAttr]
  refine⟨_,_,_,?_,Wk.mk [] [] ?_ ?_ ?_,k+1,left-(la.getD k (false,0)).2,rfl,by omega,hs,by omega,by omega,rfl,rfl⟩
  ·omega
  ·exact ba
  ·trivial
  ·decide
 ·repeat first|with_reducible refine ao ?_|simp only[go_sem,simprocAttr]
  have:k=la.length:=by omega
  subst this
  rw[List.drop_length,ji] at hs
  exact aa (by rw[hE,hs]) rfl
/-! ### what is in form-/
def bF:List (Int×Int)->Int
 |[]=>0
 |i::l=>if dN i=0 then bF l else dN i
def bb(la:List (Bool×Int))(loc:Int)(cs:List (Int×Int)):Int:=if cR la=0 then(if loc<0\/16<loc then 2 else if 1024<cs.length then 6 else bF cs) else cR la
def bV(cs:List (Int×Int)):Prop:=∀i ∈ cs,0<=i.2/\i.2<4294967296
theorem eD{α:Type}{l:List α}{k:Nat}{d:α}(h:k<l.length):l.getD k d ∈ l:=by rw[List.getD_eq_getElem?_getD,List.getElem?_eq_getElem h];exact List.getElem_mem _
theorem rn(la:List (Bool×Int))(loc:Int)(cs:List (Int×Int))(hl:la.length<=9223372036854775807)(hc:cs.length<=9223372036854775807)(ha:bV cs):bN Tryz.prog 67 [aJ la loc cs] [.v (.n .i64 (bb la loc cs))]:=by
 refine ag aF X2 ⟨by simp,by decide⟩ ?_
 simp only[aH,aJ]
 repeat first|with_reducible refine ao ?_|simp only[go_sem,simprocAttr]
 refine bO ([.fs 2 la.length (pA la)]) (tA la hl) ?_
 by_cases hA:cR la=0
 rotate_left
 ·repeat first|with_reducible refine ao ?_|simp only[hA,ne_eq,not_false_eq_true,decide_true,go_sem,simprocAttr]
  exact aa (by simp only[bb,hA,if_false]) rfl
 repeat first|with_reducible refine ao ?_|simp only[hA,ne_eq,not_true_eq_false,decide_false,go_sem,simprocAttr]
 by_cases h1:loc<0
 ·repeat first|with_reducible refine ao ?_|simp only[h1,decide_true,go_sem,simprocAttr]
  exact aa (by simp only[bb,hA,h1,true_or,if_true]) rfl
 by_cases h2:16<loc
 ·repeat first|with_reducible refine ao ?_|simp only[h1,h2,gt_iff_lt,decide_true,decide_false,go_sem,simprocAttr]
  exact aa (by simp only[bb,hA,h2,or_true,if_true]) rfl
 have hlo:¬(loc<0\/16<loc):=by omega
 by_cases h3:1024<cs.length
 ·have h3':(1024:Int)<(cs.length:Int):=by omega
  repeat first|with_reducible refine ao ?_|simp only[h1,h2,h3',gt_iff_lt,decide_true,decide_false,go_sem,simprocAttr]
  exact aa (by simp only[bb,hA,hlo,h3,if_true,if_false]) rfl
 have h3':¬(1024:Int)<(cs.length:Int):=by omega
 repeat first|with_reducible refine ao ?_|simp only[h1,h2,h3',gt_iff_lt,decide_false,go_sem,simprocAttr]
 refine GA.loop (I:=λm e H=>∃(k:Nat),m=cs.length-k/\k<=cs.length/\bF cs=bF (cs.drop k)/\e=aB [(28,.fs 2 cs.length (pI cs)),(29,.n .i64 cs.length),(30,.n .i64 k)]/\H=ah []) (Wk.mk [] [] ?_ ?_ ?_) ⟨0,rfl,by omega,rfl,rfl,rfl⟩ ?_
 ·exact ba
 ·trivial
 ·decide
 rintro m e H ⟨k,rfl,hk,hs,rfl,rfl⟩
 have hE:bb la loc cs=bF cs:=by simp only[bb,hA,hlo,h3,if_true,if_false]
 repeat first|with_reducible refine ao ?_|simp only[go_sem,simprocAttr]
 refine⟨λh=>?_,λh=>?_⟩
 ·have hk':k<cs.length:=by omega
  have h0:(0:Int)<=(k:Int):=by omega
  have hm:=ha _ (eD (d:=(0,0)) hk')
  rw[cF (d:=(0,0)) hk',bF] at hs
  repeat first|with_reducible refine ao ?_|simp only[h0,h,cT,ph,go_sem,simprocAttr]
  refine bO ([.agg [.n .i64 (cs.getD k (0,0)).1,.n .u32 (cs.getD k (0,0)).2]]) (sU _ _ hm.1 hm.2) ?_
  by_cases hi:dN (cs.getD k (0,0))=0
  ·rw[if_pos hi] at hs
   repeat first|with_reducible refine ao ?_|simp only[hi,ne_eq,not_true_eq_false,decide_false,go_sem,simprocAttr]
   refine⟨_,_,_,?_,Wk.mk [] [] ?_ ?_ ?_,k+1,rfl,by omega,hs,rfl,rfl⟩
   ·omega
   ·exact ba
   ·trivial
   ·decide
  ·rw[if_neg hi] at hs
   repeat first|with_reducible refine ao ?_|simp only[hi,ne_eq,not_false_eq_true,decide_true,go_sem,simprocAttr]
   exact aa (by rw[hE,hs]) rfl
 ·repeat first|with_reducible refine ao ?_|simp only[go_sem,simprocAttr]
  have:k=cs.length:=by omega
  subst this
  rw[List.drop_length,bF] at hs
  exact aa (by rw[hE,hs]) rfl
theorem bw{k k':IntKind}{a b:Int}(h:0<=b):dw (binOp .shr 0 (.int k a) (.int k' b))=some (.n k (a.fdiv (2^min b.toNat k.bits))):=by
 unfold binOp Op.shift
 simp only[if_neg (Int.not_lt.2 h)]
 rfl
theorem o7{k k':IntKind}{a b:Int}(h:0<=b):dw (binOp .shl 0 (.int k a) (.int k' b))=some (.n k (k.wrap (a*2^min b.toNat k.bits))):=by
 unfold binOp Op.shift
 simp only[if_neg (Int.not_lt.2 h)]
 rfl
theorem kv{k:IntKind}{a b:Int}(h:b≠0):dw (binOp .quo 0 (.int k a) (.int k b))=some (.n k (k.wrap (a.tdiv b))):=by
 unfold binOp Op.intDiv
 simp only[ne_eq,not_true_eq_false,if_false,if_neg h]
 rfl
theorem VA(k:IntKind)(a b:Int):dw (binOp .or 0 (.int k a) (.int k b))=some (.n k (k.wrap ((BitVec.ofInt k.bits a|||BitVec.ofInt k.bits b).toNat:Int))):=by
 unfold binOp Op.intBits
 simp only[ne_eq,not_true_eq_false,if_false]
 rfl
def gM(n:Int):Int:=if n<0\/9007199254740991<n then 0 else n
theorem pj(n:Int):0<=gM n/\gM n<=9007199254740991:=by unfold gM;split<;>omega
theorem sI(n:Int):bN Tryz.prog 129 [.n .i64 n] [.v (.n .i64 (gM n))]:=by
 refine ag aF UK ⟨by simp,by decide⟩ ?_
 simp only[aH]
 by_cases h0:n<0
 ·repeat first|with_reducible refine ao ?_|simp only[h0,decide_true,go_sem,simprocAttr]
  exact aa (by simp only[gM,h0,true_or,if_true]) rfl
 by_cases h1:9007199254740991<n
 ·repeat first|with_reducible refine ao ?_|simp only[h0,h1,gt_iff_lt,decide_true,decide_false,go_sem,simprocAttr]
  exact aa (by simp only[gM,h1,or_true,if_true]) rfl
 ·repeat first|with_reducible refine ao ?_|simp only[h0,h1,gt_iff_lt,decide_false,go_sem,simprocAttr]
  exact aa (by simp only[gM,h0,h1,or_self,if_false]) rfl
theorem JX:(2:Int)^min 32 64=4294967296:=by decide
theorem JY:(2:Int)^min 16 64=65536:=by decide
theorem e8:(2:Int)^min 8 64=256:=by decide
def xz:ByteArray:=⟨#[0,1,2,2,3,3,3,3,4,4,4,4,4,4,4,4,5,5,5,5,5,5,5,5,5,5,5,5,5,5,5,5,6,6,6,6,6,6,6,6,6,6,6,6,6,6,6,6,6,6,6,6,6,6,6,6,6,6,6,6,6,6,6,6,7,7,7,7,7,7,7,7,7,7,7,7,7,7,7,7,7,7,7,7,7,7,7,7,7,7,7,7,7,7,7,7,7,7,7,7,7,7,7,7,7,7,7,7,7,7,7,7,7,7,7,7,7,7,7,7,7,7,7,7,7,7,7,7,8,8,8,8,8,8,8,8,8,8,8,8,8,8,8,8,8,8,8,8,8,8,8,8,8,8,8,8,8,8,8,8,8,8,8,8,8,8,8,8,8,8,8,8,8,8,8,8,8,8,8,8,8,8,8,8,8,8,8,8,8,8,8,8,8,8,8,8,8,8,8,8,8,8,8,8,8,8,8,8,8,8,8,8,8,8,8,8,8,8,8,8,8,8,8,8,8,8,8,8,8,8,8,8,8,8,8,8,8,8,8,8,8,8,8,8,8,8,8,8,8,8,8,8,8,8,8,8]⟩
def Vu:Bool:=(List.range 256).all λj=>match xz[j]? with
 |some c=>decide (c.toNat<=8)
 |none=>false
theorem xy:Vu=true:=by kernel_rfl
def l9(j:Nat):Int:=match xz[j]? with
 |some c=>c.toNat
 |none=>0
theorem jJ(j:Nat)(h:j<256):∃c,xz[j]? =some c/\(c.toNat:Int)=l9 j/\0<=l9 j/\l9 j<=8:=by
 have:=List.all_eq_true.1 xy j (List.mem_range.2 h)
 unfold l9
 split at this
 ·rename_i c hc
  rw[hc]
  have:=of_decide_eq_true this
  exact⟨c,rfl,rfl,by omega,by omega⟩
 ·cases this
abbrev ZO:List AO:=
 [o1 19 (.mv (.t 2)),o1 20 (.mv (.t 0)),o1 21 (.cvi .u8 (.t 20)),o1 22 (.sx (.c (.s xz)) (.t 21)),o1 23 (.cvi .i64 (.t 22)),o1 24 (.bin .add (.t 19) (.t 23)),o1 2 (.mv (.t 24))]
theorem IY:xo=ZO:=by kernel_rfl
def jY(y n:Int):Int:=if 256<=y then n+8+l9 (y / 256).toNat else n+l9 y.toNat
def mM(y n:Int):Int:=if 65536<=y then jY (y / 65536) (n+16) else jY y n
def ed(x:Int):Int:=if 4294967296<=x then mM (x / 4294967296) 32 else mM x 0
theorem lN{y n:Int}(h0:0<=y)(h1:y<65536)(hn:0<=n)(hn2:n<=40\/(n<=48/\y<256)):0<=jY y n/\jY y n<=56:=by
 unfold jY
 split
 ·obtain⟨_,_,_,q1,q2⟩:=jJ (y / 256).toNat (by omega)
  omega
 ·obtain⟨_,_,_,q1,q2⟩:=jJ y.toNat (by omega)
  omega
theorem uo{x:Int}(h0:0<=x)(h1:x<=9007199254740991):0<=ed x/\ed x<=56:=by
 unfold ed mM
 split
 ·split
  ·exact lN (by omega) (by omega) (by omega) (.inr ⟨by omega,by omega⟩)
  ·exact lN (by omega) (by omega) (by omega) (.inl (by omega))
 ·split
  ·exact lN (by omega) (by omega) (by omega) (.inl (by omega))
  ·exact lN (by omega) (by omega) (by omega) (.inl (by omega))
theorem vQ(x:Int)(h0:0<=x)(h1:x<=9007199254740991):bN Tryz.prog 201 [.n .u64 x] [.v (.n .i64 (ed x))]:=by
 have s32:(0:Int)<=32:=by decide
 have s16:(0:Int)<=16:=by decide
 have s8:(0:Int)<=8:=by decide
 have a1:IntKind.i64.wrap 48=48:=rfl
 have a2:IntKind.i64.wrap 40=40:=rfl
 have a3:IntKind.i64.wrap 16=16:=rfl
 have a4:IntKind.i64.wrap 8=8:=rfl
 have a5:IntKind.i64.wrap 24=24:=rfl
 have fin:∀(y n:Int),0<=y->y<256->0<=n->n<=48->∃c,xz[y.toNat]? =some c/\IntKind.u8.wrap y=y/\IntKind.i64.wrap (c.toNat:Int)=c.toNat/\IntKind.i64.wrap (n+(c.toNat:Int))=n+l9 y.toNat:=by
  intro y n hy0 hy1 hn0 hn1
  obtain⟨c,hc,hc1,q1,q2⟩:=jJ y.toNat (by omega)
  exact⟨c,hc,by rw[IntKind.wrap_u8];omega,am (by omega),by rw[hc1];exact am (by omega)⟩
 refine ag aF Uy ⟨by simp,by decide⟩ ?_
 simp only[aH]
 rw[IY]
 by_cases g1:4294967296<=x
 ·by_cases g2:65536<=x / 4294967296
  ·have g3:¬256<=x / 4294967296 / 65536:=by omega
   have hy:(0:Int)<=x / 4294967296 / 65536:=by omega
   obtain⟨c,q1,q2,q3,q4⟩:=fin (x / 4294967296 / 65536) 48 hy (by omega) (by omega) (by omega)
   repeat first|with_reducible refine ao ?_|simp only[g1,ge_iff_le,decide_true,decide_false,bw s32,bw s16,bw s8,JX,JY,e8,g2,g3,a1,q1,q2,q3,q4,hy,go_sem,simprocAttr]
   exact aa (by simp only[ed,mM,jY,g1,g2,g3,if_true,if_false,Int.reduceAdd]) rfl
  ·by_cases g3:256<=x / 4294967296
   ·have hy:(0:Int)<=x / 4294967296 / 256:=by omega
    obtain⟨c,q1,q2,q3,q4⟩:=fin (x / 4294967296 / 256) 40 hy (by omega) (by omega) (by omega)
    repeat first|with_reducible refine ao ?_|simp only[g1,ge_iff_le,decide_true,decide_false,bw s32,bw s16,bw s8,JX,JY,e8,g2,g3,a2,q1,q2,q3,q4,hy,go_sem,simprocAttr]
    exact aa (by simp only[ed,mM,jY,g1,g2,g3,if_true,if_false,Int.reduceAdd]) rfl
   ·have hy:(0:Int)<=x / 4294967296:=by omega
    obtain⟨c,q1,q2,q3,q4⟩:=fin (x / 4294967296) 32 hy (by omega) (by omega) (by omega)
    repeat first|with_reducible refine ao ?_|simp only[g1,ge_iff_le,decide_true,decide_false,bw s32,bw s16,bw s8,JX,JY,e8,g2,g3,q1,q2,q3,q4,hy,go_sem,simprocAttr]
    exact aa (by simp only[ed,mM,jY,g1,g2,g3,if_true,if_false,Int.reduceAdd]) rfl
 ·by_cases g2:65536<=x
  ·by_cases g3:256<=x / 65536
   ·have hy:(0:Int)<=x / 65536 / 256:=by omega
    obtain⟨c,q1,q2,q3,q4⟩:=fin (x / 65536 / 256) 24 hy (by omega) (by omega) (by omega)
    repeat first|with_reducible refine ao ?_|simp only[g1,ge_iff_le,decide_true,decide_false,bw s32,bw s16,bw s8,JX,JY,e8,g2,g3,a3,a5,q1,q2,q3,q4,hy,go_sem,simprocAttr]
    exact aa (by simp only[ed,mM,jY,g1,g2,g3,if_true,if_false,Int.reduceAdd]) rfl
   ·have hy:(0:Int)<=x / 65536:=by omega
    obtain⟨c,q1,q2,q3,q4⟩:=fin (x / 65536) 16 hy (by omega) (by omega) (by omega)
    repeat first|with_reducible refine ao ?_|simp only[g1,ge_iff_le,decide_true,decide_false,bw s32,bw s16,bw s8,JX,JY,e8,g2,g3,a3,q1,q2,q3,q4,hy,go_sem,simprocAttr]
    exact aa (by simp only[ed,mM,jY,g1,g2,g3,if_true,if_false,Int.reduceAdd]) rfl
  ·by_cases g3:256<=x
   ·have hy:(0:Int)<=x / 256:=by omega
    obtain⟨c,q1,q2,q3,q4⟩:=fin (x / 256) 8 hy (by omega) (by omega) (by omega)
    repeat first|with_reducible refine ao ?_|simp only[g1,ge_iff_le,decide_true,decide_false,bw s32,bw s16,bw s8,JX,JY,e8,g2,g3,a4,q1,q2,q3,q4,hy,go_sem,simprocAttr]
    exact aa (by simp only[ed,mM,jY,g1,g2,g3,if_true,if_false,Int.reduceAdd]) rfl
   ·obtain⟨c,q1,q2,q3,q4⟩:=fin x 0 h0 (by omega) (by omega) (by omega)
    repeat first|with_reducible refine ao ?_|simp only[g1,ge_iff_le,decide_true,decide_false,bw s32,bw s16,bw s8,JX,JY,e8,g2,g3,q1,q2,q3,q4,h0,go_sem,simprocAttr]
    exact aa (by simp only[ed,mM,jY,g1,g2,g3,if_true,if_false,Int.reduceAdd]) rfl
theorem um(x:Int)(h0:0<=x)(h1:x<=9007199254740991):bN Tryz.prog 175 [.n .u64 x] [.v (.n .i64 (ed x))]:=by
 refine ag aF UC ⟨by simp,by decide⟩ ?_
 simp only[aH]
 repeat first|with_reducible refine ao ?_|simp only[go_sem,simprocAttr]
 refine bO ([.n .u64 x]) (vQ x h0 h1) ?_
 repeat first|with_reducible refine ao ?_|simp only[go_sem,simprocAttr]
 exact aa rfl rfl
def kH(n:Int):Int:=if 1<=ed n then(ed n-1) / 7 else 0
theorem ux{n:Int}(h0:0<=n)(h1:n<=9007199254740991):0<=kH n/\kH n<=7:=by
 have:=uo h0 h1
 unfold kH;split<;>omega
theorem rm(n:Int)(h0:0<=n)(h1:n<=9007199254740991):bN Tryz.prog 130 [.n .i64 n] [.v (.n .i64 (kH n))]:=by
 have hl:=uo h0 h1
 have hw:IntKind.u64.wrap n=n:=by rw[IntKind.wrap_u64];omega
 have hq:(7:Int)≠0:=by decide
 have hw2:IntKind.i64.wrap (ed n-1)=ed n-1:=am (by omega)
 refine ag aF UF ⟨by simp,by decide⟩ ?_
 simp only[aH]
 repeat first|with_reducible refine ao ?_|simp only[hw,go_sem,simprocAttr]
 refine bO ([.n .u64 n]) (um n h0 h1) ?_
 have key:IntKind.i64.wrap ((if 0<ed n-1 then ed n-1 else 0).tdiv 7)=kH n:=by
  unfold kH
  by_cases h:1<=ed n
  ·have e:(if 0<ed n-1 then ed n-1 else 0)=ed n-1:=by split<;>omega
   rw[e,if_pos h,Int.tdiv_eq_ediv_of_nonneg (by omega)]
   exact am (by omega)
  ·rw[if_neg (by omega),if_neg h];rfl
 repeat first|with_reducible refine ao ?_|simp only[hw2,ox,gF,r7,kv hq,go_sem,simprocAttr]
 exact aa (by rw[key]) rfl
/-! ### bytes-/
def bC(l:List Int)(i _j:Nat):AV:= .n .u8 (l.getD i 0)
theorem zf{l l':List Int}{i:Nat}{d:Int}(h:i<l.length):(l++l').getD i d=l.getD i d:=by
 simp[List.getD_eq_getElem?_getD,List.getElem?_append_left h]
theorem zh{l:List Int}{x d:Int}:(l++[x]).getD l.length d=x:=by
 simp[List.getD_eq_getElem?_getD]
def qU(N:Int):Nat->List Int
 |0=>[]
 |j+1=>IntKind.u8.wrap (N / 2^(8*j))::qU N j
theorem mJ(N:Int):∀j,(qU N j).length=j
 |0=>rfl
 |j+1=>by simp only[qU,List.length_cons,mJ N j]
def ez(n:Int):List Int:=bits .or .u8 (IntKind.u8.wrap (255*2^(8-kH (gM n)).toNat)) (IntKind.u8.wrap (gM n / 2^(8*kH (gM n)).toNat))::qU (gM n) (kH (gM n)).toNat
theorem fQ(n:Int):(ez n).length<=8:=by
 have:=ux (pj n).1 (pj n).2
 simp only[ez,List.length_cons,mJ];omega
theorem pR{l:List Int}{x:Int}(hl:l.length<1100000):∀i j,i<l.length+1->j<1->((ai 5 1 l.length 0 (bC l)).app (l.length*1) (.li [.n .u8 x])).get (i*1+j)=bC (l++[x]) i j:=
 mb rfl (by omega) (λi j hi _=>by unfold bC;rw[zf hi]) (λj hj=>by
  obtain rfl:j=0:=by omega
  unfold bC
  rw[zh]
  rfl)
theorem IZ(l:List Int)(hl:l.length<1000000)(n:Int){H:AH}{b:Nat}(hb:c9 (λb2=>[b].reverse[b2]?) [] H b (ai 5 1 l.length 0 (bC l))):oL Tryz.prog 95 [.os b l.length,.n .i64 n] H λv H'=>v= .os 0 (l++ez n).length/\H'=ah [ai 5 1 (l++ez n).length 0 (bC (l++ez n))]:=by
 refine xX aF UU (by simp) ?_
 refine GA.wk (Wk.arg _ _ _ (by simp)) ?_
 refine GA.wk (e2:=aB [(0,.os 0 l.length),(1,.n .i64 n)]) (H2:=ah [ai 5 1 l.length 0 (bC l)]) (Wk.mk [b] [] ?_ ?_ ?_) ?_
 ·simp only[aH]
  simp only[d9,cM,go_sem,simprocAttr]
  repeat' refine a7 ?_ ?_
  all_goals first|exact iI|skip
 ·exact .cr hb .nil
 ·simp
 have hn:=pj n
 have hf:=ux hn.1 hn.2
 have hE:ez n=bits .or .u8 (IntKind.u8.wrap (255*2^(8-kH (gM n)).toNat)) (IntKind.u8.wrap (gM n / 2^(8*kH (gM n)).toNat))::qU (gM n) (kH (gM n)).toNat:=rfl
 generalize hN:gM n=N at hn hf hE
 generalize hK:kH N=K at hf hE
 have v1:IntKind.i64.wrap (8-K)=8-K:=am (by omega)
 have v2:IntKind.i64.wrap (8*K)=8*K:=am (by omega)
 have s1:(0:Int)<=8-K:=by omega
 have s2:(0:Int)<=8*K:=by omega
 have h0:(0:Int)<=(l.length:Int):=by omega
 have hlim:(l.length+1)*1<1099511627776/\l.length+1<1099511627776/\(l.length+1)*1<=140737488355328/\l.length+1<=140737488355328/\l.length+1<=9223372036854775807:=by omega
 repeat first|with_reducible refine ao ?_|simp only[go_sem,simprocAttr]
 refine bO ([.n .i64 n]) (sI n) ?_
 repeat first|with_reducible refine ao ?_|simp only[hN,go_sem,simprocAttr]
 refine bO ([.n .i64 N]) (hK ▸ rm N hn.1 hn.2) ?_
 repeat first|with_reducible refine ao ?_|simp only[v1,v2,o7 s1,bw s2,VA,h0,hlim.1,hlim.2.1,hlim.2.2.1,hlim.2.2.2.1,hlim.2.2.2.2,decide_true,go_sem,simprocAttr]
 generalize hX:bits BinOp.or .u8 (IntKind.u8.wrap (255*2^(8-K).toNat)) (IntKind.u8.wrap (N / 2^(8*K).toNat))=X at hE
 have vK:IntKind.i64.wrap (K-1)=K-1:=am (by omega)
 simp only[vK]
 refine GA.loop (I:=λm e H=>∃(j:Nat) (xs:List Int),m=j/\j<=7/\xs++qU N j=l++ez n/\xs.length<=l.length+8/\e=aB [(0,.os 0 xs.length),(1,.n .i64 N),(7,.n .i64 ((j:Int)-1))]/\H=ah [ai 5 1 xs.length 0 (bC xs)]) (Wk.mk [2] [] ?_ ?_ ?_) ⟨K.toNat,l++[X],rfl,by omega,by rw[hE];simp,by simp,rfl,rfl⟩ ?_
 ·simp only[d9,cM,List.length_append,List.length_cons,List.length_nil,go_sem,simprocAttr]
  repeat' refine a7 ?_ ?_
  all_goals first|exact iI|skip
 ·refine .cr (.rows (x:=_) (by simp only[go_sem,simprocAttr];rfl) (by rfl) (by rfl) (by rfl) ?_ (Nat.le_refl _) (by decide) ?_ (λi j _ _=>rfl)) .nil
  ·simp only[go_sem,simprocAttr,List.length_append,List.length_cons,List.length_nil]
  ·simp only[go_sem,simprocAttr,List.length_append,List.length_cons,List.length_nil]
   have:=pR (x:=X) (l:=l) (by omega)
   simpa only[Nat.mul_one] using this
 ·simp
 rintro m e H ⟨j,xs,rfl,hj,hs,hxl,rfl,rfl⟩
 cases m with
 |zero=>
  rw[qU,List.append_nil] at hs
  subst hs
  have e0:(((0:Nat):Int)-1)= -1:=rfl
  have e1:¬(0:Int)<= -1:=by decide
  simp only[e0]
  repeat first|with_reducible refine ao ?_|simp only[e1,ge_iff_le,decide_false,go_sem,simprocAttr]
 |succ i=>
  have e0:(((i+1:Nat):Int)-1)=i:=by omega
  have e1:(0:Int)<=i:=by omega
  have e2:(0:Int)<=8*(i:Int):=by omega
  have w1:IntKind.i64.wrap (8*(i:Int))=8*(i:Int):=am (by omega)
  have hT:(8*(i:Int)).toNat=8*i:=by omega
  have hm:min (8*i) 64=8*i:=by omega
  have g0:(0:Int)<=(xs.length:Int):=by omega
  have hlim:(xs.length+1)*1<1099511627776/\xs.length+1<1099511627776/\(xs.length+1)*1<=140737488355328/\xs.length+1<=140737488355328/\xs.length+1<=9223372036854775807:=by omega
  simp only[e0]
  repeat first|with_reducible refine ao ?_|simp only[e1,ge_iff_le,decide_true,w1,hT,hm,bw e2,g0,hlim.1,hlim.2.1,hlim.2.2.1,hlim.2.2.2.1,hlim.2.2.2.2,go_sem,simprocAttr]
  rw[qU] at hs
  have hlen:=congrArg List.length hs
  simp only[List.length_append,List.length_cons,mJ] at hlen
  have h8:=fQ n
  have hg:=pR (x:=IntKind.u8.wrap (N / 2^(8*i))) (l:=xs) (by omega)
  simp only[Nat.mul_one] at hg
  refine⟨_,_,_,?_,Wk.mk [2] [] ?_ ?_ ?_,i,xs++[IntKind.u8.wrap (N / 2^(8*i))],rfl,by omega,by rw[<-hs];simp,by simp only[List.length_append,List.length_cons,List.length_nil];omega,rfl,rfl⟩
  ·omega
  ·simp only[d9,cM,List.length_append,List.length_cons,List.length_nil,go_sem,simprocAttr]
   repeat' refine a7 ?_ ?_
   all_goals first|exact iI|skip
  ·refine .cr (.rows (x:=_) (by simp only[go_sem,simprocAttr];rfl) (by rfl) (by rfl) (by rfl) ?_ (Nat.le_refl _) (by decide) ?_ (λi j _ _=>rfl)) .nil
   ·simp only[go_sem,simprocAttr,List.length_append,List.length_cons,List.length_nil]
   ·simp only[go_sem,simprocAttr,List.length_append,List.length_cons,List.length_nil,Nat.mul_one]
    exact hg
  ·simp
theorem eJ(l:List Int)(hl:l.length<1000000)(n:Int):bN Tryz.prog 68 [.fs 1 l.length (bC l),.n .i64 n] [.o 5 1 (l++ez n).length 0 (bC (l++ez n))]:=by
 refine ag aF U3 ⟨by simp,by decide⟩ ?_
 simp only[aH]
 refine GA.seq ?_
 refine GA.go aF rfl ?_
 simp only[go_sem,simprocAttr]
 refine GA.seq ?_
 refine GA.regx (l1:=[(o1 5 (.mv (.t 0))),⟨some 6,none,.cl (.c (.f 96 [] [])) [(.t 5)]⟩,(o1 7 (.mv (.t 1)))]) (l2:=[(o1 4 (.mv (.t 8)))]) rfl ?_
 simp only[go_sem,simprocAttr]
 refine aR [] (.cons (.rfl (by rfl)) .nil) (tn (n:=l.length) (row:=bC l) hl (λi j _ _=>rfl)) ?_ ?_
 ·simp only[go_sem,simprocAttr]
 simp only[go_sem,simprocAttr]
 refine⟨aB [(1,.n .i64 n)],WE.of (λp hp=>?_),95,[],[],[.os 0 l.length,.n .i64 n],?_,?_,(IZ l hl n ?_).mono ?_⟩
 ·simp only[List.mem_cons,List.not_mem_nil,or_false] at hp
  subst hp
  exact⟨by simp,by simp only[go_sem,simprocAttr],rfl⟩
 ·simp only[go_sem,simprocAttr]
 ·simp only[go_sem,simprocAttr]
 ·exact .k1
 rintro v H' ⟨rfl,rfl⟩
 simp only[go_sem,simprocAttr]
 repeat first|with_reducible refine ao ?_|simp only[go_sem,simprocAttr]
 rw[<-List.length_append]
 exact⟨[_],rfl,.o (x:=_) (by simp only[go_sem,simprocAttr];rfl) (by rfl) (by rfl) (by rfl) (by decide) (Nat.le_refl _) (Nat.le_refl _) (λi j _ hj=>aK i j hj) (λi j _ _=>rfl) rfl .nil⟩
/-! ### Form-/
def og:List (Bool×Int)->Bool
 |[]=>true
 |a::l=>decide (1<=a.2)&&decide (a.2<=65536)&&og l
def gI:List (Bool×Int)->Int
 |[]=>0
 |a::l=>a.2+gI l
theorem jK:∀{la:List (Bool×Int)},og la=true->0<=gI la
 |[],_=>Int.le_refl 0
 |a::l,h=>by
  simp only[og,Bool.and_eq_true,decide_eq_true_eq] at h
  have:=jK h.2
  simp only[gI];omega
theorem nv:∀(la:List (Bool×Int)) (left:Int),0<=left->left<=65536->ji la left=if og la=true/\gI la<=left then 0 else 2
 |[],left,h0,h=>by simp only[ji,og,gI,h0,and_self,if_true]
 |a::l,left,h0,h=>by
  simp only[ji]
  by_cases hb:a.2<1\/left<a.2
  ·rw[if_pos hb,if_neg]
   rintro ⟨h1,h2⟩
   simp only[og,Bool.and_eq_true,decide_eq_true_eq,gI] at h1 h2
   have:=jK h1.2
   omega
  ·rw[if_neg hb,nv l (left-a.2) (by omega) (by omega)]
   simp only[og,gI,Bool.and_eq_true,decide_eq_true_eq]
   by_cases h1:og l=true/\gI l<=left-a.2
   ·rw[if_pos h1,if_pos ⟨⟨⟨by omega,by omega⟩,h1.1⟩,by omega⟩]
   ·rw[if_neg h1,if_neg (λh2=>h1 ⟨h2.1.2,by omega⟩)]
theorem rp{la:List (Bool×Int)}{loc:Int}{cs:List (Int×Int)}(h:¬8<la.length)(hb:¬(og la=true/\gI la<=65536)):bb la loc cs=2:=by
 have e:cR la=2:=by simp only[cR,h,if_false];rw[nv la 65536 (by omega) (by omega),if_neg hb]
 simp only[bb,e];rfl
theorem pJ{la:List (Bool×Int)}{loc:Int}{cs:List (Int×Int)}(h:¬8<la.length)(hb:og la=true/\gI la<=65536):bb la loc cs=if loc<0\/16<loc then 2 else if 1024<cs.length then 6 else bF cs:=by
 have e:cR la=0:=by simp only[cR,h,if_false];rw[nv la 65536 (by omega) (by omega),if_pos hb]
 simp only[bb,e,if_true]
/-! ### the memory-/
def qO:List (Bool×Int)->Int
 |[]=>0
 |a::l=>(if a.1=true then 4*a.2 else a.2)+qO l
def lc(la:List (Bool×Int))(loc:Int):Int:=4*(loc+48)+qO la
theorem pm:∀{la:List (Bool×Int)},og la=true->0<=qO la/\qO la<=4*gI la
 |[],_=>⟨Int.le_refl 0,Int.le_refl 0⟩
 |a::l,h=>by
  simp only[og,Bool.and_eq_true,decide_eq_true_eq] at h
  have:=pm h.2
  simp only[gI,qO];split<;>omega
theorem oy{la:List (Bool×Int)}{loc:Int}{cs:List (Int×Int)}(h:bb la loc cs=0):og la=true/\gI la<=65536/\0<=loc/\loc<=16/\la.length<=8/\cs.length<=1024/\bF cs=0:=by
 by_cases h8:8<la.length
 ·simp only[bb,cR,h8,if_true] at h;simp at h
 by_cases hb:og la=true/\gI la<=65536
 ·rw[pJ h8 hb] at h
  split at h
  ·cases h
  ·split at h
   ·cases h
   ·exact⟨hb.1,hb.2,by omega,by omega,by omega,by omega,h⟩
 ·rw[rp h8 hb] at h;cases h
theorem zA(b:Bool):bN Tryz.prog 69 [.b b] [.v (.n .u32 (if b=true then 1 else 0))]:=by
 refine ag aF Un ⟨by simp,by decide⟩ ?_
 simp only[aH]
 cases b
 ·repeat first|with_reducible refine ao ?_|simp only[go_sem,simprocAttr]
  exact aa rfl rfl
 ·repeat first|with_reducible refine ao ?_|simp only[go_sem,simprocAttr]
  exact aa rfl rfl
def CI(a:Bool×Int):List Int:=ez (2*a.2+(if a.1=true then 1 else 0))
def JL(i:Int×Int):List Int:=IntKind.u8.wrap i.1::(if lx i.1=true then ez i.2 else[])
def Cx(la:List (Bool×Int))(loc:Int)(cs:List (Int×Int)):List Int:=ez la.length++la.flatMap CI++ez loc++ez cs.length++cs.flatMap JL
theorem m9(la:List (Bool×Int))(loc:Int)(cs:List (Int×Int))(hl:la.length<=9223372036854775807)(hc:cs.length<=9223372036854775807)(ha:bV cs)(hf:¬bb la loc cs=0):bN Tryz.prog 38 [aJ la loc cs] [.v .sl0,.v (.n .i64 (bb la loc cs))]:=by
 refine ag aF O6 ⟨by simp,by decide⟩ ?_
 simp only[aH,aJ]
 repeat first|with_reducible refine ao ?_|simp only[go_sem,simprocAttr]
 refine bO ([aJ la loc cs]) (rn la loc cs hl hc ha) ?_
 repeat first|with_reducible refine ao ?_|simp only[hf,ne_eq,not_false_eq_true,decide_true,go_sem,simprocAttr]
 exact⟨[_,_],rfl,⟨rfl,rfl⟩,⟨rfl,rfl⟩,trivial⟩
theorem qK:∀{la:List (Bool×Int)} (k:Nat),og la=true->og (la.drop k)=true
 |la,0,h=>h
 |[],k+1,h=>h
 |a::l,k+1,h=>by
  simp only[og,Bool.and_eq_true] at h
  exact qK k h.2
theorem ki:∀{cs:List (Int×Int)} (k:Nat),bF cs=0->bF (cs.drop k)=0
 |cs,0,h=>h
 |[],k+1,h=>h
 |i::l,k+1,h=>by
  simp only[bF] at h
  split at h
  ·exact ki k h
  ·rename_i g;exact absurd h g
theorem vY{i:Int×Int}(h:dN i=0):0<=i.1/\i.1<36:=by
 unfold dN at h
 split at h
 ·cases h
 ·omega
theorem lm(la:List (Bool×Int))(loc:Int)(cs:List (Int×Int))(ha:bV cs)(hf:bb la loc cs=0):bN Tryz.prog 38 [aJ la loc cs] [.o 5 1 (Cx la loc cs).length 0 (bC (Cx la loc cs)),.v (.n .i64 0)]:=by
 obtain⟨f1,f2,f3,f4,f5,f6,f7⟩:=oy hf
 refine ag aF O6 ⟨by simp,by decide⟩ ?_
 simp only[aH,aJ]
 repeat first|with_reducible refine ao ?_|simp only[go_sem,simprocAttr]
 refine bO ([aJ la loc cs]) (rn la loc cs (by omega) (by omega) ha) ?_
 repeat first|with_reducible refine ao ?_|simp only[hf,ne_eq,not_true_eq_false,decide_false,go_sem,simprocAttr]
 refine aR [] (fargs:=[.fs 1 ([]:List Int).length (bC []),.n .i64 la.length]) (.cons (.sl0 _ _) (.cons (.rfl rfl) .nil)) (eJ [] (by decide) la.length) ?_ ?_
 ·simp only[go_sem,simprocAttr]
 repeat first|with_reducible refine ao ?_|simp only[go_sem,simprocAttr]
 have b0:=fQ (la.length:Int)
 have b1:=fQ loc
 have b2:=fQ (cs.length:Int)
 refine GA.loop (I:=λm e H=>∃(k:Nat) (xs:List Int),m=la.length-k/\k<=la.length/\xs++(la.drop k).flatMap CI=ez la.length++la.flatMap CI/\xs.length<=8+8*k/\gI (la.drop k)<=65536/\e=aB [(1,.p 0 0),(5,.os 1 xs.length),(22,.fs 2 la.length (pA la)),(23,.n .i64 la.length),(24,.n .i64 k)]/\H=ah [ai 5 1 xs.length 0 (bC xs),ae 0 25 [.fs 2 la.length (pA la),.n .i64 loc,.fs 2 cs.length (pI cs)]]) (Wk.mk [1,0] [] ?_ ?_ ?_) ⟨0,ez la.length,rfl,by omega,rfl,by omega,f2,rfl,rfl⟩ ?_
 ·exact ba
 ·exact .cr .k1 (.cr .ls .nil)
 ·simp
 rintro m e H ⟨k,xs,rfl,hk,hs,hxl,hsum,rfl,rfl⟩
 repeat first|with_reducible refine ao ?_|simp only[go_sem,simprocAttr]
 refine⟨λh=>?_,λh=>?_⟩
 ·have hk':k<la.length:=by omega
  have h0:(0:Int)<=(k:Int):=by omega
  have hok:=qK k f1
  rw[cF (d:=(false,0)) hk'] at hs hsum hok
  simp only[og,gI,List.flatMap_cons,Bool.and_eq_true,decide_eq_true_eq] at hs hsum hok
  have hp:=jK hok.2
  have bx:=fQ (2*(la.getD k (false,0)).2+(if(la.getD k (false,0)).1=true then 1 else 0))
  have v1:IntKind.i64.wrap (2*(la.getD k (false,0)).2)=2*(la.getD k (false,0)).2:=am (by omega)
  have v2:IntKind.i64.wrap (if(la.getD k (false,0)).1=true then 1 else 0)=(if(la.getD k (false,0)).1=true then 1 else 0):=am (by split<;>omega)
  have v3:IntKind.i64.wrap (2*(la.getD k (false,0)).2+(if(la.getD k (false,0)).1=true then 1 else 0))=2*(la.getD k (false,0)).2+(if(la.getD k (false,0)).1=true then 1 else 0):=am (by split<;>omega)
  repeat first|with_reducible refine ao ?_|simp only[h0,h,Az,Ay,v1,go_sem,simprocAttr]
  refine bO ([.b (la.getD k (false,0)).1]) (zA _) ?_
  repeat first|with_reducible refine ao ?_|simp only[v1,v2,v3,go_sem,simprocAttr]
  refine aR [1] (.cons (.ownb (ty:=5) (z:=0) (by simp only[go_sem,simprocAttr]) (λi j _ _=>rfl) (by simp)) (.cons (.rfl rfl) .nil)) (eJ xs (by omega) (2*(la.getD k (false,0)).2+(if(la.getD k (false,0)).1=true then 1 else 0))) ?_ ?_
  ·simp only[go_sem,simprocAttr]
  repeat first|with_reducible refine ao ?_|simp only[go_sem,simprocAttr]
  refine⟨_,_,_,?_,Wk.mk [3,0] [] ?_ ?_ ?_,k+1,xs++ez (2*(la.getD k (false,0)).2+(if(la.getD k (false,0)).1=true then 1 else 0)),rfl,by omega,by rw[<-hs];simp only[CI,List.append_assoc],by simp only[List.length_append];omega,by omega,rfl,rfl⟩
  ·omega
  ·simp only[d9,cM,List.length_append,go_sem,simprocAttr]
   repeat' refine a7 ?_ ?_
   all_goals first|exact iI|skip
  ·refine .cr (.rows (x:=_) (by simp only[go_sem,simprocAttr];rfl) (by rfl) (by rfl) (by rfl) ?_ (Nat.le_refl _) (by decide) (λi j _ hj=>aK i j hj) (λi j _ _=>rfl)) (.cr .ls .nil)
   simp only[go_sem,simprocAttr,List.length_append,Nat.le_refl]
  ·simp
 have:k=la.length:=by omega
 subst this
 rw[List.drop_length,List.flatMap_nil,List.append_nil] at hs
 have hxs:xs.length<=72:=by omega
 have ln:(xs++ez loc).length<=80:=by simp only[List.length_append];omega
 repeat first|with_reducible refine ao ?_|simp only[go_sem,simprocAttr]
 refine aR [1] (.cons (.ownb (ty:=5) (z:=0) (by simp only[go_sem,simprocAttr]) (λi j _ _=>rfl) (by simp)) (.cons (.rfl rfl) .nil)) (eJ xs (by omega) loc) ?_ ?_
 ·simp only[go_sem,simprocAttr]
 repeat first|with_reducible refine ao ?_|simp only[go_sem,simprocAttr]
 rw[<-List.length_append]
 refine aR [2] (.cons (.ownb (ty:=5) (z:=0) (by simp only[go_sem,simprocAttr]) (λi j _ _=>rfl) (by simp)) (.cons (.rfl rfl) .nil)) (eJ (xs++ez loc) (by omega) cs.length) ?_ ?_
 ·simp only[go_sem,simprocAttr]
 repeat first|with_reducible refine ao ?_|simp only[go_sem,simprocAttr]
 have hX:(xs++ez loc++ez cs.length).length<=88:=by simp only[List.length_append] at ln ⊢;omega
 refine GA.loop (I:=λm e H=>∃(k:Nat) (xs:List Int),m=cs.length-k/\k<=cs.length/\xs++(cs.drop k).flatMap JL=Cx la loc cs/\xs.length<=88+9*k/\e=aB [(5,.os 0 xs.length),(48,.fs 2 cs.length (pI cs)),(49,.n .i64 cs.length),(50,.n .i64 k)]/\H=ah [ai 5 1 xs.length 0 (bC xs)]) (Wk.mk [3] [] ?_ ?_ ?_) ⟨0,xs++ez loc++ez cs.length,rfl,by omega,by rw[hs];simp only[Cx,List.drop_zero],by omega,rfl,rfl⟩ ?_
 ·simp only[d9,cM,List.length_append,go_sem,simprocAttr]
  repeat' refine a7 ?_ ?_
  all_goals first|exact iI|skip
 ·refine .cr (.rows (x:=_) (by simp only[go_sem,simprocAttr];rfl) (by rfl) (by rfl) (by rfl) ?_ (Nat.le_refl _) (by decide) (λi j _ hj=>aK i j hj) (λi j _ _=>rfl)) .nil
  simp only[go_sem,simprocAttr,List.length_append,Nat.le_refl]
 ·simp
 clear hs hxs ln hX hxl xs
 rintro m e H ⟨k,xs,rfl,hk,hs,hxl,rfl,rfl⟩
 repeat first|with_reducible refine ao ?_|simp only[go_sem,simprocAttr]
 refine⟨λh=>?_,λh=>?_⟩
 ·have hk':k<cs.length:=by omega
  have h0:(0:Int)<=(k:Int):=by omega
  have hok:=ki k f7
  have hm:=ha _ (eD (d:=(0,0)) hk')
  rw[cF (d:=(0,0)) hk'] at hs hok
  simp only[bF,List.flatMap_cons] at hs hok
  have hi:dN (cs.getD k (0,0))=0:=by
   by_cases g:dN (cs.getD k (0,0))=0
   ·exact g
   ·rw[if_neg g] at hok;exact hok
  obtain⟨g1,g2⟩:=vY hi
  obtain⟨op,hop⟩:∃op:Nat,(cs.getD k (0,0)).1=op:=⟨(cs.getD k (0,0)).1.toNat,by omega⟩
  obtain⟨na,nb,nc,hkn⟩:=mN op (by omega)
  have bx:=fQ (cs.getD k (0,0)).2
  have v1:IntKind.i64.wrap (cs.getD k (0,0)).2=(cs.getD k (0,0)).2:=am (by omega)
  have hlim:(xs.length+1)*1<1099511627776/\xs.length+1<1099511627776/\(xs.length+1)*1<=140737488355328/\xs.length+1<=140737488355328/\xs.length+1<=9223372036854775807:=by omega
  have hg:=pR (x:=IntKind.u8.wrap op) (l:=xs) (by omega)
  simp only[Nat.mul_one] at hg
  have hl1:(xs++[IntKind.u8.wrap op]).length=xs.length+1:=by simp
  simp only[JL,hop] at hs
  repeat first|with_reducible refine ao ?_|simp only[h0,h,cT,ph,hop,hlim.1,hlim.2.1,hlim.2.2.1,hlim.2.2.2.1,hlim.2.2.2.2,decide_true,go_sem,simprocAttr]
  refine bO ([.n .i64 op]) hkn ?_
  simp only[WN]
  cases hA:lx op
  ·simp only[hA,Bool.false_eq_true,if_false] at hs
   repeat first|with_reducible refine ao ?_|simp only[hA,go_sem,simprocAttr]
   refine⟨_,_,_,?_,Wk.mk [3] [] ?_ ?_ ?_,k+1,xs++[IntKind.u8.wrap op],rfl,by omega,by rw[<-hs];simp,by rw[hl1];omega,rfl,rfl⟩
   ·omega
   ·simp only[d9,cM,hl1,go_sem,simprocAttr]
    repeat' refine a7 ?_ ?_
    all_goals first|exact iI|skip
   ·refine .cr (.rows (x:=_) (by simp only[go_sem,simprocAttr];rfl) (by rfl) (by rfl) (by rfl) ?_ (Nat.le_refl _) (by decide) ?_ (λi j _ _=>rfl)) .nil
    ·simp only[go_sem,simprocAttr,hl1]
    ·simp only[go_sem,simprocAttr,hl1,Nat.mul_one]
     exact hg
   ·simp
  ·simp only[hA,if_true] at hs
   repeat first|with_reducible refine ao ?_|simp only[hA,go_sem,simprocAttr]
   rw[<-hl1]
   refine aR [3] (.cons (.os (x:=_) (by simp) (by simp only[go_sem,simprocAttr];rfl) ?_ ?_ (λi j _ _=>rfl)) (.cons (.rfl rfl) .nil)) (eJ (xs++[IntKind.u8.wrap op]) (by omega) (IntKind.i64.wrap (cs.getD k (0,0)).2)) ?_ ?_
   ·simp only[go_sem,simprocAttr,hl1,Nat.le_refl]
   ·simp only[go_sem,simprocAttr,hl1,Nat.mul_one]
    exact hg
   ·simp only[go_sem,simprocAttr]
   rw[v1]
   repeat first|with_reducible refine ao ?_|simp only[go_sem,simprocAttr]
   refine⟨_,_,_,?_,Wk.mk [5] [] ?_ ?_ ?_,k+1,xs++[IntKind.u8.wrap op]++ez (cs.getD k (0,0)).2,rfl,by omega,by rw[<-hs];simp,by rw[List.length_append,hl1];omega,rfl,rfl⟩
   ·omega
   ·simp only[d9,cM,List.length_append,go_sem,simprocAttr]
    repeat' refine a7 ?_ ?_
    all_goals first|exact iI|skip
   ·refine .cr (.rows (x:=_) (by simp only[go_sem,simprocAttr];rfl) (by rfl) (by rfl) (by rfl) ?_ (Nat.le_refl _) (by decide) (λi j _ hj=>aK i j hj) (λi j _ _=>rfl)) .nil
    simp only[go_sem,simprocAttr,List.length_append,Nat.le_refl]
   ·simp
 ·repeat first|with_reducible refine ao ?_|simp only[go_sem,simprocAttr]
  have:k=cs.length:=by omega
  subst this
  rw[List.drop_length,List.flatMap_nil,List.append_nil] at hs
  subst hs
  exact⟨[_,_],rfl,.o (x:=_) (by simp only[go_sem,simprocAttr];rfl) (by rfl) (by rfl) (by rfl) (by decide) (Nat.le_refl _) (Nat.le_refl _) (λi j _ hj=>aK i j hj) (λi j _ _=>rfl) rfl (.v rfl rfl .nil)⟩
theorem mH(la:List (Bool×Int))(loc:Int)(cs:List (Int×Int))(hl:la.length<=9223372036854775807)(hc:cs.length<=9223372036854775807)(ha:bV cs):bN Tryz.prog 15 [aJ la loc cs] [.v (.n .i64 (if bb la loc cs=0 then lc la loc else 0)),.v (.n .i64 (bb la loc cs))]:=by
 refine ag aF Nc ⟨by simp,by decide⟩ ?_
 simp only[aH,aJ]
 repeat first|with_reducible refine ao ?_|simp only[go_sem,simprocAttr]
 by_cases hf:bb la loc cs=0
 rotate_left
 ·refine bO ([aJ la loc cs]) (m9 la loc cs hl hc ha hf) ?_
  repeat first|with_reducible refine ao ?_|simp only[hf,ne_eq,not_false_eq_true,decide_true,go_sem,simprocAttr]
  exact⟨[_,_],rfl,⟨rfl,rfl⟩,⟨rfl,rfl⟩,trivial⟩
 refine bO ([aJ la loc cs]) (lm la loc cs ha hf) ?_
 obtain⟨f1,f2,f3,f4,f5,f6,f7⟩:=oy hf
 have f0:=pm f1
 have w1:IntKind.i64.wrap (loc+32)=loc+32:=am (by omega)
 have w2:IntKind.i64.wrap (loc+32+16)=loc+32+16:=am (by omega)
 have w3:IntKind.i64.wrap (4*(loc+32+16))=4*(loc+32+16):=am (by omega)
 repeat first|with_reducible refine ao ?_|simp only[hf,w1,w2,w3,ne_eq,not_true_eq_false,decide_false,go_sem,simprocAttr]
 refine GA.loop (I:=λm e H=>∃(k:Nat) (s:Int),m=la.length-k/\k<=la.length/\og (la.drop k)=true/\lc la loc=s+qO (la.drop k)/\gI (la.drop k)<=65536/\0<=s/\s<=1000000/\e=aB [(6,.n .i64 s),(24,.fs 2 la.length (pA la)),(25,.n .i64 la.length),(26,.n .i64 k)]/\H=ah []) (Wk.mk [] [] ?_ ?_ ?_) ⟨0,4*(loc+32+16),rfl,by omega,f1,by simp only[lc,List.drop_zero];omega,f2,by omega,by omega,rfl,rfl⟩ ?_
 ·exact ba
 ·exact .nil
 ·simp
 rintro m e H ⟨k,s,rfl,hk,hs,hs2,hs5,hs0,hs1,rfl,rfl⟩
 repeat first|with_reducible refine ao ?_|simp only[go_sem,simprocAttr]
 refine⟨λh=>?_,λh=>?_⟩
 ·have hk':k<la.length:=by omega
  have h0:(0:Int)<=(k:Int):=by omega
  rw[cF (d:=(false,0)) hk'] at hs hs2 hs5
  simp only[og,qO,gI,Bool.and_eq_true,decide_eq_true_eq] at hs hs2 hs5
  have hm:=pm hs.2
  have hp:=jK hs.2
  have hM:lc la loc<=1000000:=by simp only[lc];omega
  cases hw:(la.getD k (false,0)).1
  ·have v2:IntKind.i64.wrap (s+(la.getD k (false,0)).2)=s+(la.getD k (false,0)).2:=am (by omega)
   rw[hw] at hs2
   simp only[Bool.false_eq_true,if_false] at hs2
   repeat first|with_reducible refine ao ?_|simp only[h0,h,Az,Ay,hw,v2,go_sem,simprocAttr]
   refine⟨_,_,_,?_,Wk.mk [] [] ?_ ?_ ?_,k+1,s+(la.getD k (false,0)).2,rfl,by omega,hs.2,by omega,by omega,by omega,by omega,rfl,rfl⟩
   ·omega
   ·exact ba
   ·exact .nil
   ·simp
  ·have v1:IntKind.i64.wrap ((la.getD k (false,0)).2*4)=(la.getD k (false,0)).2*4:=am (by omega)
   have v2:IntKind.i64.wrap (s+(la.getD k (false,0)).2*4)=s+(la.getD k (false,0)).2*4:=am (by omega)
   rw[hw] at hs2
   simp only[if_true] at hs2
   repeat first|with_reducible refine ao ?_|simp only[h0,h,Az,Ay,hw,v1,v2,go_sem,simprocAttr]
   refine⟨_,_,_,?_,Wk.mk [] [] ?_ ?_ ?_,k+1,s+(la.getD k (false,0)).2*4,rfl,by omega,hs.2,by omega,by omega,by omega,by omega,rfl,rfl⟩
   ·omega
   ·exact ba
   ·exact .nil
   ·simp
 ·repeat first|with_reducible refine ao ?_|simp only[go_sem,simprocAttr]
  have:k=la.length:=by omega
  subst this
  rw[List.drop_length] at hs2
  simp only[qO,Int.add_zero] at hs2
  exact⟨[_,_],rfl,⟨by rw[hs2],rfl⟩,⟨rfl,rfl⟩,trivial⟩
def tC(l:List Bool)(i _j:Nat):AV:= .b (l.getD i false)
theorem tC0(l:List Bool)(i j:Nat):tC l i j= .b (l.getD i false):=rfl
def xa:List (Int×Int)->List Bool->Int->Int
 |[],_,lo=>lo
 |i::l,st,lo=>if 3<lo then lo else if i.1=29 then xa l (st++[true]) (lo+1) else if i.1=27 then xa l (st++[false]) lo else if i.1=31 then(if st.length=0 then xa l st lo else xa l (st.take (st.length-1)) (if st.getD (st.length-1) false=true then lo-1 else lo)) else xa l st lo
theorem zg{l l':List Bool}{i:Nat}(h:i<l.length):(l++l').getD i false=l.getD i false:=by
 simp[List.getD_eq_getElem?_getD,List.getElem?_append_left h]
theorem zi{l:List Bool}{x:Bool}:(l++[x]).getD l.length false=x:=by
 simp[List.getD_eq_getElem?_getD]
theorem tT{l:List Bool}{x:Bool}(hl:l.length<1100000):∀i j,i<l.length+1->j<1->((ai 4 1 l.length 0 (tC l)).app (l.length*1) (.li [.b x])).get (i*1+j)=tC (l++[x]) i j:=
 mb rfl (by omega) (λi j hi _=>by unfold tC;rw[zg hi]) (λj hj=>by
  obtain rfl:j=0:=by omega
  unfold tC
  rw[zi]
  rfl)
theorem qs(cs:List (Int×Int))(hc:cs.length<=200):bN Tryz.prog 19 [.fs 2 cs.length (pI cs)] [.v (.b (decide (xa cs [] 0<=3)))]:=by
 refine ag aF Mb ⟨by simp,by decide⟩ ?_
 simp only[aH]
 repeat first|with_reducible refine ao ?_|simp only[go_sem,simprocAttr]
 refine GA.wk (Wk.nil 3 1 4 (by simp only[go_sem,simprocAttr]) (by decide) (by simp only[go_sem,simprocAttr])) ?_
 simp only[ke]
 refine GA.loop (I:=λm e H=>∃(k:Nat) (st:List Bool) (lo:Int),m=cs.length-k/\k<=cs.length/\xa cs [] 0=xa (cs.drop k) st lo/\st.length<=k/\ -200<=lo+k/\lo<=k/\e=aB [(0,.fs 2 cs.length (pI cs)),(3,.os 0 st.length),(4,.n .i64 lo),(5,.n .i64 k)]/\H=ah [ai 4 1 st.length 0 (tC st)]) (Wk.mk [0] [] ?_ ?_ ?_) ⟨0,[],0,rfl,by omega,rfl,by simp,by omega,by omega,rfl,rfl⟩ ?_
 ·exact ba
 ·exact .cr (.r1) .nil
 ·simp
 rintro m e H ⟨k,st,lo,rfl,hk,hs,hsl,hlo,hlo2,rfl,rfl⟩
 have h0:(0:Int)<=(k:Int):=by omega
 by_cases h:(k:Int)<cs.length
 rotate_left
 ·repeat first|with_reducible refine ao ?_|simp only[h,decide_false,go_sem,simprocAttr]
  have:k=cs.length:=by omega
  subst this
  rw[List.drop_length,xa] at hs
  exact aa (by rw[hs]) rfl
 have hk':k<cs.length:=by omega
 rw[cF (d:=(0,0)) hk',xa] at hs
 by_cases h3:3<lo
 ·rw[if_pos h3] at hs
  have h3':¬lo<=3:=by omega
  repeat first|with_reducible refine ao ?_|simp only[h,h3',decide_true,decide_false,go_sem,simprocAttr]
  exact aa (by rw[hs,decide_eq_false h3']) rfl
 rw[if_neg h3] at hs
 have h3':lo<=3:=by omega
 have hlim:(st.length+1)*1<1099511627776/\st.length+1<1099511627776/\(st.length+1)*1<=140737488355328/\st.length+1<=140737488355328/\st.length+1<=9223372036854775807:=by omega
 by_cases e1:(cs.getD k (0,0)).1=29
 ·rw[if_pos e1] at hs
  have hg:=tT (x:=true) (l:=st) (by omega)
  simp only[Nat.mul_one] at hg
  have hl1:(st++[true]).length=st.length+1:=by simp
  repeat first|with_reducible refine ao ?_|simp only[h,h0,h3',cT,ph,e1,decide_true,hlim.1,hlim.2.1,hlim.2.2.1,hlim.2.2.2.1,hlim.2.2.2.2,go_sem,simprocAttr]
  refine⟨_,_,_,?_,Wk.mk [2] [] ?_ ?_ ?_,k+1,st++[true],lo+1,rfl,by omega,hs,by rw[hl1];omega,by omega,by omega,rfl,rfl⟩
  ·omega
  ·simp only[d9,cM,hl1,go_sem,simprocAttr]
   repeat' refine a7 ?_ ?_
   all_goals first|exact iI|skip
  ·refine .cr (.rows (x:=_) (by simp only[go_sem,simprocAttr];rfl) (by rfl) (by rfl) (by rfl) ?_ (Nat.le_refl _) (by decide) ?_ (λi j _ _=>rfl)) .nil
   ·simp only[go_sem,simprocAttr,hl1]
   ·simp only[go_sem,simprocAttr,hl1,Nat.mul_one]
    exact hg
  ·simp
 rw[if_neg e1] at hs
 by_cases e2:(cs.getD k (0,0)).1=27
 ·rw[if_pos e2] at hs
  have hg:=tT (x:=false) (l:=st) (by omega)
  simp only[Nat.mul_one] at hg
  have hl1:(st++[false]).length=st.length+1:=by simp
  repeat first|with_reducible refine ao ?_|simp only[h,h0,h3',cT,ph,e1,e2,decide_true,decide_false,hlim.1,hlim.2.1,hlim.2.2.1,hlim.2.2.2.1,hlim.2.2.2.2,go_sem,simprocAttr]
  refine⟨_,_,_,?_,Wk.mk [2] [] ?_ ?_ ?_,k+1,st++[false],lo,rfl,by omega,hs,by rw[hl1];omega,by omega,by omega,rfl,rfl⟩
  ·omega
  ·simp only[d9,cM,hl1,go_sem,simprocAttr]
   repeat' refine a7 ?_ ?_
   all_goals first|exact iI|skip
  ·refine .cr (.rows (x:=_) (by simp only[go_sem,simprocAttr];rfl) (by rfl) (by rfl) (by rfl) ?_ (Nat.le_refl _) (by decide) ?_ (λi j _ _=>rfl)) .nil
   ·simp only[go_sem,simprocAttr,hl1]
   ·simp only[go_sem,simprocAttr,hl1,Nat.mul_one]
    exact hg
  ·simp
 rw[if_neg e2] at hs
 by_cases e3:(cs.getD k (0,0)).1=31
 rotate_left
 ·rw[if_neg e3] at hs
  repeat first|with_reducible refine ao ?_|simp only[h,h0,h3',cT,ph,e1,e2,e3,decide_true,decide_false,go_sem,simprocAttr]
  refine⟨_,_,_,?_,Wk.mk [0] [] ?_ ?_ ?_,k+1,st,lo,rfl,by omega,hs,by omega,by omega,by omega,rfl,rfl⟩
  ·omega
  ·exact ba
  ·exact .cr .k1 .nil
  ·simp
 rw[if_pos e3] at hs
 by_cases e4:st.length=0
 ·rw[if_pos e4] at hs
  have w1:IntKind.i64.wrap ((st.length:Int)-1)=(st.length:Int)-1:=am (by omega)
  have g1:¬(0:Int)<=(st.length:Int)-1:=by omega
  repeat first|with_reducible refine ao ?_|simp only[h,h0,h3',cT,ph,e1,e2,e3,w1,g1,ge_iff_le,decide_true,decide_false,go_sem,simprocAttr]
  refine⟨_,_,_,?_,Wk.mk [0] [] ?_ ?_ ?_,k+1,st,lo,rfl,by omega,hs,by omega,by omega,by omega,rfl,rfl⟩
  ·omega
  ·exact ba
  ·exact .cr .k1 .nil
  ·simp
 rw[if_neg e4] at hs
 obtain⟨n,hn⟩:∃n,st.length=n+1:=⟨st.length-1,by omega⟩
 have w1:IntKind.i64.wrap (((n+1:Nat):Int)-1)=(n:Int):=(am (by omega)).trans (by omega)
 have g1:(0:Int)<=(n:Int):=by omega
 have g2:(n:Int)<(n+1:Nat):=by omega
 rw[hn,Nat.add_sub_cancel] at hs
 have hl1:(st.take n).length=n:=by rw[List.length_take];omega
 have g3:n<n+1:=Nat.lt_succ_self n
 have g4:(ai 4 1 (n+1) 0 (tC st)).get n= .b (st.getD n false):=by
  have:=aK (ty:=4) (esz:=1) (n:=n+1) (z:=0) (row:=tC st) n 0 (by decide)
  rw[Nat.mul_one,Nat.add_zero] at this
  exact this
 have g5:(n:Int)<=(n+1:Nat):=by omega
 cases hb:st.getD n false
 ·rw[hb] at hs
  simp only[Bool.false_eq_true,if_false] at hs
  repeat first|with_reducible refine ao ?_|simp only[h,h0,h3',cT,ph,e1,e2,e3,w1,g1,g2,g3,g4,g5,hn,tC0,hb,ge_iff_le,decide_true,decide_false,go_sem,simprocAttr]
  refine⟨_,_,_,?_,Wk.mk [0] [] ?_ ?_ ?_,k+1,st.take n,lo,rfl,by omega,hs,by rw[hl1];omega,by omega,by omega,rfl,rfl⟩
  ·omega
  ·simp only[d9,cM,hl1,go_sem,simprocAttr]
   repeat' refine a7 ?_ ?_
   all_goals first|exact iI|skip
  ·refine .cr (.rows (x:=_) (by simp only[go_sem,simprocAttr];rfl) (by rfl) (by rfl) (by rfl) ?_ (Nat.le_refl _) (by decide) ?_ (λi j _ _=>rfl)) .nil
   ·simp only[go_sem,simprocAttr,hl1];omega
   ·intro i j hi hj
    rw[hl1] at hi
    simp only[go_sem,simprocAttr]
    have hq:=aK (ty:=4) (esz:=1) (n:=n+1) (z:=0) (row:=tC st) i j hj
    rw[Nat.mul_one] at hq
    rw[hq]
    unfold tC
    simp[List.getD_eq_getElem?_getD,List.getElem?_take,hi]
  ·simp
 ·rw[hb] at hs
  simp only[if_true] at hs
  have w2:IntKind.i64.wrap (lo-1)=lo-1:=am (by omega)
  repeat first|with_reducible refine ao ?_|simp only[h,h0,h3',cT,ph,e1,e2,e3,w1,w2,g1,g2,g3,g4,g5,hn,tC0,hb,ge_iff_le,decide_true,decide_false,go_sem,simprocAttr]
  refine⟨_,_,_,?_,Wk.mk [0] [] ?_ ?_ ?_,k+1,st.take n,lo-1,rfl,by omega,hs,by rw[hl1];omega,by omega,by omega,rfl,rfl⟩
  ·omega
  ·simp only[d9,cM,hl1,go_sem,simprocAttr]
   repeat' refine a7 ?_ ?_
   all_goals first|exact iI|skip
  ·refine .cr (.rows (x:=_) (by simp only[go_sem,simprocAttr];rfl) (by rfl) (by rfl) (by rfl) ?_ (Nat.le_refl _) (by decide) ?_ (λi j _ _=>rfl)) .nil
   ·simp only[go_sem,simprocAttr,hl1];omega
   ·intro i j hi hj
    rw[hl1] at hi
    simp only[go_sem,simprocAttr]
    have hq:=aK (ty:=4) (esz:=1) (n:=n+1) (z:=0) (row:=tC st) i j hj
    rw[Nat.mul_one] at hq
    rw[hq]
    unfold tC
    simp[List.getD_eq_getElem?_getD,List.getElem?_take,hi]
  ·simp
/-! ### Few-/
def Jj:List (Bool×Int)->Bool
 |[]=>true
 |a::l=>if 300<a.2/\a.2<=65536 then false else Jj l
def kI(la:List (Bool×Int))(cs:List (Int×Int)):Bool:=decide (la.length<=20)&&decide (cs.length<=200)&&decide (xa cs [] 0<=3)&&Jj la
theorem uB(la:List (Bool×Int))(loc:Int)(cs:List (Int×Int)):bN Tryz.prog 8 [aJ la loc cs] [.v (.b (kI la cs))]:=by
 refine ag aF Mw ⟨by simp,by decide⟩ ?_
 simp only[aH,aJ]
 by_cases h1:20<la.length
 ·have h1':(20:Int)<(la.length:Int):=by omega
  have e:kI la cs=false:=by simp only[kI,decide_eq_false (show ¬la.length<=20 by omega),Bool.false_and]
  repeat first|with_reducible refine ao ?_|simp only[h1',gt_iff_lt,decide_true,go_sem,simprocAttr]
  exact aa (by rw[e]) rfl
 have h1':¬(20:Int)<(la.length:Int):=by omega
 by_cases h2:200<cs.length
 ·have h2':(200:Int)<(cs.length:Int):=by omega
  have e:kI la cs=false:=by simp only[kI,decide_eq_false (show ¬cs.length<=200 by omega),Bool.false_and,Bool.and_false]
  repeat first|with_reducible refine ao ?_|simp only[h1',h2',gt_iff_lt,decide_true,decide_false,go_sem,simprocAttr]
  exact aa (by rw[e]) rfl
 have h2':¬(200:Int)<(cs.length:Int):=by omega
 repeat first|with_reducible refine ao ?_|simp only[h1',h2',gt_iff_lt,decide_false,go_sem,simprocAttr]
 refine bO ([.fs 2 cs.length (pI cs)]) (qs cs (by omega)) ?_
 by_cases h3:xa cs [] 0<=3
 rotate_left
 ·have e:kI la cs=false:=by simp only[kI,decide_eq_false h3,Bool.false_and,Bool.and_false]
  repeat first|with_reducible refine ao ?_|simp only[h3,decide_false,go_sem,simprocAttr]
  exact aa (by rw[e]) rfl
 have e:kI la cs=Jj la:=by simp only[kI,decide_eq_true h3,decide_eq_true (show la.length<=20 by omega),decide_eq_true (show cs.length<=200 by omega),Bool.true_and]
 repeat first|with_reducible refine ao ?_|simp only[h3,decide_true,go_sem,simprocAttr]
 refine GA.loop (I:=λm e H=>∃(k:Nat),m=la.length-k/\k<=la.length/\Jj la=Jj (la.drop k)/\e=aB [(1,.p 0 0),(3,.n .i64 k)]/\H=ah [ae 0 25 [.fs 2 la.length (pA la),.n .i64 loc,.fs 2 cs.length (pI cs)]]) (Wk.mk [0] [] ?_ ?_ ?_) ⟨0,rfl,by omega,rfl,rfl,rfl⟩ ?_
 ·exact ba
 ·exact .cr .ls .nil
 ·simp
 rintro m e H ⟨k,rfl,hk,hs,rfl,rfl⟩
 have h0:(0:Int)<=(k:Int):=by omega
 by_cases h:(k:Int)<la.length
 rotate_left
 ·repeat first|with_reducible refine ao ?_|simp only[h,decide_false,go_sem,simprocAttr]
  have:k=la.length:=by omega
  subst this
  rw[List.drop_length,Jj] at hs
  exact aa (by rw[e,hs]) rfl
 have hk':k<la.length:=by omega
 rw[cF (d:=(false,0)) hk',Jj] at hs
 by_cases g1:300<(la.getD k (false,0)).2
 rotate_left
 ·rw[if_neg (λq=>g1 q.1)] at hs
  repeat first|with_reducible refine ao ?_|simp only[h,h0,Az,Ay,g1,gt_iff_lt,decide_true,decide_false,go_sem,simprocAttr]
  refine⟨_,_,_,?_,Wk.mk [0] [] ?_ ?_ ?_,k+1,rfl,by omega,hs,rfl,rfl⟩
  ·omega
  ·exact ba
  ·exact .cr .ls .nil
  ·simp
 by_cases g2:(la.getD k (false,0)).2<=65536
 ·rw[if_pos ⟨g1,g2⟩] at hs
  repeat first|with_reducible refine ao ?_|simp only[h,h0,Az,Ay,g1,g2,gt_iff_lt,decide_true,go_sem,simprocAttr]
  exact aa (by rw[e,hs]) rfl
 ·rw[if_neg (λq=>g2 q.2)] at hs
  repeat first|with_reducible refine ao ?_|simp only[h,h0,Az,Ay,g1,g2,gt_iff_lt,decide_true,decide_false,go_sem,simprocAttr]
  refine⟨_,_,_,?_,Wk.mk [0] [] ?_ ?_ ?_,k+1,rfl,by omega,hs,rfl,rfl⟩
  ·omega
  ·exact ba
  ·exact .cr .ls .nil
  ·simp
end Go.Proofs.YtdpkgnmmikebdaaGreat