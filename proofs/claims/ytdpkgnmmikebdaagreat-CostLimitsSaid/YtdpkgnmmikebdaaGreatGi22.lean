/- A part of the proof of CostLimits. No condition. -/
import Derived.Test.YtdpkgnmmikebdaaGreatGi20
import Derived.Test.YtdpkgnmmikebdaaGreatGi21
import Derived.Test.YtdpkgnmmikebdaaGreatGi17
import Derived.Test.YtdpkgnmmikebdaaGreatGip
set_option linter.unusedSimpArgs false
set_option linter.unusedVariables false
set_option linter.constructorNameAsVariable false
set_option maxRecDepth 100000
set_option maxHeartbeats 4000000
namespace Go.Proofs.YtdpkgnmmikebdaaGreat
open Go.RowKit
def oa(k:Int):Int:=if k=0 then 4294967296 else if k=1\/k=2 then 16 else if k=3\/k=4 then 8 else if k=35 then 16 else 1
def rV(k:Int):Bool:=decide (k<=4)||decide (k=35)
def DQ(k:Nat):List AV->Bool
 |[.s _,.s _,.s _,.n .u64 l,.b a]=>decide (l=oa k)&&a==rV k
 |_=>false
def kc(op:Int):List UInt8×List UInt8:=
 if op=0\/op=1\/op=32 then([],[110]) else if op=2\/op=34\/op=35\/op=29 then([110],[]) else if op=3 then([110],[110]) else if op=4 then([110,110],[])
 else if op=5 then([97],[97,97]) else if op=6 then([97],[]) else if op=7 then([97,98],[98,97]) else if 8<=op/\op<=20 then([110,110],[110]) else if op=21\/op=22 then([110,110],[116])
 else if op=23 then([116],[116]) else if op=24\/op=25 then([116,116],[116]) else if op=26 then([116],[110]) else if op=27\/op=30 then([116],[]) else if op=33 then([],[116]) else([],[])
def am8(k:Nat):List AV->Bool
 |[.s _,.s a,.s b,_,_]=>a.data.toList==(kc k).1&&b.data.toList==(kc k).2
 |_=>false
theorem Lu(x:ByteArray):gw av 131 [.s x] [.v (.agg [.s x,.s ⟨#[110,110]⟩,.s ⟨#[110]⟩,.n .u64 1,.b false])]:=by
 refine fe fx acd ⟨ae,ag⟩ ?_;simp only[fy];refine dp ?_;exact dU
theorem Ls(x y z:ByteArray):gw av 132 [.s x,.s y,.s z] [.v (.agg [.s x,.s y,.s z,.n .u64 1,.b false])]:=by
 refine fe fx ab9 ⟨ae,ag⟩ ?_;simp only[fy];refine dp ?_;exact dU
theorem xz:∃L:List AV,gw av 97 [] [.v (.agg L)]/\L.length=36*5/\((List.range 36).all λk=>DQ k ((L.drop (k*5)).take 5)&&am8 k ((L.drop (k*5)).take 5))=true:=by
 apply Exists.intro;apply And.intro
 ·refine fe fx amN ⟨ae,ag⟩ ?_;simp only[fy];refine dp ?_
  repeat first|(refine gm [] (fargs:=[.s _,.s _,.s _]) (ja.same rfl) (Ls _ _ _) ah ?_)|(refine gm [] (fargs:=[.s _]) (ja.same rfl) (Lu _) ah ?_)|(with_reducible refine GA.go fx rfl ?_)|simp only[go_sem,simprocAttr]
  refine⟨[_],rfl,⟨rfl,?_⟩,trivial⟩;rfl
 ·exact⟨rfl,by kernel_rfl⟩
def pA(l:ao)(i j:Nat):AV:=if j=0 then .b (l.getD i (false,0)).1 else aq (l.getD i (false,0)).2
def pI(l:am)(i j:Nat):AV:=if j=0 then aq (l.getD i (0,0)).1 else .n .u32 (l.getD i (0,0)).2
theorem yN(l:ao)(i:Nat):pA l i 0= .b (l.getD i (false,0)).1:=rfl
theorem yM(l:ao)(i:Nat):pA l i 1= aq (l.getD i (false,0)).2:=rfl
theorem ip(l:am)(i:Nat):pI l i 0= aq (l.getD i (0,0)).1:=rfl
theorem td(l:am)(i:Nat):pI l i 1= .n .u32 (l.getD i (0,0)).2:=rfl
def fX(la:ao)(loc:Int)(cs:am):AV:= .agg [.fs 2 la.length (pA la),aq loc,.fs 2 cs.length (pI cs)]
theorem ir{α:Type}{d:α}{l:List α}{k:Nat}(h:k<l.length):l.drop k=l.getD k d::l.drop (k+1):=by
 rw[List.drop_eq_getElem_cons h,apd,apk h];rfl
/-! ### the table of operations-/
theorem xj{k:Nat}{l:List AV}(h:DQ k l=true):∃a b c,l=[.s a,.s b,.s c,.n .u64 (oa k),.b (rV k)]:=by
 unfold DQ at h;split at h
 ·rename_i a b c l q;simp only[apq,decide_eq_true_eq,beq_iff_eq] at h;exact⟨a,b,c,by rw[h.1,h.2]⟩
 ·cases h
theorem Ln:∃L:List AV,gw av 97 [] [.v (.agg L)]/\L.length=36*5/\∀k:Nat,k<36->∃a b c,(L.drop (k*5)).take 5=[.s a,.s b,.s c,.n .u64 (oa k),.b (rV k)]:=by
 obtain⟨L,h1,h2,h3⟩:=xz;exact⟨L,h1,h2,λk hk=>xj (Bool.and_eq_true_iff.1 (apr.1 h3 k (List.mem_range.2 hk))).1⟩
def opV(a b c:ByteArray)(k:Int):AV:= .agg [.s a,.s b,.s c,.n .u64 (oa k),.b (rV k)]
def yT:AV:= .agg [.s ⟨#[]⟩,.s ⟨#[]⟩,.s ⟨#[]⟩,.n .u64 0,.b false]
theorem EX(op:Int)(h:op<0\/36<=op):gw av 70 [aq op] [.v yT,.v (.b false)]:=by
 refine fe fx M3 ⟨ae,ag⟩ ?_;simp only[fy,yT];by_cases h0:op<0
 ·refine dq h0 ?_;exact⟨[_,_],rfl,⟨rfl,rfl⟩,⟨rfl,rfl⟩,trivial⟩
 ·have h1:36<=op:=aa;refine dt (aU h0 h1) ?_;exact⟨[_,_],rfl,⟨rfl,rfl⟩,⟨rfl,rfl⟩,trivial⟩
theorem tp(k:Nat)(hk:k<36):∃a b c,gw av 70 [aq k] [.v (opV a b c k),.v (.b true)]:=by
 obtain⟨L,hL,hlen,hrow⟩:=Ln;obtain⟨a,b,c,hr⟩:=hrow k hk;refine⟨a,b,c,?_⟩;refine fe fx M3 ⟨ae,ag⟩ ?_;simp only[fy,opV];have h0:¬((k:Int)<0):=aa;have h1:¬((36:Int)<=k):=aa;have h2:(0:Int)<=(k:Int):=aa;have h3:(k:Int)<36:=aa;refine dt (aU h0 h1) ?_;refine gf hL ?_
 repeat first|with_reducible refine fj ?_|simp only[hlen,h2,h3,hr,apw,and_self,go_sem,simprocAttr]
 exact aq7
/-! ### an instruction-/
def i8(i:Int×Int):Int:=if i.1<0\/36<=i.1 then 1 else if oa i.1<=i.2 then 2 else 0
theorem zF(op arg:Int)(ha:0<=arg)(ha2:arg<4294967296):gw av 94 [.agg [aq op,.n .u32 arg]] [.v (aq (i8 (op,arg)))]:=by
 refine fe fx aoL ⟨ae,ag⟩ ?_;simp only[fy];have hw:IntKind.u64.wrap arg=arg:=by
  unfold IntKind.wrap;simp[IntKind.signed,IntKind.bits];omega
 refine dp ?_;by_cases h:op<0\/36<=op
 ·refine gf (EX op h) ?_;simp only[yT];refine dp ?_;exact eY (by simp only[i8,h,if_true]) rfl
 ·obtain⟨k,rfl⟩:∃k:Nat,op=k:=⟨op.toNat,aa⟩;obtain⟨a,b,c,hk⟩:=tp k aa;refine gf hk ?_;simp only[opV];by_cases h2:oa k<=arg
  ·refine dt (aU hw h2) ?_;exact eY (by simp only[i8,h,h2,if_true,if_false]) rfl
  ·refine dt (aU hw h2) ?_;exact eY (by simp only[i8,h,h2,if_false]) rfl
/-! ### arrays-/
def pF:List (Bool×Int)->Int->Int
 |[],_=>0
 |a::l,left=>if a.2<1\/left<a.2 then 2 else pF l (left-a.2)
def jG(la:ao):Int:=if 8<la.length then 6 else pF la 65536
theorem zY(la:ao)(hl:la.length<=9223372036854775807):gw av 93 [.fs 2 la.length (pA la)] [.v (aq (jG la))]:=by
 refine fe fx ao7 ⟨ae,ag⟩ ?_;simp only[fy];by_cases h8:8<la.length
 ·have h8':(8:Int)<(la.length:Int):=aa;refine dw h8' ?_;exact eY (by simp only[jG,h8,if_true]) rfl
 have h8':¬(8:Int)<(la.length:Int):=aa;have hE:jG la=pF la 65536:=by simp only[jG,h8,if_false]
 refine dw h8' ?_;refine GA.loop (I:=λm e H=>∃(k:Nat) (left:Int),m=la.length-k/\k<=la.length/\pF la 65536=pF (la.drop k) left/\0<=left/\left<=65536/\e=fu [(3,aq left),(9,.fs 2 la.length (pA la)),(10,aq la.length),(11,aq k)]/\H=fi []) (Wk.mk [] [] ?_ ?_ ?_) ⟨0,65536,rfl,aa,rfl,aa,aa,rfl,rfl⟩ ?_
 ·exact fK
 ·trivial
 ·decide
 rintro m e H ⟨k,left,rfl,hk,hs,hl0,hl1,rfl,rfl⟩;refine dp ?_;refine⟨λh=>?_,λh=>?_⟩
 ·have hk':k<la.length:=aa;have h0:(0:Int)<=(k:Int):=aa;rw[ir (d:=(false,0)) hk',pF] at hs;by_cases h1:(la.getD k (false,0)).2<1
  ·refine dq (aU h0 (aU h (aU @yN (aU @yM h1)))) ?_;rw[if_pos (.inl h1)] at hs;exact eY (by rw[hE,hs]) rfl
  by_cases h2:left<(la.getD k (false,0)).2
  ·refine dw (aU h0 (aU h (aU @yN (aU @yM (aU h1 h2))))) ?_;rw[if_pos (.inr h2)] at hs;exact eY (by rw[hE,hs]) rfl
  rw[if_neg aa] at hs;refine dw (aU h0 (aU h (aU @yN (aU @yM (aU h1 h2))))) ?_;refine⟨_,_,_,?_,Wk.mk [] [] ?_ ?_ ?_,k+1,left-(la.getD k (false,0)).2,rfl,aa,hs,aa,aa,rfl,rfl⟩
  ·omega
  ·exact fK
  ·trivial
  ·decide
 ·refine dp ?_;have:k=la.length:=aa;subst this;rw[apV,pF] at hs;exact eY (by rw[hE,hs]) rfl
/-! ### what is in form-/
def ij:List (Int×Int)->Int
 |[]=>0
 |i::l=>if i8 i=0 then ij l else i8 i
def fY(la:ao)(loc:Int)(cs:am):Int:=if jG la=0 then(if loc<0\/16<loc then 2 else if 1024<cs.length then 6 else ij cs) else jG la
def il(cs:am):Prop:=∀i ∈ cs,0<=i.2/\i.2<4294967296
theorem ka{α:Type}{l:List α}{k:Nat}{d:α}(h:k<l.length):l.getD k d ∈ l:=by rw[apd,apk h];exact ap2 _
theorem x9(la:ao)(loc:Int)(cs:am)(hl:la.length<=9223372036854775807)(hc:cs.length<=9223372036854775807)(ha:il cs):gw av 67 [fX la loc cs] [.v (aq (fY la loc cs))]:=by
 refine fe fx atu ⟨ae,ag⟩ ?_;simp only[fy,fX];refine dp ?_;refine gf (zY la hl) ?_;by_cases hA:jG la=0;rotate_left
 ·refine dx hA ?_;exact eY (by simp only[fY,hA,if_false]) rfl
 refine dx hA ?_;by_cases h1:loc<0
 ·refine dq h1 ?_;exact eY (by simp only[fY,hA,h1,true_or,if_true]) rfl
 by_cases h2:16<loc
 ·refine dw (aU h1 h2) ?_;exact eY (by simp only[fY,hA,h2,or_true,if_true]) rfl
 have hlo:¬(loc<0\/16<loc):=aa;by_cases h3:1024<cs.length
 ·have h3':(1024:Int)<(cs.length:Int):=aa;refine dw (aU h1 (aU h2 h3')) ?_;exact eY (by simp only[fY,hA,hlo,h3,if_true,if_false]) rfl
 have h3':¬(1024:Int)<(cs.length:Int):=aa;refine dw (aU h1 (aU h2 h3')) ?_;refine GA.loop (I:=λm e H=>∃(k:Nat),m=cs.length-k/\k<=cs.length/\ij cs=ij (cs.drop k)/\e=fu [(28,.fs 2 cs.length (pI cs)),(29,aq cs.length),(30,aq k)]/\H=fi []) (Wk.mk [] [] ?_ ?_ ?_) ⟨0,rfl,aa,rfl,rfl,rfl⟩ ?_
 ·exact fK
 ·trivial
 ·decide
 rintro m e H ⟨k,rfl,hk,hs,rfl,rfl⟩;have hE:fY la loc cs=ij cs:=by simp only[fY,hA,hlo,h3,if_true,if_false]
 refine dp ?_;refine⟨λh=>?_,λh=>?_⟩
 ·have hk':k<cs.length:=aa;have h0:(0:Int)<=(k:Int):=aa;have hm:=ha _ (ka (d:=(0,0)) hk');rw[ir (d:=(0,0)) hk',ij] at hs;refine du (aU h0 (aU h (aU @ip @td))) ?_;refine gf (F:=[.agg [aq (cs.getD k (0,0)).1,.n .u32 (cs.getD k (0,0)).2]]) (zF _ _ hm.1 hm.2) ?_;by_cases hi:i8 (cs.getD k (0,0))=0
  ·rw[if_pos hi] at hs;refine dx hi ?_;refine⟨_,_,_,?_,Wk.mk [] [] ?_ ?_ ?_,k+1,rfl,aa,hs,rfl,rfl⟩
   ·omega
   ·exact fK
   ·trivial
   ·decide
  ·exact dW
 ·exact dX
theorem gI{k k':IntKind}{a b:Int}(h:0<=b):kt (binOp .shr 0 (.int k a) (.int k' b))=some (.n k (a.fdiv (2^min b.toNat k.bits))):=by
 unfold binOp Op.shift;simp only[if_neg (Int.not_lt.2 h)];rfl
theorem sS{k k':IntKind}{a b:Int}(h:0<=b):kt (binOp .shl 0 (.int k a) (.int k' b))=some (.n k (k.wrap (a*2^min b.toNat k.bits))):=by
 unfold binOp Op.shift;simp only[if_neg (Int.not_lt.2 h)];rfl
theorem lJ{k:IntKind}{a b:Int}(h:b≠0):kt (binOp .quo 0 (.int k a) (.int k b))=some (.n k (k.wrap (a.tdiv b))):=by
 unfold binOp Op.intDiv;simp only[ne_eq,not_true_eq_false,if_false,if_neg h];rfl
theorem am4(k:IntKind)(a b:Int):kt (binOp .or 0 (.int k a) (.int k b))=some (.n k (k.wrap ((BitVec.ofInt k.bits a|||BitVec.ofInt k.bits b).toNat:Int))):=by
 unfold binOp Op.intBits;simp only[ne_eq,not_true_eq_false,if_false];rfl
def ol(n:Int):Int:=if n<0\/9007199254740991<n then 0 else n
theorem vJ(n:Int):0<=ol n/\ol n<=9007199254740991:=by unfold ol;split<;>omega
theorem zq(n:Int):gw av 129 [aq n] [.v (aq (ol n))]:=by
 refine fe fx alK ⟨ae,ag⟩ ?_;simp only[fy];by_cases h0:n<0
 ·refine dq h0 ?_;exact eY (by simp only[ol,h0,true_or,if_true]) rfl
 by_cases h1:9007199254740991<n
 ·refine dw (aU h0 h1) ?_;exact eY (by simp only[ol,h1,or_true,if_true]) rfl
 ·refine dw (aU h0 h1) ?_;exact eY (by simp only[ol,h0,h1,or_self,if_false]) rfl
theorem e32:(2:Int)^min 32 64=4294967296:=ag
theorem e16:(2:Int)^min 16 64=65536:=ag
theorem e8:(2:Int)^min 8 64=256:=ag
def DC:ByteArray:=⟨#[0,1,2,2,3,3,3,3,4,4,4,4,4,4,4,4,5,5,5,5,5,5,5,5,5,5,5,5,5,5,5,5,6,6,6,6,6,6,6,6,6,6,6,6,6,6,6,6,6,6,6,6,6,6,6,6,6,6,6,6,6,6,6,6,7,7,7,7,7,7,7,7,7,7,7,7,7,7,7,7,7,7,7,7,7,7,7,7,7,7,7,7,7,7,7,7,7,7,7,7,7,7,7,7,7,7,7,7,7,7,7,7,7,7,7,7,7,7,7,7,7,7,7,7,7,7,7,7,8,8,8,8,8,8,8,8,8,8,8,8,8,8,8,8,8,8,8,8,8,8,8,8,8,8,8,8,8,8,8,8,8,8,8,8,8,8,8,8,8,8,8,8,8,8,8,8,8,8,8,8,8,8,8,8,8,8,8,8,8,8,8,8,8,8,8,8,8,8,8,8,8,8,8,8,8,8,8,8,8,8,8,8,8,8,8,8,8,8,8,8,8,8,8,8,8,8,8,8,8,8,8,8,8,8,8,8,8,8,8,8,8,8,8,8,8,8,8,8,8,8,8,8,8,8,8,8]⟩
def am0:Bool:=(List.range 256).all λj=>match DC[j]? with
 |some c=>decide (c.toNat<=8)
 |none=>false
theorem DB:am0=true:=by kernel_rfl
def sO(j:Nat):Int:=match DC[j]? with
 |some c=>c.toNat
 |none=>0
theorem qh(j:Nat)(h:j<256):∃c,DC[j]? =some c/\(c.toNat:Int)=sO j/\0<=sO j/\sO j<=8:=by
 have:=apr.1 DB j (List.mem_range.2 h);unfold sO;split at this
 ·rename_i c hc;rw[hc];have:=of_decide_eq_true this;exact⟨c,rfl,rfl,aa,aa⟩
 ·cases this
abbrev avt:List AO:=
 [o1 19 (.mv (.t 2)),o1 20 (.mv (.t 0)),o1 21 (.cvi .u8 (.t 20)),o1 22 (.sx (.c (.s DC)) (.t 21)),o1 23 (.cvi .i64 (.t 22)),o1 24 (.bin .add (.t 19) (.t 23)),o1 2 (.mv (.t 24))]
theorem ZQ:Ds=avt:=by kernel_rfl
def qz(y n:Int):Int:=if 256<=y then n+8+sO (y / 256).toNat else n+sO y.toNat
def tn(y n:Int):Int:=if 65536<=y then qz (y / 65536) (n+16) else qz y n
def k8(x:Int):Int:=if 4294967296<=x then tn (x / 4294967296) 32 else tn x 0
theorem su{y n:Int}(h0:0<=y)(h1:y<65536)(hn:0<=n)(hn2:n<=40\/(n<=48/\y<256)):0<=qz y n/\qz y n<=56:=by
 unfold qz;split
 ·obtain⟨_,_,_,q1,q2⟩:=qh (y / 256).toNat aa;omega
 ·obtain⟨_,_,_,q1,q2⟩:=qh y.toNat aa;omega
theorem A2{x:Int}(h0:0<=x)(h1:x<=9007199254740991):0<=k8 x/\k8 x<=56:=by
 unfold k8 tn;split
 ·split
  ·exact su aa aa aa (.inr ⟨aa,aa⟩)
  ·exact su aa aa aa (.inl aa)
 ·split
  ·exact su aa aa aa (.inl aa)
  ·exact su aa aa aa (.inl aa)
theorem Cr(x:Int)(h0:0<=x)(h1:x<=9007199254740991):gw av 201 [.n .u64 x] [.v (aq (k8 x))]:=by
 have s32:(0:Int)<=32:=ag;have s16:(0:Int)<=16:=ag;have s8:(0:Int)<=8:=ag;have a1:IntKind.i64.wrap 48=48:=rfl;have a2:IntKind.i64.wrap 40=40:=rfl;have a3:IntKind.i64.wrap 16=16:=rfl;have a4:IntKind.i64.wrap 8=8:=rfl;have a5:IntKind.i64.wrap 24=24:=rfl;have fin:∀(y n:Int),0<=y->y<256->0<=n->n<=48->∃c,DC[y.toNat]? =some c/\IntKind.u8.wrap y=y/\IntKind.i64.wrap (c.toNat:Int)=c.toNat/\IntKind.i64.wrap (n+(c.toNat:Int))=n+sO y.toNat:=by
  intro y n hy0 hy1 hn0 hn1;obtain⟨c,hc,hc1,q1,q2⟩:=qh y.toNat aa;exact⟨c,hc,by rw[IntKind.wrap_u8];omega,ff aa,by rw[hc1];exact ff aa⟩
 refine fe fx alh ⟨ae,ag⟩ ?_;simp only[fy];rw[ZQ];by_cases g1:4294967296<=x
 ·by_cases g2:65536<=x / 4294967296
  ·have g3:¬256<=x / 4294967296 / 65536:=aa;have hy:(0:Int)<=x / 4294967296 / 65536:=aa;obtain⟨c,q1,q2,q3,q4⟩:=fin (x / 4294967296 / 65536) 48 hy aa aa aa
   repeat first|with_reducible refine fj ?_|simp only[g1,ge_iff_le,gI s32,gI s16,gI s8,e32,e16,e8,g2,g3,a1,q1,q2,q3,q4,hy,aQ,go_sem,simprocAttr]
   exact eu
  ·by_cases g3:256<=x / 4294967296
   ·have hy:(0:Int)<=x / 4294967296 / 256:=aa;obtain⟨c,q1,q2,q3,q4⟩:=fin (x / 4294967296 / 256) 40 hy aa aa aa
    repeat first|with_reducible refine fj ?_|simp only[g1,ge_iff_le,gI s32,gI s16,gI s8,e32,e16,e8,g2,g3,a2,q1,q2,q3,q4,hy,aQ,go_sem,simprocAttr]
    exact eu
   ·have hy:(0:Int)<=x / 4294967296:=aa;obtain⟨c,q1,q2,q3,q4⟩:=fin (x / 4294967296) 32 hy aa aa aa
    repeat first|with_reducible refine fj ?_|simp only[g1,ge_iff_le,gI s32,gI s16,gI s8,e32,e16,e8,g2,g3,q1,q2,q3,q4,hy,aQ,go_sem,simprocAttr]
    exact eu
 ·by_cases g2:65536<=x
  ·by_cases g3:256<=x / 65536
   ·have hy:(0:Int)<=x / 65536 / 256:=aa;obtain⟨c,q1,q2,q3,q4⟩:=fin (x / 65536 / 256) 24 hy aa aa aa
    repeat first|with_reducible refine fj ?_|simp only[g1,ge_iff_le,gI s32,gI s16,gI s8,e32,e16,e8,g2,g3,a3,a5,q1,q2,q3,q4,hy,aQ,go_sem,simprocAttr]
    exact eu
   ·have hy:(0:Int)<=x / 65536:=aa;obtain⟨c,q1,q2,q3,q4⟩:=fin (x / 65536) 16 hy aa aa aa
    repeat first|with_reducible refine fj ?_|simp only[g1,ge_iff_le,gI s32,gI s16,gI s8,e32,e16,e8,g2,g3,a3,q1,q2,q3,q4,hy,aQ,go_sem,simprocAttr]
    exact eu
  ·by_cases g3:256<=x
   ·have hy:(0:Int)<=x / 256:=aa;obtain⟨c,q1,q2,q3,q4⟩:=fin (x / 256) 8 hy aa aa aa
    repeat first|with_reducible refine fj ?_|simp only[g1,ge_iff_le,gI s32,gI s16,gI s8,e32,e16,e8,g2,g3,a4,q1,q2,q3,q4,hy,aQ,go_sem,simprocAttr]
    exact eu
   ·obtain⟨c,q1,q2,q3,q4⟩:=fin x 0 h0 aa aa aa
    repeat first|with_reducible refine fj ?_|simp only[g1,ge_iff_le,gI s32,gI s16,gI s8,e32,e16,e8,g2,g3,q1,q2,q3,q4,h0,aQ,go_sem,simprocAttr]
    exact eu
theorem A1(x:Int)(h0:0<=x)(h1:x<=9007199254740991):gw av 175 [.n .u64 x] [.v (aq (k8 x))]:=by
 refine fe fx alm ⟨ae,ag⟩ ?_;simp only[fy];refine dp ?_;refine gf (Cr x h0 h1) ?_;refine dp ?_;exact dU
def rx(n:Int):Int:=if 1<=k8 n then(k8 n-1) / 7 else 0
theorem Bb{n:Int}(h0:0<=n)(h1:n<=9007199254740991):0<=rx n/\rx n<=7:=by
 have:=A2 h0 h1;unfold rx;split<;>omega
theorem x8(n:Int)(h0:0<=n)(h1:n<=9007199254740991):gw av 130 [aq n] [.v (aq (rx n))]:=by
 have hl:=A2 h0 h1;have hw:IntKind.u64.wrap n=n:=by rw[IntKind.wrap_u64];omega
 have hq:(7:Int)≠0:=ag;have hw2:IntKind.i64.wrap (k8 n-1)=k8 n-1:=ff aa;refine fe fx alv ⟨ae,ag⟩ ?_;simp only[fy];refine du hw ?_;refine gf (A1 n h0 h1) ?_;have key:IntKind.i64.wrap ((if 0<k8 n-1 then k8 n-1 else 0).tdiv 7)=rx n:=by
  unfold rx;by_cases h:1<=k8 n
  ·have e:(if 0<k8 n-1 then k8 n-1 else 0)=k8 n-1:=by split<;>omega
   rw[e,if_pos h,apO aa];exact ff aa
  ·rw[if_neg aa,if_neg h];rfl
 repeat first|with_reducible refine fj ?_|simp only[hw2,fL,gV,iK,lJ hq,go_sem,simprocAttr]
 exact eY (by rw[key]) rfl
/-! ### bytes-/
def bC(l:List Int)(i _j:Nat):AV:= .n .u8 (l.getD i 0)
theorem Fe{l l':List Int}{i:Nat}{d:Int}(h:i<l.length):(l++l').getD i d=l.getD i d:=by
 simp[apd,apF h]
theorem Fg{l:List Int}{x d:Int}:(l++[x]).getD l.length d=x:=by
 simp[apd]
def xL(N:Int):Nat->List Int
 |0=>[]
 |j+1=>IntKind.u8.wrap (N / 2^(8*j))::xL N j
theorem tk(N:Int):∀j,(xL N j).length=j
 |0=>rfl
 |j+1=>by simp only[xL,List.length_cons,tk N j]
def lC(n:Int):List Int:=bits .or .u8 (IntKind.u8.wrap (255*2^(8-rx (ol n)).toNat)) (IntKind.u8.wrap (ol n / 2^(8*rx (ol n)).toNat))::xL (ol n) (rx (ol n)).toNat
theorem nv(n:Int):(lC n).length<=8:=by
 have:=Bb (vJ n).1 (vJ n).2;simp only[lC,List.length_cons,tk];omega
theorem v8{l:List Int}{x:Int}(hl:l.length<1100000):∀i j,i<l.length+1->j<1->((fg 5 1 l.length 0 (bC l)).app (l.length*1) (.li [.n .u8 x])).get (i*1+j)=bC (l++[x]) i j:=
 sQ rfl aa (λi j hi _=>by unfold bC;rw[Fe hi]) (λj hj=>by
  obtain rfl:j=0:=aa;unfold bC;rw[Fg];rfl)
theorem ZR(l:List Int)(hl:l.length<1000000)(n:Int){H:AH}{b:Nat}(hb:js (λb2=>[b].reverse[b2]?) [] H b (fg 5 1 l.length 0 (bC l))):u6 av 95 [.os b l.length,aq n] H λv H'=>v= .os 0 (l++lC n).length/\H'=fi [fg 5 1 (l++lC n).length 0 (bC (l++lC n))]:=by
 refine D5 fx al5 ae ?_;refine GA.wk (Wk.arg _ _ _ ae) ?_;refine GA.wk (e2:=fu [(0,.os 0 l.length),(1,aq n)]) (H2:=fi [fg 5 1 l.length 0 (bC l)]) (Wk.mk [b] [] ?_ ?_ ?_) ?_
 ·simp only[fy];simp only[iT,ig,go_sem,simprocAttr]
  repeat' refine fE ?_ ?_
  all_goals first|exact jQ|skip
 ·exact .cr hb .nil
 ·simp
 have hn:=vJ n;have hf:=Bb hn.1 hn.2;have hE:lC n=bits .or .u8 (IntKind.u8.wrap (255*2^(8-rx (ol n)).toNat)) (IntKind.u8.wrap (ol n / 2^(8*rx (ol n)).toNat))::xL (ol n) (rx (ol n)).toNat:=rfl;generalize hN:ol n=N at hn hf hE;generalize hK:rx N=K at hf hE;have v1:IntKind.i64.wrap (8-K)=8-K:=ff aa;have v2:IntKind.i64.wrap (8*K)=8*K:=ff aa;have s1:(0:Int)<=8-K:=aa;have s2:(0:Int)<=8*K:=aa;have h0:(0:Int)<=(l.length:Int):=aa;have hlim:(l.length+1)*1<1099511627776/\l.length+1<1099511627776/\(l.length+1)*1<=140737488355328/\l.length+1<=140737488355328/\l.length+1<=9223372036854775807:=aa;refine dp ?_;refine gf (zq n) ?_;refine du hN ?_;refine gf (hK ▸ x8 N hn.1 hn.2) ?_
 repeat first|with_reducible refine fj ?_|simp only[v1,v2,sS s1,gI s2,am4,h0,hlim.1,hlim.2.1,hlim.2.2.1,hlim.2.2.2.1,hlim.2.2.2.2,aQ,go_sem,simprocAttr]
 generalize hX:bits BinOp.or .u8 (IntKind.u8.wrap (255*2^(8-K).toNat)) (IntKind.u8.wrap (N / 2^(8*K).toNat))=X at hE;have vK:IntKind.i64.wrap (K-1)=K-1:=ff aa;simp only[vK];refine GA.loop (I:=λm e H=>∃(j:Nat) (xs:List Int),m=j/\j<=7/\xs++xL N j=l++lC n/\xs.length<=l.length+8/\e=fu [(0,.os 0 xs.length),(1,aq N),(7,aq ((j:Int)-1))]/\H=fi [fg 5 1 xs.length 0 (bC xs)]) (Wk.mk [2] [] ?_ ?_ ?_) ⟨K.toNat,l++[X],rfl,aa,by rw[hE];simp,ae,rfl,rfl⟩ ?_
 ·simp only[iT,ig,ape,List.length_cons,List.length_nil,go_sem,simprocAttr]
  repeat' refine fE ?_ ?_
  all_goals first|exact jQ|skip
 ·refine .cr (.rows (x:=_) aj af af af ?_ (bL _) ag ?_ (λi j _ _=>rfl)) .nil
  ·exact arS
  ·simp only[go_sem,simprocAttr,ape,List.length_cons,List.length_nil];have:=v8 (x:=X) (l:=l) aa;simpa only[apu] using this
 ·simp
 rintro m e H ⟨j,xs,rfl,hj,hs,hxl,rfl,rfl⟩;cases m with
 |zero=>
  rw[xL,aqb] at hs;subst hs;have e0:(((0:Nat):Int)-1)= -1:=rfl;have e1:¬(0:Int)<= -1:=ag;simp only[e0];exact dy e1
 |succ i=>
  have e0:(((i+1:Nat):Int)-1)=i:=aa;have e1:(0:Int)<=i:=aa;have e2:(0:Int)<=8*(i:Int):=aa;have w1:IntKind.i64.wrap (8*(i:Int))=8*(i:Int):=ff aa;have hT:(8*(i:Int)).toNat=8*i:=aa;have hm:min (8*i) 64=8*i:=aa;have g0:(0:Int)<=(xs.length:Int):=aa;have hlim:(xs.length+1)*1<1099511627776/\xs.length+1<1099511627776/\(xs.length+1)*1<=140737488355328/\xs.length+1<=140737488355328/\xs.length+1<=9223372036854775807:=aa;simp only[e0]
  repeat first|with_reducible refine fj ?_|simp only[e1,ge_iff_le,w1,hT,hm,gI e2,g0,hlim.1,hlim.2.1,hlim.2.2.1,hlim.2.2.2.1,hlim.2.2.2.2,aQ,go_sem,simprocAttr]
  rw[xL] at hs;have hlen:=congrArg List.length hs;simp only[ape,List.length_cons,tk] at hlen;have h8:=nv n;have hg:=v8 (x:=IntKind.u8.wrap (N / 2^(8*i))) (l:=xs) aa;simp only[apu] at hg;refine⟨_,_,_,?_,Wk.mk [2] [] ?_ ?_ ?_,i,xs++[IntKind.u8.wrap (N / 2^(8*i))],rfl,aa,by rw[<-hs];simp,by simp only[ape,List.length_cons,List.length_nil];omega,rfl,rfl⟩
  ·omega
  ·simp only[iT,ig,ape,List.length_cons,List.length_nil,go_sem,simprocAttr]
   repeat' refine fE ?_ ?_
   all_goals first|exact jQ|skip
  ·refine .cr (.rows (x:=_) aj af af af ?_ (bL _) ag ?_ (λi j _ _=>rfl)) .nil
   ·exact arS
   ·simp only[go_sem,simprocAttr,ape,List.length_cons,List.length_nil,apu];exact hg
  ·simp
theorem lO(l:List Int)(hl:l.length<1000000)(n:Int):gw av 68 [.fs 1 l.length (bC l),aq n] [.o 5 1 (l++lC n).length 0 (bC (l++lC n))]:=by
 refine fe fx amy ⟨ae,ag⟩ ?_;simp only[fy];refine GA.seq ?_;refine GA.go fx rfl ?_;refine ba ?_;refine GA.seq ?_;refine GA.regx (l1:=[(o1 5 (.mv (.t 0))),⟨some 6,none,.cl (.c (.f 96 [] [])) [(.t 5)]⟩,(o1 7 (.mv (.t 1)))]) (l2:=[(o1 4 (.mv (.t 8)))]) rfl ?_;refine ba ?_;refine gm [] (.cons (.rfl af) .nil) (zT (n:=l.length) (row:=bC l) hl (λi j _ _=>rfl)) ?_ ?_
 ·exact arT
 refine ba ?_;refine⟨fu [(1,aq n)],PEk.of (λp hp=>?_),95,[],[],[.os 0 l.length,aq n],?_,?_,(ZR l hl n ?_).mono ?_⟩
 ·simp only[apv,aqh,or_false] at hp;subst hp;exact⟨ae,ah,rfl⟩
 ·exact arT
 ·exact arT
 ·exact .k1
 rintro v H' ⟨rfl,rfl⟩;refine ba ?_;refine dp ?_;rw[<-ape];exact⟨[_],rfl,.o (x:=_) aj af af af ag (bL _) (bL _) (λi j _ hj=>fI i j hj) (λi j _ _=>rfl) rfl .nil⟩
theorem xP{op:Int}(h0:¬op=0)(h1:¬op=1)(h2:¬op=2)(h3:¬op=3)(h4:¬op=4)(h5:¬op=35):oa op=1:=by
 simp only[oa,h0,h1,h2,h3,h4,h5,or_self,if_false]
theorem zh(op arg:Int)(ha:0<=arg)(ha2:arg<4294967296):gw av 81 [.agg [aq op,.n .u32 arg]] [.v (aq (i8 (op,arg)))]:=by
 refine fe fx ade ⟨ae,ag⟩ ?_;simp only[fy];have hw:IntKind.i64.wrap arg=arg:=ff aa;by_cases h0:op<0
 ·refine dq h0 ?_;exact eY (by simp only[i8,h0,true_or,if_true]) rfl
 by_cases h1:36<=op
 ·refine dt (aU h0 h1) ?_;exact eY (by simp only[i8,h1,or_true,if_true]) rfl
 have hno:¬(op<0\/36<=op):=aa;by_cases e0:op=0
 ·subst e0;refine dt (aU h0 h1) ?_;exact eY (by simp[i8,oa];omega) rfl
 have key:∀most:Int,oa op=most+1->(if most<arg then(2:Int) else 0)=i8 (op,arg):=λmost hm=>by
  simp only[i8,hno,if_false,hm];by_cases h:most<arg
  ·rw[if_pos h,if_pos aa]
  ·rw[if_neg h,if_neg aa]
 by_cases e1:op=1
 ·subst e1;have:=key 15 rfl;by_cases hg:15<arg
  ·exact ey
  ·exact ez
 by_cases e2:op=2
 ·subst e2;have:=key 15 rfl;by_cases hg:15<arg
  ·exact ey
  ·exact ez
 by_cases e3:op=3
 ·subst e3;have:=key 7 rfl;by_cases hg:7<arg
  ·exact ey
  ·exact ez
 by_cases e4:op=4
 ·subst e4;have:=key 7 rfl;by_cases hg:7<arg
  ·exact ey
  ·exact ez
 by_cases e5:op=35
 ·subst e5;have:=key 15 rfl;by_cases hg:15<arg
  ·exact ey
  ·exact ez
 have:=key 0 (xP e0 e1 e2 e3 e4 e5);by_cases hg:0<arg
 ·rw[if_pos hg] at this;refine dA (aU h0 (aU h1 (aU e0 (aU e1 (aU e2 (aU e3 (aU e4 (aU e5 (aU hw hg))))))))) ?_;exact eY (congrArg _ this) rfl
 ·rw[if_neg hg] at this;refine dA (aU h0 (aU h1 (aU e0 (aU e1 (aU e2 (aU e3 (aU e4 (aU e5 (aU hw hg))))))))) ?_;exact eY (congrArg _ this) rfl
/-! ### Form-/
def qT:List (Bool×Int)->Bool
 |[]=>true
 |a::l=>decide (1<=a.2)&&decide (a.2<=65536)&&qT l
def lm:List (Bool×Int)->Int
 |[]=>0
 |a::l=>a.2+lm l
theorem oA:∀{la:ao},qT la=true->0<=lm la
 |[],_=>apH 0
 |a::l,h=>by
  simp only[qT,apq,decide_eq_true_eq] at h;have:=oA h.2;simp only[lm];omega
theorem tV:∀(la:ao) (left:Int),0<=left->left<=65536->pF la left=if qT la=true/\lm la<=left then 0 else 2
 |[],left,h0,h=>by simp only[pF,qT,lm,h0,and_self,if_true]
 |a::l,left,h0,h=>by
  simp only[pF];by_cases hb:a.2<1\/left<a.2
  ·rw[if_pos hb,if_neg];rintro ⟨h1,h2⟩;simp only[qT,apq,decide_eq_true_eq,lm] at h1 h2;have:=oA h1.2;omega
  ·rw[if_neg hb,tV l (left-a.2) aa aa];simp only[qT,lm,apq,decide_eq_true_eq];by_cases h1:qT l=true/\lm l<=left-a.2
   ·rw[if_pos h1,if_pos ⟨⟨⟨aa,aa⟩,h1.1⟩,aa⟩]
   ·rw[if_neg h1,if_neg (λh2=>h1 ⟨h2.1.2,aa⟩)]
theorem mB{la:ao}{loc:Int}{cs:am}(h:¬8<la.length)(hb:¬(qT la=true/\lm la<=65536)):fY la loc cs=2:=by
 have e:jG la=2:=by simp only[jG,h,if_false];rw[tV la 65536 aa aa,if_neg hb]
 simp only[fY,e];rfl
theorem qG{la:ao}{loc:Int}{cs:am}(h:¬8<la.length)(hb:qT la=true/\lm la<=65536):fY la loc cs=if loc<0\/16<loc then 2 else if 1024<cs.length then 6 else ij cs:=by
 have e:jG la=0:=by simp only[jG,h,if_false];rw[tV la 65536 aa aa,if_pos hb]
 simp only[fY,e,if_true]
theorem uB(la:ao)(loc:Int)(cs:am)(hl:la.length<=9223372036854775807)(hc:cs.length<=9223372036854775807)(ha:il cs):gw av 48 [fX la loc cs] [.v (aq (fY la loc cs))]:=by
 refine fe fx ado ⟨ae,ag⟩ ?_;simp only[fy,fX];by_cases h8:8<la.length
 ·have h8':(8:Int)<(la.length:Int):=aa;refine dw h8' ?_;exact eY (by simp only[fY,jG,h8,if_true];rfl) rfl
 have h8':¬(8:Int)<(la.length:Int):=aa;refine dw h8' ?_;refine GA.loop (I:=λm e H=>∃(k:Nat) (s:Int),m=la.length-k/\k<=la.length/\qT la=qT (la.drop k)/\lm la=s+lm (la.drop k)/\0<=s/\s<=65536*k/\e=fu [(1,.p 0 0),(3,aq s),(4,aq k)]/\H=fi [eZ 0 25 [.fs 2 la.length (pA la),aq loc,.fs 2 cs.length (pI cs)]]) (Wk.mk [0] [] ?_ ?_ ?_) ⟨0,0,rfl,aa,rfl,ae,aa,aa,rfl,rfl⟩ ?_
 ·exact fK
 ·exact asa
 ·simp
 rintro m e H ⟨k,s,rfl,hk,hs,hs2,hs0,hs1,rfl,rfl⟩;refine dp ?_;refine⟨λh=>?_,λh=>?_⟩
 ·have hk':k<la.length:=aa;have h0:(0:Int)<=(k:Int):=aa;rw[ir (d:=(false,0)) hk',qT] at hs;rw[ir (d:=(false,0)) hk',lm] at hs2;by_cases h1:(la.getD k (false,0)).2<1
  ·refine dq (aU h0 (aU h (aU @yN (aU @yM h1)))) ?_;exact eY (by rw[mB h8 (λhh=>by rw[hs] at hh;simp only[apq,decide_eq_true_eq] at hh;omega)]) rfl
  by_cases h2:65536<(la.getD k (false,0)).2
  ·refine dw (aU h0 (aU h (aU @yN (aU @yM (aU h1 h2))))) ?_;exact eY (by rw[mB h8 (λhh=>by rw[hs] at hh;simp only[apq,decide_eq_true_eq] at hh;omega)]) rfl
  have hs':qT la=qT (la.drop (k+1)):=by
   rw[hs,decide_eq_true (show 1<=(la.getD k (false,0)).2 by omega),decide_eq_true (show(la.getD k (false,0)).2<=65536 by omega),Bool.true_and,Bool.true_and]
  refine dw (aU h0 (aU h (aU @yN (aU @yM (aU h1 h2))))) ?_;refine⟨_,_,_,?_,Wk.mk [0] [] ?_ ?_ ?_,k+1,s+(la.getD k (false,0)).2,rfl,aa,hs',aa,aa,aa,rfl,rfl⟩
  ·omega
  ·exact fK
  ·exact asa
  ·simp
 have:k=la.length:=aa;subst this;rw[apV] at hs hs2;simp only[lm,Int.add_zero] at hs2;simp only[qT] at hs;by_cases g1:65536<s
 ·refine dw g1 ?_;exact eY (by rw[mB h8 aa]) rfl
 have hE:fY la loc cs=if loc<0\/16<loc then 2 else if 1024<cs.length then 6 else ij cs:=qG h8 ⟨hs,aa⟩
 by_cases g2:loc<0
 ·refine dw (aU g1 g2) ?_;exact eY (by rw[hE,if_pos (.inl g2)]) rfl
 by_cases g3:16<loc
 ·refine dw (aU g1 (aU g2 g3)) ?_;exact eY (by rw[hE,if_pos (.inr g3)]) rfl
 rw[if_neg aa] at hE;by_cases g4:1024<cs.length
 ·have g4':(1024:Int)<(cs.length:Int):=aa;refine dw (aU g1 (aU g2 (aU g3 g4'))) ?_;exact eY (by rw[hE,if_pos g4]) rfl
 have g4':¬(1024:Int)<(cs.length:Int):=aa;rw[if_neg g4] at hE;refine dw (aU g1 (aU g2 (aU g3 g4'))) ?_;refine GA.loop (I:=λm e H=>∃(k:Nat),m=cs.length-k/\k<=cs.length/\ij cs=ij (cs.drop k)/\e=fu [(1,.p 0 0),(5,aq k)]/\H=fi [eZ 0 25 [.fs 2 la.length (pA la),aq loc,.fs 2 cs.length (pI cs)]]) (Wk.mk [0] [] ?_ ?_ ?_) ⟨0,rfl,aa,rfl,rfl,rfl⟩ ?_
 ·exact fK
 ·exact asa
 ·simp
 rintro m e H ⟨k,rfl,hk,hs,rfl,rfl⟩;refine dp ?_;refine⟨λh=>?_,λh=>?_⟩
 ·have hk':k<cs.length:=aa;have h0:(0:Int)<=(k:Int):=aa;have hm:=ha _ (ka (d:=(0,0)) hk');rw[ir (d:=(0,0)) hk',ij] at hs;refine du (aU h0 (aU h (aU @ip @td))) ?_;refine gf (F:=[.agg [aq (cs.getD k (0,0)).1,.n .u32 (cs.getD k (0,0)).2]]) (zh _ _ hm.1 hm.2) ?_;by_cases hi:i8 (cs.getD k (0,0))=0
  ·rw[if_pos hi] at hs;refine dx hi ?_;refine⟨_,_,_,?_,Wk.mk [0] [] ?_ ?_ ?_,k+1,rfl,aa,hs,rfl,rfl⟩
   ·omega
   ·exact fK
   ·exact asa
   ·simp
  ·exact dW
 ·exact dX
/-! ### the memory-/
def th:List (Bool×Int)->Int
 |[]=>0
 |a::l=>(if a.1=true then 4*a.2 else a.2)+th l
def lQ(la:ao)(loc:Int):Int:=4*(loc+48)+th la
theorem qw:∀{la:ao},qT la=true->0<=th la/\th la<=4*lm la
 |[],_=>⟨apH 0,apH 0⟩
 |a::l,h=>by
  simp only[qT,apq,decide_eq_true_eq] at h;have:=qw h.2;simp only[lm,th];split<;>omega
theorem ph{la:ao}{loc:Int}{cs:am}(h:fY la loc cs=0):qT la=true/\lm la<=65536/\0<=loc/\loc<=16/\la.length<=8/\cs.length<=1024/\ij cs=0:=by
 by_cases h8:8<la.length
 ·simp only[fY,jG,h8,if_true] at h;simp at h
 by_cases hb:qT la=true/\lm la<=65536
 ·rw[qG h8 hb] at h;split at h
  ·cases h
  ·split at h
   ·cases h
   ·exact⟨hb.1,hb.2,aa,aa,aa,aa,h⟩
 ·rw[mB h8 hb] at h;cases h
theorem xk(la:ao)(loc:Int)(cs:am)(hl:la.length<=9223372036854775807)(hc:cs.length<=9223372036854775807)(ha:il cs):gw av 26 [fX la loc cs] [.v (aq (if fY la loc cs=0 then lQ la loc else 0)),.v (aq (fY la loc cs))]:=by
 refine fe fx adR ⟨ae,ag⟩ ?_;simp only[fy,fX];refine dp ?_;refine gf (uB la loc cs hl hc ha) ?_;by_cases hf:fY la loc cs=0;rotate_left
 ·refine dx hf ?_;exact⟨[_,_],rfl,⟨rfl,rfl⟩,⟨rfl,rfl⟩,trivial⟩
 obtain⟨f1,f2,f3,f4,f5,f6,f7⟩:=ph hf;have f0:=qw f1;have w1:IntKind.i64.wrap (4*loc)=4*loc:=ff aa;have w2:IntKind.i64.wrap (4*loc+128)=4*loc+128:=ff aa;have w3:IntKind.i64.wrap (4*loc+128+64)=4*loc+128+64:=ff aa;refine dx (aU hf (aU w1 (aU w2 w3))) ?_;refine GA.loop (I:=λm e H=>∃(k:Nat) (s:Int),m=la.length-k/\k<=la.length/\qT (la.drop k)=true/\lQ la loc=s+th (la.drop k)/\lm (la.drop k)<=65536/\0<=s/\s<=1000000/\e=fu [(1,.p 0 0),(5,aq s),(6,aq k)]/\H=fi [eZ 0 25 [.fs 2 la.length (pA la),aq loc,.fs 2 cs.length (pI cs)]]) (Wk.mk [0] [] ?_ ?_ ?_) ⟨0,4*loc+128+64,rfl,aa,f1,by simp only[lQ,List.drop_zero];omega,f2,aa,aa,rfl,rfl⟩ ?_
 ·exact fK
 ·exact asa
 ·simp
 rintro m e H ⟨k,s,rfl,hk,hs,hs2,hs5,hs0,hs1,rfl,rfl⟩;refine dp ?_;refine⟨λh=>?_,λh=>?_⟩
 ·have hk':k<la.length:=aa;have h0:(0:Int)<=(k:Int):=aa;rw[ir (d:=(false,0)) hk'] at hs hs2 hs5;simp only[qT,th,lm,apq,decide_eq_true_eq] at hs hs2 hs5;have hm:=qw hs.2;have hp:=oA hs.2;have hM:lQ la loc<=1000000:=by simp only[lQ];omega
  cases hw:(la.getD k (false,0)).1
  ·have v2:IntKind.i64.wrap (s+(la.getD k (false,0)).2)=s+(la.getD k (false,0)).2:=ff aa;rw[hw] at hs2;simp only[apQ,if_false] at hs2;refine du (aU h0 (aU h (aU @yN (aU @yM (aU hw v2))))) ?_;refine⟨_,_,_,?_,Wk.mk [0] [] ?_ ?_ ?_,k+1,s+(la.getD k (false,0)).2,rfl,aa,hs.2,aa,aa,aa,aa,rfl,rfl⟩
   ·omega
   ·exact fK
   ·exact asa
   ·simp
  ·have v1:IntKind.i64.wrap (4*(la.getD k (false,0)).2)=4*(la.getD k (false,0)).2:=ff aa;have v2:IntKind.i64.wrap (s+4*(la.getD k (false,0)).2)=s+4*(la.getD k (false,0)).2:=ff aa;rw[hw] at hs2;simp only[if_true] at hs2;refine du (aU h0 (aU h (aU @yN (aU @yM (aU hw (aU v1 v2)))))) ?_;refine⟨_,_,_,?_,Wk.mk [0] [] ?_ ?_ ?_,k+1,s+4*(la.getD k (false,0)).2,rfl,aa,hs.2,aa,aa,aa,aa,rfl,rfl⟩
   ·omega
   ·exact fK
   ·exact asa
   ·simp
 ·exact eA
theorem FB(b:Bool):gw av 69 [.b b] [.v (.n .u32 (if b=true then 1 else 0))]:=by
 refine fe fx ak6 ⟨ae,ag⟩ ?_;simp only[fy];cases b
 ·refine dp ?_;exact eY rfl rfl
 ·refine dp ?_;exact eY rfl rfl
def Mp(a:Bool×Int):List Int:=lC (2*a.2+(if a.1=true then 1 else 0))
def aaE(i:Int×Int):List Int:=IntKind.u8.wrap i.1::(if rV i.1=true then lC i.2 else[])
def Mf(la:ao)(loc:Int)(cs:am):List Int:=lC la.length++la.flatMap Mp++lC loc++lC cs.length++cs.flatMap aaE
theorem tK(la:ao)(loc:Int)(cs:am)(hl:la.length<=9223372036854775807)(hc:cs.length<=9223372036854775807)(ha:il cs)(hf:¬fY la loc cs=0):gw av 38 [fX la loc cs] [.v .sl0,.v (aq (fY la loc cs))]:=by
 refine fe fx agf ⟨ae,ag⟩ ?_;simp only[fy,fX];refine dp ?_;refine gf (x9 la loc cs hl hc ha) ?_;refine dx hf ?_;exact aq7
theorem xD:∀{la:ao} (k:Nat),qT la=true->qT (la.drop k)=true
 |la,0,h=>h
 |[],k+1,h=>h
 |a::l,k+1,h=>by
  simp only[qT,apq] at h;exact xD k h.2
theorem qL:∀{cs:am} (k:Nat),ij cs=0->ij (cs.drop k)=0
 |cs,0,h=>h
 |[],k+1,h=>h
 |i::l,k+1,h=>by
  simp only[ij] at h;split at h
  ·exact qL k h
  ·rename_i g;exact absurd h g
theorem CB{i:Int×Int}(h:i8 i=0):0<=i.1/\i.1<36:=by
 unfold i8 at h;split at h
 ·cases h
 ·omega
theorem rS(la:ao)(loc:Int)(cs:am)(ha:il cs)(hf:fY la loc cs=0):gw av 38 [fX la loc cs] [.o 5 1 (Mf la loc cs).length 0 (bC (Mf la loc cs)),.v (aq 0)]:=by
 obtain⟨f1,f2,f3,f4,f5,f6,f7⟩:=ph hf;refine fe fx agf ⟨ae,ag⟩ ?_;simp only[fy,fX];refine dp ?_;refine gf (F:=[fX la loc cs]) (x9 la loc cs aa aa ha) ?_;refine dx hf ?_;refine gm [] (fargs:=[.fs 1 ([]:List Int).length (bC []),aq la.length]) (.cons (.sl0 _ _) (.cons (.rfl rfl) .nil)) (lO [] ag la.length) ?_ ?_
 ·exact arT
 refine dp ?_;have b0:=nv (la.length:Int);have b1:=nv loc;have b2:=nv (cs.length:Int);refine GA.loop (I:=λm e H=>∃(k:Nat) (xs:List Int),m=la.length-k/\k<=la.length/\xs++(la.drop k).flatMap Mp=lC la.length++la.flatMap Mp/\xs.length<=8+8*k/\lm (la.drop k)<=65536/\e=fu [(1,.p 0 0),(5,.os 1 xs.length),(22,.fs 2 la.length (pA la)),(23,aq la.length),(24,aq k)]/\H=fi [fg 5 1 xs.length 0 (bC xs),eZ 0 25 [.fs 2 la.length (pA la),aq loc,.fs 2 cs.length (pI cs)]]) (Wk.mk [1,0] [] ?_ ?_ ?_) ⟨0,lC la.length,rfl,aa,rfl,aa,f2,rfl,rfl⟩ ?_
 ·exact fK
 ·exact .cr .k1 (.cr .ls .nil)
 ·simp
 rintro m e H ⟨k,xs,rfl,hk,hs,hxl,hsum,rfl,rfl⟩;refine dp ?_;refine⟨λh=>?_,λh=>?_⟩
 ·have hk':k<la.length:=aa;have h0:(0:Int)<=(k:Int):=aa;have hok:=xD k f1;rw[ir (d:=(false,0)) hk'] at hs hsum hok;simp only[qT,lm,List.flatMap_cons,apq,decide_eq_true_eq] at hs hsum hok;have hp:=oA hok.2;have bx:=nv (2*(la.getD k (false,0)).2+(if(la.getD k (false,0)).1=true then 1 else 0))
  have v1:IntKind.i64.wrap (2*(la.getD k (false,0)).2)=2*(la.getD k (false,0)).2:=ff aa;have v2:IntKind.i64.wrap (if(la.getD k (false,0)).1=true then 1 else 0)=(if(la.getD k (false,0)).1=true then 1 else 0):=ff (by split<;>omega)
  have v3:IntKind.i64.wrap (2*(la.getD k (false,0)).2+(if(la.getD k (false,0)).1=true then 1 else 0))=2*(la.getD k (false,0)).2+(if(la.getD k (false,0)).1=true then 1 else 0):=ff (by split<;>omega)
  refine du (aU h0 (aU h (aU @yN (aU @yM v1)))) ?_;refine gf (F:=[.b (la.getD k (false,0)).1]) (FB _) ?_;refine du (aU v1 (aU v2 v3)) ?_;refine gm [1] (.cons (.ownb (ty:=5) (z:=0) ah (λi j _ _=>rfl) ae) (.cons (.rfl rfl) .nil)) (lO xs aa (2*(la.getD k (false,0)).2+(if(la.getD k (false,0)).1=true then 1 else 0))) ?_ ?_
  ·exact arT
  refine dp ?_;refine⟨_,_,_,?_,Wk.mk [3,0] [] ?_ ?_ ?_,k+1,xs++lC (2*(la.getD k (false,0)).2+(if(la.getD k (false,0)).1=true then 1 else 0)),rfl,aa,by rw[<-hs];simp only[Mp,List.append_assoc],by simp only[ape];omega,aa,rfl,rfl⟩
  ·omega
  ·simp only[iT,ig,ape,go_sem,simprocAttr]
   repeat' refine fE ?_ ?_
   all_goals first|exact jQ|skip
  ·refine .cr (.rows (x:=_) aj af af af ?_ (bL _) ag (λi j _ hj=>fI i j hj) (λi j _ _=>rfl)) (.cr .ls .nil);simp only[go_sem,simprocAttr,ape,bL]
  ·simp
 have:k=la.length:=aa;subst this;rw[apV,List.flatMap_nil,aqb] at hs;have hxs:xs.length<=72:=aa;have ln:(xs++lC loc).length<=80:=by simp only[ape];omega
 refine dp ?_;refine gm [1] (.cons (.ownb (ty:=5) (z:=0) ah (λi j _ _=>rfl) ae) (.cons (.rfl rfl) .nil)) (lO xs aa loc) ?_ ?_
 ·exact arT
 refine dp ?_;rw[<-ape];refine gm [2] (.cons (.ownb (ty:=5) (z:=0) ah (λi j _ _=>rfl) ae) (.cons (.rfl rfl) .nil)) (lO (xs++lC loc) aa cs.length) ?_ ?_
 ·exact arT
 refine dp ?_;have hX:(xs++lC loc++lC cs.length).length<=88:=by simp only[ape] at ln ⊢;omega
 refine GA.loop (I:=λm e H=>∃(k:Nat) (xs:List Int),m=cs.length-k/\k<=cs.length/\xs++(cs.drop k).flatMap aaE=Mf la loc cs/\xs.length<=88+9*k/\e=fu [(5,.os 0 xs.length),(48,.fs 2 cs.length (pI cs)),(49,aq cs.length),(50,aq k)]/\H=fi [fg 5 1 xs.length 0 (bC xs)]) (Wk.mk [3] [] ?_ ?_ ?_) ⟨0,xs++lC loc++lC cs.length,rfl,aa,by rw[hs];simp only[Mf,List.drop_zero],aa,rfl,rfl⟩ ?_
 ·simp only[iT,ig,ape,go_sem,simprocAttr]
  repeat' refine fE ?_ ?_
  all_goals first|exact jQ|skip
 ·exact eB
 ·simp
 clear hs hxs ln hX hxl xs;rintro m e H ⟨k,xs,rfl,hk,hs,hxl,rfl,rfl⟩;refine dp ?_;refine⟨λh=>?_,λh=>?_⟩
 ·have hk':k<cs.length:=aa;have h0:(0:Int)<=(k:Int):=aa;have hok:=qL k f7;have hm:=ha _ (ka (d:=(0,0)) hk');rw[ir (d:=(0,0)) hk'] at hs hok;simp only[ij,List.flatMap_cons] at hs hok;have hi:i8 (cs.getD k (0,0))=0:=by
   by_cases g:i8 (cs.getD k (0,0))=0
   ·exact g
   ·rw[if_neg g] at hok;exact hok
  obtain⟨g1,g2⟩:=CB hi;obtain⟨op,hop⟩:∃op:Nat,(cs.getD k (0,0)).1=op:=⟨(cs.getD k (0,0)).1.toNat,aa⟩;obtain⟨na,nb,nc,hkn⟩:=tp op aa;have bx:=nv (cs.getD k (0,0)).2;have v1:IntKind.i64.wrap (cs.getD k (0,0)).2=(cs.getD k (0,0)).2:=ff aa;have hlim:(xs.length+1)*1<1099511627776/\xs.length+1<1099511627776/\(xs.length+1)*1<=140737488355328/\xs.length+1<=140737488355328/\xs.length+1<=9223372036854775807:=aa;have hg:=v8 (x:=IntKind.u8.wrap op) (l:=xs) aa;simp only[apu] at hg;have hl1:(xs++[IntKind.u8.wrap op]).length=xs.length+1:=ae;simp only[aaE,hop] at hs
  repeat first|with_reducible refine fj ?_|simp only[h0,h,ip,td,hop,hlim.1,hlim.2.1,hlim.2.2.1,hlim.2.2.2.1,hlim.2.2.2.2,aQ,go_sem,simprocAttr]
  refine gf hkn ?_;simp only[opV];cases hA:rV op
  ·simp only[hA,apQ,if_false] at hs;refine du hA ?_;refine⟨_,_,_,?_,Wk.mk [3] [] ?_ ?_ ?_,k+1,xs++[IntKind.u8.wrap op],rfl,aa,by rw[<-hs];simp,by rw[hl1];omega,rfl,rfl⟩
   ·omega
   ·simp only[iT,ig,hl1,go_sem,simprocAttr]
    repeat' refine fE ?_ ?_
    all_goals first|exact jQ|skip
   ·refine .cr (.rows (x:=_) aj af af af ?_ (bL _) ag ?_ (λi j _ _=>rfl)) .nil
    ·simp only[go_sem,simprocAttr,hl1]
    ·exact asd
   ·simp
  ·simp only[hA,if_true] at hs;refine du hA ?_;rw[<-hl1];refine gm [3] (.cons (.os (x:=_) ae aj ?_ ?_ (λi j _ _=>rfl)) (.cons (.rfl rfl) .nil)) (lO (xs++[IntKind.u8.wrap op]) aa (IntKind.i64.wrap (cs.getD k (0,0)).2)) ?_ ?_
   ·simp only[go_sem,simprocAttr,hl1,bL]
   ·exact asd
   ·exact arT
   rw[v1];refine dp ?_;refine⟨_,_,_,?_,Wk.mk [5] [] ?_ ?_ ?_,k+1,xs++[IntKind.u8.wrap op]++lC (cs.getD k (0,0)).2,rfl,aa,by rw[<-hs];simp,by rw[ape,hl1];omega,rfl,rfl⟩
   ·omega
   ·simp only[iT,ig,ape,go_sem,simprocAttr]
    repeat' refine fE ?_ ?_
    all_goals first|exact jQ|skip
   ·exact eB
   ·simp
 ·refine dp ?_;have:k=cs.length:=aa;subst this;rw[apV,List.flatMap_nil,aqb] at hs;subst hs;exact⟨[_,_],rfl,.o (x:=_) aj af af af ag (bL _) (bL _) (λi j _ hj=>fI i j hj) (λi j _ _=>rfl) rfl (.v rfl rfl .nil)⟩
theorem pR(la:ao)(loc:Int)(cs:am)(hl:la.length<=9223372036854775807)(hc:cs.length<=9223372036854775807)(ha:il cs):gw av 15 [fX la loc cs] [.v (aq (if fY la loc cs=0 then lQ la loc else 0)),.v (aq (fY la loc cs))]:=by
 refine fe fx aeC ⟨ae,ag⟩ ?_;simp only[fy,fX];refine dp ?_;by_cases hf:fY la loc cs=0;rotate_left
 ·refine gf (tK la loc cs hl hc ha hf) ?_;refine dx hf ?_;exact⟨[_,_],rfl,⟨rfl,rfl⟩,⟨rfl,rfl⟩,trivial⟩
 refine gf (rS la loc cs ha hf) ?_;obtain⟨f1,f2,f3,f4,f5,f6,f7⟩:=ph hf;have f0:=qw f1;have w1:IntKind.i64.wrap (loc+32)=loc+32:=ff aa;have w2:IntKind.i64.wrap (loc+32+16)=loc+32+16:=ff aa;have w3:IntKind.i64.wrap (4*(loc+32+16))=4*(loc+32+16):=ff aa;refine dx (aU hf (aU w1 (aU w2 w3))) ?_;refine GA.loop (I:=λm e H=>∃(k:Nat) (s:Int),m=la.length-k/\k<=la.length/\qT (la.drop k)=true/\lQ la loc=s+th (la.drop k)/\lm (la.drop k)<=65536/\0<=s/\s<=1000000/\e=fu [(6,aq s),(24,.fs 2 la.length (pA la)),(25,aq la.length),(26,aq k)]/\H=fi []) (Wk.mk [] [] ?_ ?_ ?_) ⟨0,4*(loc+32+16),rfl,aa,f1,by simp only[lQ,List.drop_zero];omega,f2,aa,aa,rfl,rfl⟩ ?_
 ·exact fK
 ·exact .nil
 ·simp
 rintro m e H ⟨k,s,rfl,hk,hs,hs2,hs5,hs0,hs1,rfl,rfl⟩;refine dp ?_;refine⟨λh=>?_,λh=>?_⟩
 ·have hk':k<la.length:=aa;have h0:(0:Int)<=(k:Int):=aa;rw[ir (d:=(false,0)) hk'] at hs hs2 hs5;simp only[qT,th,lm,apq,decide_eq_true_eq] at hs hs2 hs5;have hm:=qw hs.2;have hp:=oA hs.2;have hM:lQ la loc<=1000000:=by simp only[lQ];omega
  cases hw:(la.getD k (false,0)).1
  ·have v2:IntKind.i64.wrap (s+(la.getD k (false,0)).2)=s+(la.getD k (false,0)).2:=ff aa;rw[hw] at hs2;simp only[apQ,if_false] at hs2;refine du (aU h0 (aU h (aU @yN (aU @yM (aU hw v2))))) ?_;refine⟨_,_,_,?_,Wk.mk [] [] ?_ ?_ ?_,k+1,s+(la.getD k (false,0)).2,rfl,aa,hs.2,aa,aa,aa,aa,rfl,rfl⟩
   ·omega
   ·exact fK
   ·exact .nil
   ·simp
  ·have v1:IntKind.i64.wrap ((la.getD k (false,0)).2*4)=(la.getD k (false,0)).2*4:=ff aa;have v2:IntKind.i64.wrap (s+(la.getD k (false,0)).2*4)=s+(la.getD k (false,0)).2*4:=ff aa;rw[hw] at hs2;simp only[if_true] at hs2;refine du (aU h0 (aU h (aU @yN (aU @yM (aU hw (aU v1 v2)))))) ?_;refine⟨_,_,_,?_,Wk.mk [] [] ?_ ?_ ?_,k+1,s+(la.getD k (false,0)).2*4,rfl,aa,hs.2,aa,aa,aa,aa,rfl,rfl⟩
   ·omega
   ·exact fK
   ·exact .nil
   ·simp
 ·exact eA
def tC(l:List Bool)(i _j:Nat):AV:= .b (l.getD i false)
theorem tC0(l:List Bool)(i j:Nat):tC l i j= .b (l.getD i false):=rfl
def Dh:List (Int×Int)->List Bool->Int->Int
 |[],_,lo=>lo
 |i::l,st,lo=>if 3<lo then lo else if i.1=29 then Dh l (st++[true]) (lo+1) else if i.1=27 then Dh l (st++[false]) lo else if i.1=31 then(if st.length=0 then Dh l st lo else Dh l (st.take (st.length-1)) (if st.getD (st.length-1) false=true then lo-1 else lo)) else Dh l st lo
theorem Ff{l l':List Bool}{i:Nat}(h:i<l.length):(l++l').getD i false=l.getD i false:=by
 simp[apd,apF h]
theorem Fh{l:List Bool}{x:Bool}:(l++[x]).getD l.length false=x:=by
 simp[apd]
theorem Ai{l:List Bool}{x:Bool}(hl:l.length<1100000):∀i j,i<l.length+1->j<1->((fg 4 1 l.length 0 (tC l)).app (l.length*1) (.li [.b x])).get (i*1+j)=tC (l++[x]) i j:=
 sQ rfl aa (λi j hi _=>by unfold tC;rw[Ff hi]) (λj hj=>by
  obtain rfl:j=0:=aa;unfold tC;rw[Fh];rfl)
theorem wT(cs:am)(hc:cs.length<=200):gw av 19 [.fs 2 cs.length (pI cs)] [.v (.b (decide (Dh cs [] 0<=3)))]:=by
 refine fe fx adA ⟨ae,ag⟩ ?_;simp only[fy];refine dp ?_;refine GA.wk (Wk.nil 3 1 4 ah ag ah) ?_;simp only[jP];refine GA.loop (I:=λm e H=>∃(k:Nat) (st:List Bool) (lo:Int),m=cs.length-k/\k<=cs.length/\Dh cs [] 0=Dh (cs.drop k) st lo/\st.length<=k/\ -200<=lo+k/\lo<=k/\e=fu [(0,.fs 2 cs.length (pI cs)),(3,.os 0 st.length),(4,aq lo),(5,aq k)]/\H=fi [fg 4 1 st.length 0 (tC st)]) (Wk.mk [0] [] ?_ ?_ ?_) ⟨0,[],0,rfl,aa,rfl,ae,aa,aa,rfl,rfl⟩ ?_
 ·exact fK
 ·exact .cr (.r1) .nil
 ·simp
 rintro m e H ⟨k,st,lo,rfl,hk,hs,hsl,hlo,hlo2,rfl,rfl⟩;have h0:(0:Int)<=(k:Int):=aa;by_cases h:(k:Int)<cs.length;rotate_left
 ·refine dq h ?_;have:k=cs.length:=aa;subst this;rw[apV,Dh] at hs;exact eY (by rw[hs]) rfl
 have hk':k<cs.length:=aa;rw[ir (d:=(0,0)) hk',Dh] at hs;by_cases h3:3<lo
 ·rw[if_pos h3] at hs;have h3':¬lo<=3:=aa;refine dq (aU h h3') ?_;exact eY (by rw[hs,decide_eq_false h3']) rfl
 rw[if_neg h3] at hs;have h3':lo<=3:=aa;have hlim:(st.length+1)*1<1099511627776/\st.length+1<1099511627776/\(st.length+1)*1<=140737488355328/\st.length+1<=140737488355328/\st.length+1<=9223372036854775807:=aa;by_cases e1:(cs.getD k (0,0)).1=29
 ·rw[if_pos e1] at hs;have hg:=Ai (x:=true) (l:=st) aa;simp only[apu] at hg;have hl1:(st++[true]).length=st.length+1:=ae
  repeat first|with_reducible refine fj ?_|simp only[h,h0,h3',ip,td,e1,hlim.1,hlim.2.1,hlim.2.2.1,hlim.2.2.2.1,hlim.2.2.2.2,aQ,go_sem,simprocAttr]
  refine⟨_,_,_,?_,Wk.mk [2] [] ?_ ?_ ?_,k+1,st++[true],lo+1,rfl,aa,hs,by rw[hl1];omega,aa,aa,rfl,rfl⟩
  ·omega
  ·simp only[iT,ig,hl1,go_sem,simprocAttr]
   repeat' refine fE ?_ ?_
   all_goals first|exact jQ|skip
  ·refine .cr (.rows (x:=_) aj af af af ?_ (bL _) ag ?_ (λi j _ _=>rfl)) .nil
   ·simp only[go_sem,simprocAttr,hl1]
   ·exact asd
  ·simp
 rw[if_neg e1] at hs;by_cases e2:(cs.getD k (0,0)).1=27
 ·rw[if_pos e2] at hs;have hg:=Ai (x:=false) (l:=st) aa;simp only[apu] at hg;have hl1:(st++[false]).length=st.length+1:=ae
  repeat first|with_reducible refine fj ?_|simp only[h,h0,h3',ip,td,e1,e2,hlim.1,hlim.2.1,hlim.2.2.1,hlim.2.2.2.1,hlim.2.2.2.2,aQ,go_sem,simprocAttr]
  refine⟨_,_,_,?_,Wk.mk [2] [] ?_ ?_ ?_,k+1,st++[false],lo,rfl,aa,hs,by rw[hl1];omega,aa,aa,rfl,rfl⟩
  ·omega
  ·simp only[iT,ig,hl1,go_sem,simprocAttr]
   repeat' refine fE ?_ ?_
   all_goals first|exact jQ|skip
  ·refine .cr (.rows (x:=_) aj af af af ?_ (bL _) ag ?_ (λi j _ _=>rfl)) .nil
   ·simp only[go_sem,simprocAttr,hl1]
   ·exact asd
  ·simp
 rw[if_neg e2] at hs;by_cases e3:(cs.getD k (0,0)).1=31;rotate_left
 ·rw[if_neg e3] at hs;refine dq (aU h (aU h0 (aU h3' (aU @ip (aU @td (aU e1 (aU e2 e3))))))) ?_;refine⟨_,_,_,?_,Wk.mk [0] [] ?_ ?_ ?_,k+1,st,lo,rfl,aa,hs,aa,aa,aa,rfl,rfl⟩
  ·omega
  ·exact fK
  ·exact bb
  ·simp
 rw[if_pos e3] at hs;by_cases e4:st.length=0
 ·rw[if_pos e4] at hs;have w1:IntKind.i64.wrap ((st.length:Int)-1)=(st.length:Int)-1:=ff aa;have g1:¬(0:Int)<=(st.length:Int)-1:=aa;refine dt (aU h (aU h0 (aU h3' (aU @ip (aU @td (aU e1 (aU e2 (aU e3 (aU w1 g1))))))))) ?_;refine⟨_,_,_,?_,Wk.mk [0] [] ?_ ?_ ?_,k+1,st,lo,rfl,aa,hs,aa,aa,aa,rfl,rfl⟩
  ·omega
  ·exact fK
  ·exact bb
  ·simp
 rw[if_neg e4] at hs;obtain⟨n,hn⟩:∃n,st.length=n+1:=⟨st.length-1,aa⟩;have w1:IntKind.i64.wrap (((n+1:Nat):Int)-1)=(n:Int):=(ff aa).trans aa;have g1:(0:Int)<=(n:Int):=aa;have g2:(n:Int)<(n+1:Nat):=aa;rw[hn,Nat.add_sub_cancel] at hs;have hl1:(st.take n).length=n:=by rw[apL];omega
 have g3:n<n+1:=apG n;have g4:(fg 4 1 (n+1) 0 (tC st)).get n= .b (st.getD n false):=by
  have:=fI (ty:=4) (esz:=1) (n:=n+1) (z:=0) (row:=tC st) n 0 ag;rw[apu,Nat.add_zero] at this;exact this
 have g5:(n:Int)<=(n+1:Nat):=aa;cases hb:st.getD n false
 ·rw[hb] at hs;simp only[apQ,if_false] at hs;refine dt (aU h (aU h0 (aU h3' (aU @ip (aU @td (aU e1 (aU e2 (aU e3 (aU w1 (aU g1 (aU g2 (aU g3 (aU g4 (aU g5 (aU hn (aU @tC0 hb)))))))))))))))) ?_;refine⟨_,_,_,?_,Wk.mk [0] [] ?_ ?_ ?_,k+1,st.take n,lo,rfl,aa,hs,by rw[hl1];omega,aa,aa,rfl,rfl⟩
  ·omega
  ·simp only[iT,ig,hl1,go_sem,simprocAttr]
   repeat' refine fE ?_ ?_
   all_goals first|exact jQ|skip
  ·refine .cr (.rows (x:=_) aj af af af ?_ (bL _) ag ?_ (λi j _ _=>rfl)) .nil
   ·simp only[go_sem,simprocAttr,hl1];omega
   ·exact avU
  ·simp
 ·rw[hb] at hs;simp only[if_true] at hs;have w2:IntKind.i64.wrap (lo-1)=lo-1:=ff aa;refine dt (aU h (aU h0 (aU h3' (aU @ip (aU @td (aU e1 (aU e2 (aU e3 (aU w1 (aU w2 (aU g1 (aU g2 (aU g3 (aU g4 (aU g5 (aU hn (aU @tC0 hb))))))))))))))))) ?_;refine⟨_,_,_,?_,Wk.mk [0] [] ?_ ?_ ?_,k+1,st.take n,lo-1,rfl,aa,hs,by rw[hl1];omega,aa,aa,rfl,rfl⟩
  ·omega
  ·simp only[iT,ig,hl1,go_sem,simprocAttr]
   repeat' refine fE ?_ ?_
   all_goals first|exact jQ|skip
  ·refine .cr (.rows (x:=_) aj af af af ?_ (bL _) ag ?_ (λi j _ _=>rfl)) .nil
   ·simp only[go_sem,simprocAttr,hl1];omega
   ·exact avU
  ·simp
/-! ### Few-/
def okF:List (Bool×Int)->Bool
 |[]=>true
 |a::l=>if 300<a.2/\a.2<=65536 then false else okF l
def uj(la:ao)(cs:am):Bool:=decide (la.length<=20)&&decide (cs.length<=200)&&decide (Dh cs [] 0<=3)&&okF la
theorem L7(la:ao)(loc:Int)(cs:am):gw av 8 [fX la loc cs] [.v (.b (uj la cs))]:=by
 refine fe fx ad0 ⟨ae,ag⟩ ?_;simp only[fy,fX];by_cases h1:20<la.length
 ·have h1':(20:Int)<(la.length:Int):=aa;have e:uj la cs=false:=by simp only[uj,decide_eq_false (show ¬la.length<=20 by omega),Bool.false_and]
  refine dw h1' ?_;exact eY (by rw[e]) rfl
 have h1':¬(20:Int)<(la.length:Int):=aa;by_cases h2:200<cs.length
 ·have h2':(200:Int)<(cs.length:Int):=aa;have e:uj la cs=false:=by simp only[uj,decide_eq_false (show ¬cs.length<=200 by omega),Bool.false_and,Bool.and_false]
  refine dw (aU h1' h2') ?_;exact eY (by rw[e]) rfl
 have h2':¬(200:Int)<(cs.length:Int):=aa;refine dw (aU h1' h2') ?_;refine gf (F:=[.fs 2 cs.length (pI cs)]) (wT cs aa) ?_;by_cases h3:Dh cs [] 0<=3;rotate_left
 ·have e:uj la cs=false:=by simp only[uj,decide_eq_false h3,Bool.false_and,Bool.and_false]
  refine dq h3 ?_;exact eY (by rw[e]) rfl
 have e:uj la cs=okF la:=by simp only[uj,decide_eq_true h3,decide_eq_true (show la.length<=20 by omega),decide_eq_true (show cs.length<=200 by omega),Bool.true_and]
 refine dq h3 ?_;refine GA.loop (I:=λm e H=>∃(k:Nat),m=la.length-k/\k<=la.length/\okF la=okF (la.drop k)/\e=fu [(1,.p 0 0),(3,aq k)]/\H=fi [eZ 0 25 [.fs 2 la.length (pA la),aq loc,.fs 2 cs.length (pI cs)]]) (Wk.mk [0] [] ?_ ?_ ?_) ⟨0,rfl,aa,rfl,rfl,rfl⟩ ?_
 ·exact fK
 ·exact asa
 ·simp
 rintro m e H ⟨k,rfl,hk,hs,rfl,rfl⟩;have h0:(0:Int)<=(k:Int):=aa;by_cases h:(k:Int)<la.length;rotate_left
 ·refine dq h ?_;have:k=la.length:=aa;subst this;rw[apV,okF] at hs;exact eY (by rw[e,hs]) rfl
 have hk':k<la.length:=aa;rw[ir (d:=(false,0)) hk',okF] at hs;by_cases g1:300<(la.getD k (false,0)).2;rotate_left
 ·rw[if_neg (λq=>g1 q.1)] at hs;refine dw (aU h (aU h0 (aU @yN (aU @yM g1)))) ?_;refine⟨_,_,_,?_,Wk.mk [0] [] ?_ ?_ ?_,k+1,rfl,aa,hs,rfl,rfl⟩
  ·omega
  ·exact fK
  ·exact asa
  ·simp
 by_cases g2:(la.getD k (false,0)).2<=65536
 ·rw[if_pos ⟨g1,g2⟩] at hs;refine dw (aU h (aU h0 (aU @yN (aU @yM (aU g1 g2))))) ?_;exact eY (by rw[e,hs]) rfl
 ·rw[if_neg (λq=>g2 q.2)] at hs;refine dw (aU h (aU h0 (aU @yN (aU @yM (aU g1 g2))))) ?_;refine⟨_,_,_,?_,Wk.mk [0] [] ?_ ?_ ?_,k+1,rfl,aa,hs,rfl,rfl⟩
  ·omega
  ·exact fK
  ·exact asa
  ·simp
end Go.Proofs.YtdpkgnmmikebdaaGreat