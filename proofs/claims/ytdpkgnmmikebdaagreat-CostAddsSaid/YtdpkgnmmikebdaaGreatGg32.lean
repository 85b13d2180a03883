/- A part of the proof of CostAdds: CrC CrH CrI CrE CrJ CrK CrL. No condition. -/
import Derived.Test.YtdpkgnmmikebdaaGreatGg31
import Derived.Test.YtdpkgnmmikebdaaGreatGg22
import Derived.Test.YtdpkgnmmikebdaaGreatGg20
import Derived.Test.YtdpkgnmmikebdaaGreatGg16
set_option linter.unusedSimpArgs false
set_option linter.unusedVariables false
set_option linter.constructorNameAsVariable false
set_option maxRecDepth 100000
set_option maxHeartbeats 4000000
namespace Go.Proofs.YtdpkgnmmikebdaaGreat
open Go.RowKit
theorem qj{la:List (Bool×Int)}{n:Nat}{cs:List (Int×Int)}(ha:bV cs):ei la n cs≠none:=by
 unfold ei
 split
 ·rename_i h0
  obtain⟨m,hm,hn,hK,o,pt,hr,hpo⟩:=kL ha h0
  obtain rfl:n=m:=by omega
  rw[hpo]
  exact nU hn hK hr
 ·simp
theorem Bc{la:List (Bool×Int)}{n:Nat}{cs:List (Int×Int)}{e:Er}(h:ei la n cs=some (.error e)):e.2≠0:=by
 unfold ei at h
 split at h
 ·exact tQ h
 ·rename_i h0;cases h;exact h0
section
variable (la:List (Bool×Int)) (n:Nat) (cs:List (Int×Int)) (hl:la.length<=9223372036854775807) (hc:cs.length<=9223372036854775807) (ha:bV cs)
include hl hc ha
theorem qk{S:WS}{b:Bd}(h:ei la n cs=some (.ok (S,b))):bN Tryz.prog 12 [aJ la n cs] [.a (mB cs S b),.v (.n .i64 0),.v (.n .i64 0)]:=by
 refine ka ((nT la n cs hl hc ha).mono (λv H q=>?_) (λc H q=>q))
 rcases q with⟨S',b',h',k,rfl,hk⟩|⟨e,h',_⟩
 ·rw[h] at h'
  cases h'
  exact⟨[_,_,_],rfl,⟨(by show 4<=8;decide),_,rfl,⟨rfl,rfl⟩,⟨rfl,rfl⟩,⟨rfl,rfl⟩,.inr ⟨k,rfl,by simp[ss],_,hk,rfl,rfl,by decide,rfl,Nat.le_refl _,Nat.le_refl _,λi j hi hj=>aK i j hj,λi j _ _=>eM _ i j⟩,trivial⟩,rfl,⟨rfl,rfl⟩,⟨rfl,rfl⟩,trivial⟩
 ·rw[h] at h'
  cases h'
theorem qm{e:Er}(h:ei la n cs=some (.error e)):bN Tryz.prog 12 [aJ la n cs] [.v (.agg [.n .i64 0,.n .i64 0,.n .i64 0,.sl0]),.v (.n .i64 e.1),.v (.n .i64 e.2)]:=by
 refine ka ((nT la n cs hl hc ha).mono (λv H q=>?_) (λc H q=>q))
 rcases q with⟨S',b',h',k,rfl,hk⟩|⟨e',h',rfl⟩
 ·rw[h] at h'
  cases h'
 ·rw[h] at h'
  cases h'
  exact⟨[_,_,_],rfl,⟨rfl,rfl⟩,⟨rfl,rfl⟩,⟨rfl,rfl⟩,trivial⟩
end
def dy(la:List (Bool×Int))(loc:Int)(cs:List (Int×Int)):Option (Except Er (WS×Bd)):=
 if(cC la loc cs).2=0 then ei la loc.toNat cs else some (.error ((cC la loc cs).1,(cC la loc cs).2))
theorem pQ{la:List (Bool×Int)}{loc:Int}{cs:List (Int×Int)}(ha:bV cs)(h:(cC la loc cs).2=0):((loc.toNat:Nat):Int)=loc:=by
 obtain⟨m,hm,_⟩:=kL ha h
 omega
theorem jk{la:List (Bool×Int)}{loc:Int}{cs:List (Int×Int)}(ha:bV cs):dy la loc cs≠none:=by
 unfold dy
 split
 ·exact qj ha
 ·simp
theorem lY{la:List (Bool×Int)}{loc:Int}{cs:List (Int×Int)}{e:Er}(h:dy la loc cs=some (.error e)):e.2≠0:=by
 unfold dy at h
 split at h
 ·exact Bc h
 ·rename_i h0;cases h;exact h0
theorem dG{la:List (Bool×Int)}{loc:Int}{cs:List (Int×Int)}{S:WS}{b:Bd}(ha:bV cs)(h:dy la loc cs=some (.ok (S,b))):
  (cC la loc cs).2=0/\dq la loc cs (bZ cs S)=0/\av (bZ cs S) (aw cs).1 0=b.1/\aE cs (bZ cs S) (aw cs).1 0=b.2/\(0<=b.1/\b.1<=281474976710656)/\0<=b.2/\b.2<=b.1:=by
 unfold dy at h
 split at h
 ·rename_i h0
  have:=u9 ha h
  rwa [pQ ha h0] at this
 ·cases h
theorem sq(la:List (Bool×Int))(loc:Int)(cs:List (Int×Int))(hl:la.length<=9223372036854775807)(hc:cs.length<=9223372036854775807)(ha:bV cs)(h0:(cC la loc cs).2≠0):
  bN Tryz.prog 12 [aJ la loc cs] [.v (.agg [.n .i64 0,.n .i64 0,.n .i64 0,.sl0]),.v (.n .i64 (cC la loc cs).1),.v (.n .i64 (cC la loc cs).2)]:=by
 refine ka (cI RI ⟨by simp,by decide⟩ ?_)
 simp only[aH,aJ]
 repeat first|with_reducible refine GE.g ?_|simp only[go_sem,simprocAttr]
 refine dd ([aJ la loc cs]) (jl la loc cs hl hc ha) ?_
 repeat first|with_reducible refine GE.g ?_|simp only[h0,ne_eq,not_true_eq_false,not_false_eq_true,decide_true,decide_false,Bool.not_true,Bool.not_false,go_sem,simprocAttr]
 exact⟨[_,_,_],rfl,⟨rfl,rfl⟩,⟨rfl,rfl⟩,⟨rfl,rfl⟩,trivial⟩
section
variable (la:List (Bool×Int)) (loc:Int) (cs:List (Int×Int)) (hl:la.length<=9223372036854775807) (hc:cs.length<=9223372036854775807) (ha:bV cs)
include hl hc ha
theorem dE{S:WS}{b:Bd}(h:dy la loc cs=some (.ok (S,b))):bN Tryz.prog 12 [aJ la loc cs] [.a (mB cs S b),.v (.n .i64 0),.v (.n .i64 0)]:=by
 unfold dy at h
 split at h
 ·rename_i h0
  have:=qk la loc.toNat cs hl hc ha h
  rwa [pQ ha h0] at this
 ·cases h
theorem fZ{e:Er}(h:dy la loc cs=some (.error e)):bN Tryz.prog 12 [aJ la loc cs] [.v (.agg [.n .i64 0,.n .i64 0,.n .i64 0,.sl0]),.v (.n .i64 e.1),.v (.n .i64 e.2)]:=by
 unfold dy at h
 split at h
 ·rename_i h0
  have:=qm la loc.toNat cs hl hc ha h
  rwa [pQ ha h0] at this
 ·rename_i h0
  cases h
  exact sq la loc cs hl hc ha h0
end
def mL(la:List (Bool×Int))(n:Int)(cs:List (Int×Int))(inputs:Int):Int×Int×Int:=match dy la n cs with
 |some (.ok (S,b))=>if inputs<0\/65536<inputs then(0,0,2) else if 281474976710657<=bc b.1 (inputs+1) then(0,0,18) else(lc la n,bc b.1 (inputs+1),0)
 |some (.error e)=>(0,0,e.2)
 |none=>(0,0,0)
theorem vP(la:List (Bool×Int))(n:Int)(cs:List (Int×Int))(hl:la.length<=9223372036854775807)(hc:cs.length<=9223372036854775807)(ha:bV cs)(inputs:Int)(hi:inputs<=65535):
  bN Tryz.prog 10 [aJ la n cs,.n .i64 inputs] [.v (.agg [.n .i64 (mL la n cs inputs).1,.n .i64 (mL la n cs inputs).2.1]),.v (.n .i64 (mL la n cs inputs).2.2)]:=by
 refine ag aF MZ ⟨by simp,by decide⟩ ?_
 simp only[aH,aJ]
 repeat first|with_reducible refine ao ?_|simp only[go_sem,simprocAttr]
 cases hv:dy la n cs with
 |none=>exact absurd hv (jk ha)
 |some R=>
  cases R with
  |error e=>
   have hF:mL la n cs inputs=(0,0,e.2):=by unfold mL;rw[hv]
   have he:=lY hv
   refine bO ([aJ la n cs]) (fZ la n cs hl hc ha hv) ?_
   repeat first|with_reducible refine ao ?_|simp only[he,ne_eq,not_true_eq_false,not_false_eq_true,decide_true,decide_false,Bool.not_true,Bool.not_false,go_sem,simprocAttr]
   rw[hF]
   exact⟨[_,_],rfl,⟨rfl,rfl⟩,⟨rfl,rfl⟩,trivial⟩
  |ok q=>
   obtain⟨S,b⟩:=q
   obtain⟨h0,_,_,_,hb1,hb2⟩:=dG ha hv
   refine bO ([aJ la n cs]) (dE la n cs hl hc ha hv) ?_
   simp only[mB]
   have hfm:bb la n cs=0:=by
    unfold cC at h0
    split at h0
    ·assumption
    ·rename_i h1;exact absurd h0 h1
   by_cases i1:inputs<0
   ·have hF:mL la n cs inputs=(0,0,2):=by unfold mL;rw[hv];exact if_pos (.inl i1)
    repeat first|with_reducible refine ao ?_|simp only[i1,ne_eq,not_true_eq_false,not_false_eq_true,decide_true,decide_false,Bool.not_true,Bool.not_false,go_sem,simprocAttr]
    rw[hF]
    exact⟨[_,_],rfl,⟨rfl,rfl⟩,⟨rfl,rfl⟩,trivial⟩
   by_cases i2:65536<inputs
   ·omega
   have wi:IntKind.i64.wrap (inputs+1)=inputs+1:=am (by omega)
   have hF:mL la n cs inputs=if 281474976710657<=bc b.1 (inputs+1) then(0,0,18) else(lc la n,bc b.1 (inputs+1),0):=by
    unfold mL;rw[hv];exact if_neg (by omega)
   repeat first|with_reducible refine ao ?_|simp only[i1,i2,gt_iff_lt,ne_eq,not_true_eq_false,not_false_eq_true,decide_true,decide_false,Bool.not_true,Bool.not_false,go_sem,simprocAttr]
   refine bO ([aJ la n cs]) (mH la n cs hl hc ha) ?_
   rw[hfm,if_pos rfl]
   repeat first|with_reducible refine ao ?_|simp only[wi,ne_eq,not_true_eq_false,not_false_eq_true,decide_true,decide_false,Bool.not_true,Bool.not_false,go_sem,simprocAttr]
   refine bO ([.n .i64 b.1,.n .i64 (inputs+1)]) (nW b.1 (inputs+1) (by omega) (by omega)) ?_
   repeat first|with_reducible refine ao ?_|simp only[wi,go_sem,simprocAttr]
   refine bO ([.n .i64 (bc b.1 (inputs+1))]) (iz _) ?_
   by_cases i3:281474976710657<=bc b.1 (inputs+1)
   ·rw[if_pos i3] at hF
    rw[hF,show jz (bc b.1 (inputs+1))=(0,18) from if_pos i3]
    repeat first|with_reducible refine ao ?_|simp only[ne_eq,not_true_eq_false,not_false_eq_true,decide_true,decide_false,Bool.not_true,Bool.not_false,go_sem,simprocAttr]
    exact⟨[_,_],rfl,⟨rfl,rfl⟩,⟨rfl,rfl⟩,trivial⟩
   ·rw[if_neg i3] at hF
    rw[hF,show jz (bc b.1 (inputs+1))=(bc b.1 (inputs+1),0) from if_neg i3]
    repeat first|with_reducible refine ao ?_|simp only[ne_eq,not_true_eq_false,not_false_eq_true,decide_true,decide_false,Bool.not_true,Bool.not_false,go_sem,simprocAttr]
    exact⟨[_,_],rfl,⟨rfl,rfl⟩,⟨rfl,rfl⟩,trivial⟩
theorem pM(a b:Int):nP 9 (.st [(0,1,.n),(1,1,.n)]) (.agg [.n .i64 a,.n .i64 b]) (.agg [.n .i64 a,.n .i64 b])=some true:=by
 simp[nP,wA,qE,SH.row,Kf]
theorem qA{s e h:Int}{li:List cS}{M:List Nat}{H:AH}{k n:Nat}(hn:n=li.length)(hL:tH li)(hm:k ∈ M){x:AB}(hk:H.at k=some x)(hz:n*3<=x.size)(hg:∀i j,i<n->j<3->x.get (i*3+j)=vI li i j):
  Cv M H (.agg [.n .i64 s,.n .i64 e,.n .i64 h,.os k n]) (jN s e h li):=by
 subst hn
 refine .agg rfl λi v v' h1 h2=>?_
 rcases i with _|_|_|_|i<;>cases h1<;>cases h2
 ·exact .rfl rfl
 ·exact .rfl rfl
 ·exact .rfl rfl
 ·refine .os hm hk hz hg (λi j hi hj=>?_)
  have hj3:j=0\/j=1\/j=2:=by omega
  rcases hj3 with rfl|rfl|rfl
  ·rfl
  ·rfl
  ·have:Ki (vI li i 2):=hL _ (by rw[List.getD_eq_getElem?_getD,List.getElem?_eq_getElem hi];exact List.getElem_mem hi)
   rcases this with h|⟨n,r,h⟩<;>rw[h]<;>rfl
theorem mA{s e h:Int}{li:List cS}{M:List Nat}{H:AH}{k n z:Nat}{row:Nat->Nat->AV}(hn:n=li.length)(hr:∀i j,i<n->j<3->row i j=vI li i j)(hL:tH li)(hm:k ∈ M){x:AB}(hk:H.at k=some x)(hz:x.size=(ai 48 3 n z row).size)(hg:x.get=(ai 48 3 n z row).get):
  Cv M H (.agg [.n .i64 s,.n .i64 e,.n .i64 h,.os k n]) (jN s e h li):=
 qA hn hL hm hk (by rw[hz];exact Nat.le_refl _) (λi j hi hj=>by rw[hg,<-hr i j hi hj];exact aK i j hj)
end Go.Proofs.YtdpkgnmmikebdaaGreat
namespace Go.Proofs.YtdpkgnmmikebdaaGreat
open Go.RowKit
theorem Wa{i:Nat}(h:i<2):i=0\/i=1:=by omega
theorem ZY{i:Nat}(h:i<5):i=0\/i=1\/i=2\/i=3\/i=4:=by omega
def ew:List (Int×Int):=[(0,10),(29,0),(1,0),(6,0),(31,0)]
theorem rA:ew.length=5:=rfl
theorem rz:bN Tryz.prog 20 [] [.v (aJ [] 1 ew)]:=by
 refine pG rfl (ag aF Zg ⟨by simp,by decide⟩ ?_)
 simp only[aH]
 repeat first|with_reducible refine ao ?_|simp only[go_sem,simprocAttr]
 refine⟨[1],.agg rfl λi v v' h1 h2=>?_⟩
 rcases i with _|_|_|i<;>cases h1<;>cases h2
 ·exact .sl0 2 (pA [])
 ·exact .rfl rfl
 ·refine .sl (x:=_) (by simp) (by simp only[go_sem,simprocAttr]<;>rfl) (by decide) (by decide) (by decide) (λi j hi hj=>?_) (λi j _ hj=>?_)
  ·rcases Wa hj with rfl|rfl<;>(rcases ZY hi with rfl|rfl|rfl|rfl|rfl<;>(simp only[go_sem,simprocAttr]<;>rfl))
  ·rcases Wa hj with rfl|rfl<;>rfl
theorem oz:bV ew:=λi hi=>by
 simp only[ew,List.mem_cons,List.not_mem_nil,or_false] at hi
 rcases hi with rfl|rfl|rfl|rfl|rfl<;>decide
def exR:Option (Int×Int×List (Int×Int)):=match dy [] 1 ew with
 |some (.ok (S,b))=>some (b.1,b.2,bE S.lp 5)
 |_=>none
theorem JV:exR=some (32,0,[(1,10)]):=by kernel_rfl
theorem Cp:∃(S:WS) (b:Bd),dy [] 1 ew=some (.ok (S,b))/\b.1=32/\b.2=0/\bE S.lp 5=[(1,10)]:=by
 have h:=JV
 unfold exR at h
 split at h
 ·rename_i S b hv
  simp only[Option.some.injEq,Prod.mk.injEq] at h
  exact⟨S,b,hv,h.1,h.2.1,h.2.2⟩
 ·cases h
theorem ww:gc [] 1 ew [(1,0,.ow)]=(2,0):=by kernel_rfl
theorem Cq:bb [] 1 ew=0:=by kernel_rfl
theorem zB:lc [] 1=196:=by kernel_rfl
theorem JU:bN Tryz.prog 21 [.agg [.n .i64 5,.n .i64 7],.agg [.n .i64 1,.n .i64 2]] [.v (.agg [.n .i64 6,.n .i64 9])]:=by
 have h:=CO 5 7 1 2
 rw[show qW (oW 5 1) (oW 7 2)= .agg [.n .i64 6,.n .i64 9] from rfl] at h
 exact h
theorem Cs:bN Tryz.prog 22 [.agg [.n .i64 5,.n .i64 7],.agg [.n .i64 5,.n .i64 8]] [.v (.b true)]:=ry 5 7 5 8
theorem Cr:bN Tryz.prog 22 [.agg [.n .i64 5,.n .i64 7],.agg [.n .i64 4,.n .i64 100]] [.v (.b false)]:=ry 5 7 4 100
theorem gy:bN Tryz.prog 9 [] [.v (.b true)]:=by
 obtain⟨S,b,hv,hb1,hb2,hL⟩:=Cp
 obtain⟨h0,hO,hs,he,_,_⟩:=dG oz hv
 have hI:bZ ew S=[(1,10,.ow)]:=by
  unfold bZ
  rw[rA,hL];rfl
 have hS1:=jy [] 1 ew (by decide) (by decide) oz b.1 b.2 S.ht (bZ ew S) (by rw[hI];decide) (xQ ew S)
 rw[show gc [] 1 ew (bZ ew S)=(32,0) by unfold gc;rw[if_pos hO,hs,hb1];rfl,hI] at hS1
 have hS2:=jy [] 1 ew (by decide) (by decide) oz b.1 b.2 S.ht [(1,0,.ow)] (by decide) (λx hx=> .inl (by rw[List.mem_singleton.1 hx]))
 rw[ww] at hS2
 have hM:=mH [] 1 ew (by decide) (by decide) oz
 rw[Cq,zB,if_pos rfl] at hM
 have hLi:=vP [] 1 ew (by decide) (by decide) oz 3 (by decide)
 rw[show mL [] 1 ew 3=(196,128,0) by unfold mL;rw[hv];dsimp only;rw[hb1,zB];rfl] at hLi
 have hV:=dE [] 1 ew (by decide) (by decide) oz hv
 unfold mB at hV
 rw[rA,hL] at hV
 refine ka (cI ZB ⟨by simp,by decide⟩ ?_)
 simp only[aH]
 repeat first|with_reducible refine GE.g ?_|simp only[go_sem,simprocAttr]
 refine dd ([]) rz ?_
 simp only[aJ]
 repeat first|with_reducible refine GE.g ?_|simp only[go_sem,simprocAttr]
 refine dd ([aJ [] 1 ew]) hV ?_
 repeat first|with_reducible refine GE.g ?_|simp only[ne_eq,not_true_eq_false,not_false_eq_true,decide_true,decide_false,Bool.not_true,Bool.not_false,go_sem,simprocAttr]
 have hsc:∀(x y:Int),∀r ∈ [RT.v (AV.n .i64 x),RT.v (AV.n .i64 y)],gR (λa=>a.sc 3=true) r:=λx y r hr=>by
  simp only[List.mem_cons,List.not_mem_nil,or_false] at hr
  rcases hr with rfl|rfl<;>rfl
 refine i6 [1] (fargs:=[aJ [] 1 ew,jN b.1 b.2 S.ht [(1,10,.ow)]]) (.cons (.rfl rfl) (.cons (mA (n:=1) (z:=0) (row:=fg [(1,10)]) (x:=ai 48 3 1 0 (fg [(1,10)])) rfl (λi j hi hj=>?_) (λx hx=> .inl (by rw[List.mem_singleton.1 hx])) (by simp) (by simp only[go_sem,simprocAttr]<;>rfl) rfl rfl) .nil)) hS1 ?_ (hsc _ _) ?_
 ·obtain rfl:i=0:=by omega
  rcases sN hj with rfl|rfl|rfl<;>rfl
 ·simp only[go_sem,simprocAttr]
 repeat first|with_reducible refine GE.g ?_|simp only[ne_eq,not_true_eq_false,not_false_eq_true,decide_true,decide_false,Bool.not_true,Bool.not_false,go_sem,simprocAttr]
 refine kK [1] (fargs:=[aJ [] 1 ew,jN b.1 b.2 S.ht [(1,0,.ow)]]) (.cons (.rfl rfl) (.cons (qA (n:=1) (x:=_) rfl (λx hx=> .inl (by rw[List.mem_singleton.1 hx])) (by simp) (by simp only[go_sem,simprocAttr]<;>rfl) (by decide) (λi j hi hj=>?_)) .nil)) hS2 ?_ ?_
 ·obtain rfl:i=0:=by omega
  rw[dl (by decide)]
  rcases sN hj with rfl|rfl|rfl
  ·rw[if_neg (by decide)];exact aK 0 0 (by decide)
  ·rw[if_pos (by decide)];rfl
  ·rw[if_neg (by decide)];exact aK 0 2 (by decide)
 ·simp only[go_sem,simprocAttr]
 repeat first|with_reducible refine GE.g ?_|simp only[ne_eq,not_true_eq_false,not_false_eq_true,decide_true,decide_false,Bool.not_true,Bool.not_false,go_sem,simprocAttr]
 refine dd ([aJ [] 1 ew]) hM ?_
 repeat first|with_reducible refine GE.g ?_|simp only[ne_eq,not_true_eq_false,not_false_eq_true,decide_true,decide_false,Bool.not_true,Bool.not_false,go_sem,simprocAttr]
 refine dd ([aJ [] 1 ew,.n .i64 3]) hLi ?_
 have w00:IntKind.i64.wrap 0=0:=rfl
 repeat first|with_reducible refine GE.g ?_|simp only[w00,Int.add_zero,pM,ne_eq,not_true_eq_false,not_false_eq_true,decide_true,decide_false,Bool.not_true,Bool.not_false,go_sem,simprocAttr]
 refine dd ([.agg [.n .i64 5,.n .i64 7],.agg [.n .i64 1,.n .i64 2]]) JU ?_
 repeat first|with_reducible refine GE.g ?_|simp only[pM,ne_eq,not_true_eq_false,not_false_eq_true,decide_true,decide_false,Bool.not_true,Bool.not_false,go_sem,simprocAttr]
 refine dd ([.agg [.n .i64 5,.n .i64 7],.agg [.n .i64 5,.n .i64 8]]) Cs ?_
 repeat first|with_reducible refine GE.g ?_|simp only[pM,ne_eq,not_true_eq_false,not_false_eq_true,decide_true,decide_false,Bool.not_true,Bool.not_false,go_sem,simprocAttr]
 refine dd ([.agg [.n .i64 5,.n .i64 7],.agg [.n .i64 4,.n .i64 100]]) Cr ?_
 repeat first|with_reducible refine GE.g ?_|simp only[pM,ne_eq,not_true_eq_false,not_false_eq_true,decide_true,decide_false,Bool.not_true,Bool.not_false,go_sem,simprocAttr]
 exact aa rfl rfl
/-! ### a report with greater numbers-/
theorem tj{n:Nat}{row:Nat->Nat->AV}(hn:n<1000000)(hc:∀i j,i<n->j<3->(row i j).cell=true):
  bN Tryz.prog 16 [.fs 3 n row] [.o 48 3 n 0 row]:=by
 refine ag aF GZ ⟨by simp,by decide⟩ ?_
 simp only[aH]
 have hl1:n*3<1099511627776:=by omega
 have hl2:n*40<=140737488355328:=by omega
 have hl3:n<=9223372036854775807:=by omega
 try simp only[Nat.mul_one] at hl1 hl2
 repeat first|with_reducible refine ao ?_|simp only[go_sem,simprocAttr]
 intro t ht
 cases t
 ·repeat first|with_reducible refine ao ?_|simp only[hl1,hl2,hl3,decide_true,go_sem,simprocAttr]
  refine⟨[_],rfl,.o (x:=_) (by simp only[go_sem,simprocAttr];rfl) (by rfl) (by rfl) (by rfl) (by decide) (by simp only[go_sem,simprocAttr]<;>omega) (Nat.le_refl _) (λi j hi hj=>?_) hc rfl .nil⟩
  exact mV hi hj (by omega)
 ·obtain rfl:=ht rfl
  repeat first|with_reducible refine ao ?_|simp only[go_sem,simprocAttr]
  exact⟨[_],rfl,.o0 rfl .nil⟩
theorem tk{n:Nat}{row:Nat->Nat->AV}(hn:n<1000000)(hc:∀i j,i<n->j<2->(row i j).cell=true):
  bN Tryz.prog 17 [.fs 2 n row] [.o 54 2 n 0 row]:=by
 refine ag aF GR ⟨by simp,by decide⟩ ?_
 simp only[aH]
 have hl1:n*2<1099511627776:=by omega
 have hl2:n*16<=140737488355328:=by omega
 have hl3:n<=9223372036854775807:=by omega
 try simp only[Nat.mul_one] at hl1 hl2
 repeat first|with_reducible refine ao ?_|simp only[go_sem,simprocAttr]
 intro t ht
 cases t
 ·repeat first|with_reducible refine ao ?_|simp only[hl1,hl2,hl3,decide_true,go_sem,simprocAttr]
  refine⟨[_],rfl,.o (x:=_) (by simp only[go_sem,simprocAttr];rfl) (by rfl) (by rfl) (by rfl) (by decide) (by simp only[go_sem,simprocAttr]<;>omega) (Nat.le_refl _) (λi j hi hj=>?_) hc rfl .nil⟩
  exact mV hi hj (by omega)
 ·obtain rfl:=ht rfl
  repeat first|with_reducible refine ao ?_|simp only[go_sem,simprocAttr]
  exact⟨[_],rfl,.o0 rfl .nil⟩
def tV(d:Nat)(c:Int):Int:=if c<0 then c else c+d
theorem iM(d i:Nat):tV d (i:Int)=((d+i:Nat):Int):=by unfold tV;split<;>omega
theorem Bp(d:Nat):tV d (-1)= -1:=rfl
theorem xD(d:Nat)(c:Int):0<=tV d c↔0<=c:=by unfold tV;split<;>omega
theorem uW(d:Nat){c:Int}(h:0<=c):(tV d c).toNat=d+c.toNat:=by unfold tV;split<;>omega
structure tG(d i n N:Nat)(o1 l l':List Int):Prop where
 eq:∀q,q<i->l'.getD (d+q) 0=tV d (l.getD q 0)
 len:l.length=n
 len':l'.length=N
 keep:∀p,p<d->l'.getD p 0=o1.getD p 0
theorem tG.first{d i n N:Nat}{o1 l l':List Int}(h:tG d i n N o1 l l')(hi:i<n)(hN:d+n<=N)(v:Int):tG d (i+1) n N o1 (l.set i v) (l'.set (d+i) (tV d v)):=
 ⟨λq hq=>by
  by_cases e:q=i
  ·subst e
   rw[dF (by rw[h.len'];omega),dF (by rw[h.len];exact hi)]
  ·rw[a9 (by omega),a9 e]
   exact h.eq q (by omega),by rw[List.length_set];exact h.len,by rw[List.length_set];exact h.len',λp hp=>by rw[a9 (by omega)];exact h.keep p hp⟩
theorem tG.more{d i n N:Nat}{o1 l l':List Int}(h:tG d i n N o1 l l'){k:Nat}(hk:k<i)(hi:i<=n)(hN:d+n<=N)(v:Int):tG d i n N o1 (l.set k v) (l'.set (d+k) (tV d v)):=
 ⟨λq hq=>by
  by_cases e:q=k
  ·subst e
   rw[dF (by rw[h.len'];omega),dF (by rw[h.len];omega)]
  ·rw[a9 (by omega),a9 e]
   exact h.eq q hq,by rw[List.length_set];exact h.len,by rw[List.length_set];exact h.len',λp hp=>by rw[a9 (by omega)];exact h.keep p hp⟩
structure Ko(d i n N:Nat)(o1:List Int)(s s':RS):Prop where
 out:tG d i n N o1 s.out s'.out
 op:s'.op=s.op.map (d+ ·)
 ot:s'.ot=s.ot.map (tV d)
 bop:∀b ∈ s.op,b<i
 bot:∀c ∈ s.ot,c<i
theorem rh{cs cs0:List (Int×Int)}{d i:Nat}(hcs:∀k,k<i->aj cs (d+k)=aj cs0 k):∀{l:List Nat},(∀b ∈ l,b<i)->ip cs (l.map (d+ ·))=ip cs0 l
 |[],_=>rfl
 |b::l,h=>by
  have:=rh hcs (l:=l) λx hx=>h x (List.mem_cons_of_mem _ hx)
  unfold ip at this ⊢
  rw[List.map_cons,List.any_cons,List.any_cons,this,hcs b (h b (List.mem_cons_self ..))]
theorem xI{cs cs0:List (Int×Int)}{d i n N:Nat}{o1:List Int}(hcs:∀k,k<n->aj cs (d+k)=aj cs0 k)(hi:i<n)(hN:d+n<=N){s s' t:RS}(hR:Ko d i n N o1 s s')(h:bQ cs0 i s=some t):
  ∃t',bQ cs (d+i) s'=some t'/\Ko d (i+1) n N o1 t t':=by
 obtain⟨out,op,ot⟩:=s
 obtain⟨out',op',ot'⟩:=s'
 obtain⟨h1,h2,h3,h4,h5⟩:=hR
 dsimp only at h1 h2 h3 h4 h5
 subst h2 h3
 have hop:=hcs i hi
 have k1:=h1.first hi hN (-1)
 rw[Bp] at k1
 have hb:∀b ∈ op,b<i+1:=λb hb=>Nat.lt_succ_of_lt (h4 b hb)
 have hc:∀c ∈ ot,c<((i+1:Nat):Int):=λc hc=>by have:=h5 c hc;omega
 unfold bQ at h ⊢
 dsimp only at h ⊢
 rw[hop]
 by_cases c1:aj cs0 i=27\/aj cs0 i=29
 ·rw[if_pos c1] at h ⊢
  rw[List.length_map]
  by_cases c2:op.length=8
  ·rw[if_pos c2] at h;cases h
  ·rw[if_neg c2] at h ⊢
   cases h
   exact⟨_,rfl,k1,rfl,rfl,λb hb'=>by rcases List.mem_cons.1 hb' with rfl|hb';exact Nat.lt_succ_self _;exact hb b hb',λc hc'=>by rcases List.mem_cons.1 hc' with rfl|hc';omega;exact hc c hc'⟩
 rw[if_neg c1] at h ⊢
 by_cases c3:aj cs0 i=28
 ·rw[if_pos c3] at h ⊢
  cases op with
  |nil=>cases h
  |cons b op=>
   cases ot with
   |nil=>cases h
   |cons c ot=>
    rw[List.map_cons,List.map_cons]
    dsimp only at h ⊢
    have hbi:=h4 b (List.mem_cons_self ..)
    rw[hcs b (by omega)]
    by_cases c4:aj cs0 b≠27\/0<=c
    ·rw[if_pos c4] at h;cases h
    ·rw[if_neg c4] at h
     rw[if_neg (by rw[xD];exact c4)]
     cases h
     have k2:=k1.more (k:=b) (by omega) (by omega) hN (i:Int)
     rw[iM] at k2
     exact⟨_,rfl,k2,rfl,by rw[List.map_cons,iM],hb,λc' hc'=>by rcases List.mem_cons.1 hc' with rfl|hc';omega;exact hc c' (List.mem_cons_of_mem _ hc')⟩
 rw[if_neg c3] at h ⊢
 by_cases c5:aj cs0 i=30
 ·rw[if_pos c5] at h ⊢
  rw[rh (λk hk=>hcs k (by omega)) h4]
  by_cases c6:ip cs0 op=true
  ·rw[if_pos c6] at h ⊢
   cases h
   exact⟨_,rfl,k1,rfl,rfl,hb,hc⟩
  ·rw[if_neg c6] at h;cases h
 rw[if_neg c5] at h ⊢
 by_cases c7:aj cs0 i=31
 ·rw[if_pos c7] at h ⊢
  cases op with
  |nil=>cases h
  |cons b op=>
   cases ot with
   |nil=>cases h
   |cons c ot=>
    rw[List.map_cons,List.map_cons]
    dsimp only at h ⊢
    have hbi:=h4 b (List.mem_cons_self ..)
    have hci:=h5 c (List.mem_cons_self ..)
    have k2:=k1.more (k:=i) (by omega) (by omega) hN (b:Int)
    rw[iM] at k2
    have hb':∀x ∈ op,x<i+1:=λx hx=>hb x (List.mem_cons_of_mem _ hx)
    have hc':∀x ∈ ot,x<((i+1:Nat):Int):=λx hx=>hc x (List.mem_cons_of_mem _ hx)
    cases h
    by_cases c8:0<=c
    ·have k3:=k2.more (k:=c.toNat) (by omega) (by omega) hN (i:Int)
     rw[iM,<-uW d c8] at k3
     rw[if_pos ((xD d c).2 c8)]
     exact⟨_,rfl,by rw[if_pos c8];exact k3,rfl,rfl,hb',hc'⟩
    ·have k3:=k2.more (k:=b) (by omega) (by omega) hN (i:Int)
     rw[iM] at k3
     rw[if_neg (λh=>c8 ((xD d c).1 h))]
     exact⟨_,rfl,by rw[if_neg c8];exact k3,rfl,rfl,hb',hc'⟩
 rw[if_neg c7] at h ⊢
 cases h
 exact⟨_,rfl,k1,rfl,rfl,hb,hc⟩
theorem mw{cs cs0:List (Int×Int)}{d n N:Nat}{o1:List Int}(hcs:∀k,k<n->aj cs (d+k)=aj cs0 k)(hN:d+n<=N):∀(k i:Nat) {s s' t:RS},i+k<=n->Ko d i n N o1 s s'->bz cs0 k i s= .ok t->∃t',bz cs k (d+i) s'= .ok t'/\Ko d (i+k) n N o1 t t'
 |0,i,s,s',t,_,hR,h=>by cases h;exact⟨s',rfl,hR⟩
 |k+1,i,s,s',t,hk,hR,h=>by
  rw[bz] at h
  split at h
  ·cases h
  ·rename_i s1 h1
   obtain⟨t1,q1,q2⟩:=xI hcs (by omega) hN hR h1
   obtain⟨t',q3,q4⟩:=mw hcs hN k (i+1) (by omega) q2 h
   exact⟨t',by rw[bz,q1];exact q3,by rw[show i+(k+1)=i+1+k by omega];exact q4⟩
theorem Bl{cs:List (Int×Int)}{i:Nat}{s t:RS}(h:bQ cs i s=some t)(h0:s.op.length=s.ot.length):t.op.length=t.ot.length:=by
 obtain⟨out,op,ot⟩:=s
 unfold bQ at h
 dsimp only at h h0
 split at h
 ·split at h<;>cases h
  simp only[List.length_cons,h0]
 split at h
 ·split at h
  ·split at h<;>cases h
   simp only[List.length_cons] at h0 ⊢
   exact h0
  ·cases h
 split at h
 ·split at h<;>cases h
  exact h0
 split at h
 ·split at h
  ·cases h
   simp only[List.length_cons] at h0 ⊢
   omega
  ·cases h
 ·cases h
  exact h0
theorem tW{cs:List (Int×Int)}:∀(n i:Nat) {s t:RS},bz cs n i s= .ok t->s.op.length=s.ot.length->t.op.length=t.ot.length
 |0,i,s,t,h,h0=>by cases h;exact h0
 |n+1,i,s,t,h,h0=>by
  rw[bz] at h
  split at h
  ·cases h
  ·rename_i s1 h1
   exact tW n (i+1) h (Bl h1 h0)
theorem iV{l m:List (Int×Int)}{k:Nat}(h:k<l.length):aj (l++m) k=aj l k:=by
 unfold aj
 rw[List.getD_eq_getElem?_getD,List.getD_eq_getElem?_getD,List.getElem?_append_left h]
theorem iU(l m:List (Int×Int))(k:Nat):aj (l++m) (l.length+k)=aj m k:=by
 unfold aj
 rw[List.getD_eq_getElem?_getD,List.getD_eq_getElem?_getD,List.getElem?_append_right (by omega),Nat.add_sub_cancel_left]
theorem Ih(c:Int):tV 0 c=c:=by unfold tV;split<;>omega
theorem xE{cs1 cs2:List (Int×Int)}{o1 o2:List Int}(h1:ej cs1= .ok o1)(h2:ej cs2= .ok o2):
  ∃o,ej (cs1++cs2)= .ok o/\(∀p,p<cs1.length->o.getD p 0=o1.getD p 0)/\∀q,q<cs2.length->o.getD (cs1.length+q) 0=tV cs1.length (o2.getD q 0):=by
 unfold ej at h1 h2
 split at h1
 ·cases h1
 rename_i s1 hs1
 split at h1<;>cases h1
 rename_i e1
 split at h2
 ·cases h2
 rename_i s2 hs2
 split at h2<;>cases h2
 rename_i e2
 have hA:Ko 0 0 cs1.length (cs1++cs2).length [] (r6 cs1) (r6 (cs1++cs2)):=⟨⟨λq hq=>absurd hq (Nat.not_lt_zero _),by simp[r6],by simp[r6],λp hp=>absurd hp (Nat.not_lt_zero _)⟩,rfl,rfl,λb hb=>(by cases hb),λc hc=>(by cases hc)⟩
 obtain⟨t1,q1,q2⟩:=mw (cs:=cs1++cs2) (λk hk=>by rw[Nat.zero_add];exact iV hk) (by rw[List.length_append];omega) _ 0 (by omega) hA hs1
 rw[Nat.zero_add] at q1
 have hop:t1.op=[]:=by rw[q2.op,e1];rfl
 have hot:t1.ot=[]:=by
  have l1:=tW _ _ hs1 rfl
  rw[e1] at l1
  have:=List.eq_nil_of_length_eq_zero l1.symm
  rw[q2.ot,this];rfl
 have hB:Ko cs1.length 0 cs2.length (cs1++cs2).length s1.out (r6 cs2) t1:=⟨⟨λq hq=>absurd hq (Nat.not_lt_zero _),by simp[r6],q2.out.len',λp hp=>by
  have:=q2.out.eq p (by rw[Nat.zero_add];exact hp)
  rw[Nat.zero_add,Ih] at this
  exact this⟩,hop,hot,λb hb=>(by cases hb),λc hc=>(by cases hc)⟩
 obtain⟨t2,r1,r2⟩:=mw (cs:=cs1++cs2) (λk _=>iU cs1 cs2 k) (by rw[List.length_append];exact Nat.le_refl _) _ 0 (by omega) hB hs2
 rw[Nat.add_zero] at r1
 refine⟨t2.out,?_,r2.out.keep,λq hq=>r2.out.eq q (by rw[Nat.zero_add];exact hq)⟩
 unfold ej
 rw[List.length_append,iQ,q1]
 dsimp only
 rw[Nat.zero_add,r1]
 exact if_pos (by rw[r2.op,e2];rfl)
def Fo.sh(d:Nat):Fo->Fo
 |.nil=> .nil
 |.pl x y r=> .pl (d+x) (d+y) (r.sh d)
 |.br op x y u v r=> .br op (d+x) (d+y) (u.sh d) (v.sh d) (r.sh d)
theorem Fo.sh_0:∀o:Fo,o.sh 0=o
 |.nil=>rfl
 |.pl x y r=>by rw[Fo.sh,r.sh_0,Nat.zero_add,Nat.zero_add]
 |.br op x y u v r=>by rw[Fo.sh,u.sh_0,v.sh_0,r.sh_0,Nat.zero_add,Nat.zero_add]
theorem Fo.sh_pl1(d:Nat):∀o:Fo,(o.sh d).pl1=o.pl1
 |.nil=>rfl
 |.pl _ _ _=>rfl
 |.br _ _ _ _ _ _=>rfl
def Fo.glue(x y:Nat):Fo->Fo
 |.pl _ y' r=> .pl x y' r
 |z=> .pl x y z
def Fo.mapp:Fo->Fo->Fo
 |.nil,z=>z
 |.pl x y r,z=>Fo.glue x y (r.mapp z)
 |.br op x y u v r,z=> .br op x y u v (r.mapp z)
theorem aA.sh{cs cs0:List (Int×Int)}{out out0:List Int}{d n:Nat}(hcs:∀k,k<n->aj cs (d+k)=aj cs0 k)(ho:∀k,k<n->∀m:Nat,out0.getD k 0=m->out.getD (d+k) 0=((d+m:Nat):Int)):∀{o:Fo} {a b:Nat},aA cs0 out0 o a b->b<=n->aA cs out (o.sh d) (d+a) (d+b)
 |.nil,a,b,h,hb=>by
  have:a=b:=h
  show d+a=d+b
  rw[this]
 |.pl x y r,a,b,h,hb=>by
  obtain⟨h0,h1,h2,h3,h4⟩:=h
  have:=h4.le
  refine⟨by rw[h0],by omega,λk k1 k2=>?_,by rw[Fo.sh_pl1];exact h3,h4.sh hcs ho hb⟩
  have:=h2 (k-d) (by omega) (by omega)
  rw[show k=d+(k-d) by omega,hcs _ (by omega)]
  exact this
 |.br op x y u v r,a,b,h,hb=>by
  obtain⟨h0,h1,h2,⟨m,g1,g2,g3,g4,g5⟩,h4⟩:=h
  have hmy:m<b:=g3
  refine⟨by rw[h0],by rw[hcs _ (by omega)];exact h1,h2,⟨d+m,ho a (by omega) m g1,⟨by omega,λe=>by rw[hcs _ (by omega)];exact g2.2 e⟩,by omega,by rw[Nat.add_assoc];exact g4.sh hcs ho (by omega),?_⟩,h4.sh hcs ho hb⟩
  rw[hcs _ (by omega)]
  rcases g5 with⟨q0,e,q1,q2,q3,q4,q5⟩|⟨q0,q1,q2⟩
  ·exact .inl ⟨q0,d+e,ho m (by omega) e q1,by omega,by omega,by rw[Nat.add_assoc];exact q4.sh hcs ho (by omega),by omega⟩
  ·exact .inr ⟨q0,by rw[q1];rfl,by omega⟩
theorem aA.glue{cs:List (Int×Int)}{out:List Int}{x y b:Nat}{z:Fo}(h1:x<y)(h2:∀k,x<=k->k<y->aj cs k≠27/\aj cs k≠29/\aj cs k≠28/\aj cs k≠31)(h:aA cs out z y b):aA cs out (Fo.glue x y z) x b:=by
 cases z with
 |nil=>exact⟨rfl,h1,h2,rfl,h⟩
 |pl x' y' r=>
  obtain⟨z0,z1,z2,z3,z4⟩:=h
  exact⟨rfl,by omega,λk k1 k2=>by
   by_cases e:k<y
   ·exact h2 k k1 e
   ·exact z2 k (by omega) k2,z3,z4⟩
 |br op x' y' u v r=>exact⟨rfl,h1,h2,rfl,h⟩
theorem aA.mapp{cs:List (Int×Int)}{out:List Int}:∀{o z:Fo} {a b c:Nat},aA cs out o a b->aA cs out z b c->aA cs out (o.mapp z) a c
 |.nil,z,a,b,c,h,hz=>by cases h;exact hz
 |.pl x y r,z,a,b,c,h,hz=>by
  obtain⟨rfl,h1,h2,h3,h4⟩:=h
  exact aA.glue h1 h2 (h4.mapp hz)
 |.br op x y u v r,z,a,b,c,h,hz=>by
  obtain⟨h0,h1,h2,⟨m,g1,g2,g3,g4,g5⟩,h4⟩:=h
  have hle:=hz.le
  refine⟨h0,h1,h2,⟨m,g1,g2,by omega,g4,?_⟩,h4.mapp hz⟩
  rcases g5 with⟨q0,e,q1,q2,q3,q4,q5⟩|⟨q0,q1,q2⟩
  ·exact .inl ⟨q0,e,q1,q2,by omega,q4,q5⟩
  ·exact .inr ⟨q0,q1,q2⟩
theorem aA.uniq{cs:List (Int×Int)}{out:List Int}:∀{o o':Fo} {a b:Nat},aA cs out o a b->aA cs out o' a b->o=o'
 |.nil,o',a,b,h,h'=>by
  have e:a=b:=h
  cases o' with
  |nil=>rfl
  |pl x y r=>obtain⟨_,h1,_,_,h4⟩:=h';have:=h4.le;omega
  |br op x y u v r=>
   obtain⟨_,_,_,⟨m,_,g2,g3,_⟩,_⟩:=h'
   omega
 |.pl x y r,o',a,b,h,h'=>by
  obtain⟨h0,h1,h2,h3,h4⟩:=h
  have hle:=h4.le
  cases o' with
  |nil=>have e:a=b:=h';omega
  |br op x' y' u v r'=>
   obtain⟨_,k1,k2,-⟩:=h'
   have:=h2 a (Nat.le_refl _) h1
   omega
  |pl x' y' r'=>
   obtain⟨k0,k1,k2,k3,k4⟩:=h'
   have hle':=k4.le
   have hy:y=y':=by
    rcases Nat.lt_trichotomy y y' with e|e|e
    ·exfalso
     cases r with
     |nil=>have:y=b:=h4;omega
     |pl _ _ _=>cases h3
     |br op x1 y1 u v r=>
      obtain⟨_,q1,q2,-⟩:=h4
      have:=k2 y (by omega) e
      omega
    ·exact e
    ·exfalso
     cases r' with
     |nil=>have:y'=b:=k4;omega
     |pl _ _ _=>cases k3
     |br op x1 y1 u v r'=>
      obtain⟨_,q1,q2,-⟩:=k4
      have:=h2 y' (by omega) e
      omega
   subst hy
   rw[h4.uniq k4,h0,k0]
 |.br op x y u v r,o',a,b,h,h'=>by
  obtain⟨h0,h1,h2,⟨m,g1,g2,g3,g4,g5⟩,h4⟩:=h
  cases o' with
  |nil=>have e:a=b:=h';omega
  |pl x' y' r'=>
   obtain⟨_,k1,k2,-⟩:=h'
   have:=k2 a (Nat.le_refl _) k1
   rcases h2 with e|e
   ·exact absurd (h1.trans e) this.1
   ·exact absurd (h1.trans e) this.2.1
  |br op' x' y' u' v' r'=>
   obtain⟨k0,k1,k2,⟨m',l1,l2,l3,l4,l5⟩,k4⟩:=h'
   have hm:m=m':=by omega
   subst hm
   have hop:op=op':=by omega
   have hu:=g4.uniq l4
   have hvy:v=v'/\y=y':=by
    rcases g5 with⟨q0,e,q1,q2,q3,q4,q5⟩|⟨q0,q1,q2⟩
    ·rcases l5 with⟨p0,e',p1,p2,p3,p4,p5⟩|⟨p0,p1,p2⟩
     ·have he:e=e':=by omega
      subst he
      exact⟨q4.uniq p4,by omega⟩
     ·exact absurd q0 p0
    ·rcases l5 with⟨p0,_⟩|⟨p0,p1,p2⟩
     ·exact absurd p0 q0
     ·exact⟨by rw[q1,p1],by omega⟩
   obtain⟨hv,hy⟩:=hvy
   subst hy
   rw[h4.uniq k4,hu,hv,hop,h0,k0]
/-! ### bounds-/
theorem iu{a b:Int}(h:0<=b):aX (aX a+b)=aX (a+b):=by rw[Int.add_comm,bB h,Int.add_comm]
theorem oA(cs:List (Int×Int))(a n:Nat):∀m,bH cs a (n+m)=bH cs a n+bH cs (a+n) m
 |0=>rfl
 |m+1=>by
  rw[<-Nat.add_assoc,bH,oA cs a n m,bH,Nat.add_assoc,Nat.add_assoc]
theorem sw{cs:List (Int×Int)}{out:List Int}{li:List cS}{x y b:Nat}{z:Fo}(h1:x<y)(h:aA cs out z y b)(n:Int):av li (Fo.glue x y z) n=av li z (aX (n+(y-x))):=by
 cases z with
 |nil=>rfl
 |br op x' y' u v r=>rfl
 |pl x' y' r=>
  obtain⟨z0,z1,_⟩:=h
  rw[Fo.glue,av,av,iu (by omega)]
  congr 2
  omega
theorem s9{cs:List (Int×Int)}{out:List Int}{li:List cS}{x y b:Nat}{z:Fo}(h1:x<y)(h:aA cs out z y b)(n:Int):aE cs li (Fo.glue x y z) n=aE cs li z (aX (n+(bH cs x (y-x):Nat))):=by
 cases z with
 |nil=>rfl
 |br op x' y' u v r=>rfl
 |pl x' y' r=>
  obtain⟨rfl,z1,_⟩:=h
  rw[Fo.glue,aE,aE,iu (by omega)]
  have e:=oA cs x (x'-x) (y'-x')
  rw[show x'-x+(y'-x')=y'-x by omega,show x+(x'-x)=x' by omega] at e
  rw[e]
  congr 2
  omega
theorem jn{cs:List (Int×Int)}{out:List Int}{li:List cS}:∀{o z:Fo} {a b c:Nat},aA cs out o a b->aA cs out z b c->∀n,av li (o.mapp z) n=av li z (av li o n)
 |.nil,z,a,b,c,h,hz,n=>rfl
 |.pl x y r,z,a,b,c,h,hz,n=>by
  obtain⟨rfl,h1,h2,h3,h4⟩:=h
  rw[Fo.mapp,sw h1 (h4.mapp hz),jn h4 hz,av]
 |.br op x y u v r,z,a,b,c,h,hz,n=>by
  obtain⟨h0,h1,h2,_,h4⟩:=h
  rw[Fo.mapp,av,jn h4 hz,av]
theorem jw{cs:List (Int×Int)}{out:List Int}{li:List cS}:∀{o z:Fo} {a b c:Nat},aA cs out o a b->aA cs out z b c->∀n,aE cs li (o.mapp z) n=aE cs li z (aE cs li o n)
 |.nil,z,a,b,c,h,hz,n=>rfl
 |.pl x y r,z,a,b,c,h,hz,n=>by
  obtain⟨rfl,h1,h2,h3,h4⟩:=h
  rw[Fo.mapp,s9 h1 (h4.mapp hz),jw h4 hz,aE]
 |.br op x y u v r,z,a,b,c,h,hz,n=>by
  obtain⟨h0,h1,h2,_,h4⟩:=h
  rw[Fo.mapp,aE,jw h4 hz,aE]
theorem fE{cs:List (Int×Int)}{out:List Int}{li li0:List cS}{d m:Nat}(hl:∀k:Nat,k<m->aO li ((d+k:Nat):Int)=aO li0 k):∀{o:Fo} {a b:Nat},aA cs out o a b->b<=m->∀n,av li (o.sh d) n=av li0 o n
 |.nil,a,b,h,hb,n=>rfl
 |.pl x y r,a,b,h,hb,n=>by
  obtain⟨rfl,h1,h2,h3,h4⟩:=h
  rw[Fo.sh,av,av,fE hl h4 hb]
  congr 2
  omega
 |.br op x y u v r,a,b,h,hb,n=>by
  obtain⟨rfl,h1,h2,⟨q,g1,g2,g3,g4,g5⟩,h4⟩:=h
  have hv:∀n,av li (v.sh d) n=av li0 v n:=λn=>by
   rcases g5 with⟨q0,e,q1,q2,q3,q4,q5⟩|⟨q0,q1,q2⟩
   ·exact fE hl q4 (by omega) n
   ·rw[q1];rfl
  rw[Fo.sh,av,av,fE hl h4 hb,fE hl g4 (by omega),hv,hl x (by omega)]
theorem fR{cs cs0:List (Int×Int)}{out:List Int}{li li0:List cS}{d m:Nat}(hcs:∀k,k<m->aj cs (d+k)=aj cs0 k)(hl:∀k:Nat,k<m->aO li ((d+k:Nat):Int)=aO li0 k):∀{o:Fo} {a b:Nat},aA cs0 out o a b->b<=m->∀n,aE cs li (o.sh d) n=aE cs0 li0 o n
 |.nil,a,b,h,hb,n=>rfl
 |.pl x y r,a,b,h,hb,n=>by
  obtain⟨rfl,h1,h2,h3,h4⟩:=h
  have hle:=h4.le
  have hN:∀k x,x+k<=m->bH cs (d+x) k=bH cs0 x k:=λk=>by
   induction k with
   |zero=>intro x _;rfl
   |succ k ih=>intro x hx;rw[bH,bH,ih x (by omega),Nat.add_assoc,hcs _ (by omega)]
  rw[Fo.sh,aE,aE,fR hcs hl h4 hb,show d+y-(d+x)=y-x by omega,hN _ _ (by omega)]
 |.br op x y u v r,a,b,h,hb,n=>by
  obtain⟨rfl,h1,h2,⟨q,g1,g2,g3,g4,g5⟩,h4⟩:=h
  have hv:∀n,aE cs li (v.sh d) n=aE cs0 li0 v n:=λn=>by
   rcases g5 with⟨q0,e,q1,q2,q3,q4,q5⟩|⟨q0,q1,q2⟩
   ·exact fR hcs hl q4 (by omega) n
   ·rw[q1];rfl
  rw[Fo.sh,aE,aE,fR hcs hl h4 hb,fR hcs hl g4 (by omega),hv,hl x (by omega)]
theorem gb{li:List cS}(hm:∀a,0<=aO li a):∀(o:Fo) (n k:Int),Au o->0<=n->0<=k->av li o (aX (n+k))=aX (n+av li o k)
 |.nil,n,k,ho,hn,hk=>rfl
 |.pl x y r,n,k,ho,hn,hk=>by
  have:=ho.1
  rw[av,av,<-gb hm r n _ ho.2.2 hn (ay (by omega)).1,iu (by omega),bB hn]
  congr 2
  omega
 |.br op x y u v r,n,k,ho,hn,hk=>by
  have hu:=bK hm u 0 ho.2.1 (by omega)
  have hv:=bK hm v 0 ho.2.2.1 (by omega)
  rw[av,av]
  by_cases e:op=27
  ·rw[if_pos e,if_pos e]
   have hx:0<=(if av li u 0<av li v 0 then av li v 0 else av li u 0):=by split<;>omega
   generalize (if av li u 0<av li v 0 then av li v 0 else av li u 0)=w at hx
   rw[<-gb hm r n _ ho.2.2.2 hn (ay (by omega)).1,Int.add_assoc,iu (by omega),bB hn]
   congr 2
   omega
  ·rw[if_neg e,if_neg e]
   have hx:=(bo (ay (n:=av li u 0+1) (by omega)).1 (hm x)).1
   generalize bc (aX (av li u 0+1)) (aO li x)=w at hx
   rw[<-gb hm r n _ ho.2.2.2 hn (ay (by omega)).1,Int.add_assoc,iu (by omega),bB hn]
   congr 2
   omega
theorem gq{cs:List (Int×Int)}{li:List cS}(hm:∀a,0<=aO li a):∀(o:Fo) (n k:Int),0<=n->0<=k->aE cs li o (aX (n+k))=aX (n+aE cs li o k)
 |.nil,n,k,hn,hk=>rfl
 |.pl x y r,n,k,hn,hk=>by
  rw[aE,aE,<-gq hm r n _ hn (ay (by omega)).1,iu (by omega),bB hn]
  congr 2
  omega
 |.br op x y u v r,n,k,hn,hk=>by
  have hu:=bM (cs:=cs) hm u 0 (by omega)
  have hv:=bM (cs:=cs) hm v 0 (by omega)
  rw[aE,aE]
  by_cases e:op=27
  ·rw[if_pos e,if_pos e]
   have hx:0<=(if aE cs li u 0<aE cs li v 0 then aE cs li v 0 else aE cs li u 0):=by split<;>omega
   generalize (if aE cs li u 0<aE cs li v 0 then aE cs li v 0 else aE cs li u 0)=w at hx
   rw[<-gq hm r n _ hn (ay (by omega)).1,iu hx,bB hn]
   congr 2
   omega
  ·rw[if_neg e,if_neg e]
   have hx:=(bo hu.1 (hm x)).1
   generalize bc (aE cs li u 0) (aO li x)=w at hx
   rw[<-gq hm r n _ hn (ay (by omega)).1,iu hx,bB hn]
   congr 2
   omega
/-! ### the whole-/
theorem xS{cs1 cs2:List (Int×Int)}{o1 o2:Fo}{p1 p2:List Int}(h1:cn cs1= .ok (o1,p1))(h2:cn cs2= .ok (o2,p2)):
  (∃pt,cn (cs1++cs2)= .ok (o1.mapp (o2.sh cs1.length),pt))/\∃out out1 out2,aA cs1 out1 o1 0 cs1.length/\aA cs2 out2 o2 0 cs2.length/\aA (cs1++cs2) out o1 0 cs1.length/\aA (cs1++cs2) out (o2.sh cs1.length) cs1.length (cs1.length+cs2.length):=by
 have s1:=fI cs1
 rw[h1] at s1
 obtain⟨out1,s1,_,g1⟩:=s1
 have s2:=fI cs2
 rw[h2] at s2
 obtain⟨out2,s2,_,g2⟩:=s2
 obtain⟨out,s,k1,k2⟩:=xE s1 s2
 have e1:aA (cs1++cs2) out o1 0 cs1.length:=by
  have:=g1.sh (cs:=cs1++cs2) (out:=out) (d:=0) (λk hk=>by rw[Nat.zero_add];exact iV hk) (λk hk m hm=>by rw[Nat.zero_add,Nat.zero_add,k1 k hk];exact hm) (Nat.le_refl _)
  rwa [Fo.sh_0,Nat.zero_add,Nat.zero_add] at this
 have e2:aA (cs1++cs2) out (o2.sh cs1.length) cs1.length (cs1.length+cs2.length):=
  g2.sh (cs:=cs1++cs2) (out:=out) (d:=cs1.length) (λk hk=>iU cs1 cs2 k) (λk hk m hm=>by rw[k2 k hk,hm,iM]) (Nat.le_refl _)
 refine⟨?_,out,out1,out2,g1,g2,e1,e2⟩
 have s3:=fI (cs1++cs2)
 cases hr:cn (cs1++cs2) with
 |error x=>rw[hr] at s3;rw[s3] at s;cases s
 |ok q=>
  obtain⟨o,pt⟩:=q
  rw[hr] at s3
  obtain⟨out',s',_,g⟩:=s3
  rw[s] at s'
  cases s'
  rw[List.length_append] at g
  rw[g.uniq (e1.mapp e2)]
  exact⟨pt,rfl⟩
theorem lr:∀{l m:List (Int×Int)},bF l=0->bF m=0->bF (l++m)=0
 |[],m,_,h=>h
 |x::l,m,h,hm=>by
  simp only[bF] at h
  rw[List.cons_append,bF]
  split at h
  ·rename_i h0
   rw[if_pos h0]
   exact lr h hm
  ·rename_i h0
   exact absurd h h0
theorem rN{la:List (Bool×Int)}{loc:Int}:∀{cs:List (Int×Int)} {k:Nat},(∀i ∈ cs,¬gz la loc i)->(iE la loc cs k).2=0
 |[],_,_=>rfl
 |x::l,k,h=>by
  rw[iE,if_neg (h x (List.mem_cons_self ..))]
  exact rN λi hi=>h i (List.mem_cons_of_mem _ hi)
theorem CA{la:List (Bool×Int)}{loc:Int}{cs1 cs2:List (Int×Int)}(ha1:bV cs1)(ha2:bV cs2)(h1:(cC la loc cs1).2=0)(h2:(cC la loc cs2).2=0)(hlen:cs1.length+cs2.length<=1024):
  (cC la loc (cs1++cs2)).2=0/\(aw (cs1++cs2)).1=(aw cs1).1.mapp ((aw cs2).1.sh cs1.length)/\∃out out1 out2,aA cs1 out1 (aw cs1).1 0 cs1.length/\aA cs2 out2 (aw cs2).1 0 cs2.length/\aA (cs1++cs2) out (aw cs1).1 0 cs1.length/\aA (cs1++cs2) out ((aw cs2).1.sh cs1.length) cs1.length (cs1.length+cs2.length):=by
 obtain⟨_,_,_,_,o1,p1,r1,e1⟩:=kL ha1 h1
 obtain⟨_,_,_,_,o2,p2,r2,e2⟩:=kL ha2 h2
 obtain⟨⟨pt,hr⟩,hg⟩:=xS r1 r2
 rw[<-e1,<-e2] at hg hr
 have hL:¬1024<(cs1++cs2).length:=by rw[List.length_append];omega
 have hpF:aw (cs1++cs2)=((aw cs1).1.mapp ((aw cs2).1.sh cs1.length),0,0):=by
  rw[aw,if_neg hL,hr]
 have f:∀{cs:List (Int×Int)},(cC la loc cs).2=0->cR la=0/\¬(loc<0\/16<loc)/\bF cs=0/\∀i ∈ cs,¬gz la loc i:=λ{cs} h=>by
  obtain⟨hp,hl⟩:=iy h
  unfold cC at h
  split at h
  rotate_left
  ·rename_i h0;exact absurd h h0
  rename_i hf
  try rw[if_pos hp] at h
  unfold bb at hf
  split at hf
  rotate_left
  ·rename_i h0;exact absurd hf h0
  rename_i ha
  split at hf
  ·exact absurd hf (by decide)
  rename_i hlo
  rw[if_neg (by omega)] at hf
  exact⟨ha,hlo,hf,ny h⟩
 obtain⟨a1,a2,a3,a4⟩:=f h1
 obtain⟨_,_,b3,b4⟩:=f h2
 refine⟨?_,by rw[hpF],hg⟩
 unfold cC bb
 rw[if_pos a1,if_neg a2,if_neg hL,lr a3 b3,if_pos rfl,hpF]
 dsimp only
 rw[if_pos rfl]
 exact rN λi hi=>by
  rcases List.mem_append.1 hi with hi|hi
  ·exact a4 i hi
  ·exact b4 i hi
theorem lg(cs1 cs2:List (Int×Int)):∀k,aY (cs1++cs2) (cs1.length+k)=aY (cs1++cs2) cs1.length++(aY cs2 k).map (· +(cs1.length:Int))
 |0=>by simp[aY]
 |k+1=>by
  rw[<-Nat.add_assoc,aY,lg cs1 cs2 k,aY,iU]
  split
  ·rw[List.map_append,List.append_assoc]
   congr 2
   simp only[List.map_cons,List.map_nil]
   congr 1
   omega
  ·rfl
theorem jW(cs1 cs2:List (Int×Int)):∀k,k<=cs1.length->aY (cs1++cs2) k=aY cs1 k
 |0,_=>rfl
 |k+1,h=>by rw[aY,aY,jW cs1 cs2 k (by omega),iV (by omega)]
theorem mG{l':List cS}{a:Int}(h:a ∉ (l'.map λx=>x.1)):∀l:List cS,aO (l++l') a=aO l a
 |[]=>mE h
 |x::l=>by
  rw[List.cons_append,aO,aO,mG h l]
theorem mF{l':List cS}{a:Int}:∀l:List cS,a ∉ (l.map λx=>x.1)->aO (l++l') a=aO l' a
 |[],_=>rfl
 |x::l,h=>by
  rw[List.map_cons,List.mem_cons,not_or] at h
  rw[List.cons_append,aO,if_neg (λe=>h.1 e.symm),mF l h.2]
def fx(d:Nat)(cs:List (Int×Int))(S:WS):List cS:=(bE S.lp cs.length).map λx=>(x.1+d,x.2,.ow)
theorem qN(d:Nat)(a:Int):∀l:List (Int×Int),aO (l.map λx=>((x.1+d,x.2,.ow):cS)) (a+d)=aO (l.map λx=>((x.1,x.2,.ow):cS)) a
 |[]=>rfl
 |x::l=>by
  rw[List.map_cons,List.map_cons,aO,aO,qN d a l]
  dsimp only
  by_cases e:x.1=a
  ·rw[if_pos e,if_pos (by omega)]
  ·rw[if_neg e,if_neg (by omega)]
theorem wS{la:List (Bool×Int)}{loc:Int}{cs1 cs2:List (Int×Int)}{S1 S2:WS}{b1 b2:Bd}(ha1:bV cs1)(ha2:bV cs2)(h1:dy la loc cs1=some (.ok (S1,b1)))(h2:dy la loc cs2=some (.ok (S2,b2)))(hlen:cs1.length+cs2.length<=1024):
  dq la loc (cs1++cs2) (bZ cs1 S1++fx cs1.length cs2 S2)=0/\av (bZ cs1 S1++fx cs1.length cs2 S2) (aw (cs1++cs2)).1 0=aX (b1.1+b2.1)/\aE (cs1++cs2) (bZ cs1 S1++fx cs1.length cs2 S2) (aw (cs1++cs2)).1 0=aX (b1.2+b2.2):=by
 obtain⟨c1,o1,s1,m1,n1,k1⟩:=dG ha1 h1
 obtain⟨c2,o2,s2,m2,n2,k2⟩:=dG ha2 h2
 obtain⟨hchk,hp,out,out1,out2,g1,g2,e1,e2⟩:=CA ha1 ha2 c1 c2 hlen
 have q1:lC (bR cs1) (bZ cs1 S1)=0:=(if_pos c1).symm.trans o1
 have q2:lC (bR cs2) (bZ cs2 S2)=0:=(if_pos c2).symm.trans o2
 obtain⟨u1,u2,u3⟩:=pc q1
 obtain⟨w1,w2,w3⟩:=pc q2
 have hlp:bR (cs1++cs2)=bR cs1++(bR cs2).map (· +(cs1.length:Int)):=by
  unfold bR
  rw[if_pos (iy hchk).1,if_pos (iy c1).1,if_pos (iy c2).1,List.length_append,lg,jW _ _ _ (Nat.le_refl _)]
 have hkey:(fx cs1.length cs2 S2).map (λx=>x.1)=(bR cs2).map (· +(cs1.length:Int)):=by
  rw[<-w2]
  unfold fx bZ
  rw[List.map_map,List.map_map,List.map_map];rfl
 have hmap:(bZ cs1 S1++fx cs1.length cs2 S2).map (λx=>x.1)=bR (cs1++cs2):=by
  rw[List.map_append,u2,hkey,hlp]
 have hin:CS (bZ cs1 S1++fx cs1.length cs2 S2):=λx hx=>by
  rcases List.mem_append.1 hx with hx|hx
  ·exact u3 x hx
  ·obtain⟨z,hz,rfl⟩:=List.mem_map.1 hx
   exact w3 (z.1,z.2,.ow) (List.mem_map.2 ⟨z,hz,rfl⟩)
 have hO:dq la loc (cs1++cs2) (bZ cs1 S1++fx cs1.length cs2 S2)=0:=by
  unfold dq
  rw[if_pos hchk]
  unfold lC
  rw[if_pos ⟨by rw[<-hmap,List.length_map],hmap⟩,if_pos hin]
 have hl1:∀k:Nat,k<cs1.length->aO (bZ cs1 S1++fx cs1.length cs2 S2) ((0+k:Nat):Int)=aO (bZ cs1 S1) k:=λk hk=>by
  rw[Nat.zero_add]
  refine mG (λhx=>?_) _
  obtain⟨y,hy,hy2⟩:=List.mem_map.1 hx
  obtain⟨z,hz,rfl⟩:=List.mem_map.1 hy
  obtain⟨q,_,q3,_⟩:=eN hz
  have:z.1+(cs1.length:Int)=k:=hy2
  omega
 have hl2:∀k:Nat,k<cs2.length->aO (bZ cs1 S1++fx cs1.length cs2 S2) ((cs1.length+k:Nat):Int)=aO (bZ cs2 S2) k:=λk hk=>by
  rw[mF]
  ·have:=qN cs1.length (k:Int) (bE S2.lp cs2.length)
   rw[show(k:Int)+(cs1.length:Nat)=((cs1.length+k:Nat):Int) by omega] at this
   exact this
  ·intro hx
   obtain⟨y,hy,hy2⟩:=List.mem_map.1 hx
   obtain⟨z,hz,rfl⟩:=List.mem_map.1 hy
   obtain⟨q,q4,q3,_⟩:=eN hz
   have:z.1=((cs1.length+k:Nat):Int):=hy2
   omega
 have hm:=λa=>(ig w3 a).1
 refine⟨hO,?_,?_⟩
 ·have t1:=fE (d:=0) hl1 g1 (Nat.le_refl _) 0
  rw[Fo.sh_0,s1] at t1
  rw[hp,jn e1 e2,t1,fE hl2 g2 (Nat.le_refl _)]
  have:=gb hm (aw cs2).1 b1.1 0 (g2.okf (by omega)) (by omega) (by omega)
  rw[Int.add_zero,gp (by omega),s2] at this
  exact this
 ·have t1:=fR (cs:=cs1++cs2) (d:=0) (λk hk=>by rw[Nat.zero_add];exact iV hk) hl1 g1 (Nat.le_refl _) 0
  rw[Fo.sh_0,m1] at t1
  rw[hp,jw e1 e2,t1,fR (λk _=>iU cs1 cs2 k) hl2 g2 (Nat.le_refl _)]
  have:=gq (cs:=cs2) hm (aw cs2).1 b1.2 0 (by omega) (by omega)
  rw[Int.add_zero,gp (by omega),m2] at this
  exact this
theorem C6(cs:List (Int×Int))(i j:Nat):(pI cs i j).cell=true:=by unfold pI;split<;>rfl
theorem y9{l m:List (Int×Int)}{i:Nat}(h:i<l.length)(j:Nat):fg l i j=fg (l++m) i j:=by
 simp only[fg,List.getD_eq_getElem?_getD,List.getElem?_append_left h]
theorem ou{l m:List (Int×Int)}(k:Nat):(l++m).getD (l.length+k) (0,0)=m.getD k (0,0):=by
 rw[List.getD_eq_getElem?_getD,List.getD_eq_getElem?_getD,List.getElem?_append_right (by omega),Nat.add_sub_cancel_left]
theorem Vs(l:List (Int×Int))(i j:Nat):fg l i j=vI (l.map λx=>((x.1,x.2,.ow):cS)) i j:=by
 have e:(l.map λx=>((x.1,x.2,.ow):cS)).getD i lI=((l.getD i (0,0)).1,(l.getD i (0,0)).2,AV.ow):=by
  rw[List.getD_eq_getElem?_getD,List.getD_eq_getElem?_getD,List.getElem?_map]
  cases l[i]? <;>rfl
 unfold vI fg
 rw[e]
def Vx(d:Nat)(l:List (Int×Int)):List (Int×Int):=l.map λx=>(x.1+d,x.2)
theorem Bn(d:Nat)(l:List (Int×Int)):(Vx d l).length=l.length:=List.length_map ..
theorem Bo(d:Nat){l:List (Int×Int)}{k:Nat}(h:k<l.length):(Vx d l).getD k (0,0)=((l.getD k (0,0)).1+d,(l.getD k (0,0)).2):=by
 unfold Vx
 rw[List.getD_eq_getElem?_getD,List.getD_eq_getElem?_getD,List.getElem?_map,List.getElem?_eq_getElem h];rfl
theorem pP(la:List (Bool×Int))(loc:Int)(cs cs2:List (Int×Int))(hl:la.length<=9223372036854775807)(hc:cs.length<=9223372036854775807)(ha:bV cs)(hc2:cs2.length<=9223372036854775807)(ha2:bV cs2):bN Tryz.prog 6 [aJ la loc cs,.fs 2 cs2.length (pI cs2)] [.v (.b true)]:=by
 refine ag aF Hi ⟨by simp,by decide⟩ ?_
 simp only[aH,aJ]
 repeat first|with_reducible refine ao ?_|simp only[go_sem,simprocAttr]
 refine bO ([aJ la loc cs]) (uB la loc cs) ?_
 cases hF:kI la cs
 ·repeat first|with_reducible refine ao ?_|simp only[hF,go_sem,simprocAttr]
  refine bO ([]) gy ?_
  repeat first|with_reducible refine ao ?_|simp only[go_sem,simprocAttr]
  exact aa rfl rfl
 repeat first|with_reducible refine ao ?_|simp only[hF,go_sem,simprocAttr]
 refine bO ([aJ la loc cs2]) (uB la loc cs2) ?_
 cases hF2:kI la cs2
 ·repeat first|with_reducible refine ao ?_|simp only[hF2,go_sem,simprocAttr]
  refine bO ([]) gy ?_
  repeat first|with_reducible refine ao ?_|simp only[go_sem,simprocAttr]
  exact aa rfl rfl
 repeat first|with_reducible refine ao ?_|simp only[hF2,go_sem,simprocAttr]
 have hn1:cs.length<=200:=by
  unfold kI at hF
  simp only[Bool.and_eq_true,decide_eq_true_eq] at hF
  exact hF.1.1.2
 have hn2:cs2.length<=200:=by
  unfold kI at hF2
  simp only[Bool.and_eq_true,decide_eq_true_eq] at hF2
  exact hF2.1.1.2
 have a1:(cs.length+cs2.length)*2<1099511627776:=by omega
 have a2:(cs.length+cs2.length)*16<=140737488355328:=by omega
 have a3:cs.length+cs2.length<=9223372036854775807:=by omega
 have hcl:=tk (n:=cs.length) (row:=pI cs) (by omega) (λi j _ hj=>C6 cs i j)
 cases hv:dy la loc cs with
 |none=>exact absurd hv (jk ha)
 |some R=>
  cases hv2:dy la loc cs2 with
  |none=>exact absurd hv2 (jk ha2)
  |some R2=>
   cases R with
   |error e=>
    have he:=lY hv
    refine bO ([aJ la loc cs]) (fZ la loc cs hl hc ha hv) ?_
    repeat first|with_reducible refine ao ?_|simp only[ne_eq,not_true_eq_false,not_false_eq_true,decide_true,decide_false,Bool.not_true,Bool.not_false,go_sem,simprocAttr]
    cases R2 with
    |error e2=>
     refine bO ([aJ la loc cs2]) (fZ la loc cs2 hl hc2 ha2 hv2) ?_
     repeat first|with_reducible refine ao ?_|simp only[ne_eq,not_true_eq_false,not_false_eq_true,decide_true,decide_false,Bool.not_true,Bool.not_false,go_sem,simprocAttr]
     refine bO ([.fs 2 cs.length (pI cs)]) hcl ?_
     repeat first|with_reducible refine ao ?_|simp only[he,a1,a2,a3,Nat.le_refl,ne_eq,not_true_eq_false,not_false_eq_true,decide_true,decide_false,Bool.not_true,Bool.not_false,go_sem,simprocAttr]
     refine bO ([]) gy ?_
     repeat first|with_reducible refine ao ?_|simp only[go_sem,simprocAttr]
     exact aa rfl rfl
    |ok q2=>
     obtain⟨S2,b2⟩:=q2
     refine bO ([aJ la loc cs2]) (dE la loc cs2 hl hc2 ha2 hv2) ?_
     simp only[mB]
     repeat first|with_reducible refine ao ?_|simp only[ne_eq,not_true_eq_false,not_false_eq_true,decide_true,decide_false,Bool.not_true,Bool.not_false,go_sem,simprocAttr]
     refine bO ([.fs 2 cs.length (pI cs)]) hcl ?_
     repeat first|with_reducible refine ao ?_|simp only[he,a1,a2,a3,Nat.le_refl,ne_eq,not_true_eq_false,not_false_eq_true,decide_true,decide_false,Bool.not_true,Bool.not_false,go_sem,simprocAttr]
     refine bO ([]) gy ?_
     repeat first|with_reducible refine ao ?_|simp only[go_sem,simprocAttr]
     exact aa rfl rfl
   |ok q=>
    obtain⟨S,b⟩:=q
    cases R2 with
    |error e2=>
     have he2:=lY hv2
     refine bO ([aJ la loc cs]) (dE la loc cs hl hc ha hv) ?_
     simp only[mB]
     repeat first|with_reducible refine ao ?_|simp only[ne_eq,not_true_eq_false,not_false_eq_true,decide_true,decide_false,Bool.not_true,Bool.not_false,go_sem,simprocAttr]
     refine bO ([aJ la loc cs2]) (fZ la loc cs2 hl hc2 ha2 hv2) ?_
     repeat first|with_reducible refine ao ?_|simp only[ne_eq,not_true_eq_false,not_false_eq_true,decide_true,decide_false,Bool.not_true,Bool.not_false,go_sem,simprocAttr]
     refine bO ([.fs 2 cs.length (pI cs)]) hcl ?_
     repeat first|with_reducible refine ao ?_|simp only[he2,a1,a2,a3,Nat.le_refl,ne_eq,not_true_eq_false,not_false_eq_true,decide_true,decide_false,Bool.not_true,Bool.not_false,go_sem,simprocAttr]
     refine bO ([]) gy ?_
     repeat first|with_reducible refine ao ?_|simp only[go_sem,simprocAttr]
     exact aa rfl rfl
    |ok q2=>
     obtain⟨S2,b2⟩:=q2
     obtain⟨h0,hO,hs,he,hb1,hb2⟩:=dG ha hv
     have hvv2:=hv2
     obtain⟨h02,hO2,hs2,he2,hb12,hb22⟩:=dG ha2 hv2
     obtain⟨l,hlE⟩:∃l,l=bE S.lp cs.length:=⟨_,rfl⟩
     obtain⟨l2,hlE2⟩:∃l,l=bE S2.lp cs2.length:=⟨_,rfl⟩
     have hlen:l.length<=200:=by
      have:=jZ S.lp cs.length
      rw[hlE]
      omega
     have hlen2:l2.length<=200:=by
      have:=jZ S2.lp cs2.length
      rw[hlE2]
      omega
     refine bO ([aJ la loc cs]) (dE la loc cs hl hc ha hv) ?_
     simp only[mB,<-hlE]
     repeat first|with_reducible refine ao ?_|simp only[ne_eq,not_true_eq_false,not_false_eq_true,decide_true,decide_false,Bool.not_true,Bool.not_false,go_sem,simprocAttr]
     refine bO ([aJ la loc cs2]) (dE la loc cs2 hl hc2 ha2 hv2) ?_
     simp only[mB,<-hlE2]
     repeat first|with_reducible refine ao ?_|simp only[ne_eq,not_true_eq_false,not_false_eq_true,decide_true,decide_false,Bool.not_true,Bool.not_false,go_sem,simprocAttr]
     refine bO ([.fs 2 cs.length (pI cs)]) hcl ?_
     by_cases h1024:1024<cs.length+cs2.length
     ·omega
     have h1024':¬(1024:Int)<((cs.length+cs2.length:Nat):Int):=by omega
     repeat first|with_reducible refine ao ?_|simp only[h1024',gt_iff_lt,a1,a2,a3,Nat.le_refl,ne_eq,not_true_eq_false,not_false_eq_true,decide_true,decide_false,Bool.not_true,Bool.not_false,go_sem,simprocAttr]
     refine aR [2] (fargs:=[.fs 3 l.length (fg l)]) (.cons (.os (x:=ai 48 3 l.length 0 (fg l)) (by simp) (by simp only[go_sem,simprocAttr]) (Nat.le_refl _) (λi j _ hj=>aK i j hj) (λi j _ _=>eM l i j)) .nil) (tj (by omega) (λi j _ _=>eM l i j)) ?_ ?_
     ·simp only[go_sem,simprocAttr]
     obtain⟨LL,hLL⟩:∃LL,LL=l++Vx cs.length l2:=⟨_,rfl⟩
     have hLlen:LL.length=l.length+l2.length:=by rw[hLL,List.length_append,Bn]
     have hwg:∀i j,i<cs.length+cs2.length->j<2->((ai 54 2 cs.length 0 (pI cs)).app (cs.length*2) (dg.fn (cs2.length*2) λi=>pI cs2 (i / 2) (i%2))).get (i*2+j)=pI (cs++cs2) i j:=λi j hi hj=>by
      rw[jB hj hi (by omega)]
      by_cases e:cs.length<=i
      ·rw[if_pos e]
       obtain⟨q,rfl⟩:∃q,i=cs.length+q:=⟨i-cs.length,by omega⟩
       rw[Nat.add_sub_cancel_left]
       unfold pI
       rw[ou]
      ·rw[if_neg e,aK i j hj]
       unfold pI
       rw[List.getD_eq_getElem?_getD,List.getD_eq_getElem?_getD,List.getElem?_append_left (by omega)]
     repeat first|with_reducible refine ao ?_|simp only[ne_eq,not_true_eq_false,not_false_eq_true,decide_true,decide_false,Bool.not_true,Bool.not_false,go_sem,simprocAttr]
     refine GA.loop (I:=λm ev H=>∃(k:Nat),m=l2.length-k/\k<=l2.length/\
       ev=aB [(2,.p 0 0),(6,.p 1 0),(9,.p 2 0),(12,.p 3 0),(13,.p 4 0),(69,.fs 3 l2.length (fg l2)),(70,.n .i64 l2.length),(71,.n .i64 k)]/\
       H=ah [ai 48 3 (l.length+k) 0 (fg LL),ae 0 38 [.n .i64 0,.n .i64 0,.n .i64 0,.os 5 (l.length+k)],ae 0 25 [.fs 2 la.length (pA la),.n .i64 loc,.fs 2 (cs.length+cs2.length) (pI (cs++cs2))],ae 0 38 [.n .i64 b2.1,.n .i64 b2.2,.n .i64 S2.ht,.fs 3 l2.length (fg l2)],ae 0 38 [.n .i64 b.1,.n .i64 b.2,.n .i64 S.ht,.fs 3 l.length (fg l)],ae 0 25 [.fs 2 la.length (pA la),.n .i64 loc,.fs 2 cs.length (pI cs)]])
      (Wk.mk [9,10,6,5,3,0] [2,4,8] ?_ ?_ ?_) ⟨0,rfl,Nat.zero_le _,rfl,rfl⟩ ?_
     ·simp only[d9,cM,go_sem,simprocAttr]
      repeat' refine a7 ?_ ?_
      all_goals first|exact iI|skip
      exact .cv (.os (x:=ai 48 3 l2.length 0 (fg l2)) (by simp) (by simp only[go_sem,simprocAttr]<;>rfl) (Nat.le_refl _) (λi j _ hj=>aK i j hj) (λi j _ _=>eM l2 i j))
     ·refine .cr (.same (by simp only[go_sem,simprocAttr]<;>rfl) rfl (by decide) (λi j hi _=>by rw[hLL];exact y9 hi j) (λi j _ _=>ju _ i j)) (.cr (.j4) (.cr (.lstj (x:=_) (by simp only[go_sem,simprocAttr]<;>rfl) (by rfl) (by rfl) (by rfl) (by rfl) (by rfl) (by rfl) (by simp) (λi hi=>by
        rcases sN hi with rfl|rfl|rfl
        ·simp only[go_sem,simprocAttr];exact Wv.same rfl
        ·simp only[go_sem,simprocAttr];exact Wv.same rfl
        ·simp only[go_sem,simprocAttr]
         exact .cv (.os (x:=(ai 54 2 cs.length 0 (pI cs)).app (cs.length*2) (dg.fn (cs2.length*2) λi=>pI cs2 (i / 2) (i%2))) (by simp) (by simp only[go_sem,simprocAttr]<;>rfl) (by rw[AB.app_size];simp only[dg.len];omega) hwg (λi j _ _=>C6 _ i j)))) (.cr (.lstj (x:=_) (by simp only[go_sem,simprocAttr]<;>rfl) (by rfl) (by rfl) (by rfl) (by rfl) (by rfl) (by rfl) (by simp) (λi hi=>by
        rcases V9 hi with rfl|rfl|rfl|rfl
        ·simp only[go_sem,simprocAttr];exact Wv.same rfl
        ·simp only[go_sem,simprocAttr];exact Wv.same rfl
        ·simp only[go_sem,simprocAttr];exact Wv.same rfl
        ·simp only[go_sem,simprocAttr]
         exact .cv (.os (x:=ai 48 3 l2.length 0 (fg l2)) (by simp) (by simp only[go_sem,simprocAttr]<;>rfl) (Nat.le_refl _) (λi j _ hj=>show(ai 48 3 l2.length 0 (fg l2)).get (i*3+j)=_ from aK i j hj) (λi j _ _=>eM l2 i j)))) (.cr (.lstj (x:=_) (by simp only[go_sem,simprocAttr]<;>rfl) (by rfl) (by rfl) (by rfl) (by rfl) (by rfl) (by rfl) (by simp) (λi hi=>by
        rcases V9 hi with rfl|rfl|rfl|rfl
        ·simp only[go_sem,simprocAttr];exact Wv.same rfl
        ·simp only[go_sem,simprocAttr];exact Wv.same rfl
        ·simp only[go_sem,simprocAttr];exact Wv.same rfl
        ·simp only[go_sem,simprocAttr]
         exact .cv (.os (x:=(ai 48 3 l.length 0 (fg l)).fr) (by simp) (by simp only[go_sem,simprocAttr]<;>rfl) (Nat.le_refl _) (λi j _ hj=>show(ai 48 3 l.length 0 (fg l)).get (i*3+j)=_ from aK i j hj) (λi j _ _=>eM l i j)))) (.cr (.j3) .nil)))))
     ·simp
     rintro m ev H ⟨k,rfl,hk,rfl,rfl⟩
     have hk0:(0:Int)<=(k:Int):=by omega
     by_cases hkl:k<l2.length
     ·have hk1:(k:Int)<l2.length:=by omega
      have wk:IntKind.i64.wrap ((k:Int)+1)=((k+1:Nat):Int):=(am (by omega)).trans (by omega)
      obtain⟨q,hq1,hq2,_⟩:=eN (lp:=S2.lp) (k:=cs2.length) (x:=l2.getD k (0,0)) (by rw[<-hlE2,List.getD_eq_getElem?_getD,List.getElem?_eq_getElem hkl];exact List.getElem_mem hkl)
      have wa:IntKind.i64.wrap ((l2.getD k (0,0)).1+(cs.length:Int))=(l2.getD k (0,0)).1+cs.length:=am (by omega)
      have hv0:fg l2 k 0= .n .i64 (l2.getD k (0,0)).1:=rfl
      have hv1:fg l2 k 1= .n .i64 (l2.getD k (0,0)).2:=rfl
      have hv2:fg l2 k 2= .ow:=rfl
      have hap:((l.length+k+1)*3<1099511627776/\(l.length+k+1)*40<=140737488355328)/\l.length+k<=9223372036854775806:=⟨⟨by omega,by omega⟩,by omega⟩
      repeat first|with_reducible refine ao ?_|simp only[hk0,hk1,hv0,hv1,hv2,wk,wa,hap,nr,sG,ne_eq,not_true_eq_false,not_false_eq_true,decide_true,decide_false,Bool.not_true,Bool.not_false,go_sem,simprocAttr]
      have hLk:LL.getD (l.length+k) (0,0)=((l2.getD k (0,0)).1+cs.length,(l2.getD k (0,0)).2):=by rw[hLL,ou,Bo _ hkl]
      refine⟨_,_,_,?_,Wk.mk [8,4,3,2,1,0] [] ?_ ?_ ?_,k+1,rfl,by omega,rfl,rfl⟩
      ·omega
      ·exact ba
      ·exact .cr (.snoc (n:=l.length+k) (row:=fg LL) (l:=[.n .i64 ((l2.getD k (0,0)).1+cs.length),.n .i64 (l2.getD k (0,0)).2,.ow]) (by simp only[go_sem,simprocAttr]<;>rfl) (by simp) rfl rfl (by decide) (by omega) (λi j _ _=>rfl) (λj hj=>by rcases sN hj with rfl|rfl|rfl<;>simp only[fg,hLk]<;>rfl) (λi j _ _=>ju _ i j)) (.cr (.j4) (.cr (.j3) (.cr (.j4) (.cr (.j4) (.cr (.j3) .nil)))))
      ·simp
     have hk':¬(k:Int)<l2.length:=by omega
     obtain rfl:k=l2.length:=by omega
     repeat first|with_reducible refine ao ?_|simp only[hk',decide_false,go_sem,simprocAttr]
     have hLI:bZ cs S++fx cs.length cs2 S2=LL.map λx=>((x.1,x.2,.ow):cS):=by
      rw[hLL,List.map_append,hlE,hlE2]
      unfold bZ fx Vx
      rw[List.map_map];rfl
     have hrn:l.length+l2.length=(bZ cs S++fx cs.length cs2 S2).length:=by rw[hLI,List.length_map,hLlen]
     have hrw:∀i j,i<l.length+l2.length->j<3->fg LL i j=vI (bZ cs S++fx cs.length cs2 S2) i j:=λi j _ _=>by rw[hLI];exact Vs LL i j
     have hrL:tH (bZ cs S++fx cs.length cs2 S2):=λx hx=>by
      rw[hLI] at hx
      obtain⟨y,_,rfl⟩:=List.mem_map.1 hx
      exact .inl rfl
     have haA:bV (cs++cs2):=λx hx=>by
      rcases List.mem_append.1 hx with hx|hx
      ·exact ha x hx
      ·exact ha2 x hx
     obtain⟨f1,f2,f3⟩:=wS ha ha2 hv hvv2 (by omega)
     have hS:=jy la loc (cs++cs2) hl (by rw[List.length_append];omega) haA 0 0 0 (bZ cs S++fx cs.length cs2 S2) (by omega) hrL
     have hE:=tq la loc (cs++cs2) hl (by rw[List.length_append];omega) haA 0 0 0 (bZ cs S++fx cs.length cs2 S2) (by omega) hrL
     rw[show gc la loc (cs++cs2) (bZ cs S++fx cs.length cs2 S2)=jz (aX (b.1+b2.1)) by unfold gc;rw[if_pos f1,f2]] at hS
     rw[show kJ la loc (cs++cs2) (bZ cs S++fx cs.length cs2 S2)=jz (aX (b.2+b2.2)) by unfold kJ;rw[if_pos f1,f3]] at hE
     unfold aJ at hS hE
     rw[List.length_append] at hS hE
     refine aR [5] (fargs:=[.agg [.fs 2 la.length (pA la),.n .i64 loc,.fs 2 (cs.length+cs2.length) (pI (cs++cs2))],jN 0 0 0 (bZ cs S++fx cs.length cs2 S2)]) (.cons (.rfl rfl) (.cons (mA (n:=l.length+l2.length) (z:=0) (row:=fg LL) (x:=ai 48 3 (l.length+l2.length) 0 (fg LL)) hrn hrw hrL (by simp) (by simp only[go_sem,simprocAttr]<;>rfl) rfl rfl) .nil)) hS ?_ ?_
     ·simp only[go_sem,simprocAttr]
     repeat first|with_reducible refine ao ?_|simp only[go_sem,simprocAttr]
     refine aR [5] (fargs:=[.agg [.fs 2 la.length (pA la),.n .i64 loc,.fs 2 (cs.length+cs2.length) (pI (cs++cs2))],jN 0 0 0 (bZ cs S++fx cs.length cs2 S2)]) (.cons (.rfl rfl) (.cons (mA (n:=l.length+l2.length) (z:=0) (row:=fg LL) (x:=(ai 48 3 (l.length+l2.length) 0 (fg LL)).fr) hrn hrw hrL (by simp) (by simp only[go_sem,simprocAttr]<;>rfl) rfl rfl) .nil)) hE ?_ ?_
     ·simp only[go_sem,simprocAttr]
     have w1:IntKind.i64.wrap (b.1+b2.1)=b.1+b2.1:=am (by omega)
     have w2:IntKind.i64.wrap (b.2+b2.2)=b.2+b2.2:=am (by omega)
     by_cases hbig:281474976710656<b.1+b2.1
     ·rw[show jz (aX (b.1+b2.1))=(0,18) from if_pos (by unfold aX;split<;>omega)]
      repeat first|with_reducible refine ao ?_|simp only[w1,hbig,gt_iff_lt,ne_eq,not_true_eq_false,not_false_eq_true,decide_true,decide_false,Bool.not_true,Bool.not_false,go_sem,simprocAttr]
      refine bO ([]) gy ?_
      repeat first|with_reducible refine ao ?_|simp only[go_sem,simprocAttr]
      exact aa rfl rfl
     ·rw[show jz (aX (b.1+b2.1))=(b.1+b2.1,0) by rw[gp (by omega)];exact if_neg (by omega),show jz (aX (b.2+b2.2))=(b.2+b2.2,0) by rw[gp (by omega)];exact if_neg (by omega)]
      repeat first|with_reducible refine ao ?_|simp only[w1,w2,hbig,gt_iff_lt,ne_eq,not_true_eq_false,not_false_eq_true,decide_true,decide_false,Bool.not_true,Bool.not_false,go_sem,simprocAttr]
      refine bO ([]) gy ?_
      repeat first|with_reducible refine ao ?_|simp only[go_sem,simprocAttr]
      exact aa rfl rfl
end Go.Proofs.YtdpkgnmmikebdaaGreat