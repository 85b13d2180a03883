/- A part of the proof of CostGrows: CrC CrH CrI CrE. No condition. -/
import Derived.Test.YtdpkgnmmikebdaaGreatGf31
import Derived.Test.YtdpkgnmmikebdaaGreatGf22
import Derived.Test.YtdpkgnmmikebdaaGreatGf20
import Derived.Test.YtdpkgnmmikebdaaGreatGf16
set_option linter.unusedSimpArgs false
set_option linter.unusedVariables false
set_option linter.constructorNameAsVariable false
set_option maxRecDepth 100000
set_option maxHeartbeats 4000000
namespace Go.Proofs.YtdpkgnmmikebdaaGreat
open Go.RowKit
theorem qp{la:List (Bool×Int)}{n:Nat}{cs:List (Int×Int)}(ha:cF cs):eB la n cs≠none:=by
 unfold eB
 split
 ·rename_i h0
  obtain⟨m,hm,hn,hK,o,pt,hr,hpo⟩:=pX ha h0
  obtain rfl:n=m:=by omega
  rw[hpo]
  exact nS hn hK hr
 ·simp
theorem Bl{la:List (Bool×Int)}{n:Nat}{cs:List (Int×Int)}{e:Er}(h:eB la n cs=some (.error e)):e.2≠0:=by
 unfold eB at h
 split at h
 ·exact tP h
 ·rename_i h0;cases h;exact h0
section
variable (la:List (Bool×Int)) (n:Nat) (cs:List (Int×Int)) (hl:la.length<=9223372036854775807) (hc:cs.length<=9223372036854775807) (ha:cF cs)
include hl hc ha
theorem qq{S:WS}{b:Bd}(h:eB la n cs=some (.ok (S,b))):bM Tryz.prog 12 [aH la n cs] [.a (qF cs S b),.v (.n .i64 0),.v (.n .i64 0)]:=by
 refine j9 ((nR la n cs hl hc ha).mono (λv H q=>?_) (λc H q=>q))
 rcases q with⟨S',b',h',k,rfl,hk⟩|⟨e,h',_⟩
 ·rw[h] at h'
  cases h'
  exact⟨[_,_,_],rfl,⟨(by show 4<=8;decide),_,rfl,⟨rfl,rfl⟩,⟨rfl,rfl⟩,⟨rfl,rfl⟩,.inr ⟨k,rfl,by simp[sy],_,hk,rfl,rfl,by decide,rfl,Nat.le_refl _,Nat.le_refl _,λi j hi hj=>aJ i j hj,λi j _ _=>iy _ i j⟩,trivial⟩,rfl,⟨rfl,rfl⟩,⟨rfl,rfl⟩,trivial⟩
 ·rw[h] at h'
  cases h'
theorem qr{e:Er}(h:eB la n cs=some (.error e)):bM Tryz.prog 12 [aH la n cs] [.v (.agg [.n .i64 0,.n .i64 0,.n .i64 0,.sl0]),.v (.n .i64 e.1),.v (.n .i64 e.2)]:=by
 refine j9 ((nR la n cs hl hc ha).mono (λv H q=>?_) (λc H q=>q))
 rcases q with⟨S',b',h',k,rfl,hk⟩|⟨e',h',rfl⟩
 ·rw[h] at h'
  cases h'
 ·rw[h] at h'
  cases h'
  exact⟨[_,_,_],rfl,⟨rfl,rfl⟩,⟨rfl,rfl⟩,⟨rfl,rfl⟩,trivial⟩
end
def eU(la:List (Bool×Int))(loc:Int)(cs:List (Int×Int)):Option (Except Er (WS×Bd)):=
 if(dg la loc cs).2=0 then eB la loc.toNat cs else some (.error ((dg la loc cs).1,(dg la loc cs).2))
theorem pW{la:List (Bool×Int)}{loc:Int}{cs:List (Int×Int)}(ha:cF cs)(h:(dg la loc cs).2=0):((loc.toNat:Nat):Int)=loc:=by
 obtain⟨m,hm,_⟩:=pX ha h
 omega
theorem lZ{la:List (Bool×Int)}{loc:Int}{cs:List (Int×Int)}(ha:cF cs):eU la loc cs≠none:=by
 unfold eU
 split
 ·exact qp ha
 ·simp
theorem qo{la:List (Bool×Int)}{loc:Int}{cs:List (Int×Int)}{e:Er}(h:eU la loc cs=some (.error e)):e.2≠0:=by
 unfold eU at h
 split at h
 ·exact Bl h
 ·rename_i h0;cases h;exact h0
theorem jp{la:List (Bool×Int)}{loc:Int}{cs:List (Int×Int)}{S:WS}{b:Bd}(ha:cF cs)(h:eU la loc cs=some (.ok (S,b))):
  (dg la loc cs).2=0/\dH la loc cs (eW cs S)=0/\aO (eW cs S) (ay cs).1 0=b.1/\a7 cs (eW cs S) (ay cs).1 0=b.2/\(0<=b.1/\b.1<=281474976710656)/\0<=b.2/\b.2<=b.1:=by
 unfold eU at h
 split at h
 ·rename_i h0
  have:=ve ha h
  rwa [pW ha h0] at this
 ·cases h
theorem su(la:List (Bool×Int))(loc:Int)(cs:List (Int×Int))(hl:la.length<=9223372036854775807)(hc:cs.length<=9223372036854775807)(ha:cF cs)(h0:(dg la loc cs).2≠0):
  bM Tryz.prog 12 [aH la loc cs] [.v (.agg [.n .i64 0,.n .i64 0,.n .i64 0,.sl0]),.v (.n .i64 (dg la loc cs).1),.v (.n .i64 (dg la loc cs).2)]:=by
 refine j9 (cI RX ⟨by simp,by decide⟩ ?_)
 simp only[aE,aH]
 repeat first|with_reducible refine GE.g ?_|simp only[go_sem,simprocAttr]
 refine dl ([aH la loc cs]) (ji la loc cs hl hc ha) ?_
 repeat first|with_reducible refine GE.g ?_|simp only[h0,ne_eq,not_true_eq_false,not_false_eq_true,decide_true,decide_false,Bool.not_true,Bool.not_false,go_sem,simprocAttr]
 exact⟨[_,_,_],rfl,⟨rfl,rfl⟩,⟨rfl,rfl⟩,⟨rfl,rfl⟩,trivial⟩
section
variable (la:List (Bool×Int)) (loc:Int) (cs:List (Int×Int)) (hl:la.length<=9223372036854775807) (hc:cs.length<=9223372036854775807) (ha:cF cs)
include hl hc ha
theorem jh{S:WS}{b:Bd}(h:eU la loc cs=some (.ok (S,b))):bM Tryz.prog 12 [aH la loc cs] [.a (qF cs S b),.v (.n .i64 0),.v (.n .i64 0)]:=by
 unfold eU at h
 split at h
 ·rename_i h0
  have:=qq la loc.toNat cs hl hc ha h
  rwa [pW ha h0] at this
 ·cases h
theorem l4{e:Er}(h:eU la loc cs=some (.error e)):bM Tryz.prog 12 [aH la loc cs] [.v (.agg [.n .i64 0,.n .i64 0,.n .i64 0,.sl0]),.v (.n .i64 e.1),.v (.n .i64 e.2)]:=by
 unfold eU at h
 split at h
 ·rename_i h0
  have:=qr la loc.toNat cs hl hc ha h
  rwa [pW ha h0] at this
 ·rename_i h0
  cases h
  exact su la loc cs hl hc ha h0
end
def kG(la:List (Bool×Int))(n:Int)(cs:List (Int×Int))(inputs:Int):Int×Int×Int:=match eU la n cs with
 |some (.ok (S,b))=>if inputs<0\/65536<inputs then(0,0,2) else if 281474976710657<=aU b.1 (inputs+1) then(0,0,18) else(jS la n,aU b.1 (inputs+1),0)
 |some (.error e)=>(0,0,e.2)
 |none=>(0,0,0)
theorem ov(la:List (Bool×Int))(n:Int)(cs:List (Int×Int))(hl:la.length<=9223372036854775807)(hc:cs.length<=9223372036854775807)(ha:cF cs)(inputs:Int)(hi:inputs<=65535):
  bM Tryz.prog 10 [aH la n cs,.n .i64 inputs] [.v (.agg [.n .i64 (kG la n cs inputs).1,.n .i64 (kG la n cs inputs).2.1]),.v (.n .i64 (kG la n cs inputs).2.2)]:=by
 refine ag aD Nc ⟨by simp,by decide⟩ ?_
 simp only[aE,aH]
 repeat first|with_reducible refine aq ?_|simp only[go_sem,simprocAttr]
 cases hv:eU la n cs with
 |none=>exact absurd hv (lZ ha)
 |some R=>
  cases R with
  |error e=>
   have hF:kG la n cs inputs=(0,0,e.2):=by unfold kG;rw[hv]
   have he:=qo hv
   refine bS ([aH la n cs]) (l4 la n cs hl hc ha hv) ?_
   repeat first|with_reducible refine aq ?_|simp only[he,ne_eq,not_true_eq_false,not_false_eq_true,decide_true,decide_false,Bool.not_true,Bool.not_false,go_sem,simprocAttr]
   rw[hF]
   exact⟨[_,_],rfl,⟨rfl,rfl⟩,⟨rfl,rfl⟩,trivial⟩
  |ok q=>
   obtain⟨S,b⟩:=q
   obtain⟨h0,_,_,_,hb1,hb2⟩:=jp ha hv
   refine bS ([aH la n cs]) (jh la n cs hl hc ha hv) ?_
   simp only[qF]
   have hfm:bj la n cs=0:=by
    unfold dg at h0
    split at h0
    ·assumption
    ·rename_i h1;exact absurd h0 h1
   by_cases i1:inputs<0
   ·have hF:kG la n cs inputs=(0,0,2):=by unfold kG;rw[hv];exact if_pos (.inl i1)
    repeat first|with_reducible refine aq ?_|simp only[i1,ne_eq,not_true_eq_false,not_false_eq_true,decide_true,decide_false,Bool.not_true,Bool.not_false,go_sem,simprocAttr]
    rw[hF]
    exact⟨[_,_],rfl,⟨rfl,rfl⟩,⟨rfl,rfl⟩,trivial⟩
   by_cases i2:65536<inputs
   ·omega
   have wi:IntKind.i64.wrap (inputs+1)=inputs+1:=aj (by omega)
   have hF:kG la n cs inputs=if 281474976710657<=aU b.1 (inputs+1) then(0,0,18) else(jS la n,aU b.1 (inputs+1),0):=by
    unfold kG;rw[hv];exact if_neg (by omega)
   repeat first|with_reducible refine aq ?_|simp only[i1,i2,gt_iff_lt,ne_eq,not_true_eq_false,not_false_eq_true,decide_true,decide_false,Bool.not_true,Bool.not_false,go_sem,simprocAttr]
   refine bS ([aH la n cs]) (mA la n cs hl hc ha) ?_
   rw[hfm,if_pos rfl]
   repeat first|with_reducible refine aq ?_|simp only[wi,ne_eq,not_true_eq_false,not_false_eq_true,decide_true,decide_false,Bool.not_true,Bool.not_false,go_sem,simprocAttr]
   refine bS ([.n .i64 b.1,.n .i64 (inputs+1)]) (nV b.1 (inputs+1) (by omega) (by omega)) ?_
   repeat first|with_reducible refine aq ?_|simp only[wi,go_sem,simprocAttr]
   refine bS ([.n .i64 (aU b.1 (inputs+1))]) (iE _) ?_
   by_cases i3:281474976710657<=aU b.1 (inputs+1)
   ·rw[if_pos i3] at hF
    rw[hF,show iG (aU b.1 (inputs+1))=(0,18) from if_pos i3]
    repeat first|with_reducible refine aq ?_|simp only[ne_eq,not_true_eq_false,not_false_eq_true,decide_true,decide_false,Bool.not_true,Bool.not_false,go_sem,simprocAttr]
    exact⟨[_,_],rfl,⟨rfl,rfl⟩,⟨rfl,rfl⟩,trivial⟩
   ·rw[if_neg i3] at hF
    rw[hF,show iG (aU b.1 (inputs+1))=(aU b.1 (inputs+1),0) from if_neg i3]
    repeat first|with_reducible refine aq ?_|simp only[ne_eq,not_true_eq_false,not_false_eq_true,decide_true,decide_false,Bool.not_true,Bool.not_false,go_sem,simprocAttr]
    exact⟨[_,_],rfl,⟨rfl,rfl⟩,⟨rfl,rfl⟩,trivial⟩
theorem pT(a b:Int):nK 9 (.st [(0,1,.n),(1,1,.n)]) (.agg [.n .i64 a,.n .i64 b]) (.agg [.n .i64 a,.n .i64 b])=some true:=by
 simp[nK,wD,qI,SH.row,Kn]
theorem qE{s e h:Int}{li:List ep}{M:List Nat}{H:AH}{k n:Nat}(hn:n=li.length)(hL:tH li)(hm:k ∈ M){x:AB}(hk:H.at k=some x)(hz:n*3<=x.size)(hg:∀i j,i<n->j<3->x.get (i*3+j)=vI li i j):
  Cv M H (.agg [.n .i64 s,.n .i64 e,.n .i64 h,.os k n]) (jL s e h li):=by
 subst hn
 refine .agg rfl λi v v' h1 h2=>?_
 rcases i with _|_|_|_|i<;>cases h1<;>cases h2
 ·exact .rfl rfl
 ·exact .rfl rfl
 ·exact .rfl rfl
 ·refine .os hm hk hz hg (λi j hi hj=>?_)
  have hj3:j=0\/j=1\/j=2:=by omega
  rcases hj3 with rfl|rfl|rfl
  ·rfl
  ·rfl
  ·have:Kr (vI li i 2):=hL _ (by rw[List.getD_eq_getElem?_getD,List.getElem?_eq_getElem hi];exact List.getElem_mem hi)
   rcases this with h|⟨n,r,h⟩<;>rw[h]<;>rfl
theorem mr{s e h:Int}{li:List ep}{M:List Nat}{H:AH}{k n z:Nat}{row:Nat->Nat->AV}(hn:n=li.length)(hr:∀i j,i<n->j<3->row i j=vI li i j)(hL:tH li)(hm:k ∈ M){x:AB}(hk:H.at k=some x)(hz:x.size=(ai 48 3 n z row).size)(hg:x.get=(ai 48 3 n z row).get):
  Cv M H (.agg [.n .i64 s,.n .i64 e,.n .i64 h,.os k n]) (jL s e h li):=
 qE hn hL hm hk (by rw[hz];exact Nat.le_refl _) (λi j hi hj=>by rw[hg,<-hr i j hi hj];exact aJ i j hj)
end Go.Proofs.YtdpkgnmmikebdaaGreat
namespace Go.Proofs.YtdpkgnmmikebdaaGreat
open Go.RowKit
theorem Wj{i:Nat}(h:i<2):i=0\/i=1:=by omega
theorem Z6{i:Nat}(h:i<5):i=0\/i=1\/i=2\/i=3\/i=4:=by omega
def eI:List (Int×Int):=[(0,10),(29,0),(1,0),(6,0),(31,0)]
theorem rD:eI.length=5:=rfl
theorem rB:bM Tryz.prog 20 [] [.v (aH [] 1 eI)]:=by
 refine pM rfl (ag aD Zq ⟨by simp,by decide⟩ ?_)
 simp only[aE]
 repeat first|with_reducible refine aq ?_|simp only[go_sem,simprocAttr]
 refine⟨[1],.agg rfl λi v v' h1 h2=>?_⟩
 rcases i with _|_|_|i<;>cases h1<;>cases h2
 ·exact .sl0 2 (pA [])
 ·exact .rfl rfl
 ·refine .sl (x:=_) (by simp) (by simp only[go_sem,simprocAttr]<;>rfl) (by decide) (by decide) (by decide) (λi j hi hj=>?_) (λi j _ hj=>?_)
  ·rcases Wj hj with rfl|rfl<;>(rcases Z6 hi with rfl|rfl|rfl|rfl|rfl<;>(simp only[go_sem,simprocAttr]<;>rfl))
  ·rcases Wj hj with rfl|rfl<;>rfl
theorem oD:cF eI:=λi hi=>by
 simp only[eI,List.mem_cons,List.not_mem_nil,or_false] at hi
 rcases hi with rfl|rfl|rfl|rfl|rfl<;>decide
def exR:Option (Int×Int×List (Int×Int)):=match eU [] 1 eI with
 |some (.ok (S,b))=>some (b.1,b.2,bI S.lp 5)
 |_=>none
theorem J4:exR=some (32,0,[(1,10)]):=by kernel_rfl
theorem Cw:∃(S:WS) (b:Bd),eU [] 1 eI=some (.ok (S,b))/\b.1=32/\b.2=0/\bI S.lp 5=[(1,10)]:=by
 have h:=J4
 unfold exR at h
 split at h
 ·rename_i S b hv
  simp only[Option.some.injEq,Prod.mk.injEq] at h
  exact⟨S,b,hv,h.1,h.2.1,h.2.2⟩
 ·cases h
theorem wA:hD [] 1 eI [(1,0,.ow)]=(2,0):=by kernel_rfl
theorem Cx:bj [] 1 eI=0:=by kernel_rfl
theorem zJ:jS [] 1=196:=by kernel_rfl
theorem J3:bM Tryz.prog 21 [.agg [.n .i64 5,.n .i64 7],.agg [.n .i64 1,.n .i64 2]] [.v (.agg [.n .i64 6,.n .i64 9])]:=by
 have h:=CX 5 7 1 2
 rw[show qY (oY 5 1) (oY 7 2)= .agg [.n .i64 6,.n .i64 9] from rfl] at h
 exact h
theorem Cz:bM Tryz.prog 22 [.agg [.n .i64 5,.n .i64 7],.agg [.n .i64 5,.n .i64 8]] [.v (.b true)]:=rA 5 7 5 8
theorem Cy:bM Tryz.prog 22 [.agg [.n .i64 5,.n .i64 7],.agg [.n .i64 4,.n .i64 100]] [.v (.b false)]:=rA 5 7 4 100
theorem eO:bM Tryz.prog 9 [] [.v (.b true)]:=by
 obtain⟨S,b,hv,hb1,hb2,hL⟩:=Cw
 obtain⟨h0,hO,hs,he,_,_⟩:=jp oD hv
 have hI:eW eI S=[(1,10,.ow)]:=by
  unfold eW
  rw[rD,hL];rfl
 have hS1:=jw [] 1 eI (by decide) (by decide) oD b.1 b.2 S.ht (eW eI S) (by rw[hI];decide) (xQ eI S)
 rw[show hD [] 1 eI (eW eI S)=(32,0) by unfold hD;rw[if_pos hO,hs,hb1];rfl,hI] at hS1
 have hS2:=jw [] 1 eI (by decide) (by decide) oD b.1 b.2 S.ht [(1,0,.ow)] (by decide) (λx hx=> .inl (by rw[List.mem_singleton.1 hx]))
 rw[wA] at hS2
 have hM:=mA [] 1 eI (by decide) (by decide) oD
 rw[Cx,zJ,if_pos rfl] at hM
 have hLi:=ov [] 1 eI (by decide) (by decide) oD 3 (by decide)
 rw[show kG [] 1 eI 3=(196,128,0) by unfold kG;rw[hv];dsimp only;rw[hb1,zJ];rfl] at hLi
 have hV:=jh [] 1 eI (by decide) (by decide) oD hv
 unfold qF at hV
 rw[rD,hL] at hV
 refine j9 (cI ZL ⟨by simp,by decide⟩ ?_)
 simp only[aE]
 repeat first|with_reducible refine GE.g ?_|simp only[go_sem,simprocAttr]
 refine dl ([]) rB ?_
 simp only[aH]
 repeat first|with_reducible refine GE.g ?_|simp only[go_sem,simprocAttr]
 refine dl ([aH [] 1 eI]) hV ?_
 repeat first|with_reducible refine GE.g ?_|simp only[ne_eq,not_true_eq_false,not_false_eq_true,decide_true,decide_false,Bool.not_true,Bool.not_false,go_sem,simprocAttr]
 have hsc:∀(x y:Int),∀r ∈ [RT.v (AV.n .i64 x),RT.v (AV.n .i64 y)],gR (λa=>a.sc 3=true) r:=λx y r hr=>by
  simp only[List.mem_cons,List.not_mem_nil,or_false] at hr
  rcases hr with rfl|rfl<;>rfl
 refine i4 [1] (fargs:=[aH [] 1 eI,jL b.1 b.2 S.ht [(1,10,.ow)]]) (.cons (.rfl rfl) (.cons (mr (n:=1) (z:=0) (row:=lH [(1,10)]) (x:=ai 48 3 1 0 (lH [(1,10)])) rfl (λi j hi hj=>?_) (λx hx=> .inl (by rw[List.mem_singleton.1 hx])) (by simp) (by simp only[go_sem,simprocAttr]<;>rfl) rfl rfl) .nil)) hS1 ?_ (hsc _ _) ?_
 ·obtain rfl:i=0:=by omega
  rcases yz hj with rfl|rfl|rfl<;>rfl
 ·simp only[go_sem,simprocAttr]
 repeat first|with_reducible refine GE.g ?_|simp only[ne_eq,not_true_eq_false,not_false_eq_true,decide_true,decide_false,Bool.not_true,Bool.not_false,go_sem,simprocAttr]
 refine kN [1] (fargs:=[aH [] 1 eI,jL b.1 b.2 S.ht [(1,0,.ow)]]) (.cons (.rfl rfl) (.cons (qE (n:=1) (x:=_) rfl (λx hx=> .inl (by rw[List.mem_singleton.1 hx])) (by simp) (by simp only[go_sem,simprocAttr]<;>rfl) (by decide) (λi j hi hj=>?_)) .nil)) hS2 ?_ ?_
 ·obtain rfl:i=0:=by omega
  rw[dw (by decide)]
  rcases yz hj with rfl|rfl|rfl
  ·rw[if_neg (by decide)];exact aJ 0 0 (by decide)
  ·rw[if_pos (by decide)];rfl
  ·rw[if_neg (by decide)];exact aJ 0 2 (by decide)
 ·simp only[go_sem,simprocAttr]
 repeat first|with_reducible refine GE.g ?_|simp only[ne_eq,not_true_eq_false,not_false_eq_true,decide_true,decide_false,Bool.not_true,Bool.not_false,go_sem,simprocAttr]
 refine dl ([aH [] 1 eI]) hM ?_
 repeat first|with_reducible refine GE.g ?_|simp only[ne_eq,not_true_eq_false,not_false_eq_true,decide_true,decide_false,Bool.not_true,Bool.not_false,go_sem,simprocAttr]
 refine dl ([aH [] 1 eI,.n .i64 3]) hLi ?_
 have w00:IntKind.i64.wrap 0=0:=rfl
 repeat first|with_reducible refine GE.g ?_|simp only[w00,Int.add_zero,pT,ne_eq,not_true_eq_false,not_false_eq_true,decide_true,decide_false,Bool.not_true,Bool.not_false,go_sem,simprocAttr]
 refine dl ([.agg [.n .i64 5,.n .i64 7],.agg [.n .i64 1,.n .i64 2]]) J3 ?_
 repeat first|with_reducible refine GE.g ?_|simp only[pT,ne_eq,not_true_eq_false,not_false_eq_true,decide_true,decide_false,Bool.not_true,Bool.not_false,go_sem,simprocAttr]
 refine dl ([.agg [.n .i64 5,.n .i64 7],.agg [.n .i64 5,.n .i64 8]]) Cz ?_
 repeat first|with_reducible refine GE.g ?_|simp only[pT,ne_eq,not_true_eq_false,not_false_eq_true,decide_true,decide_false,Bool.not_true,Bool.not_false,go_sem,simprocAttr]
 refine dl ([.agg [.n .i64 5,.n .i64 7],.agg [.n .i64 4,.n .i64 100]]) Cy ?_
 repeat first|with_reducible refine GE.g ?_|simp only[pT,ne_eq,not_true_eq_false,not_false_eq_true,decide_true,decide_false,Bool.not_true,Bool.not_false,go_sem,simprocAttr]
 exact aa rfl rfl
/-! ### a report with greater numbers-/
def lS(f:Nat->Int->Int):Nat->List (Int×Int)->List ep
 |_,[]=>[]
 |k,x::l=>(x.1,f k x.2,.ow)::lS f (k+1) l
theorem kc(f:Nat->Int->Int):∀(k:Nat) (l:List (Int×Int)),(lS f k l).length=l.length
 |_,[]=>rfl
 |k,x::l=>by rw[lS,List.length_cons,List.length_cons,kc f (k+1) l]
theorem uw(f:Nat->Int->Int):∀(k:Nat) (l:List (Int×Int)) (i:Nat),i<l.length->(lS f k l).getD i lI=((l.getD i (0,0)).1,f (k+i) (l.getD i (0,0)).2,.ow)
 |_,[],i,h=>absurd h (Nat.not_lt_zero _)
 |k,x::l,0,h=>rfl
 |k,x::l,i+1,h=>by
  have:=uw f (k+1) l i (by simpa using h)
  rw[show k+1+i=k+(i+1) by omega] at this
  exact this
theorem ux(f:Nat->Int->Int):∀(k:Nat) (l:List (Int×Int)),(lS f k l).map (λx=>x.1)=l.map (λx=>x.1)
 |_,[]=>rfl
 |k,x::l=>by rw[lS,List.map_cons,List.map_cons,ux f (k+1) l]
theorem kb(f:Nat->Int->Int):∀(k:Nat) (l:List (Int×Int)),tH (lS f k l)
 |_,[],x,h=>by cases h
 |k,y::l,x,h=>by
  rcases List.mem_cons.1 h with rfl|h
  ·exact .inl rfl
  ·exact kb f (k+1) l x h
theorem zj{f:Nat->Int->Int}(hf:∀i m,0<=m->m<=65536->m<=f i m/\f i m<=65536):∀(k:Nat) (l:List (Int×Int)),(∀x ∈ l,0<=x.2/\x.2<=65536)->C1 (lS f k l)
 |_,[],_,x,h=>by cases h
 |k,y::l,hl,x,h=>by
  rcases List.mem_cons.1 h with rfl|h
  ·have h1:=hl y (List.mem_cons_self ..)
   have h2:=hf k y.2 h1.1 h1.2
   exact⟨by show 0<=f k y.2;omega,h2.2⟩
  ·exact zj hf (k+1) l (λz hz=>hl z (List.mem_cons_of_mem _ hz)) x h
theorem rl{f:Nat->Int->Int}(hf:∀i m,0<=m->m<=65536->m<=f i m/\f i m<=65536)(a:Int):∀(k:Nat) (l:List (Int×Int)),(∀x ∈ l,0<=x.2/\x.2<=65536)->aZ (l.map λx=>((x.1,x.2,.ow):ep)) a<=aZ (lS f k l) a
 |_,[],_=>Int.le_refl _
 |k,y::l,hl=>by
  rw[List.map_cons,lS,aZ,aZ]
  have h1:=hl y (List.mem_cons_self ..)
  by_cases e:y.1=a
  ·rw[if_pos e,if_pos e]
   exact(hf k y.2 h1.1 h1.2).1
  ·rw[if_neg e,if_neg e]
   exact rl hf a (k+1) l λz hz=>hl z (List.mem_cons_of_mem _ hz)
def gC(l:List (Int×Int))(f:Nat->Int->Int)(k i j:Nat):AV:=if j=0 then .n .i64 (l.getD i (0,0)).1 else if j=1 then .n .i64 (if i<k then f i (l.getD i (0,0)).2 else(l.getD i (0,0)).2) else .ow
theorem Dm(l:List (Int×Int))(f:Nat->Int->Int)(k i j:Nat):(gC l f k i j).pu 3=true:=by unfold gC;(repeat' split)<;>rfl
theorem aaf(l:List (Int×Int))(f:Nat->Int->Int):gC l f 0=lH l:=by
 funext i j
 simp[gC,lH]
theorem aae(l:List (Int×Int))(f:Nat->Int->Int)(k:Nat):gC l f k k 1= .n .i64 (l.getD k (0,0)).2:=by simp[gC]
theorem Ww{l:List (Int×Int)}{f:Nat->Int->Int}{k:Nat}(h:∀m,f k m=m):gC l f (k+1)=gC l f k:=by
 funext i j
 unfold gC
 by_cases e:i=k
 ·subst e
  simp only[h,ite_self]
 ·simp only[show i<k+1↔i<k by omega]
theorem JU{l:List (Int×Int)}{f:Nat->Int->Int}{k i j:Nat}:(if i=k/\j=1 then AV.n .i64 (f k (l.getD k (0,0)).2) else gC l f k i j)=gC l f (k+1) i j:=by
 unfold gC
 by_cases e:i=k
 ·subst e
  by_cases e1:j=1
  ·subst e1
   rw[if_pos ⟨rfl,rfl⟩,if_neg (by decide),if_pos rfl,if_pos (by omega)]
  ·rw[if_neg (λh=>e1 h.2),if_neg e1,if_neg e1]
 ·rw[if_neg (λh=>e h.1)]
  simp only[show i<k+1↔i<k by omega]
theorem Dl(l:List (Int×Int))(f:Nat->Int->Int){i:Nat}(hi:i<l.length)(j:Nat):gC l f l.length i j=vI (lS f 0 l) i j:=by
 unfold gC vI
 rw[uw f 0 l i hi,Nat.zero_add,if_pos hi]
theorem tn{n:Nat}{row:Nat->Nat->AV}(hn:n<1000000)(hc:∀i j,i<n->j<3->(row i j).cell=true):
  bM Tryz.prog 16 [.fs 3 n row] [.o 48 3 n 0 row]:=by
 refine ag aD He ⟨by simp,by decide⟩ ?_
 simp only[aE]
 have hl1:n*3<1099511627776:=by omega
 have hl2:n*40<=140737488355328:=by omega
 have hl3:n<=9223372036854775807:=by omega
 try simp only[Nat.mul_one] at hl1 hl2
 repeat first|with_reducible refine aq ?_|simp only[go_sem,simprocAttr]
 intro t ht
 cases t
 ·repeat first|with_reducible refine aq ?_|simp only[hl1,hl2,hl3,decide_true,go_sem,simprocAttr]
  refine⟨[_],rfl,.o (x:=_) (by simp only[go_sem,simprocAttr];rfl) (by rfl) (by rfl) (by rfl) (by decide) (by simp only[go_sem,simprocAttr]<;>omega) (Nat.le_refl _) (λi j hi hj=>?_) hc rfl .nil⟩
  exact pP hi hj (by omega)
 ·obtain rfl:=ht rfl
  repeat first|with_reducible refine aq ?_|simp only[go_sem,simprocAttr]
  exact⟨[_],rfl,.o0 rfl .nil⟩
def nU(ms:List Int)(i _:Nat):AV:= .n .u16 (ms.getD i 0)
theorem nU0(ms:List Int)(i:Nat):nU ms i 0= .n .u16 (ms.getD i 0):=rfl
def cf(ms:List Int)(i:Nat)(m:Int):Int:=if i<ms.length then(if m+ms.getD i 0<65536 then m+ms.getD i 0 else 65536) else m
theorem uv{ms:List Int}(hms:∀x ∈ ms,0<=x/\x<65536)(i:Nat)(m:Int)(h0:0<=m)(h1:m<=65536):m<=cf ms i m/\cf ms i m<=65536:=by
 unfold cf
 split
 ·rename_i hi
  have:=hms (ms.getD i 0) (by rw[List.getD_eq_getElem?_getD,List.getElem?_eq_getElem hi];exact List.getElem_mem hi)
  split<;>omega
 ·omega
theorem nL(la:List (Bool×Int))(loc:Int)(cs:List (Int×Int))(hl:la.length<=9223372036854775807)(hc:cs.length<=9223372036854775807)(ha:cF cs)(ms:List Int)(hms:∀x ∈ ms,0<=x/\x<65536)(inp:Int)(hinp:0<=inp/\inp<256):bM Tryz.prog 5 [aH la loc cs,.fs 1 ms.length (nU ms),.n .u8 inp] [.v (.b true)]:=by
 refine ag aD Hp ⟨by simp,by decide⟩ ?_
 simp only[aE,aH]
 repeat first|with_reducible refine aq ?_|simp only[go_sem,simprocAttr]
 refine bS ([aH la loc cs]) (Cu la loc cs) ?_
 cases hF:nJ la cs
 ·repeat first|with_reducible refine aq ?_|simp only[hF,go_sem,simprocAttr]
  refine bS ([]) eO ?_
  repeat first|with_reducible refine aq ?_|simp only[go_sem,simprocAttr]
  exact aa rfl rfl
 by_cases h60:60<ms.length
 ·have h60':(60:Int)<ms.length:=by omega
  repeat first|with_reducible refine aq ?_|simp only[hF,h60',gt_iff_lt,decide_true,go_sem,simprocAttr]
  refine bS ([]) eO ?_
  repeat first|with_reducible refine aq ?_|simp only[go_sem,simprocAttr]
  exact aa rfl rfl
 have h60':¬(60:Int)<ms.length:=by omega
 repeat first|with_reducible refine aq ?_|simp only[hF,h60',gt_iff_lt,decide_false,go_sem,simprocAttr]
 cases hv:eU la loc cs with
 |none=>exact absurd hv (lZ ha)
 |some R=>
  cases R with
  |error e=>
   have he:=qo hv
   refine bS ([aH la loc cs]) (l4 la loc cs hl hc ha hv) ?_
   repeat first|with_reducible refine aq ?_|simp only[he,ne_eq,not_true_eq_false,not_false_eq_true,decide_true,decide_false,Bool.not_true,Bool.not_false,go_sem,simprocAttr]
   refine bS ([]) eO ?_
   repeat first|with_reducible refine aq ?_|simp only[go_sem,simprocAttr]
   exact aa rfl rfl
  |ok q=>
   obtain⟨S,b⟩:=q
   obtain⟨h0,hO,hs,he,hb1,hb2⟩:=jp ha hv
   have hcs:=(nf h0).2
   obtain⟨l,hlE⟩:∃l,l=bI S.lp cs.length:=⟨_,rfl⟩
   have hlen:l.length<=1024:=by
    have:=mI S.lp cs.length
    rw[hlE]
    omega
   obtain⟨out,hg,_,hinR,_⟩:=pk hO
   have hin:∀x ∈ l,0<=x.2/\x.2<=65536:=λx hx=>hinR (x.1,x.2,.ow) (List.mem_map.2 ⟨x,hlE ▸ hx,rfl⟩)
   have hrep:eW cs S=l.map λx=>((x.1,x.2,.ow):ep):=by rw[hlE];rfl
   have hgl:(lS (cf ms) 0 l).length<=1024:=by rw[kc];exact hlen
   have hgin:=zj (uv hms) 0 l hin
   have hOG:dH la loc cs (lS (cf ms) 0 l)=0:=by
    unfold dH at hO ⊢
    rw[if_pos h0] at hO ⊢
    obtain⟨k1,k2,k3⟩:=tZ hO
    unfold nF
    rw[hrep,List.length_map] at k1
    rw[hrep,List.map_map] at k2
    rw[if_pos ⟨by rw[kc];exact k1,(ux (cf ms) 0 l).trans k2⟩,if_pos hgin]
   have hmost:∀a,0<=aZ (eW cs S) a/\aZ (eW cs S) a<=aZ (lS (cf ms) 0 l) a:=λa=>⟨(fR hinR a).1,by rw[hrep];exact rl (uv hms) a 0 l hin⟩
   have hok:=hg.okf (by omega)
   have g1:=di hmost (ay cs).1 0 0 hok (by decide) (by decide) (by decide)
   have g2:=dm (cs:=cs) hmost (ay cs).1 0 0 (by decide) (by decide) (by decide)
   have g3:=fc (cs:=cs) (λa=>(fR hgin a).1) (ay cs).1 0 0 hok (by decide) (by decide) (by decide)
   rw[hs] at g1
   rw[he] at g2
   have hS:=jw la loc cs hl hc ha b.1 b.2 S.ht (lS (cf ms) 0 l) hgl (kb _ _ _)
   have hE:=tt la loc cs hl hc ha b.1 b.2 S.ht (lS (cf ms) 0 l) hgl (kb _ _ _)
   rw[show hD la loc cs (lS (cf ms) 0 l)=iG (aO (lS (cf ms) 0 l) (ay cs).1 0) from if_pos hOG] at hS
   rw[show mV la loc cs (lS (cf ms) 0 l)=iG (a7 cs (lS (cf ms) 0 l) (ay cs).1 0) from if_pos hOG] at hE
   generalize aO (lS (cf ms) 0 l) (ay cs).1 0=s' at g1 g3 hS
   generalize a7 cs (lS (cf ms) 0 l) (ay cs).1 0=e' at g2 g3 hE
   have wi:IntKind.i64.wrap inp=inp:=aj (by omega)
   have wi1:IntKind.i64.wrap (inp+1)=inp+1:=aj (by omega)
   have hL:=ov la loc cs hl hc ha inp (by omega)
   have hlF:kG la loc cs inp=if 281474976710657<=aU b.1 (inp+1) then(0,0,18) else(jS la loc,aU b.1 (inp+1),0):=by
    unfold kG
    rw[hv]
    dsimp only
    rw[if_neg (by omega)]
   have hnn:0<=b.1*(inp+1):=Int.mul_nonneg (by omega) (by omega)
   have hmx:b.1*(inp+1)<=281474976710656*256:=Int.mul_le_mul hb1.2 (by omega) (by omega) (by decide)
   have htm:¬281474976710657<=aU b.1 (inp+1)->aU b.1 (inp+1)=b.1*(inp+1):=by
    rw[jk (by omega) (by omega)]
    unfold bk
    intro h
    split<;>rename_i h1
    ·rw[if_pos h1] at h;omega
    ·rfl
   have wm:IntKind.i64.wrap (b.1*(inp+1))=b.1*(inp+1):=aj (by omega)
   refine bS ([aH la loc cs]) (jh la loc cs hl hc ha hv) ?_
   simp only[qF,<-hlE]
   repeat first|with_reducible refine aq ?_|simp only[ne_eq,not_true_eq_false,not_false_eq_true,decide_true,decide_false,Bool.not_true,Bool.not_false,go_sem,simprocAttr]
   refine aW [1] (fargs:=[.fs 3 l.length (lH l)]) (.cons (.os (x:=ai 48 3 l.length 0 (lH l)) (by simp) (by simp only[go_sem,simprocAttr]) (Nat.le_refl _) (λi j _ hj=>aJ i j hj) (λi j _ _=>iy l i j)) .nil) (tn (by omega) (λi j _ _=>iy l i j)) ?_ ?_
   ·simp only[go_sem,simprocAttr]
   repeat first|with_reducible refine aq ?_|simp only[ne_eq,not_true_eq_false,not_false_eq_true,decide_true,decide_false,Bool.not_true,Bool.not_false,go_sem,simprocAttr]
   refine GA.loop (I:=λm ev H=>∃(k:Nat),m=l.length-k/\k<=l.length/\
     ev=az [(1,.fs 1 ms.length (nU ms)),(2,.n .u8 inp),(3,.p 0 0),(7,.p 1 0),(10,.p 2 0),(43,.n .i64 l.length),(44,.n .i64 k)]/\
     H=ah [ai 48 3 l.length 0 (gC l (cf ms) k),ae 0 38 [.n .i64 b.1,.n .i64 b.2,.n .i64 S.ht,.os 3 l.length],ae 0 38 [.n .i64 b.1,.n .i64 b.2,.n .i64 S.ht,.fs 3 l.length (lH l)],ae 0 25 [.fs 2 la.length (pA la),.n .i64 loc,.fs 2 cs.length (pI cs)]])
    (Wk.mk [4,3,2,0] [1] ?_ ?_ ?_) ⟨0,rfl,Nat.zero_le _,rfl,by rw[aaf]⟩ ?_
   ·exact a8
   ·exact .cr (.k2 (λi j _ _=>kI l i j)) (.cr (.j4) (.cr (.lstj (x:=_) (by simp only[go_sem,simprocAttr]<;>rfl) (by rfl) (by rfl) (by rfl) (by rfl) (by rfl) (by rfl) (by simp) (λi hi=>by
     rcases Z7 hi with rfl|rfl|rfl|rfl
     ·simp only[go_sem,simprocAttr];exact Wv.same rfl
     ·simp only[go_sem,simprocAttr];exact Wv.same rfl
     ·simp only[go_sem,simprocAttr];exact Wv.same rfl
     ·simp only[go_sem,simprocAttr]
      exact .cv (.os (x:=(ai 48 3 l.length 0 (lH l)).fr) (by simp) (by simp only[go_sem,simprocAttr]<;>rfl) (Nat.le_refl _) (λi j _ hj=>show(ai 48 3 l.length 0 (lH l)).get (i*3+j)=_ from aJ i j hj) (λi j _ _=>iy l i j)))) (.cr (.j3) .nil)))
   ·simp
   rintro m ev H ⟨k,rfl,hk,rfl,rfl⟩
   have hk0:(0:Int)<=(k:Int):=by omega
   by_cases hkl:k<l.length
   ·have hk1:(k:Int)<l.length:=by omega
    have wk:IntKind.i64.wrap ((k:Int)+1)=((k+1:Nat):Int):=(aj (by omega)).trans (by omega)
    by_cases hkm:k<ms.length
    ·have hkm':(k:Int)<ms.length:=by omega
     have hk3:k*3+1<l.length*3:=by omega
     have hk4:k*3+1+1<=l.length*3:=by omega
     have hget:(ai 48 3 l.length 0 (gC l (cf ms) k)).get (k*3+1)= .n .i64 (l.getD k (0,0)).2:=(aJ k 1 (by decide)).trans (aae l _ k)
     have hx:=hms (ms.getD k 0) (by rw[List.getD_eq_getElem?_getD,List.getElem?_eq_getElem hkm];exact List.getElem_mem hkm)
     have hmk:=hin (l.getD k (0,0)) (by rw[List.getD_eq_getElem?_getD,List.getElem?_eq_getElem hkl];exact List.getElem_mem hkl)
     have hgr:cf ms k (l.getD k (0,0)).2=if(l.getD k (0,0)).2+ms.getD k 0<65536 then(l.getD k (0,0)).2+ms.getD k 0 else 65536:=if_pos hkm
     have hput:∀i j,i<l.length->j<3->(if i=k/\j=1 then AV.n .i64 (cf ms k (l.getD k (0,0)).2) else gC l (cf ms) k i j)=gC l (cf ms) (k+1) i j:=λi j _ _=>JU
     rw[hgr] at hput
     generalize hmx:(l.getD k (0,0)).2=mm at hget hmk hput
     generalize hmy:ms.getD k 0=xx at hx hput
     have hnu:nU ms k 0= .n .u16 xx:=by rw[nU0,hmy]
     have w1:IntKind.i64.wrap xx=xx:=aj (by omega)
     have w2:IntKind.i64.wrap (mm+xx)=mm+xx:=aj (by omega)
     repeat first|with_reducible refine aq ?_|simp only[hk0,hk1,hk3,hk4,hget,hnu,hkm',wk,w1,w2,decide_true,decide_false,go_sem,simprocAttr]
     refine⟨_,_,_,?_,Wk.mk [3,2,1,0] [] ?_ ?_ ?_,k+1,rfl,by omega,rfl,rfl⟩
     ·omega
     ·exact a8
     ·exact .cr (.put1 (q:=k) (t:=1) (by simp only[go_sem,simprocAttr]<;>rfl) rfl (by decide) hkl rfl (by omega) hput (λi j _ _=>Dm l _ _ i j)) (.cr (.j4) (.cr (.j4) (.cr .ls .nil)))
     ·simp
    ·have hkm':¬(k:Int)<ms.length:=by omega
     repeat first|with_reducible refine aq ?_|simp only[hk0,hk1,hkm',wk,decide_true,decide_false,go_sem,simprocAttr]
     refine⟨_,_,_,?_,Wk.mk [3,2,1,0] [] ?_ ?_ ?_,k+1,rfl,by omega,rfl,rfl⟩
     ·omega
     ·exact a8
     ·rw[Ww (λm=>if_neg hkm)]
      exact .cr (.k2 (λi j _ _=>Dm l _ _ i j)) (.cr (.j4) (.cr (.j4) (.cr .ls .nil)))
     ·simp
   have hk':¬(k:Int)<l.length:=by omega
   obtain rfl:k=l.length:=by omega
   repeat first|with_reducible refine aq ?_|simp only[hk',decide_false,go_sem,simprocAttr]
   refine aW [3] (fargs:=[aH la loc cs,jL b.1 b.2 S.ht (lS (cf ms) 0 l)]) (.cons (.rfl rfl) (.cons (mr (n:=l.length) (z:=0) (row:=gC l (cf ms) l.length) (x:=ai 48 3 l.length 0 (gC l (cf ms) l.length)) (kc _ _ _).symm (λi j hi _=>Dl l _ hi j) (kb _ _ _) (by simp) (by simp only[go_sem,simprocAttr]<;>rfl) rfl rfl) .nil)) hS ?_ ?_
   ·simp only[go_sem,simprocAttr]
   repeat first|with_reducible refine aq ?_|simp only[go_sem,simprocAttr]
   refine aW [3] (fargs:=[aH la loc cs,jL b.1 b.2 S.ht (lS (cf ms) 0 l)]) (.cons (.rfl rfl) (.cons (mr (n:=l.length) (z:=0) (row:=gC l (cf ms) l.length) (x:=(ai 48 3 l.length 0 (gC l (cf ms) l.length)).fr) (kc _ _ _).symm (λi j hi _=>Dl l _ hi j) (kb _ _ _) (by simp) (by simp only[go_sem,simprocAttr]<;>rfl) rfl rfl) .nil)) hE ?_ ?_
   ·simp only[go_sem,simprocAttr]
   by_cases c1:281474976710657<=s'
   ·rw[show iG s'=(0,18) from if_pos c1]
    by_cases c2:281474976710657<=e'
    ·rw[show iG e'=(0,18) from if_pos c2]
     repeat first|with_reducible refine aq ?_|simp only[wi,gt_iff_lt,ne_eq,not_true_eq_false,not_false_eq_true,decide_true,decide_false,Bool.not_true,Bool.not_false,go_sem,simprocAttr]
     refine bS ([aH la loc cs,.n .i64 inp]) hL ?_
     by_cases c5:281474976710657<=aU b.1 (inp+1)
     ·rw[hlF,if_pos c5]
      repeat first|with_reducible refine aq ?_|simp only[gt_iff_lt,ne_eq,not_true_eq_false,not_false_eq_true,decide_true,decide_false,Bool.not_true,Bool.not_false,go_sem,simprocAttr]
      refine bS ([]) eO ?_
      repeat first|with_reducible refine aq ?_|simp only[go_sem,simprocAttr]
      exact aa rfl rfl
     ·rw[hlF,if_neg c5,htm c5]
      repeat first|with_reducible refine aq ?_|simp only[wi,wi1,wm,gt_iff_lt,ne_eq,not_true_eq_false,not_false_eq_true,decide_true,decide_false,Bool.not_true,Bool.not_false,go_sem,simprocAttr]
      refine bS ([]) eO ?_
      repeat first|with_reducible refine aq ?_|simp only[go_sem,simprocAttr]
      exact aa rfl rfl
    ·have c3:¬e'<b.2:=by omega
     rw[show iG e'=(e',0) from if_neg c2]
     repeat first|with_reducible refine aq ?_|simp only[wi,c3,gt_iff_lt,ne_eq,not_true_eq_false,not_false_eq_true,decide_true,decide_false,Bool.not_true,Bool.not_false,go_sem,simprocAttr]
     refine bS ([aH la loc cs,.n .i64 inp]) hL ?_
     by_cases c5:281474976710657<=aU b.1 (inp+1)
     ·rw[hlF,if_pos c5]
      repeat first|with_reducible refine aq ?_|simp only[gt_iff_lt,ne_eq,not_true_eq_false,not_false_eq_true,decide_true,decide_false,Bool.not_true,Bool.not_false,go_sem,simprocAttr]
      refine bS ([]) eO ?_
      repeat first|with_reducible refine aq ?_|simp only[go_sem,simprocAttr]
      exact aa rfl rfl
     ·rw[hlF,if_neg c5,htm c5]
      repeat first|with_reducible refine aq ?_|simp only[wi,wi1,wm,gt_iff_lt,ne_eq,not_true_eq_false,not_false_eq_true,decide_true,decide_false,Bool.not_true,Bool.not_false,go_sem,simprocAttr]
      refine bS ([]) eO ?_
      repeat first|with_reducible refine aq ?_|simp only[go_sem,simprocAttr]
      exact aa rfl rfl
   ·have c2:¬281474976710657<=e':=by omega
    have c3:¬e'<b.2:=by omega
    have c4:¬s'<b.1:=by omega
    have c6:¬s'<e':=by omega
    rw[show iG s'=(s',0) from if_neg c1,show iG e'=(e',0) from if_neg c2]
    repeat first|with_reducible refine aq ?_|simp only[wi,c3,c4,c6,gt_iff_lt,ne_eq,not_true_eq_false,not_false_eq_true,decide_true,decide_false,Bool.not_true,Bool.not_false,go_sem,simprocAttr]
    refine bS ([aH la loc cs,.n .i64 inp]) hL ?_
    by_cases c5:281474976710657<=aU b.1 (inp+1)
    ·rw[hlF,if_pos c5]
     repeat first|with_reducible refine aq ?_|simp only[gt_iff_lt,ne_eq,not_true_eq_false,not_false_eq_true,decide_true,decide_false,Bool.not_true,Bool.not_false,go_sem,simprocAttr]
     refine bS ([]) eO ?_
     repeat first|with_reducible refine aq ?_|simp only[go_sem,simprocAttr]
     exact aa rfl rfl
    ·rw[hlF,if_neg c5,htm c5]
     repeat first|with_reducible refine aq ?_|simp only[wi,wi1,wm,gt_iff_lt,ne_eq,not_true_eq_false,not_false_eq_true,decide_true,decide_false,Bool.not_true,Bool.not_false,go_sem,simprocAttr]
     refine bS ([]) eO ?_
     repeat first|with_reducible refine aq ?_|simp only[go_sem,simprocAttr]
     exact aa rfl rfl
end Go.Proofs.YtdpkgnmmikebdaaGreat