/- A part of the proof of CostReports: CrC. No condition. -/
import Derived.Test.YtdpkgnmmikebdaaGreatGe31
import Derived.Test.YtdpkgnmmikebdaaGreatGe22
set_option linter.unusedSimpArgs false
set_option linter.unusedVariables false
set_option linter.constructorNameAsVariable false
set_option maxRecDepth 100000
set_option maxHeartbeats 4000000
namespace Go.Proofs.YtdpkgnmmikebdaaGreat
open Go.RowKit
theorem qc{la:List (Bool×Int)}{n:Nat}{cs:List (Int×Int)}(ha:cL cs):ey la n cs≠none:=by
 unfold ey
 split
 ·rename_i h0
  obtain⟨m,hm,hn,hK,o,pt,hr,hpo⟩:=pM ha h0
  obtain rfl:n=m:=by omega
  rw[hpo]
  exact nG hn hK hr
 ·simp
theorem Bt{la:List (Bool×Int)}{n:Nat}{cs:List (Int×Int)}{e:Er}(h:ey la n cs=some (.error e)):e.2≠0:=by
 unfold ey at h
 split at h
 ·exact tB h
 ·rename_i h0;cases h;exact h0
section
variable (la:List (Bool×Int)) (n:Nat) (cs:List (Int×Int)) (hl:la.length<=9223372036854775807) (hc:cs.length<=9223372036854775807) (ha:cL cs)
include hl hc ha
theorem qe{S:WS}{b:Bd}(h:ey la n cs=some (.ok (S,b))):bU Tryz.prog 12 [aK la n cs] [.a (so cs S b),.v (.n .i64 0),.v (.n .i64 0)]:=by
 refine lF ((nF la n cs hl hc ha).mono (λv H q=>?_) (λc H q=>q))
 rcases q with⟨S',b',h',k,rfl,hk⟩|⟨e,h',_⟩
 ·rw[h] at h'
  cases h'
  exact⟨[_,_,_],rfl,⟨(by show 4<=8;decide),_,rfl,⟨rfl,rfl⟩,⟨rfl,rfl⟩,⟨rfl,rfl⟩,.inr ⟨k,rfl,by simp[sf],_,hk,rfl,rfl,by decide,rfl,Nat.le_refl _,Nat.le_refl _,λi j hi hj=>aN i j hj,λi j _ _=>mq _ i j⟩,trivial⟩,rfl,⟨rfl,rfl⟩,⟨rfl,rfl⟩,trivial⟩
 ·rw[h] at h'
  cases h'
theorem qf{e:Er}(h:ey la n cs=some (.error e)):bU Tryz.prog 12 [aK la n cs] [.v (.agg [.n .i64 0,.n .i64 0,.n .i64 0,.sl0]),.v (.n .i64 e.1),.v (.n .i64 e.2)]:=by
 refine lF ((nF la n cs hl hc ha).mono (λv H q=>?_) (λc H q=>q))
 rcases q with⟨S',b',h',k,rfl,hk⟩|⟨e',h',rfl⟩
 ·rw[h] at h'
  cases h'
 ·rw[h] at h'
  cases h'
  exact⟨[_,_,_],rfl,⟨rfl,rfl⟩,⟨rfl,rfl⟩,⟨rfl,rfl⟩,trivial⟩
end
def fC(la:List (Bool×Int))(loc:Int)(cs:List (Int×Int)):Option (Except Er (WS×Bd)):=
 if(cZ la loc cs).2=0 then ey la loc.toNat cs else some (.error ((cZ la loc cs).1,(cZ la loc cs).2))
theorem pL{la:List (Bool×Int)}{loc:Int}{cs:List (Int×Int)}(ha:cL cs)(h:(cZ la loc cs).2=0):((loc.toNat:Nat):Int)=loc:=by
 obtain⟨m,hm,_⟩:=pM ha h
 omega
theorem lL{la:List (Bool×Int)}{loc:Int}{cs:List (Int×Int)}(ha:cL cs):fC la loc cs≠none:=by
 unfold fC
 split
 ·exact qc ha
 ·simp
theorem qb{la:List (Bool×Int)}{loc:Int}{cs:List (Int×Int)}{e:Er}(h:fC la loc cs=some (.error e)):e.2≠0:=by
 unfold fC at h
 split at h
 ·exact Bt h
 ·rename_i h0;cases h;exact h0
theorem lZ{la:List (Bool×Int)}{loc:Int}{cs:List (Int×Int)}{S:WS}{b:Bd}(ha:cL cs)(h:fC la loc cs=some (.ok (S,b))):
  (cZ la loc cs).2=0/\eA la loc cs (dB cs S)=0/\aP (dB cs S) (aD cs).1 0=b.1/\a9 cs (dB cs S) (aD cs).1 0=b.2/\(0<=b.1/\b.1<=281474976710656)/\0<=b.2/\b.2<=b.1:=by
 unfold fC at h
 split at h
 ·rename_i h0
  have:=uS ha h
  rwa [pL ha h0] at this
 ·cases h
theorem sa(la:List (Bool×Int))(loc:Int)(cs:List (Int×Int))(hl:la.length<=9223372036854775807)(hc:cs.length<=9223372036854775807)(ha:cL cs)(h0:(cZ la loc cs).2≠0):
  bU Tryz.prog 12 [aK la loc cs] [.v (.agg [.n .i64 0,.n .i64 0,.n .i64 0,.sl0]),.v (.n .i64 (cZ la loc cs).1),.v (.n .i64 (cZ la loc cs).2)]:=by
 refine lF (cS JP ⟨by simp,by decide⟩ ?_)
 simp only[aF,aK]
 repeat first|with_reducible refine GE.g ?_|simp only[go_sem,simprocAttr]
 refine dR ([aK la loc cs]) (i9 la loc cs hl hc ha) ?_
 repeat first|with_reducible refine GE.g ?_|simp only[h0,ne_eq,not_true_eq_false,not_false_eq_true,decide_true,decide_false,Bool.not_true,Bool.not_false,go_sem,simprocAttr]
 exact⟨[_,_,_],rfl,⟨rfl,rfl⟩,⟨rfl,rfl⟩,⟨rfl,rfl⟩,trivial⟩
section
variable (la:List (Bool×Int)) (loc:Int) (cs:List (Int×Int)) (hl:la.length<=9223372036854775807) (hc:cs.length<=9223372036854775807) (ha:cL cs)
include hl hc ha
theorem lM{S:WS}{b:Bd}(h:fC la loc cs=some (.ok (S,b))):bU Tryz.prog 12 [aK la loc cs] [.a (so cs S b),.v (.n .i64 0),.v (.n .i64 0)]:=by
 unfold fC at h
 split at h
 ·rename_i h0
  have:=qe la loc.toNat cs hl hc ha h
  rwa [pL ha h0] at this
 ·cases h
theorem lN{e:Er}(h:fC la loc cs=some (.error e)):bU Tryz.prog 12 [aK la loc cs] [.v (.agg [.n .i64 0,.n .i64 0,.n .i64 0,.sl0]),.v (.n .i64 e.1),.v (.n .i64 e.2)]:=by
 unfold fC at h
 split at h
 ·rename_i h0
  have:=qf la loc.toNat cs hl hc ha h
  rwa [pL ha h0] at this
 ·rename_i h0
  cases h
  exact sa la loc cs hl hc ha h0
end
def kq(la:List (Bool×Int))(n:Int)(cs:List (Int×Int))(inputs:Int):Int×Int×Int:=match fC la n cs with
 |some (.ok (S,b))=>if inputs<0\/65536<inputs then(0,0,2) else if 281474976710657<=bb b.1 (inputs+1) then(0,0,18) else(kP la n,bb b.1 (inputs+1),0)
 |some (.error e)=>(0,0,e.2)
 |none=>(0,0,0)
theorem vD(la:List (Bool×Int))(n:Int)(cs:List (Int×Int))(hl:la.length<=9223372036854775807)(hc:cs.length<=9223372036854775807)(ha:cL cs)(inputs:Int)(hi:inputs<=65535):
  bU Tryz.prog 10 [aK la n cs,.n .i64 inputs] [.v (.agg [.n .i64 (kq la n cs inputs).1,.n .i64 (kq la n cs inputs).2.1]),.v (.n .i64 (kq la n cs inputs).2.2)]:=by
 refine ah aE Dd ⟨by simp,by decide⟩ ?_
 simp only[aF,aK]
 repeat first|with_reducible refine au ?_|simp only[go_sem,simprocAttr]
 cases hv:fC la n cs with
 |none=>exact absurd hv (lL ha)
 |some R=>
  cases R with
  |error e=>
   have hF:kq la n cs inputs=(0,0,e.2):=by unfold kq;rw[hv]
   have he:=qb hv
   refine b6 ([aK la n cs]) (lN la n cs hl hc ha hv) ?_
   repeat first|with_reducible refine au ?_|simp only[he,ne_eq,not_true_eq_false,not_false_eq_true,decide_true,decide_false,Bool.not_true,Bool.not_false,go_sem,simprocAttr]
   rw[hF]
   exact⟨[_,_],rfl,⟨rfl,rfl⟩,⟨rfl,rfl⟩,trivial⟩
  |ok q=>
   obtain⟨S,b⟩:=q
   obtain⟨h0,_,_,_,hb1,hb2⟩:=lZ ha hv
   refine b6 ([aK la n cs]) (lM la n cs hl hc ha hv) ?_
   simp only[so]
   have hfm:bh la n cs=0:=by
    unfold cZ at h0
    split at h0
    ·assumption
    ·rename_i h1;exact absurd h0 h1
   by_cases i1:inputs<0
   ·have hF:kq la n cs inputs=(0,0,2):=by unfold kq;rw[hv];exact if_pos (.inl i1)
    repeat first|with_reducible refine au ?_|simp only[i1,ne_eq,not_true_eq_false,not_false_eq_true,decide_true,decide_false,Bool.not_true,Bool.not_false,go_sem,simprocAttr]
    rw[hF]
    exact⟨[_,_],rfl,⟨rfl,rfl⟩,⟨rfl,rfl⟩,trivial⟩
   by_cases i2:65536<inputs
   ·omega
   have wi:IntKind.i64.wrap (inputs+1)=inputs+1:=aj (by omega)
   have hF:kq la n cs inputs=if 281474976710657<=bb b.1 (inputs+1) then(0,0,18) else(kP la n,bb b.1 (inputs+1),0):=by
    unfold kq;rw[hv];exact if_neg (by omega)
   repeat first|with_reducible refine au ?_|simp only[i1,i2,gt_iff_lt,ne_eq,not_true_eq_false,not_false_eq_true,decide_true,decide_false,Bool.not_true,Bool.not_false,go_sem,simprocAttr]
   refine b6 ([aK la n cs]) (l7 la n cs hl hc ha) ?_
   rw[hfm,if_pos rfl]
   repeat first|with_reducible refine au ?_|simp only[wi,ne_eq,not_true_eq_false,not_false_eq_true,decide_true,decide_false,Bool.not_true,Bool.not_false,go_sem,simprocAttr]
   refine b6 ([.n .i64 b.1,.n .i64 (inputs+1)]) (nI b.1 (inputs+1) (by omega) (by omega)) ?_
   repeat first|with_reducible refine au ?_|simp only[wi,go_sem,simprocAttr]
   refine b6 ([.n .i64 (bb b.1 (inputs+1))]) (ir _) ?_
   by_cases i3:281474976710657<=bb b.1 (inputs+1)
   ·rw[if_pos i3] at hF
    rw[hF,show nv (bb b.1 (inputs+1))=(0,18) from if_pos i3]
    repeat first|with_reducible refine au ?_|simp only[ne_eq,not_true_eq_false,not_false_eq_true,decide_true,decide_false,Bool.not_true,Bool.not_false,go_sem,simprocAttr]
    exact⟨[_,_],rfl,⟨rfl,rfl⟩,⟨rfl,rfl⟩,trivial⟩
   ·rw[if_neg i3] at hF
    rw[hF,show nv (bb b.1 (inputs+1))=(bb b.1 (inputs+1),0) from if_neg i3]
    repeat first|with_reducible refine au ?_|simp only[ne_eq,not_true_eq_false,not_false_eq_true,decide_true,decide_false,Bool.not_true,Bool.not_false,go_sem,simprocAttr]
    exact⟨[_,_],rfl,⟨rfl,rfl⟩,⟨rfl,rfl⟩,trivial⟩
theorem Oz(a b:Int):nu 9 (.st [(0,1,.n),(1,1,.n)]) (.agg [.n .i64 a,.n .i64 b]) (.agg [.n .i64 a,.n .i64 b])=some true:=by
 simp[nu,wa,qA,SH.row,OX]
theorem tI(cs:List (Int×Int))(S:WS)(b:Bd){M:List Nat}{H:AH}{k:Nat}(hm:k ∈ M){x:AB}(hk:H.at k=some x)(hz:x.size=(ai 48 3 (bt S.lp cs.length).length 0 (nk (bt S.lp cs.length))).size)(hg:x.get=(ai 48 3 (bt S.lp cs.length).length 0 (nk (bt S.lp cs.length))).get):
  Cv M H (.agg [.n .i64 b.1,.n .i64 b.2,.n .i64 S.ht,.os k (bt S.lp cs.length).length]) (k8 b.1 b.2 S.ht (dB cs S)):=by
 unfold k8
 rw[qx]
 refine .agg rfl λi v v' h1 h2=>?_
 rcases i with _|_|_|_|i<;>cases h1<;>cases h2
 ·exact .rfl rfl
 ·exact .rfl rfl
 ·exact .rfl rfl
 ·exact .os hm hk (by rw[hz];exact Nat.le_refl _) (λi j _ hj=>by rw[hg,xU];exact aN i j hj) (λi j _ _=>by rw[xU];exact mq _ i j)
theorem ll(la:List (Bool×Int))(loc:Int)(cs:List (Int×Int))(hl:la.length<=9223372036854775807)(hc:cs.length<=9223372036854775807)(ha:cL cs):bU Tryz.prog 4 [aK la loc cs] [.v (.b true)]:=by
 refine ah aE KG ⟨by simp,by decide⟩ ?_
 simp only[aF,aK]
 repeat first|with_reducible refine au ?_|simp only[go_sem,simprocAttr]
 refine b6 ([aK la loc cs]) (CD la loc cs) ?_
 cases hF:ns la cs
 ·repeat first|with_reducible refine au ?_|simp only[hF,go_sem,simprocAttr]
  refine b6 ([]) iw ?_
  repeat first|with_reducible refine au ?_|simp only[go_sem,simprocAttr]
  exact ae rfl rfl
 repeat first|with_reducible refine au ?_|simp only[hF,go_sem,simprocAttr]
 have hL:=vD la loc cs hl hc ha 0 (by decide)
 cases hv:fC la loc cs with
 |none=>exact absurd hv (lL ha)
 |some R=>
  cases R with
  |error e=>
   have he:=qb hv
   have hlF:kq la loc cs 0=(0,0,e.2):=by unfold kq;rw[hv]
   rw[hlF] at hL
   refine b6 ([aK la loc cs]) (lN la loc cs hl hc ha hv) ?_
   repeat first|with_reducible refine au ?_|simp only[he,ne_eq,not_true_eq_false,not_false_eq_true,decide_true,decide_false,Bool.not_true,Bool.not_false,go_sem,simprocAttr]
   refine b6 ([aK la loc cs,.n .i64 0]) hL ?_
   repeat first|with_reducible refine au ?_|simp only[decide_true,go_sem,simprocAttr]
   refine b6 ([]) iw ?_
   repeat first|with_reducible refine au ?_|simp only[go_sem,simprocAttr]
   exact ae rfl rfl
  |ok q=>
   obtain⟨S,b⟩:=q
   obtain⟨h0,hO,hs,he,hb1,hb2⟩:=lZ ha hv
   have hlF:kq la loc cs 0=(kP la loc,b.1,0):=by
    have e1:bb b.1 (0+1)=b.1:=by rw[ja (by omega) (by decide)];unfold bj;split<;>omega
    unfold kq
    rw[hv]
    dsimp only
    rw[if_neg (by decide),e1,if_neg (by omega)]
   rw[hlF] at hL
   have hfm:bh la loc cs=0:=by
    unfold cZ at h0
    split at h0
    ·assumption
    ·rename_i h1;exact absurd h0 h1
   have hlen:(dB cs S).length<=1024:=by
    have:=mw S.lp cs.length
    rw[qx]
    have:=(mS h0).2
    omega
   have hS:=sY la loc cs hl hc ha b.1 b.2 S.ht (dB cs S) hlen (qw cs S)
   have hE:=ta la loc cs hl hc ha b.1 b.2 S.ht (dB cs S) hlen (qw cs S)
   rw[show ke la loc cs (dB cs S)=(b.1,0) by unfold ke;rw[if_pos hO,hs];exact if_neg (by omega)] at hS
   rw[show kw la loc cs (dB cs S)=(b.2,0) by unfold kw;rw[if_pos hO,he];exact if_neg (by omega)] at hE
   refine b6 ([aK la loc cs]) (lM la loc cs hl hc ha hv) ?_
   simp only[so]
   repeat first|with_reducible refine au ?_|simp only[ne_eq,not_true_eq_false,not_false_eq_true,decide_true,decide_false,Bool.not_true,Bool.not_false,go_sem,simprocAttr]
   refine bL [1] (fargs:=[aK la loc cs,k8 b.1 b.2 S.ht (dB cs S)]) (.cons (.rfl rfl) (.cons (tI cs S b (by simp) (by simp only[go_sem,simprocAttr]<;>rfl) rfl rfl) .nil)) hS ?_ ?_
   ·simp only[go_sem,simprocAttr]
   repeat first|with_reducible refine au ?_|simp only[go_sem,simprocAttr]
   refine bL [1] (fargs:=[aK la loc cs,k8 b.1 b.2 S.ht (dB cs S)]) (.cons (.rfl rfl) (.cons (tI cs S b (x:=(ai 48 3 (bt S.lp cs.length).length 0 (nk (bt S.lp cs.length))).fr) (by simp) (by simp only[go_sem,simprocAttr]<;>rfl) rfl rfl) .nil)) hE ?_ ?_
   ·simp only[go_sem,simprocAttr]
   repeat first|with_reducible refine au ?_|simp only[go_sem,simprocAttr]
   refine b6 ([aK la loc cs,.n .i64 0]) hL ?_
   repeat first|with_reducible refine au ?_|simp only[go_sem,simprocAttr]
   refine b6 ([aK la loc cs]) (l7 la loc cs hl hc ha) ?_
   rw[hfm,if_pos rfl]
   have w00:IntKind.i64.wrap 0=0:=rfl
   repeat first|with_reducible refine au ?_|simp only[w00,Int.add_zero,Oz,decide_true,go_sem,simprocAttr]
   refine b6 ([]) iw ?_
   repeat first|with_reducible refine au ?_|simp only[go_sem,simprocAttr]
   exact ae rfl rfl
end Go.Proofs.YtdpkgnmmikebdaaGreat