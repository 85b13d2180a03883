/- A part of the proof of CostBounds: FlE FlF. No condition. -/
import Derived.Test.YthehakngpbjgjaaGreatGd27
import Derived.Test.YthehakngpbjgjaaGreatGd24
set_option linter.unusedSimpArgs false
set_option linter.unusedVariables false
set_option linter.constructorNameAsVariable false
set_option maxRecDepth 100000
set_option maxHeartbeats 4000000
namespace Go.Proofs.YthehakngpbjgjaaGreat
open Go.RowKit
theorem j9{x:Int}(h:0<=x)(h2:x<18446744073709551616):IntKind.u64.wrap x=x:=by rw[IntKind.wrap_u64];omega
theorem XO{n:Nat}(h:n<4294967296):bits .and .u64 (n:Int) 4294967295=(n:Int):=by
 have e1:(BitVec.ofInt 64 (n:Int)).toNat=n:=by
  rw[BitVec.ofInt_natCast,BitVec.toNat_ofNat,Nat.mod_eq_of_lt (by omega)]
 have e2:(BitVec.ofInt 64 4294967295).toNat=2^32-1:=by rfl
 show IntKind.u64.wrap ((BitVec.ofInt 64 (n:Int)&&& BitVec.ofInt 64 4294967295).toNat:Int)=n
 rw[BitVec.toNat_and,e1,e2,Nat.and_two_pow_sub_one_eq_mod,Nat.mod_eq_of_lt (by omega)]
 exact j9 (by omega) (by omega)
theorem o9(n:Nat)(hn:n<=1024):cg Tryz.prog 103 [.n .u64 1,.n .u64 n] [.v (.n .u64 0),.v (.n .u64 n)]:=by
 have ha:=XO (n:=n) (by omega)
 have hb:(n:Int) / 2^min 32 64=0:=Int.ediv_eq_zero_of_lt (by omega) (by rw[show(2:Int)^min 32 64=4294967296 by decide];omega)
 have hw:IntKind.u64.wrap (n:Int)=n:=j9 (by omega) (by omega)
 refine az am yr ⟨by simp,by decide⟩ ?_
 simp only[aQ]
 have h1:bits .and .u64 1 4294967295=1:=by decide
 have h2:(1:Int) / 2^min 32 64=0:=by decide
 have h3:IntKind.u64.wrap 0=0:=by decide
 have h4:bits .and .u64 0 4294967295=0:=by decide
 have h5:(0:Int) / 2^min 32 64=0:=by decide
 repeat first|with_reducible refine ay ?_|simp only[ha,hb,h1,h2,h3,h4,h5,hw,Int.one_mul,Int.zero_mul,Int.mul_zero,Int.add_zero,Int.zero_add,go_sem,simprocAttr]
 exact⟨[_,_],rfl,⟨rfl,rfl⟩,⟨rfl,rfl⟩,trivial⟩
theorem xa(n:Nat)(hn:n<=1024):cg Tryz.prog 85 [.n .u64 1,.n .u64 n] [.v (.n .u64 0),.v (.n .u64 n)]:=by
 refine az am yu ⟨by simp,by decide⟩ ?_
 simp only[aQ]
 repeat first|with_reducible refine ay ?_|simp only[go_sem,simprocAttr]
 refine ae [] (fargs:=[.n .u64 1,.n .u64 n]) (aV.same rfl) (o9 n hn) ?_ ?_
 ·simp only[go_sem,simprocAttr]
 repeat first|with_reducible refine ay ?_|simp only[go_sem,simprocAttr]
 exact⟨[_,_],rfl,⟨rfl,rfl⟩,⟨rfl,rfl⟩,trivial⟩
theorem jS{H:AH}{b:Nat}{x:AB}{v:AV}(hx:H.at b=some x):∀(m o:Nat),o+m<=x.size->(∀i,o<=i->i<o+m->x.get i=v)->H.loadN b o m=some (List.replicate m v)
 |0,o,_,_=>rfl
 |m+1,o,h,hg=>by
  rw[AH.loadN,AH.load,hx]
  simp only[show o<x.size by omega,if_true,hg o (Nat.le_refl _) (by omega)]
  rw[jS hx m (o+1) (by omega) (λi h1 h2=>hg i (by omega) (by omega))]
  rfl
theorem mr{H:AH}{b:Nat}{x:AB}{v:AV}(hb:b<1000000)(hx:H.at b=some x){m o:Nat}(hm:0<m)(h:o+m<=x.size)(hz:x.fzn=0):H.storeN b o (List.replicate m v)=some (H.upd b (x.putN o (List.replicate m v))):=by
 obtain⟨q,rfl⟩:∃q,m=q+1:=⟨m-1,by omega⟩
 rw[List.replicate_succ,fV hb,hx]
 simp only[List.length_replicate]
 rw[if_pos ⟨h,by omega⟩]
def rC(k:Nat)(i _j:Nat):AV:= .n .i64 (if i<k then-1 else 0)
theorem JN(n:Nat)(hn:n<=1024):PC Tryz.prog (λ_=>false) 98 [.sl 0 0 1 1,.n .i64 n] (ag [aj 1 3 [.n .i64 (-1)]]) (λv H'=>v= .os 0 n/\H'=ag [ah 3 1 n 0 (iC (List.replicate n (-1)))]) (λ_ _=>False):=by
 have h1:¬(n:Int)<0:=by omega
 have w1:IntKind.u64.wrap (n:Int)=n:=j9 (by omega) (by omega)
 have w2:IntKind.u64.wrap 1=1:=by decide
 have w3:IntKind.i64.wrap (n:Int)=n:=ao (by omega)
 have h2:¬(9223372036854775807:Int)<n:=by omega
 refine PC.vw (fP yw ⟨by simp,by decide⟩ ?_)
 simp only[aQ]
 repeat (first|(with_reducible refine GE.go am rfl ?_)|simp only[h1,w1,w2,decide_false,go_sem,simprocAttr])
 refine bg [] (fargs:=[.n .u64 1,.n .u64 n]) (aV.same rfl) (xa n hn) ?_ ?_
 ·simp only[go_sem,simprocAttr]
 have hms:0<=(n:Int)/\(n:Int)<=n/\(n:Int)<=16777216/\8*n<=140737488355328/\n<1099511627776:=⟨by omega,by omega,by omega,by omega,by omega⟩
 have hm1:Nat.min 1 n=if n=0 then 0 else 1:=by
  by_cases h:n=0
  ·subst h;rfl
  ·rw[if_neg h];exact Nat.min_eq_left (by omega)
 repeat (first|(with_reducible refine GE.go am rfl ?_)|simp only[h2,w3,hms,decide_false,go_sem,simprocAttr])
 have fin:Vw (λ_=>false) (λv H'=>v= .os 0 n/\H'=ag [ah 3 1 n 0 (iC (List.replicate n (-1)))]) (.os 1 n) (ag [ah 3 1 n 0 (rC n),aj 1 3 [.n .i64 (-1)]]):=
  eP [1] [] (.os 0 n) [ah 3 1 n 0 (iC (List.replicate n (-1)))] (.cons rfl (.same (row:=rC n) (by simp only[go_sem,simprocAttr]) rfl (by decide) (λi j hi hj=>by simp only[rC,iC,if_pos hi,List.getD_eq_getElem?_getD,List.getElem?_replicate];rfl) (λ_ _ _ _=>rfl)) .nil) (Wv.os rfl) (by simp) eF ⟨rfl,rfl⟩
 have hround:∀(Q:AE->Tr AV->AH->Prop) m e H,(∃k,m+k=n/\(n=0\/0<k)/\e=aC [(7,.os 1 n),(8,.n .i64 (k:Nat))]/\H=ag [ah 3 1 n 0 (rC k),aj 1 3 [.n .i64 (-1)]])->(Q (.exit 0) (aC [(37,.b false),(36,.n .i64 n),(35,.os 1 n),(34,.n .i64 n),(7,.os 1 n),(8,.n .i64 n)]) (ag [ah 3 1 n 0 (rC n),aj 1 3 [.n .i64 (-1)]]))->GE Tryz.prog 48 (λ_=>false) (aa Tryz.prog 98) yx e H (mz 48 (λ_=>false) (λm e H=>∃k,m+k=n/\(n=0\/0<k)/\e=aC [(7,.os 1 n),(8,.n .i64 (k:Nat))]/\H=ag [ah 3 1 n 0 (rC k),aj 1 3 [.n .i64 (-1)]]) Q m) (λ_ _=>False):=by
  rintro Q m e H ⟨k,hk,hk0,rfl,rfl⟩ hQ
  have h0k:(0:Int)<=(k:Int):=by omega
  by_cases hkn:k<n
  ·have hkn':(k:Int)<n:=by omega
   repeat (first|with_reducible refine GE.seq ?_|with_reducible refine GE.block ?_|with_reducible refine GE.skip ?_|with_reducible refine GE.reg ?_|with_reducible refine GE.cond ?_|simp only[hkn',h0k,decide_true,go_sem,simprocAttr])
   refine GE.mixm am 1 (by simp only[go_sem,simprocAttr,bP]) ?_
   have hs1:¬(k:Int)=0:=by omega
   have hs2:0<(k:Int):=by omega
   have hs3:(k:Int)<=n:=by omega
   obtain⟨q,hq⟩:∃q,Nat.min k (n-k)=q:=⟨_,rfl⟩
   have hq2:q<=k/\q<=n-k/\0<q/\(q=k\/q=n-k):=by
    rw[<-hq]
    have e1:=Nat.min_le_left k (n-k)
    have e2:=Nat.min_le_right k (n-k)
    have e3:min k (n-k)=k\/min k (n-k)=n-k:=by omega
    have e4:Nat.min k (n-k)=min k (n-k):=rfl
    rw[e4]
    omega
   have hq0:¬q=0:=by omega
   simp only[hs1,hs2,hs3,h0k,hkn',Int.le_refl,hq,hq0,uo,l8,Option.bind_some,Nat.mul_one,go_sem,simprocAttr]
   obtain⟨HH,hHH⟩:∃HH,HH=(ag [ah 3 1 n 0 (rC k),aj 1 3 [.n .i64 (-1)]]).setLow (2^40):=⟨_,rfl⟩
   have hat:HH.at 1=some (ah 3 1 n 0 (rC k)):=by rw[hHH];simp only[go_sem,simprocAttr]
   have hld:HH.loadN 1 0 q=some (List.replicate q (.n .i64 (-1))):=jS hat q 0 (by show 0+q<=n*1;omega) (λi _ hi=>by rw[dd];simp only[rC,if_pos (show i<k by omega)])
   have hst:HH.storeN 1 k (List.replicate q (.n .i64 (-1)))=some (HH.upd 1 ((ah 3 1 n 0 (rC k)).putN k (List.replicate q (.n .i64 (-1))))):=mr (by decide) hat hq2.2.2.1 (by show k+q<=n*1;omega) rfl
   rw[hHH] at hld hst
   have hone:(List.replicate q (AV.n .i64 (-1))).all AV.one=true:=by rw[List.all_replicate];simp[AV.one]
   have wq:IntKind.i64.wrap ((k:Int)+q)=((k+q:Nat):Int):=(ao (by omega)).trans (by omega)
   rw[hld]
   dsimp only
   rw[hst,hone]
   simp only[wq,go_sem,simprocAttr]
   refine⟨m-q,_,_,by omega,ce.mk [1,0] [] ?_ ?_ (by simp) eF,k+q,by omega,by omega,rfl,rfl⟩
   ·simp only[aK,aJ,go_sem,simprocAttr]
    repeat' refine af ?_ ?_
    all_goals first|exact aR|skip
   ·exact .cons rfl (.rows (x:=_) (by simp only[go_sem,simprocAttr]<;>rfl) (by rfl) (by rfl) (by rfl) (Nat.le_refl _) (by rw[if_neg (by simp)];exact Nat.le_refl _) (by decide) (λi j hi hj=>by
     cases Nat.lt_one_iff.1 hj
     rw[dC (by rw[List.length_replicate];omega),List.length_replicate]
     simp only[Nat.mul_one,Nat.add_zero]
     by_cases hh:k<=i/\i<k+q
     ·rw[if_pos hh,List.getElem?_replicate,if_pos (by omega)]
      simp only[rC,if_pos hh.2]
      rfl
     ·rw[if_neg hh,dd]
      simp only[rC]
      by_cases h3:i<k
      ·rw[if_pos h3,if_pos (by omega)]
      ·rw[if_neg h3,if_neg (by omega)]) (λ_ _ _ _=>rfl)) (.cons rfl (.lstj (x:=_) (by simp only[go_sem,simprocAttr]<;>rfl) (by rfl) (by rfl) (by rfl) (by rfl) (by rfl) (by rfl) (by simp) (λi hi=>by rcases bi hi with rfl<;>(simp only[go_sem,simprocAttr];first|exact Wv.same rfl))) .nil)
  ·have hkn':¬(k:Int)<n:=by omega
   obtain rfl:k=n:=by omega
   repeat (first|(with_reducible refine GE.go am rfl ?_)|simp only[hkn',decide_false,go_sem,simprocAttr])
   exact hQ
 by_cases hn0:n=0
 ·rw[if_pos hn0] at hm1
  simp only[hm1,uo,l8,Option.bind_some,go_sem,simprocAttr]
  repeat (first|(with_reducible refine GE.go am rfl ?_)|simp only[go_sem,simprocAttr])
  refine GE.loop (I:=λm e H=>∃k,m+k=n/\(n=0\/0<k)/\e=aC [(7,.os 1 n),(8,.n .i64 (k:Nat))]/\H=ag [ah 3 1 n 0 (rC k),aj 1 3 [.n .i64 (-1)]]) (m:=0) (ce.mk [1,0] [] ?_ ?_ (by simp) eF) ⟨0,by omega,by omega,rfl,rfl⟩ ?_
  ·simp only[aK,aJ,go_sem,simprocAttr]
   repeat' refine af ?_ ?_
   all_goals first|exact aR|skip
  ·exact .cons rfl (.same (row:=λ_ j=>[AV.n .i64 0][j]?.getD .u) (row2:=rC 0) (by simp only[go_sem,simprocAttr]) rfl (by decide) (λi j hi=>by omega) (λ_ _ _ _=>rfl)) (.cons rfl (.lstj (x:=_) (by simp only[go_sem,simprocAttr]<;>rfl) (by rfl) (by rfl) (by rfl) (by rfl) (by rfl) (by rfl) (by simp) (λi hi=>by rcases bi hi with rfl<;>(simp only[go_sem,simprocAttr];first|exact Wv.same rfl))) .nil)
  intro m e H hI
  refine hround _ m e H hI ?_
  simp only[go_sem,simprocAttr]
  repeat (first|(with_reducible refine GE.go am rfl ?_)|simp only[go_sem,simprocAttr])
  exact fin
 ·rw[if_neg hn0] at hm1
  have hn1:1<=n:=by omega
  simp only[hm1,hn1,uo,l8,Option.bind_some,go_sem,simprocAttr]
  repeat (first|(with_reducible refine GE.go am rfl ?_)|simp only[go_sem,simprocAttr])
  refine GE.loop (I:=λm e H=>∃k,m+k=n/\(n=0\/0<k)/\e=aC [(7,.os 1 n),(8,.n .i64 (k:Nat))]/\H=ag [ah 3 1 n 0 (rC k),aj 1 3 [.n .i64 (-1)]]) (m:=(n-1)) (ce.mk [1,0] [] ?_ ?_ (by simp) eF) ⟨1,by omega,by omega,rfl,rfl⟩ ?_
  ·simp only[aK,aJ,go_sem,simprocAttr]
   repeat' refine af ?_ ?_
   all_goals first|exact aR|skip
  ·exact .cons rfl (.put1 (row:=λ_ j=>[AV.n .i64 0][j]?.getD .u) (row2:=rC 1) (o:=0) (q:=0) (t:=0) (v:= .n .i64 (-1)) (by simp only[go_sem,simprocAttr]) rfl (by decide) (by omega) rfl (by omega) (λi j hi hj=>by cases Nat.lt_one_iff.1 hj;simp only[rC];by_cases hh:i=0<;>simp[hh]) (λ_ _ _ _=>rfl)) (.cons rfl (.lstj (x:=_) (by simp only[go_sem,simprocAttr]<;>rfl) (by rfl) (by rfl) (by rfl) (by rfl) (by rfl) (by rfl) (by simp) (λi hi=>by rcases bi hi with rfl<;>(simp only[go_sem,simprocAttr];first|exact Wv.same rfl))) .nil)
  intro m e H hI
  refine hround _ m e H hI ?_
  simp only[go_sem,simprocAttr]
  repeat (first|(with_reducible refine GE.go am rfl ?_)|simp only[go_sem,simprocAttr])
  exact fin
theorem qh{P:Program}{n:Nat}{kk kk':Nat->Bool}{g:FuncId}{args:List AV}{e:Tr AV}{H:AH}{Q':AV->AH->Prop}{E':List PanicEntry->AH->Prop}{Q:AV->Tr AV->AH->Prop}{E:List PanicEntry->AH->Prop}
  (ρ M:List Nat) (L:List (Nat×AV)) (args2:List AV) (bl:List AB) (h:PC P kk' g args2 (ag bl) Q' E')
  (he:aK (λb2=>ρ.reverse[b2]?) M H e L) (hh:aJ (λb2=>ρ.reverse[b2]?) M H ρ bl) (hv:KW (λb2=>ρ.reverse[b2]?) M H args args2) (hl:bl.length<1000000) (hL:(L.all λp=>decide (p.1<1000000)&&p.2.pu 3)=true)
  (hkk:∀b,kk b=false) (hQ:∀v H',Q' v H'->Q v (aC L) H') (hE:∀c H',E' c H'->E c H'):fA P n kk g args e H Q E:=by
 refine⟨h.1,λB σ a w args' hEn hH ha'=>?_⟩
 obtain⟨σ2,q1,q2,q3,q4,q5,q6⟩:=Wk.mkE (ob:=λ_=>none) ρ M he hh hl (λr x hx=>by cases hx) hEn hH
 rw[aw] at q2
 have hA:dK (λ_=>false) B σ w σ2 w:=by
  refine⟨Below.refl _ _,q3,λb c o hs=>?_,λ_ _ _=> .inl rfl,λc _ hn=>q5 c hn,λb x hb hs=>by cases hb⟩
  rw[q4] at hs
  obtain⟨b0,h1,h2⟩:=Option.bind_eq_some_iff.1 hs
  exact .inl ⟨b0,o,h2⟩
 have hargs:aM σ2 args2 args'.toList:=by
  obtain⟨v1,v2⟩:=hv.get
  refine⟨v1.symm.trans ha'.1,λi v' hv'=>?_⟩
  obtain⟨v,g1,g2⟩:=v2 i v' hv'
  exact q6 g2 (ha'.2 i v g1)
 refine(h.2 B σ2 w args' q2 hargs).mono λen w' hp=>?_
 cases en with
 |returned u=>
  obtain⟨v,H',σ',r0,r1,r2,r3⟩:=hp
  have hall:=hA.trans r3.no
  refine⟨v,_,H',σ',hQ v H' r0,r1,⟨⟨q1.er.df,λt v hv=>?_⟩,q1.sz,q1.sm⟩,r2,hall.bel,hall.fzb,hall.im,hall.same,hall.fz,λb x hb _=>by rw[hkk b] at hb;cases hb⟩
  have e1:=(q1.er.get t v hv).pure 3 (uq.nm hL t v hv)
  have e2:σ2.bare.le σ':=⟨λb x hx=>(by cases hx),λb hb=>False.elim hb,λc fs hf=>r3.fzb.le c fs hf⟩
  exact e1.mono e2
 |panicked c=>
  obtain⟨H',σ',r0,r1,r2⟩:=hp
  exact⟨H',σ',hE c H' r0,r1,hA.trans r2⟩
 |outgrown=>exact hp.elim
theorem tZ(cs:List (Int×Int)):PC Tryz.prog (λ_=>false) 81 [.fs 2 cs.length (pI cs)] (ag [])
  (λv H'=>cs.length<=1024/\v= .p 0 0/\H'=ag [ah 3 1 (List.replicate cs.length (-1:Int)).length 0 (iC (List.replicate cs.length (-1))),aj 0 150 [.fs 2 cs.length (pI cs),.n .i64 0,.os 1 (List.replicate cs.length (-1:Int)).length]]) (λc _=>1024<cs.length/\c=eJ 0 6):=by
 refine PC.vw (fP yA ⟨by simp,by decide⟩ ?_)
 simp only[aQ]
 by_cases hn:cs.length<=1024
 ·have hn':(cs.length:Int)<=1024:=by omega
  repeat (first|(with_reducible refine GE.go am rfl ?_)|simp only[hn',decide_true,go_sem,simprocAttr])
  refine bg [] (fargs:=[.b true,.n .i64 (0:Nat),.n .i64 6]) (aV.same rfl) (bI (0:Nat) 6) ?_ ?_
  ·simp only[go_sem,simprocAttr]
  repeat (first|(with_reducible refine GE.go am rfl ?_)|simp only[go_sem,simprocAttr])
  refine qh [0] [] [(7,.fs 2 cs.length (pI cs))] [.sl 0 0 1 1,.n .i64 cs.length] [aj 1 3 [.n .i64 (-1)]] (JN cs.length hn) ?_ ?_ ?_ (by simp) (by rfl) (λ_=>rfl) ?_ (λ_ _ h=>h.elim)
  ·simp only[aK,aJ,go_sem,simprocAttr]
   repeat' refine af ?_ ?_
   all_goals first|exact aR|skip
  ·exact .cons rfl (.lstj (x:=_) (by simp only[go_sem,simprocAttr]<;>rfl) (by rfl) (by rfl) (by rfl) (by rfl) (by rfl) (by rfl) (by simp) (λi hi=>by rcases bi hi with rfl<;>(simp only[go_sem,simprocAttr];first|exact Wv.same rfl))) .nil
  ·exact⟨Wv.sl rfl,Wv.n rfl,trivial⟩
  rintro v H' ⟨rfl,rfl⟩
  repeat (first|(with_reducible refine GE.go am rfl ?_)|simp only[go_sem,simprocAttr])
  refine eP [0,1] [] (.p 0 0) [ah 3 1 (List.replicate cs.length (-1:Int)).length 0 (iC (List.replicate cs.length (-1))),aj 0 150 [.fs 2 cs.length (pI cs),.n .i64 0,.os 1 (List.replicate cs.length (-1:Int)).length]] ?_ (Wv.p rfl) (by simp) eF ⟨hn,rfl,rfl⟩
  rw[List.length_replicate]
  exact .cons rfl .k1 (.cons rfl (.lstj (x:=_) (by simp only[go_sem,simprocAttr]<;>rfl) (by rfl) (by rfl) (by rfl) (by rfl) (by rfl) (by rfl) (by simp) (λi hi=>by rcases bh hi with rfl|rfl|rfl<;>(simp only[go_sem,simprocAttr];first|exact Wv.same rfl|exact Wv.os rfl))) .nil)
 ·have hn':¬(cs.length:Int)<=1024:=by omega
  repeat (first|(with_reducible refine GE.go am rfl ?_)|simp only[hn',decide_false,go_sem,simprocAttr])
  exact bb [] (fargs:=[.b false,.n .i64 (0:Int),.n .i64 6]) (aV.same rfl) (aP 0 6) ⟨by omega,rfl⟩
end Go.Proofs.YthehakngpbjgjaaGreat