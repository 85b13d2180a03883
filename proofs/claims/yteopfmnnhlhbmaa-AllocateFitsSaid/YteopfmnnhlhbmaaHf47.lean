/- A part of the proof of AllocateFits: FiE FiF. No condition. -/
import Derived.Test.YteopfmnnhlhbmaaHf46
set_option linter.unusedSimpArgs false
set_option linter.unusedVariables false
set_option linter.constructorNameAsVariable false
set_option maxRecDepth 100000
set_option maxHeartbeats 4000000
namespace Go.Proofs.Yteopfmnnhlhbmaa
open Go.RowKit
theorem Bx{na:Nat}{ra:Nat->Nat->AV}{regs par k:Int}{cs:List In}(hw:bR Try.prog 22 [aL na ra regs par cs] [.v (.b false)]):bR Try.prog 8 [aL na ra regs par cs,.n .u8 k] [.v (.b true)]:=by
 refine aO ba CV ⟨by simp,by decide⟩ ?_
 simp only[bM,aL] at hw ⊢
 repeat first|with_reducible refine au ?_|simp only[go_sem,simprocAttr]
 refine aq [] (.cons (.rfl (by rfl)) .nil) hw (by simp only[AH.mark_next,ag,aA,aB,ao,ai,aw,af,av,ah,List.length_cons,List.length_nil];decide) ?_
 repeat first|with_reducible refine au ?_|simp only[go_sem,simprocAttr]
 refine aq [] .nil ot (by simp only[AH.mark_next,ag,aA,aB,ao,ai,aw,af,av,ah,List.length_cons,List.length_nil];decide) ?_
 repeat first|with_reducible refine au ?_|simp only[go_sem,simprocAttr]
 exact bL rfl rfl
theorem lF{la:List (Bool×Int)}{R:Nat}{par p1 pr:Int}{R1 R3:Nat}{cs c1 c3 cf:List In}(f5:p1=par->pr<=(R1:Int))(hl1:c1.length<=100000)(ha1:ef c1)(hlc:cs.length<=100000)(h0:c1≠[]->cf≠[])(hcf:(c1.filter λx=> !dj par x)=cf)
  (e1:bR Try.prog 32 [.fs 5 cf.length (cC cf),.fs 5 cs.length (cC cs),.f 31 [] []] [.v (.b true)])
  (e3:bR Try.prog 32 [.fs 5 c3.length (cC c3),.fs 5 cs.length (cC cs),.f 31 [] []] [.v (.b true)]):
  GA Try.prog 134 (aE Try.prog 8) (.seq (.seq (.reg wR) (.cond (.t 112) (.seq (.reg wQ) .ret) .skip)) (.seq (.reg oG) (.seq (.reg oE) (.seq (.reg oD) .ret))))
   (aF [(2,.fp 4 (λj=>[AV.fs 2 la.length (aC la),.n .i64 R,.n .i64 par,.fs 5 cs.length (cC cs)][j]?.getD .u) 0),(6,.fp 4 (λj=>[AV.fs 2 la.length (aC la),.n .i64 R1,.n .i64 p1,.fs 5 c1.length (cC c1)][j]?.getD .u) 0),(8,.fp 4 (λj=>[AV.fs 2 la.length (aC la),.n .i64 R3,.n .i64 par,.fs 5 c3.length (cC c3)][j]?.getD .u) 0),(14,.n .i64 pr)]) (aX []) (gP [.mv (.t 4)] λv H=>∃l,v=bB l/\dR [.v (.b true)] l H):=by
 have hcl:=i3 (n:=c1.length) (row:=cC c1) (by omega) (λi j _ hj=>bQ i hj)
 have hdf:=iJ par c1 hl1 ha1 (λj=>[AV.fs 2 la.length (aC la),.n .i64 R,.n .i64 par,.fs 5 cs.length (cC cs)][j]?.getD .u) rfl (λj hj=>by rcases(by omega:j=0\/j=1\/j=2\/j=3) with rfl|rfl|rfl|rfl<;>rfl) (λh=>by rw[hcf];exact h0 h)
 rw[hcf] at hdf
 have rest:∀e (H:AH),e=aF [(2,.fp 4 (λj=>[AV.fs 2 la.length (aC la),.n .i64 R,.n .i64 par,.fs 5 cs.length (cC cs)][j]?.getD .u) 0),(6,.fp 4 (λj=>[AV.fs 2 la.length (aC la),.n .i64 R1,.n .i64 p1,.fs 5 c1.length (cC c1)][j]?.getD .u) 0),(8,.fp 4 (λj=>[AV.fs 2 la.length (aC la),.n .i64 R3,.n .i64 par,.fs 5 c3.length (cC c3)][j]?.getD .u) 0)]->H=aX []->GA Try.prog 134 (aE Try.prog 8) (.seq (.reg oG) (.seq (.reg oE) (.seq (.reg oD) .ret))) e H (gP [.mv (.t 4)] λv H=>∃l,v=bB l/\dR [.v (.b true)] l H):=by
  rintro e H rfl rfl
  refine GA.seq ?_
  refine GA.regx (l1:=[(o1 113 (.fa 3 (.t 6))),(o1 114 (.ld 1 false (.t 113))),⟨some 115,none,.cl (.c (.f 29 [] [])) [(.t 114)]⟩,(o1 116 (.mf 30 [] [(.t 2)]))]) (l2:=[(o1 16 (.mv (.t 117)))]) rfl ?_
  simp only[go_sem,simprocAttr]
  refine aq [] (.cons (.rfl (by rfl)) .nil) hcl (by simp only[AH.mark_next,ag,aA,aB,ao,ai,aw,af,av,ah,List.length_cons,List.length_nil];decide) ?_
  simp only[go_sem,simprocAttr]
  refine⟨aF [(2,.fp 4 (λj=>[AV.fs 2 la.length (aC la),.n .i64 R,.n .i64 par,.fs 5 cs.length (cC cs)][j]?.getD .u) 0),(8,.fp 4 (λj=>[AV.fs 2 la.length (aC la),.n .i64 R3,.n .i64 par,.fs 5 c3.length (cC c3)][j]?.getD .u) 0)],P0.of (λp hp=>?_),28,[],[],[.os 0 c1.length,.f 30 [] [.fp 4 (λj=>[AV.fs 2 la.length (aC la),.n .i64 R,.n .i64 par,.fs 5 cs.length (cC cs)][j]?.getD .u) 0]],rfl,by simp only[go_sem,simprocAttr],jU.mono hdf ?_⟩
  ·simp only[List.mem_cons,List.not_mem_nil,or_false] at hp
   rcases hp with rfl|rfl<;>exact⟨by simp,by simp only[go_sem,simprocAttr],rfl⟩
  rintro v H' ⟨rfl,rfl⟩
  simp only[go_sem,simprocAttr]
  repeat first|with_reducible refine au ?_|simp only[go_sem,simprocAttr]
  refine aq [0] (.cons (Cv.own (ty:=60) (z:=0) (by simp) (by simp only[go_sem,simprocAttr]) (λi j _ hj=>bQ i hj)) (.cons (.rfl (by rfl)) (.cons (.rfl (by rfl)) .nil))) e1 (by simp only[AH.mark_next,ag,aA,aB,ao,ai,aw,af,av,ah,List.length_cons,List.length_nil];decide) ?_
  repeat first|with_reducible refine au ?_|simp only[go_sem,simprocAttr]
  refine aq [] (.cons (.rfl (by rfl)) (.cons (.rfl (by rfl)) (.cons (.rfl (by rfl)) .nil))) e3 (by simp only[AH.mark_next,ag,aA,aB,ao,ai,aw,af,av,ah,List.length_cons,List.length_nil];decide) ?_
  repeat first|with_reducible refine au ?_|simp only[go_sem,simprocAttr]
  refine aq [] .nil ot (by simp only[AH.mark_next,ag,aA,aB,ao,ai,aw,af,av,ah,List.length_cons,List.length_nil];decide) ?_
  repeat first|with_reducible refine au ?_|simp only[go_sem,simprocAttr]
  exact bL rfl rfl
 have drop:∀(e:Tr AV) (H:AH),(∀n,Wk n e H (aF [(2,.fp 4 (λj=>[AV.fs 2 la.length (aC la),.n .i64 R,.n .i64 par,.fs 5 cs.length (cC cs)][j]?.getD .u) 0),(6,.fp 4 (λj=>[AV.fs 2 la.length (aC la),.n .i64 R1,.n .i64 p1,.fs 5 c1.length (cC c1)][j]?.getD .u) 0),(8,.fp 4 (λj=>[AV.fs 2 la.length (aC la),.n .i64 R3,.n .i64 par,.fs 5 c3.length (cC c3)][j]?.getD .u) 0)]) (aX []))->GA Try.prog 134 (aE Try.prog 8) (.seq (.reg oG) (.seq (.reg oE) (.seq (.reg oD) .ret))) e H (gP [.mv (.t 4)] λv H=>∃l,v=bB l/\dR [.v (.b true)] l H):=λe H h=>GA.wk (h _) (rest _ _ rfl rfl)
 by_cases hp:p1=par
 ·have g5:¬(R1:Int)<pr:=by have:=f5 hp;omega
  subst hp
  have hpp:decide (p1=p1)=true:=decide_eq_true rfl
  (try simp only[hpp,g5,decide_true,decide_false,go_sem,simprocAttr])
  iterate 5 (with_reducible refine GA.go ba rfl ?_;try simp only[hpp,g5,decide_true,decide_false,go_sem,simprocAttr])
  refine drop _ _ (λn=>Wk.mk [] [] ?_ ?_ ?_)
  ·simp only[bg,bf,go_sem,simprocAttr]
   repeat' refine ab ?_ ?_
   all_goals first|exact bo|skip
  ·exact .nil
  ·simp
 ·(try simp only[hp,decide_false,go_sem,simprocAttr])
  iterate 5 (with_reducible refine GA.go ba rfl ?_;try simp only[hp,decide_false,go_sem,simprocAttr])
  refine drop _ _ (λn=>Wk.mk [] [] ?_ ?_ ?_)
  ·simp only[bg,bf,go_sem,simprocAttr]
   repeat' refine ab ?_ ?_
   all_goals first|exact bo|skip
  ·exact .nil
  ·simp
theorem yL{la:List (Bool×Int)}{R n k:Nat}{par p1 pr y1 y2:Int}{R1 R3:Nat}{cs c1 c3 cf:List In}(hn:n=4+k%60)(hk:k<256)(hw:bR Try.prog 22 [aL la.length (aC la) R par cs] [.v (.b true)])
  (h1:bR Try.prog 17 [aL la.length (aC la) R par cs,.n .i64 n] [.v (aL la.length (aC la) R1 p1 c1),.v (.n .i64 0)])
  (h3:bR Try.prog 20 [aL la.length (aC la) R par cs] [.v (aL la.length (aC la) R3 par c3),.v (.n .i64 0)])
  (k1:bR Try.prog 27 [aL la.length (aC la) R1 p1 c1] [.v (.n .i64 y1),.v (.n .i64 0)]) (k3:bR Try.prog 27 [aL la.length (aC la) R3 par c3] [.v (.n .i64 y2),.v (.n .i64 0)])
  (hp:bR Try.prog 13 [aL la.length (aC la) R par cs] [.v (.n .i64 pr),.v (.n .i64 0)])
  (f1:R1<=n) (f2:R3<=R) (f3:par<=p1) (f4:R<=n->p1=par) (f5:p1=par->pr<=(R1:Int)) (hl1:c1.length<=100000) (ha1:ef c1) (hlc:cs.length<=100000) (h0:c1≠[]->cf≠[]) (hcf:(c1.filter λx=> !dj par x)=cf)
  (e1:bR Try.prog 32 [.fs 5 cf.length (cC cf),.fs 5 cs.length (cC cs),.f 31 [] []] [.v (.b true)])
  (e3:bR Try.prog 32 [.fs 5 c3.length (cC c3),.fs 5 cs.length (cC cs),.f 31 [] []] [.v (.b true)]):
  bR Try.prog 8 [aL la.length (aC la) R par cs,.n .u8 k] [.v (.b true)]:=by
 have w0:IntKind.wrap .i64 (0+0)=0:=rfl
 have w1:IntKind.wrap .i64 0=0:=rfl
 have d0:decide ((0:Int)=0)=true:=decide_eq_true rfl
 have hpp:decide (par=par)=true:=decide_eq_true rfl
 have wk:IntKind.wrap .i64 (k:Int)=(k:Int):=aU (by omega)
 have wt:IntKind.wrap .i64 (4+Int.tmod (k:Int) 60)=(n:Int):=by rw[Int.tmod_eq_emod_of_nonneg (by omega),aU (by omega)];omega
 have hcl:=i3 (n:=c1.length) (row:=cC c1) (by omega) (λi j _ hj=>bQ i hj)
 have hdf:=iJ par c1 hl1 ha1 (λj=>[AV.fs 2 la.length (aC la),.n .i64 R,.n .i64 par,.fs 5 cs.length (cC cs)][j]?.getD .u) rfl (λj hj=>by rcases(by omega:j=0\/j=1\/j=2\/j=3) with rfl|rfl|rfl|rfl<;>rfl) (λh=>by rw[hcf];exact h0 h)
 rw[hcf] at hdf
 have g1:¬(n:Int)<(R1:Int):=by omega
 have g2:¬(R:Int)<(R3:Int):=by omega
 have g3:¬p1<par:=by omega
 refine aO ba CV ⟨by simp,by decide⟩ ?_
 simp only[bM,aL] at hw h1 h3 k1 k3 hp ⊢
 repeat first|with_reducible refine au ?_|simp only[go_sem,simprocAttr]
 refine aq [] (.cons (.rfl (by rfl)) .nil) hw (by simp only[AH.mark_next,ag,aA,aB,ao,ai,aw,af,av,ah,List.length_cons,List.length_nil];decide) ?_
 repeat first|with_reducible refine au ?_|simp only[wk,wt,go_sem,simprocAttr]
 refine aq [] (.cons (.rfl (by rfl)) (.cons (.rfl (by rfl)) .nil)) h1 (by simp only[AH.mark_next,ag,aA,aB,ao,ai,aw,af,av,ah,List.length_cons,List.length_nil];decide) ?_
 repeat first|with_reducible refine au ?_|simp only[d0,decide_true,go_sem,simprocAttr]
 refine aq [] (.cons (.rfl (by rfl)) .nil) h3 (by simp only[AH.mark_next,ag,aA,aB,ao,ai,aw,af,av,ah,List.length_cons,List.length_nil];decide) ?_
 repeat first|with_reducible refine au ?_|simp only[go_sem,simprocAttr]
 refine aq [] (.cons (.rfl (by rfl)) .nil) k1 (by simp only[AH.mark_next,ag,aA,aB,ao,ai,aw,af,av,ah,List.length_cons,List.length_nil];decide) ?_
 repeat first|with_reducible refine au ?_|simp only[go_sem,simprocAttr]
 refine aq [] (.cons (.rfl (by rfl)) .nil) k3 (by simp only[AH.mark_next,ag,aA,aB,ao,ai,aw,af,av,ah,List.length_cons,List.length_nil];decide) ?_
 repeat first|with_reducible refine au ?_|simp only[go_sem,simprocAttr]
 refine aq [] (.cons (.rfl (by rfl)) .nil) hp (by simp only[AH.mark_next,ag,aA,aB,ao,ai,aw,af,av,ah,List.length_cons,List.length_nil];decide) ?_
 have hstep:∀(Q:Prop),(p1=par->(pr:Int)<=R1->Q)->(¬p1=par->¬(R:Int)<=(n:Int)->Q)->Q:=λQ q1 q2=>by
  by_cases e:p1=par
  ·exact q1 e (f5 e)
  ·exact q2 e (λh=>e (f4 (by omega)))
 refine hstep _ (λq1 q2=>?_) (λq1 q2=>?_)
 ·subst q1
  by_cases hRn:(R:Int)<=(n:Int)
  ·(try simp only[w0,w1,d0,hpp,g1,g2,g3,hRn,decide_true,decide_false,go_sem,simprocAttr])
   iterate 5 (with_reducible refine GA.go ba rfl ?_;try simp only[w0,w1,d0,hpp,g1,g2,g3,hRn,decide_true,decide_false,go_sem,simprocAttr])
   refine GA.wk (Wk.mk (L:=[(2,.fp 4 (λj=>[AV.fs 2 la.length (aC la),.n .i64 R,.n .i64 p1,.fs 5 cs.length (cC cs)][j]?.getD .u) 0),(6,.fp 4 (λj=>[AV.fs 2 la.length (aC la),.n .i64 R1,.n .i64 p1,.fs 5 c1.length (cC c1)][j]?.getD .u) 0),(8,.fp 4 (λj=>[AV.fs 2 la.length (aC la),.n .i64 R3,.n .i64 p1,.fs 5 c3.length (cC c3)][j]?.getD .u) 0),(14,.n .i64 pr)]) (bl:=[]) [] [0,1,2] ?_ ?_ ?_) (lF f5 hl1 ha1 hlc h0 hcf e1 e3)
   ·simp only[bg,bf,go_sem,simprocAttr]
    repeat' refine ab ?_ ?_
    all_goals first|exact bo|skip
    ·exact .cv (Cv.box (l:=[AV.fs 2 la.length (aC la),.n .i64 R,.n .i64 p1,.fs 5 cs.length (cC cs)]) (b:=0) rfl (x:=_) (by simp only[go_sem,simprocAttr];rfl) (by rfl) (by simp) (λj hj=>by rcases eJ (by simpa using hj) with rfl|rfl|rfl|rfl<;>(simp only[go_sem,simprocAttr];first|done|rfl)) rfl)
    ·exact .cv (Cv.box (l:=[AV.fs 2 la.length (aC la),.n .i64 R1,.n .i64 p1,.fs 5 c1.length (cC c1)]) (b:=1) rfl (x:=_) (by simp only[go_sem,simprocAttr];rfl) (by rfl) (by simp) (λj hj=>by rcases eJ (by simpa using hj) with rfl|rfl|rfl|rfl<;>(simp only[go_sem,simprocAttr];first|done|rfl)) rfl)
    ·exact .cv (Cv.box (l:=[AV.fs 2 la.length (aC la),.n .i64 R3,.n .i64 p1,.fs 5 c3.length (cC c3)]) (b:=2) rfl (x:=_) (by simp only[go_sem,simprocAttr];rfl) (by rfl) (by simp) (λj hj=>by rcases eJ (by simpa using hj) with rfl|rfl|rfl|rfl<;>(simp only[go_sem,simprocAttr];first|done|rfl)) rfl)
   ·exact .nil
   ·simp
  ·(try simp only[w0,w1,d0,hpp,g1,g2,g3,hRn,decide_true,decide_false,go_sem,simprocAttr])
   iterate 5 (with_reducible refine GA.go ba rfl ?_;try simp only[w0,w1,d0,hpp,g1,g2,g3,hRn,decide_true,decide_false,go_sem,simprocAttr])
   refine GA.wk (Wk.mk (L:=[(2,.fp 4 (λj=>[AV.fs 2 la.length (aC la),.n .i64 R,.n .i64 p1,.fs 5 cs.length (cC cs)][j]?.getD .u) 0),(6,.fp 4 (λj=>[AV.fs 2 la.length (aC la),.n .i64 R1,.n .i64 p1,.fs 5 c1.length (cC c1)][j]?.getD .u) 0),(8,.fp 4 (λj=>[AV.fs 2 la.length (aC la),.n .i64 R3,.n .i64 p1,.fs 5 c3.length (cC c3)][j]?.getD .u) 0),(14,.n .i64 pr)]) (bl:=[]) [] [0,1,2] ?_ ?_ ?_) (lF f5 hl1 ha1 hlc h0 hcf e1 e3)
   ·simp only[bg,bf,go_sem,simprocAttr]
    repeat' refine ab ?_ ?_
    all_goals first|exact bo|skip
    ·exact .cv (Cv.box (l:=[AV.fs 2 la.length (aC la),.n .i64 R,.n .i64 p1,.fs 5 cs.length (cC cs)]) (b:=0) rfl (x:=_) (by simp only[go_sem,simprocAttr];rfl) (by rfl) (by simp) (λj hj=>by rcases eJ (by simpa using hj) with rfl|rfl|rfl|rfl<;>(simp only[go_sem,simprocAttr];first|done|rfl)) rfl)
    ·exact .cv (Cv.box (l:=[AV.fs 2 la.length (aC la),.n .i64 R1,.n .i64 p1,.fs 5 c1.length (cC c1)]) (b:=1) rfl (x:=_) (by simp only[go_sem,simprocAttr];rfl) (by rfl) (by simp) (λj hj=>by rcases eJ (by simpa using hj) with rfl|rfl|rfl|rfl<;>(simp only[go_sem,simprocAttr];first|done|rfl)) rfl)
    ·exact .cv (Cv.box (l:=[AV.fs 2 la.length (aC la),.n .i64 R3,.n .i64 p1,.fs 5 c3.length (cC c3)]) (b:=2) rfl (x:=_) (by simp only[go_sem,simprocAttr];rfl) (by rfl) (by simp) (λj hj=>by rcases eJ (by simpa using hj) with rfl|rfl|rfl|rfl<;>(simp only[go_sem,simprocAttr];first|done|rfl)) rfl)
   ·exact .nil
   ·simp
 ·(try simp only[w0,w1,d0,hpp,g1,g2,g3,q1,q2,decide_true,decide_false,go_sem,simprocAttr])
  iterate 5 (with_reducible refine GA.go ba rfl ?_;try simp only[w0,w1,d0,hpp,g1,g2,g3,q1,q2,decide_true,decide_false,go_sem,simprocAttr])
  refine GA.wk (Wk.mk (L:=[(2,.fp 4 (λj=>[AV.fs 2 la.length (aC la),.n .i64 R,.n .i64 par,.fs 5 cs.length (cC cs)][j]?.getD .u) 0),(6,.fp 4 (λj=>[AV.fs 2 la.length (aC la),.n .i64 R1,.n .i64 p1,.fs 5 c1.length (cC c1)][j]?.getD .u) 0),(8,.fp 4 (λj=>[AV.fs 2 la.length (aC la),.n .i64 R3,.n .i64 par,.fs 5 c3.length (cC c3)][j]?.getD .u) 0),(14,.n .i64 pr)]) (bl:=[]) [] [0,1,2] ?_ ?_ ?_) (lF f5 hl1 ha1 hlc h0 hcf e1 e3)
  ·simp only[bg,bf,go_sem,simprocAttr]
   repeat' refine ab ?_ ?_
   all_goals first|exact bo|skip
   ·exact .cv (Cv.box (l:=[AV.fs 2 la.length (aC la),.n .i64 R,.n .i64 par,.fs 5 cs.length (cC cs)]) (b:=0) rfl (x:=_) (by simp only[go_sem,simprocAttr];rfl) (by rfl) (by simp) (λj hj=>by rcases eJ (by simpa using hj) with rfl|rfl|rfl|rfl<;>(simp only[go_sem,simprocAttr];first|done|rfl)) rfl)
   ·exact .cv (Cv.box (l:=[AV.fs 2 la.length (aC la),.n .i64 R1,.n .i64 p1,.fs 5 c1.length (cC c1)]) (b:=1) rfl (x:=_) (by simp only[go_sem,simprocAttr];rfl) (by rfl) (by simp) (λj hj=>by rcases eJ (by simpa using hj) with rfl|rfl|rfl|rfl<;>(simp only[go_sem,simprocAttr];first|done|rfl)) rfl)
   ·exact .cv (Cv.box (l:=[AV.fs 2 la.length (aC la),.n .i64 R3,.n .i64 par,.fs 5 c3.length (cC c3)]) (b:=2) rfl (x:=_) (by simp only[go_sem,simprocAttr];rfl) (by rfl) (by simp) (λj hj=>by rcases eJ (by simpa using hj) with rfl|rfl|rfl|rfl<;>(simp only[go_sem,simprocAttr];first|done|rfl)) rfl)
  ·exact .nil
  ·simp
theorem n9(f:In->In)(hf:∀x,(f x).1=x.1/\(f x).2.2.2.2=x.2.2.2.2)(cs:List In)(hl:cs.length<=100000):
  bR Try.prog 32 [.fs 5 (cs.map f).length (cC (cs.map f)),.fs 5 cs.length (cC cs),.f 31 [] []] [.v (.b true)]:=
 mB (cs.map f) cs (by rw[List.length_map]) (by rw[List.length_map];exact hl) (λi hi=>by
  rw[List.length_map] at hi
  have e:(cs.map f).getD i (0,0,0,0,0)=f (cs.getD i (0,0,0,0,0)):=by
   rw[List.getD_eq_getElem?_getD,List.getD_eq_getElem?_getD,List.getElem?_map,List.getElem?_eq_getElem hi];rfl
  rw[e]
  exact A2 (hf _).1 (hf _).2)
theorem yZ{la:List (Bool×Int)}{R:Nat}{par:Int}{cs:List In}(hz:(dw la R par cs).2=0){n:Nat}(hn:4<=n/\n<=1024)(hroom:par+cG cs R<=1024){R1:Nat}{p1:Int}{c1:List In}
  (h:(cG cs R<=n/\R1=cG cs R/\p1=par/\c1=cs.map (dM (ib cs R)))\/(n<cG cs R/\R1=n/\p1=par+(cG cs R:Int)-((n:Int)-3)/\c1=gk (ib cs R) ((n:Int)-3) par cs)):
  c1.length<=4*cs.length/\∃f:In->In,(∀x,(f x).1=x.1/\(f x).2.2.2.2=x.2.2.2.2)/\(c1.filter λx=> !dj par x)=cs.map f:=by
 have hin:=(bV hz).inC
 rcases h with⟨h1,rfl,rfl,rfl⟩|⟨h1,rfl,rfl,rfl⟩
 ·exact⟨by rw[List.length_map];omega,dM (ib cs R),λx=>⟨rfl,rfl⟩,y8 hin _ (λx=>⟨rfl,rfl⟩)⟩
 ·exact⟨qr _ _ _ _,λx=>He ((R1:Int)-3) (dM (ib cs R) x),λx=>⟨rfl,rfl⟩,q9 hn (lR hz).1 (by omega) cs hin (λx hx=>t7 hx)⟩
theorem B2(la:List (Bool×Int))(regs par:Int)(cs:List In)(ha:ef cs)(hl1:la.length<=9223372036854775807)(hl2:cs.length<=9223372036854775807)(k:Nat)(hk:k<256):
  bR Try.prog 8 [aL la.length (aC la) regs par cs,.n .u8 k] [.v (.b true)]:=by
 have hw:=yK la regs par cs ha hl1 hl2
 cases hg:uj la regs par cs
 ·rw[hg] at hw
  exact Bx hw
 rw[hg] at hw
 unfold uj at hg
 cases hf:jJ la.length regs cs
 ·rw[hf] at hg;simp at hg
 rw[hf,if_pos rfl] at hg
 by_cases hp:par<=900
 ·rw[decide_eq_true hp,if_pos rfl,decide_eq_true_eq] at hg
  have hfew:=Ch hf
  have h:=(bV hg).nregs
  obtain⟨R,rfl⟩:∃R:Nat,regs=R:=⟨regs.toNat,by omega⟩
  have hR:=y9 hf hg
  have hcl:=pK cs R
  obtain⟨R1,p1,c1,g1,g2,g3,g4,g5⟩:=wC hg ha (n:=4+k%60) (by omega) (by omega) (by omega)
  obtain⟨q1,f,q2,q3⟩:=yZ hg (by omega) (by omega) g5
  have k1:=ip la R1 p1 c1 (by omega) (by omega) g3
  rw[g2] at k1
  have hcc:=Cu hg
  have k3:=ip la ((bH cs R).length:Nat) par (wq cs R) (by omega) (by unfold wq;rw[List.length_map];omega) (rI ha)
  rw[hcc] at k3
  have hpr:=tR hg (cs.length+1) (Nat.le_refl _)
  refine yL rfl hk hw g1 (Au hg ha) k1 k3 (oy hg ha) g4 (jo cs R) ?_ ?_ ?_ (by omega) g3 (by omega) ?_ q3 (n9 f q2 cs (by omega)) (n9 (dM (wo (λr=>cN cs (r:Int)) R)) (λx=>⟨rfl,rfl⟩) cs (by omega))
  ·rcases g5 with⟨_,_,rfl,_⟩|⟨_,_,rfl,_⟩<;>omega
  ·intro hRn
   rcases g5 with⟨_,_,rfl,_⟩|⟨hc,_⟩
   ·rfl
   ·omega
  ·intro hpp
   rcases g5 with⟨_,rfl,_⟩|⟨hc,_,e,_⟩
   ·omega
   ·omega
  ·intro hne hcf
   have hcs:cs=[]:=by simpa using hcf
   subst hcs
   rcases g5 with⟨_,_,_,rfl⟩|⟨_,_,_,rfl⟩
   ·exact hne rfl
   ·exact hne rfl
 ·rw[decide_eq_false hp] at hg;simp at hg
end Go.Proofs.Yteopfmnnhlhbmaa