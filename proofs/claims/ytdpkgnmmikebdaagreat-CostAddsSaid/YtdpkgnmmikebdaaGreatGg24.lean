/- A part of the proof of CostAdds: FlP FlQ FlR FlA FlB. No condition. -/
import Derived.Test.YtdpkgnmmikebdaaGreatGg22
import Derived.Test.YtdpkgnmmikebdaaGreatGg23
import Derived.Test.YtdpkgnmmikebdaaGreatGg17
set_option linter.unusedSimpArgs false
set_option linter.unusedVariables false
set_option linter.constructorNameAsVariable false
set_option maxRecDepth 100000
set_option maxHeartbeats 4000000
namespace Go.Proofs.YtdpkgnmmikebdaaGreat
open Go.RowKit
theorem oo{α:Type}{p q:Prop}[Decidable p][Decidable q]{a b:α}(h:p↔q):(if p then a else b)=if q then a else b:=by simp only[h]
inductive Fo where
 |nil
 |pl (a b:Nat) (r:Fo)
 |br (op:Int) (a b:Nat) (x y:Fo) (r:Fo)
def Fo.len:Fo->Nat
 |.nil=>0
 |.pl _ _ r=>r.len+1
 |.br _ _ _ _ _ r=>r.len+1
def Fo.cell:Fo->Nat->Nat->AV
 |.nil,_,_=> .u
 |.pl a b r,i,j=>match i with
  |0=>if j=0 then .n .i64 (-1) else if j=1 then .n .i64 a else if j=2 then .n .i64 b else .sl0
  |i+1=>r.cell i j
 |.br op a b x y r,i,j=>match i with
  |0=>if j=0 then .n .i64 op else if j=1 then .n .i64 a else if j=2 then .n .i64 b else if j=3 then .fs 5 x.len x.cell else .fs 5 y.len y.cell
  |i+1=>r.cell i j
def Fo.app:Fo->Fo->Fo
 |.nil,z=>z
 |.pl a b r,z=> .pl a b (r.app z)
 |.br op a b x y r,z=> .br op a b x y (r.app z)
def Fo.lastOp:Fo->Int->Int
 |.nil,d=>d
 |.pl _ _ r,_=>r.lastOp (-1)
 |.br op _ _ _ _ r,_=>r.lastOp op
def Fo.lastB:Fo->Nat->Nat
 |.nil,d=>d
 |.pl _ b r,_=>r.lastB b
 |.br _ _ b _ _ r,_=>r.lastB b
def Fo.lastPl(f:Fo):Bool:=decide (f.lastOp 0= -1)
def Fo.bump:Fo->Fo
 |.nil=> .nil
 |.pl a b r=>if r.len=0 then .pl a (b+1) r else .pl a b r.bump
 |.br op a b x y r=>if r.len=0 then .br op a (b+1) x y r else .br op a b x y r.bump
def Fo.addPl(f:Fo)(p:Nat):Fo:=if f.lastPl=true then f.bump else f.app (.pl p (p+1) .nil)
theorem Fo.len_app:∀f z:Fo,(f.app z).len=f.len+z.len
 |.nil,z=>by simp[Fo.app,Fo.len]
 |.pl a b r,z=>by simp only[Fo.app,Fo.len,Fo.len_app r z];omega
 |.br op a b x y r,z=>by simp only[Fo.app,Fo.len,Fo.len_app r z];omega
theorem Fo.len_bump:∀f:Fo,f.bump.len=f.len
 |.nil=>rfl
 |.pl a b r=>by
  unfold Fo.bump
  split
  ·rfl
  ·simp only[Fo.len,Fo.len_bump r]
 |.br op a b x y r=>by
  unfold Fo.bump
  split
  ·rfl
  ·simp only[Fo.len,Fo.len_bump r]
theorem Fo.len0:∀{f:Fo},f.len=0->f= .nil
 |.nil,_=>rfl
 |.pl _ _ _,h=>by simp[Fo.len] at h
 |.br _ _ _ _ _ _,h=>by simp[Fo.len] at h
theorem Fo.cell_last:∀(f:Fo) (d:Int) (d2:Nat),0<f.len->f.cell (f.len-1) 0= .n .i64 (f.lastOp d)/\f.cell (f.len-1) 2= .n .i64 (f.lastB d2)
 |.nil,_,_,h=>absurd h (Nat.lt_irrefl _)
 |.pl a b r,d,d2,_=>by
  by_cases h:r.len=0
  ·obtain rfl:=Fo.len0 h
   exact⟨rfl,rfl⟩
  ·have:=Fo.cell_last r (-1) b (by omega)
   simp only[Fo.len,Fo.lastOp,Fo.lastB,Nat.add_sub_cancel]
   rw[show r.len=(r.len-1)+1 by omega]
   simp only[Fo.cell]
   exact this
 |.br op a b x y r,d,d2,_=>by
  by_cases h:r.len=0
  ·obtain rfl:=Fo.len0 h
   exact⟨rfl,rfl⟩
  ·have:=Fo.cell_last r op b (by omega)
   simp only[Fo.len,Fo.lastOp,Fo.lastB,Nat.add_sub_cancel]
   rw[show r.len=(r.len-1)+1 by omega]
   simp only[Fo.cell]
   exact this
theorem Fo.cell_bump:∀(f:Fo) (d2 i j:Nat),i<f.len->f.bump.cell i j=if i=f.len-1/\j=2 then .n .i64 ((f.lastB d2+1:Nat):Int) else f.cell i j
 |.nil,_,_,_,h=>absurd h (Nat.not_lt_zero _)
 |.pl a b r,d2,i,j,hi=>by
  by_cases h:r.len=0
  ·obtain rfl:=Fo.len0 h
   obtain rfl:i=0:=by simp[Fo.len] at hi;omega
   simp only[Fo.bump,Fo.len,if_true,Fo.cell,Fo.lastB,true_and]
   by_cases h2:j=2
   ·subst h2;rfl
   ·simp[h2]
  ·simp only[Fo.bump,if_neg h,Fo.len,Nat.add_sub_cancel,Fo.lastB] at hi ⊢
   cases i with
   |zero=>rw[if_neg (by omega)];rfl
   |succ i=>
    simp only[Fo.cell]
    rw[Fo.cell_bump r b i j (by omega)]
    by_cases h3:i=r.len-1
    ·rw[oo (show(i=r.len-1/\j=2)↔(i+1=r.len/\j=2) by omega)]
    ·rw[if_neg (by omega),if_neg (by omega)]
 |.br op a b x y r,d2,i,j,hi=>by
  by_cases h:r.len=0
  ·obtain rfl:=Fo.len0 h
   obtain rfl:i=0:=by simp[Fo.len] at hi;omega
   simp only[Fo.bump,Fo.len,if_true,Fo.cell,Fo.lastB,true_and]
   by_cases h2:j=2
   ·subst h2;rfl
   ·simp[h2]
  ·simp only[Fo.bump,if_neg h,Fo.len,Nat.add_sub_cancel,Fo.lastB] at hi ⊢
   cases i with
   |zero=>rw[if_neg (by omega)];rfl
   |succ i=>
    simp only[Fo.cell]
    rw[Fo.cell_bump r b i j (by omega)]
    by_cases h3:i=r.len-1
    ·rw[oo (show(i=r.len-1/\j=2)↔(i+1=r.len/\j=2) by omega)]
    ·rw[if_neg (by omega),if_neg (by omega)]
theorem Fo.lastB_app:∀(f z:Fo) (d:Nat),(f.app z).lastB d=z.lastB (f.lastB d)
 |.nil,_,_=>rfl
 |.pl _ b r,z,d=>Fo.lastB_app r z b
 |.br _ _ b _ _ r,z,d=>Fo.lastB_app r z b
theorem Fo.lastB_bump:∀(f:Fo) (d:Nat),0<f.len->f.bump.lastB d=f.lastB d+1
 |.nil,_,h=>absurd h (Nat.lt_irrefl _)
 |.pl _ b r,d,_=>by
  unfold Fo.bump
  split
  ·rename_i h
   obtain rfl:=Fo.len0 h
   rfl
  ·exact Fo.lastB_bump r b (by omega)
 |.br _ _ b _ _ r,d,_=>by
  unfold Fo.bump
  split
  ·rename_i h
   obtain rfl:=Fo.len0 h
   rfl
  ·exact Fo.lastB_bump r b (by omega)
theorem Fo.last_len:∀{f:Fo},f.lastPl=true->0<f.len
 |.nil,h=>by simp[Fo.lastPl,Fo.lastOp] at h
 |.pl _ _ r,_=>Nat.succ_pos _
 |.br _ _ _ _ _ r,_=>Nat.succ_pos _
theorem Fo.cell_app:∀(f z:Fo) (i j:Nat),(f.app z).cell i j=if i<f.len then f.cell i j else z.cell (i-f.len) j
 |.nil,z,i,j=>by simp[Fo.app,Fo.len]
 |.pl a b r,z,0,j=>by simp[Fo.app,Fo.len,Fo.cell]
 |.br op a b x y r,z,0,j=>by simp[Fo.app,Fo.len,Fo.cell]
 |.pl a b r,z,i+1,j=>by
  simp only[Fo.app,Fo.len,Fo.cell,Fo.cell_app r z i j,Nat.add_lt_add_iff_right,Nat.add_sub_add_right]
 |.br op a b x y r,z,i+1,j=>by
  simp only[Fo.app,Fo.len,Fo.cell,Fo.cell_app r z i j,Nat.add_lt_add_iff_right,Nat.add_sub_add_right]
theorem Fo.cell_ok:∀(f:Fo) (i j:Nat),i<f.len->(f.cell i j).cell=true
 |.nil,i,j,h=>absurd h (Nat.not_lt_zero i)
 |.pl a b r,0,j,h=>by
  simp only[Fo.cell]
  repeat' split
  all_goals rfl
 |.br op a b x y r,0,j,h=>by
  simp only[Fo.cell]
  repeat' split
  all_goals rfl
 |.pl a b r,i+1,j,h=>by
  simp only[Fo.cell]
  exact Fo.cell_ok r i j (by simp only[Fo.len] at h;omega)
 |.br op a b x y r,i+1,j,h=>by
  simp only[Fo.cell]
  exact Fo.cell_ok r i j (by simp only[Fo.len] at h;omega)
theorem Fo.cell_pu:∀(f:Fo) (i j:Nat),i<f.len->(f.cell i j).pu 3=true
 |.nil,i,j,h=>absurd h (Nat.not_lt_zero i)
 |.pl a b r,0,j,h=>by
  simp only[Fo.cell]
  repeat' split
  all_goals rfl
 |.br op a b x y r,0,j,h=>by
  simp only[Fo.cell]
  repeat' split
  all_goals rfl
 |.pl a b r,i+1,j,h=>by
  simp only[Fo.cell]
  exact Fo.cell_pu r i j (by simp only[Fo.len] at h;omega)
 |.br op a b x y r,i+1,j,h=>by
  simp only[Fo.cell]
  exact Fo.cell_pu r i j (by simp only[Fo.len] at h;omega)
theorem Fo.cell_nm(q:Nat->Bool):∀(f:Fo) (i j:Nat),i<f.len->(f.cell i j).nm q 3=true
 |.nil,i,j,h=>absurd h (Nat.not_lt_zero i)
 |.pl a b r,0,j,h=>by
  simp only[Fo.cell]
  repeat' split
  all_goals rfl
 |.br op a b x y r,0,j,h=>by
  simp only[Fo.cell]
  repeat' split
  all_goals rfl
 |.pl a b r,i+1,j,h=>by
  simp only[Fo.cell]
  exact Fo.cell_nm q r i j (by simp only[Fo.len] at h;omega)
 |.br op a b x y r,i+1,j,h=>by
  simp only[Fo.cell]
  exact Fo.cell_nm q r i j (by simp only[Fo.len] at h;omega)
/-! ### the reader-/
def aj(cs:List (Int×Int))(p:Nat):Int:=(cs.getD p (0,0)).1
abbrev LR:=Fo×Nat×List Int×List Int
def bD(pt:List Int)(v:Int):List Int->List Int
 |[]=>pt
 |i::l=>bD (pt.set i.toNat v) v l
def dx(cs:List (Int×Int))(op:Int)(p last:Nat)(x y:Fo)(lv0:List Int)(p2:Nat)(pt lv:List Int):Option (Except Nat (Fo×Nat×List Int×List Int)):=
 if p2<cs.length/\aj cs p2=31 then
  some (.ok (.br op p (p2+1) x y .nil,p2+1,bD ((pt.set last p2).set p2 p) p2 (if op=29 then lv else[]),if op=29 then lv0 else lv))
 else some (.error p2)
def d8(cs:List (Int×Int))(L:Nat->Bool->Nat->List Int->List Int->Option (Except Nat LR))(d:Nat)(inL:Bool)(p:Nat)(pt lv:List Int):Option (Except Nat (Fo×Nat×List Int×List Int)):=
 if 8<d then some (.error p) else
 match L d (inL||decide (aj cs p=29)) (p+1) pt (if aj cs p=29 then[] else lv) with
 |none=>none
 |some (.error x)=>some (.error x)
 |some (.ok (x,p1,pt1,lv1))=>
  if aj cs p=27/\p1<cs.length/\aj cs p1=28 then
   match L d (inL||decide (aj cs p=29)) (p1+1) (pt1.set p p1) lv1 with
   |none=>none
   |some (.error x)=>some (.error x)
   |some (.ok (y,p2,pt2,lv2))=>dx cs (aj cs p) p p1 x y lv p2 pt2 lv2
  else dx cs (aj cs p) p p x .nil lv p1 pt1 lv1
def lst(cs:List (Int×Int)):Nat->Nat->Bool->Nat->List Int->List Int->Fo->Option (Except Nat LR)
 |0,_,_,_,_,_,_=>none
 |f+1,d,inL,p,pt,lv,out=>
  if cs.length<=p then some (.ok (out,p,pt,lv)) else
  if aj cs p=28\/aj cs p=31 then some (.ok (out,p,pt,lv)) else
  if aj cs p=27\/aj cs p=29 then
   match d8 cs (λd inL p pt lv=>lst cs f d inL p pt lv .nil) (d+1) inL p pt lv with
   |none=>none
   |some (.error x)=>some (.error x)
   |some (.ok (b,p',pt',lv'))=>lst cs f d inL p' pt' lv' (out.app b)
  else if aj cs p=30/\inL=false then some (.error p)
  else lst cs f d inL (p+1) pt (if aj cs p=30 then lv++[(p:Int)] else lv) (out.addPl p)
def WI(cs:List (Int×Int))(p:Nat)(lv:List Int)(r:Except Nat LR):Prop:=∀o p1 pt1 lv1,r= .ok (o,p1,pt1,lv1)->p<=p1/\p1<=cs.length/\pt1.length=cs.length/\lv1.length<=p1/\∀x ∈ lv1,x ∈ lv\/(0<=x/\x<cs.length)
def wV(cs:List (Int×Int))(L:Nat->Bool->Nat->List Int->List Int->Option (Except Nat LR)):Prop:=∀d inL p pt lv r,p<=cs.length->pt.length=cs.length->lv.length<=p->L d inL p pt lv=some r->WI cs p lv r
theorem gf:∀(l pt:List Int) (v:Int),(bD pt v l).length=pt.length
 |[],_,_=>rfl
 |i::l,pt,v=>by rw[bD,gf l,List.length_set]
theorem uF{cs:List (Int×Int)}{op:Int}{p last p2 q:Nat}{x y:Fo}{lv0 lv pt lvx:List Int}{r:Except Nat LR}(h:dx cs op p last x y lv0 p2 pt lv=some r)(hp:q<=p2)(hpt:pt.length=cs.length)(h0:lv0.length<=p2)(h1:lv.length<=p2)(hx:op=29->lv0=lvx)(hy:op≠29->∀x ∈ lv,x ∈ lvx\/(0<=x/\x<cs.length)):WI cs (q+1) lvx r/\∀o p1 pt1 lv1,r= .ok (o,p1,pt1,lv1)->o= .br op p (p2+1) x y .nil/\p1=p2+1:=by
 rw[dx] at h
 split at h
 ·rename_i hc
  have:=Option.some.inj h
  subst this
  refine⟨λo p1 pt1 lv1 he=>?_,λo p1 pt1 lv1 he=>?_⟩
  ·cases he
   refine⟨by omega,by omega,by rw[gf,List.length_set,List.length_set];exact hpt,?_,?_⟩
   ·split<;>omega
   ·intro z hz
    split at hz
    ·rename_i ho
     exact .inl (hx ho ▸ hz)
    ·rename_i ho
     exact hy ho z hz
  ·cases he
   exact⟨rfl,rfl⟩
 ·have:=Option.some.inj h
  subst this
  exact⟨λo p1 pt1 lv1 he=>(by cases he),λo p1 pt1 lv1 he=>(by cases he)⟩
theorem kM{cs:List (Int×Int)}{L:Nat->Bool->Nat->List Int->List Int->Option (Except Nat LR)}(hL:wV cs L){d p:Nat}{inL:Bool}{pt lv:List Int}{r:Except Nat LR}(hp:p<cs.length)(hpt:pt.length=cs.length)(hlv:lv.length<=p)(h:d8 cs L d inL p pt lv=some r):
  WI cs (p+1) lv r/\∀o p1 pt1 lv1,r= .ok (o,p1,pt1,lv1)->∃x y,o= .br (aj cs p) p p1 x y .nil:=by
 rw[d8] at h
 split at h
 ·have:=Option.some.inj h
  subst this
  exact⟨λo p1 pt1 lv1 he=>(by cases he),λo p1 pt1 lv1 he=>(by cases he)⟩
 split at h
 ·cases h
 ·have:=Option.some.inj h
  subst this
  exact⟨λo p1 pt1 lv1 he=>(by cases he),λo p1 pt1 lv1 he=>(by cases he)⟩
 ·rename_i x p1 pt1 lv1 hl
  have e1:=hL _ _ _ _ _ _ (by omega) hpt (by split<;>(try simp)<;>omega) hl x p1 pt1 lv1 rfl
  obtain⟨f1,f2,f3,f4,f5⟩:=e1
  split at h
  ·rename_i hc
   split at h
   ·cases h
   ·have:=Option.some.inj h
    subst this
    exact⟨λo p1 pt1 lv1 he=>(by cases he),λo p1 pt1 lv1 he=>(by cases he)⟩
   ·rename_i y p2 pt2 lv2 hl2
    obtain⟨g1,g2,g3,g4,g5⟩:=hL _ _ _ _ _ _ (by omega) (by rw[List.length_set];exact f3) (by omega) hl2 y p2 pt2 lv2 rfl
    have h29:aj cs p≠29:=by rw[hc.1];decide
    rw[if_neg h29] at f5
    obtain⟨k1,k2⟩:=uF (q:=p) (lvx:=lv) h (by omega) g3 (by omega) g4 (λ_=>rfl) (λ_ z hz=>(g5 z hz).elim (f5 z) .inr)
    refine⟨k1,λo q qt ql he=>?_⟩
    obtain⟨m1,m2⟩:=k2 o q qt ql he
    exact⟨x,y,by rw[m1,m2]⟩
  ·obtain⟨k1,k2⟩:=uF (q:=p) (lvx:=lv) h (by omega) f3 (by omega) f4 (λ_=>rfl) (λho z hz=>by rw[if_neg ho] at f5;exact f5 z hz)
   refine⟨k1,λo q qt ql he=>?_⟩
   obtain⟨m1,m2⟩:=k2 o q qt ql he
   exact⟨x,.nil,by rw[m1,m2]⟩
theorem cB{cs:List (Int×Int)}:∀(f d:Nat) (inL:Bool) (p:Nat) (pt lv:List Int) (out:Fo) (r:Except Nat LR),p<=cs.length->pt.length=cs.length->lv.length<=p->lst cs f d inL p pt lv out=some r->WI cs p lv r:=by
 intro f
 induction f with
 |zero=>intro d inL p pt lv out r _ _ _ h;cases h
 |succ f ih=>
  intro d inL p pt lv out r hp hpt hlv h
  have triv:∀r',some (Except.ok (out,p,pt,lv))=some r'->WI cs p lv r':=λr' h=>by
   have:=Option.some.inj h
   subst this
   intro o p1 pt1 lv1 he
   cases he
   exact⟨Nat.le_refl _,hp,hpt,hlv,λx hx=> .inl hx⟩
  rw[lst] at h
  split at h
  ·exact triv r h
  split at h
  ·exact triv r h
  split at h
  ·split at h
   ·cases h
   ·have:=Option.some.inj h
    subst this
    exact λo p1 pt1 lv1 he=>(by cases he)
   ·rename_i b p' pt' lv' hb
    obtain⟨f1,f2,f3,f4,f5⟩:=(kM (λd inL p pt lv r h1 h2 h3 h4=>ih d inL p pt lv .nil r h1 h2 h3 h4) (by omega) hpt hlv hb).1 b p' pt' lv' rfl
    have:=ih d inL p' pt' lv' (out.app b) r f2 f3 f4 h
    intro o p1 pt1 lv1 he
    obtain⟨g1,g2,g3,g4,g5⟩:=this o p1 pt1 lv1 he
    exact⟨by omega,g2,g3,g4,λx hx=>(g5 x hx).elim (f5 x) .inr⟩
  ·split at h
   ·have:=Option.some.inj h
    subst this
    exact λo p1 pt1 lv1 he=>(by cases he)
   ·have:=ih d inL (p+1) pt _ (out.addPl p) r (by omega) hpt (by split<;>(try simp)<;>omega) h
    intro o p1 pt1 lv1 he
    obtain⟨g1,g2,g3,g4,g5⟩:=this o p1 pt1 lv1 he
    refine⟨by omega,g2,g3,g4,λx hx=>(g5 x hx).elim (λhx=>?_) .inr⟩
    split at hx
    ·rcases List.mem_append.1 hx with hx|hx
     ·exact .inl hx
     ·simp at hx
      subst hx
      exact .inr ⟨by omega,by omega⟩
    ·exact .inl hx
structure RS where
 out:List Int
 op:List Nat
 ot:List Int
def ip(cs:List (Int×Int))(l:List Nat):Bool:=l.any λb=>decide (aj cs b=29)
def bQ(cs:List (Int×Int))(i:Nat)(s:RS):Option RS:=
 if aj cs i=27\/aj cs i=29 then if s.op.length=8 then none else some ⟨s.out.set i (-1),i::s.op,-1::s.ot⟩
 else if aj cs i=28 then match s.op,s.ot with
  |b::op,c::ot=>if aj cs b≠27\/0<=c then none else some ⟨(s.out.set i (-1)).set b i,b::op,(i:Int)::ot⟩
  |_,_=>none
 else if aj cs i=30 then if ip cs s.op=true then some ⟨s.out.set i (-1),s.op,s.ot⟩ else none
 else if aj cs i=31 then match s.op,s.ot with
  |b::op,c::ot=>some ⟨if 0<=c then((s.out.set i (-1)).set i b).set c.toNat i else((s.out.set i (-1)).set i b).set b i,op,ot⟩
  |_,_=>none
 else some ⟨s.out.set i (-1),s.op,s.ot⟩
def bz(cs:List (Int×Int)):Nat->Nat->RS->Except Nat RS
 |0,_,s=> .ok s
 |n+1,i,s=>match bQ cs i s with
  |none=> .error i
  |some s'=>bz cs n (i+1) s'
theorem iQ(cs:List (Int×Int)):∀(n m i:Nat) (s:RS),bz cs (n+m) i s=match bz cs n i s with
  |.error x=> .error x
  |.ok s'=>bz cs m (i+n) s'
 |0,m,i,s=>by simp[bz]
 |n+1,m,i,s=>by
  rw[show n+1+m=(n+m)+1 by omega,bz,bz]
  cases bQ cs i s with
  |none=>rfl
  |some s'=>
   dsimp only
   rw[iQ cs n m (i+1) s',show i+1+n=i+(n+1) by omega]
def Fo.pl1:Fo->Bool
 |.pl _ _ _=>true
 |_=>false
def aA(cs:List (Int×Int))(out:List Int):Fo->Nat->Nat->Prop
 |.nil,a,b=>a=b
 |.pl x y r,a,b=>x=a/\a<y/\(∀k,a<=k->k<y->aj cs k≠27/\aj cs k≠29/\aj cs k≠28/\aj cs k≠31)/\r.pl1=false/\aA cs out r y b
 |.br op x y u v r,a,b=>x=a/\aj cs a=op/\(op=27\/op=29)/\(∃m:Nat,out.getD a 0=m/\(a<m/\(op=29->aj cs m=31))/\m<b/\aA cs out u (a+1) m/\
   ((aj cs m=28/\∃e:Nat,out.getD m 0=e/\m<e/\e<b/\aA cs out v (m+1) e/\y=e+1)\/(aj cs m≠28/\v= .nil/\y=m+1)))/\aA cs out r y b
theorem aA.le{cs:List (Int×Int)}{out:List Int}:∀{o:Fo} {a b:Nat},aA cs out o a b->a<=b
 |.nil,a,b,h=>Nat.le_of_eq h
 |.pl x y r,a,b,h=>by
  obtain⟨_,h1,_,_,h2⟩:=h
  have:=aA.le h2
  omega
 |.br op x y u v r,a,b,h=>by
  obtain⟨_,_,_,⟨m,_,h1,_,_,h2⟩,h3⟩:=h
  have:=aA.le h3
  rcases h2 with⟨_,e,_,h4,_,_,h5⟩|⟨_,_,h5⟩<;>omega
theorem aA.congr{cs:List (Int×Int)}{out out2:List Int}:∀{o:Fo} {a b:Nat},aA cs out o a b->(∀k,a<=k->k<b->out2.getD k 0=out.getD k 0)->aA cs out2 o a b
 |.nil,a,b,h,_=>h
 |.pl x y r,a,b,h,hc=>by
  obtain⟨h0,h1,h2,h3,h4⟩:=h
  have:=h4.le
  exact⟨h0,h1,h2,h3,h4.congr λk k1 k2=>hc k (by omega) k2⟩
 |.br op x y u v r,a,b,h,hc=>by
  obtain⟨h0,h1,h2,⟨m,g1,g2,g3,g4,g5⟩,h4⟩:=h
  have hr:=h4.le
  refine⟨h0,h1,h2,⟨m,by rw[hc a (Nat.le_refl _) (by omega)];exact g1,g2,g3,g4.congr λk k1 k2=>hc k (by omega) (by omega),?_⟩,h4.congr λk k1 k2=>hc k ?_ k2⟩
  ·rcases g5 with⟨q0,e,q1,q2,q3,q4,q5⟩|⟨q0,q1,q2⟩
   ·exact .inl ⟨q0,e,by rw[hc m (by omega) g3];exact q1,q2,q3,q4.congr λk k1 k2=>hc k (by omega) (by omega),q5⟩
   ·exact .inr ⟨q0,q1,q2⟩
  ·rcases g5 with⟨_,e,_,q2,_,_,q5⟩|⟨_,_,q2⟩<;>omega
theorem aA.congr30{cs:List (Int×Int)}{out out2:List Int}:∀{o:Fo} {a b:Nat},aA cs out o a b->(∀k,aj cs k≠30->out2.getD k 0=out.getD k 0)->aA cs out2 o a b
 |.nil,a,b,h,_=>h
 |.pl x y r,a,b,h,hc=>by
  obtain⟨h0,h1,h2,h3,h4⟩:=h
  exact⟨h0,h1,h2,h3,h4.congr30 hc⟩
 |.br op x y u v r,a,b,h,hc=>by
  obtain⟨h0,h1,h2,⟨m,g1,g2,g3,g4,g5⟩,h4⟩:=h
  refine⟨h0,h1,h2,⟨m,by rw[hc a (by rw[h1];rcases h2 with h2|h2<;>rw[h2]<;>decide)];exact g1,g2,g3,g4.congr30 hc,?_⟩,h4.congr30 hc⟩
  rcases g5 with⟨q0,e,q1,q2,q3,q4,q5⟩|⟨q0,q1,q2⟩
  ·exact .inl ⟨q0,e,by rw[hc m (by rw[q0];decide)];exact q1,q2,q3,q4.congr30 hc,q5⟩
  ·exact .inr ⟨q0,q1,q2⟩
theorem aA.app{cs:List (Int×Int)}{out:List Int}:∀{o z:Fo} {a b c:Nat},aA cs out o a b->aA cs out z b c->(o.lastPl=true->z.pl1=false)->aA cs out (o.app z) a c
 |.nil,z,a,b,c,h,hz,_=>by cases h;exact hz
 |.pl x y r,z,a,b,c,h,hz,hl=>by
  obtain⟨h0,h1,h2,h3,h4⟩:=h
  refine⟨h0,h1,h2,?_,h4.app hz λhr=>hl ?_⟩
  ·cases r with
   |nil=>exact hl (by simp[Fo.lastPl,Fo.lastOp])
   |pl _ _ _=>exact h3
   |br _ _ _ _ _ _=>rfl
  ·cases r with
   |nil=>simp[Fo.lastPl,Fo.lastOp] at hr
   |pl _ _ _=>exact hr
   |br _ _ _ _ _ _=>exact hr
 |.br op x y u v r,z,a,b,c,h,hz,hl=>by
  obtain⟨h0,h1,h2,⟨m,g1,g2,g3,g4,g5⟩,h4⟩:=h
  have hle:=hz.le
  refine⟨h0,h1,h2,⟨m,g1,g2,by omega,g4,?_⟩,h4.app hz λhr=>hl ?_⟩
  ·rcases g5 with⟨q0,e,q1,q2,q3,q4,q5⟩|⟨q0,q1,q2⟩
   ·exact .inl ⟨q0,e,q1,q2,by omega,q4,q5⟩
   ·exact .inr ⟨q0,q1,q2⟩
  ·cases r with
   |nil=>simp[Fo.lastPl,Fo.lastOp] at hr
   |pl _ _ _=>exact hr
   |br _ _ _ _ _ _=>exact hr
theorem aA.bump{cs:List (Int×Int)}{out:List Int}:∀{o:Fo} {a p:Nat},aA cs out o a p->o.lastPl=true->aj cs p≠27->aj cs p≠29->aj cs p≠28->aj cs p≠31->aA cs out o.bump a (p+1)
 |.nil,a,p,h,hl,_,_,_,_=>by simp[Fo.lastPl,Fo.lastOp] at hl
 |.pl x y r,a,p,h,hl,h27,h29,h28,h31=>by
  obtain⟨h0,h1,h2,h3,h4⟩:=h
  unfold Fo.bump
  cases r with
  |nil=>
   rw[if_pos (show Fo.nil.len=0 from rfl)]
   have hy:y=p:=h4
   subst hy
   refine⟨h0,by omega,λk k1 k2=>?_,rfl,rfl⟩
   by_cases e:k=y
   ·subst e;exact⟨h27,h29,h28,h31⟩
   ·exact h2 k k1 (by omega)
  |pl x2 y2 r2=>cases h3
  |br op2 x2 y2 u2 v2 r2=>
   rw[if_neg (by simp[Fo.len])]
   refine⟨h0,h1,h2,?_,h4.bump hl h27 h29 h28 h31⟩
   unfold Fo.bump
   split<;>rfl
 |.br op x y u v r,a,p,h,hl,h27,h29,h28,h31=>by
  obtain⟨h0,h1,h2,⟨m,g1,g2,g3,g4,g5⟩,h4⟩:=h
  unfold Fo.bump
  have g5':((aj cs m=28/\∃e:Nat,out.getD m 0=e/\m<e/\e<p+1/\aA cs out v (m+1) e/\y=e+1)\/(aj cs m≠28/\v= .nil/\y=m+1)):=by
   rcases g5 with⟨q0,e,q1,q2,q3,q4,q5⟩|⟨q0,q1,q2⟩
   ·exact .inl ⟨q0,e,q1,q2,by omega,q4,q5⟩
   ·exact .inr ⟨q0,q1,q2⟩
  cases r with
  |nil=>
   have:op= -1:=of_decide_eq_true (show decide (op= -1)=true from hl)
   rcases h2 with h2|h2<;>rw[h2] at this<;>cases this
  |pl x2 y2 r2=>
   rw[if_neg (by simp[Fo.len])]
   exact⟨h0,h1,h2,⟨m,g1,g2,by omega,g4,g5'⟩,h4.bump hl h27 h29 h28 h31⟩
  |br op2 x2 y2 u2 v2 r2=>
   rw[if_neg (by simp[Fo.len])]
   exact⟨h0,h1,h2,⟨m,g1,g2,by omega,g4,g5'⟩,h4.bump hl h27 h29 h28 h31⟩
theorem aA.addPl{cs:List (Int×Int)}{out:List Int}{o:Fo}{a p:Nat}(h:aA cs out o a p)(h27:aj cs p≠27)(h29:aj cs p≠29)(h28:aj cs p≠28)(h31:aj cs p≠31):aA cs out (o.addPl p) a (p+1):=by
 unfold Fo.addPl
 split
 ·rename_i hl
  exact h.bump hl h27 h29 h28 h31
 ·rename_i hl
  refine h.app (b:=p) ⟨rfl,by omega,λk k1 k2=>?_,rfl,rfl⟩ (λhl2=>absurd hl2 hl)
  obtain rfl:k=p:=by omega
  exact⟨h27,h29,h28,h31⟩
theorem a9{l:List Int}{q i:Nat}{v:Int}(h:i≠q):(l.set q v).getD i 0=l.getD i 0:=by
 simp only[List.getD_eq_getElem?_getD,List.getElem?_set]
 rw[if_neg (Ne.symm h)]
theorem dF{l:List Int}{q:Nat}{v:Int}(h:q<l.length):(l.set q v).getD q 0=v:=by
 rw[eG h,if_pos rfl]
def bP(cs:List (Int×Int))(p:Nat)(s:RS)(x:Nat):Prop:=
 (x<cs.length/\bz cs (cs.length-p) p s= .error x)\/(x=cs.length/\∃s',bz cs (cs.length-p) p s= .ok s'/\s'.op≠[])
structure Ao(cs:List (Int×Int))(p:Nat)(s:RS)(p1:Nat)(s':RS):Prop where
 run:bz cs (p1-p) p s= .ok s'
 op:s'.op=s.op
 ot:s'.ot=s.ot
 len:s'.out.length=cs.length
 low:∀i,i<p->s'.out.getD i 0=s.out.getD i 0
def nF(cs:List (Int×Int))(p:Nat)(s:RS)(a:Nat):Except Nat LR->Prop
 |.error x=>p<=x/\bP cs p s x
 |.ok (o,p1,_,_)=>∃s',Ao cs p s p1 s'/\(p1=cs.length\/aj cs p1=28\/aj cs p1=31)/\aA cs s'.out o a p1
def CT(cs:List (Int×Int))(p:Nat)(s:RS):Except Nat LR->Prop
 |.error x=>p<=x/\bP cs p s x
 |.ok (o,p1,_,_)=>∃s',Ao cs p s p1 s'/\aA cs s'.out o p p1
theorem bP.step{cs:List (Int×Int)}{p:Nat}{s s1:RS}{x:Nat}(hp:p<cs.length)(h1:bQ cs p s=some s1)(h:bP cs (p+1) s1 x):bP cs p s x:=by
 have e:bz cs (cs.length-p) p s=bz cs (cs.length-(p+1)) (p+1) s1:=by
  rw[show cs.length-p=(cs.length-(p+1))+1 by omega,bz,h1]
 unfold bP
 rw[e]
 exact h
theorem bP.skip{cs:List (Int×Int)}{p p1:Nat}{s s1:RS}{x:Nat}(hp:p<=p1)(hp1:p1<=cs.length)(h1:bz cs (p1-p) p s= .ok s1)(h:bP cs p1 s1 x):bP cs p s x:=by
 have e:bz cs (cs.length-p) p s=bz cs (cs.length-p1) p1 s1:=by
  rw[show cs.length-p=(p1-p)+(cs.length-p1) by omega,iQ,h1]
  show bz cs (cs.length-p1) (p+(p1-p)) s1=_
  rw[show p+(p1-p)=p1 by omega]
 unfold bP
 rw[e]
 exact h
theorem bP.here{cs:List (Int×Int)}{p:Nat}{s:RS}(hp:p<cs.length)(h:bQ cs p s=none):bP cs p s p:=by
 refine .inl ⟨hp,?_⟩
 rw[show cs.length-p=(cs.length-(p+1))+1 by omega,bz,h]
theorem bP.fin{cs:List (Int×Int)}{s:RS}(h:s.op≠[]):bP cs cs.length s cs.length:= .inr ⟨rfl,s,by rw[Nat.sub_self];rfl,h⟩
theorem g8{cs:List (Int×Int)}{p:Nat}{s s1:RS}(h:bQ cs p s=some s1):bz cs 1 p s= .ok s1:=by rw[bz,h];rfl
theorem gg{cs:List (Int×Int)}{p p1 p2:Nat}{s s1:RS}{r:Except Nat RS}(hp:p<=p1)(hp1:p1<=p2)(h1:bz cs (p1-p) p s= .ok s1)(h2:bz cs (p2-p1) p1 s1=r):bz cs (p2-p) p s=r:=by
 rw[show p2-p=(p1-p)+(p2-p1) by omega,iQ,h1]
 show bz cs (p2-p1) (p+(p1-p)) s1=_
 rw[show p+(p1-p)=p1 by omega,h2]
theorem Ad{cs:List (Int×Int)}{L:Nat->Bool->Nat->List Int->List Int->Option (Except Nat LR)}(hL:wV cs L)
  (hS:∀d inL p pt lv r (s:RS),L d inL p pt lv=some r->p<=cs.length->pt.length=cs.length->lv.length<=p->s.op.length=d->s.ot.length=d->s.out.length=cs.length->ip cs s.op=inL->d<=8->nF cs p s p r)
  {d p:Nat} {inL:Bool} {pt lv:List Int} {r:Except Nat LR} {s:RS} (hp:p<cs.length) (hpt:pt.length=cs.length) (hlv:lv.length<=p) (hop:aj cs p=27\/aj cs p=29) (h1:s.op.length=d) (h2:s.ot.length=d) (h3:s.out.length=cs.length) (h4:ip cs s.op=inL) (hd:d<=8)
  (h:d8 cs L (d+1) inL p pt lv=some r):CT cs p s r:=by
 rw[d8] at h
 by_cases h8:d=8
 ·rw[if_pos (by omega)] at h
  cases h
  exact⟨Nat.le_refl _,.here hp (by rw[bQ,if_pos hop,if_pos (by omega)])⟩
 rw[if_neg (by omega)] at h
 have hs1:bQ cs p s=some ⟨s.out.set p (-1),p::s.op,-1::s.ot⟩:=by rw[bQ,if_pos hop,if_neg (by omega)]
 cases hl:L (d+1) (inL||decide (aj cs p=29)) (p+1) pt (if aj cs p=29 then[] else lv) with
 |none=>rw[hl] at h;cases h
 |some r1=>
 rw[hl] at h
 have hlv1:(if aj cs p=29 then[] else lv).length<=p+1:=by split<;>(try simp)<;>omega
 have k:=hS _ _ _ _ _ r1 ⟨s.out.set p (-1),p::s.op,-1::s.ot⟩ hl (by omega) hpt hlv1 (by simp[h1]) (by simp[h2]) (by simp[h3]) (by simp only[ip,List.any_cons];rw[Bool.or_comm,<-h4];rfl) (by omega)
 have kk:=hL _ _ _ _ _ r1 (by omega) hpt hlv1 hl
 cases r1 with
 |error x=>
  cases h
  obtain⟨k1,k2⟩:=k
  exact⟨by omega,k2.step hp hs1⟩
 |ok q=>
 obtain⟨x,p1,pt1,lv1⟩:=q
 obtain⟨s2,k2,k3,k4⟩:=k
 obtain⟨f1,f2,f3,f4,f5⟩:=kk x p1 pt1 lv1 rfl
 dsimp only at h
 have hr2:bz cs (p1-p) p s= .ok s2:=gg (p1:=p+1) (by omega) f1 (by rw[show p+1-p=1 by omega];exact g8 hs1) k2.run
 have ho2:s2.op=p::s.op:=k2.op
 have ht2:s2.ot= -1::s.ot:=k2.ot
 have hlow2:∀i,i<p->s2.out.getD i 0=s.out.getD i 0:=λi hi=>(k2.low i (by omega)).trans (a9 (by omega))
 by_cases hc:aj cs p=27/\p1<cs.length/\aj cs p1=28
 ·rw[if_pos hc] at h
  have hs3:bQ cs p1 s2=some ⟨(s2.out.set p1 (-1)).set p p1,p::s.op,(p1:Int)::s.ot⟩:=by
   rw[bQ,if_neg (by rw[hc.2.2];decide),if_pos hc.2.2,ho2,ht2]
   dsimp only
   rw[if_neg (by rw[hc.1];decide)]
  cases hl2:L (d+1) (inL||decide (aj cs p=29)) (p1+1) (pt1.set p p1) lv1 with
  |none=>rw[hl2] at h;cases h
  |some r2=>
  rw[hl2] at h
  have k':=hS _ _ _ _ _ r2 ⟨(s2.out.set p1 (-1)).set p p1,p::s.op,(p1:Int)::s.ot⟩ hl2 (by omega) (by rw[List.length_set];exact f3) (by omega) (by simp[h1]) (by simp[h2]) (by simp[k2.len]) (by simp only[ip,List.any_cons];rw[Bool.or_comm,<-h4];rfl) (by omega)
  have kk':=hL _ _ _ _ _ r2 (by omega) (by rw[List.length_set];exact f3) (by omega) hl2
  cases r2 with
  |error y=>
   cases h
   obtain⟨g1,g2⟩:=k'
   exact⟨by omega,(g2.step hc.2.1 hs3).skip (by omega) f2 hr2⟩
  |ok q=>
  obtain⟨y,p2,pt2,lv2⟩:=q
  obtain⟨s4,m2,m3,m4⟩:=k'
  obtain⟨e1,e2,e3,e4,e5⟩:=kk' y p2 pt2 lv2 rfl
  dsimp only at h
  have hr4:bz cs (p2-p) p s= .ok s4:=gg (p1:=p1) (by omega) (by omega) hr2 (gg (p1:=p1+1) (by omega) e1 (by rw[show p1+1-p1=1 by omega];exact g8 hs3) m2.run)
  have ho4:s4.op=p::s.op:=m2.op
  have ht4:s4.ot=(p1:Int)::s.ot:=m2.ot
  have hlow4:∀i,i<p1->i≠p->s4.out.getD i 0=s2.out.getD i 0:=λi hi hne=>(m2.low i (by omega)).trans ((a9 hne).trans (a9 (by omega)))
  rw[dx] at h
  by_cases he:p2<cs.length/\aj cs p2=31
  ·rw[if_pos he] at h
   cases h
   have hs5:bQ cs p2 s4=some ⟨((s4.out.set p2 (-1)).set p2 p).set p1 p2,s.op,s.ot⟩:=by
    rw[bQ,if_neg (by rw[he.2];decide),if_neg (by rw[he.2];decide),if_neg (by rw[he.2];decide),if_pos he.2,ho4,ht4]
    dsimp only
    rw[if_pos (Int.natCast_nonneg _)]
    rfl
   have hlow5:∀i,i≠p1->i≠p2->(((s4.out.set p2 (-1)).set p2 (p:Int)).set p1 (p2:Int)).getD i 0=s4.out.getD i 0:=λi h1 h2=>(a9 h1).trans ((a9 h2).trans (a9 h2))
   have hl4:s4.out.length=cs.length:=m2.len
   refine⟨⟨((s4.out.set p2 (-1)).set p2 p).set p1 p2,s.op,s.ot⟩,⟨gg (p1:=p2) (by omega) (by omega) hr4 (by rw[show p2+1-p2=1 by omega];exact g8 hs5),rfl,rfl,by simp[hl4],λi hi=>(hlow5 i (by omega) (by omega)).trans ((hlow4 i (by omega) (by omega)).trans (hlow2 i hi))⟩,?_⟩
   refine⟨rfl,rfl,hop,⟨p1,?_,by omega,by omega,k4.congr λk q1 q2=>(hlow5 k (by omega) (by omega)).trans (hlow4 k q2 (by omega)),.inl ⟨hc.2.2,p2,?_,by omega,by omega,m4.congr λk q1 q2=>hlow5 k (by omega) (by omega),rfl⟩⟩,rfl⟩
   ·refine(hlow5 p (by omega) (by omega)).trans ((m2.low p (by omega)).trans (dF ?_))
    rw[List.length_set,k2.len];omega
   ·exact dF (by simp[hl4];omega)
  ·rw[if_neg he] at h
   cases h
   refine⟨by omega,bP.skip (by omega) e2 hr4 ?_⟩
   by_cases hlen:p2=cs.length
   ·subst hlen
    exact .fin (by rw[ho4];simp)
   ·have h28:aj cs p2=28:=(m3.resolve_left hlen).resolve_right λh=>he ⟨by omega,h⟩
    refine .here (by omega) ?_
    rw[bQ,if_neg (by rw[h28];decide),if_pos h28,ho4,ht4]
    dsimp only
    rw[if_pos (.inr (Int.natCast_nonneg _))]
 ·rw[if_neg hc,dx] at h
  by_cases he:p1<cs.length/\aj cs p1=31
  ·rw[if_pos he] at h
   cases h
   have hs5:bQ cs p1 s2=some ⟨((s2.out.set p1 (-1)).set p1 p).set p p1,s.op,s.ot⟩:=by
    rw[bQ,if_neg (by rw[he.2];decide),if_neg (by rw[he.2];decide),if_neg (by rw[he.2];decide),if_pos he.2,ho2,ht2]
    rfl
   have hlow5:∀i,i≠p1->i≠p->(((s2.out.set p1 (-1)).set p1 (p:Int)).set p (p1:Int)).getD i 0=s2.out.getD i 0:=λi h1 h2=>(a9 h2).trans ((a9 h1).trans (a9 h1))
   have hl2:s2.out.length=cs.length:=k2.len
   refine⟨⟨((s2.out.set p1 (-1)).set p1 p).set p p1,s.op,s.ot⟩,⟨gg (p1:=p1) (by omega) (by omega) hr2 (by rw[show p1+1-p1=1 by omega];exact g8 hs5),rfl,rfl,by simp[hl2],λi hi=>(hlow5 i (by omega) (by omega)).trans (hlow2 i hi)⟩,?_⟩
   refine⟨rfl,rfl,hop,⟨p1,dF (by simp[hl2];omega),by omega,by omega,k4.congr λk q1 q2=>hlow5 k (by omega) (by omega),.inr ⟨by rw[he.2];decide,rfl,rfl⟩⟩,rfl⟩
  ·rw[if_neg he] at h
   cases h
   refine⟨by omega,bP.skip (by omega) f2 hr2 ?_⟩
   by_cases hlen:p1=cs.length
   ·subst hlen
    exact .fin (by rw[ho2];simp)
   ·have h28:aj cs p1=28:=(k3.resolve_left hlen).resolve_right λh=>he ⟨by omega,h⟩
    refine .here (by omega) ?_
    rw[bQ,if_neg (by rw[h28];decide),if_pos h28,ho2,ht2]
    dsimp only
    rw[if_pos (.inl λh27=>hc ⟨h27,by omega,h28⟩)]
def fA(at_ e:Int):List PanicEntry:=[{v:= .iface 211 (.agg #[.int .i64 at_,.int .i64 e]),recovered:=false}]
theorem wG(a n:Int)(w:World):
  Calls Tryz.prog 115 #[.bool false,.int .i64 a,.int .i64 n] w λe w'=>e= .panicked (fA a n)/\Below w.heap.size w w':=by
 go_enter Tryz.func115,Tryz.ntmps115
 go_wp2
 exact(⟨rfl,rfl,Below.refl _ _⟩:_/\_/\_)
theorem Ba{σ:Sg}{b:Bool}{k k':IntKind}{a n:Int}{args':Array Value}(h:a8 σ [.b b,.n k a,.n k' n] args'.toList):args'= #[.bool b,.int k a,.int k' n]:=by
 obtain⟨l⟩:=args'
 obtain⟨h1,h2⟩:=h
 match l,h1 with
 |[x,y,z],_=>
  have e0:=h2 0 _ rfl
  have e1:=h2 1 _ rfl
  have e2:=h2 2 _ rfl
  simp only[List.getD_cons_zero,List.getD_cons_succ] at e0 e1 e2
  cases e0;cases e1;cases e2
  rfl
theorem wF:nN Tryz.prog 115:=⟨_,Tryz.func115,by kernel_rfl,rfl⟩
theorem bh(a n:Int):Kp Tryz.prog 115 [.b false,.n .i64 a,.n .i64 n] (fA a n):=by
 refine⟨wF,λφ w args' hφ ha=>?_⟩
 obtain rfl:=Ba ha
 exact wG a n w
theorem bT(a n:Int):bN Tryz.prog 115 [.b true,.n .i64 a,.n .i64 n] []:=by
 refine ag aF Ua ⟨by simp,by decide⟩ ?_
 simp only[aH]
 repeat first|with_reducible refine ao ?_|simp only[go_sem,simprocAttr]
 exact⟨[],rfl,trivial⟩
theorem Cw:nP 9 .p .p0 .p0=some true:=id rfl
theorem Cu(b o:Nat):nP 9 .p (.p b o) .p0=some false:=id rfl
theorem iT(op:Int):bN Tryz.prog 169 [.n .i64 op] [.v (.b (decide (op=27)||decide (op=29)))]:=by
 refine ag aF Tp ⟨by simp,by decide⟩ ?_
 simp only[aH]
 by_cases h:op=27
 ·subst h
  repeat first|with_reducible refine ao ?_|simp only[go_sem,simprocAttr]
  exact aa (by simp) rfl
 ·repeat first|with_reducible refine ao ?_|simp only[h,decide_false,go_sem,simprocAttr]
  exact aa (by simp[h]) rfl
theorem lt1z{i:Nat}(h:i<1):i=0:=by omega
def iC(l:List Int)(i _j:Nat):AV:= .n .i64 (l.getD i 0)
theorem Wf(l:List Int)(i j:Nat):iC l i j= .n .i64 (l.getD i 0):=rfl
def bG(b:Nat):Bool:=decide (b<1)
def db(b:Nat):Bool:=decide (b<2)
theorem aC{ρ:List Nat}(h:ρ.reverse[0]? =some 0):∀b,bG b=true->ρ.reverse[b]? =some b:=λb hb=>by
 have:=of_decide_eq_true hb
 obtain rfl:b=0:=by omega
 exact h
theorem bg{ρ:List Nat}(h:ρ.reverse[0]? =some 0)(h1:ρ.reverse[1]? =some 1):∀b,db b=true->ρ.reverse[b]? =some b:=λb hb=>by
 have:=of_decide_eq_true hb
 rcases(show b=0\/b=1 by omega) with rfl|rfl
 ·exact h
 ·exact h1
theorem j8:∀(bl:List AB) (b:Nat) (x:AB),bl.length<1000000->(ah bl).at b=some x->bl.reverse[b]? =some x
 |[],b,x,_,h=>by rw[iB] at h;cases h
 |y::l,b,x,hl,h=>by
  simp only[List.length_cons] at hl
  rw[cL (by omega)] at h
  rw[List.reverse_cons]
  by_cases hb:b=l.length
  ·subst hb
   rw[if_pos rfl] at h
   split at h
   ·cases h;rw[List.getElem?_append_right (by simp)];simp
   ·cases h
  ·rw[if_neg hb] at h
   have hx:=j8 l b x (by omega) h
   rw[List.getElem?_append_left (List.getElem?_eq_some_iff.1 hx).1]
   exact hx
theorem il{bl:List AB}(hl:bl.length<1000000)(h:(bl.reverse[0]?.map (λx:AB=>decide (0<x.size)))=some true):∀b x,bG b=true->(ah bl).at b=some x->0<x.size:=λb x hb hx=>by
 have:=of_decide_eq_true hb
 obtain rfl:b=0:=by omega
 rw[j8 bl 0 x hl hx] at h
 simpa using h
theorem ik{bl:List AB}(hl:bl.length<1000000)(h:(bl.reverse[0]?.map (λx:AB=>decide (0<x.size)))=some true)(h1:(bl.reverse[1]?.map (λx:AB=>decide (0<x.size)))=some true):∀b x,db b=true->(ah bl).at b=some x->0<x.size:=λb x hb hx=>by
 have:=of_decide_eq_true hb
 rcases(show b=0\/b=1 by omega) with rfl|rfl
 ·rw[j8 bl 0 x hl hx] at h
  simpa using h
 ·rw[j8 bl 1 x hl hx] at h1
  simpa using h1
def WZ:Fo->AV
 |.br op a b x y _=> .agg [.n .i64 op,.n .i64 a,.n .i64 b,.fs 5 x.len x.cell,.fs 5 y.len y.cell]
 |_=> .u
def pW(cs:List (Int×Int))(f:Nat):Prop:=∀(d:Nat) (p:Nat) (pt lv:List Int) (r:Except Nat LR),d<=100->p<=cs.length->pt.length=cs.length->lv.length<=p->lst cs f d false p pt lv .nil=some r->
 PC Tryz.prog bG 117 [.p 0 0,.n .i64 d,.p0] (ah [ai 3 1 pt.length 0 (iC pt),ae 0 173 [.fs 2 cs.length (pI cs),.n .i64 p,.os 1 pt.length]]) (λv H'=>∃o p1 pt1 lv1,r= .ok (o,p1,pt1,lv1)/\v= .fs 5 o.len o.cell/\H'=ah [ai 3 1 pt1.length 0 (iC pt1),ae 0 173 [.fs 2 cs.length (pI cs),.n .i64 p1,.os 1 pt1.length]]) (λc _=>∃x,r= .error x/\c=fA x 15)
def uM(cs:List (Int×Int))(L:Nat->Bool->Nat->List Int->List Int->Option (Except Nat LR)):Prop:=∀(d:Nat) (p:Nat) (pt lv:List Int) (r:Except Nat LR),d<=101->p<cs.length->pt.length=cs.length->lv.length<=p->(aj cs p=27\/aj cs p=29)->d8 cs L d false p pt lv=some r->
 PC Tryz.prog bG 170 [.p 0 0,.n .i64 d,.p0] (ah [ai 3 1 pt.length 0 (iC pt),ae 0 173 [.fs 2 cs.length (pI cs),.n .i64 p,.os 1 pt.length]]) (λv H'=>∃o p1 pt1 lv1,r= .ok (o,p1,pt1,lv1)/\(∃op a b x y,o= .br op a b x y .nil/\b<=p1)/\p1<=cs.length/\p<p1/\pt1.length=cs.length/\lv1.length<=p1/\v=WZ o/\H'=ah [ai 3 1 pt1.length 0 (iC pt1),ae 0 173 [.fs 2 cs.length (pI cs),.n .i64 p1,.os 1 pt1.length]]) (λc _=>∃x,r= .error x/\c=fA x 15)
theorem yQ(cs:List (Int×Int))(hcs:cs.length<=1024)(f:Nat)(hB:∀m,m<f->uM cs (λd inL p pt lv=>lst cs m d inL p pt lv .nil)):pW cs f:=by
 intro d p pt lv r hd hp hpt hlv hr
 refine PC.vw (cI CZ ⟨by simp,by decide⟩ ?_)
 simp only[aH]
 repeat first|with_reducible refine GE.g ?_|simp only[go_sem,simprocAttr]
 refine GE.wk (b6.nil 7 5 140 (by simp only[go_sem,simprocAttr]) (by decide) (by simp only[go_sem,simprocAttr])) ?_
 simp only[ke]
 refine GE.loop (I:=λm e H=>∃(p:Nat) (pt lv:List Int) (out:Fo),m<=f/\p<=cs.length/\pt.length=cs.length/\lv.length<=p/\out.len<=p/\out.lastB 0<=p/\lst cs m d false p pt lv out=some r/\e=aB [(0,.p 0 0),(1,.n .i64 d),(2,.p0),(7,.os 2 out.len)]/\H=ah [ai 140 5 out.len 0 out.cell,ai 3 1 pt.length 0 (iC pt),ae 0 173 [.fs 2 cs.length (pI cs),.n .i64 p,.os 1 pt.length]]) (b6.mk [2,1,0] [] ?_ ?_ ?_ (aC rfl)) ⟨p,pt,lv,.nil,Nat.le_refl _,hp,hpt,hlv,Nat.zero_le _,Nat.zero_le _,hr,rfl,rfl⟩ ?_
 ·exact ba
 ·refine .cr (.rows (x:=_) (by simp only[go_sem,simprocAttr];rfl) (by rfl) (by rfl) (by rfl) (by decide) (by decide) (by decide) (λi j h=>by simp[Fo.len] at h) (λi j h=>by simp[Fo.len] at h)) (.cr .k1 (.cr (.j3) .nil))
 ·simp
 clear hr hp hpt hlv pt lv p
 rintro m e H ⟨p,pt,lv,out,hm,hp,hpt,hlv,hol,hob2,hr,rfl,rfl⟩
 have h0:(0:Int)<=(p:Int):=by omega
 cases m with
 |zero=>cases hr
 |succ m=>
 rw[lst] at hr
 by_cases h1:cs.length<=p
 ·rw[if_pos h1] at hr
  have h1':¬(p:Int)<cs.length:=by omega
  repeat first|with_reducible refine GE.g ?_|simp only[h1',decide_false,go_sem,simprocAttr]
  refine gX [1,0] [2] (.fs 5 out.len out.cell) [ai 3 1 pt.length 0 (iC pt),ae 0 173 [.fs 2 cs.length (pI cs),.n .i64 p,.os 1 pt.length]] (.cr .k1 (.cr (.j3) .nil)) (.cv (.ownb (ty:=140) (z:=0) (by simp only[go_sem,simprocAttr]) (λi j hi _=>out.cell_ok i j hi) (by simp))) (by simp) (aC rfl) ⟨out,p,pt,lv,?_,rfl,rfl⟩
  exact(Option.some.inj hr).symm
 rw[if_neg h1] at hr
 have h1':(p:Int)<cs.length:=by omega
 have hp':p<cs.length:=by omega
 by_cases e28:(cs.getD p (0,0)).1=28
 ·rw[if_pos (.inl e28)] at hr
  repeat first|with_reducible refine GE.g ?_|simp only[h1',h0,cT,e28,decide_true,go_sem,simprocAttr]
  refine gX [1,0] [2] (.fs 5 out.len out.cell) [ai 3 1 pt.length 0 (iC pt),ae 0 173 [.fs 2 cs.length (pI cs),.n .i64 p,.os 1 pt.length]] (.cr .k1 (.cr (.j3) .nil)) (.cv (.ownb (ty:=140) (z:=0) (by simp only[go_sem,simprocAttr]) (λi j hi _=>out.cell_ok i j hi) (by simp))) (by simp) (aC rfl) ⟨out,p,pt,lv,?_,rfl,rfl⟩
  exact(Option.some.inj hr).symm
 by_cases e31:(cs.getD p (0,0)).1=31
 ·rw[if_pos (.inr e31)] at hr
  repeat first|with_reducible refine GE.g ?_|simp only[h1',h0,cT,e28,e31,decide_true,decide_false,go_sem,simprocAttr]
  refine gX [1,0] [2] (.fs 5 out.len out.cell) [ai 3 1 pt.length 0 (iC pt),ae 0 173 [.fs 2 cs.length (pI cs),.n .i64 p,.os 1 pt.length]] (.cr .k1 (.cr (.j3) .nil)) (.cv (.ownb (ty:=140) (z:=0) (by simp only[go_sem,simprocAttr]) (λi j hi _=>out.cell_ok i j hi) (by simp))) (by simp) (aC rfl) ⟨out,p,pt,lv,?_,rfl,rfl⟩
  exact(Option.some.inj hr).symm
 rw[if_neg (show ¬(aj cs p=28\/aj cs p=31) from λh=>h.elim e28 e31)] at hr
 by_cases hbr:aj cs p=27\/aj cs p=29
 ·rw[if_pos hbr] at hr
  have hob:(decide ((cs.getD p (0,0)).1=27)||decide ((cs.getD p (0,0)).1=29))=true:=by simpa [aj] using hbr
  have wd:IntKind.i64.wrap ((d:Int)+1)=((d+1:Nat):Int):=(am (by omega)).trans (by omega)
  repeat first|with_reducible refine GE.g ?_|simp only[h1',h0,cT,e28,e31,decide_true,decide_false,go_sem,simprocAttr]
  refine dd ([.n .i64 (cs.getD p (0,0)).1]) (iT _) ?_
  repeat first|with_reducible refine GE.g ?_|simp only[hob,wd,go_sem,simprocAttr]
  cases hb:d8 cs (λd inL p pt lv=>lst cs m d inL p pt lv .nil) (d+1) false p pt lv with
  |none=>rw[hb] at hr;cases hr
  |some rb=>
  rw[hb] at hr
  refine ng bG [(0,.p 0 0),(1,.n .i64 d),(2,.p0),(42,.os 2 out.len)] [ai 140 5 out.len 0 out.cell] [ai 3 1 pt.length 0 (iC pt),ae 0 173 [.fs 2 cs.length (pI cs),.n .i64 p,.os 1 pt.length]] (hB m (by omega) (d+1) p pt lv rb (by omega) hp' hpt hlv hbr hb) rfl ?_ ?_ ?_ ?_ (λb hb=>by simp[hb]) ?_ ?_ ?_ ?_ ?_ ?_ ?_
  ·simp only[uJ,go_sem,simprocAttr]
  ·simp
  ·rfl
  ·exact λb hb=>by simp[bG] at hb;simp;omega
  ·exact il (by simp) (by rfl)
  ·simp[AV.nm]
  ·simp[AV.nm,bG]
  ·exact .cons (.row (by decide) (λi j _ _=>rfl)) (.cons .lq .nil)
  ·exact .cons (.row (by decide) (λi j hi _=>out.cell_nm _ i j hi)) .nil
  ·rintro v H' ⟨o,p1,pt1,lv1,rfl,⟨op,a,b,x,y,rfl,hbp⟩,h11,h12,h13,h14,rfl,rfl⟩
   refine⟨[ai 3 1 pt1.length 0 (iC pt1),ae 0 173 [.fs 2 cs.length (pI cs),.n .i64 p1,.os 1 pt1.length]],rfl,rfl,?_⟩
   simp only[List.cons_append,List.nil_append]
   have hap:((out.len+1)*5<1099511627776/\(out.len+1)*72<=140737488355328)/\out.len<=9223372036854775806:=⟨⟨by omega,by omega⟩,by omega⟩
   simp only[WZ]
   repeat first|with_reducible refine GE.g ?_|simp only[hap,go_sem,simprocAttr]
   have hla:(out.app (.br op a b x y .nil)).len=out.len+1:=Fo.len_app _ _
   refine⟨m,_,_,Nat.lt_succ_self m,b6.mk [4,1,0] [] ?_ ?_ (by simp) (aC rfl),p1,pt1,lv1,out.app (.br op a b x y .nil),by omega,h11,h13,h14,by omega,by rw[Fo.lastB_app];exact hbp,hr,rfl,rfl⟩
   ·rw[hla]
    simp only[d9,cM,go_sem,simprocAttr]
    repeat' refine a7 ?_ ?_
    all_goals first|exact iI|skip
   ·rw[hla]
    refine .cr (.snoc (row:=out.cell) (n:=out.len) (l:=[.n .i64 op,.n .i64 a,.n .i64 b,.fs 5 x.len x.cell,.fs 5 y.len y.cell]) (by simp only[go_sem,simprocAttr]) rfl rfl rfl (by decide) (by omega) (λi j hi _=>by rw[Fo.cell_app,if_pos hi]) (λj hj=>by rw[Fo.cell_app,if_neg (Nat.lt_irrefl _),Nat.sub_self];rcases(show j=0\/j=1\/j=2\/j=3\/j=4 by omega) with rfl|rfl|rfl|rfl|rfl<;>rfl) (λi j hi _=>Fo.cell_pu _ i j (hla ▸ hi))) (.cr .k1 (.cr (.j3) .nil))
  ·rintro c H' ⟨x,rfl,rfl⟩
   exact⟨x,(Option.some.inj hr).symm,rfl⟩
 rw[if_neg hbr] at hr
 have hob:(decide ((cs.getD p (0,0)).1=27)||decide ((cs.getD p (0,0)).1=29))=false:=by simpa [aj] using hbr
 repeat first|with_reducible refine GE.g ?_|simp only[h1',h0,cT,e28,e31,decide_true,decide_false,go_sem,simprocAttr]
 refine dd ([.n .i64 (cs.getD p (0,0)).1]) (iT _) ?_
 repeat first|with_reducible refine GE.g ?_|simp only[hob,Bool.false_eq_true,false_implies,true_and,forall_const,go_sem,simprocAttr]
 by_cases e30:(cs.getD p (0,0)).1=30
 ·rw[if_pos ⟨e30,rfl⟩] at hr
  repeat first|with_reducible refine GE.g ?_|simp only[e30,Cw,Bool.not_true,decide_true,go_sem,simprocAttr]
  exact aM [] (fargs:=[.b false,.n .i64 (p:Int),.n .i64 15]) (cm.same rfl) (bh p 15) ⟨p,(Option.some.inj hr).symm,rfl⟩
 rw[if_neg (λh=>e30 h.1),if_neg (show ¬aj cs p=30 from e30)] at hr
 repeat first|with_reducible refine GE.g ?_|simp only[e30,decide_false,go_sem,simprocAttr]
 have w0:IntKind.i64.wrap ((p:Int)+1)=((p+1:Nat):Int):=(am (by omega)).trans (by omega)
 have hap:((out.len+1)*5<1099511627776/\(out.len+1)*72<=140737488355328)/\out.len<=9223372036854775806:=⟨⟨by omega,by omega⟩,by omega⟩
 by_cases hpl:out.lastPl=true
 ·have hl0:=Fo.last_len hpl
  obtain⟨q,hq⟩:∃q,q=out.len-1:=⟨_,rfl⟩
  have hl1:(0:Int)<out.len:=by omega
  have w1:IntKind.i64.wrap ((out.len:Int)-1)=(q:Int):=(am (by omega)).trans (by omega)
  have hl2:(q:Int)<out.len:=by omega
  have hl3:(0:Int)<=(q:Int):=by omega
  have c0:=(Fo.cell_last out 0 0 hl0).1
  have c2:=(Fo.cell_last out 0 0 hl0).2
  rw[of_decide_eq_true hpl,<-hq] at c0
  rw[<-hq] at c2
  have w2:IntKind.i64.wrap ((out.lastB 0:Int)+1)=((out.lastB 0+1:Nat):Int):=(am (by omega)).trans (by omega)
  have hq5:q*5<out.len*5:=by omega
  have hq53:q*5+2+1<=out.len*5:=by omega
  have hq52:q*5+2<out.len*5:=by omega
  have hg0:(ai 140 5 out.len 0 out.cell).get (q*5)= .n .i64 (-1):=(aK q 0 (by decide)).trans c0
  have hg2:(ai 140 5 out.len 0 out.cell).get (q*5+2)= .n .i64 (out.lastB 0):=(aK q 2 (by decide)).trans c2
  repeat first|with_reducible refine GE.g ?_|simp only[hl1,w1,hl2,hl3,hq5,hq52,hg0,hg2,hq53,w2,w0,decide_true,cT,go_sem,simprocAttr]
  have hadd:out.addPl p=out.bump:=if_pos hpl
  have hbl:out.bump.len=out.len:=Fo.len_bump out
  rw[hadd] at hr
  refine⟨m,_,_,Nat.lt_succ_self m,b6.mk [2,1,0] [] ?_ ?_ (by simp) (aC rfl),p+1,pt,lv,out.bump,by omega,by omega,hpt,by omega,by omega,by rw[Fo.lastB_bump out 0 hl0];omega,hr,rfl,rfl⟩
  ·rw[hbl]
   simp only[d9,cM,go_sem,simprocAttr]
   repeat' refine a7 ?_ ?_
   all_goals first|exact iI|skip
  ·rw[hbl]
   exact .cr (.put1 (row:=out.cell) (q:=q) (t:=2) (v:= .n .i64 ((out.lastB 0+1:Nat):Int)) (by simp only[go_sem,simprocAttr]) rfl (by decide) (by omega) rfl (by omega) (λi j hi _=>by rw[Fo.cell_bump out 0 i j hi,hq]) (λi j hi _=>Fo.cell_pu _ i j (hbl ▸ hi))) (.cr .k1 (.cr (.j3) .nil))
 ·have hpl':out.lastPl=false:=by simpa using hpl
  have hadd:out.addPl p=out.app (.pl p (p+1) .nil):=if_neg hpl
  rw[hadd] at hr
  have hla:(out.app (.pl p (p+1) .nil)).len=out.len+1:=Fo.len_app _ _
  by_cases hl0:out.len=0
  ·have hl1:¬(0:Int)<out.len:=by omega
   repeat first|with_reducible refine GE.g ?_|simp only[hl1,w0,hap,decide_false,cT,go_sem,simprocAttr]
   refine⟨m,_,_,Nat.lt_succ_self m,b6.mk [4,1,0] [] ?_ ?_ (by simp) (aC rfl),p+1,pt,lv,out.app (.pl p (p+1) .nil),by omega,by omega,hpt,by omega,by omega,by rw[Fo.lastB_app];exact Nat.le_refl _,hr,rfl,rfl⟩
   ·rw[hla]
    simp only[d9,cM,go_sem,simprocAttr]
    repeat' refine a7 ?_ ?_
    all_goals first|exact iI|skip
   ·rw[hla]
    refine .cr (.snoc (row:=out.cell) (n:=out.len) (l:=[.n .i64 (-1),.n .i64 p,.n .i64 ((p+1:Nat):Int),.sl0,.sl0]) (by simp only[go_sem,simprocAttr]) rfl rfl rfl (by decide) (by omega) (λi j hi _=>by rw[Fo.cell_app,if_pos hi]) (λj hj=>by rw[Fo.cell_app,if_neg (Nat.lt_irrefl _),Nat.sub_self];rcases(show j=0\/j=1\/j=2\/j=3\/j=4 by omega) with rfl|rfl|rfl|rfl|rfl<;>rfl) (λi j hi _=>Fo.cell_pu _ i j (hla ▸ hi))) (.cr .k1 (.cr (.j3) .nil))
  ·have hl1:(0:Int)<out.len:=by omega
   obtain⟨q,hq⟩:∃q,q=out.len-1:=⟨_,rfl⟩
   have w1:IntKind.i64.wrap ((out.len:Int)-1)=(q:Int):=(am (by omega)).trans (by omega)
   have hl2:(q:Int)<out.len:=by omega
   have hl3:(0:Int)<=(q:Int):=by omega
   have c0:=(Fo.cell_last out 0 0 (by omega)).1
   rw[<-hq] at c0
   have hne:¬out.lastOp 0= -1:=of_decide_eq_false hpl'
   have hq5:q*5<out.len*5:=by omega
   have hg0:(ai 140 5 out.len 0 out.cell).get (q*5)= .n .i64 (out.lastOp 0):=(aK q 0 (by decide)).trans c0
   repeat first|with_reducible refine GE.g ?_|simp only[hl1,w1,hl2,hl3,hq5,hg0,hne,w0,hap,decide_true,decide_false,cT,go_sem,simprocAttr]
   refine⟨m,_,_,Nat.lt_succ_self m,b6.mk [4,1,0] [] ?_ ?_ (by simp) (aC rfl),p+1,pt,lv,out.app (.pl p (p+1) .nil),by omega,by omega,hpt,by omega,by omega,by rw[Fo.lastB_app];exact Nat.le_refl _,hr,rfl,rfl⟩
   ·rw[hla]
    simp only[d9,cM,go_sem,simprocAttr]
    repeat' refine a7 ?_ ?_
    all_goals first|exact iI|skip
   ·rw[hla]
    refine .cr (.snoc (row:=out.cell) (n:=out.len) (l:=[.n .i64 (-1),.n .i64 p,.n .i64 ((p+1:Nat):Int),.sl0,.sl0]) (by simp only[go_sem,simprocAttr]) rfl rfl rfl (by decide) (by omega) (λi j hi _=>by rw[Fo.cell_app,if_pos hi]) (λj hj=>by rw[Fo.cell_app,if_neg (Nat.lt_irrefl _),Nat.sub_self];rcases(show j=0\/j=1\/j=2\/j=3\/j=4 by omega) with rfl|rfl|rfl|rfl|rfl<;>rfl) (λi j hi _=>Fo.cell_pu _ i j (hla ▸ hi))) (.cr .k1 (.cr (.j3) .nil))
def pV(cs:List (Int×Int))(f:Nat):Prop:=∀(d:Nat) (p:Nat) (pt lv:List Int) (r:Except Nat LR),d<=100->p<=cs.length->pt.length=cs.length->lv.length<=p->lst cs f d true p pt lv .nil=some r->
 PC Tryz.prog db 117 [.p 0 0,.n .i64 d,.p 1 0] (ah [ai 3 1 lv.length 0 (iC lv),ai 3 1 pt.length 0 (iC pt),ae 0 95 [.os 3 lv.length],ae 0 173 [.fs 2 cs.length (pI cs),.n .i64 p,.os 2 pt.length]]) (λv H'=>∃o p1 pt1 lv1,r= .ok (o,p1,pt1,lv1)/\v= .fs 5 o.len o.cell/\H'=ah [ai 3 1 lv1.length 0 (iC lv1),ai 3 1 pt1.length 0 (iC pt1),ae 0 95 [.os 3 lv1.length],ae 0 173 [.fs 2 cs.length (pI cs),.n .i64 p1,.os 2 pt1.length]]) (λc _=>∃x,r= .error x/\c=fA x 15)
def uL(cs:List (Int×Int))(L:Nat->Bool->Nat->List Int->List Int->Option (Except Nat LR)):Prop:=∀(d:Nat) (p:Nat) (pt lv:List Int) (r:Except Nat LR),d<=101->p<cs.length->pt.length=cs.length->lv.length<=p->(aj cs p=27\/aj cs p=29)->d8 cs L d true p pt lv=some r->
 PC Tryz.prog db 170 [.p 0 0,.n .i64 d,.p 1 0] (ah [ai 3 1 lv.length 0 (iC lv),ai 3 1 pt.length 0 (iC pt),ae 0 95 [.os 3 lv.length],ae 0 173 [.fs 2 cs.length (pI cs),.n .i64 p,.os 2 pt.length]]) (λv H'=>∃o p1 pt1 lv1,r= .ok (o,p1,pt1,lv1)/\(∃op a b x y,o= .br op a b x y .nil/\b<=p1)/\p1<=cs.length/\p<p1/\pt1.length=cs.length/\lv1.length<=p1/\v=WZ o/\H'=ah [ai 3 1 lv1.length 0 (iC lv1),ai 3 1 pt1.length 0 (iC pt1),ae 0 95 [.os 3 lv1.length],ae 0 173 [.fs 2 cs.length (pI cs),.n .i64 p1,.os 2 pt1.length]]) (λc _=>∃x,r= .error x/\c=fA x 15)
theorem yP(cs:List (Int×Int))(hcs:cs.length<=1024)(f:Nat)(hB:∀m,m<f->uL cs (λd inL p pt lv=>lst cs m d inL p pt lv .nil)):pV cs f:=by
 intro d p pt lv r hd hp hpt hlv hr
 refine PC.vw (cI CZ ⟨by simp,by decide⟩ ?_)
 simp only[aH]
 repeat first|with_reducible refine GE.g ?_|simp only[go_sem,simprocAttr]
 refine GE.wk (b6.nil 7 5 140 (by simp only[go_sem,simprocAttr]) (by decide) (by simp only[go_sem,simprocAttr])) ?_
 simp only[ke]
 refine GE.loop (I:=λm e H=>∃(p:Nat) (pt lv:List Int) (out:Fo),m<=f/\p<=cs.length/\pt.length=cs.length/\lv.length<=p/\out.len<=p/\out.lastB 0<=p/\lst cs m d true p pt lv out=some r/\e=aB [(0,.p 0 0),(1,.n .i64 d),(2,.p 1 0),(7,.os 4 out.len)]/\H=ah [ai 140 5 out.len 0 out.cell,ai 3 1 lv.length 0 (iC lv),ai 3 1 pt.length 0 (iC pt),ae 0 95 [.os 3 lv.length],ae 0 173 [.fs 2 cs.length (pI cs),.n .i64 p,.os 2 pt.length]]) (b6.mk [4,3,2,1,0] [] ?_ ?_ ?_ (bg rfl rfl)) ⟨p,pt,lv,.nil,Nat.le_refl _,hp,hpt,hlv,Nat.zero_le _,Nat.zero_le _,hr,rfl,rfl⟩ ?_
 ·exact ba
 ·refine .cr (.rows (x:=_) (by simp only[go_sem,simprocAttr];rfl) (by rfl) (by rfl) (by rfl) (by decide) (by decide) (by decide) (λi j h=>by simp[Fo.len] at h) (λi j h=>by simp[Fo.len] at h)) (.cr .k1 (.cr .k1 (.cr (.j1) (.cr (.j3) .nil))))
 ·simp
 clear hr hp hpt hlv pt lv p
 rintro m e H ⟨p,pt,lv,out,hm,hp,hpt,hlv,hol,hob2,hr,rfl,rfl⟩
 have h0:(0:Int)<=(p:Int):=by omega
 cases m with
 |zero=>cases hr
 |succ m=>
 rw[lst] at hr
 by_cases h1:cs.length<=p
 ·rw[if_pos h1] at hr
  have h1':¬(p:Int)<cs.length:=by omega
  repeat first|with_reducible refine GE.g ?_|simp only[h1',decide_false,go_sem,simprocAttr]
  refine gX [3,2,1,0] [4] (.fs 5 out.len out.cell) [ai 3 1 lv.length 0 (iC lv),ai 3 1 pt.length 0 (iC pt),ae 0 95 [.os 3 lv.length],ae 0 173 [.fs 2 cs.length (pI cs),.n .i64 p,.os 2 pt.length]] (.cr .k1 (.cr .k1 (.cr (.j1) (.cr (.j3) .nil)))) (.cv (.ownb (ty:=140) (z:=0) (by simp only[go_sem,simprocAttr]) (λi j hi _=>out.cell_ok i j hi) (by simp))) (by simp) (bg rfl rfl) ⟨out,p,pt,lv,?_,rfl,rfl⟩
  exact(Option.some.inj hr).symm
 rw[if_neg h1] at hr
 have h1':(p:Int)<cs.length:=by omega
 have hp':p<cs.length:=by omega
 by_cases e28:(cs.getD p (0,0)).1=28
 ·rw[if_pos (.inl e28)] at hr
  repeat first|with_reducible refine GE.g ?_|simp only[h1',h0,cT,e28,decide_true,go_sem,simprocAttr]
  refine gX [3,2,1,0] [4] (.fs 5 out.len out.cell) [ai 3 1 lv.length 0 (iC lv),ai 3 1 pt.length 0 (iC pt),ae 0 95 [.os 3 lv.length],ae 0 173 [.fs 2 cs.length (pI cs),.n .i64 p,.os 2 pt.length]] (.cr .k1 (.cr .k1 (.cr (.j1) (.cr (.j3) .nil)))) (.cv (.ownb (ty:=140) (z:=0) (by simp only[go_sem,simprocAttr]) (λi j hi _=>out.cell_ok i j hi) (by simp))) (by simp) (bg rfl rfl) ⟨out,p,pt,lv,?_,rfl,rfl⟩
  exact(Option.some.inj hr).symm
 by_cases e31:(cs.getD p (0,0)).1=31
 ·rw[if_pos (.inr e31)] at hr
  repeat first|with_reducible refine GE.g ?_|simp only[h1',h0,cT,e28,e31,decide_true,decide_false,go_sem,simprocAttr]
  refine gX [3,2,1,0] [4] (.fs 5 out.len out.cell) [ai 3 1 lv.length 0 (iC lv),ai 3 1 pt.length 0 (iC pt),ae 0 95 [.os 3 lv.length],ae 0 173 [.fs 2 cs.length (pI cs),.n .i64 p,.os 2 pt.length]] (.cr .k1 (.cr .k1 (.cr (.j1) (.cr (.j3) .nil)))) (.cv (.ownb (ty:=140) (z:=0) (by simp only[go_sem,simprocAttr]) (λi j hi _=>out.cell_ok i j hi) (by simp))) (by simp) (bg rfl rfl) ⟨out,p,pt,lv,?_,rfl,rfl⟩
  exact(Option.some.inj hr).symm
 rw[if_neg (show ¬(aj cs p=28\/aj cs p=31) from λh=>h.elim e28 e31)] at hr
 by_cases hbr:aj cs p=27\/aj cs p=29
 ·rw[if_pos hbr] at hr
  have hob:(decide ((cs.getD p (0,0)).1=27)||decide ((cs.getD p (0,0)).1=29))=true:=by simpa [aj] using hbr
  have wd:IntKind.i64.wrap ((d:Int)+1)=((d+1:Nat):Int):=(am (by omega)).trans (by omega)
  repeat first|with_reducible refine GE.g ?_|simp only[h1',h0,cT,e28,e31,decide_true,decide_false,go_sem,simprocAttr]
  refine dd ([.n .i64 (cs.getD p (0,0)).1]) (iT _) ?_
  repeat first|with_reducible refine GE.g ?_|simp only[hob,wd,go_sem,simprocAttr]
  cases hb:d8 cs (λd inL p pt lv=>lst cs m d inL p pt lv .nil) (d+1) true p pt lv with
  |none=>rw[hb] at hr;cases hr
  |some rb=>
  rw[hb] at hr
  refine ng db [(0,.p 0 0),(1,.n .i64 d),(2,.p 1 0),(42,.os 4 out.len)] [ai 140 5 out.len 0 out.cell] [ai 3 1 lv.length 0 (iC lv),ai 3 1 pt.length 0 (iC pt),ae 0 95 [.os 3 lv.length],ae 0 173 [.fs 2 cs.length (pI cs),.n .i64 p,.os 2 pt.length]] (hB m (by omega) (d+1) p pt lv rb (by omega) hp' hpt hlv hbr hb) rfl ?_ ?_ ?_ ?_ (λb hb=>by simp[hb]) ?_ ?_ ?_ ?_ ?_ ?_ ?_
  ·simp only[uJ,go_sem,simprocAttr]
  ·simp
  ·rfl
  ·exact λb hb=>by simp[db] at hb;simp;omega
  ·exact ik (by simp) (by rfl) (by rfl)
  ·simp[AV.nm]
  ·simp[AV.nm,db]
  ·exact .cons (.row (by decide) (λi j _ _=>rfl)) (.cons (.row (by decide) (λi j _ _=>rfl)) (.cons .lq (.cons .lq .nil)))
  ·exact .cons (.row (by decide) (λi j hi _=>out.cell_nm _ i j hi)) .nil
  ·rintro v H' ⟨o,p1,pt1,lv1,rfl,⟨op,a,b,x,y,rfl,hbp⟩,h11,h12,h13,h14,rfl,rfl⟩
   refine⟨[ai 3 1 lv1.length 0 (iC lv1),ai 3 1 pt1.length 0 (iC pt1),ae 0 95 [.os 3 lv1.length],ae 0 173 [.fs 2 cs.length (pI cs),.n .i64 p1,.os 2 pt1.length]],rfl,rfl,?_⟩
   simp only[List.cons_append,List.nil_append]
   have hap:((out.len+1)*5<1099511627776/\(out.len+1)*72<=140737488355328)/\out.len<=9223372036854775806:=⟨⟨by omega,by omega⟩,by omega⟩
   simp only[WZ]
   repeat first|with_reducible refine GE.g ?_|simp only[hap,go_sem,simprocAttr]
   have hla:(out.app (.br op a b x y .nil)).len=out.len+1:=Fo.len_app _ _
   refine⟨m,_,_,Nat.lt_succ_self m,b6.mk [6,3,2,1,0] [] ?_ ?_ (by simp) (bg rfl rfl),p1,pt1,lv1,out.app (.br op a b x y .nil),by omega,h11,h13,h14,by omega,by rw[Fo.lastB_app];exact hbp,hr,rfl,rfl⟩
   ·rw[hla]
    simp only[d9,cM,go_sem,simprocAttr]
    repeat' refine a7 ?_ ?_
    all_goals first|exact iI|skip
   ·rw[hla]
    refine .cr (.snoc (row:=out.cell) (n:=out.len) (l:=[.n .i64 op,.n .i64 a,.n .i64 b,.fs 5 x.len x.cell,.fs 5 y.len y.cell]) (by simp only[go_sem,simprocAttr]) rfl rfl rfl (by decide) (by omega) (λi j hi _=>by rw[Fo.cell_app,if_pos hi]) (λj hj=>by rw[Fo.cell_app,if_neg (Nat.lt_irrefl _),Nat.sub_self];rcases(show j=0\/j=1\/j=2\/j=3\/j=4 by omega) with rfl|rfl|rfl|rfl|rfl<;>rfl) (λi j hi _=>Fo.cell_pu _ i j (hla ▸ hi))) (.cr .k1 (.cr .k1 (.cr (.j1) (.cr (.j3) .nil))))
  ·rintro c H' ⟨x,rfl,rfl⟩
   exact⟨x,(Option.some.inj hr).symm,rfl⟩
 rw[if_neg hbr] at hr
 have hob:(decide ((cs.getD p (0,0)).1=27)||decide ((cs.getD p (0,0)).1=29))=false:=by simpa [aj] using hbr
 repeat first|with_reducible refine GE.g ?_|simp only[h1',h0,cT,e28,e31,decide_true,decide_false,go_sem,simprocAttr]
 refine dd ([.n .i64 (cs.getD p (0,0)).1]) (iT _) ?_
 repeat first|with_reducible refine GE.g ?_|simp only[hob,Bool.false_eq_true,false_implies,true_and,forall_const,go_sem,simprocAttr]
 by_cases e30:(cs.getD p (0,0)).1=30
 ·rw[if_neg (λh=>by cases h.2),if_pos (show aj cs p=30 from e30)] at hr
  repeat first|with_reducible refine GE.g ?_|simp only[e30,Cu,Bool.not_false,decide_true,go_sem,simprocAttr]
  refine dd ([.b true,.n .i64 (p:Int),.n .i64 15]) (bT p 15) ?_
  simp only[go_sem,simprocAttr]
  with_reducible refine GE.go aF rfl ?_
  have hlap:(lv.length+1<1099511627776/\(lv.length+1)*8<=140737488355328)/\lv.length<=9223372036854775806:=⟨⟨by omega,by omega⟩,by omega⟩
  simp only[hlap,true_and,and_self,if_true,go_sem,simprocAttr]
  obtain⟨lv',hlv'⟩:∃l,l=lv++[(p:Int)]:=⟨_,rfl⟩
  have hlv2:lv'.length=lv.length+1:=by rw[hlv',List.length_append];rfl
  rw[<-hlv'] at hr
  refine GE.wk (b6.mk (L:=[(0,.p 0 0),(1,.n .i64 d),(2,.p 1 0),(7,.os 4 out.len)]) (bl:=[ai 140 5 out.len 0 out.cell,ai 3 1 lv'.length 0 (iC lv'),ai 3 1 pt.length 0 (iC pt),ae 0 95 [.os 3 lv'.length],ae 0 173 [.fs 2 cs.length (pI cs),.n .i64 p,.os 2 pt.length]]) [4,6,2,1,0] [] ?_ ?_ (by simp) (bg rfl rfl)) ?_
  ·exact ba
  ·rw[hlv2]
   exact .cr (.k2 (λi j hi _=>out.cell_pu i j hi)) (.cr (.snoc (row:=iC lv) (n:=lv.length) (o:=lv.length) (l:=[.n .i64 (p:Int)]) (by simp only[go_sem,simprocAttr]) (by omega) rfl rfl (by decide) (by omega) (λi j hi _=>by rw[hlv'];simp only[iC];rw[lj hi]) (λj hj=>by cases Nat.lt_one_iff.1 hj;rw[hlv'];simp only[iC];rw[ll];rfl) (λ_ _ _ _=>rfl)) (.cr .k1 (.cr (.j1) (.cr (.j3) .nil))))
  have w0:IntKind.i64.wrap ((p:Int)+1)=((p+1:Nat):Int):=(am (by omega)).trans (by omega)
  have hap:((out.len+1)*5<1099511627776/\(out.len+1)*72<=140737488355328)/\out.len<=9223372036854775806:=⟨⟨by omega,by omega⟩,by omega⟩
  by_cases hpl:out.lastPl=true
  ·have hl0:=Fo.last_len hpl
   obtain⟨q,hq⟩:∃q,q=out.len-1:=⟨_,rfl⟩
   have hl1:(0:Int)<out.len:=by omega
   have w1:IntKind.i64.wrap ((out.len:Int)-1)=(q:Int):=(am (by omega)).trans (by omega)
   have hl2:(q:Int)<out.len:=by omega
   have hl3:(0:Int)<=(q:Int):=by omega
   have c0:=(Fo.cell_last out 0 0 hl0).1
   have c2:=(Fo.cell_last out 0 0 hl0).2
   rw[of_decide_eq_true hpl,<-hq] at c0
   rw[<-hq] at c2
   have w2:IntKind.i64.wrap ((out.lastB 0:Int)+1)=((out.lastB 0+1:Nat):Int):=(am (by omega)).trans (by omega)
   have hq5:q*5<out.len*5:=by omega
   have hq53:q*5+2+1<=out.len*5:=by omega
   have hq52:q*5+2<out.len*5:=by omega
   have hg0:(ai 140 5 out.len 0 out.cell).get (q*5)= .n .i64 (-1):=(aK q 0 (by decide)).trans c0
   have hg2:(ai 140 5 out.len 0 out.cell).get (q*5+2)= .n .i64 (out.lastB 0):=(aK q 2 (by decide)).trans c2
   repeat first|with_reducible refine GE.g ?_|simp only[hl1,w1,hl2,hl3,hq5,hq52,hg0,hg2,hq53,w2,w0,decide_true,cT,go_sem,simprocAttr]
   have hadd:out.addPl p=out.bump:=if_pos hpl
   have hbl:out.bump.len=out.len:=Fo.len_bump out
   rw[hadd] at hr
   refine⟨m,_,_,Nat.lt_succ_self m,b6.mk [4,3,2,1,0] [] ?_ ?_ (by simp) (bg rfl rfl),p+1,pt,lv',out.bump,by omega,by omega,hpt,by omega,by omega,by rw[Fo.lastB_bump out 0 hl0];omega,hr,rfl,rfl⟩
   ·rw[hbl]
    simp only[d9,cM,go_sem,simprocAttr]
    repeat' refine a7 ?_ ?_
    all_goals first|exact iI|skip
   ·rw[hbl]
    exact .cr (.put1 (row:=out.cell) (q:=q) (t:=2) (v:= .n .i64 ((out.lastB 0+1:Nat):Int)) (by simp only[go_sem,simprocAttr]) rfl (by decide) (by omega) rfl (by omega) (λi j hi _=>by rw[Fo.cell_bump out 0 i j hi,hq]) (λi j hi _=>Fo.cell_pu _ i j (hbl ▸ hi))) (.cr .k1 (.cr .k1 (.cr (.j1) (.cr (.j3) .nil))))
  ·have hpl':out.lastPl=false:=by simpa using hpl
   have hadd:out.addPl p=out.app (.pl p (p+1) .nil):=if_neg hpl
   rw[hadd] at hr
   have hla:(out.app (.pl p (p+1) .nil)).len=out.len+1:=Fo.len_app _ _
   by_cases hl0:out.len=0
   ·have hl1:¬(0:Int)<out.len:=by omega
    repeat first|with_reducible refine GE.g ?_|simp only[hl1,w0,hap,decide_false,cT,go_sem,simprocAttr]
    refine⟨m,_,_,Nat.lt_succ_self m,b6.mk [6,3,2,1,0] [] ?_ ?_ (by simp) (bg rfl rfl),p+1,pt,lv',out.app (.pl p (p+1) .nil),by omega,by omega,hpt,by omega,by omega,by rw[Fo.lastB_app];exact Nat.le_refl _,hr,rfl,rfl⟩
    ·rw[hla]
     simp only[d9,cM,go_sem,simprocAttr]
     repeat' refine a7 ?_ ?_
     all_goals first|exact iI|skip
    ·rw[hla]
     refine .cr (.snoc (row:=out.cell) (n:=out.len) (l:=[.n .i64 (-1),.n .i64 p,.n .i64 ((p+1:Nat):Int),.sl0,.sl0]) (by simp only[go_sem,simprocAttr]) rfl rfl rfl (by decide) (by omega) (λi j hi _=>by rw[Fo.cell_app,if_pos hi]) (λj hj=>by rw[Fo.cell_app,if_neg (Nat.lt_irrefl _),Nat.sub_self];rcases(show j=0\/j=1\/j=2\/j=3\/j=4 by omega) with rfl|rfl|rfl|rfl|rfl<;>rfl) (λi j hi _=>Fo.cell_pu _ i j (hla ▸ hi))) (.cr .k1 (.cr .k1 (.cr (.j1) (.cr (.j3) .nil))))
   ·have hl1:(0:Int)<out.len:=by omega
    obtain⟨q,hq⟩:∃q,q=out.len-1:=⟨_,rfl⟩
    have w1:IntKind.i64.wrap ((out.len:Int)-1)=(q:Int):=(am (by omega)).trans (by omega)
    have hl2:(q:Int)<out.len:=by omega
    have hl3:(0:Int)<=(q:Int):=by omega
    have c0:=(Fo.cell_last out 0 0 (by omega)).1
    rw[<-hq] at c0
    have hne:¬out.lastOp 0= -1:=of_decide_eq_false hpl'
    have hq5:q*5<out.len*5:=by omega
    have hg0:(ai 140 5 out.len 0 out.cell).get (q*5)= .n .i64 (out.lastOp 0):=(aK q 0 (by decide)).trans c0
    repeat first|with_reducible refine GE.g ?_|simp only[hl1,w1,hl2,hl3,hq5,hg0,hne,w0,hap,decide_true,decide_false,cT,go_sem,simprocAttr]
    refine⟨m,_,_,Nat.lt_succ_self m,b6.mk [6,3,2,1,0] [] ?_ ?_ (by simp) (bg rfl rfl),p+1,pt,lv',out.app (.pl p (p+1) .nil),by omega,by omega,hpt,by omega,by omega,by rw[Fo.lastB_app];exact Nat.le_refl _,hr,rfl,rfl⟩
    ·rw[hla]
     simp only[d9,cM,go_sem,simprocAttr]
     repeat' refine a7 ?_ ?_
     all_goals first|exact iI|skip
    ·rw[hla]
     refine .cr (.snoc (row:=out.cell) (n:=out.len) (l:=[.n .i64 (-1),.n .i64 p,.n .i64 ((p+1:Nat):Int),.sl0,.sl0]) (by simp only[go_sem,simprocAttr]) rfl rfl rfl (by decide) (by omega) (λi j hi _=>by rw[Fo.cell_app,if_pos hi]) (λj hj=>by rw[Fo.cell_app,if_neg (Nat.lt_irrefl _),Nat.sub_self];rcases(show j=0\/j=1\/j=2\/j=3\/j=4 by omega) with rfl|rfl|rfl|rfl|rfl<;>rfl) (λi j hi _=>Fo.cell_pu _ i j (hla ▸ hi))) (.cr .k1 (.cr .k1 (.cr (.j1) (.cr (.j3) .nil))))
 rw[if_neg (λh=>e30 h.1),if_neg (show ¬aj cs p=30 from e30)] at hr
 repeat first|with_reducible refine GE.g ?_|simp only[e30,decide_false,go_sem,simprocAttr]
 have w0:IntKind.i64.wrap ((p:Int)+1)=((p+1:Nat):Int):=(am (by omega)).trans (by omega)
 have hap:((out.len+1)*5<1099511627776/\(out.len+1)*72<=140737488355328)/\out.len<=9223372036854775806:=⟨⟨by omega,by omega⟩,by omega⟩
 by_cases hpl:out.lastPl=true
 ·have hl0:=Fo.last_len hpl
  obtain⟨q,hq⟩:∃q,q=out.len-1:=⟨_,rfl⟩
  have hl1:(0:Int)<out.len:=by omega
  have w1:IntKind.i64.wrap ((out.len:Int)-1)=(q:Int):=(am (by omega)).trans (by omega)
  have hl2:(q:Int)<out.len:=by omega
  have hl3:(0:Int)<=(q:Int):=by omega
  have c0:=(Fo.cell_last out 0 0 hl0).1
  have c2:=(Fo.cell_last out 0 0 hl0).2
  rw[of_decide_eq_true hpl,<-hq] at c0
  rw[<-hq] at c2
  have w2:IntKind.i64.wrap ((out.lastB 0:Int)+1)=((out.lastB 0+1:Nat):Int):=(am (by omega)).trans (by omega)
  have hq5:q*5<out.len*5:=by omega
  have hq53:q*5+2+1<=out.len*5:=by omega
  have hq52:q*5+2<out.len*5:=by omega
  have hg0:(ai 140 5 out.len 0 out.cell).get (q*5)= .n .i64 (-1):=(aK q 0 (by decide)).trans c0
  have hg2:(ai 140 5 out.len 0 out.cell).get (q*5+2)= .n .i64 (out.lastB 0):=(aK q 2 (by decide)).trans c2
  repeat first|with_reducible refine GE.g ?_|simp only[hl1,w1,hl2,hl3,hq5,hq52,hg0,hg2,hq53,w2,w0,decide_true,cT,go_sem,simprocAttr]
  have hadd:out.addPl p=out.bump:=if_pos hpl
  have hbl:out.bump.len=out.len:=Fo.len_bump out
  rw[hadd] at hr
  refine⟨m,_,_,Nat.lt_succ_self m,b6.mk [4,3,2,1,0] [] ?_ ?_ (by simp) (bg rfl rfl),p+1,pt,lv,out.bump,by omega,by omega,hpt,by omega,by omega,by rw[Fo.lastB_bump out 0 hl0];omega,hr,rfl,rfl⟩
  ·rw[hbl]
   simp only[d9,cM,go_sem,simprocAttr]
   repeat' refine a7 ?_ ?_
   all_goals first|exact iI|skip
  ·rw[hbl]
   exact .cr (.put1 (row:=out.cell) (q:=q) (t:=2) (v:= .n .i64 ((out.lastB 0+1:Nat):Int)) (by simp only[go_sem,simprocAttr]) rfl (by decide) (by omega) rfl (by omega) (λi j hi _=>by rw[Fo.cell_bump out 0 i j hi,hq]) (λi j hi _=>Fo.cell_pu _ i j (hbl ▸ hi))) (.cr .k1 (.cr .k1 (.cr (.j1) (.cr (.j3) .nil))))
 ·have hpl':out.lastPl=false:=by simpa using hpl
  have hadd:out.addPl p=out.app (.pl p (p+1) .nil):=if_neg hpl
  rw[hadd] at hr
  have hla:(out.app (.pl p (p+1) .nil)).len=out.len+1:=Fo.len_app _ _
  by_cases hl0:out.len=0
  ·have hl1:¬(0:Int)<out.len:=by omega
   repeat first|with_reducible refine GE.g ?_|simp only[hl1,w0,hap,decide_false,cT,go_sem,simprocAttr]
   refine⟨m,_,_,Nat.lt_succ_self m,b6.mk [6,3,2,1,0] [] ?_ ?_ (by simp) (bg rfl rfl),p+1,pt,lv,out.app (.pl p (p+1) .nil),by omega,by omega,hpt,by omega,by omega,by rw[Fo.lastB_app];exact Nat.le_refl _,hr,rfl,rfl⟩
   ·rw[hla]
    simp only[d9,cM,go_sem,simprocAttr]
    repeat' refine a7 ?_ ?_
    all_goals first|exact iI|skip
   ·rw[hla]
    refine .cr (.snoc (row:=out.cell) (n:=out.len) (l:=[.n .i64 (-1),.n .i64 p,.n .i64 ((p+1:Nat):Int),.sl0,.sl0]) (by simp only[go_sem,simprocAttr]) rfl rfl rfl (by decide) (by omega) (λi j hi _=>by rw[Fo.cell_app,if_pos hi]) (λj hj=>by rw[Fo.cell_app,if_neg (Nat.lt_irrefl _),Nat.sub_self];rcases(show j=0\/j=1\/j=2\/j=3\/j=4 by omega) with rfl|rfl|rfl|rfl|rfl<;>rfl) (λi j hi _=>Fo.cell_pu _ i j (hla ▸ hi))) (.cr .k1 (.cr .k1 (.cr (.j1) (.cr (.j3) .nil))))
  ·have hl1:(0:Int)<out.len:=by omega
   obtain⟨q,hq⟩:∃q,q=out.len-1:=⟨_,rfl⟩
   have w1:IntKind.i64.wrap ((out.len:Int)-1)=(q:Int):=(am (by omega)).trans (by omega)
   have hl2:(q:Int)<out.len:=by omega
   have hl3:(0:Int)<=(q:Int):=by omega
   have c0:=(Fo.cell_last out 0 0 (by omega)).1
   rw[<-hq] at c0
   have hne:¬out.lastOp 0= -1:=of_decide_eq_false hpl'
   have hq5:q*5<out.len*5:=by omega
   have hg0:(ai 140 5 out.len 0 out.cell).get (q*5)= .n .i64 (out.lastOp 0):=(aK q 0 (by decide)).trans c0
   repeat first|with_reducible refine GE.g ?_|simp only[hl1,w1,hl2,hl3,hq5,hg0,hne,w0,hap,decide_true,decide_false,cT,go_sem,simprocAttr]
   refine⟨m,_,_,Nat.lt_succ_self m,b6.mk [6,3,2,1,0] [] ?_ ?_ (by simp) (bg rfl rfl),p+1,pt,lv,out.app (.pl p (p+1) .nil),by omega,by omega,hpt,by omega,by omega,by rw[Fo.lastB_app];exact Nat.le_refl _,hr,rfl,rfl⟩
   ·rw[hla]
    simp only[d9,cM,go_sem,simprocAttr]
    repeat' refine a7 ?_ ?_
    all_goals first|exact iI|skip
   ·rw[hla]
    refine .cr (.snoc (row:=out.cell) (n:=out.len) (l:=[.n .i64 (-1),.n .i64 p,.n .i64 ((p+1:Nat):Int),.sl0,.sl0]) (by simp only[go_sem,simprocAttr]) rfl rfl rfl (by decide) (by omega) (λi j hi _=>by rw[Fo.cell_app,if_pos hi]) (λj hj=>by rw[Fo.cell_app,if_neg (Nat.lt_irrefl _),Nat.sub_self];rcases(show j=0\/j=1\/j=2\/j=3\/j=4 by omega) with rfl|rfl|rfl|rfl|rfl<;>rfl) (λi j hi _=>Fo.cell_pu _ i j (hla ▸ hi))) (.cr .k1 (.cr .k1 (.cr (.j1) (.cr (.j3) .nil))))
end Go.Proofs.YtdpkgnmmikebdaaGreat