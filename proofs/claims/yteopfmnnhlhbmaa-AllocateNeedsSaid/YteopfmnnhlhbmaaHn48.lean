/- A part of the proof of AllocateNeeds: NdA NdB NdC NdD NdE. No condition. -/
import Derived.Test.YteopfmnnhlhbmaaHn46
import Derived.Test.YteopfmnnhlhbmaaHn47
set_option linter.unusedSimpArgs false
set_option linter.unusedVariables false
set_option linter.constructorNameAsVariable false
set_option maxRecDepth 100000
set_option maxHeartbeats 4000000
namespace Go.Proofs.Yteopfmnnhlhbmaa
open Go.RowKit
def fC(f:Nat->Int)(i _j:Nat):AV:= .n .i64 (f i)
theorem RR(f:Nat->Int)(i j:Nat):fC f i j= .n .i64 (f i):=rfl
def hasF(f:Nat->Int)(v:Int):Nat->Nat->Bool
 |0,_=>false
 |k+1,i=>decide (v=f i)||hasF f v k (i+1)
theorem l7{f:Nat->Int}{v:Int}:∀{k i:Nat},hasF f v k i=true↔∃j,i<=j/\j<i+k/\f j=v
 |0,i=>by simp only[hasF];constructor;(intro h;cases h);(rintro ⟨j,h1,h2,_⟩;omega)
 |k+1,i=>by
  simp only[hasF,Bool.or_eq_true,decide_eq_true_eq,l7 (k:=k) (i:=i+1)]
  constructor
  ·rintro (h|⟨j,h1,h2,h3⟩)
   ·exact⟨i,Nat.le_refl _,by omega,h.symm⟩
   ·exact⟨j,by omega,by omega,h3⟩
  ·rintro ⟨j,h1,h2,h3⟩
   by_cases e:j=i
   ·subst e;exact .inl h3.symm
   ·exact .inr ⟨j,by omega,by omega,h3⟩
theorem sw(f:Nat->Int)(v:Int)(n:Nat)(hn:n<=100000):∃q:Int,(0<=q↔hasF f v n 0=true)/\bR Try.prog 56 [.fs 1 n (fC f),.n .i64 v] [.v (.n .i64 q)]:=by
 have hadd:∀j:Nat,j<200000->IntKind.wrap .i64 ((j:Int)+1)=((j+1:Nat):Int):=λj hj=>by rw[aU (by omega)];omega
 obtain⟨g,hg0,hg⟩:∃g:Nat->Nat->Int,(∀i,g 0 i= -1)/\∀k i,g (k+1) i=if v=f i then(i:Int) else g k (i+1):=
  ⟨λk=>Nat.rec (λ_=> -1) (λ_ r i=>if v=f i then(i:Int) else r (i+1)) k,λ_=>rfl,λ_ _=>rfl⟩
 refine⟨g n 0,?_,?_⟩
 ·have:∀k i,0<=g k i↔hasF f v k i=true:=by
   intro k
   induction k with
   |zero=>intro i;rw[hg0];simp[hasF]
   |succ k ih=>
    intro i
    rw[hg]
    simp only[hasF,Bool.or_eq_true,decide_eq_true_eq]
    split
    ·exact⟨λ_=> .inl ‹_›,λ_=>by omega⟩
    ·rw[ih]
     exact⟨λh=> .inr h,λh=>h.resolve_left ‹_›⟩
  exact this n 0
 refine aK bf JG ⟨by simp,by decide⟩ ?_
 simp only[bI]
 repeat first|with_reducible refine aw ?_|simp only[go_sem,simprocAttr]
 refine GA.loop (I:=λmm e H=>∃k:Nat,mm=n-k/\k<=n/\g n 0=g (n-k) k/\e=aE [(0,.fs 1 n (fC f)),(1,.n .i64 v),(7,.n .i64 n),(8,.n .i64 k)]/\H=aN []) (Wk.mk [] [] ?_ ?_ ?_) ⟨0,rfl,Nat.zero_le _,rfl,rfl,rfl⟩ ?_
 ·simp only[bk,bh,go_sem,simprocAttr]
  repeat' refine ab ?_ ?_
  all_goals first|exact bu|skip
 ·exact .nil
 ·simp
 rintro mm e H ⟨k,rfl,hk,hs,rfl,rfl⟩
 repeat first|with_reducible refine aw ?_|simp only[go_sem,simprocAttr]
 refine⟨λh=>?_,λh=>?_⟩
 ·have hkl:k<n:=by omega
  have hk0:(0:Int)<=(k:Int):=by omega
  have ha:=hadd k (by omega)
  rw[show n-k=(n-(k+1))+1 by omega,hg] at hs
  have hf:=RR f k 0
  by_cases hv:v=f k
  ·rw[if_pos hv] at hs
   repeat first|with_reducible refine aw ?_|simp only[hk0,h,hf,hv,decide_true,go_sem,simprocAttr]
   exact bJ (by rw[hs]) rfl
  ·rw[if_neg hv] at hs
   repeat first|with_reducible refine aw ?_|simp only[hk0,h,hf,hv,ha,decide_true,decide_false,go_sem,simprocAttr]
   refine⟨_,_,_,?_,Wk.mk [] [] ?_ ?_ ?_,k+1,rfl,by omega,hs,rfl,rfl⟩
   ·omega
   ·simp only[bk,bh,go_sem,simprocAttr]
    repeat' refine ab ?_ ?_
    all_goals first|exact bu|skip
   ·exact .nil
   ·simp
 ·have hkn:k=n:=by omega
  subst hkn
  rw[Nat.sub_self,hg0] at hs
  repeat first|with_reducible refine aw ?_|simp only[go_sem,simprocAttr]
  exact bJ (by rw[hs]) rfl
theorem iH(f:Nat->Int)(v:Int)(n:Nat)(hn:n<=100000):bR Try.prog 25 [.fs 1 n (fC f),.n .i64 v] [.v (.b (hasF f v n 0))]:=by
 obtain⟨q,hq,hi⟩:=sw f v n hn
 refine aK bf JM ⟨by simp,by decide⟩ ?_
 simp only[bI]
 repeat first|with_reducible refine aw ?_|simp only[go_sem,simprocAttr]
 refine Hi hi ?_
 cases hb:hasF f v n 0
 ·have h0:¬0<=q:=λh=>by rw[hq.1 h] at hb;cases hb
  repeat first|with_reducible refine aw ?_|simp only[h0,decide_false,go_sem,simprocAttr]
  exact bJ rfl rfl
 ·have h0:0<=q:=hq.2 hb
  repeat first|with_reducible refine aw ?_|simp only[h0,decide_true,go_sem,simprocAttr]
  exact bJ rfl rfl
theorem su(v:Int):bR Try.prog 81 [.n .i64 v] [.v (.b false)]:=by
 have hd:decide (v=v)=true:=decide_eq_true rfl
 refine aK bf Jh ⟨by simp,by decide⟩ ?_
 simp only[bI]
 repeat first|with_reducible refine aw ?_|simp only[hd,go_sem,simprocAttr]
 exact bJ rfl rfl
theorem vq(v u:Int):bR Try.prog 55 [.n .i64 v,.n .i64 u] [.v (.b (decide (v<u)))]:=by
 refine aK bf Jk ⟨by simp,by decide⟩ ?_
 simp only[bI]
 repeat first|with_reducible refine aw ?_|simp only[go_sem,simprocAttr]
 refine sC (su v) ?_
 by_cases h:v<u
 ·repeat first|with_reducible refine aw ?_|simp only[h,decide_true,go_sem,simprocAttr]
  exact bJ rfl rfl
 ·repeat first|with_reducible refine aw ?_|simp only[h,decide_false,go_sem,simprocAttr]
  exact bJ rfl rfl
theorem mY(f:Nat->Int)(n:Nat)(hn:n<=100000)(hs:∀i,i+1<n->f i<=f (i+1)):bR Try.prog 24 [.fs 1 n (fC f)] [.v (.b true)]:=by
 have hsub:∀j:Nat,j<200000->IntKind.wrap .i64 ((j:Int)-1)=(j:Int)-1:=λj hj=>aU (by omega)
 have hw:=hsub n (by omega)
 refine aK bf JT ⟨by simp,by decide⟩ ?_
 simp only[bI]
 repeat first|with_reducible refine aw ?_|simp only[hw,go_sem,simprocAttr]
 refine GA.loop (I:=λmm e H=>∃k:Int,mm=k.toNat/\ -1<=k/\k<(n:Int)/\e=aE [(0,.fs 1 n (fC f)),(3,.n .i64 k)]/\H=aN []) (Wk.mk [] [] ?_ ?_ ?_) ⟨(n:Int)-1,rfl,by omega,by omega,rfl,rfl⟩ ?_
 ·simp only[bk,bh,go_sem,simprocAttr]
  repeat' refine ab ?_ ?_
  all_goals first|exact bu|skip
 ·exact .nil
 ·simp
 rintro mm e H ⟨k,rfl,hk,hkn,rfl,rfl⟩
 repeat first|with_reducible refine aw ?_|simp only[go_sem,simprocAttr]
 refine⟨λh=>?_,λh=>?_⟩
 ·obtain⟨j,rfl⟩:∃j:Nat,k=((j+1:Nat):Int):=⟨(k-1).toNat,by omega⟩
  have hw2:IntKind.wrap .i64 (((j+1:Nat):Int)-1)=(j:Int):=by rw[hsub _ (by omega)];omega
  have hj0:(0:Int)<=((j+1:Nat):Int):=by omega
  have hj1:(0:Int)<=(j:Int):=by omega
  have hj2:(j:Int)<(n:Int):=by omega
  have f1:=RR f (j+1) 0
  have f2:=RR f j 0
  have hl:=vq (f (j+1)) (f j)
  have hn2:=hs j (by omega)
  rw[decide_eq_false (by omega)] at hl
  repeat first|with_reducible refine aw ?_|simp only[hw2,hj0,hj1,hj2,hkn,f1,f2,decide_true,go_sem,simprocAttr]
  refine Hi hl ?_
  repeat first|with_reducible refine aw ?_|simp only[hw2,go_sem,simprocAttr]
  refine⟨_,_,_,?_,Wk.mk [] [] ?_ ?_ ?_,(j:Int),rfl,by omega,by omega,rfl,rfl⟩
  ·omega
  ·simp only[bk,bh,go_sem,simprocAttr]
   repeat' refine ab ?_ ?_
   all_goals first|exact bu|skip
  ·exact .nil
  ·simp
 ·repeat first|with_reducible refine aw ?_|simp only[go_sem,simprocAttr]
  exact bJ rfl rfl
section
variable (cs:List In) (nx:Nat->List Nat) (r:Int)
def Aq(i:Nat):List Int:=aA (cs.getD i (0,0,0,0,0)).1 (cs.getD i (0,0,0,0,0)).2.2.1 (cs.getD i (0,0,0,0,0)).2.2.2.1
def ry(m:Nat->Bool)(j:Nat):Prop:=r ∉ Aq cs j/\(r=ni cs j\/∀k ∈ nx j,cs.length<=k\/m k=true)
structure RQ(m:Nat->Bool)(i:Nat)(res:Bool)(m':Nat->Bool):Prop where
 mono:∀j,m j=true->m' j=true
 yes:res=true->bn cs nx i r
 no:res=false->(cs.length<=i\/m' i=true)/\∀j,m' j=true->m j=false->ry cs nx r m' j
structure RL(m:Nat->Bool)(L:List Nat)(k:Nat)(m':Nat->Bool):Prop where
 mono:∀j,m j=true->m' j=true
 past:∀q,q<k->cs.length<=L.getD q 0\/m' (L.getD q 0)=true
 done:∀j,m' j=true->m j=false->ry cs nx r m' j
end
variable {cs:List In} {nx:Nat->List Nat} {r:Int} {m m1 m2:Nat->Bool} {L:List Nat} {i k:Nat}
theorem ry.mono{j:Nat}(h:ry cs nx r m j)(hm:∀j,m j=true->m1 j=true):ry cs nx r m1 j:=by
 refine⟨h.1,h.2.imp id λg k hk=>(g k hk).imp id (hm k)⟩
theorem RL.start:RL cs nx r m L 0 m:=⟨λj h=>h,λq hq=>by omega,λj h1 h2=>by rw[h1] at h2;cases h2⟩
theorem RL.step(h:RL cs nx r m L k m1)(h2:RQ cs nx r m1 (L.getD k 0) false m2):RL cs nx r m L (k+1) m2:=by
 obtain⟨n1,n2⟩:=h2.no rfl
 refine⟨λj hj=>h2.mono j (h.mono j hj),λq hq=>?_,λj g1 g2=>?_⟩
 ·by_cases e:q=k
  ·subst e;exact n1
  ·exact(h.past q (by omega)).imp id (h2.mono _)
 ·cases hm:m1 j
  ·exact n2 j g1 hm
  ·exact(h.done j hm g2).mono h2.mono
def gg(m:Nat->Bool)(i j:Nat):Bool:=if j=i then true else m j
theorem RQ.seen(h:cs.length<=i\/m i=true):RQ cs nx r m i false m:=⟨λj h=>h,λh=>(by cases h),λ_=>⟨h,λj h1 h2=>by rw[h1] at h2;cases h2⟩⟩
theorem fj(m:Nat->Bool)(i:Nat):∀j,m j=true->gg m i j=true:=λj h=>by
 unfold gg;split
 ·rfl
 ·exact h
theorem pT{j:Nat}(h1:gg m i j=true)(h2:m j=false):j=i:=by
 unfold gg at h1
 split at h1
 ·assumption
 ·rw[h1] at h2;cases h2
theorem RQ.read(hi:i<cs.length)(h:r ∈ Aq cs i):RQ cs nx r m i true (gg m i):=⟨fj m i,λ_=> .read hi h,λh=>(by cases h)⟩
theorem RQ.write(hr:r ∉ Aq cs i)(h:r=ni cs i):RQ cs nx r m i false (gg m i):=⟨fj m i,λh=>(by cases h),λ_=>⟨.inr (if_pos rfl),λj h1 h2=>by
 obtain rfl:=pT h1 h2
 exact⟨hr,.inl h⟩⟩⟩
theorem RQ.all(hr:r ∉ Aq cs i)(h:RL cs nx r (gg m i) (nx i) (nx i).length m2):RQ cs nx r m i false m2:=by
 refine⟨λj hj=>h.mono j (fj m i j hj),λh=>(by cases h),λ_=>⟨.inr (h.mono i (if_pos rfl)),λj h1 h2=>?_⟩⟩
 cases hs:gg m i j
 ·exact h.done j h1 hs
 ·obtain rfl:=pT hs h2
  refine⟨hr,.inr λk hk=>?_⟩
  obtain⟨q,hq,rfl⟩:=List.getElem_of_mem hk
  have:=h.past q hq
  rwa [List.getD_eq_getElem?_getD,List.getElem?_eq_getElem hq] at this
theorem RQ.one(hi:i<cs.length)(hw:r≠ni cs i)(hk:k<(nx i).length)(h:RL cs nx r (gg m i) (nx i) k m1)(h2:RQ cs nx r m1 ((nx i).getD k 0) true m2):RQ cs nx r m i true m2:=by
 refine⟨λj hj=>h2.mono j (h.mono j (fj m i j hj)),λ_=>?_,λh=>(by cases h)⟩
 refine .flow hi (k:=(nx i).getD k 0) ?_ (h2.yes rfl) hw
 rw[List.getD_eq_getElem?_getD,List.getElem?_eq_getElem hk]
 exact List.getElem_mem hk
theorem RQ.live{res:Bool}(h:RQ cs nx r (λ_=>false) i res m):res=true↔bn cs nx i r:=by
 refine⟨h.yes,λhl=>?_⟩
 cases res
 ·obtain⟨n1,n2⟩:=h.no rfl
  have key:∀{j:Nat} {p:Int},bn cs nx j p->p=r->(cs.length<=j\/m j=true)->False:=by
   intro j p hl
   induction hl with
   |@read j p hj hp=>
    rintro rfl hm
    rcases hm with hm|hm
    ·omega
    ·exact(n2 j hm rfl).1 hp
   |@flow j k p hj hk hl hw ih=>
    rintro rfl hm
    rcases hm with hm|hm
    ·omega
    ·rcases(n2 j hm rfl).2 with g|g
     ·exact hw g
     ·exact ih rfl (g k hk)
  exact(key hl rfl n1).elim
 ·rfl
def d9(m:Nat->Bool):Nat->Nat
 |0=>0
 |n+1=>d9 m n+(if m n then 0 else 1)
theorem gq(h:∀j,m j=true->m1 j=true):∀n,d9 m1 n<=d9 m n
 |0=>Nat.le_refl _
 |n+1=>by
  have:=gq h n
  unfold d9
  cases h1:m n
  ·simp only[Bool.false_eq_true,if_false];split<;>omega
  ·rw[h n h1];simp only[if_true];omega
theorem lu:∀n,i<n->m i=false->d9 (gg m i) n<d9 m n
 |0,h,_=>by omega
 |n+1,h,hm=>by
  unfold d9
  by_cases e:i=n
  ·subst e
   have h1:=gq (fj m i) i
   have h2:gg m i i=true:=if_pos rfl
   rw[h2,hm]
   simp only[if_true,Bool.false_eq_true,if_false]
   omega
  ·have h1:=lu n (by omega) hm
   have h2:gg m i n=m n:=if_neg (λh=>e h.symm)
   rw[h2];omega
end Go.Proofs.Yteopfmnnhlhbmaa
namespace Go.Proofs.Yteopfmnnhlhbmaa
open Go.RowKit
theorem GN.arg{P:Program}{n:Nat}{hints:bz}{ac:AC}{H:AH}{Q:AE->Tr AV->AH->Prop}(args:List AV)(h:args.length<100000)(hg:GN P n hints ac (aE (bI 0 args)) H Q):GN P n hints ac (eB args) H Q:=λc hc B σ a w R hE hH hp hR=>by
 refine hg c hc B σ a w R ⟨⟨hE.er.df,λt v hv=>hE.er.get t v ?_⟩,hE.sz,hE.sm⟩ hH hp hR
 rw[mD _ _ _ (by omega)] at hv
 rw[fh _ _ (by omega)]
 simp at hv
 exact hv.2
theorem cN.mn{P:Program}{g:FuncId}{args:List AV}{H:AH}{Q Q':AV->AH->Prop}(h:cN P g args H Q)(hq:∀v H',Q v H'->Q' v H'):cN P g args H Q':=
 ⟨h.1,λB σ w args' hH ha=>(h.2 B σ w args' hH ha).mono λe w' hp=>by
  cases e with
  |returned u=>obtain⟨v,H',σ',q,r⟩:=hp;exact⟨v,H',σ',hq _ _ q,r⟩
  |panicked c=>exact hp
  |outgrown=>exact hp⟩
theorem wO(x y:AB)(bl:List AB)(l:Nat)(hl:bl.length<1000000):((aN (x::bl)).setLow l).upd bl.length y=(aN (y::bl)).setLow (min l bl.length):=by
 simp only[ik,AH.new,AH.upd,AH.setLow,ag,Tr.set_set]
section
variable (la:List (Bool×Int)) (R:Nat) (par:Int) (cs:List In) (r:Nat)
abbrev qs:List AB:=[bg 0 55 [.os 4 cs.length],bg 0 3 [.n .i64 r],bg 0 39 [.fs 1 (jK cs).length (iC .i64 (jK cs))],bg 0 25 [.fs 2 la.length (aC la),.n .i64 R,.n .i64 par,.fs 5 cs.length (cC cs)]]
def ke(u:Nat):Prop:=∀(m:Nat->Bool) (i:Nat),d9 m cs.length<=u->i<=cs.length->cN Try.prog 26 [aP la.length (aC la) R par cs,.fs 1 (jK cs).length (iC .i64 (jK cs)),.n .i64 i,.n .i64 r,.os 0 cs.length] (aN [b6 4 cs.length m]) (px 0 4 cs.length (RQ cs (bE cs (cL cs)) r m i))
end
section
variable {la:List (Bool×Int)} {R:Nat} {par:Int} {cs:List In} {r:Nat}
theorem pZ{u:Nat}(hS:ke la R par cs r u)(m:Nat->Bool)(i:Nat)(hu:d9 m cs.length<=u)(hi:i<=cs.length)(l:Nat)(hl:4<=l)(hl2:l<=2^40):
  cN Try.prog 60 [.n .i64 i,.p 0 0,.p 1 0,.p 2 0,.p 3 0] ((aN (b6 4 cs.length m::qs la R par cs r)).setLow l)
   (λv H'=>∃res m',v= .b res/\RQ cs (bE cs (cL cs)) r m i res m'/\H'=(aN (b6 4 cs.length m'::qs la R par cs r)).setLow (min l 4)):=by
 refine jA Kn (by simp) (GN.arg _ (by simp) ?_)
 simp only[bI]
 repeat (first|(with_reducible refine GN.go rfl ?_)|simp only[b6,bZ,go_sem,simprocAttr])
 refine cN.mn (eY (T:=4) (n:=cs.length) (m:=m) (bl:=[]) (args0:=[aP la.length (aC la) R par cs,.fs 1 (jK cs).length (iC .i64 (jK cs)),.n .i64 i,.n .i64 r,.os 0 cs.length]) 4 [] (by decide) (λq=>(congrFun (bP (b6 4 cs.length m::qs la R par cs r)) q:(aN (b6 4 cs.length m::qs la R par cs r)).ob q=none)) (by rfl) (λi v2 h=>?_) (.cons rfl (.keep (by simp only[b6,qs,go_sem,simprocAttr]) rfl (by decide) (λ_ _ _ _=>rfl)) .nil) (by simp) (hS m i hu hi)) ?_
 ·match i,h with
  |0,h=>cases h;exact⟨_,rfl,.cv (.rfl rfl)⟩
  |1,h=>cases h;exact⟨_,rfl,.cv (.rfl rfl)⟩
  |2,h=>cases h;exact⟨_,rfl,.cv (.rfl rfl)⟩
  |3,h=>cases h;exact⟨_,rfl,.cv (.rfl rfl)⟩
  |4,h=>cases h;exact⟨_,rfl,.os rfl⟩
  |i+5,h=>cases h
 rintro v H' ⟨res,m',rfl,hq,rfl⟩
 have hup:((aN ((b6 4 cs.length m)::qs la R par cs r)).setLow l).upd 4 (b6 4 cs.length m')=(aN ((b6 4 cs.length m')::qs la R par cs r)).setLow (min l 4):=wO (b6 4 cs.length m) (b6 4 cs.length m') (qs la R par cs r) l (by simp)
 simp only[b6] at hup ⊢
 rw[hup]
 repeat (first|(with_reducible refine GN.go rfl ?_)|simp only[bZ,go_sem,simprocAttr])
 exact⟨res,m',rfl,hq,rfl⟩
def zX(m:Nat->Bool)(L:List Nat)(v:AV)(H':AH):Prop:=∃(q:Int) (m':Nat->Bool) (l:Nat),4<=l/\l<=2^40/\v= .n .i64 q/\H'=(aN (b6 4 cs.length m'::qs la R par cs r)).setLow l/\
 ((q<0/\RL cs (bE cs (cL cs)) r m L L.length m')\/(0<=q/\∃k m1,k<L.length/\RL cs (bE cs (cL cs)) r m L k m1/\RQ cs (bE cs (cL cs)) r m1 (L.getD k 0) true m'))
theorem vz{u:Nat}(hS:ke la R par cs r u)(m:Nat->Bool)(hu:d9 m cs.length<=u)(L:List Nat)(hL:∀q,q<L.length->L.getD q 0<=cs.length)(hLl:L.length<=1000):
  cN Try.prog 83 [.fs 1 L.length (λj _=> .n .i64 ((L.getD j 0:Nat):Int)),.f 60 [] [.p 0 0,.p 1 0,.p 2 0,.p 3 0]] (aN (b6 4 cs.length m::qs la R par cs r)) (zX (la:=la) (R:=R) (par:=par) (cs:=cs) (r:=r) m L):=by
 have hadd:∀j:Nat,j<100000->IntKind.wrap .i64 ((j:Int)+1)=((j+1:Nat):Int):=λj hj=>by rw[aU (by omega)];omega
 refine jA Js (by simp) (GN.arg _ (by simp) ?_)
 simp only[bI]
 repeat (first|(with_reducible refine GN.go rfl ?_)|simp only[bZ,go_sem,simprocAttr])
 refine GN.loop (I:=λmm e H=>∃(k:Nat) (mk:Nat->Bool) (l:Nat),mm=L.length-k/\k<=L.length/\4<=l/\l<=2^40/\RL cs (bE cs (cL cs)) r m L k mk/\e=aE [(0,.fs 1 L.length (λj _=> .n .i64 ((L.getD j 0:Nat):Int))),(1,.f 60 [] [.p 0 0,.p 1 0,.p 2 0,.p 3 0]),(7,.n .i64 L.length),(8,.n .i64 k)]/\H=(aN (b6 4 cs.length mk::qs la R par cs r)).setLow l) (.of (λp hp=>by
    simp only[List.mem_cons,List.not_mem_nil,or_false] at hp
    rcases hp with rfl|rfl|rfl|rfl<;>exact⟨by simp,by simp only[go_sem,simprocAttr]⟩)) ⟨0,m,2^40,rfl,Nat.zero_le _,by decide,Nat.le_refl _,.start,rfl,?_⟩ ?_
 ·have e:=lV (b6 4 cs.length m::qs la R par cs r)
  show _=AH.setLow _ _
  rw[<-e]
  rfl
 rintro mm e H ⟨k,mk,l,rfl,hk,hl,hl2,hRL,rfl,rfl⟩
 repeat (first|(with_reducible refine GN.go rfl ?_)|simp only[bZ,go_sem,simprocAttr])
 refine⟨λh=>?_,λh=>?_⟩
 ·have hkl:k<L.length:=by omega
  have hk0:(0:Int)<=(k:Int):=by omega
  have ha:=hadd k (by omega)
  have hgc:=pZ (la:=la) (R:=R) (par:=par) hS mk (L.getD k 0) (Nat.le_trans (gq hRL.mono _) hu) (hL k hkl) l hl hl2
  repeat (first|(with_reducible refine GN.go rfl ?_)|simp only[hk0,h,decide_true,bZ,go_sem,simprocAttr])
  refine cN.mn hgc ?_
  rintro v H' ⟨res,m',rfl,hq,rfl⟩
  cases res
  ·repeat (first|(with_reducible refine GN.go rfl ?_)|simp only[ha,bZ,go_sem,simprocAttr])
   exact⟨_,_,by omega,(.of (λp hp=>by
     simp only[List.mem_cons,List.not_mem_nil,or_false] at hp
     rcases hp with rfl|rfl|rfl|rfl<;>exact⟨by simp,by simp only[go_sem,simprocAttr]⟩)),k+1,m',min l 4,rfl,by omega,by omega,by omega,hRL.step hq,rfl,rfl⟩
  ·repeat (first|(with_reducible refine GN.go rfl ?_)|simp only[bZ,go_sem,simprocAttr])
   exact⟨k,m',min l 4,by omega,by omega,rfl,rfl,.inr ⟨by omega,k,mk,hkl,hRL,hq⟩⟩
 ·have hkn:k=L.length:=by omega
  subst hkn
  repeat (first|(with_reducible refine GN.go rfl ?_)|simp only[bZ,go_sem,simprocAttr])
  exact⟨-1,mk,l,hl,hl2,rfl,rfl,.inl ⟨by decide,hRL⟩⟩
def Pn(m:Nat->Bool)(L:List Nat)(res:Bool)(m':Nat->Bool):Prop:=(res=false/\RL cs (bE cs (cL cs)) r m L L.length m')\/(res=true/\∃k m1,k<L.length/\RL cs (bE cs (cL cs)) r m L k m1/\RQ cs (bE cs (cL cs)) r m1 (L.getD k 0) true m')
theorem pc{u:Nat}(hS:ke la R par cs r u)(m:Nat->Bool)(hu:d9 m cs.length<=u)(L:List Nat)(hL:∀q,q<L.length->L.getD q 0<=cs.length)(hLl:L.length<=1000):
  cN Try.prog 58 [.fs 1 L.length (λj _=> .n .i64 ((L.getD j 0:Nat):Int)),.f 60 [] [.p 0 0,.p 1 0,.p 2 0,.p 3 0]] (aN (b6 4 cs.length m::qs la R par cs r)) (px (qs la R par cs r).length 4 cs.length (Pn (cs:=cs) (r:=r) m L)):=by
 refine jA Jy (by simp) (GN.arg _ (by simp) ?_)
 simp only[bI]
 repeat (first|(with_reducible refine GN.go rfl ?_)|simp only[bZ,go_sem,simprocAttr])
 refine cN.mn (vz hS m hu L hL hLl) ?_
 rintro v H' ⟨q,m',l,hl,hl2,rfl,rfl,hq⟩
 have hat:(aN (b6 4 cs.length m'::qs la R par cs r)).at 4=some (b6 4 cs.length m'):=by simp only[b6,qs,go_sem,simprocAttr]
 rcases hq with⟨h0,hq⟩|⟨h0,hq⟩
 ·have h0':¬0<=q:=by omega
  repeat (first|(with_reducible refine GN.go rfl ?_)|simp only[h0',decide_false,bZ,go_sem,simprocAttr])
  exact⟨false,m',rfl,.inl ⟨rfl,hq⟩,⟨_,hat,.row _ _ _⟩,hl⟩
 ·repeat (first|(with_reducible refine GN.go rfl ?_)|simp only[h0,decide_true,bZ,go_sem,simprocAttr])
  exact⟨true,m',rfl,.inr ⟨rfl,hq⟩,⟨_,hat,.row _ _ _⟩,hl⟩
end
section
variable {la:List (Bool×Int)} {R:Nat} {par:Int} {cs:List In} {r:Nat}
theorem wX(T n:Nat)(m:Nat->Bool)(i:Nat)(hi:i<n)(hn:n<100000):lh T n (gg m i) ((aH T 1 n 0 (λi _=>AV.b (m i))).putN i [.b true]):=
 ⟨rfl,rfl,rfl,Nat.mul_one n,λj hj=>by
  have hg:=aL (ty:=T) (n:=n) (z:=0) (row:=λi _=>AV.b (m i)) j 0 (by decide:0<1)
  rw[Nat.mul_one,Nat.add_zero] at hg
  rw[fo (by simp only[List.length_singleton];omega),List.length_singleton]
  unfold gg
  by_cases e:j=i
  ·subst e
   rw[if_pos ⟨Nat.le_refl _,by omega⟩,if_pos rfl,Nat.sub_self];rfl
  ·rw[if_neg (by omega),if_neg e,hg]⟩
theorem jd(hz:(fy la R par cs).2=0)(ha:gV cs)(u:Nat)(ih:∀u',u'+1=u->ke la R par cs r u'):ke la R par cs r u:=by
 have hk:=cw hz
 have hR:=hk.nregs
 have hlen:=hk.ncs
 have hpl:=hk.pok.len
 intro m i hu hi
 refine jA Ky (by simp) (GN.arg _ (by simp) ?_)
 simp only[bI,aP]
 by_cases hil:i<cs.length
 ·have h1:¬(cs.length:Int)<=(i:Int):=by omega
  have h2:(i:Int)<(cs.length:Int):=by omega
  have h0:(0:Int)<=(i:Int):=by omega
  have hg:=aL (ty:=4) (n:=cs.length) (z:=0) (row:=λi _=>AV.b (m i)) i 0 (by decide:0<1)
  rw[Nat.mul_one,Nat.add_zero] at hg
  cases hmi:m i
  ·rw[hmi] at hg
   have hx:=List.getElem_mem hil
   have hin:=hk.inC _ hx
   have ex:cs[i]=cs.getD i (0,0,0,0,0):=by rw[List.getD_eq_getElem?_getD,List.getElem?_eq_getElem hil];rfl
   rw[ex] at hin hx
   have c0:=ww cs i
   have c1:=CB cs i
   have c2:=CA cs i
   have c3:=Cz cs i
   have c4:=Cy cs i
   have hus:=nw _ (cs.getD i (0,0,0,0,0)).2.1 (cs.getD i (0,0,0,0,0)).2.2.1 (cs.getD i (0,0,0,0,0)).2.2.2.1 (cs.getD i (0,0,0,0,0)).2.2.2.2 hin.op
   have hi1:i+1<=cs.length:=by omega
   repeat (first|(with_reducible refine GN.go rfl ?_)|simp only[b6,h0,h1,h2,hil,hg,hi1,c0,c1,c2,c3,c4,decide_true,decide_false,bZ,go_sem,simprocAttr])
   refine ao [] (.cons (.rfl (by rfl)) .nil) hus (by simp only[AH.mark_next,ah,ay,az,am,ai,av,af,au,ag,List.length_cons,List.length_nil];decide) ?_
   have hrl:(Aq cs i).length<=100000:=by unfold Aq aA;(repeat' split)<;>simp
   have hrd:aA (cs.getD i (0,0,0,0,0)).1 (cs.getD i (0,0,0,0,0)).2.2.1 (cs.getD i (0,0,0,0,0)).2.2.2.1=Aq cs i:=rfl
   have hwr:a8 (cs.getD i (0,0,0,0,0)).1 (cs.getD i (0,0,0,0,0)).2.1=ni cs i:=rfl
   rw[hrd,hwr]
   generalize hrv:Aq cs i=rd at hrl
   generalize hwv:ni cs i=wv
   have hcon:bR Try.prog 25 [.fs 1 rd.length (iC .i64 rd),.n .i64 r] [.v (.b (hasF (λq=>rd.getD q 0) r rd.length 0))]:=iH (λq=>rd.getD q 0) r rd.length hrl
   have hmem:hasF (λq=>rd.getD q 0) r rd.length 0=true↔(r:Int) ∈ rd:=by
    rw[l7]
    constructor
    ·rintro ⟨j,_,h2,h3⟩
     rw[Nat.zero_add] at h2
     rw[<-h3,List.getD_eq_getElem?_getD,List.getElem?_eq_getElem h2]
     exact List.getElem_mem _
    ·intro h
     obtain⟨j,hj,e⟩:=List.getElem_of_mem h
     exact⟨j,Nat.zero_le _,by omega,by rw[List.getD_eq_getElem?_getD,List.getElem?_eq_getElem hj,e];rfl⟩
   have hlike:=wX 4 cs.length m i hil (by omega)
   repeat (first|(with_reducible refine GN.go rfl ?_)|simp only[bZ,go_sem,simprocAttr])
   refine ao [5] (.cons (Cv.own (ty:=3) (z:=0) (by simp) (by simp only[go_sem,simprocAttr]) (λi j _ _=>rfl)) (.cons (.rfl (by rfl)) .nil)) hcon (by simp only[AH.mark_next,ah,ay,az,am,ai,av,af,au,ag,List.length_cons,List.length_nil];decide) ?_
   cases hb:hasF (λq=>rd.getD q 0) r rd.length 0
   ·have hnr:(r:Int) ∉ Aq cs i:=λh=>by rw[hrv,<-hmem,hb] at h;cases h
    by_cases hw:wv=(r:Int)
    ·repeat (first|(with_reducible refine GN.go rfl ?_)|simp only[hw,decide_true,bZ,go_sem,simprocAttr])
     exact⟨false,gg m i,rfl,.write hnr (by rw[hwv,hw]),⟨_,by simp only[go_sem,simprocAttr]<;>rfl,hlike⟩,Nat.zero_le _⟩
    ·have hsu:=ny cs hlen (jK cs) hpl (cL cs) i hil (hk.pok.at_ i hil)
     simp only[gC] at hsu
     repeat (first|(with_reducible refine GN.go rfl ?_)|simp only[hw,decide_false,bZ,go_sem,simprocAttr])
     refine ao [] (.cons (.rfl (by rfl)) (.cons (.rfl (by rfl)) (.cons (.rfl (by rfl)) .nil))) hsu (by simp only[AH.mark_next,ah,ay,az,am,ai,av,af,au,ag,List.length_cons,List.length_nil];decide) ?_
     repeat (first|(with_reducible refine GN.go rfl ?_)|simp only[bZ,go_sem,simprocAttr])
     have hun:=lu cs.length hil hmi
     obtain⟨u',hu'⟩:∃u':Nat,u'+1=u:=⟨u-1,by omega⟩
     have hgc:=pc (la:=la) (R:=R) (par:=par) (ih u' hu') (gg m i) (by omega) (bE cs (cL cs) i) (λq hq=>by
      refine tG hil (λhb=>(hk.pok.at_ i hil hb).2) _ ?_
      rw[List.getD_eq_getElem?_getD,List.getElem?_eq_getElem hq]
      exact List.getElem_mem hq) (by have:=xr cs (cL cs) i;omega)
     refine cN.mn (eY (T:=4) (n:=cs.length) (m:=gg m i) (bl:=qs la R par cs r) (args0:=[.fs 1 (bE cs (cL cs) i).length (λj _=> .n .i64 (((bE cs (cL cs) i).getD j 0:Nat):Int)),.f 60 [] [.p 0 0,.p 1 0,.p 2 0,.p 3 0]]) 0 [4,3,2,1] (by decide) (λq=>by simp only[go_sem,simprocAttr,bP]) (by rfl) (λi v2 h=>?_) ?_ (by simp) hgc) ?_
     ·match i,h with
      |0,h=>cases h;exact⟨_,rfl,.cv (.rfl rfl)⟩
      |1,h=>
       cases h
       refine⟨_,rfl,.f rfl rfl (λi v v' h1 h2=>by simp at h1) (λi v v' h1 h2=>?_)⟩
       match i,h1,h2 with
       |0,h1,h2=>cases h1;cases h2;exact .p rfl
       |1,h1,h2=>cases h1;cases h2;exact .p rfl
       |2,h1,h2=>cases h1;cases h2;exact .p rfl
       |3,h1,h2=>cases h1;cases h2;exact .p rfl
       |i+4,h1,h2=>simp at h1
      |i+2,h=>simp at h
     ·refine .cons rfl (.rows (x:=_) (by simp only[go_sem,simprocAttr]<;>rfl) (by rfl) (by rfl) (by rfl) (Nat.le_refl _) (Nat.le_refl _) (by decide) (λq j hq hj=>?_) (λq j _ _=>rfl)) (.cons rfl (.lstw (x:=_) (by simp only[go_sem,simprocAttr]<;>rfl) (by rfl) (by rfl) (by rfl) (by rfl) (by rfl) (by rfl) (by simp) (λi hi=>(by have h1':i<1:=hi;obtain rfl:i=0:=(by omega);(simp only[go_sem,simprocAttr];first|exact Wv.same rfl|exact Wv.os rfl)))) (.cons rfl (.lstw (x:=_) (by simp only[go_sem,simprocAttr]<;>rfl) (by rfl) (by rfl) (by rfl) (by rfl) (by rfl) (by rfl) (by simp) (λi hi=>(by have h1':i<1:=hi;obtain rfl:i=0:=(by omega);(simp only[go_sem,simprocAttr];first|exact Wv.same rfl|exact Wv.os rfl)))) (.cons rfl (.lstw (x:=_) (by simp only[go_sem,simprocAttr]<;>rfl) (by rfl) (by rfl) (by rfl) (by rfl) (by rfl) (by rfl) (by simp) (λi hi=>(by have h1':i<1:=hi;obtain rfl:i=0:=(by omega);(simp only[go_sem,simprocAttr];first|exact Wv.same rfl|exact Wv.os rfl)))) (.cons rfl (.lstw (x:=_) (by simp only[go_sem,simprocAttr]<;>rfl) (by rfl) (by rfl) (by rfl) (by rfl) (by rfl) (by rfl) (by simp) (λi hi=>(by rcases iu hi with rfl|rfl|rfl|rfl<;>(simp only[go_sem,simprocAttr];first|exact Wv.same rfl|exact Wv.os rfl)))) .nil))))
      obtain rfl:j=0:=by omega
      rw[Nat.mul_one,Nat.add_zero]
      exact hlike.get q hq
     rintro v H' ⟨res,m',rfl,hq,rfl⟩
     rcases hq with⟨rfl,hq⟩|⟨rfl,k,m1,hkl,hq,hq2⟩
     ·repeat (first|(with_reducible refine GN.go rfl ?_)|simp only[bZ,go_sem,simprocAttr])
      exact⟨false,m',rfl,.all hnr hq,⟨_,by simp only[b6,go_sem,simprocAttr]<;>rfl,.row _ _ _⟩,Nat.zero_le _⟩
     ·repeat (first|(with_reducible refine GN.go rfl ?_)|simp only[bZ,go_sem,simprocAttr])
      exact⟨true,m',rfl,.one hil (by rw[hwv];exact λh=>hw h.symm) hkl hq hq2,⟨_,by simp only[b6,go_sem,simprocAttr]<;>rfl,.row _ _ _⟩,Nat.zero_le _⟩
   ·repeat (first|(with_reducible refine GN.go rfl ?_)|simp only[bZ,go_sem,simprocAttr])
    exact⟨true,gg m i,rfl,.read hil (by rw[hrv,<-hmem,hb]),⟨_,by simp only[go_sem,simprocAttr]<;>rfl,hlike⟩,Nat.zero_le _⟩
  ·rw[hmi] at hg
   repeat (first|(with_reducible refine GN.go rfl ?_)|simp only[b6,h0,h1,h2,hil,hg,decide_true,decide_false,bZ,go_sem,simprocAttr])
   exact⟨false,m,rfl,.seen (.inr hmi),⟨_,by simp only[go_sem,simprocAttr]<;>rfl,.row _ _ _⟩,Nat.zero_le _⟩
 ·have h1:(cs.length:Int)<=(i:Int):=by omega
  repeat (first|(with_reducible refine GN.go rfl ?_)|simp only[b6,h1,decide_true,bZ,go_sem,simprocAttr])
  exact⟨false,m,rfl,.seen (.inl (by omega)),⟨_,by simp only[go_sem,simprocAttr]<;>rfl,.row _ _ _⟩,Nat.zero_le _⟩
theorem lJ(hz:(fy la R par cs).2=0)(ha:gV cs):∀u,ke la R par cs r u
 |0=>jd hz ha 0 (λu' h=>by omega)
 |u+1=>jd hz ha (u+1) (λu' h=>by
  obtain rfl:u'=u:=by omega
  exact lJ hz ha u')
end
end Go.Proofs.Yteopfmnnhlhbmaa
namespace Go.Proofs.Yteopfmnnhlhbmaa
open Go.RowKit
theorem yj{P:Program}{f:FuncId}{args:List AV}{x y:Int}(hf:vJ P f)(h:∀φ w args',pE φ w->bw (Sg.data φ) args args'.toList->Calls P f args' w λe w'=>e= .returned (.tuple #[.slice none 0 0,.int .i64 x,.int .i64 y])/\Below w.heap.size w w'):
  bR P f args [.v (.fs 1 0 (λ_ _=> .n .i64 0)),.v (.n .i64 x),.v (.n .i64 y)]:=by
 refine⟨hf,λφ w args' hφ ha=>(h φ w args' hφ ha).mono λe w' hq=>?_⟩
 obtain⟨rfl,hbel⟩:=hq
 exact⟨.tup [.fs 1 0 (λ_ _=> .n .i64 0),.n .i64 x,.n .i64 y],⟨.nil,0,2^40,λ_=>none⟩,Sg.data φ,⟨[_,_,_],rfl,⟨rfl,rfl⟩,⟨rfl,rfl⟩,⟨rfl,rfl⟩,trivial⟩,bw.tup (cs:=[.slice none 0 0,.int .i64 x,.int .i64 y]) (.cons (.fs0 _ _ _ _) (.cons (.n _ _) (.cons (.n _ _) .nil))),HR.after hφ hbel,hbel,λc _=>rfl⟩
theorem uD(cs:List In)(hcs:cs.length<=16384):∃(n:Nat) (row:Nat->Nat->AV) (x f:Int),bR Try.prog 23 [.fs 5 cs.length (cC cs)] [.v (.fs 1 n row),.v (.n .i64 x),.v (.n .i64 f)]:=by
 have key:∀x y:Int,(∀(w:World) e w',uu w (cs.map bq) (cT (cs.map bq) (cs.map bq).length 0 (List.replicate (cs.map bq).length 0) []) e w'->e= .returned (.tuple #[.slice none 0 0,.int .i64 x,.int .i64 y])/\Below w.heap.size w w')->bR Try.prog 23 [.fs 5 cs.length (cC cs)] [.v (.fs 1 0 (λ_ _=> .n .i64 0)),.v (.n .i64 x),.v (.n .i64 y)]:=λx y hh=>
  yj ⟨_,Try.func23,by kernel_rfl,by kernel_rfl⟩ λφ w args' hφ ha=>by
   have hn:args'.toList.length=1:=ha.1.symm
   match hl:args'.toList,hn with
   |[u],_=>
    rw[hl] at ha
    have hu:=ha.2 0 _ rfl
    simp only[List.getD_cons_zero] at hu
    have hargs:args'= #[u]:=by apply Array.toList_inj.1;rw[hl]
    obtain⟨a,cap,rfl,hr⟩:=sL hφ hu
    rw[hargs]
    exact(fg a cap (cs.map bq) w hr (by rw[List.length_map];omega) kT).mono λe w' hp=>hh w e w' hp
 cases hp:cT (cs.map bq) (cs.map bq).length 0 (List.replicate (cs.map bq).length 0) [] with
 |error k=>exact⟨_,_,_,_,key k 15 λw e w' h=>by rw[hp] at h;exact⟨h.2,h.1⟩⟩
 |ok p=>
  obtain⟨out,opn⟩:=p
  by_cases h0:0<opn.length
  ·refine⟨_,_,_,_,key (cs.map bq).length 15 λw e w' h=>?_⟩
   rw[hp] at h
   obtain⟨hb,h⟩:=h
   simp only at h
   rw[if_pos h0] at h
   exact⟨h,hb⟩
  ·obtain rfl:=List.eq_nil_of_length_eq_zero (show opn.length=0 by omega)
   obtain⟨t,ht,hw,_⟩:=nF hp
   exact⟨_,_,_,_,nz cs t ht hw hcs⟩
theorem yD{na:Nat}{ra:Nat->Nat->AV}{regs par a b:Int}{cs:List In}(hf:kt na regs cs=false):bR Try.prog 7 [aP na ra regs par cs,.n .u8 a,.n .u8 b] [.v (.b true)]:=by
 have hw:=j7 na ra regs par cs
 rw[hf] at hw
 refine aK bf wx ⟨by simp,by decide⟩ ?_
 simp only[bI,aP] at hw ⊢
 repeat first|with_reducible refine aw ?_|simp only[go_sem,simprocAttr]
 refine ao [] (.cons (.rfl (by rfl)) .nil) hw (by simp only[AH.mark_next,ah,ay,az,am,ai,av,af,au,ag,List.length_cons,List.length_nil];decide) ?_
 repeat first|with_reducible refine aw ?_|simp only[go_sem,simprocAttr]
 refine ao [] .nil fB (by simp only[AH.mark_next,ah,ay,az,am,ai,av,af,au,ag,List.length_cons,List.length_nil];decide) ?_
 repeat first|with_reducible refine aw ?_|simp only[go_sem,simprocAttr]
 exact bJ rfl rfl
theorem rh{na n n2:Nat}{ra row row2:Nat->Nat->AV}{regs par a b e x f:Int}{cs:List In}(hf:kt na regs cs=true)(h1:bR Try.prog 11 [aP na ra regs par cs] [.v (.fs 1 n row),.v (.n .i64 e)])(h2:bR Try.prog 23 [.fs 5 cs.length (cC cs)] [.v (.fs 1 n2 row2),.v (.n .i64 x),.v (.n .i64 f)])
  (hc:(n=0/\e≠0)\/(0<n/\e=0/\f=0/\regs=0)):bR Try.prog 7 [aP na ra regs par cs,.n .u8 a,.n .u8 b] [.v (.b true)]:=by
 have hw:=j7 na ra regs par cs
 rw[hf] at hw
 refine aK bf wx ⟨by simp,by decide⟩ ?_
 simp only[bI,aP] at hw h1 ⊢
 repeat first|with_reducible refine aw ?_|simp only[go_sem,simprocAttr]
 refine ao [] (.cons (.rfl (by rfl)) .nil) hw (by simp only[AH.mark_next,ah,ay,az,am,ai,av,af,au,ag,List.length_cons,List.length_nil];decide) ?_
 repeat first|with_reducible refine aw ?_|simp only[go_sem,simprocAttr]
 refine ao [] (.cons (.rfl (by rfl)) .nil) h1 (by simp only[AH.mark_next,ah,ay,az,am,ai,av,af,au,ag,List.length_cons,List.length_nil];decide) ?_
 repeat first|with_reducible refine aw ?_|simp only[go_sem,simprocAttr]
 refine ao [] (.cons (.rfl (by rfl)) .nil) h2 (by simp only[AH.mark_next,ah,ay,az,am,ai,av,af,au,ag,List.length_cons,List.length_nil];decide) ?_
 rcases hc with⟨rfl,he⟩|⟨hn,rfl,rfl,rfl⟩
 ·have z0:((0:Nat):Int)=0:=rfl
  have d0:decide ((0:Int)=0)=true:=decide_eq_true rfl
  repeat first|with_reducible refine aw ?_|simp only[he,z0,d0,decide_true,decide_false,t8,go_sem,simprocAttr]
  refine ao [] .nil fB (by simp only[AH.mark_next,ah,ay,az,am,ai,av,af,au,ag,List.length_cons,List.length_nil];decide) ?_
  repeat first|with_reducible refine aw ?_|simp only[go_sem,simprocAttr]
  exact bJ rfl rfl
 ·have hn0:¬((n:Int)=0):=by omega
  have d0:decide ((0:Int)=0)=true:=decide_eq_true rfl
  repeat first|with_reducible refine aw ?_|simp only[hn0,d0,decide_true,decide_false,t8,go_sem,simprocAttr]
  refine ao [] .nil fB (by simp only[AH.mark_next,ah,ay,az,am,ai,av,af,au,ag,List.length_cons,List.length_nil];decide) ?_
  repeat first|with_reducible refine aw ?_|simp only[go_sem,simprocAttr]
  exact bJ rfl rfl
theorem vB{la:List (Bool×Int)}{R:Nat}{par:Int}{cs:List In}(hz:(fy la R par cs).2=0)(ha:gV cs)(hR:0<R)(hlc:cs.length<=300)(hf:kt la.length R cs=true){a b:Nat}(h8a:a<256)(h8b:b<256):
  bR Try.prog 7 [aP la.length (aC la) R par cs,.n .u8 a,.n .u8 b] [.v (.b true)]:=by
 have hw:=j7 la.length (aC la) R par cs
 rw[hf] at hw
 have h1:=ur hz ha
 have h2:=zP hz
 have hR2:=(cw hz).nregs
 have wa:IntKind.wrap .i64 (a:Int)=(a:Int):=aU (by omega)
 have wb:IntKind.wrap .i64 (b:Int)=(b:Int):=aU (by omega)
 have wn:IntKind.wrap .i64 ((cs.length:Int)+1)=((cs.length+1:Nat):Int):=by rw[aU (by omega)];omega
 have n0:¬(((cs.length+1:Nat):Int)=0):=by omega
 have r0:¬((R:Int)=0):=by omega
 have ta:Int.tmod (a:Int) ((cs.length+1:Nat):Int)=((a%(cs.length+1):Nat):Int):=by rw[Int.tmod_eq_emod_of_nonneg (by omega)];rfl
 have tb:Int.tmod (b:Int) (R:Int)=((b%R:Nat):Int):=by rw[Int.tmod_eq_emod_of_nonneg (by omega)];rfl
 have hi1:a%(cs.length+1)<cs.length+1:=Nat.mod_lt _ (by omega)
 generalize a%(cs.length+1)=i at ta hi1
 have hq1:b%R<R:=Nat.mod_lt _ hR
 generalize b%R=q at tb hq1
 have d0:decide ((0:Int)=0)=true:=decide_eq_true rfl
 have dn:decide ((((cs.length+1:Nat)):Int)=((cs.length+1:Nat):Int))=true:=decide_eq_true rfl
 have i0:(0:Int)<=(i:Int):=by omega
 have i1:(i:Int)<((cs.length+1:Nat):Int):=by omega
 generalize hL:dj cs (bE cs (cL cs)) R=L at h1
 have hLl:(L i).length<=R:=by rw[<-hL];exact nN cs (bE cs (cL cs)) R i
 have hgi:gC L i 0= .fs 1 (L i).length (fC λj=>(((L i).getD j 0:Nat):Int)):=rfl
 have hso:=mY (λj=>(((L i).getD j 0:Nat):Int)) (L i).length (by omega) (λj hj=>by
  have hp:=ju cs (bE cs (cL cs)) R i
  rw[hL] at hp
  have:=List.pairwise_iff_getElem.1 hp j (j+1) (by omega) hj (by omega)
  rw[List.getD_eq_getElem?_getD,List.getElem?_eq_getElem (show j<(L i).length by omega),List.getD_eq_getElem?_getD,List.getElem?_eq_getElem hj]
  simp only[Option.getD_some]
  omega)
 have hct:=iH (λj=>(((L i).getD j 0:Nat):Int)) q (L i).length (by omega)
 have hmem:hasF (λj=>(((L i).getD j 0:Nat):Int)) q (L i).length 0=true↔bn cs (bE cs (cL cs)) i (q:Int):=by
  rw[l7]
  constructor
  ·rintro ⟨j,_,h2,h3⟩
   rw[Nat.zero_add] at h2
   have hm:(L i).getD j 0 ∈ L i:=by rw[List.getD_eq_getElem?_getD,List.getElem?_eq_getElem h2];exact List.getElem_mem _
   have e:(L i).getD j 0=q:=by omega
   rw[e,<-hL] at hm
   exact(ig.1 hm).2
  ·intro h
   have hm:q ∈ L i:=by rw[<-hL];exact ig.2 ⟨hq1,h⟩
   obtain⟨j,hj,e⟩:=List.getElem_of_mem hm
   exact⟨j,Nat.zero_le _,by omega,by rw[List.getD_eq_getElem?_getD,List.getElem?_eq_getElem hj,e];rfl⟩
 have hre:=lJ (la:=la) (R:=R) (par:=par) (r:=q) hz ha (d9 (λ_=>false) cs.length) (λ_=>false) i (Nat.le_refl _) (by omega)
 generalize hv:hasF (λj=>(((L i).getD j 0:Nat):Int)) q (L i).length 0=v at hct hmem
 refine aK bf wx ⟨by simp,by decide⟩ ?_
 simp only[bI,aP] at hw h1 h2 hre ⊢
 repeat first|with_reducible refine aw ?_|simp only[go_sem,simprocAttr]
 refine ao [] (.cons (.rfl (by rfl)) .nil) hw (by simp only[AH.mark_next,ah,ay,az,am,ai,av,af,au,ag,List.length_cons,List.length_nil];decide) ?_
 repeat first|with_reducible refine aw ?_|simp only[go_sem,simprocAttr]
 refine ao [] (.cons (.rfl (by rfl)) .nil) h1 (by simp only[AH.mark_next,ah,ay,az,am,ai,av,af,au,ag,List.length_cons,List.length_nil];decide) ?_
 repeat first|with_reducible refine aw ?_|simp only[go_sem,simprocAttr]
 refine ao [] (.cons (.rfl (by rfl)) .nil) h2 (by simp only[AH.mark_next,ah,ay,az,am,ai,av,af,au,ag,List.length_cons,List.length_nil];decide) ?_
 repeat first|with_reducible refine aw ?_|simp only[d0,r0,wa,wb,wn,n0,ta,tb,dn,i0,i1,hgi,decide_true,decide_false,go_sem,simprocAttr]
 refine ao [] (.cons (.rfl (by rfl)) .nil) hso (by simp only[AH.mark_next,ah,ay,az,am,ai,av,af,au,ag,List.length_cons,List.length_nil];decide) ?_
 repeat first|with_reducible refine aw ?_|simp only[go_sem,simprocAttr]
 refine GA.wk (Wk.mk (L:=[(3,.p 0 0),(7,.fs 1 (cs.length+1) (gC L)),(9,.fs 1 (jK cs).length (iC .i64 (jK cs))),(12,.n .i64 i),(13,.n .i64 q)]) (bl:=[bg 0 25 [.fs 2 la.length (aC la),.n .i64 R,.n .i64 par,.fs 5 cs.length (cC cs)]]) [0] [] ?_ ?_ ?_) ?_
 ·simp only[bk,bh,go_sem,simprocAttr]
  repeat' refine ab ?_ ?_
  all_goals first|exact bu|skip
 ·exact .cons rfl (.lstw (x:=_) (by simp only[go_sem,simprocAttr]<;>rfl) (by rfl) (by rfl) (by rfl) (by rfl) (by rfl) (by rfl) (by simp) (λi hi=>(by rcases iu hi with rfl|rfl|rfl|rfl<;>(simp only[go_sem,simprocAttr];first|exact Wv.same rfl)))) .nil
 ·simp
 have q1:(0:Int)<=(cs.length:Int):=by omega
 have q2:(cs.length:Int)<=(cs.length:Int):=Int.le_refl _
 have q3:(cs.length:Int)<=16777216:=by omega
 have q4:1*cs.length<=140737488355328:=by omega
 have q5:cs.length<1099511627776:=by omega
 refine GA.frkm bf 1 (by simp only[eC,go_sem,simprocAttr]) ?_
 simp only[i0,i1,hgi,decide_true,go_sem,simprocAttr]
 repeat' with_reducible refine ab ?_ ?_
 ·refine ao [] (.cons (.rfl (by rfl)) (.cons (.rfl (by rfl)) .nil)) hct (by simp only[AH.mark_next,ah,ay,az,am,ai,av,af,au,ag,List.length_cons,List.length_nil];decide) ?_
  simp only[q1,q2,q3,q4,q5,go_sem,simprocAttr]
  refine cN.mn (eY (T:=4) (n:=cs.length) (m:=λ_=>false) (bl:=[]) (args0:=[.agg [.fs 2 la.length (aC la),.n .i64 R,.n .i64 par,.fs 5 cs.length (cC cs)],.fs 1 (jK cs).length (iC .i64 (jK cs)),.n .i64 i,.n .i64 q,.os 0 cs.length]) 1 [] (by decide) (λz=>by simp only[go_sem,simprocAttr,bP]) (by rfl) (λj v2 h=>?_) (.cons rfl (.rows (x:=_) (by simp only[go_sem,simprocAttr]<;>rfl) (by rfl) (by rfl) (by rfl) (Nat.le_refl _) (Nat.le_refl _) (by decide) (λz j hz hj=>?_) (λ_ _ _ _=>rfl)) .nil) (by simp) hre) ?_
  ·match j,h with
   |0,h=>cases h;exact⟨_,rfl,.cv (.rfl rfl)⟩
   |1,h=>cases h;exact⟨_,rfl,.cv (.rfl rfl)⟩
   |2,h=>cases h;exact⟨_,rfl,.cv (.rfl rfl)⟩
   |3,h=>cases h;exact⟨_,rfl,.cv (.rfl rfl)⟩
   |4,h=>cases h;exact⟨_,rfl,.os rfl⟩
   |j+5,h=>simp at h
  ·obtain rfl:j=0:=by omega
   rw[aL z 0 (by decide)];rfl
  rintro v' H' ⟨res,m',rfl,hq,rfl⟩
  have hvr:res=v:=by
   have:=hq.live
   cases res<;>cases v<;>simp_all
  subst hvr
  have hvv:(res==res)=true:=by cases res<;>rfl
  simp only[t8,hvv,go_sem,simprocAttr]
  repeat' with_reducible refine ab ?_ ?_
  all_goals first
   |decide
   |skip
  refine ao [] .nil fB (by simp only[AH.mark_next,ah,ay,az,am,ai,av,af,au,ag,List.length_cons,List.length_nil];decide) ?_
  simp only[go_sem,simprocAttr]
  repeat' with_reducible refine ab ?_ ?_
  all_goals first
   |decide
   |skip
  repeat first|with_reducible refine aw ?_|simp only[go_sem,simprocAttr]
  exact bJ rfl rfl
 ·simp only[q1,q2,q3,q4,q5,go_sem,simprocAttr]
  repeat' with_reducible refine ab ?_ ?_
  all_goals first
   |decide
   |skip
  refine ao [] (.cons (.rfl (by rfl)) (.cons (.rfl (by rfl)) .nil)) hct (by simp only[AH.mark_next,ah,ay,az,am,ai,av,af,au,ag,List.length_cons,List.length_nil];decide) ?_
  simp only[go_sem,simprocAttr]
  repeat' with_reducible refine ab ?_ ?_
  all_goals first
   |decide
   |skip
  refine cN.mn (eY (T:=4) (n:=cs.length) (m:=λ_=>false) (bl:=[]) (args0:=[.agg [.fs 2 la.length (aC la),.n .i64 R,.n .i64 par,.fs 5 cs.length (cC cs)],.fs 1 (jK cs).length (iC .i64 (jK cs)),.n .i64 i,.n .i64 q,.os 0 cs.length]) 1 [] (by decide) (λz=>by simp only[go_sem,simprocAttr,bP]) (by rfl) (λj v2 h=>?_) (.cons rfl (.rows (x:=_) (by simp only[go_sem,simprocAttr]<;>rfl) (by rfl) (by rfl) (by rfl) (Nat.le_refl _) (Nat.le_refl _) (by decide) (λz j hz hj=>?_) (λ_ _ _ _=>rfl)) .nil) (by simp) hre) ?_
  ·match j,h with
   |0,h=>cases h;exact⟨_,rfl,.cv (.rfl rfl)⟩
   |1,h=>cases h;exact⟨_,rfl,.cv (.rfl rfl)⟩
   |2,h=>cases h;exact⟨_,rfl,.cv (.rfl rfl)⟩
   |3,h=>cases h;exact⟨_,rfl,.cv (.rfl rfl)⟩
   |4,h=>cases h;exact⟨_,rfl,.os rfl⟩
   |j+5,h=>simp at h
  ·obtain rfl:j=0:=by omega
   rw[aL z 0 (by decide)];rfl
  rintro v' H' ⟨res,m',rfl,hq,rfl⟩
  have hvr:res=v:=by
   have:=hq.live
   cases res<;>cases v<;>simp_all
  subst hvr
  have hvv:(res==res)=true:=by cases res<;>rfl
  simp only[t8,hvv,go_sem,simprocAttr]
  repeat' with_reducible refine ab ?_ ?_
  all_goals first
   |decide
   |skip
  refine ao [] .nil fB (by simp only[AH.mark_next,ah,ay,az,am,ai,av,af,au,ag,List.length_cons,List.length_nil];decide) ?_
  simp only[go_sem,simprocAttr]
  repeat' with_reducible refine ab ?_ ?_
  all_goals first
   |decide
   |skip
  repeat first|with_reducible refine aw ?_|simp only[go_sem,simprocAttr]
  exact bJ rfl rfl
theorem x7(la:List (Bool×Int))(regs par:Int)(cs:List In)(ha:gV cs)(a b:Nat)(h8a:a<256)(h8b:b<256):
  bR Try.prog 7 [aP la.length (aC la) regs par cs,.n .u8 a,.n .u8 b] [.v (.b true)]:=by
 cases hf:kt la.length regs cs
 ·exact yD hf
 have hfew:=Bx hf
 by_cases hz:(fy la regs par cs).2=0
 ·have h:=(cw hz).nregs
  obtain⟨R,rfl⟩:∃R:Nat,regs=R:=⟨regs.toNat,by omega⟩
  by_cases hR:R=0
  ·subst hR
   exact rh hf (ur hz ha) (zP hz) (.inr ⟨by omega,rfl,rfl,rfl⟩)
  ·exact vB hz ha (by omega) (by omega) hf h8a h8b
 ·have hA:=x4 la regs par cs (by omega) (by omega) ha hz (λ_=>[])
  obtain⟨n,row,x,f,hp⟩:=uD cs (by omega)
  exact rh hf hA hp (.inl ⟨rfl,hz⟩)
end Go.Proofs.Yteopfmnnhlhbmaa