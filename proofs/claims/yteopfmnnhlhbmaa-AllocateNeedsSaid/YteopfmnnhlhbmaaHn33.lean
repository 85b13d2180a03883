/- A part of the proof of AllocateNeeds: LiA PrsA OcA CoA CpA InA InB InC InD InE InF CoB SuA RfA RfB. No condition. -/
import Derived.Test.YteopfmnnhlhbmaaHn19
import Derived.Test.YteopfmnnhlhbmaaHn23
import Derived.Test.YteopfmnnhlhbmaaHn24
import Derived.Test.YteopfmnnhlhbmaaHn32
import Derived.Test.YteopfmnnhlhbmaaHn13
import Derived.Test.YteopfmnnhlhbmaaHn15
import Derived.Test.YteopfmnnhlhbmaaHn17
set_option linter.unusedSimpArgs false
set_option linter.unusedVariables false
set_option linter.constructorNameAsVariable false
set_option maxRecDepth 100000
set_option maxHeartbeats 4000000
namespace Go.Proofs.Yteopfmnnhlhbmaa
open Go.RowKit
noncomputable def dj(cs:List In)(nx:Nat->List Nat)(R i:Nat):List Nat:=(List.range R).filter λr:Nat=> @Decidable.decide (bn cs nx i (r:Int)) (Classical.propDecidable _)
theorem ig{cs:List In}{nx:Nat->List Nat}{R i r:Nat}:r ∈ dj cs nx R i↔r<R/\bn cs nx i (r:Int):=by
 unfold dj
 rw[List.mem_filter,List.mem_range,@decide_eq_true_iff _ (Classical.propDecidable _)]
theorem ju(cs:List In)(nx:Nat->List Nat)(R i:Nat):(dj cs nx R i).Pairwise (· < ·):=List.Pairwise.filter _ List.pairwise_lt_range
theorem nN(cs:List In)(nx:Nat->List Nat)(R i:Nat):(dj cs nx R i).length<=R:=by
 have:=List.length_filter_le (λr:Nat=> @Decidable.decide (bn cs nx i (r:Int)) (Classical.propDecidable _)) (List.range R)
 rw[List.length_range] at this
 exact this
theorem kj{l1 l2:List Int}(h1:l1.Pairwise (· < ·))(h2:l2.Pairwise (· < ·))(hm:∀k,k ∈ l1↔k ∈ l2):l1=l2:=
 List.Perm.eq_of_pairwise (le:=(· < ·)) (λa b _ _ p q=>by omega) h1 h2 ((List.perm_ext_iff_of_nodup (h1.imp λh=>by omega) (h2.imp λh=>by omega)).2 hm)
theorem si{cs:List In}{nx:Nat->List Nat}{R i:Nat}{zs:List Int}(hm:∀k,k ∈ zs↔bn cs nx i k)(hp:zs.Pairwise (· < ·))(hr:∀k,bn cs nx i k->0<=k/\k<(R:Int)):zs=(dj cs nx R i).map (λn:Nat=>(n:Int)):=by
 refine kj hp (List.pairwise_map.2 ((ju cs nx R i).imp λh=>by omega)) (λk=>?_)
 rw[hm,List.mem_map]
 constructor
 ·intro h
  obtain⟨a,b⟩:=hr k h
  exact⟨k.toNat,ig.2 ⟨by omega,by rwa [Int.toNat_of_nonneg a]⟩,Int.toNat_of_nonneg a⟩
 ·rintro ⟨n,h,rfl⟩
  exact(ig.1 h).2
theorem yy(l:List Nat):(AV.fs 1 (l.map (λn:Nat=>(n:Int))).length (λj _=> .n .i64 ((l.map (λn:Nat=>(n:Int))).getD j 0)))= .fs 1 l.length (λj _=> .n .i64 ((l.getD j 0:Nat):Int)):=by
 rw[List.length_map]
 congr 1
 funext j _
 congr 1
 rw[List.getD_eq_getElem?_getD,List.getD_eq_getElem?_getD,List.getElem?_map]
 cases l[j]? <;>rfl
theorem qz(r:Nat):bR Try.prog 38 [.cv (.map (some r))] [.v (.f 71 [] [.bx 1 (λ_=> .cv (.map (some r)))])]:=by
 refine aK bf Mf ⟨by simp,by decide⟩ ?_
 simp only[bI]
 (try simp only[go_sem,simprocAttr])
 iterate 4 (with_reducible refine GA.go bf rfl ?_;try simp only[go_sem,simprocAttr])
 refine GA.wk (Wk.mk (L:=[(2,.f 71 [] [.bx 1 (λ_=> .cv (.map (some r)))])]) (bl:=[]) [] [0] ?_ ?_ ?_) ?_
 ·exact⟨⟨by decide,.f 71 [] [.p 0 0],by simp only[go_sem,simprocAttr],.cv (.fn .nil (.cons (.bx (x:=bg 0 70 [.cv (.map (some r))]) (List.mem_cons_self ..) (by simp only[go_sem,simprocAttr]<;>rfl) (by show 1<=1;decide) (by show 0<1;decide) (λq hq=>by obtain rfl:q=0:=(by omega);rfl) (λq hq=>rfl)) .nil))⟩,True.intro⟩
 ·exact .nil
 ·decide
 repeat first|with_reducible refine aw ?_|simp only[go_sem,simprocAttr]
 exact⟨[_],rfl,⟨rfl,rfl⟩,True.intro⟩
theorem Bj(la:List (Bool×Int))(regs par:Int)(cs:List In)(hla:la.length<1000000)(harg:∀x ∈ cs,0<=x.2.2.2.2/\x.2.2.2.2<4294967296)(hc0:(fy la regs par cs).2=0)
  (nx:Nat->List Nat) (R:Nat) (hRs:R<=100000) (hg:bR Try.prog 66 [.fs 5 cs.length (cC cs)] [.v (.fs 1 cs.length (gC nx))]) (hn:cs.length<=16384)
  (hops:∀x ∈ cs,0<=x.1/\x.1<39) (hnx:∀i,i<cs.length->∀k ∈ nx i,k<=cs.length) (hnl:∀i,(nx i).length<=2) (hR:∀x ∈ cs,∀r ∈ aA x.1 x.2.2.1 x.2.2.2.1,0<=r/\r<(R:Int)) (hw1:∀i k,i<cs.length->k ∈ nx i->k=i->a8 (cs.getD i (0,0,0,0,0)).1 (cs.getD i (0,0,0,0,0)).2.1= -1):
  bR Try.prog 11 [aP la.length (aC la) regs par cs] [.v (.fs 1 (cs.length+1) (gC (dj cs nx R))),.v (.n .i64 0)]:=by
 have hadd:∀j:Nat,j<100000->IntKind.wrap .i64 ((j:Int)+1)=((j+1:Nat):Int):=λj hj=>by rw[aU (by omega)];omega
 have hck:=j9 la regs par cs hla (by omega) harg
 rw[hc0] at hck
 have hlv:=jt cs nx R hg hn hops hnx hnl hR hw1
 have hrange:∀i k,bn cs nx i k->0<=k/\k<(R:Int):=λi k h=>h.range hR
 refine aK bf Ci ⟨by simp,by decide⟩ ?_
 simp only[bI,aP]
 repeat first|with_reducible refine aw ?_|simp only[go_sem,simprocAttr]
 refine sC hck ?_
 repeat first|with_reducible refine aw ?_|simp only[go_sem,simprocAttr]
 refine bN [] (.cons (.rfl (by rfl)) .nil) hlv True.intro (by simp only[go_sem,simprocAttr]) ?_
 rintro rs N ⟨S,ad,hS,hob0,rfl⟩ hfree
 repeat first|with_reducible refine aw ?_|simp only[go_sem,simprocAttr]
 refine GA.wk (Wk.nil 8 1 39 (by simp only[go_sem,simprocAttr]) (by decide) (by simp only[go_sem,simprocAttr])) ?_
 refine GA.loop (I:=λmm e H=>∃(i:Nat) (ob:Nat->Option OB),mm=cs.length+1-i/\i<=cs.length+1/\eL (cs.length+1) ad S ob/\e=aE [(8,.os 0 i),(25,.fs 1 (cs.length+1) (zO ad)),(26,.n .i64 (cs.length+1:Nat)),(27,.n .i64 i)]/\H=ba ob [aH 39 1 i 0 (gC (dj cs nx R))]) (Wk.mkS [1] [] ?_ ?_ ?_) ⟨0,_,rfl,Nat.zero_le _,?_,rfl,rfl⟩ ?_
 ·simp only[bk,bh,go_sem,simprocAttr]
  repeat' refine ab ?_ ?_
  all_goals first|exact bu|skip
 ·exact .cons rfl (.rowW (by simp only[go_sem,simprocAttr];rfl) (by rfl) (by rfl) (by rfl) (by decide) (by exact Nat.le_refl _) rfl (by decide) (λi j hi=>by omega)) .nil
 ·simp
 ·simp only[go_sem,simprocAttr]
  exact⟨λi hi=>(eJ (by first|rfl|(rw[bP]))).trans (hob0.at_ i hi),hob0.inj⟩
 rintro mm e H ⟨i,ob,rfl,hi,hob,rfl,rfl⟩
 repeat first|with_reducible refine aw ?_|simp only[go_sem,simprocAttr]
 refine⟨λh=>?_,λh=>?_⟩
 ·have hil:i<cs.length+1:=by omega
  have hi0:(0:Int)<=(i:Int):=by omega
  have ha:=hadd i (by omega)
  have hl1:i+1<1099511627776:=by omega
  have hl2:(i+1)*24<=140737488355328:=by omega
  have hl3:i<=9223372036854775806:=by omega
  have had:zO ad i 0= .cv (.map (some (ad i))):=rfl
  repeat first|with_reducible refine aw ?_|simp only[hi0,h,had,decide_true,go_sem,simprocAttr]
  refine ao [] (.cons (.rfl (by rfl)) .nil) (qz _) (by simp only[af,List.length_cons,List.length_nil];decide) ?_
  repeat first|with_reducible refine aw ?_|simp only[go_sem,simprocAttr]
  obtain⟨hnd,hmem⟩:=hS i (by omega)
  refine bN [] (.cons (.rfl (by rfl)) .nil) (ly _) ⟨bO (S i),hob.at_ i hil,?_,?_⟩ (by simp only[af,List.length_cons,List.length_nil];decide) ?_
  ·have:=gz hnd (λr hr=>hrange i r ((hmem r).1 hr))
   rw[gu];omega
  ·intro k v hk
   rw[du] at hk
   split at hk
   ·rename_i hk'
    have:=hrange i k ((hmem k).1 hk')
    omega
   ·cases hk
  rintro rs N2 ⟨ss,hss,hpw,rfl,rfl⟩ hfree2
  have hsl:ss=(dj cs nx R i).map (λn:Nat=>(n:Int)):=si (λk=>by
   rw[hss _ (hob.at_ i hil) k,du,<-hmem k]
   by_cases e:k ∈ S i<;>simp[e]) hpw (hrange i)
  subst hsl
  simp only[yy]
  repeat first|with_reducible refine aw ?_|simp only[hi0,decide_true,ha,hl1,hl2,hl3,go_sem,simprocAttr]
  refine⟨_,_,_,?_,Wk.mkS [2] [] ?_ ?_ ?_,i+1,_,rfl,by omega,?_,rfl,rfl⟩
  ·omega
  ·simp only[bk,bh,go_sem,simprocAttr]
   repeat' refine ab ?_ ?_
   all_goals first|exact bu|skip
  ·exact .cons rfl (.rowW (by simp only[go_sem,simprocAttr];rfl) (by rfl) (by rfl) (by rfl) (by rw[app_size];show(i+1)*1<=_;simp only[cg.len,List.length_singleton];omega) (by rw[cz];exact Nat.le_refl _) rfl (by decide) (λq j hq hj=>dQ (by omega) hq hj (.rfl (by rfl)))) .nil
  ·simp
  ·(try simp only[bP,go_sem,simprocAttr]);exact hob
 ·have hk:i=cs.length+1:=by omega
  subst hk
  refine GA.wk (Wk.mkS (L:=[(8,.fs 1 (cs.length+1) (gC (dj cs nx R)))]) (bl:=[]) [] [0] ?_ ?_ ?_) ?_
  ·refine⟨⟨by decide,.os 0 (cs.length+1),by simp only[go_sem,simprocAttr],.cv (.os (x:=aH 39 1 (cs.length+1) 0 (gC (dj cs nx R))) (by simp) (by simp only[go_sem,simprocAttr]) (Nat.le_refl _) (λi j _ hj=>aL i j hj) (λi j _ _=>rfl))⟩,True.intro⟩
  ·exact .nil
  ·simp
  repeat first|with_reducible refine aw ?_|simp only[go_sem,simprocAttr]
  exact⟨[_,_],rfl,⟨rfl,rfl⟩,⟨rfl,rfl⟩,True.intro⟩
theorem x4(la:List (Bool×Int))(regs par:Int)(cs:List In)(hla:la.length<1000000)(hcs:cs.length<1000000)(harg:∀x ∈ cs,0<=x.2.2.2.2/\x.2.2.2.2<4294967296)(hc0:(fy la regs par cs).2≠0)(nx:Nat->List Nat):
  bR Try.prog 11 [aP la.length (aC la) regs par cs] [.v (.fs 1 0 (gC nx)),.v (.n .i64 (fy la regs par cs).2)]:=by
 refine fS (rs:=[.o 39 1 0 0 (gC nx),.v (.n .i64 (fy la regs par cs).2)]) ?_ (by rfl)
 have hck:=j9 la regs par cs hla hcs harg
 refine aK bf Ci ⟨by simp,by decide⟩ ?_
 simp only[bI,aP]
 repeat first|with_reducible refine aw ?_|simp only[go_sem,simprocAttr]
 refine sC hck ?_
 repeat first|with_reducible refine aw ?_|simp only[hc0,decide_true,decide_false,go_sem,simprocAttr]
 exact⟨[_,_],rfl,dS.o0 rfl (dS.v rfl rfl .nil)⟩
def Cm(L:Nat->List Nat):Nat->Nat
 |0=>0
 |n+1=>max (Cm L n) (L n).length
theorem oA(na:Nat)(ra:Nat->Nat->AV)(regs par:Int)(cs:List In)(L:Nat->List Nat)(n:Nat)(hn:n<=20000)(e:Int)(hL:∀i,(L i).length<=100000)(hlive:bR Try.prog 11 [aP na ra regs par cs] [.v (.fs 1 n (gC L)),.v (.n .i64 e)]):
  bR Try.prog 13 [aP na ra regs par cs] [.v (.n .i64 (Cm L n)),.v (.n .i64 e)]:=by
 have hadd:∀j:Nat,j<100000->IntKind.wrap .i64 ((j:Int)+1)=((j+1:Nat):Int):=λj hj=>by rw[aU (by omega)];omega
 simp only[aP] at hlive
 refine aK bf Ma ⟨by simp,by decide⟩ ?_
 simp only[bI,aP]
 repeat first|with_reducible refine aw ?_|simp only[go_sem,simprocAttr]
 refine sC hlive ?_
 repeat first|with_reducible refine aw ?_|simp only[go_sem,simprocAttr]
 refine GA.loop (I:=λmm e' H=>∃(i:Nat),mm=n-i/\i<=n/\e'=aE [(6,.n .i64 (Cm L i)),(5,.n .i64 e),(14,.fs 1 n (gC L)),(15,.n .i64 n),(16,.n .i64 i)]/\H=aN []) (Wk.mk [] [] ?_ ?_ ?_) ⟨0,rfl,Nat.zero_le _,rfl,rfl⟩ ?_
 ·simp only[bk,bh,go_sem,simprocAttr]
  repeat' refine ab ?_ ?_
  all_goals first|exact bu|skip
 ·exact .nil
 ·simp
 rintro mm e' H ⟨i,rfl,hi,rfl,rfl⟩
 repeat first|with_reducible refine aw ?_|simp only[go_sem,simprocAttr]
 refine⟨λh=>?_,λh=>?_⟩
 ·have hil:i<n:=by omega
  have hi0:(0:Int)<=(i:Int):=by omega
  have ha:=hadd i (by omega)
  have hgC:gC L i 0= .fs 1 (L i).length (λj _=> .n .i64 (((L i).getD j 0:Nat):Int)):=rfl
  have hmx:(if(Cm L i:Int)<((L i).length:Int) then((L i).length:Int) else(Cm L i:Int))=((Cm L (i+1):Nat):Int):=by
   show _=((max (Cm L i) (L i).length:Nat):Int)
   split<;>omega
  repeat first|with_reducible refine aw ?_|simp only[hi0,h,hgC,decide_true,ha,hmx,go_sem,simprocAttr]
  refine⟨_,_,_,?_,Wk.mk [] [] ?_ ?_ ?_,i+1,rfl,by omega,rfl,rfl⟩
  ·omega
  ·simp only[bk,bh,go_sem,simprocAttr]
   repeat' refine ab ?_ ?_
   all_goals first|exact bu|skip
  ·exact .nil
  ·simp
 ·have hk:i=n:=by omega
  subst hk
  repeat first|with_reducible refine aw ?_|simp only[go_sem,simprocAttr]
  exact⟨[_,_],rfl,⟨rfl,rfl⟩,⟨rfl,rfl⟩,True.intro⟩
def b8(x:In):List Int:=aA x.1 x.2.2.1 x.2.2.2.1++[a8 x.1 x.2.1]
def dm(cs:List In)(r:Int):Bool:=cs.any λx=>(b8 x).contains r
def bL(cs:List In)(R:Nat):List Nat:=(List.range R).filter λr:Nat=>dm cs (r:Int)
def pq(s:List Int)(r:Int):List Int:=if 0<=r then gW s r else s
def ff(s l:List Int):List Int:=l.foldl pq s
def mJ(cs:List In):Nat->List Int
 |0=>[]
 |k+1=>ff (mJ cs k) (b8 (cs.getD k (0,0,0,0,0)))
theorem zN{s:List Int}{k r:Int}:r ∈ pq s k↔r ∈ s\/(r=k/\0<=k):=by
 unfold pq
 split
 ·rename_i h;rw[dc];simp[h]
 ·rename_i h;simp[h]
theorem tc{s:List Int}(h:s.Nodup)(k:Int):(pq s k).Nodup:=by
 unfold pq;split
 ·exact iY h k
 ·exact h
theorem mH:∀(l s:List Int) (r:Int),r ∈ ff s l↔r ∈ s\/(r ∈ l/\0<=r)
 |[],s,r=>by simp[ff]
 |k::l,s,r=>by
  show r ∈ ff (pq s k) l↔_
  rw[mH l,zN,List.mem_cons]
  constructor
  ·rintro ((h|⟨rfl,h⟩)|⟨h1,h2⟩)
   ·exact .inl h
   ·exact .inr ⟨.inl rfl,h⟩
   ·exact .inr ⟨.inr h1,h2⟩
  ·rintro (h|⟨rfl|h1,h2⟩)
   ·exact .inl (.inl h)
   ·exact .inl (.inr ⟨rfl,h2⟩)
   ·exact .inr ⟨h1,h2⟩
theorem jG:∀(l:List Int) {s:List Int},s.Nodup->(ff s l).Nodup
 |[],s,h=>h
 |k::l,s,h=>jG l (tc h k)
theorem rl{s l:List Int}{j:Nat}(h:j<l.length):ff s (l.take (j+1))=pq (ff s (l.take j)) (l.getD j 0):=by
 rw[List.take_add_one,List.getElem?_eq_getElem h]
 unfold ff
 rw[List.foldl_append]
 simp[List.getD,h]
theorem mI(cs:List In):∀k,(mJ cs k).Nodup
 |0=>List.nodup_nil
 |k+1=>jG _ (mI cs k)
theorem jH(cs:List In):∀k,k<=cs.length->∀r,r ∈ mJ cs k↔0<=r/\∃i,i<k/\r ∈ b8 (cs.getD i (0,0,0,0,0))
 |0,_,r=>by simp[mJ]
 |k+1,h,r=>by
  unfold mJ
  rw[mH,jH cs k (by omega)]
  constructor
  ·rintro (⟨h0,i,hi,h1⟩|⟨h1,h0⟩)
   ·exact⟨h0,i,by omega,h1⟩
   ·exact⟨h0,k,by omega,h1⟩
  ·rintro ⟨h0,i,hi,h1⟩
   by_cases e:i=k
   ·subst e;exact .inr ⟨h1,h0⟩
   ·exact .inl ⟨h0,i,by omega,h1⟩
theorem ji{cs:List In}{r:Int}:dm cs r=true↔∃i,i<cs.length/\r ∈ b8 (cs.getD i (0,0,0,0,0)):=by
 unfold dm
 rw[List.any_eq_true]
 constructor
 ·rintro ⟨x,hx,h⟩
  obtain⟨i,hi,rfl⟩:=List.mem_iff_getElem.1 hx
  refine⟨i,hi,?_⟩
  rw[List.getD_eq_getElem?_getD,List.getElem?_eq_getElem hi]
  simpa using h
 ·rintro ⟨i,hi,h⟩
  refine⟨cs[i],List.getElem_mem hi,?_⟩
  rw[List.getD_eq_getElem?_getD,List.getElem?_eq_getElem hi] at h
  simpa using h
theorem gy{cs:List In}{R r:Nat}:r ∈ bL cs R↔r<R/\dm cs (r:Int)=true:=by
 unfold bL;rw[List.mem_filter,List.mem_range]
theorem cM(cs:List In)(R:Nat):(bL cs R).Pairwise (· < ·):=List.Pairwise.filter _ List.pairwise_lt_range
theorem qi(cs:List In)(R:Nat):(bL cs R).length<=R:=by
 have:=List.length_filter_le (λr:Nat=>dm cs (r:Int)) (List.range R)
 rw[List.length_range] at this
 exact this
theorem uP{cs:List In}{R:Nat}{zs:List Int}(hm:∀k,k ∈ zs↔0<=k/\dm cs k=true)(hp:zs.Pairwise (· < ·))(hr:∀k,dm cs k=true->k<(R:Int)):zs=(bL cs R).map (λn:Nat=>(n:Int)):=by
 refine kj hp (List.pairwise_map.2 ((cM cs R).imp λh=>by omega)) (λk=>?_)
 rw[hm,List.mem_map]
 constructor
 ·rintro ⟨h0,h⟩
  have:=hr k h
  exact⟨k.toNat,gy.2 ⟨by omega,by rwa [Int.toNat_of_nonneg h0]⟩,Int.toNat_of_nonneg h0⟩
 ·rintro ⟨n,h,rfl⟩
  exact⟨by omega,(gy.1 h).2⟩
theorem jM(x:In):(b8 x).length=(aA x.1 x.2.2.1 x.2.2.2.1).length+1:=by unfold b8;simp
theorem ux(x:In){ty i j:Nat}(hm:(aA x.1 x.2.2.1 x.2.2.2.1).length<1000000)(hi:i<(aA x.1 x.2.2.1 x.2.2.2.1).length+1)(hj:j<1):
  ((aH ty 1 (aA x.1 x.2.2.1 x.2.2.2.1).length 0 (iC .i64 (aA x.1 x.2.2.1 x.2.2.2.1))).app (aA x.1 x.2.2.1 x.2.2.2.1).length (.li [.n .i64 (a8 x.1 x.2.1)])).get (i*1+j)=iC .i64 (b8 x) i j:=by
 obtain rfl:j=0:=by omega
 rw[Nat.mul_one,Nat.add_zero,db _ _ _ hm _ hi]
 unfold b8 iC
 by_cases e:i<(aA x.1 x.2.2.1 x.2.2.2.1).length
 ·rw[if_pos e]
  have:=aL (ty:=ty) (n:=(aA x.1 x.2.2.1 x.2.2.2.1).length) (z:=0) (row:=iC .i64 (aA x.1 x.2.2.1 x.2.2.2.1)) i 0 (by decide:0<1)
  rw[Nat.mul_one,Nat.add_zero] at this
  rw[show(λi _j=>AV.n .i64 ((aA x.1 x.2.2.1 x.2.2.2.1).getD i 0))=iC .i64 (aA x.1 x.2.2.1 x.2.2.2.1) from rfl,this]
  unfold iC
  rw[List.getD_eq_getElem?_getD,List.getD_eq_getElem?_getD,List.getElem?_append_left e]
 ·obtain rfl:i=(aA x.1 x.2.2.1 x.2.2.2.1).length:=by omega
  rw[if_neg e,List.getD_eq_getElem?_getD,List.getElem?_append_right (Nat.le_refl _)]
  simp
theorem mV(cs:List In)(R:Nat)(hRs:R<=100000)(hn:cs.length<=16384)(hops:∀x ∈ cs,0<=x.1/\x.1<39)(hU:∀x ∈ cs,∀r ∈ b8 x,r<(R:Int))(hrl:∀x ∈ cs,(b8 x).length<=10):
  bR Try.prog 52 [.fs 5 cs.length (cC cs)] [.v (.fs 1 (bL cs R).length (λj _=> .n .i64 (((bL cs R).getD j 0:Nat):Int)))]:=by
 have hadd:∀j:Nat,j<100000->IntKind.wrap .i64 ((j:Int)+1)=((j+1:Nat):Int):=λj hj=>by rw[aU (by omega)];omega
 have hoc:∀k,dm cs k=true->k<(R:Int):=λk hk=>by
  obtain⟨i,hi,h⟩:=ji.1 hk
  exact hU _ (by rw[List.getD_eq_getElem?_getD,List.getElem?_eq_getElem hi];exact List.getElem_mem hi) k h
 refine aK bf PW ⟨by simp,by decide⟩ ?_
 simp only[bI]
 repeat first|with_reducible refine aw ?_|simp only[go_sem,simprocAttr]
 refine fR (λr hr=>?_)
 repeat first|with_reducible refine aw ?_|simp only[go_sem,simprocAttr]
 refine GA.loop (I:=λmm e H=>∃(k:Nat) (ob:Nat->Option OB),mm=cs.length-k/\k<=cs.length/\ob r=some (.mp (bO (mJ cs k)))/\e=aE [(3,.cv (.map (some r))),(11,.fs 5 cs.length (cC cs)),(12,.n .i64 cs.length),(13,.n .i64 k)]/\H=ba ob []) (Wk.mkS [] [] ?_ ?_ ?_) ⟨0,_,rfl,Nat.zero_le _,?_,rfl,rfl⟩ ?_
 ·simp only[bk,bh,go_sem,simprocAttr]
  repeat' refine ab ?_ ?_
  all_goals first|exact bu|skip
 ·exact .nil
 ·simp
 ·simp only[go_sem,simprocAttr]
  first|exact(aJ _ _ _).trans (by rw[fi];rfl)|exact congrArg (λz=>some (OB.mp z)) fi|(rw[fi];rfl)
 rintro mm e H ⟨k,ob,rfl,hk,hob,rfl,rfl⟩
 repeat first|with_reducible refine aw ?_|simp only[go_sem,simprocAttr]
 refine⟨λh=>?_,λh=>?_⟩
 ·have hkl:k<cs.length:=by omega
  have hk0:(0:Int)<=(k:Int):=by omega
  have ha:=hadd k (by omega)
  have hcc0:=ww cs k
  have hcc1:=CB cs k
  have hcc2:=CA cs k
  have hcc3:=Cz cs k
  have hcc4:=Cy cs k
  have hmem:cs.getD k (0,0,0,0,0) ∈ cs:=by rw[List.getD_eq_getElem?_getD,List.getElem?_eq_getElem hkl];exact List.getElem_mem hkl
  have hacc:mJ cs (k+1)=ff (mJ cs k) (b8 (cs.getD k (0,0,0,0,0))):=rfl
  have hop:=hops _ hmem
  have hrlk:=hrl _ hmem
  generalize hx:cs.getD k (0,0,0,0,0)=x at*
  obtain⟨op,to,a,b,arg⟩:=x
  have hu:=lq op to a b arg hop
  repeat first|with_reducible refine aw ?_|simp only[hk0,h,hcc0,hcc1,hcc2,hcc3,hcc4,decide_true,go_sem,simprocAttr]
  refine ao [] (.cons (.rfl (by rfl)) .nil) hu (by simp only[AH.mark_next,ah,ay,az,am,af,ag,List.length_cons,List.length_nil];decide) ?_
  rw[jM] at hrlk
  simp only at hrlk
  have hl1:(aA op a b).length+1<1099511627776:=by omega
  have hl2:((aA op a b).length+1)*8<=140737488355328:=by omega
  have hl3:(aA op a b).length<=9223372036854775806:=by omega
  repeat first|with_reducible refine aw ?_|simp only[hl1,hl2,hl3,go_sem,simprocAttr]
  have hlen:(b8 (op,to,a,b,arg)).length=(aA op a b).length+1:=jM _
  refine GA.loop (I:=λmm e H=>∃(j:Nat) (ob':Nat->Option OB),mm=(aA op a b).length+1-j/\j<=(aA op a b).length+1/\ob' r=some (.mp (bO (ff (mJ cs k) ((b8 (op,to,a,b,arg)).take j))))/\e=aE [(25,.fs 1 ((aA op a b).length+1) (iC .i64 (b8 (op,to,a,b,arg)))),(26,.n .i64 ((aA op a b).length+1:Nat)),(27,.n .i64 j),(3,.cv (.map (some r))),(11,.fs 5 cs.length (cC cs)),(12,.n .i64 cs.length),(13,.n .i64 k)]/\H=ba ob' []) (Wk.mkS [] [3] ?_ ?_ ?_) ⟨0,_,rfl,Nat.zero_le _,?_,rfl,rfl⟩ ?_
  ·simp only[bk,bh,go_sem,simprocAttr]
   repeat' refine ab ?_ ?_
   all_goals first|exact bu|skip
   exact .cv (.os (by simp) (by simp only[go_sem,simprocAttr];rfl) (by rw[app_size];simp only[cg.len,List.length_singleton];omega) (λi j hi hj=>ux (op,to,a,b,arg) (by simp only;omega) hi hj) (λi j _ _=>rfl))
  ·exact .nil
  ·simp
  ·(try simp only[bP,go_sem,simprocAttr]);exact hob
  ·rintro mm e H ⟨j,ob',rfl,hj,hob',rfl,rfl⟩
   repeat first|with_reducible refine aw ?_|simp only[go_sem,simprocAttr]
   refine⟨λh=>?_,λh=>?_⟩
   ·have hjl:j<(aA op a b).length+1:=by omega
    have hj0:(0:Int)<=(j:Int):=by omega
    have ha2:=hadd j (by omega)
    have htk:=rl (s:=mJ cs k) (l:=b8 (op,to,a,b,arg)) (j:=j) (by omega)
    have hic:iC .i64 (b8 (op,to,a,b,arg)) j 0= .n .i64 ((b8 (op,to,a,b,arg)).getD j 0):=rfl
    generalize hv:(b8 (op,to,a,b,arg)).getD j 0=v at*
    by_cases hv0:0<=v
    ·repeat first|with_reducible refine aw ?_|simp only[hj0,h,hic,decide_true,hv0,hob',go_sem,simprocAttr]
     refine⟨rfl,?_⟩
     repeat first|with_reducible refine aw ?_|simp only[ha2,go_sem,simprocAttr]
     refine⟨_,_,_,?_,Wk.mkS [] [] ?_ ?_ ?_,j+1,_,rfl,by omega,?_,rfl,rfl⟩
     ·omega
     ·simp only[bk,bh,go_sem,simprocAttr]
      repeat' refine ab ?_ ?_
      all_goals first|exact bu|skip
     ·exact .nil
     ·simp
     ·simp only[go_sem,simprocAttr]
      rw[i6,htk]
      unfold pq
      rw[if_pos hv0]
    ·repeat first|with_reducible refine aw ?_|simp only[hj0,h,hic,decide_true,decide_false,hv0,hob',ha2,go_sem,simprocAttr]
     refine⟨_,_,_,?_,Wk.mkS [] [] ?_ ?_ ?_,j+1,_,rfl,by omega,?_,rfl,rfl⟩
     ·omega
     ·simp only[bk,bh,go_sem,simprocAttr]
      repeat' refine ab ?_ ?_
      all_goals first|exact bu|skip
     ·exact .nil
     ·simp
     ·(try simp only[go_sem,simprocAttr])
      rw[htk]
      unfold pq
      rw[if_neg hv0]
      exact hob'
   ·have hjk:j=(aA op a b).length+1:=by omega
    subst hjk
    rw[List.take_of_length_le (by omega),<-hacc] at hob'
    repeat first|with_reducible refine aw ?_|simp only[ha,go_sem,simprocAttr]
    refine⟨_,_,_,?_,Wk.mkS [] [] ?_ ?_ ?_,k+1,_,rfl,by omega,?_,rfl,rfl⟩
    ·omega
    ·simp only[bk,bh,go_sem,simprocAttr]
     repeat' refine ab ?_ ?_
     all_goals first|exact bu|skip
    ·exact .nil
    ·simp
    ·(try simp only[go_sem,simprocAttr]);exact hob'
 ·have hkk:k=cs.length:=by omega
  subst hkk
  repeat first|with_reducible refine aw ?_|simp only[go_sem,simprocAttr]
  refine ao [] (.cons (.rfl (by rfl)) .nil) (qz _) (by simp only[af,List.length_cons,List.length_nil];decide) ?_
  repeat first|with_reducible refine aw ?_|simp only[go_sem,simprocAttr]
  refine bN [] (.cons (.rfl (by rfl)) .nil) (ly _) ⟨_,hob,?_,?_⟩ (by simp only[af,List.length_cons,List.length_nil];decide) ?_
  ·have:=gz (R:=R) (mI cs cs.length) (λr hr=>by
    obtain⟨h0,i,hi,h1⟩:=(jH cs _ (Nat.le_refl _) r).1 hr
    exact⟨h0,hoc r (ji.2 ⟨i,hi,h1⟩)⟩)
   rw[gu];omega
  ·intro q v hq
   rw[du] at hq
   split at hq
   ·rename_i hq'
    obtain⟨h0,i,hi,h1⟩:=(jH cs _ (Nat.le_refl _) q).1 hq'
    have:=hoc q (ji.2 ⟨i,hi,h1⟩)
    omega
   ·cases hq
  rintro rs N2 ⟨ss,hss,hpw,rfl,rfl⟩ hfree2
  have hsl:ss=(bL cs R).map (λn:Nat=>(n:Int)):=uP (λq=>by
   rw[hss _ hob q,du,ji,<-jH cs _ (Nat.le_refl _)]
   by_cases e:q ∈ mJ cs cs.length<;>simp[e]) hpw hoc
  subst hsl
  simp only[yy]
  repeat first|with_reducible refine aw ?_|simp only[go_sem,simprocAttr]
  exact⟨[_],rfl,⟨rfl,rfl⟩,True.intro⟩
def eg(P:Nat->Prop)(c:Nat):Prop:=¬P c/\∀c',c'<c->P c'
theorem eg.uniq{P:Nat->Prop}{c c':Nat}(h:eg P c)(h':eg P c'):c=c':=by
 rcases Nat.lt_trichotomy c c' with h1|h1|h1
 ·exact absurd (h'.2 c h1) h.1
 ·exact h1
 ·exact absurd (h.2 c' h1) h'.1
theorem eg.congr{P P':Nat->Prop}(hp:∀c,P c↔P' c){c:Nat}(h:eg P c):eg P' c:=⟨λhc=>h.1 ((hp c).2 hc),λc' hc'=>(hp c').1 (h.2 c' hc')⟩
structure rB(occ:Nat->Bool)(nb:Nat->Nat->Prop)(n:Nat)(K:Nat->Nat):Prop where
 yes:∀r,r<n->occ r=true->eg (λc=>∃s,s<r/\occ s=true/\nb r s/\K s=c) (K r)
 no:∀r,r<n->occ r=false->K r=0
theorem rB.uniq{occ:Nat->Bool}{nb nb':Nat->Nat->Prop}{n:Nat}{K K':Nat->Nat}(h:rB occ nb n K)(h':rB occ nb' n K')(hnb:∀r s,nb r s↔nb' r s):∀r,r<n->K r=K' r:=by
 intro r
 induction r using Nat.strongRecOn with
 |_ r ih=>
  intro hr
  cases ho:occ r with
  |false=>rw[h.no r hr ho,h'.no r hr ho]
  |true=>
   refine(h.yes r hr ho).uniq ((h'.yes r hr ho).congr (λc=>?_))
   constructor
   ·rintro ⟨s,h1,h2,h3,h4⟩
    exact⟨s,h1,h2,(hnb r s).2 h3,by rw[ih s h1 (by omega)];exact h4⟩
   ·rintro ⟨s,h1,h2,h3,h4⟩
    exact⟨s,h1,h2,(hnb r s).1 h3,by rw[<-ih s h1 (by omega)];exact h4⟩
theorem eg.le{P:Nat->Prop}{c m:Nat}(h:eg P c){l:List Nat}(hP:∀x,P x->x ∈ l)(hl:l.length<=m):c<=m:=by
 have h1:(List.range c).length<=l.length:=fI List.nodup_range (λx hx=>hP x (h.2 x (List.mem_range.1 hx)))
 rw[List.length_range] at h1
 omega
theorem rB.le{occ:Nat->Bool}{nb:Nat->Nat->Prop}{n:Nat}{K:Nat->Nat}(h:rB occ nb n K):∀r,r<n->K r<=r:=by
 intro r hr
 cases ho:occ r with
 |false=>rw[h.no r hr ho];omega
 |true=>exact(h.yes r hr ho).le (l:=(List.range r).map K) (λx ⟨s,h1,_,_,h4⟩=>List.mem_map.2 ⟨s,List.mem_range.2 h1,h4⟩) (by simp)
def cK(K:Nat->Nat)(l:List Nat):Nat->Nat
 |0=>0
 |k+1=>max (cK K l k) (K (l.getD k 0)+1)
def mO(l:List Nat):Nat->Int->Option Int
 |0=>λ_=>none
 |k+1=>λq=>if q=((l.getD k 0:Nat):Int) then some (k:Int) else mO l k q
theorem lM{l:List Nat}:∀{k:Nat} {q v:Int},mO l k q=some v->∃i,i<k/\q=((l.getD i 0:Nat):Int)/\v=(i:Int)
 |0,q,v,h=>by cases h
 |k+1,q,v,h=>by
  unfold mO at h
  split at h
  ·cases h;exact⟨k,by omega,by assumption,rfl⟩
  ·obtain⟨i,h1,h2⟩:=lM h;exact⟨i,by omega,h2⟩
theorem AZ{l:List Nat}(h:l.Pairwise (· < ·)){k:Nat}(hk:k<l.length):mO l k ((l.getD k 0:Nat):Int)=none:=by
 cases hx:mO l k ((l.getD k 0:Nat):Int) with
 |none=>rfl
 |some v=>
  obtain⟨i,h1,h2,_⟩:=lM hx
  rw[List.pairwise_iff_getElem] at h
  have:=h i k (by omega) hk h1
  rw[List.getD_eq_getElem?_getD,List.getD_eq_getElem?_getD,List.getElem?_eq_getElem hk,List.getElem?_eq_getElem (show i<l.length by omega)] at h2
  simp only[Option.getD_some] at h2
  omega
theorem Ay{x:dl}{l:List Nat}(h:l.Pairwise (· < ·)){k:Nat}(hk:k<l.length)(hg:x.get=fu (mO l k))(hc:x.cnt=k):
  (x.put ((l.getD k 0:Nat):Int) (.n .i64 (k:Int))).get=fu (mO l (k+1))/\(x.put ((l.getD k 0:Nat):Int) (.n .i64 (k:Int))).cnt=k+1:=by
 have h0:x.get ((l.getD k 0:Nat):Int)=none:=by rw[hg];show((mO l k _).map _)=none;rw[AZ h hk];rfl
 refine⟨?_,?_⟩
 ·funext q
  show(if q=_ then _ else x.get q)=((mO l (k+1) q).map (.n .i64 ·))
  unfold mO
  by_cases e:q=((l.getD k 0:Nat):Int)
  ·rw[if_pos e,if_pos e];rfl
  ·rw[if_neg e,if_neg e,hg]
 ·show(if(x.get _).isSome=true then x.cnt else x.cnt+1)=k+1
  rw[h0,if_neg (by simp),hc]
theorem sO(la:List (Bool×Int))(regs par:Int)(cs:List In)(x:AV)(hla:la.length<1000000)(hcs:cs.length<=16384)(l:List Nat)(hl:l.Pairwise (· < ·))(hll:l.length<=100000)
  (hc:bR Try.prog 27 [aP la.length (aC la) regs par cs] [.v x,.v (.n .i64 0)])
  (ho:bR Try.prog 52 [.fs 5 cs.length (cC cs)] [.v (.fs 1 l.length (λj _=> .n .i64 ((l.getD j 0:Nat):Int)))]):
  bR Try.prog 20 [aP la.length (aC la) regs par cs] [.v (aP la.length (aC la) l.length par (cs.map (eM (mO l l.length)))),.v (.n .i64 0)]:=by
 have hadd:∀j:Nat,j<100000->IntKind.wrap .i64 ((j:Int)+1)=((j+1:Nat):Int):=λj hj=>by rw[aU (by omega)];omega
 refine aK bf N4 ⟨by simp,by decide⟩ ?_
 simp only[bI,aP] at hc ⊢
 repeat first|with_reducible refine aw ?_|simp only[go_sem,simprocAttr]
 refine sC hc ?_
 repeat first|with_reducible refine aw ?_|simp only[go_sem,simprocAttr]
 refine fR (λr hr=>?_)
 repeat first|with_reducible refine aw ?_|simp only[go_sem,simprocAttr]
 refine ao [] (.cons (.rfl (by rfl)) .nil) ho (by simp only[AH.mark_next,ah,ay,az,am,ai,ag,List.length_cons,List.length_nil];decide) ?_
 repeat first|with_reducible refine aw ?_|simp only[go_sem,simprocAttr]
 refine GA.loop (I:=λmm e H=>∃(k:Nat) (ob:Nat->Option OB) (x:dl),mm=l.length-k/\k<=l.length/\ob r=some (.mp x)/\x.own=true/\x.get=fu (mO l k)/\x.cnt=k/\
   e=aE [(1,.p 0 0),(2,.p 1 0),(6,.cv (.map (some r))),(21,.fs 1 l.length (λj _=> .n .i64 ((l.getD j 0:Nat):Int))),(22,.n .i64 l.length),(23,.n .i64 k)]/\
   H=ba ob [bg 0 25 [.sl0,.n .i64 0,.n .i64 0,.sl0],bg 0 25 [.fs 2 la.length (aC la),.n .i64 regs,.n .i64 par,.fs 5 cs.length (cC cs)]]) (Wk.mkS [1,0] [] ?_ ?_ ?_) ⟨0,_,⟨true,λ_=>none,0,none⟩,rfl,Nat.zero_le _,?_,rfl,rfl,rfl,rfl,rfl⟩ ?_
 ·simp only[bk,bh,go_sem,simprocAttr]
  repeat' refine ab ?_ ?_
  all_goals first|exact bu|skip
 ·exact .cons rfl .ls (.cons rfl .ls .nil)
 ·simp
 ·simp only[go_sem,simprocAttr]
 rintro mm e H ⟨k,ob,mx,rfl,hk,hob,hown,hget,hcnt,rfl,rfl⟩
 repeat first|with_reducible refine aw ?_|simp only[go_sem,simprocAttr]
 refine⟨λh=>?_,λh=>?_⟩
 ·have hkl:k<l.length:=by omega
  have hk0:(0:Int)<=(k:Int):=by omega
  have ha:=hadd k (by omega)
  obtain⟨hp1,hp2⟩:=Ay hl hkl hget hcnt
  repeat first|with_reducible refine aw ?_|simp only[hk0,h,decide_true,hob,hown,ha,go_sem,simprocAttr]
  refine⟨_,_,_,?_,Wk.mkS [1,0] [] ?_ ?_ ?_,k+1,_,mx.put ((l.getD k 0:Nat):Int) (.n .i64 (k:Int)),rfl,by omega,?_,hown,hp1,hp2,rfl,rfl⟩
  ·omega
  ·simp only[bk,bh,go_sem,simprocAttr]
   repeat' refine ab ?_ ?_
   all_goals first|exact bu|skip
  ·exact .cons rfl .ls (.cons rfl .ls .nil)
  ·simp
  ·simp only[go_sem,simprocAttr]
 ·have hkk:k=l.length:=by omega
  subst hkk
  repeat first|with_reducible refine aw ?_|simp only[hob,hcnt,go_sem,simprocAttr]
  refine bN [] (.cons (.rfl (by rfl)) (.cons (.rfl (by rfl)) (.cons (.rfl (by rfl)) .nil))) (kn r (mO l l.length) hla fX (by omega)) ⟨mx,hob,hget⟩ (by simp only[AH.mark_next,ah,ay,az,am,af,ag,List.length_cons,List.length_nil];decide) ?_
  rintro rs N ⟨rfl,rfl⟩ hfree
  simp only[aP]
  repeat first|with_reducible refine aw ?_|simp only[go_sem,simprocAttr]
  exact⟨[_,_],rfl,dS.v rfl rfl (dS.v rfl rfl .nil)⟩
def F6{α:Type}(T:Int->α)(p:Int)(x:α):Int->α:=λk=>if k=p then x else T k
theorem bT{α:Type}(T:Int->α)(p:Int)(x:α):F6 T p x p=x:=if_pos rfl
theorem eA{α:Type}(T:Int->α){p k:Int}(x:α)(h:k≠p):F6 T p x k=T k:=if_neg h
def kO(T:Int->List Int)(p q:Int):Int->List Int:=F6 T p (gW (T p) q)
def jl(T:Int->List Int)(a b:Int):Int->List Int:=kO (kO T a b) b a
structure gk(r0:Nat)(pa:Int->Option Nat)(T:Int->List Int)(ob:Nat->Option OB):Prop where
 out:∃mo:dl,ob r0=some (.mp mo)/\mo.own=true/\mo.get=λk=>(pa k).map λa=> .cv (.map (some a))
 at_:∀k a,pa k=some a->ob a=some (.mp (bO (T k)))
 non:∀k,pa k=none->T k=[]
 inj:∀k k' a,pa k=some a->pa k'=some a->k=k'
 ne:∀k a,pa k=some a->a≠r0
theorem gk.made{r0:Nat}{pa:Int->Option Nat}{T:Int->List Int}{ob:Nat->Option OB}(h:gk r0 pa T ob){p:Int}(hp:pa p=none){t:Nat}(ht:ob t=none){mo:dl}(hmo:ob r0=some (.mp mo))(ho:mo.own=true)(hg:mo.get=λk=>(pa k).map λa=> .cv (.map (some a))):
  gk r0 (F6 pa p (some t)) T (bp (gj (bp ob t (.mp ⟨true,λ_=>none,0,none⟩))) r0 (.mp (mo.put p (.cv (.map (some t)))))):=by
 have htr:t≠r0:=λe=>by rw[e,hmo] at ht;cases ht
 have hta:∀k a,pa k=some a->a≠t:=λk a hk e=>by have:=h.at_ k a hk;rw[e,ht] at this;cases this
 refine⟨⟨_,aJ _ _ _,ho,?_⟩,λk a hk=>?_,λk hk=>?_,λk k' a hk hk'=>?_,λk a hk=>?_⟩
 ·funext q
  show(if q=p then some _ else mo.get q)=(F6 pa p (some t) q).map _
  unfold F6
  by_cases e:q=p
  ·rw[if_pos e,if_pos e];rfl
  ·rw[if_neg e,if_neg e,hg]
 ·by_cases e:k=p
  ·subst e
   rw[bT] at hk
   cases hk
   rw[aW _ _ htr,dR (aJ _ _ _),h.non k hp,fi]
  ·rw[eA _ _ e] at hk
   rw[aW _ _ (h.ne k a hk)]
   refine dR ?_
   rw[aW _ _ (hta k a hk)]
   exact h.at_ k a hk
 ·by_cases e:k=p
  ·subst e;rw[bT] at hk;cases hk
  ·rw[eA _ _ e] at hk;exact h.non k hk
 ·by_cases e:k=p
  ·subst e
   rw[bT] at hk
   cases hk
   by_cases e':k'=k
   ·exact e'.symm
   ·rw[eA _ _ e'] at hk'
    exact absurd rfl (hta k' t hk')
  ·rw[eA _ _ e] at hk
   by_cases e':k'=p
   ·subst e'
    rw[bT] at hk'
    cases hk'
    exact absurd rfl (hta k t hk)
   ·rw[eA _ _ e'] at hk'
    exact h.inj k k' a hk hk'
 ·by_cases e:k=p
  ·subst e;rw[bT] at hk;cases hk;exact htr
  ·rw[eA _ _ e] at hk;exact h.ne k a hk
theorem gk.put{r0:Nat}{pa:Int->Option Nat}{T:Int->List Int}{ob:Nat->Option OB}(h:gk r0 pa T ob){p q:Int}{a:Nat}(hp:pa p=some a):
  gk r0 pa (kO T p q) (bp (gj ob) a (.mp ((bO (T p)).put q (.b true)))):=by
 obtain⟨mo,h1,h2,h3⟩:=h.out
 refine⟨⟨mo,?_,h2,h3⟩,λk a' hk=>?_,λk hk=>?_,h.inj,h.ne⟩
 ·rw[aW _ _ (Ne.symm (h.ne p a hp))];exact dR h1
 ·by_cases e:k=p
  ·subst e
   rw[hp] at hk
   cases hk
   rw[aJ,i6]
   unfold kO
   rw[bT]
  ·rw[aW _ _ (λe'=>e (h.inj k p a (by rw[hk,e']) hp)),dR (h.at_ k a' hk)]
   unfold kO
   rw[eA _ _ e]
 ·have e:k≠p:=λe=>by rw[e,hp] at hk;cases hk
  unfold kO
  rw[eA _ _ e];exact h.non k hk
theorem uh(x:OB):x.clr.clr=x.clr:=by cases x<;>rfl
structure kQ(r0:Nat)(pa0:Int->Option Nat)(ob0:Nat->Option OB)(pa:Int->Option Nat)(T:Int->List Int)(ob:Nat->Option OB):Prop where
 io:gk r0 pa T ob
 keep:∀r x,ob0 r=some x->r≠r0->(∀k,pa0 k≠some r)->∃y,ob r=some y/\y.clr=x.clr
 new:∀k a,pa k=some a->pa0 k=some a\/ob0 a=none
 old:∀r x,ob0 r=some x->∃y,ob r=some y
theorem kQ.refl{r0:Nat}{pa:Int->Option Nat}{T:Int->List Int}{ob:Nat->Option OB}(h:gk r0 pa T ob):kQ r0 pa ob pa T ob:=⟨h,λr x hx _ _=>⟨x,hx,rfl⟩,λk a hk=> .inl hk,λr x hx=>⟨x,hx⟩⟩
theorem kQ.put{r0:Nat}{pa0:Int->Option Nat}{ob0:Nat->Option OB}{pa:Int->Option Nat}{T:Int->List Int}{ob:Nat->Option OB}(h:kQ r0 pa0 ob0 pa T ob){p q:Int}{a:Nat}(hp:pa p=some a):
  kQ r0 pa0 ob0 pa (kO T p q) (bp (gj ob) a (.mp ((bO (T p)).put q (.b true)))):=by
 refine⟨h.io.put hp,λr x hx hr hk=>?_,h.new,λr x hx=>?_⟩
 rotate_left
 ·obtain⟨y,hy⟩:=h.old r x hx
  by_cases e:r=a
  ·rw[e,aJ];exact⟨_,rfl⟩
  ·rw[aW _ _ e];unfold gj;rw[hy];exact⟨_,rfl⟩
 obtain⟨y,hy,hc⟩:=h.keep r x hx hr hk
 have hra:r≠a:=λe=>by
  rcases h.new p a hp with h1|h1
  ·exact hk p (by rw[h1,e])
  ·rw[<-e,hx] at h1;cases h1
 refine⟨y.clr,?_,by rw[uh,hc]⟩
 rw[aW _ _ hra]
 unfold gj
 rw[hy];rfl
theorem kQ.made{r0:Nat}{pa0:Int->Option Nat}{ob0:Nat->Option OB}{pa:Int->Option Nat}{T:Int->List Int}{ob:Nat->Option OB}(h:kQ r0 pa0 ob0 pa T ob){p:Int}(hp:pa p=none){t:Nat}(ht:ob t=none){mo:dl}(hmo:ob r0=some (.mp mo))(ho:mo.own=true)(hg:mo.get=λk=>(pa k).map λa=> .cv (.map (some a))):
  kQ r0 pa0 ob0 (F6 pa p (some t)) T (bp (gj (bp ob t (.mp ⟨true,λ_=>none,0,none⟩))) r0 (.mp (mo.put p (.cv (.map (some t)))))):=by
 refine⟨h.io.made hp ht hmo ho hg,λr x hx hr hk=>?_,λk a hk=>?_,λr x hx=>?_⟩
 rotate_right
 ·obtain⟨y,hy⟩:=h.old r x hx
  by_cases e:r=r0
  ·rw[e,aJ];exact⟨_,rfl⟩
  ·rw[aW _ _ e];unfold gj;rw[aW _ _ (iE hy ht),hy];exact⟨_,rfl⟩
 ·obtain⟨y,hy,hc⟩:=h.keep r x hx hr hk
  refine⟨y.clr,?_,by rw[uh,hc]⟩
  rw[aW _ _ hr]
  unfold gj
  rw[aW _ _ (iE hy ht),hy];rfl
 ·by_cases e:k=p
  ·subst e
   rw[bT] at hk
   cases hk
   refine .inr ?_
   cases hx:ob0 t with
   |none=>rfl
   |some x=>
    obtain⟨y,hy⟩:=h.old t x hx
    rw[ht] at hy;cases hy
  ·rw[eA _ _ e] at hk;exact h.new k a hk
theorem js{mo:dl}{pa:Int->Option Nat}(h:mo.get=λk=>(pa k).map λa=> .cv (.map (some a)))(p:Int):mo.look false (.cv (.map none)) p= .cv (.map (pa p)):=by
 unfold dl.look
 have:mo.get p=(pa p).map λa=> .cv (.map (some a)):=by rw[h]
 rw[this]
 cases pa p<;>rfl
def OV(T:Int->List Int)(a b:Int)(i:Nat):Int->List Int:=if i=0 then T else if i=1 then kO T a b else jl T a b
theorem qo(r0:Nat)(pa:Int->Option Nat)(T:Int->List Int)(a b:Int)(H:AH)(hH:gk r0 pa T H.ob)(hnx:H.next<1000):
  oh Try.prog 94 [.n .i64 a,.n .i64 b,.fp 1 (λ_=> .cv (.map (some r0))) 0] H (λv H'=>H'.next<10/\∃pa',kQ r0 pa H.ob pa' (jl T a b) H'.ob):=by
 refine xj bf Nz (by simp) ?_
 refine GA.wk (Wk.arg _ _ _ (by simp)) ?_
 simp only[bI]
 refine GA.wk (Wk.mkS (L:=[(0,.n .i64 a),(1,.n .i64 b),(2,.fp 1 (λ_=> .cv (.map (some r0))) 0)]) (bl:=[]) [] [] ?_ ?_ ?_) ?_
 ·simp only[bk,bh,go_sem,simprocAttr]
  repeat' refine ab ?_ ?_
  all_goals first|exact bu|skip
 ·exact .nil
 ·simp
 generalize hob0:H.ob=ob0 at hH ⊢
 repeat first|with_reducible refine aw ?_|simp only[go_sem,simprocAttr]
 refine GA.loop (I:=λmm e H=>∃(i:Nat) (pa1:Int->Option Nat) (ob1:Nat->Option OB),mm=2-i/\i<=2/\kQ r0 pa ob0 pa1 (OV T a b i) ob1/\e=aE [(2,.fp 1 (λ_=> .cv (.map (some r0))) 0),(13,.sl 0 0 2 2),(14,.n .i64 2),(15,.n .i64 i)]/\H=ba ob1 [bg 2 142 [.n .i64 a,.n .i64 b,.n .i64 b,.n .i64 a]]) (Wk.mkS [0] [] ?_ ?_ ?_) ⟨0,pa,ob0,rfl,by omega,.refl hH,rfl,rfl⟩ ?_
 ·simp only[bk,bh,go_sem,simprocAttr]
  repeat' refine ab ?_ ?_
  all_goals first|exact bu|skip
 ·exact .cons rfl .ls .nil
 ·simp
 rintro mm e H1 ⟨i,pa1,ob1,rfl,hi,hst,rfl,rfl⟩
 obtain⟨mo,hmo,hown,hget⟩:=hst.io.out
 obtain rfl|rfl|rfl:i=0\/i=1\/i=2:=by omega
 ·have hlk:=js hget a
  cases hp:pa1 a with
  |none=>
   rw[hp] at hlk
   repeat first|with_reducible refine aw ?_|simp only[hmo,hlk,decide_true,go_sem,simprocAttr]
   refine fR (λt ht=>?_)
   have ht:ob1 t=none:=ht
   have hst2:=hst.made hp ht hmo hown hget
   have hmo1:bp ob1 t (.mp ⟨true,λ_=>none,0,none⟩) r0=some (.mp mo):=by rw[aW _ _ (iE hmo ht)];exact hmo
   obtain⟨mo2,e1,e2,e3⟩:=hst2.io.out
   rw[aJ] at e1
   cases e1
   have hlk2:(mo.put a (.cv (.map (some t)))).look false (.cv (.map none)) a= .cv (.map (some t)):=(js e3 a).trans (by rw[bT])
   have hat2:=hst2.io.at_ a t (bT _ _ _)
   repeat first|with_reducible refine aw ?_|simp only[hmo1,hown,hlk2,hat2,go_sem,simprocAttr]
   refine⟨rfl,?_⟩
   repeat first|with_reducible refine aw ?_|simp only[go_sem,simprocAttr]
   refine⟨_,_,_,?_,Wk.mkS [0] [] ?_ ?_ ?_,1,_,_,rfl,by omega,hst2.put (q:=b) (bT _ _ _),rfl,rfl⟩
   ·decide
   ·simp only[bk,bh,go_sem,simprocAttr]
    repeat' refine ab ?_ ?_
    all_goals first|exact bu|skip
   ·exact .cons rfl .ls .nil
   ·simp
  |some ap=>
   rw[hp] at hlk
   have hat:=hst.io.at_ a ap hp
   repeat first|with_reducible refine aw ?_|simp only[hmo,hlk,hat,decide_true,go_sem,simprocAttr]
   refine⟨rfl,?_⟩
   repeat first|with_reducible refine aw ?_|simp only[go_sem,simprocAttr]
   refine⟨_,_,_,?_,Wk.mkS [0] [] ?_ ?_ ?_,1,_,_,rfl,by omega,hst.put (q:=b) hp,rfl,rfl⟩
   ·decide
   ·simp only[bk,bh,go_sem,simprocAttr]
    repeat' refine ab ?_ ?_
    all_goals first|exact bu|skip
   ·exact .cons rfl .ls .nil
   ·simp
 ·have hlk:=js hget b
  cases hp:pa1 b with
  |none=>
   rw[hp] at hlk
   repeat first|with_reducible refine aw ?_|simp only[hmo,hlk,decide_true,go_sem,simprocAttr]
   refine fR (λt ht=>?_)
   have ht:ob1 t=none:=ht
   have hst2:=hst.made hp ht hmo hown hget
   have hmo1:bp ob1 t (.mp ⟨true,λ_=>none,0,none⟩) r0=some (.mp mo):=by rw[aW _ _ (iE hmo ht)];exact hmo
   obtain⟨mo2,e1,e2,e3⟩:=hst2.io.out
   rw[aJ] at e1
   cases e1
   have hlk2:(mo.put b (.cv (.map (some t)))).look false (.cv (.map none)) b= .cv (.map (some t)):=(js e3 b).trans (by rw[bT])
   have hat2:=hst2.io.at_ b t (bT _ _ _)
   repeat first|with_reducible refine aw ?_|simp only[hmo1,hown,hlk2,hat2,go_sem,simprocAttr]
   refine⟨rfl,?_⟩
   repeat first|with_reducible refine aw ?_|simp only[go_sem,simprocAttr]
   refine⟨_,_,_,?_,Wk.mkS [0] [] ?_ ?_ ?_,2,_,_,rfl,by omega,hst2.put (q:=a) (bT _ _ _),rfl,rfl⟩
   ·decide
   ·simp only[bk,bh,go_sem,simprocAttr]
    repeat' refine ab ?_ ?_
    all_goals first|exact bu|skip
   ·exact .cons rfl .ls .nil
   ·simp
  |some ap=>
   rw[hp] at hlk
   have hat:=hst.io.at_ b ap hp
   repeat first|with_reducible refine aw ?_|simp only[hmo,hlk,hat,decide_true,go_sem,simprocAttr]
   refine⟨rfl,?_⟩
   repeat first|with_reducible refine aw ?_|simp only[go_sem,simprocAttr]
   refine⟨_,_,_,?_,Wk.mkS [0] [] ?_ ?_ ?_,2,_,_,rfl,by omega,hst.put (q:=a) hp,rfl,rfl⟩
   ·decide
   ·simp only[bk,bh,go_sem,simprocAttr]
    repeat' refine ab ?_ ?_
    all_goals first|exact bu|skip
   ·exact .cons rfl .ls .nil
   ·simp
 ·repeat first|with_reducible refine aw ?_|simp only[go_sem,simprocAttr]
  exact⟨pa1,hst⟩
def ni(cs:List In)(i:Nat):Int:=a8 (cs.getD i (0,0,0,0,0)).1 (cs.getD i (0,0,0,0,0)).2.1
def f9(cs:List In)(nx:Nat->List Nat)(p q:Int):Prop:=
 (p≠q/\bn cs nx 0 p/\bn cs nx 0 q)\/∃i k,i<cs.length/\k ∈ nx i/\0<=ni cs i/\((p=ni cs i/\q≠p/\bn cs nx k q)\/(q=ni cs i/\p≠q/\bn cs nx k p))
theorem f9.symm{cs:List In}{nx:Nat->List Nat}{p q:Int}(h:f9 cs nx p q):f9 cs nx q p:=by
 rcases h with⟨h1,h2,h3⟩|⟨i,k,h1,h2,h3,h4|h4⟩
 ·exact .inl ⟨Ne.symm h1,h3,h2⟩
 ·exact .inr ⟨i,k,h1,h2,h3,.inr h4⟩
 ·exact .inr ⟨i,k,h1,h2,h3,.inl h4⟩
theorem rk{T:Int->List Int}{p q k x:Int}:x ∈ kO T p q k↔x ∈ T k\/(k=p/\x=q):=by
 unfold kO
 by_cases e:k=p
 ·subst e;rw[bT,dc];simp
 ·rw[eA _ _ e];simp[e]
theorem bQ{T:Int->List Int}{a b k x:Int}:x ∈ jl T a b k↔x ∈ T k\/(k=a/\x=b)\/(k=b/\x=a):=by
 unfold jl
 rw[rk,rk,or_assoc]
theorem mF{T:Int->List Int}(h:∀p,(T p).Nodup)(p q k:Int):(kO T p q k).Nodup:=by
 unfold kO
 by_cases e:k=p
 ·subst e;rw[bT];exact iY (h _) _
 ·rw[eA _ _ e];exact h k
structure pH(cs:List In)(nx:Nat->List Nat)(n1:Nat)(ad:Nat->Nat)(S:Nat->List Int)(r0:Nat)(pa:Int->Option Nat)(T:Int->List Int)(ob:Nat->Option OB):Prop where
 io:gk r0 pa T ob
 lv:eL n1 ad S ob
 d1:∀k a i,i<n1->pa k=some a->a≠ad i
 d2:∀i,i<n1->ad i≠r0
 nd:∀p,(T p).Nodup
 ok:∀p q,q ∈ T p->f9 cs nx p q
 sy:∀p q,q ∈ T p->p ∈ T q
section
variable {cs:List In} {nx:Nat->List Nat} {n1:Nat} {ad:Nat->Nat} {S:Nat->List Int} {r0:Nat} {pa pa':Int->Option Nat} {T:Int->List Int} {ob ob':Nat->Option OB}
theorem pH.note(h:pH cs nx n1 ad S r0 pa T ob){a b:Int}(hst:kQ r0 pa ob pa' (jl T a b) ob')(hab:f9 cs nx a b):pH cs nx n1 ad S r0 pa' (jl T a b) ob':=by
 refine⟨hst.io,⟨λi hi=>?_,h.lv.inj⟩,λk x i hi hk e=>?_,h.d2,λp=>mF (mF h.nd a b) b a p,λp q hq=>?_,λp q hq=>?_⟩
 ·obtain⟨y,hy,hc⟩:=hst.keep (ad i) _ (h.lv.at_ i hi) (h.d2 i hi) (λk hk=>h.d1 k _ i hi hk rfl)
  cases y with
  |mp z=>rw[hy];exact congrArg some hc
  |it z=>cases hc
  |fix o=>cases hc
 ·rcases hst.new k x hk with h1|h1
  ·exact h.d1 k x i hi h1 e
  ·rw[e,h.lv.at_ i hi] at h1;cases h1
 ·rcases bQ.1 hq with h1|⟨rfl,rfl⟩|⟨rfl,rfl⟩
  ·exact h.ok p q h1
  ·exact hab
  ·exact hab.symm
 ·rcases bQ.1 hq with h1|⟨rfl,rfl⟩|⟨rfl,rfl⟩
  ·exact bQ.2 (.inl (h.sy p q h1))
  ·exact bQ.2 (.inr (.inr ⟨rfl,rfl⟩))
  ·exact bQ.2 (.inr (.inl ⟨rfl,rfl⟩))
theorem pH.itKeep(h:pH cs nx n1 ad S r0 pa T ob){a b:Int}(hst:kQ r0 pa ob pa' (jl T a b) ob'){t:Nat}{y:mP}(ht:ob t=some (.it y)):∃c,ob' t=some (.it {y with cur:=c}):=by
 obtain⟨z,hz,hc⟩:=hst.keep t _ ht (λe=>by
  obtain⟨mo,h1,_⟩:=h.io.out
  rw[e,h1] at ht;cases ht) (λk hk=>by have:=h.io.at_ k t hk;rw[ht] at this;cases this)
 cases z with
 |mp z=>cases hc
 |fix o=>cases hc
 |it z=>
  refine⟨z.cur,?_⟩
  rw[hz]
  simp only[OB.clr,OB.it.injEq,mP.mk.injEq] at hc
  obtain⟨e1,e2,e3,_⟩:=hc
  rw[<-e1,<-e2,<-e3]
theorem pH.iter(h:pH cs nx n1 ad S r0 pa T ob){t:Nat}(ht:ob t=none\/∃y,ob t=some (.it y))(x:OB):pH cs nx n1 ad S r0 pa T (bp ob t x):=by
 have key:∀r m,ob r=some (.mp m)->bp ob t x r=some (.mp m):=λr m hr=>by
  rw[aW _ _ (λe=>by rcases ht with h1|⟨y,h1⟩<;>rw[e,h1] at hr<;>cases hr)]
  exact hr
 obtain⟨mo,h1,h2,h3⟩:=h.io.out
 exact⟨⟨⟨mo,key _ _ h1,h2,h3⟩,λk a hk=>key _ _ (h.io.at_ k a hk),h.io.non,h.io.inj,h.io.ne⟩,⟨λi hi=>key _ _ (h.lv.at_ i hi),h.lv.inj⟩,h.d1,h.d2,h.nd,h.ok,h.sy⟩
end
abbrev Cs(t:Nat):AV:= .cv (.pointer (some ⟨t,0,none⟩))
abbrev kr(cs:List In)(nx:Nat->List Nat)(n1:Nat)(ad:Nat->Nat)(r0:Nat):List (Nat×AV):=[(0,.fs 5 cs.length (cC cs)),(3,.fp 1 (λ_=> .cv (.map (some r0))) 0),(4,.f 94 [] [.fp 1 (λ_=> .cv (.map (some r0))) 0]),(5,.fs 1 n1 (zO ad)),(6,.fs 1 cs.length (gC nx))]
structure fY(l d:List Int)(m:Nat)(ob:Nat->Option OB)(t:Nat):Prop where
 nd:d.Nodup
 sub:∀r ∈ d,r ∈ l
 it:∃seen cur,(∀q,seen q=true↔q ∈ d)/\ob t=some (.it ⟨m,λq=>((bO l).get q).isSome,seen,cur⟩)
theorem fY.keep{l d:List Int}{m t:Nat}{ob ob':Nat->Option OB}(h:fY l d m ob t)(hk:∀y,ob t=some (.it y)->∃c,ob' t=some (.it {y with cur:=c})):fY l d m ob' t:=by
 obtain⟨seen,cur,h1,h2⟩:=h.it
 obtain⟨c,hc⟩:=hk _ h2
 exact⟨h.nd,h.sub,seen,c,h1,hc⟩
theorem fY.start{l:List Int}{m t:Nat}{ob:Nat->Option OB}(h:ob t=some (.it ⟨m,λq=>((bO l).get q).isSome,λ_=>false,none⟩)):fY l [] m ob t:=⟨List.nodup_nil,λr hr=>(by cases hr),_,_,λq=>by simp,h⟩
theorem fY.len{l d:List Int}{m t:Nat}{ob:Nat->Option OB}(h:fY l d m ob t):d.length<=l.length:=fI h.nd h.sub
end Go.Proofs.Yteopfmnnhlhbmaa
namespace Go.Proofs.Yteopfmnnhlhbmaa
open Go.RowKit
theorem kS{H:AH}{Q:AV->AH->Prop}{t m:Nat}{l d:List Int}{seen:Int->Bool}{cur:Option (Int×AV)}(hn:d.Nodup)(hs:∀r ∈ d,r ∈ l)(hsn:∀q,seen q=true↔q ∈ d)
  (h1:∀q,q ∈ l->q ∉ d->∀y:mP,y.cur=some (q,.b true)->(∀ob:Nat->Option OB,fY l (d++[q]) m (bp ob t (.it y)) t)->Q (.tup [.b true,.n .i64 q,.b true]) (H.setOb t (.it y)))
  (h2:(∀q ∈ l,q ∈ d)->Q (.tup [.b false]) H):tH H Q t ⟨m,λq=>((bO l).get q).isSome,seen,cur⟩ (some (.mp (bO l))):=by
 refine xv (λq v hq=>by show((bO l).get q).isSome=true;rw[hq];rfl) (λq v hq hsq=>?_) (λhall=>h2 λq hq=>(hsn q).1 (hall q ?_))
 ·rw[du] at hq
  split at hq
  ·rename_i hql
   cases hq
   have hqd:q ∉ d:=λhm=>by
    have:=(hsn q).2 hm
    have hsq:seen q=false:=hsq
    rw[hsq] at this;cases this
   refine h1 q hql hqd _ rfl (λob=>⟨List.nodup_append.2 ⟨hn,by simp,λa ha b hb e=>by simp at hb;subst hb;subst e;exact hqd ha⟩,λr hr=>?_,_,_,λq'=>?_,aJ _ _ _⟩)
   ·rcases List.mem_append.1 hr with hr|hr
    ·exact hs r hr
    ·simp at hr;subst hr;exact hql
   ·show(decide (q'=q)||seen q')=true↔q' ∈ d++[q]
    rw[Bool.or_eq_true,decide_eq_true_eq,hsn q',List.mem_append,List.mem_singleton,or_comm]
  ·cases hq
 ·show((bO l).get q).isSome=true
  rw[du,if_pos hq];rfl
theorem Hg(cs:List In)(nx:Nat->List Nat)(n1:Nat)(ad:Nat->Nat)(S:Nat->List Int)(r0:Nat)(hn1:0<n1)(hnn:n1<=20000)(hS0:∀r,r ∈ S 0->bn cs nx 0 r)(pa:Int->Option Nat)(T:Int->List Int)(ob:Nat->Option OB)(t1:Nat)(hif:pH cs nx n1 ad S r0 pa T ob)(hw:fY (S 0) [] (ad 0) ob t1)
  (Q:AE->Tr AV->AH->Prop) (hQ:∀pa T ob e' H',pH cs nx n1 ad S r0 pa T ob->(∀a ∈ S 0,∀b ∈ S 0,a≠b->b ∈ T a)->Wk 90 e' H' (aE (kr cs nx n1 ad r0)) (ba ob [])->Q (.exit 0) e' H'):
  GA Try.prog 90 (aB Try.prog 74) wL (aE ((26,Cs t1)::kr cs nx n1 ad r0)) (ba ob []) Q:=by
 have hadC:∀i,zO ad i 0= .cv (.map (some (ad i))):=λ_=>rfl
 have hn10:(0:Int)<(n1:Int):=by omega
 refine GA.loop (I:=λmm e H=>∃(d:List Int) (pa:Int->Option Nat) (T:Int->List Int) (ob:Nat->Option OB),mm=(S 0).length-d.length/\fY (S 0) d (ad 0) ob t1/\pH cs nx n1 ad S r0 pa T ob/\(∀a ∈ d,∀b ∈ S 0,a≠b->b ∈ T a)/\e=aE ((26,Cs t1)::kr cs nx n1 ad r0)/\H=ba ob []) Wk.refl ⟨[],pa,T,ob,rfl,hw,hif,λa ha=>(by cases ha),rfl,rfl⟩ ?_
 rintro mm e H ⟨d,pa,T,ob,rfl,hw,hif,hdone,rfl,rfl⟩
 have hob0:=hif.lv.at_ 0 hn1
 obtain⟨seen,cur,hsn,hot⟩:=hw.it
 repeat first|with_reducible refine aw ?_|simp only[hot,hob0,go_sem,simprocAttr]
 refine kS hw.nd hw.sub hsn (λp hp hpd y hcur hw2=>?_) (λhall=>?_)
 ·have hif2:=hif.iter (.inr ⟨_,hot⟩) (.it y)
  have hw2:=hw2 ob
  have hob02:=hif2.lv.at_ 0 hn1
  have hlen:=hw2.len
  rw[List.length_append,List.length_singleton] at hlen
  repeat first|with_reducible refine aw ?_|simp only[hcur,hadC,hob02,hn10,go_sem,simprocAttr]
  refine lG (λt2 ht2=>?_)
  have ht2:bp ob t1 (.it y) t2=none:=ht2
  have hif3:=hif2.iter (.inl ht2) (.it ⟨ad 0,λk=>((bO (S 0)).get k).isSome,λ_=>false,none⟩)
  have hw3:fY (S 0) [] (ad 0) (bp (bp ob t1 (.it y)) t2 (.it ⟨ad 0,λk=>((bO (S 0)).get k).isSome,λ_=>false,none⟩)) t2:= .start (aJ _ _ _)
  have hw4:fY (S 0) (d++[p]) (ad 0) (bp (bp ob t1 (.it y)) t2 (.it ⟨ad 0,λk=>((bO (S 0)).get k).isSome,λ_=>false,none⟩)) t1:=hw2.keep λz hz=>⟨z.cur,by rw[aW _ _ (iE hz ht2)];exact hz⟩
  have htt0:t1≠t2:=λe=>by rw[<-e,aJ] at ht2;cases ht2
  repeat first|with_reducible refine aw ?_|simp only[go_sem,simprocAttr]
  refine GA.loop (I:=λmm e H=>∃(d2:List Int) (pa:Int->Option Nat) (T:Int->List Int) (ob:Nat->Option OB),mm=(S 0).length-d2.length/\fY (S 0) d2 (ad 0) ob t2/\fY (S 0) (d++[p]) (ad 0) ob t1/\t1≠t2/\pH cs nx n1 ad S r0 pa T ob/\(∀a ∈ d,∀b ∈ S 0,a≠b->b ∈ T a)/\(∀b ∈ d2,p≠b->b ∈ T p)/\e=aE ((34,Cs t2)::(7,.n .i64 p)::(26,Cs t1)::kr cs nx n1 ad r0)/\H=ba ob []) (Wk.mkS [] [] ?_ ?_ ?_) ⟨[],pa,T,_,rfl,hw3,hw4,htt0,hif3,hdone,λb hb=>(by cases hb),rfl,rfl⟩ ?_
  ·simp only[bk,bh,kr,go_sem,simprocAttr]
   repeat' refine ab ?_ ?_
   all_goals first|exact bu|skip
  ·exact .nil
  ·simp
  clear hw3 hw4 hif3 hif2 hw2 hif hw hdone hot hob0 hob02
  rintro mm e H ⟨d2,pa,T,ob,rfl,hw,hwp,htt,hif,hdone,hd2,rfl,rfl⟩
  have hob0:=hif.lv.at_ 0 hn1
  obtain⟨seen,cur,hsn,hot⟩:=hw.it
  repeat first|with_reducible refine aw ?_|simp only[hot,hob0,go_sem,simprocAttr]
  refine kS hw.nd hw.sub hsn (λq hq hqd y hcur hwq=>?_) (λhall=>?_)
  ·have hif2:=hif.iter (.inr ⟨_,hot⟩) (.it y)
   have hwq:=hwq ob
   have hlen2:=hwq.len
   rw[List.length_append,List.length_singleton] at hlen2
   have hwp2:fY (S 0) (d++[p]) (ad 0) (bp ob t2 (.it y)) t1:=hwp.keep λz hz=>⟨z.cur,by rw[aW _ _ htt];exact hz⟩
   repeat first|with_reducible refine aw ?_|simp only[hcur,go_sem,simprocAttr]
   refine⟨λhne=>?_,λheq=>?_⟩
   ·refine GA.regp (l:=[_,_,_]) rfl ?_
    simp only[go_sem,simprocAttr]
    refine⟨PE.of (by rfl),_,_,_,_,(by simp only[go_sem,simprocAttr];rfl),(by simp only[go_sem,simprocAttr];rfl),(qo r0 pa T p q ((ba ob []).setOb t2 (.it y)) hif2.io (by show 0<1000;decide)).mono (λv H' hpost=>?_)⟩
    obtain⟨hnx,pa',hst⟩:=hpost
    have hifn:=hif2.note hst (.inl ⟨hne,hS0 p hp,hS0 q hq⟩)
    refine⟨_,_,_,?_,Wk.mkS [] [] ?_ ?_ ?_,d2++[q],pa',jl T p q,H'.ob,rfl,hwq.keep (λz hz=>hif2.itKeep hst hz),hwp2.keep (λz hz=>hif2.itKeep hst hz),htt,hifn,λa ha b hb hab=>bQ.2 (.inl (hdone a ha b hb hab)),λb hb hpb=>?_,rfl,rfl⟩
    ·simp only[List.length_append,List.length_singleton];omega
    ·simp only[bk,bh,kr,go_sem,simprocAttr]
     repeat' refine ab ?_ ?_
     all_goals first|exact bu|skip
    ·exact .nil
    ·simp
    ·rcases List.mem_append.1 hb with hb|hb
     ·exact bQ.2 (.inl (hd2 b hb hpb))
     ·simp at hb;subst hb;exact bQ.2 (.inr (.inl ⟨rfl,rfl⟩))
   ·repeat first|with_reducible refine aw ?_|simp only[go_sem,simprocAttr]
    refine⟨_,_,_,?_,Wk.mkS [] [] ?_ ?_ ?_,d2++[q],pa,T,_,rfl,hwq,hwp2,htt,hif2,hdone,λb hb hpb=>?_,rfl,rfl⟩
    ·simp only[List.length_append,List.length_singleton];omega
    ·simp only[bk,bh,kr,go_sem,simprocAttr]
     repeat' refine ab ?_ ?_
     all_goals first|exact bu|skip
    ·exact .nil
    ·simp
    ·rcases List.mem_append.1 hb with hb|hb
     ·exact hd2 b hb hpb
     ·simp at hb;subst hb;exact absurd heq hpb
  ·repeat first|with_reducible refine aw ?_|simp only[go_sem,simprocAttr]
   refine⟨_,_,_,?_,Wk.mkS [] [] ?_ ?_ ?_,d++[p],pa,T,ob,rfl,hwp,hif,λa ha b hb hab=>?_,rfl,rfl⟩
   ·simp only[List.length_append,List.length_singleton];omega
   ·simp only[bk,bh,kr,go_sem,simprocAttr]
    repeat' refine ab ?_ ?_
    all_goals first|exact bu|skip
   ·exact .nil
   ·simp
   ·rcases List.mem_append.1 ha with ha|ha
    ·exact hdone a ha b hb hab
    ·simp at ha;subst ha;exact hd2 b (hall b hb) hab
 ·repeat first|with_reducible refine aw ?_|simp only[go_sem,simprocAttr]
  refine hQ pa T ob _ _ hif (λa ha b hb=>hdone a (hall a ha) b hb) (Wk.mkS [] [] ?_ ?_ ?_)
  ·simp only[bk,bh,kr,go_sem,simprocAttr]
   repeat' refine ab ?_ ?_
   all_goals first|exact bu|skip
  ·exact .nil
  ·simp
def Pv(nx:Nat->List Nat)(S:Nat->List Int)(w:Nat->Int)(T:Int->List Int)(i:Nat):Prop:=∀i',i'<i->0<=w i'->∀k ∈ nx i',∀r ∈ S k,r≠w i'->r ∈ T (w i')
abbrev yi(nx:Nat->List Nat)(i j:Nat)(w:Int)(n:Nat)(code:AV):List (Nat×AV):=[(61,.fs 1 (nx i).length (λj _=> .n .i64 (((nx i).getD j 0:Nat):Int))),(62,.n .i64 (nx i).length),(63,.n .i64 j),(12,.n .i64 w),(46,code),(47,.n .i64 n),(48,.n .i64 i)]
theorem Hf(cs:List In)(nx:Nat->List Nat)(ad:Nat->Nat)(S:Nat->List Int)(r0:Nat)(hn:cs.length<=16384)(hops:∀x ∈ cs,0<=x.1/\x.1<39)(hnx:∀i,i<cs.length->∀k ∈ nx i,k<=cs.length)(hnl:∀i,(nx i).length<=2)(hS:∀i,i<=cs.length->∀r,r ∈ S i->bn cs nx i r)
  (pa:Int->Option Nat) (T:Int->List Int) (ob:Nat->Option OB) (hif:pH cs nx (cs.length+1) ad S r0 pa T ob) (hC1:∀a ∈ S 0,∀b ∈ S 0,a≠b->b ∈ T a)
  (Q:AE->Tr AV->AH->Prop) (hQ:∀pa T ob e' H',pH cs nx (cs.length+1) ad S r0 pa T ob->(∀a ∈ S 0,∀b ∈ S 0,a≠b->b ∈ T a)->Pv nx S (ni cs) T cs.length->Wk 90 e' H' (aE (kr cs nx (cs.length+1) ad r0)) (ba ob [])->Q (.exit 4) e' H'):
  GA Try.prog 90 (aB Try.prog 74) wK (aE ((46,.fs 5 cs.length (cC cs))::(47,.n .i64 cs.length)::(48,.n .i64 0)::kr cs nx (cs.length+1) ad r0)) (ba ob []) Q:=by
 have hadd:∀j:Nat,j<100000->IntKind.wrap .i64 ((j:Int)+1)=((j+1:Nat):Int):=λj hj=>by rw[aU (by omega)];omega
 have hadC:∀i,zO ad i 0= .cv (.map (some (ad i))):=λ_=>rfl
 have hgC:∀i,gC nx i 0= .fs 1 (nx i).length (λj _=> .n .i64 (((nx i).getD j 0:Nat):Int)):=λ_=>rfl
 refine GA.loop (I:=λmm e H=>∃(i:Nat) (pa:Int->Option Nat) (T:Int->List Int) (ob:Nat->Option OB),mm=cs.length-i/\i<=cs.length/\pH cs nx (cs.length+1) ad S r0 pa T ob/\(∀a ∈ S 0,∀b ∈ S 0,a≠b->b ∈ T a)/\Pv nx S (ni cs) T i/\e=aE ((46,.fs 5 cs.length (cC cs))::(47,.n .i64 cs.length)::(48,.n .i64 i)::kr cs nx (cs.length+1) ad r0)/\H=ba ob []) Wk.refl ⟨0,pa,T,ob,rfl,Nat.zero_le _,hif,hC1,λi hi=>by omega,rfl,rfl⟩ ?_
 rintro mm e H ⟨i,pa,T,ob,rfl,hi,hif,hC1,hC2,rfl,rfl⟩
 repeat first|with_reducible refine aw ?_|simp only[go_sem,simprocAttr]
 refine⟨λh=>?_,λh=>?_⟩
 ·have hil:i<cs.length:=by omega
  have hi0:(0:Int)<=(i:Int):=by omega
  have ha:=hadd i (by omega)
  have hcc0:=ww cs i
  have hcc1:=CB cs i
  have hcc2:=CA cs i
  have hcc3:=Cz cs i
  have hcc4:=Cy cs i
  have hmem:cs.getD i (0,0,0,0,0) ∈ cs:=by rw[List.getD_eq_getElem?_getD,List.getElem?_eq_getElem hil];exact List.getElem_mem hil
  have hop:=hops _ hmem
  have hwr:ni cs i=a8 (cs.getD i (0,0,0,0,0)).1 (cs.getD i (0,0,0,0,0)).2.1:=rfl
  generalize hx:cs.getD i (0,0,0,0,0)=x at*
  obtain⟨op,to,a,b,arg⟩:=x
  have hu:=fS (lq op to a b arg hop) (by rfl)
  simp only[List.map_cons,List.map_nil,RT.fz] at hu
  simp only at hwr
  repeat first|with_reducible refine aw ?_|simp only[hi0,h,hcc0,hcc1,hcc2,hcc3,hcc4,decide_true,go_sem,simprocAttr]
  refine ao [] (.cons (.rfl (by rfl)) .nil) hu (by simp only[AH.mark_next,ah,ay,az,am,af,ag,List.length_cons,List.length_nil];decide) ?_
  rw[<-hwr]
  generalize hw:ni cs i=w
  repeat first|with_reducible refine aw ?_|simp only[hi0,h,hgC,go_sem,simprocAttr]
  refine GA.loop (I:=λmm e H=>∃(j:Nat) (pa:Int->Option Nat) (T:Int->List Int) (ob:Nat->Option OB),mm=(nx i).length-j/\j<=(nx i).length/\pH cs nx (cs.length+1) ad S r0 pa T ob/\(∀a ∈ S 0,∀b ∈ S 0,a≠b->b ∈ T a)/\Pv nx S (ni cs) T i/\(0<=w->∀j',j'<j->∀r ∈ S ((nx i).getD j' 0),r≠w->r ∈ T w)/\e=aE (yi nx i j w cs.length (.fs 5 cs.length (cC cs))++kr cs nx (cs.length+1) ad r0)/\H=ba ob []) (Wk.mkS [] [] ?_ ?_ ?_) ⟨0,pa,T,_,rfl,Nat.zero_le _,hif,hC1,hC2,λ_ j hj=>by omega,rfl,rfl⟩ ?_
  ·simp only[bk,bh,kr,yi,List.cons_append,List.nil_append,go_sem,simprocAttr]
   repeat' refine ab ?_ ?_
   all_goals first|exact bu|skip
  ·exact .nil
  ·simp
  clear hif hC1 hC2
  rintro mm e H ⟨j,pa,T,ob,rfl,hj,hif,hC1,hC2,hC3,rfl,rfl⟩
  simp only[yi,List.cons_append,List.nil_append]
  repeat first|with_reducible refine aw ?_|simp only[go_sem,simprocAttr]
  refine⟨λh=>?_,λh=>?_⟩
  ·have hjl:j<(nx i).length:=by omega
   have hj0:(0:Int)<=(j:Int):=by omega
   have ha2:=hadd j (by have:=hnl i;omega)
   obtain⟨k,hk⟩:∃k,(nx i).getD j 0=k:=⟨_,rfl⟩
   have hkm:k ∈ nx i:=by rw[<-hk,List.getD_eq_getElem?_getD,List.getElem?_eq_getElem hjl];exact List.getElem_mem hjl
   have hkn:k<=cs.length:=hnx i hil k hkm
   have hk0:(0:Int)<=(k:Int):=by omega
   have hk1:(k:Int)<((cs.length+1:Nat):Int):=by omega
   have hobk:=hif.lv.at_ k (by omega)
   repeat first|with_reducible refine aw ?_|simp only[hj0,h,hk,hk0,hk1,hadC,hobk,go_sem,simprocAttr]
   refine lG (λt ht=>?_)
   have ht:ob t=none:=ht
   have hif3:=hif.iter (.inl ht) (.it ⟨ad k,λq=>((bO (S k)).get q).isSome,λ_=>false,none⟩)
   have hw3:fY (S k) [] (ad k) (bp ob t (.it ⟨ad k,λq=>((bO (S k)).get q).isSome,λ_=>false,none⟩)) t:= .start (aJ _ _ _)
   repeat first|with_reducible refine aw ?_|simp only[go_sem,simprocAttr]
   refine GA.loop (I:=λmm e H=>∃(d:List Int) (pa:Int->Option Nat) (T:Int->List Int) (ob:Nat->Option OB),mm=(S k).length-d.length/\fY (S k) d (ad k) ob t/\pH cs nx (cs.length+1) ad S r0 pa T ob/\(∀a ∈ S 0,∀b ∈ S 0,a≠b->b ∈ T a)/\Pv nx S (ni cs) T i/\(0<=w->∀j',j'<j->∀r ∈ S ((nx i).getD j' 0),r≠w->r ∈ T w)/\(0<=w->∀r ∈ d,r≠w->r ∈ T w)/\e=aE ((71,Cs t)::(yi nx i j w cs.length (.fs 5 cs.length (cC cs))++kr cs nx (cs.length+1) ad r0))/\H=ba ob []) (Wk.mkS [] [] ?_ ?_ ?_) ⟨[],pa,T,_,rfl,hw3,hif3,hC1,hC2,hC3,λ_ b hb=>(by cases hb),rfl,rfl⟩ ?_
   ·simp only[bk,bh,kr,yi,List.cons_append,List.nil_append,go_sem,simprocAttr]
    repeat' refine ab ?_ ?_
    all_goals first|exact bu|skip
   ·exact .nil
   ·simp
   clear hw3 hif3 hif hC1 hC2 hC3 hobk ht
   rintro mm e H ⟨d,pa,T,ob,rfl,hwk,hif,hC1,hC2,hC3,hd,rfl,rfl⟩
   have hobk:=hif.lv.at_ k (by omega)
   obtain⟨seen,cur,hsn,hot⟩:=hwk.it
   simp only[yi,List.cons_append,List.nil_append]
   repeat first|with_reducible refine aw ?_|simp only[hot,hobk,go_sem,simprocAttr]
   refine kS hwk.nd hwk.sub hsn (λq hq hqd y hcur hwq=>?_) (λhall=>?_)
   ·have hif2:=hif.iter (.inr ⟨_,hot⟩) (.it y)
    have hwq:=hwq ob
    have hlen2:=hwq.len
    rw[List.length_append,List.length_singleton] at hlen2
    by_cases hw0:0<=w
    ·repeat first|with_reducible refine aw ?_|simp only[hcur,hw0,decide_true,go_sem,simprocAttr]
     refine⟨λhne=>?_,λheq=>?_⟩
     ·refine GA.regp (l:=[_,_,_]) rfl ?_
      simp only[go_sem,simprocAttr]
      refine⟨PE.of (by rfl),_,_,_,_,(by simp only[go_sem,simprocAttr];rfl),(by simp only[go_sem,simprocAttr];rfl),(qo r0 pa T w q ((ba ob []).setOb t (.it y)) hif2.io (by show 0<1000;decide)).mono (λv H' hpost=>?_)⟩
      obtain⟨hnx2,pa',hst⟩:=hpost
      have hifn:=hif2.note hst (.inr ⟨i,k,hil,hkm,by rw[hw];exact hw0,.inl ⟨hw.symm,hne,hS k hkn q hq⟩⟩)
      refine⟨_,_,_,?_,Wk.mkS [] [] ?_ ?_ ?_,d++[q],pa',jl T w q,H'.ob,rfl,hwq.keep (λz hz=>hif2.itKeep hst hz),hifn,λa ha b hb hab=>bQ.2 (.inl (hC1 a ha b hb hab)),λi' hi' h0 k' hk' r hr hrw=>bQ.2 (.inl (hC2 i' hi' h0 k' hk' r hr hrw)),λj' hj' r hr hrw=>bQ.2 (.inl (hC3 hw0 j' hj' r hr hrw)),λr hr hrw=>?_,rfl,rfl⟩
      ·simp only[List.length_append,List.length_singleton];omega
      ·simp only[bk,bh,kr,yi,List.cons_append,List.nil_append,go_sem,simprocAttr]
       repeat' refine ab ?_ ?_
       all_goals first|exact bu|skip
      ·exact .nil
      ·simp
      ·rcases List.mem_append.1 hr with hr|hr
       ·exact bQ.2 (.inl (hd hw0 r hr hrw))
       ·simp at hr;subst hr;exact bQ.2 (.inr (.inl ⟨rfl,rfl⟩))
     ·repeat first|with_reducible refine aw ?_|simp only[go_sem,simprocAttr]
      refine⟨_,_,_,?_,Wk.mkS [] [] ?_ ?_ ?_,d++[q],pa,T,_,rfl,hwq,hif2,hC1,hC2,hC3 hw0,λr hr hrw=>?_,rfl,rfl⟩
      ·simp only[List.length_append,List.length_singleton];omega
      ·simp only[bk,bh,kr,yi,List.cons_append,List.nil_append,go_sem,simprocAttr]
       repeat' refine ab ?_ ?_
       all_goals first|exact bu|skip
      ·exact .nil
      ·simp
      ·rcases List.mem_append.1 hr with hr|hr
       ·exact hd hw0 r hr hrw
       ·simp at hr;subst hr;exact absurd heq hrw
    ·repeat first|with_reducible refine aw ?_|simp only[hcur,hw0,decide_false,go_sem,simprocAttr]
     refine⟨_,_,_,?_,Wk.mkS [] [] ?_ ?_ ?_,d++[q],pa,T,_,rfl,hwq,hif2,hC1,hC2,rfl,rfl⟩
     ·simp only[List.length_append,List.length_singleton];omega
     ·simp only[bk,bh,kr,yi,List.cons_append,List.nil_append,go_sem,simprocAttr]
      repeat' refine ab ?_ ?_
      all_goals first|exact bu|skip
     ·exact .nil
     ·simp
   ·repeat first|with_reducible refine aw ?_|simp only[ha2,go_sem,simprocAttr]
    refine⟨_,_,_,?_,Wk.mkS [] [] ?_ ?_ ?_,j+1,pa,T,ob,rfl,by omega,hif,hC1,hC2,λh0 j' hj' r hr hrw=>?_,rfl,rfl⟩
    ·omega
    ·simp only[bk,bh,kr,yi,List.cons_append,List.nil_append,go_sem,simprocAttr]
     repeat' refine ab ?_ ?_
     all_goals first|exact bu|skip
    ·exact .nil
    ·simp
    ·by_cases e:j'=j
     ·subst e;rw[hk] at hr;exact hd h0 r (hall r hr) hrw
     ·exact hC3 h0 j' (by omega) r hr hrw
  ·have hjk:j=(nx i).length:=by omega
   repeat first|with_reducible refine aw ?_|simp only[ha,go_sem,simprocAttr]
   refine⟨_,_,_,?_,Wk.mkS [] [] ?_ ?_ ?_,i+1,pa,T,ob,rfl,by omega,hif,hC1,λi' hi' h0 k hk r hr hrw=>?_,rfl,rfl⟩
   ·omega
   ·simp only[bk,bh,kr,yi,List.cons_append,List.nil_append,go_sem,simprocAttr]
    repeat' refine ab ?_ ?_
    all_goals first|exact bu|skip
   ·exact .nil
   ·simp
   ·by_cases e:i'=i
    ·subst e
     rw[hw] at h0 hrw ⊢
     obtain⟨j',hj',rfl⟩:=List.mem_iff_getElem.1 hk
     refine hC3 h0 j' (by omega) r ?_ hrw
     rw[List.getD_eq_getElem?_getD,List.getElem?_eq_getElem hj'];exact hr
    ·exact hC2 i' (by omega) h0 k hk r hr hrw
 ·have hik:i=cs.length:=by omega
  subst hik
  repeat first|with_reducible refine aw ?_|simp only[go_sem,simprocAttr]
  refine hQ pa T ob _ _ hif hC1 hC2 (Wk.mkS [] [] ?_ ?_ ?_)
  ·simp only[bk,bh,kr,go_sem,simprocAttr]
   repeat' refine ab ?_ ?_
   all_goals first|exact bu|skip
  ·exact .nil
  ·simp
theorem gk.cut{r0:Nat}{pa:Int->Option Nat}{T:Int->List Int}{ob:Nat->Option OB}(h:gk r0 pa T ob):∃N:Nat->Option OB,gk r0 pa T N/\∀r x,N r=some x->ob r=some x/\xk x=true:=by
 obtain⟨mo,h1,h2,h3⟩:=h.out
 let N:Nat->Option OB:=λr=>if @decide (r=r0\/∃k,pa k=some r) (Classical.propDecidable _)=true then ob r else none
 have hin:∀r,(r=r0\/∃k,pa k=some r)->N r=ob r:=λr hr=>if_pos (@decide_eq_true _ (Classical.propDecidable _) hr)
 refine⟨N,⟨⟨mo,by rw[hin r0 (.inl rfl)];exact h1,h2,h3⟩,λk a hk=>by rw[hin a (.inr ⟨k,hk⟩)];exact h.at_ k a hk,h.non,h.inj,h.ne⟩,λr x hx=>?_⟩
 have hx:(if @decide (r=r0\/∃k,pa k=some r) (Classical.propDecidable _)=true then ob r else none)=some x:=hx
 split at hx
 ·rename_i hd
  refine⟨hx,?_⟩
  rcases @of_decide_eq_true _ (Classical.propDecidable _) hd with e|⟨k,hk⟩
  ·have hy:=h1.symm.trans (e ▸ hx);cases hy;exact h2
  ·have hy:=(h.at_ k r hk).symm.trans hx;cases hy;rfl
 ·cases hx
theorem j5(cs:List In)(nx:Nat->List Nat)(R:Nat)(hg:bR Try.prog 66 [.fs 5 cs.length (cC cs)] [.v (.fs 1 cs.length (gC nx))])(hn:cs.length<=16384)
  (hops:∀x ∈ cs,0<=x.1/\x.1<39) (hnx:∀i,i<cs.length->∀k ∈ nx i,k<=cs.length) (hnl:∀i,(nx i).length<=2) (hR:∀x ∈ cs,∀r ∈ aA x.1 x.2.2.1 x.2.2.2.1,0<=r/\r<(R:Int)) (hw1:∀i k,i<cs.length->k ∈ nx i->k=i->a8 (cs.getD i (0,0,0,0,0)).1 (cs.getD i (0,0,0,0,0)).2.1= -1):
  iw Try.prog 74 [.fs 5 cs.length (cC cs)] (λ_=>True) (λM rs N=>∃(r0:Nat) (pa:Int->Option Nat) (T:Int->List Int),rs=[.v (.cv (.map (some r0)))]/\gk r0 pa T N/\(∀p,(T p).Nodup)/\(∀p q,q ∈ T p↔f9 cs nx p q)):=by
 have hlv:=jt cs nx R hg hn hops hnx hnl hR hw1
 have hadC:∀(ad:Nat->Nat) i,zO ad i 0= .cv (.map (some (ad i))):=λ_ _=>rfl
 have hn0:(0:Int)<((cs.length+1:Nat):Int):=by omega
 refine jw bf NS ⟨by simp,by decide⟩ λM hM=>?_
 simp only[bI]
 repeat first|with_reducible refine aw ?_|simp only[go_sem,simprocAttr]
 refine fR (λr0 hr0=>?_)
 repeat first|with_reducible refine aw ?_|simp only[go_sem,simprocAttr]
 refine bN [] (.cons (.rfl (by rfl)) .nil) hlv True.intro (by simp only[AH.mark_next,ah,ay,az,am,ai,af,ag,List.length_cons,List.length_nil];decide) ?_
 rintro rs N ⟨S,ad,hS,hob0,rfl⟩ hfree
 have hfr:∀r x,N r=some x->bp (eN M) r0 (.mp ⟨true,λ_=>none,0,none⟩) r=none:=hfree
 have hlvo:eL (cs.length+1) ad S (jF (bp (eN M) r0 (.mp ⟨true,λ_=>none,0,none⟩)) N):=⟨λi hi=>(eJ (hfr _ _ (hob0.at_ i hi))).trans (hob0.at_ i hi),hob0.inj⟩
 have hr0o:jF (bp (eN M) r0 (.mp ⟨true,λ_=>none,0,none⟩)) N r0=some (.mp ⟨true,λ_=>none,0,none⟩):=zM (aJ _ _ _)
 have hob1:=hlvo.at_ 0 (by omega)
 repeat first|with_reducible refine aw ?_|simp only[hadC,hn0,hob1,go_sem,simprocAttr]
 refine lG (λt1 ht1=>?_)
 generalize hobA:jF (bp (eN M) r0 (.mp ⟨true,λ_=>none,0,none⟩)) N=obA at*
 have ht1:obA t1=none:=by rw[<-hobA];exact ht1
 have hif0:pH cs nx (cs.length+1) ad S r0 (λ_=>none) (λ_=>[]) obA:=⟨⟨⟨_,hr0o,rfl,rfl⟩,λk a hk=>(by cases hk),λ_ _=>rfl,λk k' a hk=>(by cases hk),λk a hk=>(by cases hk)⟩,hlvo,λk a i _ hk=>(by cases hk),λi hi e=>(by
  have:=hfr _ _ (hob0.at_ i hi)
  rw[e,aJ] at this
  cases this),λ_=>List.nodup_nil,λp q hq=>(by cases hq),λp q hq=>(by cases hq)⟩
 have hif1:=hif0.iter (.inl ht1) (.it ⟨ad 0,λk=>((bO (S 0)).get k).isSome,λ_=>false,none⟩)
 repeat first|with_reducible refine aw ?_|simp only[go_sem,simprocAttr]
 refine GA.wk (Wk.mkS (L:=(26,Cs t1)::kr cs nx (cs.length+1) ad r0) (bl:=[]) [] [0] ?_ ?_ ?_) ?_
 ·simp only[bk,bh,kr,go_sem,simprocAttr]
  repeat' refine ab ?_ ?_
  all_goals first|exact bu|skip
  ·exact .cv (.p (o:=0) (j:=0) (List.mem_cons_self ..) (by simp only[go_sem,simprocAttr];rfl) (by show 0+1<=1;decide) (by show 0<1;decide) (λq hq=>by obtain rfl:q=0:=(by omega);rfl) (λq hq=>rfl))
  ·exact .cv (.fn .nil (.cons (.p (o:=0) (j:=0) (List.mem_cons_self ..) (by simp only[go_sem,simprocAttr];rfl) (by show 0+1<=1;decide) (by show 0<1;decide) (λq hq=>by obtain rfl:q=0:=(by omega);rfl) (λq hq=>rfl)) .nil))
 ·exact .nil
 ·simp
 simp only[go_sem,simprocAttr,hobA]
 refine Hg cs nx (cs.length+1) ad S r0 (by omega) (by omega) (λr hr=>((hS 0 (by omega)).2 r).1 hr) _ _ _ t1 hif1 (.start (aJ _ _ _)) _ (λpa T ob e' H' hif hC1 hwk=>?_)
 simp only[go_sem,simprocAttr]
 refine GA.wk hwk ?_
 repeat first|with_reducible refine aw ?_|simp only[go_sem,simprocAttr]
 refine GA.wk (Wk.mkS (L:=(46,.fs 5 cs.length (cC cs))::(47,.n .i64 cs.length)::(48,.n .i64 0)::kr cs nx (cs.length+1) ad r0) (bl:=[]) [] [] ?_ ?_ ?_) ?_
 ·simp only[bk,bh,kr,go_sem,simprocAttr]
  repeat' refine ab ?_ ?_
  all_goals first|exact bu|skip
 ·exact .nil
 ·simp
 refine Hf cs nx ad S r0 hn hops hnx hnl (λi hi r hr=>((hS i hi).2 r).1 hr) pa T ob hif hC1 _ (λpa T ob e' H' hif hC1 hC2 hwk=>?_)
 simp only[go_sem,simprocAttr]
 refine GA.wk hwk ?_
 repeat first|with_reducible refine aw ?_|simp only[go_sem,simprocAttr]
 obtain⟨N2,hN1,hN2⟩:=hif.io.cut
 refine⟨[_],N2,[_],⟨r0,pa,T,rfl,hN1,hif.nd,λp q=>⟨hif.ok p q,λhpq=>?_⟩⟩,rfl,⟨⟨rfl,rfl⟩,True.intro⟩,hN2⟩
 have hlive:∀i,i<=cs.length->∀r,bn cs nx i r->r ∈ S i:=λi hi r hr=>((hS i hi).2 r).2 hr
 rcases hpq with⟨h1,h2,h3⟩|⟨i,k,hi,hk,h0,⟨rfl,h2,h3⟩|⟨rfl,h2,h3⟩⟩
 ·exact hC1 p (hlive 0 (by omega) p h2) q (hlive 0 (by omega) q h3) h1
 ·exact hC2 i hi h0 k hk q (hlive k (hnx i hi k hk) q h3) h2
 ·exact hif.sy _ _ (hC2 i hi h0 k hk p (hlive k (hnx i hi k hk) p h3) h2)
def jL(K:Nat->Nat)(l:List Nat):Nat->Int->Option Int
 |0=>λ_=>none
 |k+1=>λq=>if q=((l.getD k 0:Nat):Int) then some ((K (l.getD k 0):Nat):Int) else jL K l k q
theorem jm{K:Nat->Nat}{l:List Nat}(h:l.Pairwise (· < ·)):∀{k:Nat},k<=l.length->∀(q v:Int),jL K l k q=some v↔∃i,i<k/\q=((l.getD i 0:Nat):Int)/\v=((K (l.getD i 0):Nat):Int)
 |0,_,q,v=>⟨λh=>(by cases h),λ⟨i,h,_⟩=>by omega⟩
 |k+1,hk,q,v=>by
  unfold jL
  by_cases e:q=((l.getD k 0:Nat):Int)
  ·rw[if_pos e]
   constructor
   ·intro h;cases h;exact⟨k,by omega,e,rfl⟩
   ·rintro ⟨i,hi,hq,rfl⟩
    have:l.getD i 0=l.getD k 0:=by omega
    rw[this]
  ·rw[if_neg e,jm h (by omega) q v]
   constructor
   ·rintro ⟨i,hi,h1,h2⟩;exact⟨i,by omega,h1,h2⟩
   ·rintro ⟨i,hi,h1,h2⟩
    have:i≠k:=λe'=>e (by rw[h1,e'])
    exact⟨i,by omega,h1,h2⟩
theorem oQ{l:List Nat}(h:l.Pairwise (· < ·)){i j:Nat}(hij:i<j)(hj:j<l.length):l.getD i 0<l.getD j 0:=by
 rw[List.pairwise_iff_getElem] at h
 have:=h i j (by omega) hj hij
 rw[List.getD_eq_getElem?_getD,List.getD_eq_getElem?_getD,List.getElem?_eq_getElem hj,List.getElem?_eq_getElem (show i<l.length by omega)]
 exact this
theorem jW{K K':Nat->Nat}{l:List Nat}:∀{k:Nat},(∀i,i<k->K (l.getD i 0)=K' (l.getD i 0))->jL K l k=jL K' l k
 |0,_=>rfl
 |k+1,h=>by
  unfold jL
  rw[jW (λi hi=>h i (by omega)),h k (by omega)]
theorem vm(l:List Int)(c:Int):(bO l).look false (.b false) c= .b (decide (c ∈ l)):=by
 unfold dl.look
 rw[du]
 by_cases h:c ∈ l<;>simp[h,lH]
structure rC(r0:Nat)(pa:Int->Option Nat)(T:Int->List Int)(r1:Nat)(x:dl)(ob:Nat->Option OB):Prop where
 io:gk r0 pa T ob
 out:ob r1=some (.mp x)
 d0:r1≠r0
 d1:∀k,pa k≠some r1
section
variable {r0:Nat} {pa:Int->Option Nat} {T:Int->List Int} {r1:Nat} {x:dl} {ob:Nat->Option OB}
theorem rC.other(h:rC r0 pa T r1 x ob){t:Nat}(h0:t≠r0)(h1:t≠r1)(h2:∀k,pa k≠some t)(y:OB):rC r0 pa T r1 x (bp ob t y):=by
 obtain⟨mo,q1,q2,q3⟩:=h.io.out
 exact⟨⟨⟨mo,by rw[aW _ _ (Ne.symm h0)];exact q1,q2,q3⟩,λk a hk=>by rw[aW _ _ (λe=>h2 k (by rw[hk,e]))];exact h.io.at_ k a hk,h.io.non,h.io.inj,h.io.ne⟩,by rw[aW _ _ (Ne.symm h1)];exact h.out,h.d0,h.d1⟩
theorem rC.clr(h:rC r0 pa T r1 x ob):rC r0 pa T r1 x (gj ob):=by
 obtain⟨mo,q1,q2,q3⟩:=h.io.out
 exact⟨⟨⟨mo,dR q1,q2,q3⟩,λk a hk=>dR (h.io.at_ k a hk),h.io.non,h.io.inj,h.io.ne⟩,dR h.out,h.d0,h.d1⟩
theorem rC.fresh(h:rC r0 pa T r1 x ob){t:Nat}(ht:ob t=none):t≠r0/\t≠r1/\∀k,pa k≠some t:=by
 obtain⟨mo,q1,_⟩:=h.io.out
 exact⟨λe=>(by rw[e,q1] at ht;cases ht),λe=>(by rw[e,h.out] at ht;cases ht),λk hk=>(by rw[h.io.at_ k t hk] at ht;cases ht)⟩
theorem rC.set(h:rC r0 pa T r1 x ob)(x':dl):rC r0 pa T r1 x' (bp ob r1 (.mp x')):=by
 obtain⟨mo,q1,q2,q3⟩:=h.io.out
 exact⟨⟨⟨mo,by rw[aW _ _ (Ne.symm h.d0)];exact q1,q2,q3⟩,λk a hk=>by rw[aW _ _ (λe=>h.d1 k (by rw[hk,e]))];exact h.io.at_ k a hk,h.io.non,h.io.inj,h.io.ne⟩,aJ _ _ _,h.d0,h.d1⟩
end
abbrev pe(l:List Nat)(r0 r1:Nat)(n k:Nat):List (Nat×AV):=[(4,.cv (.map (some r0))),(5,.cv (.map (some r1))),(6,.n .i64 n),(18,.fs 1 l.length (λj _=> .n .i64 ((l.getD j 0:Nat):Int))),(19,.n .i64 l.length),(20,.n .i64 k)]
theorem gN{K K':Nat->Nat}{l:List Nat}:∀{k:Nat},(∀i,i<k->K (l.getD i 0)=K' (l.getD i 0))->cK K l k=cK K' l k
 |0,_=>rfl
 |k+1,h=>by
  unfold cK
  rw[gN (λi hi=>h i (by omega)),h k (by omega)]
def zT(T:Int->List Int)(l:List Nat)(K:Nat->Nat)(k:Nat):Prop:=∀i,i<k->eg (λc=>∃j,j<i/\((l.getD j 0:Nat):Int) ∈ T ((l.getD i 0:Nat):Int)/\K (l.getD j 0)=c) (K (l.getD i 0))
theorem xI{T:Int->List Int}{l:List Nat}(hl:l.Pairwise (· < ·)){K:Nat->Nat}{k c:Nat}(hk:k<l.length)(h:zT T l K k){tk:List Int}(htk:∀v:Int,v ∈ tk↔∃o ∈ T ((l.getD k 0:Nat):Int),jL K l k o=some v)(hc:¬(c:Int) ∈ tk)(hlt:∀c':Nat,c'<c->(c':Int) ∈ tk):
  zT T l (aZ K (l.getD k 0) c) (k+1)/\jL (aZ K (l.getD k 0) c) l k=jL K l k/\cK (aZ K (l.getD k 0) c) l k=cK K l k:=by
 have hne:∀i,i<k->l.getD i 0≠l.getD k 0:=λi hi e=>by have:=oQ hl hi hk;omega
 have hK:∀i,i<k->aZ K (l.getD k 0) c (l.getD i 0)=K (l.getD i 0):=λi hi=>ae _ _ (hne i hi)
 refine⟨λi hi=>?_,jW hK,gN hK⟩
 have hP:∀v:Nat,((∃j,j<i/\((l.getD j 0:Nat):Int) ∈ T ((l.getD i 0:Nat):Int)/\K (l.getD j 0)=v)↔∃j,j<i/\((l.getD j 0:Nat):Int) ∈ T ((l.getD i 0:Nat):Int)/\aZ K (l.getD k 0) c (l.getD j 0)=v):=λv=>by
  constructor
  ·rintro ⟨j,h1,h2,h3⟩;exact⟨j,h1,h2,by rw[hK j (by omega)];exact h3⟩
  ·rintro ⟨j,h1,h2,h3⟩;exact⟨j,h1,h2,by rw[<-hK j (by omega)];exact h3⟩
 by_cases e:i=k
 ·subst e
  rw[aY]
  have key:∀v:Nat,(v:Int) ∈ tk↔∃j,j<i/\((l.getD j 0:Nat):Int) ∈ T ((l.getD i 0:Nat):Int)/\K (l.getD j 0)=v:=λv=>by
   rw[htk]
   constructor
   ·rintro ⟨o,ho,hv⟩
    obtain⟨j,h1,rfl,h3⟩:=(jm hl (by omega) _ _).1 hv
    exact⟨j,h1,ho,by omega⟩
   ·rintro ⟨j,h1,h2,h3⟩
    exact⟨_,h2,(jm hl (by omega) _ _).2 ⟨j,h1,rfl,by rw[h3]⟩⟩
  exact⟨λhx=>hc ((key c).2 ((hP c).2 hx)),λc' hc'=>(hP c').1 ((key c').1 (hlt c' hc'))⟩
 ·rw[hK i (by omega)]
  exact(h i (by omega)).congr hP
theorem ue(T T':Int->List Int)(l:List Nat)(hl:l.Pairwise (· < ·))(hll:l.length<=100000)(r0 r1 r2:Nat)(pa:Int->Option Nat)(K:Nat->Nat)(k:Nat)(hkl:k<l.length)(x:dl)(ob:Nat->Option OB)(hcs:rC r0 pa T' r1 x ob)(hown:x.own=true)(hget:x.get=fu (jL K l k))(hmex:zT T l K k)
  (tk:List Int) (htl:tk.length<=100000) (hob2:ob r2=some (.mp (bO tk))) (htk:∀v:Int,v ∈ tk↔∃o ∈ T ((l.getD k 0:Nat):Int),jL K l k o=some v)
  (Q:AE->Tr AV->AH->Prop) (hQ:∀(K':Nat->Nat) (x':dl) (ob':Nat->Option OB) e' H',rC r0 pa T' r1 x' ob'->x'.own=true->x'.get=fu (jL K' l (k+1))->zT T l K' (k+1)->Wk 57 e' H' (aE (pe l r0 r1 (cK K' l (k+1)) k)) (ba ob' [])->Q .normal e' H'):
  GA Try.prog 57 (aB Try.prog 42) wH (aE ((13,.n .i64 0)::(9,.cv (.map (some r2)))::(8,.n .i64 ((l.getD k 0:Nat):Int))::pe l r0 r1 (cK K l k) k)) (ba ob []) (eI 4 (eT (λe' H'=>GA Try.prog 57 (aB Try.prog 42) ((AC.reg wG).seq (AC.reg wF)) e' H' Q) Q)):=by
 have hadd:∀j:Nat,j<200000->IntKind.wrap .i64 ((j:Int)+1)=((j+1:Nat):Int):=λj hj=>by rw[aU (by omega)];omega
 refine GA.loop (I:=λmm e H=>∃(c:Nat),mm=tk.length+1-c/\c<=tk.length/\(∀c':Nat,c'<c->(c':Int) ∈ tk)/\e=aE ((13,.n .i64 c)::(9,.cv (.map (some r2)))::(8,.n .i64 ((l.getD k 0:Nat):Int))::pe l r0 r1 (cK K l k) k)/\H=ba ob []) Wk.refl ⟨0,rfl,Nat.zero_le _,λc' hc'=>by omega,rfl,rfl⟩ ?_
 rintro mm e H ⟨c,rfl,hcl,hlt,rfl,rfl⟩
 have hlk:=vm tk (c:Int)
 have ha:=hadd c (by omega)
 repeat first|with_reducible refine aw ?_|simp only[hob2,hlk,go_sem,simprocAttr]
 refine⟨λhin=>?_,λhout=>?_⟩
 ·have hsub:=fI (l:=(List.range (c+1)).map (λn:Nat=>(n:Int))) (l':=tk) (List.pairwise_map.2 (List.nodup_range.imp λh e=>h (by omega))) (λv hv=>by
   obtain⟨n,hn,rfl⟩:=List.mem_map.1 hv
   rw[List.mem_range] at hn
   by_cases e:n=c
   ·rw[e];exact hin
   ·exact hlt n (by omega))
  rw[List.length_map,List.length_range] at hsub
  repeat first|with_reducible refine aw ?_|simp only[ha,go_sem,simprocAttr]
  refine⟨_,_,_,?_,Wk.mkS [] [] ?_ ?_ ?_,c+1,rfl,hsub,λc' hc'=>?_,rfl,rfl⟩
  ·omega
  ·simp only[bk,bh,pe,go_sem,simprocAttr]
   repeat' refine ab ?_ ?_
   all_goals first|exact bu|skip
   all_goals exact Wv.same rfl
  ·exact .nil
  ·simp
  ·by_cases e:c'=c
   ·rw[e];exact hin
   ·exact hlt c' (by omega)
 ·obtain⟨hm1,hm2,hm3⟩:=xI hl hkl hmex htk hout hlt
  have hob1:=hcs.out
  have hmx:(if(cK K l k:Int)<((c+1:Nat):Int) then((c+1:Nat):Int) else(cK K l k:Int))=((cK (aZ K (l.getD k 0) c) l (k+1):Nat):Int):=by
   show _=((max (cK (aZ K (l.getD k 0) c) l k) (aZ K (l.getD k 0) c (l.getD k 0)+1):Nat):Int)
   rw[hm3,aY]
   split<;>omega
  repeat first|with_reducible refine aw ?_|simp only[hob1,hown,ha,hmx,go_sem,simprocAttr]
  refine hQ (aZ K (l.getD k 0) c) _ _ _ _ (hcs.clr.set (x.put ((l.getD k 0:Nat):Int) (.n .i64 (c:Int)))) hown ?_ hm1 (Wk.mkS [] [] ?_ ?_ ?_)
  ·funext q
   show(if q=_ then _ else x.get q)=((jL (aZ K (l.getD k 0) c) l (k+1) q).map (.n .i64 ·))
   unfold jL
   rw[aY,hm2]
   by_cases e:q=((l.getD k 0:Nat):Int)
   ·rw[if_pos e,if_pos e];rfl
   ·rw[if_neg e,if_neg e,hget]
  ·simp only[bk,bh,pe,go_sem,simprocAttr]
   repeat' refine ab ?_ ?_
   all_goals first|exact bu|skip
   all_goals exact Wv.same rfl
  ·exact .nil
  ·simp
theorem sP(cs:List In)(T:Int->List Int)(l:List Nat)(hl:l.Pairwise (· < ·))(hll:l.length<=100000)(hTn:∀p,(T p).Nodup)(hTl:∀p,(T p).length<=100000)
  (hin:iw Try.prog 74 [.fs 5 cs.length (cC cs)] (λ_=>True) (λM rs N=>∃(r0:Nat) (pa:Int->Option Nat) (T':Int->List Int),rs=[.v (.cv (.map (some r0)))]/\gk r0 pa T' N/\(∀p,(T' p).Nodup)/\(∀p q,q ∈ T' p↔q ∈ T p)))
  (ho:bR Try.prog 52 [.fs 5 cs.length (cC cs)] [.v (.fs 1 l.length (λj _=> .n .i64 ((l.getD j 0:Nat):Int)))]):
  iw Try.prog 42 [.fs 5 cs.length (cC cs)] (λ_=>True) (λM rs N=>∃(r1:Nat) (x:dl) (K:Nat->Nat),rs=[.v (.cv (.map (some r1))),.v (.n .i64 (cK K l l.length))]/\N r1=some (.mp x)/\x.get=fu (jL K l l.length)/\
   ∀i,i<l.length->eg (λc=>∃j,j<i/\((l.getD j 0:Nat):Int) ∈ T ((l.getD i 0:Nat):Int)/\K (l.getD j 0)=c) (K (l.getD i 0))):=by
 have hadd:∀j:Nat,j<200000->IntKind.wrap .i64 ((j:Int)+1)=((j+1:Nat):Int):=λj hj=>by rw[aU (by omega)];omega
 refine jw bf L1 ⟨by simp,by decide⟩ λM hM=>?_
 simp only[bI]
 repeat first|with_reducible refine aw ?_|simp only[go_sem,simprocAttr]
 refine bN [] (.cons (.rfl (by rfl)) .nil) hin True.intro (by simp only[AH.mark_next,ah,ay,az,am,ai,af,ag,List.length_cons,List.length_nil];decide) ?_
 rintro rs N ⟨r0,pa,T',rfl,hio,hTn',hTT⟩ hfree
 have hfr:∀r x,N r=some x->eN M r=none:=hfree
 have hio2:gk r0 pa T' (jF (eN M) N):=by
  obtain⟨mo,h1,h2,h3⟩:=hio.out
  exact⟨⟨mo,(eJ (hfr _ _ h1)).trans h1,h2,h3⟩,λk a hk=>(eJ (hfr _ _ (hio.at_ k a hk))).trans (hio.at_ k a hk),hio.non,hio.inj,hio.ne⟩
 repeat first|with_reducible refine aw ?_|simp only[go_sem,simprocAttr]
 refine fR (λr1 hr1=>?_)
 repeat first|with_reducible refine aw ?_|simp only[go_sem,simprocAttr]
 refine ao [] (.cons (.rfl (by rfl)) .nil) ho (by simp only[AH.mark_next,ah,ay,az,am,ai,av,af,ag,List.length_cons,List.length_nil];decide) ?_
 repeat first|with_reducible refine aw ?_|simp only[go_sem,simprocAttr]
 have hpre1:jF (eN M) N r1=none:=hr1
 have hcs0:rC r0 pa T' r1 ⟨true,λ_=>none,0,none⟩ (bp (jF (eN M) N) r1 (.mp ⟨true,λ_=>none,0,none⟩)):=by
  obtain⟨mo,q1,q2,q3⟩:=hio2.out
  have f0:r1≠r0:=λe=>by rw[e,q1] at hpre1;cases hpre1
  have f1:∀k,pa k≠some r1:=λk hk=>by rw[hio2.at_ k r1 hk] at hpre1;cases hpre1
  exact⟨⟨⟨mo,by rw[aW _ _ (Ne.symm f0)];exact q1,q2,q3⟩,λk a hk=>by rw[aW _ _ (λe=>f1 k (by rw[hk,e]))];exact hio2.at_ k a hk,hio2.non,hio2.inj,hio2.ne⟩,aJ _ _ _,f0,f1⟩
 refine GA.loop (I:=λmm e H=>∃(k:Nat) (K:Nat->Nat) (x:dl) (ob:Nat->Option OB),mm=l.length-k/\k<=l.length/\rC r0 pa T' r1 x ob/\x.own=true/\x.get=fu (jL K l k)/\(∀i,i<k->eg (λc=>∃j,j<i/\((l.getD j 0:Nat):Int) ∈ T ((l.getD i 0:Nat):Int)/\K (l.getD j 0)=c) (K (l.getD i 0)))/\e=aE (pe l r0 r1 (cK K l k) k)/\H=ba ob []) (Wk.mkS [] [] ?_ ?_ ?_) ⟨0,λ_=>0,_,_,rfl,Nat.zero_le _,hcs0,rfl,rfl,λi hi=>by omega,rfl,rfl⟩ ?_
 ·simp only[bk,bh,pe,go_sem,simprocAttr]
  repeat' refine ab ?_ ?_
  all_goals first|exact bu|skip
  all_goals exact Wv.same rfl
 ·exact .nil
 ·simp
 clear hcs0 hio2 hio hfree hfr hpre1 hr1
 rintro mm e H ⟨k,K,x,ob,rfl,hk,hcs,hown,hget,hmex,rfl,rfl⟩
 repeat first|with_reducible refine aw ?_|simp only[go_sem,simprocAttr]
 refine⟨λh=>?_,λh=>?_⟩
 ·have hkl:k<l.length:=by omega
  have hk0:(0:Int)<=(k:Int):=by omega
  have ha:=hadd k (by omega)
  repeat first|with_reducible refine aw ?_|simp only[hk0,h,decide_true,go_sem,simprocAttr]
  refine fR (λr2 hr2=>?_)
  have hr2:ob r2=none:=hr2
  obtain⟨g0,g1,g2⟩:=hcs.fresh hr2
  have hcs2:=hcs.other g0 g1 g2 (.mp ⟨true,λ_=>none,0,none⟩)
  obtain⟨mo,hmo,hmown,hmget⟩:=hcs2.io.out
  have hlk:=js hmget ((l.getD k 0:Nat):Int)
  have hob2:bp ob r2 (.mp ⟨true,λ_=>none,0,none⟩) r2=some (.mp (bO [])):=by rw[aJ,fi]
  cases hp:pa ((l.getD k 0:Nat):Int) with
  |none=>
   rw[hp] at hlk
   have hT0:∀o,o ∉ T ((l.getD k 0:Nat):Int):=λo ho=>by
    have h1:=(hTT _ _).2 ho
    rw[hcs.io.non _ hp] at h1;cases h1
   repeat first|with_reducible refine aw ?_|simp only[hmo,hlk,go_sem,simprocAttr]
   intro t ht
   have ht:bp ob r2 (.mp ⟨true,λ_=>none,0,none⟩) t=none:=ht
   obtain⟨f0,f1,f2⟩:=hcs2.fresh ht
   have hcs3:=hcs2.other f0 f1 f2 (.fix (.mapIter none 0 #[] 0))
   have hob3:bp (bp ob r2 (.mp ⟨true,λ_=>none,0,none⟩)) t (.fix (.mapIter none 0 #[] 0)) r2=some (.mp (bO [])):=by
    rw[aW _ _ (iE hob2 ht)];exact hob2
   have hot:bp (bp ob r2 (.mp ⟨true,λ_=>none,0,none⟩)) t (.fix (.mapIter none 0 #[] 0)) t=some (.fix (.mapIter none 0 #[] 0)):=aJ _ _ _
   repeat first|with_reducible refine aw ?_|simp only[go_sem,simprocAttr]
   refine GA.loop (I:=λmm e H=>mm=0/\e=aE ((28,Cs t)::(9,.cv (.map (some r2)))::(8,.n .i64 ((l.getD k 0:Nat):Int))::pe l r0 r1 (cK K l k) k)/\H=ba (bp (bp ob r2 (.mp ⟨true,λ_=>none,0,none⟩)) t (.fix (.mapIter none 0 #[] 0))) []) (Wk.mkS [] [] ?_ ?_ ?_) ⟨rfl,rfl,rfl⟩ ?_
   ·simp only[bk,bh,pe,go_sem,simprocAttr]
    repeat' refine ab ?_ ?_
    all_goals first|exact bu|skip
    all_goals exact Wv.same rfl
   ·exact .nil
   ·simp
   rintro mm e H ⟨rfl,rfl,rfl⟩
   repeat first|with_reducible refine aw ?_|simp only[hot,go_sem,simprocAttr]
   refine GA.wk (Wk.mkS (L:=(13,.n .i64 0)::(9,.cv (.map (some r2)))::(8,.n .i64 ((l.getD k 0:Nat):Int))::pe l r0 r1 (cK K l k) k) (bl:=[]) [] [] ?_ ?_ ?_) ?_
   ·simp only[bk,bh,pe,go_sem,simprocAttr]
    repeat' refine ab ?_ ?_
    all_goals first|exact bu|skip
    all_goals exact Wv.same rfl
   ·exact .nil
   ·simp
   refine ue T T' l hl hll r0 r1 r2 pa K k hkl x _ hcs3 hown hget hmex [] (by simp) hob3 (λv=>⟨λh=>(by cases h),λ⟨o,ho,_⟩=>absurd ho (hT0 o)⟩) _ (λK' x' ob' e' H' c1 c2 c3 c4 hwk=>?_)
   simp only[go_sem,simprocAttr]
   refine GA.wk hwk ?_
   repeat first|with_reducible refine aw ?_|simp only[ha,go_sem,simprocAttr]
   refine⟨_,_,_,?_,Wk.mkS [] [] ?_ ?_ ?_,k+1,K',x',ob',rfl,by omega,c1,c2,c3,c4,rfl,rfl⟩
   ·omega
   ·simp only[bk,bh,pe,go_sem,simprocAttr]
    repeat' refine ab ?_ ?_
    all_goals first|exact bu|skip
    all_goals exact Wv.same rfl
   ·exact .nil
   ·simp
  |some a=>
   rw[hp] at hlk
   have hat:=hcs2.io.at_ _ a hp
   repeat first|with_reducible refine aw ?_|simp only[hmo,hlk,hat,go_sem,simprocAttr]
   refine lG (λt ht=>?_)
   have ht:bp ob r2 (.mp ⟨true,λ_=>none,0,none⟩) t=none:=ht
   obtain⟨f0,f1,f2⟩:=hcs2.fresh ht
   have hcs3:=hcs2.other f0 f1 f2 (.it ⟨a,λq=>((bO (T' ((l.getD k 0:Nat):Int))).get q).isSome,λ_=>false,none⟩)
   have hob3:bp (bp ob r2 (.mp ⟨true,λ_=>none,0,none⟩)) t (.it ⟨a,λq=>((bO (T' ((l.getD k 0:Nat):Int))).get q).isSome,λ_=>false,none⟩) r2=some (.mp (bO [])):=by
    rw[aW _ _ (iE hob2 ht)];exact hob2
   have hw3:fY (T' ((l.getD k 0:Nat):Int)) [] a (bp (bp ob r2 (.mp ⟨true,λ_=>none,0,none⟩)) t (.it ⟨a,λq=>((bO (T' ((l.getD k 0:Nat):Int))).get q).isSome,λ_=>false,none⟩)) t:= .start (aJ _ _ _)
   have htr2:t≠r2:=λe=>by rw[e,hob2] at ht;cases ht
   have hTl2:(T' ((l.getD k 0:Nat):Int)).length<=100000:=Nat.le_trans (fI (hTn' _) (λv hv=>(hTT _ v).1 hv)) (hTl _)
   repeat first|with_reducible refine aw ?_|simp only[go_sem,simprocAttr]
   refine GA.loop (I:=λmm e H=>∃(d tk:List Int) (ob:Nat->Option OB),mm=(T' ((l.getD k 0:Nat):Int)).length-d.length/\fY (T' ((l.getD k 0:Nat):Int)) d a ob t/\rC r0 pa T' r1 x ob/\ob r2=some (.mp (bO tk))/\tk.length<=d.length/\(∀v:Int,v ∈ tk↔∃o ∈ d,jL K l k o=some v)/\e=aE ((28,Cs t)::(9,.cv (.map (some r2)))::(8,.n .i64 ((l.getD k 0:Nat):Int))::pe l r0 r1 (cK K l k) k)/\H=ba ob []) (Wk.mkS [] [] ?_ ?_ ?_) ⟨[],[],_,rfl,hw3,hcs3,hob3,Nat.le_refl _,λv=>⟨λh=>(by cases h),λ⟨o,ho,_⟩=>(by cases ho)⟩,rfl,rfl⟩ ?_
   ·simp only[bk,bh,pe,go_sem,simprocAttr]
    repeat' refine ab ?_ ?_
    all_goals first|exact bu|skip
    all_goals exact Wv.same rfl
   ·exact .nil
   ·simp
   clear hcs3 hob3 hw3 ht hcs2 hob2 hmo hlk hat hcs hr2
   rintro mm e H ⟨d,tk,ob,rfl,hw,hcs,hob2,htl,htk,rfl,rfl⟩
   have hat:=hcs.io.at_ _ a hp
   have hout:=hcs.out
   obtain⟨seen,cur,hsn,hot⟩:=hw.it
   repeat first|with_reducible refine aw ?_|simp only[hot,hat,go_sem,simprocAttr]
   refine kS hw.nd hw.sub hsn (λo ho hod y hcur hwo=>?_) (λhall=>?_)
   ·have hwo:=hwo ob
    have hlen2:=hwo.len
    rw[List.length_append,List.length_singleton] at hlen2
    have hcs4:=hcs.other f0 f1 f2 (.it y)
    have hout4:=hcs4.out
    have hob4:bp ob t (.it y) r2=some (.mp (bO tk)):=by rw[aW _ _ (Ne.symm htr2)];exact hob2
    have hlk:=sf hget true o
    cases hnm:jL K l k o with
    |none=>
     rw[hnm] at hlk
     simp only[Option.isSome_none,Option.getD_none] at hlk
     repeat first|with_reducible refine aw ?_|simp only[hcur,hout4,hlk,go_sem,simprocAttr]
     refine⟨_,_,_,?_,Wk.mkS [] [] ?_ ?_ ?_,d++[o],tk,_,rfl,hwo,hcs4,hob4,by rw[List.length_append];omega,λv=>(htk v).trans ⟨λ⟨o',h1,h2⟩=>⟨o',List.mem_append.2 (.inl h1),h2⟩,λ⟨o',h1,h2⟩=>?_⟩,rfl,rfl⟩
     ·rw[List.length_append,List.length_singleton];omega
     ·simp only[bk,bh,pe,go_sem,simprocAttr]
      repeat' refine ab ?_ ?_
      all_goals first|exact bu|skip
      all_goals exact Wv.same rfl
     ·exact .nil
     ·simp
     ·rcases List.mem_append.1 h1 with h1|h1
      ·exact⟨o',h1,h2⟩
      ·simp at h1;subst h1;rw[hnm] at h2;cases h2
    |some v=>
     rw[hnm] at hlk
     repeat first|with_reducible refine aw ?_|simp only[hcur,hout4,hlk,hob4,go_sem,simprocAttr]
     have hcs5:=hcs4.clr.other g0 g1 g2 (.mp ((bO tk).put v (.b true)))
     refine⟨rfl,_,_,_,?_,Wk.mkS [] [] ?_ ?_ ?_,d++[o],gW tk v,_,rfl,hwo.keep (λz hz=>⟨none,by rw[aW _ _ htr2];exact ui hz⟩),hcs5,by rw[aJ,i6],?_,λv'=>?_,rfl,rfl⟩
     ·rw[List.length_append,List.length_singleton];omega
     ·simp only[bk,bh,pe,go_sem,simprocAttr]
      repeat' refine ab ?_ ?_
      all_goals first|exact bu|skip
      all_goals exact Wv.same rfl
     ·exact .nil
     ·simp
     ·rw[List.length_append,List.length_singleton]
      unfold gW
      split
      ·omega
      ·rw[List.length_append,List.length_singleton];omega
     ·rw[dc,htk]
      constructor
      ·rintro (⟨o',h1,h2⟩|rfl)
       ·exact⟨o',List.mem_append.2 (.inl h1),h2⟩
       ·exact⟨o,List.mem_append.2 (.inr (by simp)),hnm⟩
      ·rintro ⟨o',h1,h2⟩
       rcases List.mem_append.1 h1 with h1|h1
       ·exact .inl ⟨o',h1,h2⟩
       ·simp at h1;subst h1;rw[hnm] at h2;exact .inr (Option.some.inj h2).symm
   ·repeat first|with_reducible refine aw ?_|simp only[go_sem,simprocAttr]
    refine GA.wk (Wk.mkS (L:=(13,.n .i64 0)::(9,.cv (.map (some r2)))::(8,.n .i64 ((l.getD k 0:Nat):Int))::pe l r0 r1 (cK K l k) k) (bl:=[]) [] [] ?_ ?_ ?_) ?_
    ·simp only[bk,bh,pe,go_sem,simprocAttr]
     repeat' refine ab ?_ ?_
     all_goals first|exact bu|skip
     all_goals exact Wv.same rfl
    ·exact .nil
    ·simp
    refine ue T T' l hl hll r0 r1 r2 pa K k hkl x ob hcs hown hget hmex tk (by have:=hw.len;omega) hob2 (λv=>(htk v).trans ⟨λ⟨o,h1,h2⟩=>⟨o,(hTT _ o).1 (hw.sub o h1),h2⟩,λ⟨o,h1,h2⟩=>⟨o,hall o ((hTT _ o).2 h1),h2⟩⟩) _ (λK' x' ob' e' H' c1 c2 c3 c4 hwk=>?_)
    simp only[go_sem,simprocAttr]
    refine GA.wk hwk ?_
    repeat first|with_reducible refine aw ?_|simp only[ha,go_sem,simprocAttr]
    refine⟨_,_,_,?_,Wk.mkS [] [] ?_ ?_ ?_,k+1,K',x',ob',rfl,by omega,c1,c2,c3,c4,rfl,rfl⟩
    ·omega
    ·simp only[bk,bh,pe,go_sem,simprocAttr]
     repeat' refine ab ?_ ?_
     all_goals first|exact bu|skip
     all_goals exact Wv.same rfl
    ·exact .nil
    ·simp
 ·have hkk:k=l.length:=by omega
  subst hkk
  repeat first|with_reducible refine aw ?_|simp only[go_sem,simprocAttr]
  refine⟨_,λr=>if r=r1 then some (.mp x) else none,[_,_],⟨r1,x,K,rfl,if_pos rfl,hget,hmex⟩,rfl,⟨⟨rfl,rfl⟩,⟨rfl,rfl⟩,True.intro⟩,λr y hy=>?_⟩
  have hy:(if r=r1 then some (OB.mp x) else none)=some y:=hy
  split at hy
  ·rename_i e
   cases hy
   subst e
   exact⟨hcs.out,hown⟩
  ·cases hy
end Go.Proofs.Yteopfmnnhlhbmaa
namespace Go.Proofs.Yteopfmnnhlhbmaa
open Go.RowKit
theorem yk{P:Program}{f:FuncId}{args:List AV}{x:AV}(hx:x.pu 3=true)(h:rv P f args λv H=>∃M,Cv M H v x):bR P f args [.v x]:=by
 refine⟨h.1,λφ w args' hφ ha=>(h.2 φ w args' hφ ha).mono λe w' hq=>?_⟩
 cases e with
 |panicked c=>exact hq.elim
 |outgrown=>exact hq.elim
 |returned u=>
  obtain⟨v,Hc,σ',⟨M,hcv⟩,hv,hH,hb,hz⟩:=hq
  obtain⟨σ2,q1,q2,q3,q4,q5,q6,q7⟩:=hH.marks M
  have hu:=hcv.ok hH q1 q2 q7 hv
  exact⟨x,b9 Hc M,σ2,⟨[x],rfl,⟨rfl,hx⟩,True.intro⟩,hu.mono σ2.bare_le,q6,hb,λc hc=>(q4.eq c hc).trans (hz c hc)⟩
def bE(cs:List In)(pt:Nat->Nat)(i:Nat):List Nat:=
 if bU cs i=27\/bU cs i=29\/bU cs i=30 then[i+1,pt i+1]
 else if bU cs i=28 then[pt i+1]
 else if bU cs i=31 then(if bU cs (pt i)=29 then[pt i+1,i+1] else[i+1])
 else[i+1]
theorem rG{M:List Nat}{H:AH}{b a:Nat}{x:AB}(hx:H.at b=some x)(hm:M.contains b=true)(hs:1=x.size)(hg:x.get 0= .n .i64 (a:Int)){nx:Nat->List Nat}{i:Nat}(hnx:nx i=[a]):Cv M H (.sl b 0 1 1) (gC nx i 0):=oO hx hm hs hnx hg
theorem wU{M:List Nat}{H:AH}{b a a2:Nat}{x:AB}(hx:H.at b=some x)(hm:M.contains b=true)(hs:2=x.size)(hg:x.get 0= .n .i64 (a:Int))(hg2:x.get 1= .n .i64 (a2:Int)){nx:Nat->List Nat}{i:Nat}(hnx:nx i=[a,a2]):Cv M H (.sl b 0 2 2) (gC nx i 0):=by
 unfold gC
 rw[hnx]
 refine .sl (by simpa using hm) hx (by rw[<-hs];decide) (by decide) (by rw[<-hs];decide) (λp j hp hj=>?_) (λp j hp hj=>rfl)
 obtain rfl:j=0:=by omega
 have hp':p<2:=hp
 obtain rfl|rfl:p=0\/p=1:=by omega
 ·exact hg
 ·exact hg2
theorem ny(cs:List In)(hn:cs.length<=16384)(pr:List Int)(hpr:pr.length=cs.length)(pt:Nat->Nat)(i:Nat)(hil:i<cs.length)(hp:dN (bU cs i)->pr.getD i 0=(pt i:Int)/\pt i<cs.length):
  bR Try.prog 59 [.fs 5 cs.length (cC cs),.fs 1 pr.length (iC .i64 pr),.n .i64 i] [.v (gC (bE cs pt) i 0)]:=by
 have hadd:∀j:Nat,j<100000->IntKind.wrap .i64 ((j:Int)+1)=((j+1:Nat):Int):=λj hj=>by rw[aU (by omega)];omega
 have hi0:(0:Int)<=(i:Int):=by omega
 have h:(i:Int)<(cs.length:Int):=by omega
 have ha:=hadd i (by omega)
 have hcc0:=ww cs i
 have hic:iC .i64 pr i 0= .n .i64 (pr.getD i 0):=rfl
 have hp0:(0:Int)<=(pt i:Int):=by omega
 have hpc0:=ww cs (pt i)
 have hnx:bE cs pt i=bE cs pt i:=rfl
 conv at hnx=>rhs;unfold bE
 have hopp:(cs.getD (pt i) (0,0,0,0,0)).1=bU cs (pt i):=rfl
 have hopi:(cs.getD i (0,0,0,0,0)).1=bU cs i:=rfl
 rw[hopi] at hcc0
 rw[hopp] at hpc0
 generalize bU cs i=op at*
 generalize bU cs (pt i)=opp at*
 refine yk (by rfl) (aK bf Lb ⟨by simp,by decide⟩ ?_)
 simp only[bI]
 have hcase:(op=27\/op=29\/op=30)\/op=28\/op=31\/¬dN op:=by unfold dN;omega
 rcases hcase with h1|h1|h1|h1
 ·obtain⟨hpe,hpl⟩:=hp (by unfold dN;omega)
  have hap:=hadd (pt i) (by omega)
  rw[hpe] at hic
  rw[if_pos h1] at hnx
  rcases h1 with rfl|rfl|rfl
  all_goals
   repeat first|with_reducible refine aw ?_|simp only[hi0,h,hpr,hcc0,hic,ha,hap,decide_true,decide_false,go_sem,simprocAttr]
   exact⟨[0],wU (by simp only[go_sem,simprocAttr];rfl) (by rfl) (by rfl) (by first|rfl|simp only[go_sem,simprocAttr]) (by first|rfl|simp only[go_sem,simprocAttr]) hnx⟩
 ·obtain⟨hpe,hpl⟩:=hp (by unfold dN;omega)
  have hap:=hadd (pt i) (by omega)
  rw[hpe] at hic
  subst h1
  rw[if_neg (by decide),if_pos rfl] at hnx
  repeat first|with_reducible refine aw ?_|simp only[hi0,h,hpr,hcc0,hic,ha,hap,decide_true,decide_false,go_sem,simprocAttr]
  exact⟨[0],rG (by simp only[go_sem,simprocAttr];rfl) (by rfl) (by rfl) (by first|rfl|simp only[go_sem,simprocAttr]) hnx⟩
 ·obtain⟨hpe,hpl⟩:=hp (by unfold dN;omega)
  have hap:=hadd (pt i) (by omega)
  have hpl':(pt i:Int)<(cs.length:Int):=by omega
  rw[hpe] at hic
  subst h1
  rw[if_neg (by decide),if_neg (by decide),if_pos rfl] at hnx
  by_cases ho:opp=29
  ·rw[if_pos ho] at hnx
   subst ho
   repeat first|with_reducible refine aw ?_|simp only[hi0,h,hpr,hcc0,hic,ha,hap,hp0,hpl',hpc0,decide_true,decide_false,go_sem,simprocAttr]
   exact⟨[0],wU (by simp only[go_sem,simprocAttr];rfl) (by rfl) (by rfl) (by first|rfl|simp only[go_sem,simprocAttr]) (by first|rfl|simp only[go_sem,simprocAttr]) hnx⟩
  ·rw[if_neg ho] at hnx
   repeat first|with_reducible refine aw ?_|simp only[hi0,h,hpr,hcc0,hic,ha,hap,hp0,hpl',hpc0,ho,decide_true,decide_false,go_sem,simprocAttr]
   exact⟨[0],rG (by simp only[go_sem,simprocAttr];rfl) (by rfl) (by rfl) (by first|rfl|simp only[go_sem,simprocAttr]) hnx⟩
 ·have hn27:¬op=27:=λe=>h1 (.inl e)
  have hn28:¬op=28:=λe=>h1 (.inr (.inl e))
  have hn29:¬op=29:=λe=>h1 (.inr (.inr (.inl e)))
  have hn30:¬op=30:=λe=>h1 (.inr (.inr (.inr (.inl e))))
  have hn31:¬op=31:=λe=>h1 (.inr (.inr (.inr (.inr e))))
  rw[if_neg (by omega),if_neg hn28,if_neg hn31] at hnx
  repeat first|with_reducible refine aw ?_|simp only[hi0,h,hpr,hcc0,hic,ha,hn27,hn28,hn29,hn30,hn31,decide_true,decide_false,go_sem,simprocAttr]
  exact⟨[0],rG (by simp only[go_sem,simprocAttr];rfl) (by rfl) (by rfl) (by first|rfl|simp only[go_sem,simprocAttr]) hnx⟩
theorem xf(l:List Int)(hl:l.length<=100000)(v:Int):bR Try.prog 73 [.fs 1 l.length (iC .i64 l),.n .i64 v] [.v (.b (l.contains v))]:=by
 have hadd:∀j:Nat,j<200000->IntKind.wrap .i64 ((j:Int)+1)=((j+1:Nat):Int):=λj hj=>by rw[aU (by omega)];omega
 refine aK bf KW ⟨by simp,by decide⟩ ?_
 simp only[bI]
 repeat first|with_reducible refine aw ?_|simp only[go_sem,simprocAttr]
 refine GA.loop (I:=λmm e H=>∃(k:Nat),mm=l.length-k/\k<=l.length/\(∀i,i<k->l.getD i 0≠v)/\e=aE [(0,.fs 1 l.length (iC .i64 l)),(1,.n .i64 v),(5,.n .i64 k)]/\H=aN []) (Wk.mk [] [] ?_ ?_ ?_) ⟨0,rfl,Nat.zero_le _,λi hi=>by omega,rfl,rfl⟩ ?_
 ·simp only[bk,bh,go_sem,simprocAttr]
  repeat' refine ab ?_ ?_
  all_goals first|exact bu|skip
 ·exact .nil
 ·simp
 rintro mm e H ⟨k,rfl,hk,hno,rfl,rfl⟩
 repeat first|with_reducible refine aw ?_|simp only[go_sem,simprocAttr]
 refine⟨λh=>?_,λh=>?_⟩
 ·have hkl:k<l.length:=by omega
  have hk0:(0:Int)<=(k:Int):=by omega
  have ha:=hadd k (by omega)
  have hic:iC .i64 l k 0= .n .i64 (l.getD k 0):=rfl
  repeat first|with_reducible refine aw ?_|simp only[hk0,h,hic,decide_true,go_sem,simprocAttr]
  refine⟨λhe=>?_,λhne=>?_⟩
  ·have hc:l.contains v=true:=by
    rw[List.contains_iff_mem,<-he,List.getD_eq_getElem?_getD,List.getElem?_eq_getElem hkl]
    exact List.getElem_mem hkl
   rw[hc]
   repeat first|with_reducible refine aw ?_|simp only[go_sem,simprocAttr]
   exact⟨[_],rfl,⟨rfl,rfl⟩,True.intro⟩
  ·repeat first|with_reducible refine aw ?_|simp only[ha,go_sem,simprocAttr]
   refine⟨_,_,_,?_,Wk.mk [] [] ?_ ?_ ?_,k+1,rfl,by omega,λi hi=>?_,rfl,rfl⟩
   ·omega
   ·simp only[bk,bh,go_sem,simprocAttr]
    repeat' refine ab ?_ ?_
    all_goals first|exact bu|skip
   ·exact .nil
   ·simp
   ·by_cases e:i=k
    ·subst e;exact hne
    ·exact hno i (by omega)
 ·have hk':k=l.length:=by omega
  subst hk'
  have hc:l.contains v=false:=by
   rw[<-Bool.not_eq_true,List.contains_iff_mem]
   intro hm
   obtain⟨i,hi,rfl⟩:=List.mem_iff_getElem.1 hm
   exact hno i hi (by rw[List.getD_eq_getElem?_getD,List.getElem?_eq_getElem hi];rfl)
  rw[hc]
  repeat first|with_reducible refine aw ?_|simp only[go_sem,simprocAttr]
  exact⟨[_],rfl,⟨rfl,rfl⟩,True.intro⟩
def ja(nm:List Int)(r:Int):Int:=if r<0 then-1 else nm.getD r.toNat 0
def bC(s:Nat->Bool)(i _j:Nat):AV:= .b (s i)
def dH(s:Nat->Bool)(n:Nat):List Nat:=(List.range n).filter s
theorem u7(s:Nat->Bool)(n:Nat):dH s (n+1)=if s n=true then dH s n++[n] else dH s n:=by
 unfold dH
 rw[List.range_succ,List.filter_append]
 cases h:s n<;>simp[h]
theorem xK(s:Nat->Bool)(n:Nat):(dH s n).length<=n:=by
 have:=List.length_filter_le s (List.range n)
 rw[List.length_range] at this
 exact this
theorem rK(s:Nat->Bool)(n:Nat)(hn:n<=100000):bR Try.prog 41 [.fs 1 n (bC s)] [.o 3 1 (dH s n).length 0 (fe (dH s n))]:=by
 have hadd:∀j:Nat,j<200000->IntKind.wrap .i64 ((j:Int)+1)=((j+1:Nat):Int):=λj hj=>by rw[aU (by omega)];omega
 refine aK bf Lk ⟨by simp,by decide⟩ ?_
 simp only[bI]
 repeat first|with_reducible refine aw ?_|simp only[go_sem,simprocAttr]
 refine GA.wk (Wk.nil 3 1 3 (by simp only[go_sem,simprocAttr]) (by decide) (by simp only[go_sem,simprocAttr])) ?_
 refine GA.loop (I:=λmm e H=>∃(k:Nat),mm=n-k/\k<=n/\e=aE [(0,.fs 1 n (bC s)),(3,.os 0 (dH s k).length),(4,.n .i64 k)]/\H=aN [aH 3 1 (dH s k).length 0 (fe (dH s k))]) (Wk.mk [0] [] ?_ ?_ ?_) ⟨0,rfl,Nat.zero_le _,rfl,rfl⟩ ?_
 ·simp only[bk,bh,go_sem,simprocAttr]
  repeat' refine ab ?_ ?_
  all_goals first|exact bu|skip
 ·exact .cons rfl (.rowW (by simp only[go_sem,simprocAttr];rfl) (by rfl) (by rfl) (by rfl) (by show 0<=_;exact Nat.zero_le _) (by exact Nat.le_refl _) rfl (by decide) (λi j hi=>absurd (show i<0 from hi) (Nat.not_lt_zero _))) .nil
 ·simp
 rintro mm e H ⟨k,rfl,hk,rfl,rfl⟩
 repeat first|with_reducible refine aw ?_|simp only[go_sem,simprocAttr]
 refine⟨λh=>?_,λh=>?_⟩
 ·have hkl:k<n:=by omega
  have hk0:(0:Int)<=(k:Int):=by omega
  have ha:=hadd k (by omega)
  have hbC:bC s k 0= .b (s k):=rfl
  have hlen:=xK s k
  have hl1:(dH s k).length+1<1099511627776:=by omega
  have hl2:((dH s k).length+1)*8<=140737488355328:=by omega
  have hl3:(dH s k).length<=9223372036854775806:=by omega
  have hsc:=u7 s k
  cases hs:s k with
  |true=>
   rw[hs] at hbC
   rw[if_pos hs] at hsc
   repeat first|with_reducible refine aw ?_|simp only[hk0,h,hbC,decide_true,ha,hl1,hl2,hl3,go_sem,simprocAttr]
   have hlen2:(dH s (k+1)).length=(dH s k).length+1:=by rw[hsc,List.length_append,List.length_singleton]
   refine⟨_,aE [(0,.fs 1 n (bC s)),(3,.os 0 (dH s (k+1)).length),(4,.n .i64 (k+1:Nat))],aN [aH 3 1 (dH s (k+1)).length 0 (fe (dH s (k+1)))],?_,Wk.mk (L:=[(0,.fs 1 n (bC s)),(3,.os 0 (dH s (k+1)).length),(4,.n .i64 (k+1:Nat))]) [2] [] ?_ ?_ ?_,k+1,rfl,by omega,rfl,rfl⟩
   ·omega
   ·rw[hlen2]
    simp only[bk,bh,go_sem,simprocAttr]
    repeat' refine ab ?_ ?_
    all_goals first|exact bu|skip
   ·rw[hlen2]
    refine .cons rfl (.rowW (by simp only[go_sem,simprocAttr];rfl) (by rfl) (by rfl) (by rfl) (by rw[app_size];show((dH s k).length+1)*1<=_;simp only[cg.len,List.length_singleton];omega) (by rw[cz];exact Nat.le_refl _) rfl (by decide) (λq j hq hj=>?_)) .nil
    obtain rfl:j=0:=by omega
    rw[Nat.mul_one,Nat.add_zero,db _ _ _ (by omega) _ hq]
    by_cases e:q<(dH s k).length
    ·rw[if_pos e]
     have:=aL (ty:=3) (n:=(dH s k).length) (z:=0) (row:=fe (dH s k)) q 0 (by decide:0<1)
     rw[Nat.mul_one,Nat.add_zero] at this
     rw[this]
     unfold fe
     rw[hsc,List.getD_eq_getElem?_getD,List.getD_eq_getElem?_getD,List.getElem?_append_left e]
     exact .cv (.rfl (by rfl))
    ·obtain rfl:q=(dH s k).length:=by omega
     rw[if_neg e]
     unfold fe
     rw[hsc,List.getD_eq_getElem?_getD,List.getElem?_append_right (Nat.le_refl _)]
     simp only[Nat.sub_self,List.getElem?_cons_zero,Option.getD_some]
     exact .cv (.rfl (by rfl))
   ·simp
  |false=>
   rw[hs] at hbC
   rw[if_neg (by rw[hs];decide)] at hsc
   repeat first|with_reducible refine aw ?_|simp only[hk0,h,hbC,decide_true,ha,go_sem,simprocAttr]
   refine⟨_,_,_,?_,Wk.mk [0] [] ?_ ?_ ?_,k+1,rfl,by omega,by rw[hsc],by rw[hsc]⟩
   ·omega
   ·simp only[bk,bh,go_sem,simprocAttr]
    repeat' refine ab ?_ ?_
    all_goals first|exact bu|skip
   ·exact .cons rfl .k1 .nil
   ·simp
 ·have hk':k=n:=by omega
  subst hk'
  repeat first|with_reducible refine aw ?_|simp only[go_sem,simprocAttr]
  exact⟨[_],rfl,dS.o (x:=_) (by simp only[go_sem,simprocAttr]) rfl rfl rfl (by decide) (Nat.le_refl _) (Nat.le_refl _) (λi j hi hj=>aL i j hj) (λi j _ _=>rfl) rfl .nil⟩
end Go.Proofs.Yteopfmnnhlhbmaa