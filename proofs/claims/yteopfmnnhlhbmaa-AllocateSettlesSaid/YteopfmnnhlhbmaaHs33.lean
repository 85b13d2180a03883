/- A part of the proof of AllocateSettles: LiA PrsA OcA CoA CpA InA InB InC InD InE InF CoB SuA RfA RfB. No condition. -/
import Derived.Test.YteopfmnnhlhbmaaHs19
import Derived.Test.YteopfmnnhlhbmaaHs23
import Derived.Test.YteopfmnnhlhbmaaHs24
import Derived.Test.YteopfmnnhlhbmaaHs32
import Derived.Test.YteopfmnnhlhbmaaHs13
import Derived.Test.YteopfmnnhlhbmaaHs15
import Derived.Test.YteopfmnnhlhbmaaHs17
set_option linter.unusedSimpArgs false
set_option linter.unusedVariables false
set_option linter.constructorNameAsVariable false
set_option maxRecDepth 100000
set_option maxHeartbeats 4000000
namespace Go.Proofs.Yteopfmnnhlhbmaa
open Go.RowKit
noncomputable def dy(cs:List In)(nx:Nat->List Nat)(R i:Nat):List Nat:=(List.range R).filter λr:Nat=> @Decidable.decide (bt cs nx i (r:Int)) (Classical.propDecidable _)
theorem nv{cs:List In}{nx:Nat->List Nat}{R i r:Nat}:r ∈ dy cs nx R i↔r<R/\bt cs nx i (r:Int):=by
 unfold dy
 rw[List.mem_filter,List.mem_range,@decide_eq_true_iff _ (Classical.propDecidable _)]
theorem oC(cs:List In)(nx:Nat->List Nat)(R i:Nat):(dy cs nx R i).Pairwise (· < ·):=List.Pairwise.filter _ List.pairwise_lt_range
theorem vr(cs:List In)(nx:Nat->List Nat)(R i:Nat):(dy cs nx R i).length<=R:=by
 have:=List.length_filter_le (λr:Nat=> @Decidable.decide (bt cs nx i (r:Int)) (Classical.propDecidable _)) (List.range R)
 rw[List.length_range] at this
 exact this
theorem kd{l1 l2:List Int}(h1:l1.Pairwise (· < ·))(h2:l2.Pairwise (· < ·))(hm:∀k,k ∈ l1↔k ∈ l2):l1=l2:=
 List.Perm.eq_of_pairwise (le:=(· < ·)) (λa b _ _ p q=>by omega) h1 h2 ((List.perm_ext_iff_of_nodup (h1.imp λh=>by omega) (h2.imp λh=>by omega)).2 hm)
theorem sa{cs:List In}{nx:Nat->List Nat}{R i:Nat}{zs:List Int}(hm:∀k,k ∈ zs↔bt cs nx i k)(hp:zs.Pairwise (· < ·))(hr:∀k,bt cs nx i k->0<=k/\k<(R:Int)):zs=(dy cs nx R i).map (λn:Nat=>(n:Int)):=by
 refine kd hp (List.pairwise_map.2 ((oC cs nx R i).imp λh=>by omega)) (λk=>?_)
 rw[hm,List.mem_map]
 constructor
 ·intro h
  obtain⟨a,b⟩:=hr k h
  exact⟨k.toNat,nv.2 ⟨by omega,by rwa [Int.toNat_of_nonneg a]⟩,Int.toNat_of_nonneg a⟩
 ·rintro ⟨n,h,rfl⟩
  exact(nv.1 h).2
theorem yx(l:List Nat):(AV.fs 1 (l.map (λn:Nat=>(n:Int))).length (λj _=> .n .i64 ((l.map (λn:Nat=>(n:Int))).getD j 0)))= .fs 1 l.length (λj _=> .n .i64 ((l.getD j 0:Nat):Int)):=by
 rw[List.length_map]
 congr 1
 funext j _
 congr 1
 rw[List.getD_eq_getElem?_getD,List.getD_eq_getElem?_getD,List.getElem?_map]
 cases l[j]? <;>rfl
theorem qo(r:Nat):bS Try.prog 38 [.cv (.map (some r))] [.v (.f 71 [] [.bx 1 (λ_=> .cv (.map (some r)))])]:=by
 refine aN bh Lm ⟨by simp,by decide⟩ ?_
 simp only[bN]
 (try simp only[go_sem,simprocAttr])
 iterate 4 (with_reducible refine GA.go bh rfl ?_;try simp only[go_sem,simprocAttr])
 refine GA.wk (Wk.mk (L:=[(2,.f 71 [] [.bx 1 (λ_=> .cv (.map (some r)))])]) (bl:=[]) [] [0] ?_ ?_ ?_) ?_
 ·exact⟨⟨by decide,.f 71 [] [.p 0 0],by simp only[go_sem,simprocAttr],.cv (.fn .nil (.cons (.bx (x:=bf 0 70 [.cv (.map (some r))]) (List.mem_cons_self ..) (by simp only[go_sem,simprocAttr]<;>rfl) (by show 1<=1;decide) (by show 0<1;decide) (λq hq=>by obtain rfl:q=0:=(by omega);rfl) (λq hq=>rfl)) .nil))⟩,True.intro⟩
 ·exact .nil
 ·decide
 repeat first|with_reducible refine am ?_|simp only[go_sem,simprocAttr]
 exact⟨[_],rfl,⟨rfl,rfl⟩,True.intro⟩
theorem Bl(la:List (Bool×Int))(regs par:Int)(cs:List In)(hla:la.length<1000000)(harg:∀x ∈ cs,0<=x.2.2.2.2/\x.2.2.2.2<4294967296)(hc0:(dM la regs par cs).2=0)
  (nx:Nat->List Nat) (R:Nat) (hRs:R<=100000) (hg:bS Try.prog 66 [.fs 5 cs.length (cC cs)] [.v (.fs 1 cs.length (gC nx))]) (hn:cs.length<=16384)
  (hops:∀x ∈ cs,0<=x.1/\x.1<39) (hnx:∀i,i<cs.length->∀k ∈ nx i,k<=cs.length) (hnl:∀i,(nx i).length<=2) (hR:∀x ∈ cs,∀r ∈ aA x.1 x.2.2.1 x.2.2.2.1,0<=r/\r<(R:Int)) (hw1:∀i k,i<cs.length->k ∈ nx i->k=i->aW (cs.getD i (0,0,0,0,0)).1 (cs.getD i (0,0,0,0,0)).2.1= -1):
  bS Try.prog 11 [aB la.length (aC la) regs par cs] [.v (.fs 1 (cs.length+1) (gC (dy cs nx R))),.v (.n .i64 0)]:=by
 have hadd:∀j:Nat,j<100000->IntKind.wrap .i64 ((j:Int)+1)=((j+1:Nat):Int):=λj hj=>by rw[aX (by omega)];omega
 have hck:=nN la regs par cs hla (by omega) harg
 rw[hc0] at hck
 have hlv:=jo cs nx R hg hn hops hnx hnl hR hw1
 have hrange:∀i k,bt cs nx i k->0<=k/\k<(R:Int):=λi k h=>h.range hR
 refine aN bh L7 ⟨by simp,by decide⟩ ?_
 simp only[bN,aB]
 repeat first|with_reducible refine am ?_|simp only[go_sem,simprocAttr]
 refine vB hck ?_
 repeat first|with_reducible refine am ?_|simp only[go_sem,simprocAttr]
 refine bO [] (.cons (.rfl (by rfl)) .nil) hlv True.intro (by simp only[go_sem,simprocAttr]) ?_
 rintro rs N ⟨S,ad,hS,hob0,rfl⟩ hfree
 repeat first|with_reducible refine am ?_|simp only[go_sem,simprocAttr]
 refine GA.wk (Wk.nil 8 1 39 (by simp only[go_sem,simprocAttr]) (by decide) (by simp only[go_sem,simprocAttr])) ?_
 refine GA.loop (I:=λmm e H=>∃(i:Nat) (ob:Nat->Option OB),mm=cs.length+1-i/\i<=cs.length+1/\eH (cs.length+1) ad S ob/\e=aF [(8,.os 0 i),(25,.fs 1 (cs.length+1) (zR ad)),(26,.n .i64 (cs.length+1:Nat)),(27,.n .i64 i)]/\H=a8 ob [aI 39 1 i 0 (gC (dy cs nx R))]) (Wk.mkS [1] [] ?_ ?_ ?_) ⟨0,_,rfl,Nat.zero_le _,?_,rfl,rfl⟩ ?_
 ·simp only[bj,bc,go_sem,simprocAttr]
  repeat' refine ab ?_ ?_
  all_goals first|exact bw|skip
 ·exact .cons rfl (.rowW (by simp only[go_sem,simprocAttr];rfl) (by rfl) (by rfl) (by rfl) (by decide) (by exact Nat.le_refl _) rfl (by decide) (λi j hi=>by omega)) .nil
 ·simp
 ·simp only[go_sem,simprocAttr]
  exact⟨λi hi=>(eF (by first|rfl|(rw[cH]))).trans (hob0.at_ i hi),hob0.inj⟩
 rintro mm e H ⟨i,ob,rfl,hi,hob,rfl,rfl⟩
 repeat first|with_reducible refine am ?_|simp only[go_sem,simprocAttr]
 refine⟨λh=>?_,λh=>?_⟩
 ·have hil:i<cs.length+1:=by omega
  have hi0:(0:Int)<=(i:Int):=by omega
  have ha:=hadd i (by omega)
  have hl1:i+1<1099511627776:=by omega
  have hl2:(i+1)*24<=140737488355328:=by omega
  have hl3:i<=9223372036854775806:=by omega
  have had:zR ad i 0= .cv (.map (some (ad i))):=rfl
  repeat first|with_reducible refine am ?_|simp only[hi0,h,had,decide_true,go_sem,simprocAttr]
  refine aw [] (.cons (.rfl (by rfl)) .nil) (qo _) (by simp only[af,List.length_cons,List.length_nil];decide) ?_
  repeat first|with_reducible refine am ?_|simp only[go_sem,simprocAttr]
  obtain⟨hnd,hmem⟩:=hS i (by omega)
  refine bO [] (.cons (.rfl (by rfl)) .nil) (lg _) ⟨bQ (S i),hob.at_ i hil,?_,?_⟩ (by simp only[af,List.length_cons,List.length_nil];decide) ?_
  ·have:=gr hnd (λr hr=>hrange i r ((hmem r).1 hr))
   rw[gj];omega
  ·intro k v hk
   rw[dq] at hk
   split at hk
   ·rename_i hk'
    have:=hrange i k ((hmem k).1 hk')
    omega
   ·cases hk
  rintro rs N2 ⟨ss,hss,hpw,rfl,rfl⟩ hfree2
  have hsl:ss=(dy cs nx R i).map (λn:Nat=>(n:Int)):=sa (λk=>by
   rw[hss _ (hob.at_ i hil) k,dq,<-hmem k]
   by_cases e:k ∈ S i<;>simp[e]) hpw (hrange i)
  subst hsl
  simp only[yx]
  repeat first|with_reducible refine am ?_|simp only[hi0,decide_true,ha,hl1,hl2,hl3,go_sem,simprocAttr]
  refine⟨_,_,_,?_,Wk.mkS [2] [] ?_ ?_ ?_,i+1,_,rfl,by omega,?_,rfl,rfl⟩
  ·omega
  ·simp only[bj,bc,go_sem,simprocAttr]
   repeat' refine ab ?_ ?_
   all_goals first|exact bw|skip
  ·exact .cons rfl (.rowW (by simp only[go_sem,simprocAttr];rfl) (by rfl) (by rfl) (by rfl) (by rw[app_size];show(i+1)*1<=_;simp only[cf.len,List.length_singleton];omega) (by rw[cw];exact Nat.le_refl _) rfl (by decide) (λq j hq hj=>dR (by omega) hq hj (.rfl (by rfl)))) .nil
  ·simp
  ·(try simp only[cH,go_sem,simprocAttr]);exact hob
 ·have hk:i=cs.length+1:=by omega
  subst hk
  refine GA.wk (Wk.mkS (L:=[(8,.fs 1 (cs.length+1) (gC (dy cs nx R)))]) (bl:=[]) [] [0] ?_ ?_ ?_) ?_
  ·refine⟨⟨by decide,.os 0 (cs.length+1),by simp only[go_sem,simprocAttr],.cv (.os (x:=aI 39 1 (cs.length+1) 0 (gC (dy cs nx R))) (by simp) (by simp only[go_sem,simprocAttr]) (Nat.le_refl _) (λi j _ hj=>aO i j hj) (λi j _ _=>rfl))⟩,True.intro⟩
  ·exact .nil
  ·simp
  repeat first|with_reducible refine am ?_|simp only[go_sem,simprocAttr]
  exact⟨[_,_],rfl,⟨rfl,rfl⟩,⟨rfl,rfl⟩,True.intro⟩
def Cp(L:Nat->List Nat):Nat->Nat
 |0=>0
 |n+1=>max (Cp L n) (L n).length
theorem oq(na:Nat)(ra:Nat->Nat->AV)(regs par:Int)(cs:List In)(L:Nat->List Nat)(n:Nat)(hn:n<=20000)(e:Int)(hL:∀i,(L i).length<=100000)(hlive:bS Try.prog 11 [aB na ra regs par cs] [.v (.fs 1 n (gC L)),.v (.n .i64 e)]):
  bS Try.prog 13 [aB na ra regs par cs] [.v (.n .i64 (Cp L n)),.v (.n .i64 e)]:=by
 have hadd:∀j:Nat,j<100000->IntKind.wrap .i64 ((j:Int)+1)=((j+1:Nat):Int):=λj hj=>by rw[aX (by omega)];omega
 simp only[aB] at hlive
 refine aN bh Lh ⟨by simp,by decide⟩ ?_
 simp only[bN,aB]
 repeat first|with_reducible refine am ?_|simp only[go_sem,simprocAttr]
 refine vB hlive ?_
 repeat first|with_reducible refine am ?_|simp only[go_sem,simprocAttr]
 refine GA.loop (I:=λmm e' H=>∃(i:Nat),mm=n-i/\i<=n/\e'=aF [(6,.n .i64 (Cp L i)),(5,.n .i64 e),(14,.fs 1 n (gC L)),(15,.n .i64 n),(16,.n .i64 i)]/\H=ba []) (Wk.mk [] [] ?_ ?_ ?_) ⟨0,rfl,Nat.zero_le _,rfl,rfl⟩ ?_
 ·simp only[bj,bc,go_sem,simprocAttr]
  repeat' refine ab ?_ ?_
  all_goals first|exact bw|skip
 ·exact .nil
 ·simp
 rintro mm e' H ⟨i,rfl,hi,rfl,rfl⟩
 repeat first|with_reducible refine am ?_|simp only[go_sem,simprocAttr]
 refine⟨λh=>?_,λh=>?_⟩
 ·have hil:i<n:=by omega
  have hi0:(0:Int)<=(i:Int):=by omega
  have ha:=hadd i (by omega)
  have hgC:gC L i 0= .fs 1 (L i).length (λj _=> .n .i64 (((L i).getD j 0:Nat):Int)):=rfl
  have hmx:(if(Cp L i:Int)<((L i).length:Int) then((L i).length:Int) else(Cp L i:Int))=((Cp L (i+1):Nat):Int):=by
   show _=((max (Cp L i) (L i).length:Nat):Int)
   split<;>omega
  repeat first|with_reducible refine am ?_|simp only[hi0,h,hgC,decide_true,ha,hmx,go_sem,simprocAttr]
  refine⟨_,_,_,?_,Wk.mk [] [] ?_ ?_ ?_,i+1,rfl,by omega,rfl,rfl⟩
  ·omega
  ·simp only[bj,bc,go_sem,simprocAttr]
   repeat' refine ab ?_ ?_
   all_goals first|exact bw|skip
  ·exact .nil
  ·simp
 ·have hk:i=n:=by omega
  subst hk
  repeat first|with_reducible refine am ?_|simp only[go_sem,simprocAttr]
  exact⟨[_,_],rfl,⟨rfl,rfl⟩,⟨rfl,rfl⟩,True.intro⟩
def bK(x:In):List Int:=aA x.1 x.2.2.1 x.2.2.2.1++[aW x.1 x.2.1]
def cJ(cs:List In)(r:Int):Bool:=cs.any λx=>(bK x).contains r
def bA(cs:List In)(R:Nat):List Nat:=(List.range R).filter λr:Nat=>cJ cs (r:Int)
def pn(s:List Int)(r:Int):List Int:=if 0<=r then gN s r else s
def fc(s l:List Int):List Int:=l.foldl pn s
def mA(cs:List In):Nat->List Int
 |0=>[]
 |k+1=>fc (mA cs k) (bK (cs.getD k (0,0,0,0,0)))
theorem zQ{s:List Int}{k r:Int}:r ∈ pn s k↔r ∈ s\/(r=k/\0<=k):=by
 unfold pn
 split
 ·rename_i h;rw[dc];simp[h]
 ·rename_i h;simp[h]
theorem s5{s:List Int}(h:s.Nodup)(k:Int):(pn s k).Nodup:=by
 unfold pn;split
 ·exact iT h k
 ·exact h
theorem my:∀(l s:List Int) (r:Int),r ∈ fc s l↔r ∈ s\/(r ∈ l/\0<=r)
 |[],s,r=>by simp[fc]
 |k::l,s,r=>by
  show r ∈ fc (pn s k) l↔_
  rw[my l,zQ,List.mem_cons]
  constructor
  ·rintro ((h|⟨rfl,h⟩)|⟨h1,h2⟩)
   ·exact .inl h
   ·exact .inr ⟨.inl rfl,h⟩
   ·exact .inr ⟨.inr h1,h2⟩
  ·rintro (h|⟨rfl|h1,h2⟩)
   ·exact .inl (.inl h)
   ·exact .inl (.inr ⟨rfl,h2⟩)
   ·exact .inr ⟨h1,h2⟩
theorem jC:∀(l:List Int) {s:List Int},s.Nodup->(fc s l).Nodup
 |[],s,h=>h
 |k::l,s,h=>jC l (s5 h k)
theorem qZ{s l:List Int}{j:Nat}(h:j<l.length):fc s (l.take (j+1))=pn (fc s (l.take j)) (l.getD j 0):=by
 rw[List.take_add_one,List.getElem?_eq_getElem h]
 unfold fc
 rw[List.foldl_append]
 simp[List.getD,h]
theorem mz(cs:List In):∀k,(mA cs k).Nodup
 |0=>List.nodup_nil
 |k+1=>jC _ (mz cs k)
theorem jD(cs:List In):∀k,k<=cs.length->∀r,r ∈ mA cs k↔0<=r/\∃i,i<k/\r ∈ bK (cs.getD i (0,0,0,0,0))
 |0,_,r=>by simp[mA]
 |k+1,h,r=>by
  unfold mA
  rw[my,jD cs k (by omega)]
  constructor
  ·rintro (⟨h0,i,hi,h1⟩|⟨h1,h0⟩)
   ·exact⟨h0,i,by omega,h1⟩
   ·exact⟨h0,k,by omega,h1⟩
  ·rintro ⟨h0,i,hi,h1⟩
   by_cases e:i=k
   ·subst e;exact .inr ⟨h1,h0⟩
   ·exact .inl ⟨h0,i,by omega,h1⟩
theorem gq{cs:List In}{r:Int}:cJ cs r=true↔∃i,i<cs.length/\r ∈ bK (cs.getD i (0,0,0,0,0)):=by
 unfold cJ
 rw[List.any_eq_true]
 constructor
 ·rintro ⟨x,hx,h⟩
  obtain⟨i,hi,rfl⟩:=List.mem_iff_getElem.1 hx
  refine⟨i,hi,?_⟩
  rw[List.getD_eq_getElem?_getD,List.getElem?_eq_getElem hi]
  simpa using h
 ·rintro ⟨i,hi,h⟩
  refine⟨cs[i],List.getElem_mem hi,?_⟩
  rw[List.getD_eq_getElem?_getD,List.getElem?_eq_getElem hi] at h
  simpa using h
theorem gp{cs:List In}{R r:Nat}:r ∈ bA cs R↔r<R/\cJ cs (r:Int)=true:=by
 unfold bA;rw[List.mem_filter,List.mem_range]
theorem cK(cs:List In)(R:Nat):(bA cs R).Pairwise (· < ·):=List.Pairwise.filter _ List.pairwise_lt_range
theorem lC(cs:List In)(R:Nat):(bA cs R).length<=R:=by
 have:=List.length_filter_le (λr:Nat=>cJ cs (r:Int)) (List.range R)
 rw[List.length_range] at this
 exact this
theorem uP{cs:List In}{R:Nat}{zs:List Int}(hm:∀k,k ∈ zs↔0<=k/\cJ cs k=true)(hp:zs.Pairwise (· < ·))(hr:∀k,cJ cs k=true->k<(R:Int)):zs=(bA cs R).map (λn:Nat=>(n:Int)):=by
 refine kd hp (List.pairwise_map.2 ((cK cs R).imp λh=>by omega)) (λk=>?_)
 rw[hm,List.mem_map]
 constructor
 ·rintro ⟨h0,h⟩
  have:=hr k h
  exact⟨k.toNat,gp.2 ⟨by omega,by rwa [Int.toNat_of_nonneg h0]⟩,Int.toNat_of_nonneg h0⟩
 ·rintro ⟨n,h,rfl⟩
  exact⟨by omega,(gp.1 h).2⟩
theorem jH(x:In):(bK x).length=(aA x.1 x.2.2.1 x.2.2.2.1).length+1:=by unfold bK;simp
theorem uq(x:In){ty i j:Nat}(hm:(aA x.1 x.2.2.1 x.2.2.2.1).length<1000000)(hi:i<(aA x.1 x.2.2.1 x.2.2.2.1).length+1)(hj:j<1):
  ((aI ty 1 (aA x.1 x.2.2.1 x.2.2.2.1).length 0 (iC .i64 (aA x.1 x.2.2.1 x.2.2.2.1))).app (aA x.1 x.2.2.1 x.2.2.2.1).length (.li [.n .i64 (aW x.1 x.2.1)])).get (i*1+j)=iC .i64 (bK x) i j:=by
 obtain rfl:j=0:=by omega
 rw[Nat.mul_one,Nat.add_zero,db _ _ _ hm _ hi]
 unfold bK iC
 by_cases e:i<(aA x.1 x.2.2.1 x.2.2.2.1).length
 ·rw[if_pos e]
  have:=aO (ty:=ty) (n:=(aA x.1 x.2.2.1 x.2.2.2.1).length) (z:=0) (row:=iC .i64 (aA x.1 x.2.2.1 x.2.2.2.1)) i 0 (by decide:0<1)
  rw[Nat.mul_one,Nat.add_zero] at this
  rw[show(λi _j=>AV.n .i64 ((aA x.1 x.2.2.1 x.2.2.2.1).getD i 0))=iC .i64 (aA x.1 x.2.2.1 x.2.2.2.1) from rfl,this]
  unfold iC
  rw[List.getD_eq_getElem?_getD,List.getD_eq_getElem?_getD,List.getElem?_append_left e]
 ·obtain rfl:i=(aA x.1 x.2.2.1 x.2.2.2.1).length:=by omega
  rw[if_neg e,List.getD_eq_getElem?_getD,List.getElem?_append_right (Nat.le_refl _)]
  simp
theorem mM(cs:List In)(R:Nat)(hRs:R<=100000)(hn:cs.length<=16384)(hops:∀x ∈ cs,0<=x.1/\x.1<39)(hU:∀x ∈ cs,∀r ∈ bK x,r<(R:Int))(hrl:∀x ∈ cs,(bK x).length<=10):
  bS Try.prog 52 [.fs 5 cs.length (cC cs)] [.v (.fs 1 (bA cs R).length (λj _=> .n .i64 (((bA cs R).getD j 0:Nat):Int)))]:=by
 have hadd:∀j:Nat,j<100000->IntKind.wrap .i64 ((j:Int)+1)=((j+1:Nat):Int):=λj hj=>by rw[aX (by omega)];omega
 have hoc:∀k,cJ cs k=true->k<(R:Int):=λk hk=>by
  obtain⟨i,hi,h⟩:=gq.1 hk
  exact hU _ (by rw[List.getD_eq_getElem?_getD,List.getElem?_eq_getElem hi];exact List.getElem_mem hi) k h
 refine aN bh NP ⟨by simp,by decide⟩ ?_
 simp only[bN]
 repeat first|with_reducible refine am ?_|simp only[go_sem,simprocAttr]
 refine fJ (λr hr=>?_)
 repeat first|with_reducible refine am ?_|simp only[go_sem,simprocAttr]
 refine GA.loop (I:=λmm e H=>∃(k:Nat) (ob:Nat->Option OB),mm=cs.length-k/\k<=cs.length/\ob r=some (.mp (bQ (mA cs k)))/\e=aF [(3,.cv (.map (some r))),(11,.fs 5 cs.length (cC cs)),(12,.n .i64 cs.length),(13,.n .i64 k)]/\H=a8 ob []) (Wk.mkS [] [] ?_ ?_ ?_) ⟨0,_,rfl,Nat.zero_le _,?_,rfl,rfl⟩ ?_
 ·simp only[bj,bc,go_sem,simprocAttr]
  repeat' refine ab ?_ ?_
  all_goals first|exact bw|skip
 ·exact .nil
 ·simp
 ·simp only[go_sem,simprocAttr]
  first|exact(aJ _ _ _).trans (by rw[fe];rfl)|exact congrArg (λz=>some (OB.mp z)) fe|(rw[fe];rfl)
 rintro mm e H ⟨k,ob,rfl,hk,hob,rfl,rfl⟩
 repeat first|with_reducible refine am ?_|simp only[go_sem,simprocAttr]
 refine⟨λh=>?_,λh=>?_⟩
 ·have hkl:k<cs.length:=by omega
  have hk0:(0:Int)<=(k:Int):=by omega
  have ha:=hadd k (by omega)
  have hcc0:=wu cs k
  have hcc1:=CE cs k
  have hcc2:=CD cs k
  have hcc3:=CC cs k
  have hcc4:=CB cs k
  have hmem:cs.getD k (0,0,0,0,0) ∈ cs:=by rw[List.getD_eq_getElem?_getD,List.getElem?_eq_getElem hkl];exact List.getElem_mem hkl
  have hacc:mA cs (k+1)=fc (mA cs k) (bK (cs.getD k (0,0,0,0,0))):=rfl
  have hop:=hops _ hmem
  have hrlk:=hrl _ hmem
  generalize hx:cs.getD k (0,0,0,0,0)=x at*
  obtain⟨op,to,a,b,arg⟩:=x
  have hu:=kZ op to a b arg hop
  repeat first|with_reducible refine am ?_|simp only[hk0,h,hcc0,hcc1,hcc2,hcc3,hcc4,decide_true,go_sem,simprocAttr]
  refine aw [] (.cons (.rfl (by rfl)) .nil) hu (by simp only[AH.mark_next,ag,aD,aE,av,af,ah,List.length_cons,List.length_nil];decide) ?_
  rw[jH] at hrlk
  simp only at hrlk
  have hl1:(aA op a b).length+1<1099511627776:=by omega
  have hl2:((aA op a b).length+1)*8<=140737488355328:=by omega
  have hl3:(aA op a b).length<=9223372036854775806:=by omega
  repeat first|with_reducible refine am ?_|simp only[hl1,hl2,hl3,go_sem,simprocAttr]
  have hlen:(bK (op,to,a,b,arg)).length=(aA op a b).length+1:=jH _
  refine GA.loop (I:=λmm e H=>∃(j:Nat) (ob':Nat->Option OB),mm=(aA op a b).length+1-j/\j<=(aA op a b).length+1/\ob' r=some (.mp (bQ (fc (mA cs k) ((bK (op,to,a,b,arg)).take j))))/\e=aF [(25,.fs 1 ((aA op a b).length+1) (iC .i64 (bK (op,to,a,b,arg)))),(26,.n .i64 ((aA op a b).length+1:Nat)),(27,.n .i64 j),(3,.cv (.map (some r))),(11,.fs 5 cs.length (cC cs)),(12,.n .i64 cs.length),(13,.n .i64 k)]/\H=a8 ob' []) (Wk.mkS [] [3] ?_ ?_ ?_) ⟨0,_,rfl,Nat.zero_le _,?_,rfl,rfl⟩ ?_
  ·simp only[bj,bc,go_sem,simprocAttr]
   repeat' refine ab ?_ ?_
   all_goals first|exact bw|skip
   exact .cv (.os (by simp) (by simp only[go_sem,simprocAttr];rfl) (by rw[app_size];simp only[cf.len,List.length_singleton];omega) (λi j hi hj=>uq (op,to,a,b,arg) (by simp only;omega) hi hj) (λi j _ _=>rfl))
  ·exact .nil
  ·simp
  ·(try simp only[cH,go_sem,simprocAttr]);exact hob
  ·rintro mm e H ⟨j,ob',rfl,hj,hob',rfl,rfl⟩
   repeat first|with_reducible refine am ?_|simp only[go_sem,simprocAttr]
   refine⟨λh=>?_,λh=>?_⟩
   ·have hjl:j<(aA op a b).length+1:=by omega
    have hj0:(0:Int)<=(j:Int):=by omega
    have ha2:=hadd j (by omega)
    have htk:=qZ (s:=mA cs k) (l:=bK (op,to,a,b,arg)) (j:=j) (by omega)
    have hic:iC .i64 (bK (op,to,a,b,arg)) j 0= .n .i64 ((bK (op,to,a,b,arg)).getD j 0):=rfl
    generalize hv:(bK (op,to,a,b,arg)).getD j 0=v at*
    by_cases hv0:0<=v
    ·repeat first|with_reducible refine am ?_|simp only[hj0,h,hic,decide_true,hv0,hob',go_sem,simprocAttr]
     refine⟨rfl,?_⟩
     repeat first|with_reducible refine am ?_|simp only[ha2,go_sem,simprocAttr]
     refine⟨_,_,_,?_,Wk.mkS [] [] ?_ ?_ ?_,j+1,_,rfl,by omega,?_,rfl,rfl⟩
     ·omega
     ·simp only[bj,bc,go_sem,simprocAttr]
      repeat' refine ab ?_ ?_
      all_goals first|exact bw|skip
     ·exact .nil
     ·simp
     ·simp only[go_sem,simprocAttr]
      rw[i3,htk]
      unfold pn
      rw[if_pos hv0]
    ·repeat first|with_reducible refine am ?_|simp only[hj0,h,hic,decide_true,decide_false,hv0,hob',ha2,go_sem,simprocAttr]
     refine⟨_,_,_,?_,Wk.mkS [] [] ?_ ?_ ?_,j+1,_,rfl,by omega,?_,rfl,rfl⟩
     ·omega
     ·simp only[bj,bc,go_sem,simprocAttr]
      repeat' refine ab ?_ ?_
      all_goals first|exact bw|skip
     ·exact .nil
     ·simp
     ·(try simp only[go_sem,simprocAttr])
      rw[htk]
      unfold pn
      rw[if_neg hv0]
      exact hob'
   ·have hjk:j=(aA op a b).length+1:=by omega
    subst hjk
    rw[List.take_of_length_le (by omega),<-hacc] at hob'
    repeat first|with_reducible refine am ?_|simp only[ha,go_sem,simprocAttr]
    refine⟨_,_,_,?_,Wk.mkS [] [] ?_ ?_ ?_,k+1,_,rfl,by omega,?_,rfl,rfl⟩
    ·omega
    ·simp only[bj,bc,go_sem,simprocAttr]
     repeat' refine ab ?_ ?_
     all_goals first|exact bw|skip
    ·exact .nil
    ·simp
    ·(try simp only[go_sem,simprocAttr]);exact hob'
 ·have hkk:k=cs.length:=by omega
  subst hkk
  repeat first|with_reducible refine am ?_|simp only[go_sem,simprocAttr]
  refine aw [] (.cons (.rfl (by rfl)) .nil) (qo _) (by simp only[af,List.length_cons,List.length_nil];decide) ?_
  repeat first|with_reducible refine am ?_|simp only[go_sem,simprocAttr]
  refine bO [] (.cons (.rfl (by rfl)) .nil) (lg _) ⟨_,hob,?_,?_⟩ (by simp only[af,List.length_cons,List.length_nil];decide) ?_
  ·have:=gr (R:=R) (mz cs cs.length) (λr hr=>by
    obtain⟨h0,i,hi,h1⟩:=(jD cs _ (Nat.le_refl _) r).1 hr
    exact⟨h0,hoc r (gq.2 ⟨i,hi,h1⟩)⟩)
   rw[gj];omega
  ·intro q v hq
   rw[dq] at hq
   split at hq
   ·rename_i hq'
    obtain⟨h0,i,hi,h1⟩:=(jD cs _ (Nat.le_refl _) q).1 hq'
    have:=hoc q (gq.2 ⟨i,hi,h1⟩)
    omega
   ·cases hq
  rintro rs N2 ⟨ss,hss,hpw,rfl,rfl⟩ hfree2
  have hsl:ss=(bA cs R).map (λn:Nat=>(n:Int)):=uP (λq=>by
   rw[hss _ hob q,dq,gq,<-jD cs _ (Nat.le_refl _)]
   by_cases e:q ∈ mA cs cs.length<;>simp[e]) hpw hoc
  subst hsl
  simp only[yx]
  repeat first|with_reducible refine am ?_|simp only[go_sem,simprocAttr]
  exact⟨[_],rfl,⟨rfl,rfl⟩,True.intro⟩
def ee(P:Nat->Prop)(c:Nat):Prop:=¬P c/\∀c',c'<c->P c'
theorem ee.uniq{P:Nat->Prop}{c c':Nat}(h:ee P c)(h':ee P c'):c=c':=by
 rcases Nat.lt_trichotomy c c' with h1|h1|h1
 ·exact absurd (h'.2 c h1) h.1
 ·exact h1
 ·exact absurd (h.2 c' h1) h'.1
theorem ee.congr{P P':Nat->Prop}(hp:∀c,P c↔P' c){c:Nat}(h:ee P c):ee P' c:=⟨λhc=>h.1 ((hp c).2 hc),λc' hc'=>(hp c').1 (h.2 c' hc')⟩
structure rn(occ:Nat->Bool)(nb:Nat->Nat->Prop)(n:Nat)(K:Nat->Nat):Prop where
 yes:∀r,r<n->occ r=true->ee (λc=>∃s,s<r/\occ s=true/\nb r s/\K s=c) (K r)
 no:∀r,r<n->occ r=false->K r=0
theorem rn.uniq{occ:Nat->Bool}{nb nb':Nat->Nat->Prop}{n:Nat}{K K':Nat->Nat}(h:rn occ nb n K)(h':rn occ nb' n K')(hnb:∀r s,nb r s↔nb' r s):∀r,r<n->K r=K' r:=by
 intro r
 induction r using Nat.strongRecOn with
 |_ r ih=>
  intro hr
  cases ho:occ r with
  |false=>rw[h.no r hr ho,h'.no r hr ho]
  |true=>
   refine(h.yes r hr ho).uniq ((h'.yes r hr ho).congr (λc=>?_))
   constructor
   ·rintro ⟨s,h1,h2,h3,h4⟩
    exact⟨s,h1,h2,(hnb r s).2 h3,by rw[ih s h1 (by omega)];exact h4⟩
   ·rintro ⟨s,h1,h2,h3,h4⟩
    exact⟨s,h1,h2,(hnb r s).1 h3,by rw[<-ih s h1 (by omega)];exact h4⟩
theorem ee.le{P:Nat->Prop}{c m:Nat}(h:ee P c){l:List Nat}(hP:∀x,P x->x ∈ l)(hl:l.length<=m):c<=m:=by
 have h1:(List.range c).length<=l.length:=fA List.nodup_range (λx hx=>hP x (h.2 x (List.mem_range.1 hx)))
 rw[List.length_range] at h1
 omega
theorem rn.le{occ:Nat->Bool}{nb:Nat->Nat->Prop}{n:Nat}{K:Nat->Nat}(h:rn occ nb n K):∀r,r<n->K r<=r:=by
 intro r hr
 cases ho:occ r with
 |false=>rw[h.no r hr ho];omega
 |true=>exact(h.yes r hr ho).le (l:=(List.range r).map K) (λx ⟨s,h1,_,_,h4⟩=>List.mem_map.2 ⟨s,List.mem_range.2 h1,h4⟩) (by simp)
def cI(K:Nat->Nat)(l:List Nat):Nat->Nat
 |0=>0
 |k+1=>max (cI K l k) (K (l.getD k 0)+1)
def mF(l:List Nat):Nat->Int->Option Int
 |0=>λ_=>none
 |k+1=>λq=>if q=((l.getD k 0:Nat):Int) then some (k:Int) else mF l k q
theorem lF{l:List Nat}:∀{k:Nat} {q v:Int},mF l k q=some v->∃i,i<k/\q=((l.getD i 0:Nat):Int)/\v=(i:Int)
 |0,q,v,h=>by cases h
 |k+1,q,v,h=>by
  unfold mF at h
  split at h
  ·cases h;exact⟨k,by omega,by assumption,rfl⟩
  ·obtain⟨i,h1,h2⟩:=lF h;exact⟨i,by omega,h2⟩
theorem A0{l:List Nat}(h:l.Pairwise (· < ·)){k:Nat}(hk:k<l.length):mF l k ((l.getD k 0:Nat):Int)=none:=by
 cases hx:mF l k ((l.getD k 0:Nat):Int) with
 |none=>rfl
 |some v=>
  obtain⟨i,h1,h2,_⟩:=lF hx
  rw[List.pairwise_iff_getElem] at h
  have:=h i k (by omega) hk h1
  rw[List.getD_eq_getElem?_getD,List.getD_eq_getElem?_getD,List.getElem?_eq_getElem hk,List.getElem?_eq_getElem (show i<l.length by omega)] at h2
  simp only[Option.getD_some] at h2
  omega
theorem Ay{x:dj}{l:List Nat}(h:l.Pairwise (· < ·)){k:Nat}(hk:k<l.length)(hg:x.get=fi (mF l k))(hc:x.cnt=k):
  (x.put ((l.getD k 0:Nat):Int) (.n .i64 (k:Int))).get=fi (mF l (k+1))/\(x.put ((l.getD k 0:Nat):Int) (.n .i64 (k:Int))).cnt=k+1:=by
 have h0:x.get ((l.getD k 0:Nat):Int)=none:=by rw[hg];show((mF l k _).map _)=none;rw[A0 h hk];rfl
 refine⟨?_,?_⟩
 ·funext q
  show(if q=_ then _ else x.get q)=((mF l (k+1) q).map (.n .i64 ·))
  unfold mF
  by_cases e:q=((l.getD k 0:Nat):Int)
  ·rw[if_pos e,if_pos e];rfl
  ·rw[if_neg e,if_neg e,hg]
 ·show(if(x.get _).isSome=true then x.cnt else x.cnt+1)=k+1
  rw[h0,if_neg (by simp),hc]
theorem sH(la:List (Bool×Int))(regs par:Int)(cs:List In)(x:AV)(hla:la.length<1000000)(hcs:cs.length<=16384)(l:List Nat)(hl:l.Pairwise (· < ·))(hll:l.length<=100000)
  (hc:bS Try.prog 27 [aB la.length (aC la) regs par cs] [.v x,.v (.n .i64 0)])
  (ho:bS Try.prog 52 [.fs 5 cs.length (cC cs)] [.v (.fs 1 l.length (λj _=> .n .i64 ((l.getD j 0:Nat):Int)))]):
  bS Try.prog 20 [aB la.length (aC la) regs par cs] [.v (aB la.length (aC la) l.length par (cs.map (eI (mF l l.length)))),.v (.n .i64 0)]:=by
 have hadd:∀j:Nat,j<100000->IntKind.wrap .i64 ((j:Int)+1)=((j+1:Nat):Int):=λj hj=>by rw[aX (by omega)];omega
 refine aN bh M7 ⟨by simp,by decide⟩ ?_
 simp only[bN,aB] at hc ⊢
 repeat first|with_reducible refine am ?_|simp only[go_sem,simprocAttr]
 refine vB hc ?_
 repeat first|with_reducible refine am ?_|simp only[go_sem,simprocAttr]
 refine fJ (λr hr=>?_)
 repeat first|with_reducible refine am ?_|simp only[go_sem,simprocAttr]
 refine aw [] (.cons (.rfl (by rfl)) .nil) ho (by simp only[AH.mark_next,ag,aD,aE,av,ao,ah,List.length_cons,List.length_nil];decide) ?_
 repeat first|with_reducible refine am ?_|simp only[go_sem,simprocAttr]
 refine GA.loop (I:=λmm e H=>∃(k:Nat) (ob:Nat->Option OB) (x:dj),mm=l.length-k/\k<=l.length/\ob r=some (.mp x)/\x.own=true/\x.get=fi (mF l k)/\x.cnt=k/\
   e=aF [(1,.p 0 0),(2,.p 1 0),(6,.cv (.map (some r))),(21,.fs 1 l.length (λj _=> .n .i64 ((l.getD j 0:Nat):Int))),(22,.n .i64 l.length),(23,.n .i64 k)]/\
   H=a8 ob [bf 0 25 [.sl0,.n .i64 0,.n .i64 0,.sl0],bf 0 25 [.fs 2 la.length (aC la),.n .i64 regs,.n .i64 par,.fs 5 cs.length (cC cs)]]) (Wk.mkS [1,0] [] ?_ ?_ ?_) ⟨0,_,⟨true,λ_=>none,0,none⟩,rfl,Nat.zero_le _,?_,rfl,rfl,rfl,rfl,rfl⟩ ?_
 ·simp only[bj,bc,go_sem,simprocAttr]
  repeat' refine ab ?_ ?_
  all_goals first|exact bw|skip
 ·exact .cons rfl .ls (.cons rfl .ls .nil)
 ·simp
 ·simp only[go_sem,simprocAttr]
 rintro mm e H ⟨k,ob,mx,rfl,hk,hob,hown,hget,hcnt,rfl,rfl⟩
 repeat first|with_reducible refine am ?_|simp only[go_sem,simprocAttr]
 refine⟨λh=>?_,λh=>?_⟩
 ·have hkl:k<l.length:=by omega
  have hk0:(0:Int)<=(k:Int):=by omega
  have ha:=hadd k (by omega)
  obtain⟨hp1,hp2⟩:=Ay hl hkl hget hcnt
  repeat first|with_reducible refine am ?_|simp only[hk0,h,decide_true,hob,hown,ha,go_sem,simprocAttr]
  refine⟨_,_,_,?_,Wk.mkS [1,0] [] ?_ ?_ ?_,k+1,_,mx.put ((l.getD k 0:Nat):Int) (.n .i64 (k:Int)),rfl,by omega,?_,hown,hp1,hp2,rfl,rfl⟩
  ·omega
  ·simp only[bj,bc,go_sem,simprocAttr]
   repeat' refine ab ?_ ?_
   all_goals first|exact bw|skip
  ·exact .cons rfl .ls (.cons rfl .ls .nil)
  ·simp
  ·simp only[go_sem,simprocAttr]
 ·have hkk:k=l.length:=by omega
  subst hkk
  repeat first|with_reducible refine am ?_|simp only[hob,hcnt,go_sem,simprocAttr]
  refine bO [] (.cons (.rfl (by rfl)) (.cons (.rfl (by rfl)) (.cons (.rfl (by rfl)) .nil))) (kg r (mF l l.length) hla fO (by omega)) ⟨mx,hob,hget⟩ (by simp only[AH.mark_next,ag,aD,aE,av,af,ah,List.length_cons,List.length_nil];decide) ?_
  rintro rs N ⟨rfl,rfl⟩ hfree
  simp only[aB]
  repeat first|with_reducible refine am ?_|simp only[go_sem,simprocAttr]
  exact⟨[_,_],rfl,ea.v rfl rfl (ea.v rfl rfl .nil)⟩
def Gh{α:Type}(T:Int->α)(p:Int)(x:α):Int->α:=λk=>if k=p then x else T k
theorem bU{α:Type}(T:Int->α)(p:Int)(x:α):Gh T p x p=x:=if_pos rfl
theorem ez{α:Type}(T:Int->α){p k:Int}(x:α)(h:k≠p):Gh T p x k=T k:=if_neg h
def kF(T:Int->List Int)(p q:Int):Int->List Int:=Gh T p (gN (T p) q)
def jf(T:Int->List Int)(a b:Int):Int->List Int:=kF (kF T a b) b a
structure f9(r0:Nat)(pa:Int->Option Nat)(T:Int->List Int)(ob:Nat->Option OB):Prop where
 out:∃mo:dj,ob r0=some (.mp mo)/\mo.own=true/\mo.get=λk=>(pa k).map λa=> .cv (.map (some a))
 at_:∀k a,pa k=some a->ob a=some (.mp (bQ (T k)))
 non:∀k,pa k=none->T k=[]
 inj:∀k k' a,pa k=some a->pa k'=some a->k=k'
 ne:∀k a,pa k=some a->a≠r0
theorem f9.made{r0:Nat}{pa:Int->Option Nat}{T:Int->List Int}{ob:Nat->Option OB}(h:f9 r0 pa T ob){p:Int}(hp:pa p=none){t:Nat}(ht:ob t=none){mo:dj}(hmo:ob r0=some (.mp mo))(ho:mo.own=true)(hg:mo.get=λk=>(pa k).map λa=> .cv (.map (some a))):
  f9 r0 (Gh pa p (some t)) T (bp (fZ (bp ob t (.mp ⟨true,λ_=>none,0,none⟩))) r0 (.mp (mo.put p (.cv (.map (some t)))))):=by
 have htr:t≠r0:=λe=>by rw[e,hmo] at ht;cases ht
 have hta:∀k a,pa k=some a->a≠t:=λk a hk e=>by have:=h.at_ k a hk;rw[e,ht] at this;cases this
 refine⟨⟨_,aJ _ _ _,ho,?_⟩,λk a hk=>?_,λk hk=>?_,λk k' a hk hk'=>?_,λk a hk=>?_⟩
 ·funext q
  show(if q=p then some _ else mo.get q)=(Gh pa p (some t) q).map _
  unfold Gh
  by_cases e:q=p
  ·rw[if_pos e,if_pos e];rfl
  ·rw[if_neg e,if_neg e,hg]
 ·by_cases e:k=p
  ·subst e
   rw[bU] at hk
   cases hk
   rw[aV _ _ htr,dS (aJ _ _ _),h.non k hp,fe]
  ·rw[ez _ _ e] at hk
   rw[aV _ _ (h.ne k a hk)]
   refine dS ?_
   rw[aV _ _ (hta k a hk)]
   exact h.at_ k a hk
 ·by_cases e:k=p
  ·subst e;rw[bU] at hk;cases hk
  ·rw[ez _ _ e] at hk;exact h.non k hk
 ·by_cases e:k=p
  ·subst e
   rw[bU] at hk
   cases hk
   by_cases e':k'=k
   ·exact e'.symm
   ·rw[ez _ _ e'] at hk'
    exact absurd rfl (hta k' t hk')
  ·rw[ez _ _ e] at hk
   by_cases e':k'=p
   ·subst e'
    rw[bU] at hk'
    cases hk'
    exact absurd rfl (hta k t hk)
   ·rw[ez _ _ e'] at hk'
    exact h.inj k k' a hk hk'
 ·by_cases e:k=p
  ·subst e;rw[bU] at hk;cases hk;exact htr
  ·rw[ez _ _ e] at hk;exact h.ne k a hk
theorem f9.put{r0:Nat}{pa:Int->Option Nat}{T:Int->List Int}{ob:Nat->Option OB}(h:f9 r0 pa T ob){p q:Int}{a:Nat}(hp:pa p=some a):
  f9 r0 pa (kF T p q) (bp (fZ ob) a (.mp ((bQ (T p)).put q (.b true)))):=by
 obtain⟨mo,h1,h2,h3⟩:=h.out
 refine⟨⟨mo,?_,h2,h3⟩,λk a' hk=>?_,λk hk=>?_,h.inj,h.ne⟩
 ·rw[aV _ _ (Ne.symm (h.ne p a hp))];exact dS h1
 ·by_cases e:k=p
  ·subst e
   rw[hp] at hk
   cases hk
   rw[aJ,i3]
   unfold kF
   rw[bU]
  ·rw[aV _ _ (λe'=>e (h.inj k p a (by rw[hk,e']) hp)),dS (h.at_ k a' hk)]
   unfold kF
   rw[ez _ _ e]
 ·have e:k≠p:=λe=>by rw[e,hp] at hk;cases hk
  unfold kF
  rw[ez _ _ e];exact h.non k hk
theorem ub(x:OB):x.clr.clr=x.clr:=by cases x<;>rfl
structure kH(r0:Nat)(pa0:Int->Option Nat)(ob0:Nat->Option OB)(pa:Int->Option Nat)(T:Int->List Int)(ob:Nat->Option OB):Prop where
 io:f9 r0 pa T ob
 keep:∀r x,ob0 r=some x->r≠r0->(∀k,pa0 k≠some r)->∃y,ob r=some y/\y.clr=x.clr
 new:∀k a,pa k=some a->pa0 k=some a\/ob0 a=none
 old:∀r x,ob0 r=some x->∃y,ob r=some y
theorem kH.refl{r0:Nat}{pa:Int->Option Nat}{T:Int->List Int}{ob:Nat->Option OB}(h:f9 r0 pa T ob):kH r0 pa ob pa T ob:=⟨h,λr x hx _ _=>⟨x,hx,rfl⟩,λk a hk=> .inl hk,λr x hx=>⟨x,hx⟩⟩
theorem kH.put{r0:Nat}{pa0:Int->Option Nat}{ob0:Nat->Option OB}{pa:Int->Option Nat}{T:Int->List Int}{ob:Nat->Option OB}(h:kH r0 pa0 ob0 pa T ob){p q:Int}{a:Nat}(hp:pa p=some a):
  kH r0 pa0 ob0 pa (kF T p q) (bp (fZ ob) a (.mp ((bQ (T p)).put q (.b true)))):=by
 refine⟨h.io.put hp,λr x hx hr hk=>?_,h.new,λr x hx=>?_⟩
 rotate_left
 ·obtain⟨y,hy⟩:=h.old r x hx
  by_cases e:r=a
  ·rw[e,aJ];exact⟨_,rfl⟩
  ·rw[aV _ _ e];unfold fZ;rw[hy];exact⟨_,rfl⟩
 obtain⟨y,hy,hc⟩:=h.keep r x hx hr hk
 have hra:r≠a:=λe=>by
  rcases h.new p a hp with h1|h1
  ·exact hk p (by rw[h1,e])
  ·rw[<-e,hx] at h1;cases h1
 refine⟨y.clr,?_,by rw[ub,hc]⟩
 rw[aV _ _ hra]
 unfold fZ
 rw[hy];rfl
theorem kH.made{r0:Nat}{pa0:Int->Option Nat}{ob0:Nat->Option OB}{pa:Int->Option Nat}{T:Int->List Int}{ob:Nat->Option OB}(h:kH r0 pa0 ob0 pa T ob){p:Int}(hp:pa p=none){t:Nat}(ht:ob t=none){mo:dj}(hmo:ob r0=some (.mp mo))(ho:mo.own=true)(hg:mo.get=λk=>(pa k).map λa=> .cv (.map (some a))):
  kH r0 pa0 ob0 (Gh pa p (some t)) T (bp (fZ (bp ob t (.mp ⟨true,λ_=>none,0,none⟩))) r0 (.mp (mo.put p (.cv (.map (some t)))))):=by
 refine⟨h.io.made hp ht hmo ho hg,λr x hx hr hk=>?_,λk a hk=>?_,λr x hx=>?_⟩
 rotate_right
 ·obtain⟨y,hy⟩:=h.old r x hx
  by_cases e:r=r0
  ·rw[e,aJ];exact⟨_,rfl⟩
  ·rw[aV _ _ e];unfold fZ;rw[aV _ _ (ir hy ht),hy];exact⟨_,rfl⟩
 ·obtain⟨y,hy,hc⟩:=h.keep r x hx hr hk
  refine⟨y.clr,?_,by rw[ub,hc]⟩
  rw[aV _ _ hr]
  unfold fZ
  rw[aV _ _ (ir hy ht),hy];rfl
 ·by_cases e:k=p
  ·subst e
   rw[bU] at hk
   cases hk
   refine .inr ?_
   cases hx:ob0 t with
   |none=>rfl
   |some x=>
    obtain⟨y,hy⟩:=h.old t x hx
    rw[ht] at hy;cases hy
  ·rw[ez _ _ e] at hk;exact h.new k a hk
theorem jn{mo:dj}{pa:Int->Option Nat}(h:mo.get=λk=>(pa k).map λa=> .cv (.map (some a)))(p:Int):mo.look false (.cv (.map none)) p= .cv (.map (pa p)):=by
 unfold dj.look
 have:mo.get p=(pa p).map λa=> .cv (.map (some a)):=by rw[h]
 rw[this]
 cases pa p<;>rfl
def Ol(T:Int->List Int)(a b:Int)(i:Nat):Int->List Int:=if i=0 then T else if i=1 then kF T a b else jf T a b
theorem qb(r0:Nat)(pa:Int->Option Nat)(T:Int->List Int)(a b:Int)(H:AH)(hH:f9 r0 pa T H.ob)(hnx:H.next<1000):
  nY Try.prog 94 [.n .i64 a,.n .i64 b,.fp 1 (λ_=> .cv (.map (some r0))) 0] H (λv H'=>H'.next<10/\∃pa',kH r0 pa H.ob pa' (jf T a b) H'.ob):=by
 refine xj bh MH (by simp) ?_
 refine GA.wk (Wk.arg _ _ _ (by simp)) ?_
 simp only[bN]
 refine GA.wk (Wk.mkS (L:=[(0,.n .i64 a),(1,.n .i64 b),(2,.fp 1 (λ_=> .cv (.map (some r0))) 0)]) (bl:=[]) [] [] ?_ ?_ ?_) ?_
 ·simp only[bj,bc,go_sem,simprocAttr]
  repeat' refine ab ?_ ?_
  all_goals first|exact bw|skip
 ·exact .nil
 ·simp
 generalize hob0:H.ob=ob0 at hH ⊢
 repeat first|with_reducible refine am ?_|simp only[go_sem,simprocAttr]
 refine GA.loop (I:=λmm e H=>∃(i:Nat) (pa1:Int->Option Nat) (ob1:Nat->Option OB),mm=2-i/\i<=2/\kH r0 pa ob0 pa1 (Ol T a b i) ob1/\e=aF [(2,.fp 1 (λ_=> .cv (.map (some r0))) 0),(13,.sl 0 0 2 2),(14,.n .i64 2),(15,.n .i64 i)]/\H=a8 ob1 [bf 2 142 [.n .i64 a,.n .i64 b,.n .i64 b,.n .i64 a]]) (Wk.mkS [0] [] ?_ ?_ ?_) ⟨0,pa,ob0,rfl,by omega,.refl hH,rfl,rfl⟩ ?_
 ·simp only[bj,bc,go_sem,simprocAttr]
  repeat' refine ab ?_ ?_
  all_goals first|exact bw|skip
 ·exact .cons rfl .ls .nil
 ·simp
 rintro mm e H1 ⟨i,pa1,ob1,rfl,hi,hst,rfl,rfl⟩
 obtain⟨mo,hmo,hown,hget⟩:=hst.io.out
 obtain rfl|rfl|rfl:i=0\/i=1\/i=2:=by omega
 ·have hlk:=jn hget a
  cases hp:pa1 a with
  |none=>
   rw[hp] at hlk
   repeat first|with_reducible refine am ?_|simp only[hmo,hlk,decide_true,go_sem,simprocAttr]
   refine fJ (λt ht=>?_)
   have ht:ob1 t=none:=ht
   have hst2:=hst.made hp ht hmo hown hget
   have hmo1:bp ob1 t (.mp ⟨true,λ_=>none,0,none⟩) r0=some (.mp mo):=by rw[aV _ _ (ir hmo ht)];exact hmo
   obtain⟨mo2,e1,e2,e3⟩:=hst2.io.out
   rw[aJ] at e1
   cases e1
   have hlk2:(mo.put a (.cv (.map (some t)))).look false (.cv (.map none)) a= .cv (.map (some t)):=(jn e3 a).trans (by rw[bU])
   have hat2:=hst2.io.at_ a t (bU _ _ _)
   repeat first|with_reducible refine am ?_|simp only[hmo1,hown,hlk2,hat2,go_sem,simprocAttr]
   refine⟨rfl,?_⟩
   repeat first|with_reducible refine am ?_|simp only[go_sem,simprocAttr]
   refine⟨_,_,_,?_,Wk.mkS [0] [] ?_ ?_ ?_,1,_,_,rfl,by omega,hst2.put (q:=b) (bU _ _ _),rfl,rfl⟩
   ·decide
   ·simp only[bj,bc,go_sem,simprocAttr]
    repeat' refine ab ?_ ?_
    all_goals first|exact bw|skip
   ·exact .cons rfl .ls .nil
   ·simp
  |some ap=>
   rw[hp] at hlk
   have hat:=hst.io.at_ a ap hp
   repeat first|with_reducible refine am ?_|simp only[hmo,hlk,hat,decide_true,go_sem,simprocAttr]
   refine⟨rfl,?_⟩
   repeat first|with_reducible refine am ?_|simp only[go_sem,simprocAttr]
   refine⟨_,_,_,?_,Wk.mkS [0] [] ?_ ?_ ?_,1,_,_,rfl,by omega,hst.put (q:=b) hp,rfl,rfl⟩
   ·decide
   ·simp only[bj,bc,go_sem,simprocAttr]
    repeat' refine ab ?_ ?_
    all_goals first|exact bw|skip
   ·exact .cons rfl .ls .nil
   ·simp
 ·have hlk:=jn hget b
  cases hp:pa1 b with
  |none=>
   rw[hp] at hlk
   repeat first|with_reducible refine am ?_|simp only[hmo,hlk,decide_true,go_sem,simprocAttr]
   refine fJ (λt ht=>?_)
   have ht:ob1 t=none:=ht
   have hst2:=hst.made hp ht hmo hown hget
   have hmo1:bp ob1 t (.mp ⟨true,λ_=>none,0,none⟩) r0=some (.mp mo):=by rw[aV _ _ (ir hmo ht)];exact hmo
   obtain⟨mo2,e1,e2,e3⟩:=hst2.io.out
   rw[aJ] at e1
   cases e1
   have hlk2:(mo.put b (.cv (.map (some t)))).look false (.cv (.map none)) b= .cv (.map (some t)):=(jn e3 b).trans (by rw[bU])
   have hat2:=hst2.io.at_ b t (bU _ _ _)
   repeat first|with_reducible refine am ?_|simp only[hmo1,hown,hlk2,hat2,go_sem,simprocAttr]
   refine⟨rfl,?_⟩
   repeat first|with_reducible refine am ?_|simp only[go_sem,simprocAttr]
   refine⟨_,_,_,?_,Wk.mkS [0] [] ?_ ?_ ?_,2,_,_,rfl,by omega,hst2.put (q:=a) (bU _ _ _),rfl,rfl⟩
   ·decide
   ·simp only[bj,bc,go_sem,simprocAttr]
    repeat' refine ab ?_ ?_
    all_goals first|exact bw|skip
   ·exact .cons rfl .ls .nil
   ·simp
  |some ap=>
   rw[hp] at hlk
   have hat:=hst.io.at_ b ap hp
   repeat first|with_reducible refine am ?_|simp only[hmo,hlk,hat,decide_true,go_sem,simprocAttr]
   refine⟨rfl,?_⟩
   repeat first|with_reducible refine am ?_|simp only[go_sem,simprocAttr]
   refine⟨_,_,_,?_,Wk.mkS [0] [] ?_ ?_ ?_,2,_,_,rfl,by omega,hst.put (q:=a) hp,rfl,rfl⟩
   ·decide
   ·simp only[bj,bc,go_sem,simprocAttr]
    repeat' refine ab ?_ ?_
    all_goals first|exact bw|skip
   ·exact .cons rfl .ls .nil
   ·simp
 ·repeat first|with_reducible refine am ?_|simp only[go_sem,simprocAttr]
  exact⟨pa1,hst⟩
def rx(cs:List In)(i:Nat):Int:=aW (cs.getD i (0,0,0,0,0)).1 (cs.getD i (0,0,0,0,0)).2.1
def fQ(cs:List In)(nx:Nat->List Nat)(p q:Int):Prop:=
 (p≠q/\bt cs nx 0 p/\bt cs nx 0 q)\/∃i k,i<cs.length/\k ∈ nx i/\0<=rx cs i/\((p=rx cs i/\q≠p/\bt cs nx k q)\/(q=rx cs i/\p≠q/\bt cs nx k p))
theorem fQ.symm{cs:List In}{nx:Nat->List Nat}{p q:Int}(h:fQ cs nx p q):fQ cs nx q p:=by
 rcases h with⟨h1,h2,h3⟩|⟨i,k,h1,h2,h3,h4|h4⟩
 ·exact .inl ⟨Ne.symm h1,h3,h2⟩
 ·exact .inr ⟨i,k,h1,h2,h3,.inr h4⟩
 ·exact .inr ⟨i,k,h1,h2,h3,.inl h4⟩
theorem qY{T:Int->List Int}{p q k x:Int}:x ∈ kF T p q k↔x ∈ T k\/(k=p/\x=q):=by
 unfold kF
 by_cases e:k=p
 ·subst e;rw[bU,dc];simp
 ·rw[ez _ _ e];simp[e]
theorem bR{T:Int->List Int}{a b k x:Int}:x ∈ jf T a b k↔x ∈ T k\/(k=a/\x=b)\/(k=b/\x=a):=by
 unfold jf
 rw[qY,qY,or_assoc]
theorem mr{T:Int->List Int}(h:∀p,(T p).Nodup)(p q k:Int):(kF T p q k).Nodup:=by
 unfold kF
 by_cases e:k=p
 ·subst e;rw[bU];exact iT (h _) _
 ·rw[ez _ _ e];exact h k
structure pC(cs:List In)(nx:Nat->List Nat)(n1:Nat)(ad:Nat->Nat)(S:Nat->List Int)(r0:Nat)(pa:Int->Option Nat)(T:Int->List Int)(ob:Nat->Option OB):Prop where
 io:f9 r0 pa T ob
 lv:eH n1 ad S ob
 d1:∀k a i,i<n1->pa k=some a->a≠ad i
 d2:∀i,i<n1->ad i≠r0
 nd:∀p,(T p).Nodup
 ok:∀p q,q ∈ T p->fQ cs nx p q
 sy:∀p q,q ∈ T p->p ∈ T q
section
variable {cs:List In} {nx:Nat->List Nat} {n1:Nat} {ad:Nat->Nat} {S:Nat->List Int} {r0:Nat} {pa pa':Int->Option Nat} {T:Int->List Int} {ob ob':Nat->Option OB}
theorem pC.note(h:pC cs nx n1 ad S r0 pa T ob){a b:Int}(hst:kH r0 pa ob pa' (jf T a b) ob')(hab:fQ cs nx a b):pC cs nx n1 ad S r0 pa' (jf T a b) ob':=by
 refine⟨hst.io,⟨λi hi=>?_,h.lv.inj⟩,λk x i hi hk e=>?_,h.d2,λp=>mr (mr h.nd a b) b a p,λp q hq=>?_,λp q hq=>?_⟩
 ·obtain⟨y,hy,hc⟩:=hst.keep (ad i) _ (h.lv.at_ i hi) (h.d2 i hi) (λk hk=>h.d1 k _ i hi hk rfl)
  cases y with
  |mp z=>rw[hy];exact congrArg some hc
  |it z=>cases hc
  |fix o=>cases hc
 ·rcases hst.new k x hk with h1|h1
  ·exact h.d1 k x i hi h1 e
  ·rw[e,h.lv.at_ i hi] at h1;cases h1
 ·rcases bR.1 hq with h1|⟨rfl,rfl⟩|⟨rfl,rfl⟩
  ·exact h.ok p q h1
  ·exact hab
  ·exact hab.symm
 ·rcases bR.1 hq with h1|⟨rfl,rfl⟩|⟨rfl,rfl⟩
  ·exact bR.2 (.inl (h.sy p q h1))
  ·exact bR.2 (.inr (.inr ⟨rfl,rfl⟩))
  ·exact bR.2 (.inr (.inl ⟨rfl,rfl⟩))
theorem pC.itKeep(h:pC cs nx n1 ad S r0 pa T ob){a b:Int}(hst:kH r0 pa ob pa' (jf T a b) ob'){t:Nat}{y:mG}(ht:ob t=some (.it y)):∃c,ob' t=some (.it {y with cur:=c}):=by
 obtain⟨z,hz,hc⟩:=hst.keep t _ ht (λe=>by
  obtain⟨mo,h1,_⟩:=h.io.out
  rw[e,h1] at ht;cases ht) (λk hk=>by have:=h.io.at_ k t hk;rw[ht] at this;cases this)
 cases z with
 |mp z=>cases hc
 |fix o=>cases hc
 |it z=>
  refine⟨z.cur,?_⟩
  rw[hz]
  simp only[OB.clr,OB.it.injEq,mG.mk.injEq] at hc
  obtain⟨e1,e2,e3,_⟩:=hc
  rw[<-e1,<-e2,<-e3]
theorem pC.iter(h:pC cs nx n1 ad S r0 pa T ob){t:Nat}(ht:ob t=none\/∃y,ob t=some (.it y))(x:OB):pC cs nx n1 ad S r0 pa T (bp ob t x):=by
 have key:∀r m,ob r=some (.mp m)->bp ob t x r=some (.mp m):=λr m hr=>by
  rw[aV _ _ (λe=>by rcases ht with h1|⟨y,h1⟩<;>rw[e,h1] at hr<;>cases hr)]
  exact hr
 obtain⟨mo,h1,h2,h3⟩:=h.io.out
 exact⟨⟨⟨mo,key _ _ h1,h2,h3⟩,λk a hk=>key _ _ (h.io.at_ k a hk),h.io.non,h.io.inj,h.io.ne⟩,⟨λi hi=>key _ _ (h.lv.at_ i hi),h.lv.inj⟩,h.d1,h.d2,h.nd,h.ok,h.sy⟩
end
abbrev Cw(t:Nat):AV:= .cv (.pointer (some ⟨t,0,none⟩))
abbrev kl(cs:List In)(nx:Nat->List Nat)(n1:Nat)(ad:Nat->Nat)(r0:Nat):List (Nat×AV):=[(0,.fs 5 cs.length (cC cs)),(3,.fp 1 (λ_=> .cv (.map (some r0))) 0),(4,.f 94 [] [.fp 1 (λ_=> .cv (.map (some r0))) 0]),(5,.fs 1 n1 (zR ad)),(6,.fs 1 cs.length (gC nx))]
structure fP(l d:List Int)(m:Nat)(ob:Nat->Option OB)(t:Nat):Prop where
 nd:d.Nodup
 sub:∀r ∈ d,r ∈ l
 it:∃seen cur,(∀q,seen q=true↔q ∈ d)/\ob t=some (.it ⟨m,λq=>((bQ l).get q).isSome,seen,cur⟩)
theorem fP.keep{l d:List Int}{m t:Nat}{ob ob':Nat->Option OB}(h:fP l d m ob t)(hk:∀y,ob t=some (.it y)->∃c,ob' t=some (.it {y with cur:=c})):fP l d m ob' t:=by
 obtain⟨seen,cur,h1,h2⟩:=h.it
 obtain⟨c,hc⟩:=hk _ h2
 exact⟨h.nd,h.sub,seen,c,h1,hc⟩
theorem fP.start{l:List Int}{m t:Nat}{ob:Nat->Option OB}(h:ob t=some (.it ⟨m,λq=>((bQ l).get q).isSome,λ_=>false,none⟩)):fP l [] m ob t:=⟨List.nodup_nil,λr hr=>(by cases hr),_,_,λq=>by simp,h⟩
theorem fP.len{l d:List Int}{m t:Nat}{ob:Nat->Option OB}(h:fP l d m ob t):d.length<=l.length:=fA h.nd h.sub
end Go.Proofs.Yteopfmnnhlhbmaa
namespace Go.Proofs.Yteopfmnnhlhbmaa
open Go.RowKit
theorem kJ{H:AH}{Q:AV->AH->Prop}{t m:Nat}{l d:List Int}{seen:Int->Bool}{cur:Option (Int×AV)}(hn:d.Nodup)(hs:∀r ∈ d,r ∈ l)(hsn:∀q,seen q=true↔q ∈ d)
  (h1:∀q,q ∈ l->q ∉ d->∀y:mG,y.cur=some (q,.b true)->(∀ob:Nat->Option OB,fP l (d++[q]) m (bp ob t (.it y)) t)->Q (.tup [.b true,.n .i64 q,.b true]) (H.setOb t (.it y)))
  (h2:(∀q ∈ l,q ∈ d)->Q (.tup [.b false]) H):tB H Q t ⟨m,λq=>((bQ l).get q).isSome,seen,cur⟩ (some (.mp (bQ l))):=by
 refine xv (λq v hq=>by show((bQ l).get q).isSome=true;rw[hq];rfl) (λq v hq hsq=>?_) (λhall=>h2 λq hq=>(hsn q).1 (hall q ?_))
 ·rw[dq] at hq
  split at hq
  ·rename_i hql
   cases hq
   have hqd:q ∉ d:=λhm=>by
    have:=(hsn q).2 hm
    have hsq:seen q=false:=hsq
    rw[hsq] at this;cases this
   refine h1 q hql hqd _ rfl (λob=>⟨List.nodup_append.2 ⟨hn,by simp,λa ha b hb e=>by simp at hb;subst hb;subst e;exact hqd ha⟩,λr hr=>?_,_,_,λq'=>?_,aJ _ _ _⟩)
   ·rcases List.mem_append.1 hr with hr|hr
    ·exact hs r hr
    ·simp at hr;subst hr;exact hql
   ·show(decide (q'=q)||seen q')=true↔q' ∈ d++[q]
    rw[Bool.or_eq_true,decide_eq_true_eq,hsn q',List.mem_append,List.mem_singleton,or_comm]
  ·cases hq
 ·show((bQ l).get q).isSome=true
  rw[dq,if_pos hq];rfl
theorem Hr(cs:List In)(nx:Nat->List Nat)(n1:Nat)(ad:Nat->Nat)(S:Nat->List Int)(r0:Nat)(hn1:0<n1)(hnn:n1<=20000)(hS0:∀r,r ∈ S 0->bt cs nx 0 r)(pa:Int->Option Nat)(T:Int->List Int)(ob:Nat->Option OB)(t1:Nat)(hif:pC cs nx n1 ad S r0 pa T ob)(hw:fP (S 0) [] (ad 0) ob t1)
  (Q:AE->Tr AV->AH->Prop) (hQ:∀pa T ob e' H',pC cs nx n1 ad S r0 pa T ob->(∀a ∈ S 0,∀b ∈ S 0,a≠b->b ∈ T a)->Wk 90 e' H' (aF (kl cs nx n1 ad r0)) (a8 ob [])->Q (.exit 0) e' H'):
  GA Try.prog 90 (aK Try.prog 74) wI (aF ((26,Cw t1)::kl cs nx n1 ad r0)) (a8 ob []) Q:=by
 have hadC:∀i,zR ad i 0= .cv (.map (some (ad i))):=λ_=>rfl
 have hn10:(0:Int)<(n1:Int):=by omega
 refine GA.loop (I:=λmm e H=>∃(d:List Int) (pa:Int->Option Nat) (T:Int->List Int) (ob:Nat->Option OB),mm=(S 0).length-d.length/\fP (S 0) d (ad 0) ob t1/\pC cs nx n1 ad S r0 pa T ob/\(∀a ∈ d,∀b ∈ S 0,a≠b->b ∈ T a)/\e=aF ((26,Cw t1)::kl cs nx n1 ad r0)/\H=a8 ob []) Wk.refl ⟨[],pa,T,ob,rfl,hw,hif,λa ha=>(by cases ha),rfl,rfl⟩ ?_
 rintro mm e H ⟨d,pa,T,ob,rfl,hw,hif,hdone,rfl,rfl⟩
 have hob0:=hif.lv.at_ 0 hn1
 obtain⟨seen,cur,hsn,hot⟩:=hw.it
 repeat first|with_reducible refine am ?_|simp only[hot,hob0,go_sem,simprocAttr]
 refine kJ hw.nd hw.sub hsn (λp hp hpd y hcur hw2=>?_) (λhall=>?_)
 ·have hif2:=hif.iter (.inr ⟨_,hot⟩) (.it y)
  have hw2:=hw2 ob
  have hob02:=hif2.lv.at_ 0 hn1
  have hlen:=hw2.len
  rw[List.length_append,List.length_singleton] at hlen
  repeat first|with_reducible refine am ?_|simp only[hcur,hadC,hob02,hn10,go_sem,simprocAttr]
  refine lu (λt2 ht2=>?_)
  have ht2:bp ob t1 (.it y) t2=none:=ht2
  have hif3:=hif2.iter (.inl ht2) (.it ⟨ad 0,λk=>((bQ (S 0)).get k).isSome,λ_=>false,none⟩)
  have hw3:fP (S 0) [] (ad 0) (bp (bp ob t1 (.it y)) t2 (.it ⟨ad 0,λk=>((bQ (S 0)).get k).isSome,λ_=>false,none⟩)) t2:= .start (aJ _ _ _)
  have hw4:fP (S 0) (d++[p]) (ad 0) (bp (bp ob t1 (.it y)) t2 (.it ⟨ad 0,λk=>((bQ (S 0)).get k).isSome,λ_=>false,none⟩)) t1:=hw2.keep λz hz=>⟨z.cur,by rw[aV _ _ (ir hz ht2)];exact hz⟩
  have htt0:t1≠t2:=λe=>by rw[<-e,aJ] at ht2;cases ht2
  repeat first|with_reducible refine am ?_|simp only[go_sem,simprocAttr]
  refine GA.loop (I:=λmm e H=>∃(d2:List Int) (pa:Int->Option Nat) (T:Int->List Int) (ob:Nat->Option OB),mm=(S 0).length-d2.length/\fP (S 0) d2 (ad 0) ob t2/\fP (S 0) (d++[p]) (ad 0) ob t1/\t1≠t2/\pC cs nx n1 ad S r0 pa T ob/\(∀a ∈ d,∀b ∈ S 0,a≠b->b ∈ T a)/\(∀b ∈ d2,p≠b->b ∈ T p)/\e=aF ((34,Cw t2)::(7,.n .i64 p)::(26,Cw t1)::kl cs nx n1 ad r0)/\H=a8 ob []) (Wk.mkS [] [] ?_ ?_ ?_) ⟨[],pa,T,_,rfl,hw3,hw4,htt0,hif3,hdone,λb hb=>(by cases hb),rfl,rfl⟩ ?_
  ·simp only[bj,bc,kl,go_sem,simprocAttr]
   repeat' refine ab ?_ ?_
   all_goals first|exact bw|skip
  ·exact .nil
  ·simp
  clear hw3 hw4 hif3 hif2 hw2 hif hw hdone hot hob0 hob02
  rintro mm e H ⟨d2,pa,T,ob,rfl,hw,hwp,htt,hif,hdone,hd2,rfl,rfl⟩
  have hob0:=hif.lv.at_ 0 hn1
  obtain⟨seen,cur,hsn,hot⟩:=hw.it
  repeat first|with_reducible refine am ?_|simp only[hot,hob0,go_sem,simprocAttr]
  refine kJ hw.nd hw.sub hsn (λq hq hqd y hcur hwq=>?_) (λhall=>?_)
  ·have hif2:=hif.iter (.inr ⟨_,hot⟩) (.it y)
   have hwq:=hwq ob
   have hlen2:=hwq.len
   rw[List.length_append,List.length_singleton] at hlen2
   have hwp2:fP (S 0) (d++[p]) (ad 0) (bp ob t2 (.it y)) t1:=hwp.keep λz hz=>⟨z.cur,by rw[aV _ _ htt];exact hz⟩
   repeat first|with_reducible refine am ?_|simp only[hcur,go_sem,simprocAttr]
   refine⟨λhne=>?_,λheq=>?_⟩
   ·refine GA.regp (l:=[_,_,_]) rfl ?_
    simp only[go_sem,simprocAttr]
    refine⟨PE.of (by rfl),_,_,_,_,(by simp only[go_sem,simprocAttr];rfl),(by simp only[go_sem,simprocAttr];rfl),(qb r0 pa T p q ((a8 ob []).setOb t2 (.it y)) hif2.io (by show 0<1000;decide)).mono (λv H' hpost=>?_)⟩
    obtain⟨hnx,pa',hst⟩:=hpost
    have hifn:=hif2.note hst (.inl ⟨hne,hS0 p hp,hS0 q hq⟩)
    refine⟨_,_,_,?_,Wk.mkS [] [] ?_ ?_ ?_,d2++[q],pa',jf T p q,H'.ob,rfl,hwq.keep (λz hz=>hif2.itKeep hst hz),hwp2.keep (λz hz=>hif2.itKeep hst hz),htt,hifn,λa ha b hb hab=>bR.2 (.inl (hdone a ha b hb hab)),λb hb hpb=>?_,rfl,rfl⟩
    ·simp only[List.length_append,List.length_singleton];omega
    ·simp only[bj,bc,kl,go_sem,simprocAttr]
     repeat' refine ab ?_ ?_
     all_goals first|exact bw|skip
    ·exact .nil
    ·simp
    ·rcases List.mem_append.1 hb with hb|hb
     ·exact bR.2 (.inl (hd2 b hb hpb))
     ·simp at hb;subst hb;exact bR.2 (.inr (.inl ⟨rfl,rfl⟩))
   ·repeat first|with_reducible refine am ?_|simp only[go_sem,simprocAttr]
    refine⟨_,_,_,?_,Wk.mkS [] [] ?_ ?_ ?_,d2++[q],pa,T,_,rfl,hwq,hwp2,htt,hif2,hdone,λb hb hpb=>?_,rfl,rfl⟩
    ·simp only[List.length_append,List.length_singleton];omega
    ·simp only[bj,bc,kl,go_sem,simprocAttr]
     repeat' refine ab ?_ ?_
     all_goals first|exact bw|skip
    ·exact .nil
    ·simp
    ·rcases List.mem_append.1 hb with hb|hb
     ·exact hd2 b hb hpb
     ·simp at hb;subst hb;exact absurd heq hpb
  ·repeat first|with_reducible refine am ?_|simp only[go_sem,simprocAttr]
   refine⟨_,_,_,?_,Wk.mkS [] [] ?_ ?_ ?_,d++[p],pa,T,ob,rfl,hwp,hif,λa ha b hb hab=>?_,rfl,rfl⟩
   ·simp only[List.length_append,List.length_singleton];omega
   ·simp only[bj,bc,kl,go_sem,simprocAttr]
    repeat' refine ab ?_ ?_
    all_goals first|exact bw|skip
   ·exact .nil
   ·simp
   ·rcases List.mem_append.1 ha with ha|ha
    ·exact hdone a ha b hb hab
    ·simp at ha;subst ha;exact hd2 b (hall b hb) hab
 ·repeat first|with_reducible refine am ?_|simp only[go_sem,simprocAttr]
  refine hQ pa T ob _ _ hif (λa ha b hb=>hdone a (hall a ha) b hb) (Wk.mkS [] [] ?_ ?_ ?_)
  ·simp only[bj,bc,kl,go_sem,simprocAttr]
   repeat' refine ab ?_ ?_
   all_goals first|exact bw|skip
  ·exact .nil
  ·simp
def O2(nx:Nat->List Nat)(S:Nat->List Int)(w:Nat->Int)(T:Int->List Int)(i:Nat):Prop:=∀i',i'<i->0<=w i'->∀k ∈ nx i',∀r ∈ S k,r≠w i'->r ∈ T (w i')
abbrev yh(nx:Nat->List Nat)(i j:Nat)(w:Int)(n:Nat)(code:AV):List (Nat×AV):=[(61,.fs 1 (nx i).length (λj _=> .n .i64 (((nx i).getD j 0:Nat):Int))),(62,.n .i64 (nx i).length),(63,.n .i64 j),(12,.n .i64 w),(46,code),(47,.n .i64 n),(48,.n .i64 i)]
theorem Hq(cs:List In)(nx:Nat->List Nat)(ad:Nat->Nat)(S:Nat->List Int)(r0:Nat)(hn:cs.length<=16384)(hops:∀x ∈ cs,0<=x.1/\x.1<39)(hnx:∀i,i<cs.length->∀k ∈ nx i,k<=cs.length)(hnl:∀i,(nx i).length<=2)(hS:∀i,i<=cs.length->∀r,r ∈ S i->bt cs nx i r)
  (pa:Int->Option Nat) (T:Int->List Int) (ob:Nat->Option OB) (hif:pC cs nx (cs.length+1) ad S r0 pa T ob) (hC1:∀a ∈ S 0,∀b ∈ S 0,a≠b->b ∈ T a)
  (Q:AE->Tr AV->AH->Prop) (hQ:∀pa T ob e' H',pC cs nx (cs.length+1) ad S r0 pa T ob->(∀a ∈ S 0,∀b ∈ S 0,a≠b->b ∈ T a)->O2 nx S (rx cs) T cs.length->Wk 90 e' H' (aF (kl cs nx (cs.length+1) ad r0)) (a8 ob [])->Q (.exit 4) e' H'):
  GA Try.prog 90 (aK Try.prog 74) wH (aF ((46,.fs 5 cs.length (cC cs))::(47,.n .i64 cs.length)::(48,.n .i64 0)::kl cs nx (cs.length+1) ad r0)) (a8 ob []) Q:=by
 have hadd:∀j:Nat,j<100000->IntKind.wrap .i64 ((j:Int)+1)=((j+1:Nat):Int):=λj hj=>by rw[aX (by omega)];omega
 have hadC:∀i,zR ad i 0= .cv (.map (some (ad i))):=λ_=>rfl
 have hgC:∀i,gC nx i 0= .fs 1 (nx i).length (λj _=> .n .i64 (((nx i).getD j 0:Nat):Int)):=λ_=>rfl
 refine GA.loop (I:=λmm e H=>∃(i:Nat) (pa:Int->Option Nat) (T:Int->List Int) (ob:Nat->Option OB),mm=cs.length-i/\i<=cs.length/\pC cs nx (cs.length+1) ad S r0 pa T ob/\(∀a ∈ S 0,∀b ∈ S 0,a≠b->b ∈ T a)/\O2 nx S (rx cs) T i/\e=aF ((46,.fs 5 cs.length (cC cs))::(47,.n .i64 cs.length)::(48,.n .i64 i)::kl cs nx (cs.length+1) ad r0)/\H=a8 ob []) Wk.refl ⟨0,pa,T,ob,rfl,Nat.zero_le _,hif,hC1,λi hi=>by omega,rfl,rfl⟩ ?_
 rintro mm e H ⟨i,pa,T,ob,rfl,hi,hif,hC1,hC2,rfl,rfl⟩
 repeat first|with_reducible refine am ?_|simp only[go_sem,simprocAttr]
 refine⟨λh=>?_,λh=>?_⟩
 ·have hil:i<cs.length:=by omega
  have hi0:(0:Int)<=(i:Int):=by omega
  have ha:=hadd i (by omega)
  have hcc0:=wu cs i
  have hcc1:=CE cs i
  have hcc2:=CD cs i
  have hcc3:=CC cs i
  have hcc4:=CB cs i
  have hmem:cs.getD i (0,0,0,0,0) ∈ cs:=by rw[List.getD_eq_getElem?_getD,List.getElem?_eq_getElem hil];exact List.getElem_mem hil
  have hop:=hops _ hmem
  have hwr:rx cs i=aW (cs.getD i (0,0,0,0,0)).1 (cs.getD i (0,0,0,0,0)).2.1:=rfl
  generalize hx:cs.getD i (0,0,0,0,0)=x at*
  obtain⟨op,to,a,b,arg⟩:=x
  have hu:=gZ (kZ op to a b arg hop) (by rfl)
  simp only[List.map_cons,List.map_nil,RT.fz] at hu
  simp only at hwr
  repeat first|with_reducible refine am ?_|simp only[hi0,h,hcc0,hcc1,hcc2,hcc3,hcc4,decide_true,go_sem,simprocAttr]
  refine aw [] (.cons (.rfl (by rfl)) .nil) hu (by simp only[AH.mark_next,ag,aD,aE,av,af,ah,List.length_cons,List.length_nil];decide) ?_
  rw[<-hwr]
  generalize hw:rx cs i=w
  repeat first|with_reducible refine am ?_|simp only[hi0,h,hgC,go_sem,simprocAttr]
  refine GA.loop (I:=λmm e H=>∃(j:Nat) (pa:Int->Option Nat) (T:Int->List Int) (ob:Nat->Option OB),mm=(nx i).length-j/\j<=(nx i).length/\pC cs nx (cs.length+1) ad S r0 pa T ob/\(∀a ∈ S 0,∀b ∈ S 0,a≠b->b ∈ T a)/\O2 nx S (rx cs) T i/\(0<=w->∀j',j'<j->∀r ∈ S ((nx i).getD j' 0),r≠w->r ∈ T w)/\e=aF (yh nx i j w cs.length (.fs 5 cs.length (cC cs))++kl cs nx (cs.length+1) ad r0)/\H=a8 ob []) (Wk.mkS [] [] ?_ ?_ ?_) ⟨0,pa,T,_,rfl,Nat.zero_le _,hif,hC1,hC2,λ_ j hj=>by omega,rfl,rfl⟩ ?_
  ·simp only[bj,bc,kl,yh,List.cons_append,List.nil_append,go_sem,simprocAttr]
   repeat' refine ab ?_ ?_
   all_goals first|exact bw|skip
  ·exact .nil
  ·simp
  clear hif hC1 hC2
  rintro mm e H ⟨j,pa,T,ob,rfl,hj,hif,hC1,hC2,hC3,rfl,rfl⟩
  simp only[yh,List.cons_append,List.nil_append]
  repeat first|with_reducible refine am ?_|simp only[go_sem,simprocAttr]
  refine⟨λh=>?_,λh=>?_⟩
  ·have hjl:j<(nx i).length:=by omega
   have hj0:(0:Int)<=(j:Int):=by omega
   have ha2:=hadd j (by have:=hnl i;omega)
   obtain⟨k,hk⟩:∃k,(nx i).getD j 0=k:=⟨_,rfl⟩
   have hkm:k ∈ nx i:=by rw[<-hk,List.getD_eq_getElem?_getD,List.getElem?_eq_getElem hjl];exact List.getElem_mem hjl
   have hkn:k<=cs.length:=hnx i hil k hkm
   have hk0:(0:Int)<=(k:Int):=by omega
   have hk1:(k:Int)<((cs.length+1:Nat):Int):=by omega
   have hobk:=hif.lv.at_ k (by omega)
   repeat first|with_reducible refine am ?_|simp only[hj0,h,hk,hk0,hk1,hadC,hobk,go_sem,simprocAttr]
   refine lu (λt ht=>?_)
   have ht:ob t=none:=ht
   have hif3:=hif.iter (.inl ht) (.it ⟨ad k,λq=>((bQ (S k)).get q).isSome,λ_=>false,none⟩)
   have hw3:fP (S k) [] (ad k) (bp ob t (.it ⟨ad k,λq=>((bQ (S k)).get q).isSome,λ_=>false,none⟩)) t:= .start (aJ _ _ _)
   repeat first|with_reducible refine am ?_|simp only[go_sem,simprocAttr]
   refine GA.loop (I:=λmm e H=>∃(d:List Int) (pa:Int->Option Nat) (T:Int->List Int) (ob:Nat->Option OB),mm=(S k).length-d.length/\fP (S k) d (ad k) ob t/\pC cs nx (cs.length+1) ad S r0 pa T ob/\(∀a ∈ S 0,∀b ∈ S 0,a≠b->b ∈ T a)/\O2 nx S (rx cs) T i/\(0<=w->∀j',j'<j->∀r ∈ S ((nx i).getD j' 0),r≠w->r ∈ T w)/\(0<=w->∀r ∈ d,r≠w->r ∈ T w)/\e=aF ((71,Cw t)::(yh nx i j w cs.length (.fs 5 cs.length (cC cs))++kl cs nx (cs.length+1) ad r0))/\H=a8 ob []) (Wk.mkS [] [] ?_ ?_ ?_) ⟨[],pa,T,_,rfl,hw3,hif3,hC1,hC2,hC3,λ_ b hb=>(by cases hb),rfl,rfl⟩ ?_
   ·simp only[bj,bc,kl,yh,List.cons_append,List.nil_append,go_sem,simprocAttr]
    repeat' refine ab ?_ ?_
    all_goals first|exact bw|skip
   ·exact .nil
   ·simp
   clear hw3 hif3 hif hC1 hC2 hC3 hobk ht
   rintro mm e H ⟨d,pa,T,ob,rfl,hwk,hif,hC1,hC2,hC3,hd,rfl,rfl⟩
   have hobk:=hif.lv.at_ k (by omega)
   obtain⟨seen,cur,hsn,hot⟩:=hwk.it
   simp only[yh,List.cons_append,List.nil_append]
   repeat first|with_reducible refine am ?_|simp only[hot,hobk,go_sem,simprocAttr]
   refine kJ hwk.nd hwk.sub hsn (λq hq hqd y hcur hwq=>?_) (λhall=>?_)
   ·have hif2:=hif.iter (.inr ⟨_,hot⟩) (.it y)
    have hwq:=hwq ob
    have hlen2:=hwq.len
    rw[List.length_append,List.length_singleton] at hlen2
    by_cases hw0:0<=w
    ·repeat first|with_reducible refine am ?_|simp only[hcur,hw0,decide_true,go_sem,simprocAttr]
     refine⟨λhne=>?_,λheq=>?_⟩
     ·refine GA.regp (l:=[_,_,_]) rfl ?_
      simp only[go_sem,simprocAttr]
      refine⟨PE.of (by rfl),_,_,_,_,(by simp only[go_sem,simprocAttr];rfl),(by simp only[go_sem,simprocAttr];rfl),(qb r0 pa T w q ((a8 ob []).setOb t (.it y)) hif2.io (by show 0<1000;decide)).mono (λv H' hpost=>?_)⟩
      obtain⟨hnx2,pa',hst⟩:=hpost
      have hifn:=hif2.note hst (.inr ⟨i,k,hil,hkm,by rw[hw];exact hw0,.inl ⟨hw.symm,hne,hS k hkn q hq⟩⟩)
      refine⟨_,_,_,?_,Wk.mkS [] [] ?_ ?_ ?_,d++[q],pa',jf T w q,H'.ob,rfl,hwq.keep (λz hz=>hif2.itKeep hst hz),hifn,λa ha b hb hab=>bR.2 (.inl (hC1 a ha b hb hab)),λi' hi' h0 k' hk' r hr hrw=>bR.2 (.inl (hC2 i' hi' h0 k' hk' r hr hrw)),λj' hj' r hr hrw=>bR.2 (.inl (hC3 hw0 j' hj' r hr hrw)),λr hr hrw=>?_,rfl,rfl⟩
      ·simp only[List.length_append,List.length_singleton];omega
      ·simp only[bj,bc,kl,yh,List.cons_append,List.nil_append,go_sem,simprocAttr]
       repeat' refine ab ?_ ?_
       all_goals first|exact bw|skip
      ·exact .nil
      ·simp
      ·rcases List.mem_append.1 hr with hr|hr
       ·exact bR.2 (.inl (hd hw0 r hr hrw))
       ·simp at hr;subst hr;exact bR.2 (.inr (.inl ⟨rfl,rfl⟩))
     ·repeat first|with_reducible refine am ?_|simp only[go_sem,simprocAttr]
      refine⟨_,_,_,?_,Wk.mkS [] [] ?_ ?_ ?_,d++[q],pa,T,_,rfl,hwq,hif2,hC1,hC2,hC3 hw0,λr hr hrw=>?_,rfl,rfl⟩
      ·simp only[List.length_append,List.length_singleton];omega
      ·simp only[bj,bc,kl,yh,List.cons_append,List.nil_append,go_sem,simprocAttr]
       repeat' refine ab ?_ ?_
       all_goals first|exact bw|skip
      ·exact .nil
      ·simp
      ·rcases List.mem_append.1 hr with hr|hr
       ·exact hd hw0 r hr hrw
       ·simp at hr;subst hr;exact absurd heq hrw
    ·repeat first|with_reducible refine am ?_|simp only[hcur,hw0,decide_false,go_sem,simprocAttr]
     refine⟨_,_,_,?_,Wk.mkS [] [] ?_ ?_ ?_,d++[q],pa,T,_,rfl,hwq,hif2,hC1,hC2,rfl,rfl⟩
     ·simp only[List.length_append,List.length_singleton];omega
     ·simp only[bj,bc,kl,yh,List.cons_append,List.nil_append,go_sem,simprocAttr]
      repeat' refine ab ?_ ?_
      all_goals first|exact bw|skip
     ·exact .nil
     ·simp
   ·repeat first|with_reducible refine am ?_|simp only[ha2,go_sem,simprocAttr]
    refine⟨_,_,_,?_,Wk.mkS [] [] ?_ ?_ ?_,j+1,pa,T,ob,rfl,by omega,hif,hC1,hC2,λh0 j' hj' r hr hrw=>?_,rfl,rfl⟩
    ·omega
    ·simp only[bj,bc,kl,yh,List.cons_append,List.nil_append,go_sem,simprocAttr]
     repeat' refine ab ?_ ?_
     all_goals first|exact bw|skip
    ·exact .nil
    ·simp
    ·by_cases e:j'=j
     ·subst e;rw[hk] at hr;exact hd h0 r (hall r hr) hrw
     ·exact hC3 h0 j' (by omega) r hr hrw
  ·have hjk:j=(nx i).length:=by omega
   repeat first|with_reducible refine am ?_|simp only[ha,go_sem,simprocAttr]
   refine⟨_,_,_,?_,Wk.mkS [] [] ?_ ?_ ?_,i+1,pa,T,ob,rfl,by omega,hif,hC1,λi' hi' h0 k hk r hr hrw=>?_,rfl,rfl⟩
   ·omega
   ·simp only[bj,bc,kl,yh,List.cons_append,List.nil_append,go_sem,simprocAttr]
    repeat' refine ab ?_ ?_
    all_goals first|exact bw|skip
   ·exact .nil
   ·simp
   ·by_cases e:i'=i
    ·subst e
     rw[hw] at h0 hrw ⊢
     obtain⟨j',hj',rfl⟩:=List.mem_iff_getElem.1 hk
     refine hC3 h0 j' (by omega) r ?_ hrw
     rw[List.getD_eq_getElem?_getD,List.getElem?_eq_getElem hj'];exact hr
    ·exact hC2 i' (by omega) h0 k hk r hr hrw
 ·have hik:i=cs.length:=by omega
  subst hik
  repeat first|with_reducible refine am ?_|simp only[go_sem,simprocAttr]
  refine hQ pa T ob _ _ hif hC1 hC2 (Wk.mkS [] [] ?_ ?_ ?_)
  ·simp only[bj,bc,kl,go_sem,simprocAttr]
   repeat' refine ab ?_ ?_
   all_goals first|exact bw|skip
  ·exact .nil
  ·simp
theorem f9.cut{r0:Nat}{pa:Int->Option Nat}{T:Int->List Int}{ob:Nat->Option OB}(h:f9 r0 pa T ob):∃N:Nat->Option OB,f9 r0 pa T N/\∀r x,N r=some x->ob r=some x/\xk x=true:=by
 obtain⟨mo,h1,h2,h3⟩:=h.out
 let N:Nat->Option OB:=λr=>if @decide (r=r0\/∃k,pa k=some r) (Classical.propDecidable _)=true then ob r else none
 have hin:∀r,(r=r0\/∃k,pa k=some r)->N r=ob r:=λr hr=>if_pos (@decide_eq_true _ (Classical.propDecidable _) hr)
 refine⟨N,⟨⟨mo,by rw[hin r0 (.inl rfl)];exact h1,h2,h3⟩,λk a hk=>by rw[hin a (.inr ⟨k,hk⟩)];exact h.at_ k a hk,h.non,h.inj,h.ne⟩,λr x hx=>?_⟩
 have hx:(if @decide (r=r0\/∃k,pa k=some r) (Classical.propDecidable _)=true then ob r else none)=some x:=hx
 split at hx
 ·rename_i hd
  refine⟨hx,?_⟩
  rcases @of_decide_eq_true _ (Classical.propDecidable _) hd with e|⟨k,hk⟩
  ·have hy:=h1.symm.trans (e ▸ hx);cases hy;exact h2
  ·have hy:=(h.at_ k r hk).symm.trans hx;cases hy;rfl
 ·cases hx
theorem jW(cs:List In)(nx:Nat->List Nat)(R:Nat)(hg:bS Try.prog 66 [.fs 5 cs.length (cC cs)] [.v (.fs 1 cs.length (gC nx))])(hn:cs.length<=16384)
  (hops:∀x ∈ cs,0<=x.1/\x.1<39) (hnx:∀i,i<cs.length->∀k ∈ nx i,k<=cs.length) (hnl:∀i,(nx i).length<=2) (hR:∀x ∈ cs,∀r ∈ aA x.1 x.2.2.1 x.2.2.2.1,0<=r/\r<(R:Int)) (hw1:∀i k,i<cs.length->k ∈ nx i->k=i->aW (cs.getD i (0,0,0,0,0)).1 (cs.getD i (0,0,0,0,0)).2.1= -1):
  ij Try.prog 74 [.fs 5 cs.length (cC cs)] (λ_=>True) (λM rs N=>∃(r0:Nat) (pa:Int->Option Nat) (T:Int->List Int),rs=[.v (.cv (.map (some r0)))]/\f9 r0 pa T N/\(∀p,(T p).Nodup)/\(∀p q,q ∈ T p↔fQ cs nx p q)):=by
 have hlv:=jo cs nx R hg hn hops hnx hnl hR hw1
 have hadC:∀(ad:Nat->Nat) i,zR ad i 0= .cv (.map (some (ad i))):=λ_ _=>rfl
 have hn0:(0:Int)<((cs.length+1:Nat):Int):=by omega
 refine jr bh MX ⟨by simp,by decide⟩ λM hM=>?_
 simp only[bN]
 repeat first|with_reducible refine am ?_|simp only[go_sem,simprocAttr]
 refine fJ (λr0 hr0=>?_)
 repeat first|with_reducible refine am ?_|simp only[go_sem,simprocAttr]
 refine bO [] (.cons (.rfl (by rfl)) .nil) hlv True.intro (by simp only[AH.mark_next,ag,aD,aE,av,ao,af,ah,List.length_cons,List.length_nil];decide) ?_
 rintro rs N ⟨S,ad,hS,hob0,rfl⟩ hfree
 have hfr:∀r x,N r=some x->bp (eJ M) r0 (.mp ⟨true,λ_=>none,0,none⟩) r=none:=hfree
 have hlvo:eH (cs.length+1) ad S (jB (bp (eJ M) r0 (.mp ⟨true,λ_=>none,0,none⟩)) N):=⟨λi hi=>(eF (hfr _ _ (hob0.at_ i hi))).trans (hob0.at_ i hi),hob0.inj⟩
 have hr0o:jB (bp (eJ M) r0 (.mp ⟨true,λ_=>none,0,none⟩)) N r0=some (.mp ⟨true,λ_=>none,0,none⟩):=zP (aJ _ _ _)
 have hob1:=hlvo.at_ 0 (by omega)
 repeat first|with_reducible refine am ?_|simp only[hadC,hn0,hob1,go_sem,simprocAttr]
 refine lu (λt1 ht1=>?_)
 generalize hobA:jB (bp (eJ M) r0 (.mp ⟨true,λ_=>none,0,none⟩)) N=obA at*
 have ht1:obA t1=none:=by rw[<-hobA];exact ht1
 have hif0:pC cs nx (cs.length+1) ad S r0 (λ_=>none) (λ_=>[]) obA:=⟨⟨⟨_,hr0o,rfl,rfl⟩,λk a hk=>(by cases hk),λ_ _=>rfl,λk k' a hk=>(by cases hk),λk a hk=>(by cases hk)⟩,hlvo,λk a i _ hk=>(by cases hk),λi hi e=>(by
  have:=hfr _ _ (hob0.at_ i hi)
  rw[e,aJ] at this
  cases this),λ_=>List.nodup_nil,λp q hq=>(by cases hq),λp q hq=>(by cases hq)⟩
 have hif1:=hif0.iter (.inl ht1) (.it ⟨ad 0,λk=>((bQ (S 0)).get k).isSome,λ_=>false,none⟩)
 repeat first|with_reducible refine am ?_|simp only[go_sem,simprocAttr]
 refine GA.wk (Wk.mkS (L:=(26,Cw t1)::kl cs nx (cs.length+1) ad r0) (bl:=[]) [] [0] ?_ ?_ ?_) ?_
 ·simp only[bj,bc,kl,go_sem,simprocAttr]
  repeat' refine ab ?_ ?_
  all_goals first|exact bw|skip
  ·exact .cv (.p (o:=0) (j:=0) (List.mem_cons_self ..) (by simp only[go_sem,simprocAttr];rfl) (by show 0+1<=1;decide) (by show 0<1;decide) (λq hq=>by obtain rfl:q=0:=(by omega);rfl) (λq hq=>rfl))
  ·exact .cv (.fn .nil (.cons (.p (o:=0) (j:=0) (List.mem_cons_self ..) (by simp only[go_sem,simprocAttr];rfl) (by show 0+1<=1;decide) (by show 0<1;decide) (λq hq=>by obtain rfl:q=0:=(by omega);rfl) (λq hq=>rfl)) .nil))
 ·exact .nil
 ·simp
 simp only[go_sem,simprocAttr,hobA]
 refine Hr cs nx (cs.length+1) ad S r0 (by omega) (by omega) (λr hr=>((hS 0 (by omega)).2 r).1 hr) _ _ _ t1 hif1 (.start (aJ _ _ _)) _ (λpa T ob e' H' hif hC1 hwk=>?_)
 simp only[go_sem,simprocAttr]
 refine GA.wk hwk ?_
 repeat first|with_reducible refine am ?_|simp only[go_sem,simprocAttr]
 refine GA.wk (Wk.mkS (L:=(46,.fs 5 cs.length (cC cs))::(47,.n .i64 cs.length)::(48,.n .i64 0)::kl cs nx (cs.length+1) ad r0) (bl:=[]) [] [] ?_ ?_ ?_) ?_
 ·simp only[bj,bc,kl,go_sem,simprocAttr]
  repeat' refine ab ?_ ?_
  all_goals first|exact bw|skip
 ·exact .nil
 ·simp
 refine Hq cs nx ad S r0 hn hops hnx hnl (λi hi r hr=>((hS i hi).2 r).1 hr) pa T ob hif hC1 _ (λpa T ob e' H' hif hC1 hC2 hwk=>?_)
 simp only[go_sem,simprocAttr]
 refine GA.wk hwk ?_
 repeat first|with_reducible refine am ?_|simp only[go_sem,simprocAttr]
 obtain⟨N2,hN1,hN2⟩:=hif.io.cut
 refine⟨[_],N2,[_],⟨r0,pa,T,rfl,hN1,hif.nd,λp q=>⟨hif.ok p q,λhpq=>?_⟩⟩,rfl,⟨⟨rfl,rfl⟩,True.intro⟩,hN2⟩
 have hlive:∀i,i<=cs.length->∀r,bt cs nx i r->r ∈ S i:=λi hi r hr=>((hS i hi).2 r).2 hr
 rcases hpq with⟨h1,h2,h3⟩|⟨i,k,hi,hk,h0,⟨rfl,h2,h3⟩|⟨rfl,h2,h3⟩⟩
 ·exact hC1 p (hlive 0 (by omega) p h2) q (hlive 0 (by omega) q h3) h1
 ·exact hC2 i hi h0 k hk q (hlive k (hnx i hi k hk) q h3) h2
 ·exact hif.sy _ _ (hC2 i hi h0 k hk p (hlive k (hnx i hi k hk) p h3) h2)
def jG(K:Nat->Nat)(l:List Nat):Nat->Int->Option Int
 |0=>λ_=>none
 |k+1=>λq=>if q=((l.getD k 0:Nat):Int) then some ((K (l.getD k 0):Nat):Int) else jG K l k q
theorem jg{K:Nat->Nat}{l:List Nat}(h:l.Pairwise (· < ·)):∀{k:Nat},k<=l.length->∀(q v:Int),jG K l k q=some v↔∃i,i<k/\q=((l.getD i 0:Nat):Int)/\v=((K (l.getD i 0):Nat):Int)
 |0,_,q,v=>⟨λh=>(by cases h),λ⟨i,h,_⟩=>by omega⟩
 |k+1,hk,q,v=>by
  unfold jG
  by_cases e:q=((l.getD k 0:Nat):Int)
  ·rw[if_pos e]
   constructor
   ·intro h;cases h;exact⟨k,by omega,e,rfl⟩
   ·rintro ⟨i,hi,hq,rfl⟩
    have:l.getD i 0=l.getD k 0:=by omega
    rw[this]
  ·rw[if_neg e,jg h (by omega) q v]
   constructor
   ·rintro ⟨i,hi,h1,h2⟩;exact⟨i,by omega,h1,h2⟩
   ·rintro ⟨i,hi,h1,h2⟩
    have:i≠k:=λe'=>e (by rw[h1,e'])
    exact⟨i,by omega,h1,h2⟩
theorem oO{l:List Nat}(h:l.Pairwise (· < ·)){i j:Nat}(hij:i<j)(hj:j<l.length):l.getD i 0<l.getD j 0:=by
 rw[List.pairwise_iff_getElem] at h
 have:=h i j (by omega) hj hij
 rw[List.getD_eq_getElem?_getD,List.getD_eq_getElem?_getD,List.getElem?_eq_getElem hj,List.getElem?_eq_getElem (show i<l.length by omega)]
 exact this
theorem jQ{K K':Nat->Nat}{l:List Nat}:∀{k:Nat},(∀i,i<k->K (l.getD i 0)=K' (l.getD i 0))->jG K l k=jG K' l k
 |0,_=>rfl
 |k+1,h=>by
  unfold jG
  rw[jQ (λi hi=>h i (by omega)),h k (by omega)]
theorem vn(l:List Int)(c:Int):(bQ l).look false (.b false) c= .b (decide (c ∈ l)):=by
 unfold dj.look
 rw[dq]
 by_cases h:c ∈ l<;>simp[h,lw]
structure ru(r0:Nat)(pa:Int->Option Nat)(T:Int->List Int)(r1:Nat)(x:dj)(ob:Nat->Option OB):Prop where
 io:f9 r0 pa T ob
 out:ob r1=some (.mp x)
 d0:r1≠r0
 d1:∀k,pa k≠some r1
section
variable {r0:Nat} {pa:Int->Option Nat} {T:Int->List Int} {r1:Nat} {x:dj} {ob:Nat->Option OB}
theorem ru.other(h:ru r0 pa T r1 x ob){t:Nat}(h0:t≠r0)(h1:t≠r1)(h2:∀k,pa k≠some t)(y:OB):ru r0 pa T r1 x (bp ob t y):=by
 obtain⟨mo,q1,q2,q3⟩:=h.io.out
 exact⟨⟨⟨mo,by rw[aV _ _ (Ne.symm h0)];exact q1,q2,q3⟩,λk a hk=>by rw[aV _ _ (λe=>h2 k (by rw[hk,e]))];exact h.io.at_ k a hk,h.io.non,h.io.inj,h.io.ne⟩,by rw[aV _ _ (Ne.symm h1)];exact h.out,h.d0,h.d1⟩
theorem ru.clr(h:ru r0 pa T r1 x ob):ru r0 pa T r1 x (fZ ob):=by
 obtain⟨mo,q1,q2,q3⟩:=h.io.out
 exact⟨⟨⟨mo,dS q1,q2,q3⟩,λk a hk=>dS (h.io.at_ k a hk),h.io.non,h.io.inj,h.io.ne⟩,dS h.out,h.d0,h.d1⟩
theorem ru.fresh(h:ru r0 pa T r1 x ob){t:Nat}(ht:ob t=none):t≠r0/\t≠r1/\∀k,pa k≠some t:=by
 obtain⟨mo,q1,_⟩:=h.io.out
 exact⟨λe=>(by rw[e,q1] at ht;cases ht),λe=>(by rw[e,h.out] at ht;cases ht),λk hk=>(by rw[h.io.at_ k t hk] at ht;cases ht)⟩
theorem ru.set(h:ru r0 pa T r1 x ob)(x':dj):ru r0 pa T r1 x' (bp ob r1 (.mp x')):=by
 obtain⟨mo,q1,q2,q3⟩:=h.io.out
 exact⟨⟨⟨mo,by rw[aV _ _ (Ne.symm h.d0)];exact q1,q2,q3⟩,λk a hk=>by rw[aV _ _ (λe=>h.d1 k (by rw[hk,e]))];exact h.io.at_ k a hk,h.io.non,h.io.inj,h.io.ne⟩,aJ _ _ _,h.d0,h.d1⟩
end
abbrev pc(l:List Nat)(r0 r1:Nat)(n k:Nat):List (Nat×AV):=[(4,.cv (.map (some r0))),(5,.cv (.map (some r1))),(6,.n .i64 n),(18,.fs 1 l.length (λj _=> .n .i64 ((l.getD j 0:Nat):Int))),(19,.n .i64 l.length),(20,.n .i64 k)]
theorem gG{K K':Nat->Nat}{l:List Nat}:∀{k:Nat},(∀i,i<k->K (l.getD i 0)=K' (l.getD i 0))->cI K l k=cI K' l k
 |0,_=>rfl
 |k+1,h=>by
  unfold cI
  rw[gG (λi hi=>h i (by omega)),h k (by omega)]
def zW(T:Int->List Int)(l:List Nat)(K:Nat->Nat)(k:Nat):Prop:=∀i,i<k->ee (λc=>∃j,j<i/\((l.getD j 0:Nat):Int) ∈ T ((l.getD i 0:Nat):Int)/\K (l.getD j 0)=c) (K (l.getD i 0))
theorem xL{T:Int->List Int}{l:List Nat}(hl:l.Pairwise (· < ·)){K:Nat->Nat}{k c:Nat}(hk:k<l.length)(h:zW T l K k){tk:List Int}(htk:∀v:Int,v ∈ tk↔∃o ∈ T ((l.getD k 0:Nat):Int),jG K l k o=some v)(hc:¬(c:Int) ∈ tk)(hlt:∀c':Nat,c'<c->(c':Int) ∈ tk):
  zW T l (aZ K (l.getD k 0) c) (k+1)/\jG (aZ K (l.getD k 0) c) l k=jG K l k/\cI (aZ K (l.getD k 0) c) l k=cI K l k:=by
 have hne:∀i,i<k->l.getD i 0≠l.getD k 0:=λi hi e=>by have:=oO hl hi hk;omega
 have hK:∀i,i<k->aZ K (l.getD k 0) c (l.getD i 0)=K (l.getD i 0):=λi hi=>ae _ _ (hne i hi)
 refine⟨λi hi=>?_,jQ hK,gG hK⟩
 have hP:∀v:Nat,((∃j,j<i/\((l.getD j 0:Nat):Int) ∈ T ((l.getD i 0:Nat):Int)/\K (l.getD j 0)=v)↔∃j,j<i/\((l.getD j 0:Nat):Int) ∈ T ((l.getD i 0:Nat):Int)/\aZ K (l.getD k 0) c (l.getD j 0)=v):=λv=>by
  constructor
  ·rintro ⟨j,h1,h2,h3⟩;exact⟨j,h1,h2,by rw[hK j (by omega)];exact h3⟩
  ·rintro ⟨j,h1,h2,h3⟩;exact⟨j,h1,h2,by rw[<-hK j (by omega)];exact h3⟩
 by_cases e:i=k
 ·subst e
  rw[aY]
  have key:∀v:Nat,(v:Int) ∈ tk↔∃j,j<i/\((l.getD j 0:Nat):Int) ∈ T ((l.getD i 0:Nat):Int)/\K (l.getD j 0)=v:=λv=>by
   rw[htk]
   constructor
   ·rintro ⟨o,ho,hv⟩
    obtain⟨j,h1,rfl,h3⟩:=(jg hl (by omega) _ _).1 hv
    exact⟨j,h1,ho,by omega⟩
   ·rintro ⟨j,h1,h2,h3⟩
    exact⟨_,h2,(jg hl (by omega) _ _).2 ⟨j,h1,rfl,by rw[h3]⟩⟩
  exact⟨λhx=>hc ((key c).2 ((hP c).2 hx)),λc' hc'=>(hP c').1 ((key c').1 (hlt c' hc'))⟩
 ·rw[hK i (by omega)]
  exact(h i (by omega)).congr hP
theorem tZ(T T':Int->List Int)(l:List Nat)(hl:l.Pairwise (· < ·))(hll:l.length<=100000)(r0 r1 r2:Nat)(pa:Int->Option Nat)(K:Nat->Nat)(k:Nat)(hkl:k<l.length)(x:dj)(ob:Nat->Option OB)(hcs:ru r0 pa T' r1 x ob)(hown:x.own=true)(hget:x.get=fi (jG K l k))(hmex:zW T l K k)
  (tk:List Int) (htl:tk.length<=100000) (hob2:ob r2=some (.mp (bQ tk))) (htk:∀v:Int,v ∈ tk↔∃o ∈ T ((l.getD k 0:Nat):Int),jG K l k o=some v)
  (Q:AE->Tr AV->AH->Prop) (hQ:∀(K':Nat->Nat) (x':dj) (ob':Nat->Option OB) e' H',ru r0 pa T' r1 x' ob'->x'.own=true->x'.get=fi (jG K' l (k+1))->zW T l K' (k+1)->Wk 57 e' H' (aF (pc l r0 r1 (cI K' l (k+1)) k)) (a8 ob' [])->Q .normal e' H'):
  GA Try.prog 57 (aK Try.prog 42) wE (aF ((13,.n .i64 0)::(9,.cv (.map (some r2)))::(8,.n .i64 ((l.getD k 0:Nat):Int))::pc l r0 r1 (cI K l k) k)) (a8 ob []) (gM 4 (gh (λe' H'=>GA Try.prog 57 (aK Try.prog 42) ((AC.reg wD).seq (AC.reg wC)) e' H' Q) Q)):=by
 have hadd:∀j:Nat,j<200000->IntKind.wrap .i64 ((j:Int)+1)=((j+1:Nat):Int):=λj hj=>by rw[aX (by omega)];omega
 refine GA.loop (I:=λmm e H=>∃(c:Nat),mm=tk.length+1-c/\c<=tk.length/\(∀c':Nat,c'<c->(c':Int) ∈ tk)/\e=aF ((13,.n .i64 c)::(9,.cv (.map (some r2)))::(8,.n .i64 ((l.getD k 0:Nat):Int))::pc l r0 r1 (cI K l k) k)/\H=a8 ob []) Wk.refl ⟨0,rfl,Nat.zero_le _,λc' hc'=>by omega,rfl,rfl⟩ ?_
 rintro mm e H ⟨c,rfl,hcl,hlt,rfl,rfl⟩
 have hlk:=vn tk (c:Int)
 have ha:=hadd c (by omega)
 repeat first|with_reducible refine am ?_|simp only[hob2,hlk,go_sem,simprocAttr]
 refine⟨λhin=>?_,λhout=>?_⟩
 ·have hsub:=fA (l:=(List.range (c+1)).map (λn:Nat=>(n:Int))) (l':=tk) (List.pairwise_map.2 (List.nodup_range.imp λh e=>h (by omega))) (λv hv=>by
   obtain⟨n,hn,rfl⟩:=List.mem_map.1 hv
   rw[List.mem_range] at hn
   by_cases e:n=c
   ·rw[e];exact hin
   ·exact hlt n (by omega))
  rw[List.length_map,List.length_range] at hsub
  repeat first|with_reducible refine am ?_|simp only[ha,go_sem,simprocAttr]
  refine⟨_,_,_,?_,Wk.mkS [] [] ?_ ?_ ?_,c+1,rfl,hsub,λc' hc'=>?_,rfl,rfl⟩
  ·omega
  ·simp only[bj,bc,pc,go_sem,simprocAttr]
   repeat' refine ab ?_ ?_
   all_goals first|exact bw|skip
   all_goals exact Wv.same rfl
  ·exact .nil
  ·simp
  ·by_cases e:c'=c
   ·rw[e];exact hin
   ·exact hlt c' (by omega)
 ·obtain⟨hm1,hm2,hm3⟩:=xL hl hkl hmex htk hout hlt
  have hob1:=hcs.out
  have hmx:(if(cI K l k:Int)<((c+1:Nat):Int) then((c+1:Nat):Int) else(cI K l k:Int))=((cI (aZ K (l.getD k 0) c) l (k+1):Nat):Int):=by
   show _=((max (cI (aZ K (l.getD k 0) c) l k) (aZ K (l.getD k 0) c (l.getD k 0)+1):Nat):Int)
   rw[hm3,aY]
   split<;>omega
  repeat first|with_reducible refine am ?_|simp only[hob1,hown,ha,hmx,go_sem,simprocAttr]
  refine hQ (aZ K (l.getD k 0) c) _ _ _ _ (hcs.clr.set (x.put ((l.getD k 0:Nat):Int) (.n .i64 (c:Int)))) hown ?_ hm1 (Wk.mkS [] [] ?_ ?_ ?_)
  ·funext q
   show(if q=_ then _ else x.get q)=((jG (aZ K (l.getD k 0) c) l (k+1) q).map (.n .i64 ·))
   unfold jG
   rw[aY,hm2]
   by_cases e:q=((l.getD k 0:Nat):Int)
   ·rw[if_pos e,if_pos e];rfl
   ·rw[if_neg e,if_neg e,hget]
  ·simp only[bj,bc,pc,go_sem,simprocAttr]
   repeat' refine ab ?_ ?_
   all_goals first|exact bw|skip
   all_goals exact Wv.same rfl
  ·exact .nil
  ·simp
theorem sI(cs:List In)(T:Int->List Int)(l:List Nat)(hl:l.Pairwise (· < ·))(hll:l.length<=100000)(hTn:∀p,(T p).Nodup)(hTl:∀p,(T p).length<=100000)
  (hin:ij Try.prog 74 [.fs 5 cs.length (cC cs)] (λ_=>True) (λM rs N=>∃(r0:Nat) (pa:Int->Option Nat) (T':Int->List Int),rs=[.v (.cv (.map (some r0)))]/\f9 r0 pa T' N/\(∀p,(T' p).Nodup)/\(∀p q,q ∈ T' p↔q ∈ T p)))
  (ho:bS Try.prog 52 [.fs 5 cs.length (cC cs)] [.v (.fs 1 l.length (λj _=> .n .i64 ((l.getD j 0:Nat):Int)))]):
  ij Try.prog 42 [.fs 5 cs.length (cC cs)] (λ_=>True) (λM rs N=>∃(r1:Nat) (x:dj) (K:Nat->Nat),rs=[.v (.cv (.map (some r1))),.v (.n .i64 (cI K l l.length))]/\N r1=some (.mp x)/\x.get=fi (jG K l l.length)/\
   ∀i,i<l.length->ee (λc=>∃j,j<i/\((l.getD j 0:Nat):Int) ∈ T ((l.getD i 0:Nat):Int)/\K (l.getD j 0)=c) (K (l.getD i 0))):=by
 have hadd:∀j:Nat,j<200000->IntKind.wrap .i64 ((j:Int)+1)=((j+1:Nat):Int):=λj hj=>by rw[aX (by omega)];omega
 refine jr bh K7 ⟨by simp,by decide⟩ λM hM=>?_
 simp only[bN]
 repeat first|with_reducible refine am ?_|simp only[go_sem,simprocAttr]
 refine bO [] (.cons (.rfl (by rfl)) .nil) hin True.intro (by simp only[AH.mark_next,ag,aD,aE,av,ao,af,ah,List.length_cons,List.length_nil];decide) ?_
 rintro rs N ⟨r0,pa,T',rfl,hio,hTn',hTT⟩ hfree
 have hfr:∀r x,N r=some x->eJ M r=none:=hfree
 have hio2:f9 r0 pa T' (jB (eJ M) N):=by
  obtain⟨mo,h1,h2,h3⟩:=hio.out
  exact⟨⟨mo,(eF (hfr _ _ h1)).trans h1,h2,h3⟩,λk a hk=>(eF (hfr _ _ (hio.at_ k a hk))).trans (hio.at_ k a hk),hio.non,hio.inj,hio.ne⟩
 repeat first|with_reducible refine am ?_|simp only[go_sem,simprocAttr]
 refine fJ (λr1 hr1=>?_)
 repeat first|with_reducible refine am ?_|simp only[go_sem,simprocAttr]
 refine aw [] (.cons (.rfl (by rfl)) .nil) ho (by simp only[AH.mark_next,ag,aD,aE,av,ao,az,af,ah,List.length_cons,List.length_nil];decide) ?_
 repeat first|with_reducible refine am ?_|simp only[go_sem,simprocAttr]
 have hpre1:jB (eJ M) N r1=none:=hr1
 have hcs0:ru r0 pa T' r1 ⟨true,λ_=>none,0,none⟩ (bp (jB (eJ M) N) r1 (.mp ⟨true,λ_=>none,0,none⟩)):=by
  obtain⟨mo,q1,q2,q3⟩:=hio2.out
  have f0:r1≠r0:=λe=>by rw[e,q1] at hpre1;cases hpre1
  have f1:∀k,pa k≠some r1:=λk hk=>by rw[hio2.at_ k r1 hk] at hpre1;cases hpre1
  exact⟨⟨⟨mo,by rw[aV _ _ (Ne.symm f0)];exact q1,q2,q3⟩,λk a hk=>by rw[aV _ _ (λe=>f1 k (by rw[hk,e]))];exact hio2.at_ k a hk,hio2.non,hio2.inj,hio2.ne⟩,aJ _ _ _,f0,f1⟩
 refine GA.loop (I:=λmm e H=>∃(k:Nat) (K:Nat->Nat) (x:dj) (ob:Nat->Option OB),mm=l.length-k/\k<=l.length/\ru r0 pa T' r1 x ob/\x.own=true/\x.get=fi (jG K l k)/\(∀i,i<k->ee (λc=>∃j,j<i/\((l.getD j 0:Nat):Int) ∈ T ((l.getD i 0:Nat):Int)/\K (l.getD j 0)=c) (K (l.getD i 0)))/\e=aF (pc l r0 r1 (cI K l k) k)/\H=a8 ob []) (Wk.mkS [] [] ?_ ?_ ?_) ⟨0,λ_=>0,_,_,rfl,Nat.zero_le _,hcs0,rfl,rfl,λi hi=>by omega,rfl,rfl⟩ ?_
 ·simp only[bj,bc,pc,go_sem,simprocAttr]
  repeat' refine ab ?_ ?_
  all_goals first|exact bw|skip
  all_goals exact Wv.same rfl
 ·exact .nil
 ·simp
 clear hcs0 hio2 hio hfree hfr hpre1 hr1
 rintro mm e H ⟨k,K,x,ob,rfl,hk,hcs,hown,hget,hmex,rfl,rfl⟩
 repeat first|with_reducible refine am ?_|simp only[go_sem,simprocAttr]
 refine⟨λh=>?_,λh=>?_⟩
 ·have hkl:k<l.length:=by omega
  have hk0:(0:Int)<=(k:Int):=by omega
  have ha:=hadd k (by omega)
  repeat first|with_reducible refine am ?_|simp only[hk0,h,decide_true,go_sem,simprocAttr]
  refine fJ (λr2 hr2=>?_)
  have hr2:ob r2=none:=hr2
  obtain⟨g0,g1,g2⟩:=hcs.fresh hr2
  have hcs2:=hcs.other g0 g1 g2 (.mp ⟨true,λ_=>none,0,none⟩)
  obtain⟨mo,hmo,hmown,hmget⟩:=hcs2.io.out
  have hlk:=jn hmget ((l.getD k 0:Nat):Int)
  have hob2:bp ob r2 (.mp ⟨true,λ_=>none,0,none⟩) r2=some (.mp (bQ [])):=by rw[aJ,fe]
  cases hp:pa ((l.getD k 0:Nat):Int) with
  |none=>
   rw[hp] at hlk
   have hT0:∀o,o ∉ T ((l.getD k 0:Nat):Int):=λo ho=>by
    have h1:=(hTT _ _).2 ho
    rw[hcs.io.non _ hp] at h1;cases h1
   repeat first|with_reducible refine am ?_|simp only[hmo,hlk,go_sem,simprocAttr]
   intro t ht
   have ht:bp ob r2 (.mp ⟨true,λ_=>none,0,none⟩) t=none:=ht
   obtain⟨f0,f1,f2⟩:=hcs2.fresh ht
   have hcs3:=hcs2.other f0 f1 f2 (.fix (.mapIter none 0 #[] 0))
   have hob3:bp (bp ob r2 (.mp ⟨true,λ_=>none,0,none⟩)) t (.fix (.mapIter none 0 #[] 0)) r2=some (.mp (bQ [])):=by
    rw[aV _ _ (ir hob2 ht)];exact hob2
   have hot:bp (bp ob r2 (.mp ⟨true,λ_=>none,0,none⟩)) t (.fix (.mapIter none 0 #[] 0)) t=some (.fix (.mapIter none 0 #[] 0)):=aJ _ _ _
   repeat first|with_reducible refine am ?_|simp only[go_sem,simprocAttr]
   refine GA.loop (I:=λmm e H=>mm=0/\e=aF ((28,Cw t)::(9,.cv (.map (some r2)))::(8,.n .i64 ((l.getD k 0:Nat):Int))::pc l r0 r1 (cI K l k) k)/\H=a8 (bp (bp ob r2 (.mp ⟨true,λ_=>none,0,none⟩)) t (.fix (.mapIter none 0 #[] 0))) []) (Wk.mkS [] [] ?_ ?_ ?_) ⟨rfl,rfl,rfl⟩ ?_
   ·simp only[bj,bc,pc,go_sem,simprocAttr]
    repeat' refine ab ?_ ?_
    all_goals first|exact bw|skip
    all_goals exact Wv.same rfl
   ·exact .nil
   ·simp
   rintro mm e H ⟨rfl,rfl,rfl⟩
   repeat first|with_reducible refine am ?_|simp only[hot,go_sem,simprocAttr]
   refine GA.wk (Wk.mkS (L:=(13,.n .i64 0)::(9,.cv (.map (some r2)))::(8,.n .i64 ((l.getD k 0:Nat):Int))::pc l r0 r1 (cI K l k) k) (bl:=[]) [] [] ?_ ?_ ?_) ?_
   ·simp only[bj,bc,pc,go_sem,simprocAttr]
    repeat' refine ab ?_ ?_
    all_goals first|exact bw|skip
    all_goals exact Wv.same rfl
   ·exact .nil
   ·simp
   refine tZ T T' l hl hll r0 r1 r2 pa K k hkl x _ hcs3 hown hget hmex [] (by simp) hob3 (λv=>⟨λh=>(by cases h),λ⟨o,ho,_⟩=>absurd ho (hT0 o)⟩) _ (λK' x' ob' e' H' c1 c2 c3 c4 hwk=>?_)
   simp only[go_sem,simprocAttr]
   refine GA.wk hwk ?_
   repeat first|with_reducible refine am ?_|simp only[ha,go_sem,simprocAttr]
   refine⟨_,_,_,?_,Wk.mkS [] [] ?_ ?_ ?_,k+1,K',x',ob',rfl,by omega,c1,c2,c3,c4,rfl,rfl⟩
   ·omega
   ·simp only[bj,bc,pc,go_sem,simprocAttr]
    repeat' refine ab ?_ ?_
    all_goals first|exact bw|skip
    all_goals exact Wv.same rfl
   ·exact .nil
   ·simp
  |some a=>
   rw[hp] at hlk
   have hat:=hcs2.io.at_ _ a hp
   repeat first|with_reducible refine am ?_|simp only[hmo,hlk,hat,go_sem,simprocAttr]
   refine lu (λt ht=>?_)
   have ht:bp ob r2 (.mp ⟨true,λ_=>none,0,none⟩) t=none:=ht
   obtain⟨f0,f1,f2⟩:=hcs2.fresh ht
   have hcs3:=hcs2.other f0 f1 f2 (.it ⟨a,λq=>((bQ (T' ((l.getD k 0:Nat):Int))).get q).isSome,λ_=>false,none⟩)
   have hob3:bp (bp ob r2 (.mp ⟨true,λ_=>none,0,none⟩)) t (.it ⟨a,λq=>((bQ (T' ((l.getD k 0:Nat):Int))).get q).isSome,λ_=>false,none⟩) r2=some (.mp (bQ [])):=by
    rw[aV _ _ (ir hob2 ht)];exact hob2
   have hw3:fP (T' ((l.getD k 0:Nat):Int)) [] a (bp (bp ob r2 (.mp ⟨true,λ_=>none,0,none⟩)) t (.it ⟨a,λq=>((bQ (T' ((l.getD k 0:Nat):Int))).get q).isSome,λ_=>false,none⟩)) t:= .start (aJ _ _ _)
   have htr2:t≠r2:=λe=>by rw[e,hob2] at ht;cases ht
   have hTl2:(T' ((l.getD k 0:Nat):Int)).length<=100000:=Nat.le_trans (fA (hTn' _) (λv hv=>(hTT _ v).1 hv)) (hTl _)
   repeat first|with_reducible refine am ?_|simp only[go_sem,simprocAttr]
   refine GA.loop (I:=λmm e H=>∃(d tk:List Int) (ob:Nat->Option OB),mm=(T' ((l.getD k 0:Nat):Int)).length-d.length/\fP (T' ((l.getD k 0:Nat):Int)) d a ob t/\ru r0 pa T' r1 x ob/\ob r2=some (.mp (bQ tk))/\tk.length<=d.length/\(∀v:Int,v ∈ tk↔∃o ∈ d,jG K l k o=some v)/\e=aF ((28,Cw t)::(9,.cv (.map (some r2)))::(8,.n .i64 ((l.getD k 0:Nat):Int))::pc l r0 r1 (cI K l k) k)/\H=a8 ob []) (Wk.mkS [] [] ?_ ?_ ?_) ⟨[],[],_,rfl,hw3,hcs3,hob3,Nat.le_refl _,λv=>⟨λh=>(by cases h),λ⟨o,ho,_⟩=>(by cases ho)⟩,rfl,rfl⟩ ?_
   ·simp only[bj,bc,pc,go_sem,simprocAttr]
    repeat' refine ab ?_ ?_
    all_goals first|exact bw|skip
    all_goals exact Wv.same rfl
   ·exact .nil
   ·simp
   clear hcs3 hob3 hw3 ht hcs2 hob2 hmo hlk hat hcs hr2
   rintro mm e H ⟨d,tk,ob,rfl,hw,hcs,hob2,htl,htk,rfl,rfl⟩
   have hat:=hcs.io.at_ _ a hp
   have hout:=hcs.out
   obtain⟨seen,cur,hsn,hot⟩:=hw.it
   repeat first|with_reducible refine am ?_|simp only[hot,hat,go_sem,simprocAttr]
   refine kJ hw.nd hw.sub hsn (λo ho hod y hcur hwo=>?_) (λhall=>?_)
   ·have hwo:=hwo ob
    have hlen2:=hwo.len
    rw[List.length_append,List.length_singleton] at hlen2
    have hcs4:=hcs.other f0 f1 f2 (.it y)
    have hout4:=hcs4.out
    have hob4:bp ob t (.it y) r2=some (.mp (bQ tk)):=by rw[aV _ _ (Ne.symm htr2)];exact hob2
    have hlk:=r8 hget true o
    cases hnm:jG K l k o with
    |none=>
     rw[hnm] at hlk
     simp only[Option.isSome_none,Option.getD_none] at hlk
     repeat first|with_reducible refine am ?_|simp only[hcur,hout4,hlk,go_sem,simprocAttr]
     refine⟨_,_,_,?_,Wk.mkS [] [] ?_ ?_ ?_,d++[o],tk,_,rfl,hwo,hcs4,hob4,by rw[List.length_append];omega,λv=>(htk v).trans ⟨λ⟨o',h1,h2⟩=>⟨o',List.mem_append.2 (.inl h1),h2⟩,λ⟨o',h1,h2⟩=>?_⟩,rfl,rfl⟩
     ·rw[List.length_append,List.length_singleton];omega
     ·simp only[bj,bc,pc,go_sem,simprocAttr]
      repeat' refine ab ?_ ?_
      all_goals first|exact bw|skip
      all_goals exact Wv.same rfl
     ·exact .nil
     ·simp
     ·rcases List.mem_append.1 h1 with h1|h1
      ·exact⟨o',h1,h2⟩
      ·simp at h1;subst h1;rw[hnm] at h2;cases h2
    |some v=>
     rw[hnm] at hlk
     repeat first|with_reducible refine am ?_|simp only[hcur,hout4,hlk,hob4,go_sem,simprocAttr]
     have hcs5:=hcs4.clr.other g0 g1 g2 (.mp ((bQ tk).put v (.b true)))
     refine⟨rfl,_,_,_,?_,Wk.mkS [] [] ?_ ?_ ?_,d++[o],gN tk v,_,rfl,hwo.keep (λz hz=>⟨none,by rw[aV _ _ htr2];exact uc hz⟩),hcs5,by rw[aJ,i3],?_,λv'=>?_,rfl,rfl⟩
     ·rw[List.length_append,List.length_singleton];omega
     ·simp only[bj,bc,pc,go_sem,simprocAttr]
      repeat' refine ab ?_ ?_
      all_goals first|exact bw|skip
      all_goals exact Wv.same rfl
     ·exact .nil
     ·simp
     ·rw[List.length_append,List.length_singleton]
      unfold gN
      split
      ·omega
      ·rw[List.length_append,List.length_singleton];omega
     ·rw[dc,htk]
      constructor
      ·rintro (⟨o',h1,h2⟩|rfl)
       ·exact⟨o',List.mem_append.2 (.inl h1),h2⟩
       ·exact⟨o,List.mem_append.2 (.inr (by simp)),hnm⟩
      ·rintro ⟨o',h1,h2⟩
       rcases List.mem_append.1 h1 with h1|h1
       ·exact .inl ⟨o',h1,h2⟩
       ·simp at h1;subst h1;rw[hnm] at h2;exact .inr (Option.some.inj h2).symm
   ·repeat first|with_reducible refine am ?_|simp only[go_sem,simprocAttr]
    refine GA.wk (Wk.mkS (L:=(13,.n .i64 0)::(9,.cv (.map (some r2)))::(8,.n .i64 ((l.getD k 0:Nat):Int))::pc l r0 r1 (cI K l k) k) (bl:=[]) [] [] ?_ ?_ ?_) ?_
    ·simp only[bj,bc,pc,go_sem,simprocAttr]
     repeat' refine ab ?_ ?_
     all_goals first|exact bw|skip
     all_goals exact Wv.same rfl
    ·exact .nil
    ·simp
    refine tZ T T' l hl hll r0 r1 r2 pa K k hkl x ob hcs hown hget hmex tk (by have:=hw.len;omega) hob2 (λv=>(htk v).trans ⟨λ⟨o,h1,h2⟩=>⟨o,(hTT _ o).1 (hw.sub o h1),h2⟩,λ⟨o,h1,h2⟩=>⟨o,hall o ((hTT _ o).2 h1),h2⟩⟩) _ (λK' x' ob' e' H' c1 c2 c3 c4 hwk=>?_)
    simp only[go_sem,simprocAttr]
    refine GA.wk hwk ?_
    repeat first|with_reducible refine am ?_|simp only[ha,go_sem,simprocAttr]
    refine⟨_,_,_,?_,Wk.mkS [] [] ?_ ?_ ?_,k+1,K',x',ob',rfl,by omega,c1,c2,c3,c4,rfl,rfl⟩
    ·omega
    ·simp only[bj,bc,pc,go_sem,simprocAttr]
     repeat' refine ab ?_ ?_
     all_goals first|exact bw|skip
     all_goals exact Wv.same rfl
    ·exact .nil
    ·simp
 ·have hkk:k=l.length:=by omega
  subst hkk
  repeat first|with_reducible refine am ?_|simp only[go_sem,simprocAttr]
  refine⟨_,λr=>if r=r1 then some (.mp x) else none,[_,_],⟨r1,x,K,rfl,if_pos rfl,hget,hmex⟩,rfl,⟨⟨rfl,rfl⟩,⟨rfl,rfl⟩,True.intro⟩,λr y hy=>?_⟩
  have hy:(if r=r1 then some (OB.mp x) else none)=some y:=hy
  split at hy
  ·rename_i e
   cases hy
   subst e
   exact⟨hcs.out,hown⟩
  ·cases hy
end Go.Proofs.Yteopfmnnhlhbmaa
namespace Go.Proofs.Yteopfmnnhlhbmaa
open Go.RowKit
theorem yi{P:Program}{f:FuncId}{args:List AV}{x:AV}(hx:x.pu 3=true)(h:rk P f args λv H=>∃M,Cv M H v x):bS P f args [.v x]:=by
 refine⟨h.1,λφ w args' hφ ha=>(h.2 φ w args' hφ ha).mono λe w' hq=>?_⟩
 cases e with
 |panicked c=>exact hq.elim
 |outgrown=>exact hq.elim
 |returned u=>
  obtain⟨v,Hc,σ',⟨M,hcv⟩,hv,hH,hb,hz⟩:=hq
  obtain⟨σ2,q1,q2,q3,q4,q5,q6,q7⟩:=hH.marks M
  have hu:=hcv.ok hH q1 q2 q7 hv
  exact⟨x,b9 Hc M,σ2,⟨[x],rfl,⟨rfl,hx⟩,True.intro⟩,hu.mono σ2.bare_le,q6,hb,λc hc=>(q4.eq c hc).trans (hz c hc)⟩
def b6(cs:List In)(pt:Nat->Nat)(i:Nat):List Nat:=
 if bV cs i=27\/bV cs i=29\/bV cs i=30 then[i+1,pt i+1]
 else if bV cs i=28 then[pt i+1]
 else if bV cs i=31 then(if bV cs (pt i)=29 then[pt i+1,i+1] else[i+1])
 else[i+1]
theorem rA{M:List Nat}{H:AH}{b a:Nat}{x:AB}(hx:H.at b=some x)(hm:M.contains b=true)(hs:1=x.size)(hg:x.get 0= .n .i64 (a:Int)){nx:Nat->List Nat}{i:Nat}(hnx:nx i=[a]):Cv M H (.sl b 0 1 1) (gC nx i 0):=oL hx hm hs hnx hg
theorem wT{M:List Nat}{H:AH}{b a a2:Nat}{x:AB}(hx:H.at b=some x)(hm:M.contains b=true)(hs:2=x.size)(hg:x.get 0= .n .i64 (a:Int))(hg2:x.get 1= .n .i64 (a2:Int)){nx:Nat->List Nat}{i:Nat}(hnx:nx i=[a,a2]):Cv M H (.sl b 0 2 2) (gC nx i 0):=by
 unfold gC
 rw[hnx]
 refine .sl (by simpa using hm) hx (by rw[<-hs];decide) (by decide) (by rw[<-hs];decide) (λp j hp hj=>?_) (λp j hp hj=>rfl)
 obtain rfl:j=0:=by omega
 have hp':p<2:=hp
 obtain rfl|rfl:p=0\/p=1:=by omega
 ·exact hg
 ·exact hg2
theorem uA(cs:List In)(hn:cs.length<=16384)(pr:List Int)(hpr:pr.length=cs.length)(pt:Nat->Nat)(i:Nat)(hil:i<cs.length)(hp:dQ (bV cs i)->pr.getD i 0=(pt i:Int)/\pt i<cs.length):
  bS Try.prog 59 [.fs 5 cs.length (cC cs),.fs 1 pr.length (iC .i64 pr),.n .i64 i] [.v (gC (b6 cs pt) i 0)]:=by
 have hadd:∀j:Nat,j<100000->IntKind.wrap .i64 ((j:Int)+1)=((j+1:Nat):Int):=λj hj=>by rw[aX (by omega)];omega
 have hi0:(0:Int)<=(i:Int):=by omega
 have h:(i:Int)<(cs.length:Int):=by omega
 have ha:=hadd i (by omega)
 have hcc0:=wu cs i
 have hic:iC .i64 pr i 0= .n .i64 (pr.getD i 0):=rfl
 have hp0:(0:Int)<=(pt i:Int):=by omega
 have hpc0:=wu cs (pt i)
 have hnx:b6 cs pt i=b6 cs pt i:=rfl
 conv at hnx=>rhs;unfold b6
 have hopp:(cs.getD (pt i) (0,0,0,0,0)).1=bV cs (pt i):=rfl
 have hopi:(cs.getD i (0,0,0,0,0)).1=bV cs i:=rfl
 rw[hopi] at hcc0
 rw[hopp] at hpc0
 generalize bV cs i=op at*
 generalize bV cs (pt i)=opp at*
 refine yi (by rfl) (aN bh Kk ⟨by simp,by decide⟩ ?_)
 simp only[bN]
 have hcase:(op=27\/op=29\/op=30)\/op=28\/op=31\/¬dQ op:=by unfold dQ;omega
 rcases hcase with h1|h1|h1|h1
 ·obtain⟨hpe,hpl⟩:=hp (by unfold dQ;omega)
  have hap:=hadd (pt i) (by omega)
  rw[hpe] at hic
  rw[if_pos h1] at hnx
  rcases h1 with rfl|rfl|rfl
  all_goals
   repeat first|with_reducible refine am ?_|simp only[hi0,h,hpr,hcc0,hic,ha,hap,decide_true,decide_false,go_sem,simprocAttr]
   exact⟨[0],wT (by simp only[go_sem,simprocAttr];rfl) (by rfl) (by rfl) (by first|rfl|simp only[go_sem,simprocAttr]) (by first|rfl|simp only[go_sem,simprocAttr]) hnx⟩
 ·obtain⟨hpe,hpl⟩:=hp (by unfold dQ;omega)
  have hap:=hadd (pt i) (by omega)
  rw[hpe] at hic
  subst h1
  rw[if_neg (by decide),if_pos rfl] at hnx
  repeat first|with_reducible refine am ?_|simp only[hi0,h,hpr,hcc0,hic,ha,hap,decide_true,decide_false,go_sem,simprocAttr]
  exact⟨[0],rA (by simp only[go_sem,simprocAttr];rfl) (by rfl) (by rfl) (by first|rfl|simp only[go_sem,simprocAttr]) hnx⟩
 ·obtain⟨hpe,hpl⟩:=hp (by unfold dQ;omega)
  have hap:=hadd (pt i) (by omega)
  have hpl':(pt i:Int)<(cs.length:Int):=by omega
  rw[hpe] at hic
  subst h1
  rw[if_neg (by decide),if_neg (by decide),if_pos rfl] at hnx
  by_cases ho:opp=29
  ·rw[if_pos ho] at hnx
   subst ho
   repeat first|with_reducible refine am ?_|simp only[hi0,h,hpr,hcc0,hic,ha,hap,hp0,hpl',hpc0,decide_true,decide_false,go_sem,simprocAttr]
   exact⟨[0],wT (by simp only[go_sem,simprocAttr];rfl) (by rfl) (by rfl) (by first|rfl|simp only[go_sem,simprocAttr]) (by first|rfl|simp only[go_sem,simprocAttr]) hnx⟩
  ·rw[if_neg ho] at hnx
   repeat first|with_reducible refine am ?_|simp only[hi0,h,hpr,hcc0,hic,ha,hap,hp0,hpl',hpc0,ho,decide_true,decide_false,go_sem,simprocAttr]
   exact⟨[0],rA (by simp only[go_sem,simprocAttr];rfl) (by rfl) (by rfl) (by first|rfl|simp only[go_sem,simprocAttr]) hnx⟩
 ·have hn27:¬op=27:=λe=>h1 (.inl e)
  have hn28:¬op=28:=λe=>h1 (.inr (.inl e))
  have hn29:¬op=29:=λe=>h1 (.inr (.inr (.inl e)))
  have hn30:¬op=30:=λe=>h1 (.inr (.inr (.inr (.inl e))))
  have hn31:¬op=31:=λe=>h1 (.inr (.inr (.inr (.inr e))))
  rw[if_neg (by omega),if_neg hn28,if_neg hn31] at hnx
  repeat first|with_reducible refine am ?_|simp only[hi0,h,hpr,hcc0,hic,ha,hn27,hn28,hn29,hn30,hn31,decide_true,decide_false,go_sem,simprocAttr]
  exact⟨[0],rA (by simp only[go_sem,simprocAttr];rfl) (by rfl) (by rfl) (by first|rfl|simp only[go_sem,simprocAttr]) hnx⟩
theorem xf(l:List Int)(hl:l.length<=100000)(v:Int):bS Try.prog 73 [.fs 1 l.length (iC .i64 l),.n .i64 v] [.v (.b (l.contains v))]:=by
 have hadd:∀j:Nat,j<200000->IntKind.wrap .i64 ((j:Int)+1)=((j+1:Nat):Int):=λj hj=>by rw[aX (by omega)];omega
 refine aN bh J5 ⟨by simp,by decide⟩ ?_
 simp only[bN]
 repeat first|with_reducible refine am ?_|simp only[go_sem,simprocAttr]
 refine GA.loop (I:=λmm e H=>∃(k:Nat),mm=l.length-k/\k<=l.length/\(∀i,i<k->l.getD i 0≠v)/\e=aF [(0,.fs 1 l.length (iC .i64 l)),(1,.n .i64 v),(5,.n .i64 k)]/\H=ba []) (Wk.mk [] [] ?_ ?_ ?_) ⟨0,rfl,Nat.zero_le _,λi hi=>by omega,rfl,rfl⟩ ?_
 ·simp only[bj,bc,go_sem,simprocAttr]
  repeat' refine ab ?_ ?_
  all_goals first|exact bw|skip
 ·exact .nil
 ·simp
 rintro mm e H ⟨k,rfl,hk,hno,rfl,rfl⟩
 repeat first|with_reducible refine am ?_|simp only[go_sem,simprocAttr]
 refine⟨λh=>?_,λh=>?_⟩
 ·have hkl:k<l.length:=by omega
  have hk0:(0:Int)<=(k:Int):=by omega
  have ha:=hadd k (by omega)
  have hic:iC .i64 l k 0= .n .i64 (l.getD k 0):=rfl
  repeat first|with_reducible refine am ?_|simp only[hk0,h,hic,decide_true,go_sem,simprocAttr]
  refine⟨λhe=>?_,λhne=>?_⟩
  ·have hc:l.contains v=true:=by
    rw[List.contains_iff_mem,<-he,List.getD_eq_getElem?_getD,List.getElem?_eq_getElem hkl]
    exact List.getElem_mem hkl
   rw[hc]
   repeat first|with_reducible refine am ?_|simp only[go_sem,simprocAttr]
   exact⟨[_],rfl,⟨rfl,rfl⟩,True.intro⟩
  ·repeat first|with_reducible refine am ?_|simp only[ha,go_sem,simprocAttr]
   refine⟨_,_,_,?_,Wk.mk [] [] ?_ ?_ ?_,k+1,rfl,by omega,λi hi=>?_,rfl,rfl⟩
   ·omega
   ·simp only[bj,bc,go_sem,simprocAttr]
    repeat' refine ab ?_ ?_
    all_goals first|exact bw|skip
   ·exact .nil
   ·simp
   ·by_cases e:i=k
    ·subst e;exact hne
    ·exact hno i (by omega)
 ·have hk':k=l.length:=by omega
  subst hk'
  have hc:l.contains v=false:=by
   rw[<-Bool.not_eq_true,List.contains_iff_mem]
   intro hm
   obtain⟨i,hi,rfl⟩:=List.mem_iff_getElem.1 hm
   exact hno i hi (by rw[List.getD_eq_getElem?_getD,List.getElem?_eq_getElem hi];rfl)
  rw[hc]
  repeat first|with_reducible refine am ?_|simp only[go_sem,simprocAttr]
  exact⟨[_],rfl,⟨rfl,rfl⟩,True.intro⟩
def cX(nm:List Int)(r:Int):Int:=if r<0 then-1 else nm.getD r.toNat 0
def bC(s:Nat->Bool)(i _j:Nat):AV:= .b (s i)
def dD(s:Nat->Bool)(n:Nat):List Nat:=(List.range n).filter s
theorem u9(s:Nat->Bool)(n:Nat):dD s (n+1)=if s n=true then dD s n++[n] else dD s n:=by
 unfold dD
 rw[List.range_succ,List.filter_append]
 cases h:s n<;>simp[h]
theorem xN(s:Nat->Bool)(n:Nat):(dD s n).length<=n:=by
 have:=List.length_filter_le s (List.range n)
 rw[List.length_range] at this
 exact this
theorem rE(s:Nat->Bool)(n:Nat)(hn:n<=100000):bS Try.prog 41 [.fs 1 n (bC s)] [.o 3 1 (dD s n).length 0 (eZ (dD s n))]:=by
 have hadd:∀j:Nat,j<200000->IntKind.wrap .i64 ((j:Int)+1)=((j+1:Nat):Int):=λj hj=>by rw[aX (by omega)];omega
 refine aN bh Ks ⟨by simp,by decide⟩ ?_
 simp only[bN]
 repeat first|with_reducible refine am ?_|simp only[go_sem,simprocAttr]
 refine GA.wk (Wk.nil 3 1 3 (by simp only[go_sem,simprocAttr]) (by decide) (by simp only[go_sem,simprocAttr])) ?_
 refine GA.loop (I:=λmm e H=>∃(k:Nat),mm=n-k/\k<=n/\e=aF [(0,.fs 1 n (bC s)),(3,.os 0 (dD s k).length),(4,.n .i64 k)]/\H=ba [aI 3 1 (dD s k).length 0 (eZ (dD s k))]) (Wk.mk [0] [] ?_ ?_ ?_) ⟨0,rfl,Nat.zero_le _,rfl,rfl⟩ ?_
 ·simp only[bj,bc,go_sem,simprocAttr]
  repeat' refine ab ?_ ?_
  all_goals first|exact bw|skip
 ·exact .cons rfl (.rowW (by simp only[go_sem,simprocAttr];rfl) (by rfl) (by rfl) (by rfl) (by show 0<=_;exact Nat.zero_le _) (by exact Nat.le_refl _) rfl (by decide) (λi j hi=>absurd (show i<0 from hi) (Nat.not_lt_zero _))) .nil
 ·simp
 rintro mm e H ⟨k,rfl,hk,rfl,rfl⟩
 repeat first|with_reducible refine am ?_|simp only[go_sem,simprocAttr]
 refine⟨λh=>?_,λh=>?_⟩
 ·have hkl:k<n:=by omega
  have hk0:(0:Int)<=(k:Int):=by omega
  have ha:=hadd k (by omega)
  have hbC:bC s k 0= .b (s k):=rfl
  have hlen:=xN s k
  have hl1:(dD s k).length+1<1099511627776:=by omega
  have hl2:((dD s k).length+1)*8<=140737488355328:=by omega
  have hl3:(dD s k).length<=9223372036854775806:=by omega
  have hsc:=u9 s k
  cases hs:s k with
  |true=>
   rw[hs] at hbC
   rw[if_pos hs] at hsc
   repeat first|with_reducible refine am ?_|simp only[hk0,h,hbC,decide_true,ha,hl1,hl2,hl3,go_sem,simprocAttr]
   have hlen2:(dD s (k+1)).length=(dD s k).length+1:=by rw[hsc,List.length_append,List.length_singleton]
   refine⟨_,aF [(0,.fs 1 n (bC s)),(3,.os 0 (dD s (k+1)).length),(4,.n .i64 (k+1:Nat))],ba [aI 3 1 (dD s (k+1)).length 0 (eZ (dD s (k+1)))],?_,Wk.mk (L:=[(0,.fs 1 n (bC s)),(3,.os 0 (dD s (k+1)).length),(4,.n .i64 (k+1:Nat))]) [2] [] ?_ ?_ ?_,k+1,rfl,by omega,rfl,rfl⟩
   ·omega
   ·rw[hlen2]
    simp only[bj,bc,go_sem,simprocAttr]
    repeat' refine ab ?_ ?_
    all_goals first|exact bw|skip
   ·rw[hlen2]
    refine .cons rfl (.rowW (by simp only[go_sem,simprocAttr];rfl) (by rfl) (by rfl) (by rfl) (by rw[app_size];show((dD s k).length+1)*1<=_;simp only[cf.len,List.length_singleton];omega) (by rw[cw];exact Nat.le_refl _) rfl (by decide) (λq j hq hj=>?_)) .nil
    obtain rfl:j=0:=by omega
    rw[Nat.mul_one,Nat.add_zero,db _ _ _ (by omega) _ hq]
    by_cases e:q<(dD s k).length
    ·rw[if_pos e]
     have:=aO (ty:=3) (n:=(dD s k).length) (z:=0) (row:=eZ (dD s k)) q 0 (by decide:0<1)
     rw[Nat.mul_one,Nat.add_zero] at this
     rw[this]
     unfold eZ
     rw[hsc,List.getD_eq_getElem?_getD,List.getD_eq_getElem?_getD,List.getElem?_append_left e]
     exact .cv (.rfl (by rfl))
    ·obtain rfl:q=(dD s k).length:=by omega
     rw[if_neg e]
     unfold eZ
     rw[hsc,List.getD_eq_getElem?_getD,List.getElem?_append_right (Nat.le_refl _)]
     simp only[Nat.sub_self,List.getElem?_cons_zero,Option.getD_some]
     exact .cv (.rfl (by rfl))
   ·simp
  |false=>
   rw[hs] at hbC
   rw[if_neg (by rw[hs];decide)] at hsc
   repeat first|with_reducible refine am ?_|simp only[hk0,h,hbC,decide_true,ha,go_sem,simprocAttr]
   refine⟨_,_,_,?_,Wk.mk [0] [] ?_ ?_ ?_,k+1,rfl,by omega,by rw[hsc],by rw[hsc]⟩
   ·omega
   ·simp only[bj,bc,go_sem,simprocAttr]
    repeat' refine ab ?_ ?_
    all_goals first|exact bw|skip
   ·exact .cons rfl .k1 .nil
   ·simp
 ·have hk':k=n:=by omega
  subst hk'
  repeat first|with_reducible refine am ?_|simp only[go_sem,simprocAttr]
  exact⟨[_],rfl,ea.o (x:=_) (by simp only[go_sem,simprocAttr]) rfl rfl rfl (by decide) (Nat.le_refl _) (Nat.le_refl _) (λi j hi hj=>aO i j hj) (λi j _ _=>rfl) rfl .nil⟩
end Go.Proofs.Yteopfmnnhlhbmaa