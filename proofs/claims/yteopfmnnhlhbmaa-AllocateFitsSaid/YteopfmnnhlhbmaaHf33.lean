/- A part of the proof of AllocateFits: LiA PrsA OcA CoA CpA InA InB InC InD InE InF CoB SuA RfA RfB. No condition. -/
import Derived.Test.YteopfmnnhlhbmaaHf19
import Derived.Test.YteopfmnnhlhbmaaHf23
import Derived.Test.YteopfmnnhlhbmaaHf24
import Derived.Test.YteopfmnnhlhbmaaHf32
import Derived.Test.YteopfmnnhlhbmaaHf13
import Derived.Test.YteopfmnnhlhbmaaHf15
import Derived.Test.YteopfmnnhlhbmaaHf17
set_option linter.unusedSimpArgs false
set_option linter.unusedVariables false
set_option linter.constructorNameAsVariable false
set_option maxRecDepth 100000
set_option maxHeartbeats 4000000
namespace Go.Proofs.Yteopfmnnhlhbmaa
open Go.RowKit
noncomputable def cq(cs:List In)(nx:Nat->List Nat)(R i:Nat):List Nat:=(List.range R).filter λr:Nat=> @Decidable.decide (bm cs nx i (r:Int)) (Classical.propDecidable _)
theorem fB{cs:List In}{nx:Nat->List Nat}{R i r:Nat}:r ∈ cq cs nx R i↔r<R/\bm cs nx i (r:Int):=by
 unfold cq
 rw[List.mem_filter,List.mem_range,@decide_eq_true_iff _ (Classical.propDecidable _)]
theorem jB(cs:List In)(nx:Nat->List Nat)(R i:Nat):(cq cs nx R i).Pairwise (· < ·):=List.Pairwise.filter _ List.pairwise_lt_range
theorem vL(cs:List In)(nx:Nat->List Nat)(R i:Nat):(cq cs nx R i).length<=R:=by
 have:=List.length_filter_le (λr:Nat=> @Decidable.decide (bm cs nx i (r:Int)) (Classical.propDecidable _)) (List.range R)
 rw[List.length_range] at this
 exact this
theorem ku{l1 l2:List Int}(h1:l1.Pairwise (· < ·))(h2:l2.Pairwise (· < ·))(hm:∀k,k ∈ l1↔k ∈ l2):l1=l2:=
 List.Perm.eq_of_pairwise (le:=(· < ·)) (λa b _ _ p q=>by omega) h1 h2 ((List.perm_ext_iff_of_nodup (h1.imp λh=>by omega) (h2.imp λh=>by omega)).2 hm)
theorem sJ{cs:List In}{nx:Nat->List Nat}{R i:Nat}{zs:List Int}(hm:∀k,k ∈ zs↔bm cs nx i k)(hp:zs.Pairwise (· < ·))(hr:∀k,bm cs nx i k->0<=k/\k<(R:Int)):zs=(cq cs nx R i).map (λn:Nat=>(n:Int)):=by
 refine ku hp (List.pairwise_map.2 ((jB cs nx R i).imp λh=>by omega)) (λk=>?_)
 rw[hm,List.mem_map]
 constructor
 ·intro h
  obtain⟨a,b⟩:=hr k h
  exact⟨k.toNat,fB.2 ⟨by omega,by rwa [Int.toNat_of_nonneg a]⟩,Int.toNat_of_nonneg a⟩
 ·rintro ⟨n,h,rfl⟩
  exact(fB.1 h).2
theorem yT(l:List Nat):(AV.fs 1 (l.map (λn:Nat=>(n:Int))).length (λj _=> .n .i64 ((l.map (λn:Nat=>(n:Int))).getD j 0)))= .fs 1 l.length (λj _=> .n .i64 ((l.getD j 0:Nat):Int)):=by
 rw[List.length_map]
 congr 1
 funext j _
 congr 1
 rw[List.getD_eq_getElem?_getD,List.getD_eq_getElem?_getD,List.getElem?_map]
 cases l[j]? <;>rfl
theorem qR(r:Nat):bR Try.prog 38 [.cv (.map (some r))] [.v (.f 71 [] [.bx 1 (λ_=> .cv (.map (some r)))])]:=by
 refine aO ba Mp ⟨by simp,by decide⟩ ?_
 simp only[bM]
 (try simp only[go_sem,simprocAttr])
 iterate 4 (with_reducible refine GA.go ba rfl ?_;try simp only[go_sem,simprocAttr])
 refine GA.wk (Wk.mk (L:=[(2,.f 71 [] [.bx 1 (λ_=> .cv (.map (some r)))])]) (bl:=[]) [] [0] ?_ ?_ ?_) ?_
 ·exact⟨⟨by decide,.f 71 [] [.p 0 0],by simp only[go_sem,simprocAttr],.cv (.fn .nil (.cons (.bx (x:=bj 0 70 [.cv (.map (some r))]) (List.mem_cons_self ..) (by simp only[go_sem,simprocAttr]<;>rfl) (by show 1<=1;decide) (by show 0<1;decide) (λq hq=>by obtain rfl:q=0:=(by omega);rfl) (λq hq=>rfl)) .nil))⟩,True.intro⟩
 ·exact .nil
 ·decide
 repeat first|with_reducible refine au ?_|simp only[go_sem,simprocAttr]
 exact⟨[_],rfl,⟨rfl,rfl⟩,True.intro⟩
theorem BW(la:List (Bool×Int))(regs par:Int)(cs:List In)(hla:la.length<1000000)(harg:∀x ∈ cs,0<=x.2.2.2.2/\x.2.2.2.2<4294967296)(hc0:(dw la regs par cs).2=0)
  (nx:Nat->List Nat) (R:Nat) (hRs:R<=100000) (hg:bR Try.prog 66 [.fs 5 cs.length (cC cs)] [.v (.fs 1 cs.length (gC nx))]) (hn:cs.length<=16384)
  (hops:∀x ∈ cs,0<=x.1/\x.1<39) (hnx:∀i,i<cs.length->∀k ∈ nx i,k<=cs.length) (hnl:∀i,(nx i).length<=2) (hR:∀x ∈ cs,∀r ∈ aD x.1 x.2.2.1 x.2.2.2.1,0<=r/\r<(R:Int)) (hw1:∀i k,i<cs.length->k ∈ nx i->k=i->a8 (cs.getD i (0,0,0,0,0)).1 (cs.getD i (0,0,0,0,0)).2.1= -1):
  bR Try.prog 11 [aL la.length (aC la) regs par cs] [.v (.fs 1 (cs.length+1) (gC (cq cs nx R))),.v (.n .i64 0)]:=by
 have hadd:∀j:Nat,j<100000->IntKind.wrap .i64 ((j:Int)+1)=((j+1:Nat):Int):=λj hj=>by rw[aU (by omega)];omega
 have hck:=ip la regs par cs hla (by omega) harg
 rw[hc0] at hck
 have hlv:=jA cs nx R hg hn hops hnx hnl hR hw1
 have hrange:∀i k,bm cs nx i k->0<=k/\k<(R:Int):=λi k h=>h.range hR
 refine aO ba Nk ⟨by simp,by decide⟩ ?_
 simp only[bM,aL]
 repeat first|with_reducible refine au ?_|simp only[go_sem,simprocAttr]
 refine vT hck ?_
 repeat first|with_reducible refine au ?_|simp only[go_sem,simprocAttr]
 refine bS [] (.cons (.rfl (by rfl)) .nil) hlv True.intro (by simp only[go_sem,simprocAttr]) ?_
 rintro rs N ⟨S,ad,hS,hob0,rfl⟩ hfree
 repeat first|with_reducible refine au ?_|simp only[go_sem,simprocAttr]
 refine GA.wk (Wk.nil 8 1 39 (by simp only[go_sem,simprocAttr]) (by decide) (by simp only[go_sem,simprocAttr])) ?_
 refine GA.loop (I:=λmm e H=>∃(i:Nat) (ob:Nat->Option OB),mm=cs.length+1-i/\i<=cs.length+1/\eR (cs.length+1) ad S ob/\e=aF [(8,.os 0 i),(25,.fs 1 (cs.length+1) (Ap ad)),(26,.n .i64 (cs.length+1:Nat)),(27,.n .i64 i)]/\H=bc ob [aG 39 1 i 0 (gC (cq cs nx R))]) (Wk.mkS [1] [] ?_ ?_ ?_) ⟨0,_,rfl,Nat.zero_le _,?_,rfl,rfl⟩ ?_
 ·simp only[bg,bf,go_sem,simprocAttr]
  repeat' refine ab ?_ ?_
  all_goals first|exact bo|skip
 ·exact .cons rfl (.rowW (by simp only[go_sem,simprocAttr];rfl) (by rfl) (by rfl) (by rfl) (by decide) (by exact Nat.le_refl _) rfl (by decide) (λi j hi=>by omega)) .nil
 ·simp
 ·simp only[go_sem,simprocAttr]
  exact⟨λi hi=>(eO (by first|rfl|(rw[cL]))).trans (hob0.at_ i hi),hob0.inj⟩
 rintro mm e H ⟨i,ob,rfl,hi,hob,rfl,rfl⟩
 repeat first|with_reducible refine au ?_|simp only[go_sem,simprocAttr]
 refine⟨λh=>?_,λh=>?_⟩
 ·have hil:i<cs.length+1:=by omega
  have hi0:(0:Int)<=(i:Int):=by omega
  have ha:=hadd i (by omega)
  have hl1:i+1<1099511627776:=by omega
  have hl2:(i+1)*24<=140737488355328:=by omega
  have hl3:i<=9223372036854775806:=by omega
  have had:Ap ad i 0= .cv (.map (some (ad i))):=rfl
  repeat first|with_reducible refine au ?_|simp only[hi0,h,had,decide_true,go_sem,simprocAttr]
  refine aq [] (.cons (.rfl (by rfl)) .nil) (qR _) (by simp only[af,List.length_cons,List.length_nil];decide) ?_
  repeat first|with_reducible refine au ?_|simp only[go_sem,simprocAttr]
  obtain⟨hnd,hmem⟩:=hS i (by omega)
  refine bS [] (.cons (.rfl (by rfl)) .nil) (lG _) ⟨bU (S i),hob.at_ i hil,?_,?_⟩ (by simp only[af,List.length_cons,List.length_nil];decide) ?_
  ·have:=fv hnd (λr hr=>hrange i r ((hmem r).1 hr))
   rw[gz];omega
  ·intro k v hk
   rw[dC] at hk
   split at hk
   ·rename_i hk'
    have:=hrange i k ((hmem k).1 hk')
    omega
   ·cases hk
  rintro rs N2 ⟨ss,hss,hpw,rfl,rfl⟩ hfree2
  have hsl:ss=(cq cs nx R i).map (λn:Nat=>(n:Int)):=sJ (λk=>by
   rw[hss _ (hob.at_ i hil) k,dC,<-hmem k]
   by_cases e:k ∈ S i<;>simp[e]) hpw (hrange i)
  subst hsl
  simp only[yT]
  repeat first|with_reducible refine au ?_|simp only[hi0,decide_true,ha,hl1,hl2,hl3,go_sem,simprocAttr]
  refine⟨_,_,_,?_,Wk.mkS [2] [] ?_ ?_ ?_,i+1,_,rfl,by omega,?_,rfl,rfl⟩
  ·omega
  ·simp only[bg,bf,go_sem,simprocAttr]
   repeat' refine ab ?_ ?_
   all_goals first|exact bo|skip
  ·exact .cons rfl (.rowW (by simp only[go_sem,simprocAttr];rfl) (by rfl) (by rfl) (by rfl) (by rw[app_size];show(i+1)*1<=_;simp only[ch.len,List.length_singleton];omega) (by rw[cA];exact Nat.le_refl _) rfl (by decide) (λq j hq hj=>dZ (by omega) hq hj (.rfl (by rfl)))) .nil
  ·simp
  ·(try simp only[cL,go_sem,simprocAttr]);exact hob
 ·have hk:i=cs.length+1:=by omega
  subst hk
  refine GA.wk (Wk.mkS (L:=[(8,.fs 1 (cs.length+1) (gC (cq cs nx R)))]) (bl:=[]) [] [0] ?_ ?_ ?_) ?_
  ·refine⟨⟨by decide,.os 0 (cs.length+1),by simp only[go_sem,simprocAttr],.cv (.os (x:=aG 39 1 (cs.length+1) 0 (gC (cq cs nx R))) (by simp) (by simp only[go_sem,simprocAttr]) (Nat.le_refl _) (λi j _ hj=>aI i j hj) (λi j _ _=>rfl))⟩,True.intro⟩
  ·exact .nil
  ·simp
  repeat first|with_reducible refine au ?_|simp only[go_sem,simprocAttr]
  exact⟨[_,_],rfl,⟨rfl,rfl⟩,⟨rfl,rfl⟩,True.intro⟩
def AJ(L:Nat->List Nat):Nat->Nat
 |0=>0
 |n+1=>max (AJ L n) (L n).length
theorem oS(na:Nat)(ra:Nat->Nat->AV)(regs par:Int)(cs:List In)(L:Nat->List Nat)(n:Nat)(hn:n<=20000)(e:Int)(hL:∀i,(L i).length<=100000)(hlive:bR Try.prog 11 [aL na ra regs par cs] [.v (.fs 1 n (gC L)),.v (.n .i64 e)]):
  bR Try.prog 13 [aL na ra regs par cs] [.v (.n .i64 (AJ L n)),.v (.n .i64 e)]:=by
 have hadd:∀j:Nat,j<100000->IntKind.wrap .i64 ((j:Int)+1)=((j+1:Nat):Int):=λj hj=>by rw[aU (by omega)];omega
 simp only[aL] at hlive
 refine aO ba Mj ⟨by simp,by decide⟩ ?_
 simp only[bM,aL]
 repeat first|with_reducible refine au ?_|simp only[go_sem,simprocAttr]
 refine vT hlive ?_
 repeat first|with_reducible refine au ?_|simp only[go_sem,simprocAttr]
 refine GA.loop (I:=λmm e' H=>∃(i:Nat),mm=n-i/\i<=n/\e'=aF [(6,.n .i64 (AJ L i)),(5,.n .i64 e),(14,.fs 1 n (gC L)),(15,.n .i64 n),(16,.n .i64 i)]/\H=aX []) (Wk.mk [] [] ?_ ?_ ?_) ⟨0,rfl,Nat.zero_le _,rfl,rfl⟩ ?_
 ·simp only[bg,bf,go_sem,simprocAttr]
  repeat' refine ab ?_ ?_
  all_goals first|exact bo|skip
 ·exact .nil
 ·simp
 rintro mm e' H ⟨i,rfl,hi,rfl,rfl⟩
 repeat first|with_reducible refine au ?_|simp only[go_sem,simprocAttr]
 refine⟨λh=>?_,λh=>?_⟩
 ·have hil:i<n:=by omega
  have hi0:(0:Int)<=(i:Int):=by omega
  have ha:=hadd i (by omega)
  have hgC:gC L i 0= .fs 1 (L i).length (λj _=> .n .i64 (((L i).getD j 0:Nat):Int)):=rfl
  have hmx:(if(AJ L i:Int)<((L i).length:Int) then((L i).length:Int) else(AJ L i:Int))=((AJ L (i+1):Nat):Int):=by
   show _=((max (AJ L i) (L i).length:Nat):Int)
   split<;>omega
  repeat first|with_reducible refine au ?_|simp only[hi0,h,hgC,decide_true,ha,hmx,go_sem,simprocAttr]
  refine⟨_,_,_,?_,Wk.mk [] [] ?_ ?_ ?_,i+1,rfl,by omega,rfl,rfl⟩
  ·omega
  ·simp only[bg,bf,go_sem,simprocAttr]
   repeat' refine ab ?_ ?_
   all_goals first|exact bo|skip
  ·exact .nil
  ·simp
 ·have hk:i=n:=by omega
  subst hk
  repeat first|with_reducible refine au ?_|simp only[go_sem,simprocAttr]
  exact⟨[_,_],rfl,⟨rfl,rfl⟩,⟨rfl,rfl⟩,True.intro⟩
def bO(x:In):List Int:=aD x.1 x.2.2.1 x.2.2.2.1++[a8 x.1 x.2.1]
def cN(cs:List In)(r:Int):Bool:=cs.any λx=>(bO x).contains r
def bH(cs:List In)(R:Nat):List Nat:=(List.range R).filter λr:Nat=>cN cs (r:Int)
def pR(s:List Int)(r:Int):List Int:=if 0<=r then gX s r else s
def fo(s l:List Int):List Int:=l.foldl pR s
def mT(cs:List In):Nat->List Int
 |0=>[]
 |k+1=>fo (mT cs k) (bO (cs.getD k (0,0,0,0,0)))
theorem Ao{s:List Int}{k r:Int}:r ∈ pR s k↔r ∈ s\/(r=k/\0<=k):=by
 unfold pR
 split
 ·rename_i h;rw[dn];simp[h]
 ·rename_i h;simp[h]
theorem tv{s:List Int}(h:s.Nodup)(k:Int):(pR s k).Nodup:=by
 unfold pR;split
 ·exact i6 h k
 ·exact h
theorem mR:∀(l s:List Int) (r:Int),r ∈ fo s l↔r ∈ s\/(r ∈ l/\0<=r)
 |[],s,r=>by simp[fo]
 |k::l,s,r=>by
  show r ∈ fo (pR s k) l↔_
  rw[mR l,Ao,List.mem_cons]
  constructor
  ·rintro ((h|⟨rfl,h⟩)|⟨h1,h2⟩)
   ·exact .inl h
   ·exact .inr ⟨.inl rfl,h⟩
   ·exact .inr ⟨.inr h1,h2⟩
  ·rintro (h|⟨rfl|h1,h2⟩)
   ·exact .inl (.inl h)
   ·exact .inl (.inr ⟨rfl,h2⟩)
   ·exact .inr ⟨h1,h2⟩
theorem jS:∀(l:List Int) {s:List Int},s.Nodup->(fo s l).Nodup
 |[],s,h=>h
 |k::l,s,h=>jS l (tv h k)
theorem rM{s l:List Int}{j:Nat}(h:j<l.length):fo s (l.take (j+1))=pR (fo s (l.take j)) (l.getD j 0):=by
 rw[List.take_add_one,List.getElem?_eq_getElem h]
 unfold fo
 rw[List.foldl_append]
 simp[List.getD,h]
theorem mS(cs:List In):∀k,(mT cs k).Nodup
 |0=>List.nodup_nil
 |k+1=>jS _ (mS cs k)
theorem jT(cs:List In):∀k,k<=cs.length->∀r,r ∈ mT cs k↔0<=r/\∃i,i<k/\r ∈ bO (cs.getD i (0,0,0,0,0))
 |0,_,r=>by simp[mT]
 |k+1,h,r=>by
  unfold mT
  rw[mR,jT cs k (by omega)]
  constructor
  ·rintro (⟨h0,i,hi,h1⟩|⟨h1,h0⟩)
   ·exact⟨h0,i,by omega,h1⟩
   ·exact⟨h0,k,by omega,h1⟩
  ·rintro ⟨h0,i,hi,h1⟩
   by_cases e:i=k
   ·subst e;exact .inr ⟨h1,h0⟩
   ·exact .inl ⟨h0,i,by omega,h1⟩
theorem gG{cs:List In}{r:Int}:cN cs r=true↔∃i,i<cs.length/\r ∈ bO (cs.getD i (0,0,0,0,0)):=by
 unfold cN
 rw[List.any_eq_true]
 constructor
 ·rintro ⟨x,hx,h⟩
  obtain⟨i,hi,rfl⟩:=List.mem_iff_getElem.1 hx
  refine⟨i,hi,?_⟩
  rw[List.getD_eq_getElem?_getD,List.getElem?_eq_getElem hi]
  simpa using h
 ·rintro ⟨i,hi,h⟩
  refine⟨cs[i],List.getElem_mem hi,?_⟩
  rw[List.getD_eq_getElem?_getD,List.getElem?_eq_getElem hi] at h
  simpa using h
theorem gF{cs:List In}{R r:Nat}:r ∈ bH cs R↔r<R/\cN cs (r:Int)=true:=by
 unfold bH;rw[List.mem_filter,List.mem_range]
theorem cO(cs:List In)(R:Nat):(bH cs R).Pairwise (· < ·):=List.Pairwise.filter _ List.pairwise_lt_range
theorem jo(cs:List In)(R:Nat):(bH cs R).length<=R:=by
 have:=List.length_filter_le (λr:Nat=>cN cs (r:Int)) (List.range R)
 rw[List.length_range] at this
 exact this
theorem vf{cs:List In}{R:Nat}{zs:List Int}(hm:∀k,k ∈ zs↔0<=k/\cN cs k=true)(hp:zs.Pairwise (· < ·))(hr:∀k,cN cs k=true->k<(R:Int)):zs=(bH cs R).map (λn:Nat=>(n:Int)):=by
 refine ku hp (List.pairwise_map.2 ((cO cs R).imp λh=>by omega)) (λk=>?_)
 rw[hm,List.mem_map]
 constructor
 ·rintro ⟨h0,h⟩
  have:=hr k h
  exact⟨k.toNat,gF.2 ⟨by omega,by rwa [Int.toNat_of_nonneg h0]⟩,Int.toNat_of_nonneg h0⟩
 ·rintro ⟨n,h,rfl⟩
  exact⟨by omega,(gF.1 h).2⟩
theorem jY(x:In):(bO x).length=(aD x.1 x.2.2.1 x.2.2.2.1).length+1:=by unfold bO;simp
theorem uL(x:In){ty i j:Nat}(hm:(aD x.1 x.2.2.1 x.2.2.2.1).length<1000000)(hi:i<(aD x.1 x.2.2.1 x.2.2.2.1).length+1)(hj:j<1):
  ((aG ty 1 (aD x.1 x.2.2.1 x.2.2.2.1).length 0 (iC .i64 (aD x.1 x.2.2.1 x.2.2.2.1))).app (aD x.1 x.2.2.1 x.2.2.2.1).length (.li [.n .i64 (a8 x.1 x.2.1)])).get (i*1+j)=iC .i64 (bO x) i j:=by
 obtain rfl:j=0:=by omega
 rw[Nat.mul_one,Nat.add_zero,dl _ _ _ hm _ hi]
 unfold bO iC
 by_cases e:i<(aD x.1 x.2.2.1 x.2.2.2.1).length
 ·rw[if_pos e]
  have:=aI (ty:=ty) (n:=(aD x.1 x.2.2.1 x.2.2.2.1).length) (z:=0) (row:=iC .i64 (aD x.1 x.2.2.1 x.2.2.2.1)) i 0 (by decide:0<1)
  rw[Nat.mul_one,Nat.add_zero] at this
  rw[show(λi _j=>AV.n .i64 ((aD x.1 x.2.2.1 x.2.2.2.1).getD i 0))=iC .i64 (aD x.1 x.2.2.1 x.2.2.2.1) from rfl,this]
  unfold iC
  rw[List.getD_eq_getElem?_getD,List.getD_eq_getElem?_getD,List.getElem?_append_left e]
 ·obtain rfl:i=(aD x.1 x.2.2.1 x.2.2.2.1).length:=by omega
  rw[if_neg e,List.getD_eq_getElem?_getD,List.getElem?_append_right (Nat.le_refl _)]
  simp
theorem m9(cs:List In)(R:Nat)(hRs:R<=100000)(hn:cs.length<=16384)(hops:∀x ∈ cs,0<=x.1/\x.1<39)(hU:∀x ∈ cs,∀r ∈ bO x,r<(R:Int))(hrl:∀x ∈ cs,(bO x).length<=10):
  bR Try.prog 52 [.fs 5 cs.length (cC cs)] [.v (.fs 1 (bH cs R).length (λj _=> .n .i64 (((bH cs R).getD j 0:Nat):Int)))]:=by
 have hadd:∀j:Nat,j<100000->IntKind.wrap .i64 ((j:Int)+1)=((j+1:Nat):Int):=λj hj=>by rw[aU (by omega)];omega
 have hoc:∀k,cN cs k=true->k<(R:Int):=λk hk=>by
  obtain⟨i,hi,h⟩:=gG.1 hk
  exact hU _ (by rw[List.getD_eq_getElem?_getD,List.getElem?_eq_getElem hi];exact List.getElem_mem hi) k h
 refine aO ba Qk ⟨by simp,by decide⟩ ?_
 simp only[bM]
 repeat first|with_reducible refine au ?_|simp only[go_sem,simprocAttr]
 refine fY (λr hr=>?_)
 repeat first|with_reducible refine au ?_|simp only[go_sem,simprocAttr]
 refine GA.loop (I:=λmm e H=>∃(k:Nat) (ob:Nat->Option OB),mm=cs.length-k/\k<=cs.length/\ob r=some (.mp (bU (mT cs k)))/\e=aF [(3,.cv (.map (some r))),(11,.fs 5 cs.length (cC cs)),(12,.n .i64 cs.length),(13,.n .i64 k)]/\H=bc ob []) (Wk.mkS [] [] ?_ ?_ ?_) ⟨0,_,rfl,Nat.zero_le _,?_,rfl,rfl⟩ ?_
 ·simp only[bg,bf,go_sem,simprocAttr]
  repeat' refine ab ?_ ?_
  all_goals first|exact bo|skip
 ·exact .nil
 ·simp
 ·simp only[go_sem,simprocAttr]
  first|exact(aK _ _ _).trans (by rw[fq];rfl)|exact congrArg (λz=>some (OB.mp z)) fq|(rw[fq];rfl)
 rintro mm e H ⟨k,ob,rfl,hk,hob,rfl,rfl⟩
 repeat first|with_reducible refine au ?_|simp only[go_sem,simprocAttr]
 refine⟨λh=>?_,λh=>?_⟩
 ·have hkl:k<cs.length:=by omega
  have hk0:(0:Int)<=(k:Int):=by omega
  have ha:=hadd k (by omega)
  have hcc0:=tg cs k
  have hcc1:=zR cs k
  have hcc2:=zQ cs k
  have hcc3:=zP cs k
  have hcc4:=zO cs k
  have hmem:cs.getD k (0,0,0,0,0) ∈ cs:=by rw[List.getD_eq_getElem?_getD,List.getElem?_eq_getElem hkl];exact List.getElem_mem hkl
  have hacc:mT cs (k+1)=fo (mT cs k) (bO (cs.getD k (0,0,0,0,0))):=rfl
  have hop:=hops _ hmem
  have hrlk:=hrl _ hmem
  generalize hx:cs.getD k (0,0,0,0,0)=x at*
  obtain⟨op,to,a,b,arg⟩:=x
  have hu:=lC op to a b arg hop
  repeat first|with_reducible refine au ?_|simp only[hk0,h,hcc0,hcc1,hcc2,hcc3,hcc4,decide_true,go_sem,simprocAttr]
  refine aq [] (.cons (.rfl (by rfl)) .nil) hu (by simp only[AH.mark_next,ag,aA,aB,ao,af,ah,List.length_cons,List.length_nil];decide) ?_
  rw[jY] at hrlk
  simp only at hrlk
  have hl1:(aD op a b).length+1<1099511627776:=by omega
  have hl2:((aD op a b).length+1)*8<=140737488355328:=by omega
  have hl3:(aD op a b).length<=9223372036854775806:=by omega
  repeat first|with_reducible refine au ?_|simp only[hl1,hl2,hl3,go_sem,simprocAttr]
  have hlen:(bO (op,to,a,b,arg)).length=(aD op a b).length+1:=jY _
  refine GA.loop (I:=λmm e H=>∃(j:Nat) (ob':Nat->Option OB),mm=(aD op a b).length+1-j/\j<=(aD op a b).length+1/\ob' r=some (.mp (bU (fo (mT cs k) ((bO (op,to,a,b,arg)).take j))))/\e=aF [(25,.fs 1 ((aD op a b).length+1) (iC .i64 (bO (op,to,a,b,arg)))),(26,.n .i64 ((aD op a b).length+1:Nat)),(27,.n .i64 j),(3,.cv (.map (some r))),(11,.fs 5 cs.length (cC cs)),(12,.n .i64 cs.length),(13,.n .i64 k)]/\H=bc ob' []) (Wk.mkS [] [3] ?_ ?_ ?_) ⟨0,_,rfl,Nat.zero_le _,?_,rfl,rfl⟩ ?_
  ·simp only[bg,bf,go_sem,simprocAttr]
   repeat' refine ab ?_ ?_
   all_goals first|exact bo|skip
   exact .cv (.os (by simp) (by simp only[go_sem,simprocAttr];rfl) (by rw[app_size];simp only[ch.len,List.length_singleton];omega) (λi j hi hj=>uL (op,to,a,b,arg) (by simp only;omega) hi hj) (λi j _ _=>rfl))
  ·exact .nil
  ·simp
  ·(try simp only[cL,go_sem,simprocAttr]);exact hob
  ·rintro mm e H ⟨j,ob',rfl,hj,hob',rfl,rfl⟩
   repeat first|with_reducible refine au ?_|simp only[go_sem,simprocAttr]
   refine⟨λh=>?_,λh=>?_⟩
   ·have hjl:j<(aD op a b).length+1:=by omega
    have hj0:(0:Int)<=(j:Int):=by omega
    have ha2:=hadd j (by omega)
    have htk:=rM (s:=mT cs k) (l:=bO (op,to,a,b,arg)) (j:=j) (by omega)
    have hic:iC .i64 (bO (op,to,a,b,arg)) j 0= .n .i64 ((bO (op,to,a,b,arg)).getD j 0):=rfl
    generalize hv:(bO (op,to,a,b,arg)).getD j 0=v at*
    by_cases hv0:0<=v
    ·repeat first|with_reducible refine au ?_|simp only[hj0,h,hic,decide_true,hv0,hob',go_sem,simprocAttr]
     refine⟨rfl,?_⟩
     repeat first|with_reducible refine au ?_|simp only[ha2,go_sem,simprocAttr]
     refine⟨_,_,_,?_,Wk.mkS [] [] ?_ ?_ ?_,j+1,_,rfl,by omega,?_,rfl,rfl⟩
     ·omega
     ·simp only[bg,bf,go_sem,simprocAttr]
      repeat' refine ab ?_ ?_
      all_goals first|exact bo|skip
     ·exact .nil
     ·simp
     ·simp only[go_sem,simprocAttr]
      rw[je,htk]
      unfold pR
      rw[if_pos hv0]
    ·repeat first|with_reducible refine au ?_|simp only[hj0,h,hic,decide_true,decide_false,hv0,hob',ha2,go_sem,simprocAttr]
     refine⟨_,_,_,?_,Wk.mkS [] [] ?_ ?_ ?_,j+1,_,rfl,by omega,?_,rfl,rfl⟩
     ·omega
     ·simp only[bg,bf,go_sem,simprocAttr]
      repeat' refine ab ?_ ?_
      all_goals first|exact bo|skip
     ·exact .nil
     ·simp
     ·(try simp only[go_sem,simprocAttr])
      rw[htk]
      unfold pR
      rw[if_neg hv0]
      exact hob'
   ·have hjk:j=(aD op a b).length+1:=by omega
    subst hjk
    rw[List.take_of_length_le (by omega),<-hacc] at hob'
    repeat first|with_reducible refine au ?_|simp only[ha,go_sem,simprocAttr]
    refine⟨_,_,_,?_,Wk.mkS [] [] ?_ ?_ ?_,k+1,_,rfl,by omega,?_,rfl,rfl⟩
    ·omega
    ·simp only[bg,bf,go_sem,simprocAttr]
     repeat' refine ab ?_ ?_
     all_goals first|exact bo|skip
    ·exact .nil
    ·simp
    ·(try simp only[go_sem,simprocAttr]);exact hob'
 ·have hkk:k=cs.length:=by omega
  subst hkk
  repeat first|with_reducible refine au ?_|simp only[go_sem,simprocAttr]
  refine aq [] (.cons (.rfl (by rfl)) .nil) (qR _) (by simp only[af,List.length_cons,List.length_nil];decide) ?_
  repeat first|with_reducible refine au ?_|simp only[go_sem,simprocAttr]
  refine bS [] (.cons (.rfl (by rfl)) .nil) (lG _) ⟨_,hob,?_,?_⟩ (by simp only[af,List.length_cons,List.length_nil];decide) ?_
  ·have:=fv (R:=R) (mS cs cs.length) (λr hr=>by
    obtain⟨h0,i,hi,h1⟩:=(jT cs _ (Nat.le_refl _) r).1 hr
    exact⟨h0,hoc r (gG.2 ⟨i,hi,h1⟩)⟩)
   rw[gz];omega
  ·intro q v hq
   rw[dC] at hq
   split at hq
   ·rename_i hq'
    obtain⟨h0,i,hi,h1⟩:=(jT cs _ (Nat.le_refl _) q).1 hq'
    have:=hoc q (gG.2 ⟨i,hi,h1⟩)
    omega
   ·cases hq
  rintro rs N2 ⟨ss,hss,hpw,rfl,rfl⟩ hfree2
  have hsl:ss=(bH cs R).map (λn:Nat=>(n:Int)):=vf (λq=>by
   rw[hss _ hob q,dC,gG,<-jT cs _ (Nat.le_refl _)]
   by_cases e:q ∈ mT cs cs.length<;>simp[e]) hpw hoc
  subst hsl
  simp only[yT]
  repeat first|with_reducible refine au ?_|simp only[go_sem,simprocAttr]
  exact⟨[_],rfl,⟨rfl,rfl⟩,True.intro⟩
def ek(P:Nat->Prop)(c:Nat):Prop:=¬P c/\∀c',c'<c->P c'
theorem ek.uniq{P:Nat->Prop}{c c':Nat}(h:ek P c)(h':ek P c'):c=c':=by
 rcases Nat.lt_trichotomy c c' with h1|h1|h1
 ·exact absurd (h'.2 c h1) h.1
 ·exact h1
 ·exact absurd (h.2 c' h1) h'.1
theorem ek.congr{P P':Nat->Prop}(hp:∀c,P c↔P' c){c:Nat}(h:ek P c):ek P' c:=⟨λhc=>h.1 ((hp c).2 hc),λc' hc'=>(hp c').1 (h.2 c' hc')⟩
structure rT(occ:Nat->Bool)(nb:Nat->Nat->Prop)(n:Nat)(K:Nat->Nat):Prop where
 yes:∀r,r<n->occ r=true->ek (λc=>∃s,s<r/\occ s=true/\nb r s/\K s=c) (K r)
 no:∀r,r<n->occ r=false->K r=0
theorem rT.uniq{occ:Nat->Bool}{nb nb':Nat->Nat->Prop}{n:Nat}{K K':Nat->Nat}(h:rT occ nb n K)(h':rT occ nb' n K')(hnb:∀r s,nb r s↔nb' r s):∀r,r<n->K r=K' r:=by
 intro r
 induction r using Nat.strongRecOn with
 |_ r ih=>
  intro hr
  cases ho:occ r with
  |false=>rw[h.no r hr ho,h'.no r hr ho]
  |true=>
   refine(h.yes r hr ho).uniq ((h'.yes r hr ho).congr (λc=>?_))
   constructor
   ·rintro ⟨s,h1,h2,h3,h4⟩
    exact⟨s,h1,h2,(hnb r s).2 h3,by rw[ih s h1 (by omega)];exact h4⟩
   ·rintro ⟨s,h1,h2,h3,h4⟩
    exact⟨s,h1,h2,(hnb r s).1 h3,by rw[<-ih s h1 (by omega)];exact h4⟩
theorem ek.le{P:Nat->Prop}{c m:Nat}(h:ek P c){l:List Nat}(hP:∀x,P x->x ∈ l)(hl:l.length<=m):c<=m:=by
 have h1:(List.range c).length<=l.length:=fP List.nodup_range (λx hx=>hP x (h.2 x (List.mem_range.1 hx)))
 rw[List.length_range] at h1
 omega
theorem rT.le{occ:Nat->Bool}{nb:Nat->Nat->Prop}{n:Nat}{K:Nat->Nat}(h:rT occ nb n K):∀r,r<n->K r<=r:=by
 intro r hr
 cases ho:occ r with
 |false=>rw[h.no r hr ho];omega
 |true=>exact(h.yes r hr ho).le (l:=(List.range r).map K) (λx ⟨s,h1,_,_,h4⟩=>List.mem_map.2 ⟨s,List.mem_range.2 h1,h4⟩) (by simp)
def cM(K:Nat->Nat)(l:List Nat):Nat->Nat
 |0=>0
 |k+1=>max (cM K l k) (K (l.getD k 0)+1)
def mX(l:List Nat):Nat->Int->Option Int
 |0=>λ_=>none
 |k+1=>λq=>if q=((l.getD k 0:Nat):Int) then some (k:Int) else mX l k q
theorem lU{l:List Nat}:∀{k:Nat} {q v:Int},mX l k q=some v->∃i,i<k/\q=((l.getD i 0:Nat):Int)/\v=(i:Int)
 |0,q,v,h=>by cases h
 |k+1,q,v,h=>by
  unfold mX at h
  split at h
  ·cases h;exact⟨k,by omega,by assumption,rfl⟩
  ·obtain⟨i,h1,h2⟩:=lU h;exact⟨i,by omega,h2⟩
theorem Bz{l:List Nat}(h:l.Pairwise (· < ·)){k:Nat}(hk:k<l.length):mX l k ((l.getD k 0:Nat):Int)=none:=by
 cases hx:mX l k ((l.getD k 0:Nat):Int) with
 |none=>rfl
 |some v=>
  obtain⟨i,h1,h2,_⟩:=lU hx
  rw[List.pairwise_iff_getElem] at h
  have:=h i k (by omega) hk h1
  rw[List.getD_eq_getElem?_getD,List.getD_eq_getElem?_getD,List.getElem?_eq_getElem hk,List.getElem?_eq_getElem (show i<l.length by omega)] at h2
  simp only[Option.getD_some] at h2
  omega
theorem Bh{x:dv}{l:List Nat}(h:l.Pairwise (· < ·)){k:Nat}(hk:k<l.length)(hg:x.get=fA (mX l k))(hc:x.cnt=k):
  (x.put ((l.getD k 0:Nat):Int) (.n .i64 (k:Int))).get=fA (mX l (k+1))/\(x.put ((l.getD k 0:Nat):Int) (.n .i64 (k:Int))).cnt=k+1:=by
 have h0:x.get ((l.getD k 0:Nat):Int)=none:=by rw[hg];show((mX l k _).map _)=none;rw[Bz h hk];rfl
 refine⟨?_,?_⟩
 ·funext q
  show(if q=_ then _ else x.get q)=((mX l (k+1) q).map (.n .i64 ·))
  unfold mX
  by_cases e:q=((l.getD k 0:Nat):Int)
  ·rw[if_pos e,if_pos e];rfl
  ·rw[if_neg e,if_neg e,hg]
 ·show(if(x.get _).isSome=true then x.cnt else x.cnt+1)=k+1
  rw[h0,if_neg (by simp),hc]
theorem s8(la:List (Bool×Int))(regs par:Int)(cs:List In)(x:AV)(hla:la.length<1000000)(hcs:cs.length<=16384)(l:List Nat)(hl:l.Pairwise (· < ·))(hll:l.length<=100000)
  (hc:bR Try.prog 27 [aL la.length (aC la) regs par cs] [.v x,.v (.n .i64 0)])
  (ho:bR Try.prog 52 [.fs 5 cs.length (cC cs)] [.v (.fs 1 l.length (λj _=> .n .i64 ((l.getD j 0:Nat):Int)))]):
  bR Try.prog 20 [aL la.length (aC la) regs par cs] [.v (aL la.length (aC la) l.length par (cs.map (eS (mX l l.length)))),.v (.n .i64 0)]:=by
 have hadd:∀j:Nat,j<100000->IntKind.wrap .i64 ((j:Int)+1)=((j+1:Nat):Int):=λj hj=>by rw[aU (by omega)];omega
 refine aO ba Ou ⟨by simp,by decide⟩ ?_
 simp only[bM,aL] at hc ⊢
 repeat first|with_reducible refine au ?_|simp only[go_sem,simprocAttr]
 refine vT hc ?_
 repeat first|with_reducible refine au ?_|simp only[go_sem,simprocAttr]
 refine fY (λr hr=>?_)
 repeat first|with_reducible refine au ?_|simp only[go_sem,simprocAttr]
 refine aq [] (.cons (.rfl (by rfl)) .nil) ho (by simp only[AH.mark_next,ag,aA,aB,ao,ai,ah,List.length_cons,List.length_nil];decide) ?_
 repeat first|with_reducible refine au ?_|simp only[go_sem,simprocAttr]
 refine GA.loop (I:=λmm e H=>∃(k:Nat) (ob:Nat->Option OB) (x:dv),mm=l.length-k/\k<=l.length/\ob r=some (.mp x)/\x.own=true/\x.get=fA (mX l k)/\x.cnt=k/\
   e=aF [(1,.p 0 0),(2,.p 1 0),(6,.cv (.map (some r))),(21,.fs 1 l.length (λj _=> .n .i64 ((l.getD j 0:Nat):Int))),(22,.n .i64 l.length),(23,.n .i64 k)]/\
   H=bc ob [bj 0 25 [.sl0,.n .i64 0,.n .i64 0,.sl0],bj 0 25 [.fs 2 la.length (aC la),.n .i64 regs,.n .i64 par,.fs 5 cs.length (cC cs)]]) (Wk.mkS [1,0] [] ?_ ?_ ?_) ⟨0,_,⟨true,λ_=>none,0,none⟩,rfl,Nat.zero_le _,?_,rfl,rfl,rfl,rfl,rfl⟩ ?_
 ·simp only[bg,bf,go_sem,simprocAttr]
  repeat' refine ab ?_ ?_
  all_goals first|exact bo|skip
 ·exact .cons rfl .ls (.cons rfl .ls .nil)
 ·simp
 ·simp only[go_sem,simprocAttr]
 rintro mm e H ⟨k,ob,mx,rfl,hk,hob,hown,hget,hcnt,rfl,rfl⟩
 repeat first|with_reducible refine au ?_|simp only[go_sem,simprocAttr]
 refine⟨λh=>?_,λh=>?_⟩
 ·have hkl:k<l.length:=by omega
  have hk0:(0:Int)<=(k:Int):=by omega
  have ha:=hadd k (by omega)
  obtain⟨hp1,hp2⟩:=Bh hl hkl hget hcnt
  repeat first|with_reducible refine au ?_|simp only[hk0,h,decide_true,hob,hown,ha,go_sem,simprocAttr]
  refine⟨_,_,_,?_,Wk.mkS [1,0] [] ?_ ?_ ?_,k+1,_,mx.put ((l.getD k 0:Nat):Int) (.n .i64 (k:Int)),rfl,by omega,?_,hown,hp1,hp2,rfl,rfl⟩
  ·omega
  ·simp only[bg,bf,go_sem,simprocAttr]
   repeat' refine ab ?_ ?_
   all_goals first|exact bo|skip
  ·exact .cons rfl .ls (.cons rfl .ls .nil)
  ·simp
  ·simp only[go_sem,simprocAttr]
 ·have hkk:k=l.length:=by omega
  subst hkk
  repeat first|with_reducible refine au ?_|simp only[hob,hcnt,go_sem,simprocAttr]
  refine bS [] (.cons (.rfl (by rfl)) (.cons (.rfl (by rfl)) (.cons (.rfl (by rfl)) .nil))) (kx r (mX l l.length) hla gc (by omega)) ⟨mx,hob,hget⟩ (by simp only[AH.mark_next,ag,aA,aB,ao,af,ah,List.length_cons,List.length_nil];decide) ?_
  rintro rs N ⟨rfl,rfl⟩ hfree
  simp only[aL]
  repeat first|with_reducible refine au ?_|simp only[go_sem,simprocAttr]
  exact⟨[_,_],rfl,dR.v rfl rfl (dR.v rfl rfl .nil)⟩
def GV{α:Type}(T:Int->α)(p:Int)(x:α):Int->α:=λk=>if k=p then x else T k
theorem bZ{α:Type}(T:Int->α)(p:Int)(x:α):GV T p x p=x:=if_pos rfl
theorem eG{α:Type}(T:Int->α){p k:Int}(x:α)(h:k≠p):GV T p x k=T k:=if_neg h
def kV(T:Int->List Int)(p q:Int):Int->List Int:=GV T p (gX (T p) q)
def js(T:Int->List Int)(a b:Int):Int->List Int:=kV (kV T a b) b a
structure gp(r0:Nat)(pa:Int->Option Nat)(T:Int->List Int)(ob:Nat->Option OB):Prop where
 out:∃mo:dv,ob r0=some (.mp mo)/\mo.own=true/\mo.get=λk=>(pa k).map λa=> .cv (.map (some a))
 at_:∀k a,pa k=some a->ob a=some (.mp (bU (T k)))
 non:∀k,pa k=none->T k=[]
 inj:∀k k' a,pa k=some a->pa k'=some a->k=k'
 ne:∀k a,pa k=some a->a≠r0
theorem gp.made{r0:Nat}{pa:Int->Option Nat}{T:Int->List Int}{ob:Nat->Option OB}(h:gp r0 pa T ob){p:Int}(hp:pa p=none){t:Nat}(ht:ob t=none){mo:dv}(hmo:ob r0=some (.mp mo))(ho:mo.own=true)(hg:mo.get=λk=>(pa k).map λa=> .cv (.map (some a))):
  gp r0 (GV pa p (some t)) T (br (gn (br ob t (.mp ⟨true,λ_=>none,0,none⟩))) r0 (.mp (mo.put p (.cv (.map (some t)))))):=by
 have htr:t≠r0:=λe=>by rw[e,hmo] at ht;cases ht
 have hta:∀k a,pa k=some a->a≠t:=λk a hk e=>by have:=h.at_ k a hk;rw[e,ht] at this;cases this
 refine⟨⟨_,aK _ _ _,ho,?_⟩,λk a hk=>?_,λk hk=>?_,λk k' a hk hk'=>?_,λk a hk=>?_⟩
 ·funext q
  show(if q=p then some _ else mo.get q)=(GV pa p (some t) q).map _
  unfold GV
  by_cases e:q=p
  ·rw[if_pos e,if_pos e];rfl
  ·rw[if_neg e,if_neg e,hg]
 ·by_cases e:k=p
  ·subst e
   rw[bZ] at hk
   cases hk
   rw[aW _ _ htr,d8 (aK _ _ _),h.non k hp,fq]
  ·rw[eG _ _ e] at hk
   rw[aW _ _ (h.ne k a hk)]
   refine d8 ?_
   rw[aW _ _ (hta k a hk)]
   exact h.at_ k a hk
 ·by_cases e:k=p
  ·subst e;rw[bZ] at hk;cases hk
  ·rw[eG _ _ e] at hk;exact h.non k hk
 ·by_cases e:k=p
  ·subst e
   rw[bZ] at hk
   cases hk
   by_cases e':k'=k
   ·exact e'.symm
   ·rw[eG _ _ e'] at hk'
    exact absurd rfl (hta k' t hk')
  ·rw[eG _ _ e] at hk
   by_cases e':k'=p
   ·subst e'
    rw[bZ] at hk'
    cases hk'
    exact absurd rfl (hta k t hk)
   ·rw[eG _ _ e'] at hk'
    exact h.inj k k' a hk hk'
 ·by_cases e:k=p
  ·subst e;rw[bZ] at hk;cases hk;exact htr
  ·rw[eG _ _ e] at hk;exact h.ne k a hk
theorem gp.put{r0:Nat}{pa:Int->Option Nat}{T:Int->List Int}{ob:Nat->Option OB}(h:gp r0 pa T ob){p q:Int}{a:Nat}(hp:pa p=some a):
  gp r0 pa (kV T p q) (br (gn ob) a (.mp ((bU (T p)).put q (.b true)))):=by
 obtain⟨mo,h1,h2,h3⟩:=h.out
 refine⟨⟨mo,?_,h2,h3⟩,λk a' hk=>?_,λk hk=>?_,h.inj,h.ne⟩
 ·rw[aW _ _ (Ne.symm (h.ne p a hp))];exact d8 h1
 ·by_cases e:k=p
  ·subst e
   rw[hp] at hk
   cases hk
   rw[aK,je]
   unfold kV
   rw[bZ]
  ·rw[aW _ _ (λe'=>e (h.inj k p a (by rw[hk,e']) hp)),d8 (h.at_ k a' hk)]
   unfold kV
   rw[eG _ _ e]
 ·have e:k≠p:=λe=>by rw[e,hp] at hk;cases hk
  unfold kV
  rw[eG _ _ e];exact h.non k hk
theorem uz(x:OB):x.clr.clr=x.clr:=by cases x<;>rfl
structure kY(r0:Nat)(pa0:Int->Option Nat)(ob0:Nat->Option OB)(pa:Int->Option Nat)(T:Int->List Int)(ob:Nat->Option OB):Prop where
 io:gp r0 pa T ob
 keep:∀r x,ob0 r=some x->r≠r0->(∀k,pa0 k≠some r)->∃y,ob r=some y/\y.clr=x.clr
 new:∀k a,pa k=some a->pa0 k=some a\/ob0 a=none
 old:∀r x,ob0 r=some x->∃y,ob r=some y
theorem kY.refl{r0:Nat}{pa:Int->Option Nat}{T:Int->List Int}{ob:Nat->Option OB}(h:gp r0 pa T ob):kY r0 pa ob pa T ob:=⟨h,λr x hx _ _=>⟨x,hx,rfl⟩,λk a hk=> .inl hk,λr x hx=>⟨x,hx⟩⟩
theorem kY.put{r0:Nat}{pa0:Int->Option Nat}{ob0:Nat->Option OB}{pa:Int->Option Nat}{T:Int->List Int}{ob:Nat->Option OB}(h:kY r0 pa0 ob0 pa T ob){p q:Int}{a:Nat}(hp:pa p=some a):
  kY r0 pa0 ob0 pa (kV T p q) (br (gn ob) a (.mp ((bU (T p)).put q (.b true)))):=by
 refine⟨h.io.put hp,λr x hx hr hk=>?_,h.new,λr x hx=>?_⟩
 rotate_left
 ·obtain⟨y,hy⟩:=h.old r x hx
  by_cases e:r=a
  ·rw[e,aK];exact⟨_,rfl⟩
  ·rw[aW _ _ e];unfold gn;rw[hy];exact⟨_,rfl⟩
 obtain⟨y,hy,hc⟩:=h.keep r x hx hr hk
 have hra:r≠a:=λe=>by
  rcases h.new p a hp with h1|h1
  ·exact hk p (by rw[h1,e])
  ·rw[<-e,hx] at h1;cases h1
 refine⟨y.clr,?_,by rw[uz,hc]⟩
 rw[aW _ _ hra]
 unfold gn
 rw[hy];rfl
theorem kY.made{r0:Nat}{pa0:Int->Option Nat}{ob0:Nat->Option OB}{pa:Int->Option Nat}{T:Int->List Int}{ob:Nat->Option OB}(h:kY r0 pa0 ob0 pa T ob){p:Int}(hp:pa p=none){t:Nat}(ht:ob t=none){mo:dv}(hmo:ob r0=some (.mp mo))(ho:mo.own=true)(hg:mo.get=λk=>(pa k).map λa=> .cv (.map (some a))):
  kY r0 pa0 ob0 (GV pa p (some t)) T (br (gn (br ob t (.mp ⟨true,λ_=>none,0,none⟩))) r0 (.mp (mo.put p (.cv (.map (some t)))))):=by
 refine⟨h.io.made hp ht hmo ho hg,λr x hx hr hk=>?_,λk a hk=>?_,λr x hx=>?_⟩
 rotate_right
 ·obtain⟨y,hy⟩:=h.old r x hx
  by_cases e:r=r0
  ·rw[e,aK];exact⟨_,rfl⟩
  ·rw[aW _ _ e];unfold gn;rw[aW _ _ (iH hy ht),hy];exact⟨_,rfl⟩
 ·obtain⟨y,hy,hc⟩:=h.keep r x hx hr hk
  refine⟨y.clr,?_,by rw[uz,hc]⟩
  rw[aW _ _ hr]
  unfold gn
  rw[aW _ _ (iH hy ht),hy];rfl
 ·by_cases e:k=p
  ·subst e
   rw[bZ] at hk
   cases hk
   refine .inr ?_
   cases hx:ob0 t with
   |none=>rfl
   |some x=>
    obtain⟨y,hy⟩:=h.old t x hx
    rw[ht] at hy;cases hy
  ·rw[eG _ _ e] at hk;exact h.new k a hk
theorem jz{mo:dv}{pa:Int->Option Nat}(h:mo.get=λk=>(pa k).map λa=> .cv (.map (some a)))(p:Int):mo.look false (.cv (.map none)) p= .cv (.map (pa p)):=by
 unfold dv.look
 have:mo.get p=(pa p).map λa=> .cv (.map (some a)):=by rw[h]
 rw[this]
 cases pa p<;>rfl
def Pv(T:Int->List Int)(a b:Int)(i:Nat):Int->List Int:=if i=0 then T else if i=1 then kV T a b else js T a b
theorem qH(r0:Nat)(pa:Int->Option Nat)(T:Int->List Int)(a b:Int)(H:AH)(hH:gp r0 pa T H.ob)(hnx:H.next<1000):
  jU Try.prog 94 [.n .i64 a,.n .i64 b,.fp 1 (λ_=> .cv (.map (some r0))) 0] H (λv H'=>H'.next<10/\∃pa',kY r0 pa H.ob pa' (js T a b) H'.ob):=by
 refine qz ba N0 (by simp) ?_
 refine GA.wk (Wk.arg _ _ _ (by simp)) ?_
 simp only[bM]
 refine GA.wk (Wk.mkS (L:=[(0,.n .i64 a),(1,.n .i64 b),(2,.fp 1 (λ_=> .cv (.map (some r0))) 0)]) (bl:=[]) [] [] ?_ ?_ ?_) ?_
 ·simp only[bg,bf,go_sem,simprocAttr]
  repeat' refine ab ?_ ?_
  all_goals first|exact bo|skip
 ·exact .nil
 ·simp
 generalize hob0:H.ob=ob0 at hH ⊢
 repeat first|with_reducible refine au ?_|simp only[go_sem,simprocAttr]
 refine GA.loop (I:=λmm e H=>∃(i:Nat) (pa1:Int->Option Nat) (ob1:Nat->Option OB),mm=2-i/\i<=2/\kY r0 pa ob0 pa1 (Pv T a b i) ob1/\e=aF [(2,.fp 1 (λ_=> .cv (.map (some r0))) 0),(13,.sl 0 0 2 2),(14,.n .i64 2),(15,.n .i64 i)]/\H=bc ob1 [bj 2 142 [.n .i64 a,.n .i64 b,.n .i64 b,.n .i64 a]]) (Wk.mkS [0] [] ?_ ?_ ?_) ⟨0,pa,ob0,rfl,by omega,.refl hH,rfl,rfl⟩ ?_
 ·simp only[bg,bf,go_sem,simprocAttr]
  repeat' refine ab ?_ ?_
  all_goals first|exact bo|skip
 ·exact .cons rfl .ls .nil
 ·simp
 rintro mm e H1 ⟨i,pa1,ob1,rfl,hi,hst,rfl,rfl⟩
 obtain⟨mo,hmo,hown,hget⟩:=hst.io.out
 obtain rfl|rfl|rfl:i=0\/i=1\/i=2:=by omega
 ·have hlk:=jz hget a
  cases hp:pa1 a with
  |none=>
   rw[hp] at hlk
   repeat first|with_reducible refine au ?_|simp only[hmo,hlk,decide_true,go_sem,simprocAttr]
   refine fY (λt ht=>?_)
   have ht:ob1 t=none:=ht
   have hst2:=hst.made hp ht hmo hown hget
   have hmo1:br ob1 t (.mp ⟨true,λ_=>none,0,none⟩) r0=some (.mp mo):=by rw[aW _ _ (iH hmo ht)];exact hmo
   obtain⟨mo2,e1,e2,e3⟩:=hst2.io.out
   rw[aK] at e1
   cases e1
   have hlk2:(mo.put a (.cv (.map (some t)))).look false (.cv (.map none)) a= .cv (.map (some t)):=(jz e3 a).trans (by rw[bZ])
   have hat2:=hst2.io.at_ a t (bZ _ _ _)
   repeat first|with_reducible refine au ?_|simp only[hmo1,hown,hlk2,hat2,go_sem,simprocAttr]
   refine⟨rfl,?_⟩
   repeat first|with_reducible refine au ?_|simp only[go_sem,simprocAttr]
   refine⟨_,_,_,?_,Wk.mkS [0] [] ?_ ?_ ?_,1,_,_,rfl,by omega,hst2.put (q:=b) (bZ _ _ _),rfl,rfl⟩
   ·decide
   ·simp only[bg,bf,go_sem,simprocAttr]
    repeat' refine ab ?_ ?_
    all_goals first|exact bo|skip
   ·exact .cons rfl .ls .nil
   ·simp
  |some ap=>
   rw[hp] at hlk
   have hat:=hst.io.at_ a ap hp
   repeat first|with_reducible refine au ?_|simp only[hmo,hlk,hat,decide_true,go_sem,simprocAttr]
   refine⟨rfl,?_⟩
   repeat first|with_reducible refine au ?_|simp only[go_sem,simprocAttr]
   refine⟨_,_,_,?_,Wk.mkS [0] [] ?_ ?_ ?_,1,_,_,rfl,by omega,hst.put (q:=b) hp,rfl,rfl⟩
   ·decide
   ·simp only[bg,bf,go_sem,simprocAttr]
    repeat' refine ab ?_ ?_
    all_goals first|exact bo|skip
   ·exact .cons rfl .ls .nil
   ·simp
 ·have hlk:=jz hget b
  cases hp:pa1 b with
  |none=>
   rw[hp] at hlk
   repeat first|with_reducible refine au ?_|simp only[hmo,hlk,decide_true,go_sem,simprocAttr]
   refine fY (λt ht=>?_)
   have ht:ob1 t=none:=ht
   have hst2:=hst.made hp ht hmo hown hget
   have hmo1:br ob1 t (.mp ⟨true,λ_=>none,0,none⟩) r0=some (.mp mo):=by rw[aW _ _ (iH hmo ht)];exact hmo
   obtain⟨mo2,e1,e2,e3⟩:=hst2.io.out
   rw[aK] at e1
   cases e1
   have hlk2:(mo.put b (.cv (.map (some t)))).look false (.cv (.map none)) b= .cv (.map (some t)):=(jz e3 b).trans (by rw[bZ])
   have hat2:=hst2.io.at_ b t (bZ _ _ _)
   repeat first|with_reducible refine au ?_|simp only[hmo1,hown,hlk2,hat2,go_sem,simprocAttr]
   refine⟨rfl,?_⟩
   repeat first|with_reducible refine au ?_|simp only[go_sem,simprocAttr]
   refine⟨_,_,_,?_,Wk.mkS [0] [] ?_ ?_ ?_,2,_,_,rfl,by omega,hst2.put (q:=a) (bZ _ _ _),rfl,rfl⟩
   ·decide
   ·simp only[bg,bf,go_sem,simprocAttr]
    repeat' refine ab ?_ ?_
    all_goals first|exact bo|skip
   ·exact .cons rfl .ls .nil
   ·simp
  |some ap=>
   rw[hp] at hlk
   have hat:=hst.io.at_ b ap hp
   repeat first|with_reducible refine au ?_|simp only[hmo,hlk,hat,decide_true,go_sem,simprocAttr]
   refine⟨rfl,?_⟩
   repeat first|with_reducible refine au ?_|simp only[go_sem,simprocAttr]
   refine⟨_,_,_,?_,Wk.mkS [0] [] ?_ ?_ ?_,2,_,_,rfl,by omega,hst.put (q:=a) hp,rfl,rfl⟩
   ·decide
   ·simp only[bg,bf,go_sem,simprocAttr]
    repeat' refine ab ?_ ?_
    all_goals first|exact bo|skip
   ·exact .cons rfl .ls .nil
   ·simp
 ·repeat first|with_reducible refine au ?_|simp only[go_sem,simprocAttr]
  exact⟨pa1,hst⟩
def qe(cs:List In)(i:Nat):Int:=a8 (cs.getD i (0,0,0,0,0)).1 (cs.getD i (0,0,0,0,0)).2.1
def fJ(cs:List In)(nx:Nat->List Nat)(p q:Int):Prop:=
 (p≠q/\bm cs nx 0 p/\bm cs nx 0 q)\/∃i k,i<cs.length/\k ∈ nx i/\0<=qe cs i/\((p=qe cs i/\q≠p/\bm cs nx k q)\/(q=qe cs i/\p≠q/\bm cs nx k p))
theorem fJ.symm{cs:List In}{nx:Nat->List Nat}{p q:Int}(h:fJ cs nx p q):fJ cs nx q p:=by
 rcases h with⟨h1,h2,h3⟩|⟨i,k,h1,h2,h3,h4|h4⟩
 ·exact .inl ⟨Ne.symm h1,h3,h2⟩
 ·exact .inr ⟨i,k,h1,h2,h3,.inr h4⟩
 ·exact .inr ⟨i,k,h1,h2,h3,.inl h4⟩
theorem rL{T:Int->List Int}{p q k x:Int}:x ∈ kV T p q k↔x ∈ T k\/(k=p/\x=q):=by
 unfold kV
 by_cases e:k=p
 ·subst e;rw[bZ,dn];simp
 ·rw[eG _ _ e];simp[e]
theorem bW{T:Int->List Int}{a b k x:Int}:x ∈ js T a b k↔x ∈ T k\/(k=a/\x=b)\/(k=b/\x=a):=by
 unfold js
 rw[rL,rL,or_assoc]
theorem mP{T:Int->List Int}(h:∀p,(T p).Nodup)(p q k:Int):(kV T p q k).Nodup:=by
 unfold kV
 by_cases e:k=p
 ·subst e;rw[bZ];exact i6 (h _) _
 ·rw[eG _ _ e];exact h k
structure qa(cs:List In)(nx:Nat->List Nat)(n1:Nat)(ad:Nat->Nat)(S:Nat->List Int)(r0:Nat)(pa:Int->Option Nat)(T:Int->List Int)(ob:Nat->Option OB):Prop where
 io:gp r0 pa T ob
 lv:eR n1 ad S ob
 d1:∀k a i,i<n1->pa k=some a->a≠ad i
 d2:∀i,i<n1->ad i≠r0
 nd:∀p,(T p).Nodup
 ok:∀p q,q ∈ T p->fJ cs nx p q
 sy:∀p q,q ∈ T p->p ∈ T q
section
variable {cs:List In} {nx:Nat->List Nat} {n1:Nat} {ad:Nat->Nat} {S:Nat->List Int} {r0:Nat} {pa pa':Int->Option Nat} {T:Int->List Int} {ob ob':Nat->Option OB}
theorem qa.note(h:qa cs nx n1 ad S r0 pa T ob){a b:Int}(hst:kY r0 pa ob pa' (js T a b) ob')(hab:fJ cs nx a b):qa cs nx n1 ad S r0 pa' (js T a b) ob':=by
 refine⟨hst.io,⟨λi hi=>?_,h.lv.inj⟩,λk x i hi hk e=>?_,h.d2,λp=>mP (mP h.nd a b) b a p,λp q hq=>?_,λp q hq=>?_⟩
 ·obtain⟨y,hy,hc⟩:=hst.keep (ad i) _ (h.lv.at_ i hi) (h.d2 i hi) (λk hk=>h.d1 k _ i hi hk rfl)
  cases y with
  |mp z=>rw[hy];exact congrArg some hc
  |it z=>cases hc
  |fix o=>cases hc
 ·rcases hst.new k x hk with h1|h1
  ·exact h.d1 k x i hi h1 e
  ·rw[e,h.lv.at_ i hi] at h1;cases h1
 ·rcases bW.1 hq with h1|⟨rfl,rfl⟩|⟨rfl,rfl⟩
  ·exact h.ok p q h1
  ·exact hab
  ·exact hab.symm
 ·rcases bW.1 hq with h1|⟨rfl,rfl⟩|⟨rfl,rfl⟩
  ·exact bW.2 (.inl (h.sy p q h1))
  ·exact bW.2 (.inr (.inr ⟨rfl,rfl⟩))
  ·exact bW.2 (.inr (.inl ⟨rfl,rfl⟩))
theorem qa.itKeep(h:qa cs nx n1 ad S r0 pa T ob){a b:Int}(hst:kY r0 pa ob pa' (js T a b) ob'){t:Nat}{y:mY}(ht:ob t=some (.it y)):∃c,ob' t=some (.it {y with cur:=c}):=by
 obtain⟨z,hz,hc⟩:=hst.keep t _ ht (λe=>by
  obtain⟨mo,h1,_⟩:=h.io.out
  rw[e,h1] at ht;cases ht) (λk hk=>by have:=h.io.at_ k t hk;rw[ht] at this;cases this)
 cases z with
 |mp z=>cases hc
 |fix o=>cases hc
 |it z=>
  refine⟨z.cur,?_⟩
  rw[hz]
  simp only[OB.clr,OB.it.injEq,mY.mk.injEq] at hc
  obtain⟨e1,e2,e3,_⟩:=hc
  rw[<-e1,<-e2,<-e3]
theorem qa.iter(h:qa cs nx n1 ad S r0 pa T ob){t:Nat}(ht:ob t=none\/∃y,ob t=some (.it y))(x:OB):qa cs nx n1 ad S r0 pa T (br ob t x):=by
 have key:∀r m,ob r=some (.mp m)->br ob t x r=some (.mp m):=λr m hr=>by
  rw[aW _ _ (λe=>by rcases ht with h1|⟨y,h1⟩<;>rw[e,h1] at hr<;>cases hr)]
  exact hr
 obtain⟨mo,h1,h2,h3⟩:=h.io.out
 exact⟨⟨⟨mo,key _ _ h1,h2,h3⟩,λk a hk=>key _ _ (h.io.at_ k a hk),h.io.non,h.io.inj,h.io.ne⟩,⟨λi hi=>key _ _ (h.lv.at_ i hi),h.lv.inj⟩,h.d1,h.d2,h.nd,h.ok,h.sy⟩
end
abbrev C5(t:Nat):AV:= .cv (.pointer (some ⟨t,0,none⟩))
abbrev kC(cs:List In)(nx:Nat->List Nat)(n1:Nat)(ad:Nat->Nat)(r0:Nat):List (Nat×AV):=[(0,.fs 5 cs.length (cC cs)),(3,.fp 1 (λ_=> .cv (.map (some r0))) 0),(4,.f 94 [] [.fp 1 (λ_=> .cv (.map (some r0))) 0]),(5,.fs 1 n1 (Ap ad)),(6,.fs 1 cs.length (gC nx))]
structure gf(l d:List Int)(m:Nat)(ob:Nat->Option OB)(t:Nat):Prop where
 nd:d.Nodup
 sub:∀r ∈ d,r ∈ l
 it:∃seen cur,(∀q,seen q=true↔q ∈ d)/\ob t=some (.it ⟨m,λq=>((bU l).get q).isSome,seen,cur⟩)
theorem gf.keep{l d:List Int}{m t:Nat}{ob ob':Nat->Option OB}(h:gf l d m ob t)(hk:∀y,ob t=some (.it y)->∃c,ob' t=some (.it {y with cur:=c})):gf l d m ob' t:=by
 obtain⟨seen,cur,h1,h2⟩:=h.it
 obtain⟨c,hc⟩:=hk _ h2
 exact⟨h.nd,h.sub,seen,c,h1,hc⟩
theorem gf.start{l:List Int}{m t:Nat}{ob:Nat->Option OB}(h:ob t=some (.it ⟨m,λq=>((bU l).get q).isSome,λ_=>false,none⟩)):gf l [] m ob t:=⟨List.nodup_nil,λr hr=>(by cases hr),_,_,λq=>by simp,h⟩
theorem gf.len{l d:List Int}{m t:Nat}{ob:Nat->Option OB}(h:gf l d m ob t):d.length<=l.length:=fP h.nd h.sub
end Go.Proofs.Yteopfmnnhlhbmaa
namespace Go.Proofs.Yteopfmnnhlhbmaa
open Go.RowKit
theorem k9{H:AH}{Q:AV->AH->Prop}{t m:Nat}{l d:List Int}{seen:Int->Bool}{cur:Option (Int×AV)}(hn:d.Nodup)(hs:∀r ∈ d,r ∈ l)(hsn:∀q,seen q=true↔q ∈ d)
  (h1:∀q,q ∈ l->q ∉ d->∀y:mY,y.cur=some (q,.b true)->(∀ob:Nat->Option OB,gf l (d++[q]) m (br ob t (.it y)) t)->Q (.tup [.b true,.n .i64 q,.b true]) (H.setOb t (.it y)))
  (h2:(∀q ∈ l,q ∈ d)->Q (.tup [.b false]) H):tX H Q t ⟨m,λq=>((bU l).get q).isSome,seen,cur⟩ (some (.mp (bU l))):=by
 refine xM (λq v hq=>by show((bU l).get q).isSome=true;rw[hq];rfl) (λq v hq hsq=>?_) (λhall=>h2 λq hq=>(hsn q).1 (hall q ?_))
 ·rw[dC] at hq
  split at hq
  ·rename_i hql
   cases hq
   have hqd:q ∉ d:=λhm=>by
    have:=(hsn q).2 hm
    have hsq:seen q=false:=hsq
    rw[hsq] at this;cases this
   refine h1 q hql hqd _ rfl (λob=>⟨List.nodup_append.2 ⟨hn,by simp,λa ha b hb e=>by simp at hb;subst hb;subst e;exact hqd ha⟩,λr hr=>?_,_,_,λq'=>?_,aK _ _ _⟩)
   ·rcases List.mem_append.1 hr with hr|hr
    ·exact hs r hr
    ·simp at hr;subst hr;exact hql
   ·show(decide (q'=q)||seen q')=true↔q' ∈ d++[q]
    rw[Bool.or_eq_true,decide_eq_true_eq,hsn q',List.mem_append,List.mem_singleton,or_comm]
  ·cases hq
 ·show((bU l).get q).isSome=true
  rw[dC,if_pos hq];rfl
theorem Ip(cs:List In)(nx:Nat->List Nat)(n1:Nat)(ad:Nat->Nat)(S:Nat->List Int)(r0:Nat)(hn1:0<n1)(hnn:n1<=20000)(hS0:∀r,r ∈ S 0->bm cs nx 0 r)(pa:Int->Option Nat)(T:Int->List Int)(ob:Nat->Option OB)(t1:Nat)(hif:qa cs nx n1 ad S r0 pa T ob)(hw:gf (S 0) [] (ad 0) ob t1)
  (Q:AE->Tr AV->AH->Prop) (hQ:∀pa T ob e' H',qa cs nx n1 ad S r0 pa T ob->(∀a ∈ S 0,∀b ∈ S 0,a≠b->b ∈ T a)->Wk 90 e' H' (aF (kC cs nx n1 ad r0)) (bc ob [])->Q (.exit 0) e' H'):
  GA Try.prog 90 (aE Try.prog 74) xa (aF ((26,C5 t1)::kC cs nx n1 ad r0)) (bc ob []) Q:=by
 have hadC:∀i,Ap ad i 0= .cv (.map (some (ad i))):=λ_=>rfl
 have hn10:(0:Int)<(n1:Int):=by omega
 refine GA.loop (I:=λmm e H=>∃(d:List Int) (pa:Int->Option Nat) (T:Int->List Int) (ob:Nat->Option OB),mm=(S 0).length-d.length/\gf (S 0) d (ad 0) ob t1/\qa cs nx n1 ad S r0 pa T ob/\(∀a ∈ d,∀b ∈ S 0,a≠b->b ∈ T a)/\e=aF ((26,C5 t1)::kC cs nx n1 ad r0)/\H=bc ob []) Wk.refl ⟨[],pa,T,ob,rfl,hw,hif,λa ha=>(by cases ha),rfl,rfl⟩ ?_
 rintro mm e H ⟨d,pa,T,ob,rfl,hw,hif,hdone,rfl,rfl⟩
 have hob0:=hif.lv.at_ 0 hn1
 obtain⟨seen,cur,hsn,hot⟩:=hw.it
 repeat first|with_reducible refine au ?_|simp only[hot,hob0,go_sem,simprocAttr]
 refine k9 hw.nd hw.sub hsn (λp hp hpd y hcur hw2=>?_) (λhall=>?_)
 ·have hif2:=hif.iter (.inr ⟨_,hot⟩) (.it y)
  have hw2:=hw2 ob
  have hob02:=hif2.lv.at_ 0 hn1
  have hlen:=hw2.len
  rw[List.length_append,List.length_singleton] at hlen
  repeat first|with_reducible refine au ?_|simp only[hcur,hadC,hob02,hn10,go_sem,simprocAttr]
  refine lM (λt2 ht2=>?_)
  have ht2:br ob t1 (.it y) t2=none:=ht2
  have hif3:=hif2.iter (.inl ht2) (.it ⟨ad 0,λk=>((bU (S 0)).get k).isSome,λ_=>false,none⟩)
  have hw3:gf (S 0) [] (ad 0) (br (br ob t1 (.it y)) t2 (.it ⟨ad 0,λk=>((bU (S 0)).get k).isSome,λ_=>false,none⟩)) t2:= .start (aK _ _ _)
  have hw4:gf (S 0) (d++[p]) (ad 0) (br (br ob t1 (.it y)) t2 (.it ⟨ad 0,λk=>((bU (S 0)).get k).isSome,λ_=>false,none⟩)) t1:=hw2.keep λz hz=>⟨z.cur,by rw[aW _ _ (iH hz ht2)];exact hz⟩
  have htt0:t1≠t2:=λe=>by rw[<-e,aK] at ht2;cases ht2
  repeat first|with_reducible refine au ?_|simp only[go_sem,simprocAttr]
  refine GA.loop (I:=λmm e H=>∃(d2:List Int) (pa:Int->Option Nat) (T:Int->List Int) (ob:Nat->Option OB),mm=(S 0).length-d2.length/\gf (S 0) d2 (ad 0) ob t2/\gf (S 0) (d++[p]) (ad 0) ob t1/\t1≠t2/\qa cs nx n1 ad S r0 pa T ob/\(∀a ∈ d,∀b ∈ S 0,a≠b->b ∈ T a)/\(∀b ∈ d2,p≠b->b ∈ T p)/\e=aF ((34,C5 t2)::(7,.n .i64 p)::(26,C5 t1)::kC cs nx n1 ad r0)/\H=bc ob []) (Wk.mkS [] [] ?_ ?_ ?_) ⟨[],pa,T,_,rfl,hw3,hw4,htt0,hif3,hdone,λb hb=>(by cases hb),rfl,rfl⟩ ?_
  ·simp only[bg,bf,kC,go_sem,simprocAttr]
   repeat' refine ab ?_ ?_
   all_goals first|exact bo|skip
  ·exact .nil
  ·simp
  clear hw3 hw4 hif3 hif2 hw2 hif hw hdone hot hob0 hob02
  rintro mm e H ⟨d2,pa,T,ob,rfl,hw,hwp,htt,hif,hdone,hd2,rfl,rfl⟩
  have hob0:=hif.lv.at_ 0 hn1
  obtain⟨seen,cur,hsn,hot⟩:=hw.it
  repeat first|with_reducible refine au ?_|simp only[hot,hob0,go_sem,simprocAttr]
  refine k9 hw.nd hw.sub hsn (λq hq hqd y hcur hwq=>?_) (λhall=>?_)
  ·have hif2:=hif.iter (.inr ⟨_,hot⟩) (.it y)
   have hwq:=hwq ob
   have hlen2:=hwq.len
   rw[List.length_append,List.length_singleton] at hlen2
   have hwp2:gf (S 0) (d++[p]) (ad 0) (br ob t2 (.it y)) t1:=hwp.keep λz hz=>⟨z.cur,by rw[aW _ _ htt];exact hz⟩
   repeat first|with_reducible refine au ?_|simp only[hcur,go_sem,simprocAttr]
   refine⟨λhne=>?_,λheq=>?_⟩
   ·refine GA.regp (l:=[_,_,_]) rfl ?_
    simp only[go_sem,simprocAttr]
    refine⟨PE.of (by rfl),_,_,_,_,(by simp only[go_sem,simprocAttr];rfl),(by simp only[go_sem,simprocAttr];rfl),(qH r0 pa T p q ((bc ob []).setOb t2 (.it y)) hif2.io (by show 0<1000;decide)).mono (λv H' hpost=>?_)⟩
    obtain⟨hnx,pa',hst⟩:=hpost
    have hifn:=hif2.note hst (.inl ⟨hne,hS0 p hp,hS0 q hq⟩)
    refine⟨_,_,_,?_,Wk.mkS [] [] ?_ ?_ ?_,d2++[q],pa',js T p q,H'.ob,rfl,hwq.keep (λz hz=>hif2.itKeep hst hz),hwp2.keep (λz hz=>hif2.itKeep hst hz),htt,hifn,λa ha b hb hab=>bW.2 (.inl (hdone a ha b hb hab)),λb hb hpb=>?_,rfl,rfl⟩
    ·simp only[List.length_append,List.length_singleton];omega
    ·simp only[bg,bf,kC,go_sem,simprocAttr]
     repeat' refine ab ?_ ?_
     all_goals first|exact bo|skip
    ·exact .nil
    ·simp
    ·rcases List.mem_append.1 hb with hb|hb
     ·exact bW.2 (.inl (hd2 b hb hpb))
     ·simp at hb;subst hb;exact bW.2 (.inr (.inl ⟨rfl,rfl⟩))
   ·repeat first|with_reducible refine au ?_|simp only[go_sem,simprocAttr]
    refine⟨_,_,_,?_,Wk.mkS [] [] ?_ ?_ ?_,d2++[q],pa,T,_,rfl,hwq,hwp2,htt,hif2,hdone,λb hb hpb=>?_,rfl,rfl⟩
    ·simp only[List.length_append,List.length_singleton];omega
    ·simp only[bg,bf,kC,go_sem,simprocAttr]
     repeat' refine ab ?_ ?_
     all_goals first|exact bo|skip
    ·exact .nil
    ·simp
    ·rcases List.mem_append.1 hb with hb|hb
     ·exact hd2 b hb hpb
     ·simp at hb;subst hb;exact absurd heq hpb
  ·repeat first|with_reducible refine au ?_|simp only[go_sem,simprocAttr]
   refine⟨_,_,_,?_,Wk.mkS [] [] ?_ ?_ ?_,d++[p],pa,T,ob,rfl,hwp,hif,λa ha b hb hab=>?_,rfl,rfl⟩
   ·simp only[List.length_append,List.length_singleton];omega
   ·simp only[bg,bf,kC,go_sem,simprocAttr]
    repeat' refine ab ?_ ?_
    all_goals first|exact bo|skip
   ·exact .nil
   ·simp
   ·rcases List.mem_append.1 ha with ha|ha
    ·exact hdone a ha b hb hab
    ·simp at ha;subst ha;exact hd2 b (hall b hb) hab
 ·repeat first|with_reducible refine au ?_|simp only[go_sem,simprocAttr]
  refine hQ pa T ob _ _ hif (λa ha b hb=>hdone a (hall a ha) b hb) (Wk.mkS [] [] ?_ ?_ ?_)
  ·simp only[bg,bf,kC,go_sem,simprocAttr]
   repeat' refine ab ?_ ?_
   all_goals first|exact bo|skip
  ·exact .nil
  ·simp
def P9(nx:Nat->List Nat)(S:Nat->List Int)(w:Nat->Int)(T:Int->List Int)(i:Nat):Prop:=∀i',i'<i->0<=w i'->∀k ∈ nx i',∀r ∈ S k,r≠w i'->r ∈ T (w i')
abbrev yF(nx:Nat->List Nat)(i j:Nat)(w:Int)(n:Nat)(code:AV):List (Nat×AV):=[(61,.fs 1 (nx i).length (λj _=> .n .i64 (((nx i).getD j 0:Nat):Int))),(62,.n .i64 (nx i).length),(63,.n .i64 j),(12,.n .i64 w),(46,code),(47,.n .i64 n),(48,.n .i64 i)]
theorem Im(cs:List In)(nx:Nat->List Nat)(ad:Nat->Nat)(S:Nat->List Int)(r0:Nat)(hn:cs.length<=16384)(hops:∀x ∈ cs,0<=x.1/\x.1<39)(hnx:∀i,i<cs.length->∀k ∈ nx i,k<=cs.length)(hnl:∀i,(nx i).length<=2)(hS:∀i,i<=cs.length->∀r,r ∈ S i->bm cs nx i r)
  (pa:Int->Option Nat) (T:Int->List Int) (ob:Nat->Option OB) (hif:qa cs nx (cs.length+1) ad S r0 pa T ob) (hC1:∀a ∈ S 0,∀b ∈ S 0,a≠b->b ∈ T a)
  (Q:AE->Tr AV->AH->Prop) (hQ:∀pa T ob e' H',qa cs nx (cs.length+1) ad S r0 pa T ob->(∀a ∈ S 0,∀b ∈ S 0,a≠b->b ∈ T a)->P9 nx S (qe cs) T cs.length->Wk 90 e' H' (aF (kC cs nx (cs.length+1) ad r0)) (bc ob [])->Q (.exit 4) e' H'):
  GA Try.prog 90 (aE Try.prog 74) w8 (aF ((46,.fs 5 cs.length (cC cs))::(47,.n .i64 cs.length)::(48,.n .i64 0)::kC cs nx (cs.length+1) ad r0)) (bc ob []) Q:=by
 have hadd:∀j:Nat,j<100000->IntKind.wrap .i64 ((j:Int)+1)=((j+1:Nat):Int):=λj hj=>by rw[aU (by omega)];omega
 have hadC:∀i,Ap ad i 0= .cv (.map (some (ad i))):=λ_=>rfl
 have hgC:∀i,gC nx i 0= .fs 1 (nx i).length (λj _=> .n .i64 (((nx i).getD j 0:Nat):Int)):=λ_=>rfl
 refine GA.loop (I:=λmm e H=>∃(i:Nat) (pa:Int->Option Nat) (T:Int->List Int) (ob:Nat->Option OB),mm=cs.length-i/\i<=cs.length/\qa cs nx (cs.length+1) ad S r0 pa T ob/\(∀a ∈ S 0,∀b ∈ S 0,a≠b->b ∈ T a)/\P9 nx S (qe cs) T i/\e=aF ((46,.fs 5 cs.length (cC cs))::(47,.n .i64 cs.length)::(48,.n .i64 i)::kC cs nx (cs.length+1) ad r0)/\H=bc ob []) Wk.refl ⟨0,pa,T,ob,rfl,Nat.zero_le _,hif,hC1,λi hi=>by omega,rfl,rfl⟩ ?_
 rintro mm e H ⟨i,pa,T,ob,rfl,hi,hif,hC1,hC2,rfl,rfl⟩
 repeat first|with_reducible refine au ?_|simp only[go_sem,simprocAttr]
 refine⟨λh=>?_,λh=>?_⟩
 ·have hil:i<cs.length:=by omega
  have hi0:(0:Int)<=(i:Int):=by omega
  have ha:=hadd i (by omega)
  have hcc0:=tg cs i
  have hcc1:=zR cs i
  have hcc2:=zQ cs i
  have hcc3:=zP cs i
  have hcc4:=zO cs i
  have hmem:cs.getD i (0,0,0,0,0) ∈ cs:=by rw[List.getD_eq_getElem?_getD,List.getElem?_eq_getElem hil];exact List.getElem_mem hil
  have hop:=hops _ hmem
  have hwr:qe cs i=a8 (cs.getD i (0,0,0,0,0)).1 (cs.getD i (0,0,0,0,0)).2.1:=rfl
  generalize hx:cs.getD i (0,0,0,0,0)=x at*
  obtain⟨op,to,a,b,arg⟩:=x
  have hu:=il (lC op to a b arg hop) (by rfl)
  simp only[List.map_cons,List.map_nil,RT.fz] at hu
  simp only at hwr
  repeat first|with_reducible refine au ?_|simp only[hi0,h,hcc0,hcc1,hcc2,hcc3,hcc4,decide_true,go_sem,simprocAttr]
  refine aq [] (.cons (.rfl (by rfl)) .nil) hu (by simp only[AH.mark_next,ag,aA,aB,ao,af,ah,List.length_cons,List.length_nil];decide) ?_
  rw[<-hwr]
  generalize hw:qe cs i=w
  repeat first|with_reducible refine au ?_|simp only[hi0,h,hgC,go_sem,simprocAttr]
  refine GA.loop (I:=λmm e H=>∃(j:Nat) (pa:Int->Option Nat) (T:Int->List Int) (ob:Nat->Option OB),mm=(nx i).length-j/\j<=(nx i).length/\qa cs nx (cs.length+1) ad S r0 pa T ob/\(∀a ∈ S 0,∀b ∈ S 0,a≠b->b ∈ T a)/\P9 nx S (qe cs) T i/\(0<=w->∀j',j'<j->∀r ∈ S ((nx i).getD j' 0),r≠w->r ∈ T w)/\e=aF (yF nx i j w cs.length (.fs 5 cs.length (cC cs))++kC cs nx (cs.length+1) ad r0)/\H=bc ob []) (Wk.mkS [] [] ?_ ?_ ?_) ⟨0,pa,T,_,rfl,Nat.zero_le _,hif,hC1,hC2,λ_ j hj=>by omega,rfl,rfl⟩ ?_
  ·simp only[bg,bf,kC,yF,List.cons_append,List.nil_append,go_sem,simprocAttr]
   repeat' refine ab ?_ ?_
   all_goals first|exact bo|skip
  ·exact .nil
  ·simp
  clear hif hC1 hC2
  rintro mm e H ⟨j,pa,T,ob,rfl,hj,hif,hC1,hC2,hC3,rfl,rfl⟩
  simp only[yF,List.cons_append,List.nil_append]
  repeat first|with_reducible refine au ?_|simp only[go_sem,simprocAttr]
  refine⟨λh=>?_,λh=>?_⟩
  ·have hjl:j<(nx i).length:=by omega
   have hj0:(0:Int)<=(j:Int):=by omega
   have ha2:=hadd j (by have:=hnl i;omega)
   obtain⟨k,hk⟩:∃k,(nx i).getD j 0=k:=⟨_,rfl⟩
   have hkm:k ∈ nx i:=by rw[<-hk,List.getD_eq_getElem?_getD,List.getElem?_eq_getElem hjl];exact List.getElem_mem hjl
   have hkn:k<=cs.length:=hnx i hil k hkm
   have hk0:(0:Int)<=(k:Int):=by omega
   have hk1:(k:Int)<((cs.length+1:Nat):Int):=by omega
   have hobk:=hif.lv.at_ k (by omega)
   repeat first|with_reducible refine au ?_|simp only[hj0,h,hk,hk0,hk1,hadC,hobk,go_sem,simprocAttr]
   refine lM (λt ht=>?_)
   have ht:ob t=none:=ht
   have hif3:=hif.iter (.inl ht) (.it ⟨ad k,λq=>((bU (S k)).get q).isSome,λ_=>false,none⟩)
   have hw3:gf (S k) [] (ad k) (br ob t (.it ⟨ad k,λq=>((bU (S k)).get q).isSome,λ_=>false,none⟩)) t:= .start (aK _ _ _)
   repeat first|with_reducible refine au ?_|simp only[go_sem,simprocAttr]
   refine GA.loop (I:=λmm e H=>∃(d:List Int) (pa:Int->Option Nat) (T:Int->List Int) (ob:Nat->Option OB),mm=(S k).length-d.length/\gf (S k) d (ad k) ob t/\qa cs nx (cs.length+1) ad S r0 pa T ob/\(∀a ∈ S 0,∀b ∈ S 0,a≠b->b ∈ T a)/\P9 nx S (qe cs) T i/\(0<=w->∀j',j'<j->∀r ∈ S ((nx i).getD j' 0),r≠w->r ∈ T w)/\(0<=w->∀r ∈ d,r≠w->r ∈ T w)/\e=aF ((71,C5 t)::(yF nx i j w cs.length (.fs 5 cs.length (cC cs))++kC cs nx (cs.length+1) ad r0))/\H=bc ob []) (Wk.mkS [] [] ?_ ?_ ?_) ⟨[],pa,T,_,rfl,hw3,hif3,hC1,hC2,hC3,λ_ b hb=>(by cases hb),rfl,rfl⟩ ?_
   ·simp only[bg,bf,kC,yF,List.cons_append,List.nil_append,go_sem,simprocAttr]
    repeat' refine ab ?_ ?_
    all_goals first|exact bo|skip
   ·exact .nil
   ·simp
   clear hw3 hif3 hif hC1 hC2 hC3 hobk ht
   rintro mm e H ⟨d,pa,T,ob,rfl,hwk,hif,hC1,hC2,hC3,hd,rfl,rfl⟩
   have hobk:=hif.lv.at_ k (by omega)
   obtain⟨seen,cur,hsn,hot⟩:=hwk.it
   simp only[yF,List.cons_append,List.nil_append]
   repeat first|with_reducible refine au ?_|simp only[hot,hobk,go_sem,simprocAttr]
   refine k9 hwk.nd hwk.sub hsn (λq hq hqd y hcur hwq=>?_) (λhall=>?_)
   ·have hif2:=hif.iter (.inr ⟨_,hot⟩) (.it y)
    have hwq:=hwq ob
    have hlen2:=hwq.len
    rw[List.length_append,List.length_singleton] at hlen2
    by_cases hw0:0<=w
    ·repeat first|with_reducible refine au ?_|simp only[hcur,hw0,decide_true,go_sem,simprocAttr]
     refine⟨λhne=>?_,λheq=>?_⟩
     ·refine GA.regp (l:=[_,_,_]) rfl ?_
      simp only[go_sem,simprocAttr]
      refine⟨PE.of (by rfl),_,_,_,_,(by simp only[go_sem,simprocAttr];rfl),(by simp only[go_sem,simprocAttr];rfl),(qH r0 pa T w q ((bc ob []).setOb t (.it y)) hif2.io (by show 0<1000;decide)).mono (λv H' hpost=>?_)⟩
      obtain⟨hnx2,pa',hst⟩:=hpost
      have hifn:=hif2.note hst (.inr ⟨i,k,hil,hkm,by rw[hw];exact hw0,.inl ⟨hw.symm,hne,hS k hkn q hq⟩⟩)
      refine⟨_,_,_,?_,Wk.mkS [] [] ?_ ?_ ?_,d++[q],pa',js T w q,H'.ob,rfl,hwq.keep (λz hz=>hif2.itKeep hst hz),hifn,λa ha b hb hab=>bW.2 (.inl (hC1 a ha b hb hab)),λi' hi' h0 k' hk' r hr hrw=>bW.2 (.inl (hC2 i' hi' h0 k' hk' r hr hrw)),λj' hj' r hr hrw=>bW.2 (.inl (hC3 hw0 j' hj' r hr hrw)),λr hr hrw=>?_,rfl,rfl⟩
      ·simp only[List.length_append,List.length_singleton];omega
      ·simp only[bg,bf,kC,yF,List.cons_append,List.nil_append,go_sem,simprocAttr]
       repeat' refine ab ?_ ?_
       all_goals first|exact bo|skip
      ·exact .nil
      ·simp
      ·rcases List.mem_append.1 hr with hr|hr
       ·exact bW.2 (.inl (hd hw0 r hr hrw))
       ·simp at hr;subst hr;exact bW.2 (.inr (.inl ⟨rfl,rfl⟩))
     ·repeat first|with_reducible refine au ?_|simp only[go_sem,simprocAttr]
      refine⟨_,_,_,?_,Wk.mkS [] [] ?_ ?_ ?_,d++[q],pa,T,_,rfl,hwq,hif2,hC1,hC2,hC3 hw0,λr hr hrw=>?_,rfl,rfl⟩
      ·simp only[List.length_append,List.length_singleton];omega
      ·simp only[bg,bf,kC,yF,List.cons_append,List.nil_append,go_sem,simprocAttr]
       repeat' refine ab ?_ ?_
       all_goals first|exact bo|skip
      ·exact .nil
      ·simp
      ·rcases List.mem_append.1 hr with hr|hr
       ·exact hd hw0 r hr hrw
       ·simp at hr;subst hr;exact absurd heq hrw
    ·repeat first|with_reducible refine au ?_|simp only[hcur,hw0,decide_false,go_sem,simprocAttr]
     refine⟨_,_,_,?_,Wk.mkS [] [] ?_ ?_ ?_,d++[q],pa,T,_,rfl,hwq,hif2,hC1,hC2,rfl,rfl⟩
     ·simp only[List.length_append,List.length_singleton];omega
     ·simp only[bg,bf,kC,yF,List.cons_append,List.nil_append,go_sem,simprocAttr]
      repeat' refine ab ?_ ?_
      all_goals first|exact bo|skip
     ·exact .nil
     ·simp
   ·repeat first|with_reducible refine au ?_|simp only[ha2,go_sem,simprocAttr]
    refine⟨_,_,_,?_,Wk.mkS [] [] ?_ ?_ ?_,j+1,pa,T,ob,rfl,by omega,hif,hC1,hC2,λh0 j' hj' r hr hrw=>?_,rfl,rfl⟩
    ·omega
    ·simp only[bg,bf,kC,yF,List.cons_append,List.nil_append,go_sem,simprocAttr]
     repeat' refine ab ?_ ?_
     all_goals first|exact bo|skip
    ·exact .nil
    ·simp
    ·by_cases e:j'=j
     ·subst e;rw[hk] at hr;exact hd h0 r (hall r hr) hrw
     ·exact hC3 h0 j' (by omega) r hr hrw
  ·have hjk:j=(nx i).length:=by omega
   repeat first|with_reducible refine au ?_|simp only[ha,go_sem,simprocAttr]
   refine⟨_,_,_,?_,Wk.mkS [] [] ?_ ?_ ?_,i+1,pa,T,ob,rfl,by omega,hif,hC1,λi' hi' h0 k hk r hr hrw=>?_,rfl,rfl⟩
   ·omega
   ·simp only[bg,bf,kC,yF,List.cons_append,List.nil_append,go_sem,simprocAttr]
    repeat' refine ab ?_ ?_
    all_goals first|exact bo|skip
   ·exact .nil
   ·simp
   ·by_cases e:i'=i
    ·subst e
     rw[hw] at h0 hrw ⊢
     obtain⟨j',hj',rfl⟩:=List.mem_iff_getElem.1 hk
     refine hC3 h0 j' (by omega) r ?_ hrw
     rw[List.getD_eq_getElem?_getD,List.getElem?_eq_getElem hj'];exact hr
    ·exact hC2 i' (by omega) h0 k hk r hr hrw
 ·have hik:i=cs.length:=by omega
  subst hik
  repeat first|with_reducible refine au ?_|simp only[go_sem,simprocAttr]
  refine hQ pa T ob _ _ hif hC1 hC2 (Wk.mkS [] [] ?_ ?_ ?_)
  ·simp only[bg,bf,kC,go_sem,simprocAttr]
   repeat' refine ab ?_ ?_
   all_goals first|exact bo|skip
  ·exact .nil
  ·simp
theorem gp.cut{r0:Nat}{pa:Int->Option Nat}{T:Int->List Int}{ob:Nat->Option OB}(h:gp r0 pa T ob):∃N:Nat->Option OB,gp r0 pa T N/\∀r x,N r=some x->ob r=some x/\xE x=true:=by
 obtain⟨mo,h1,h2,h3⟩:=h.out
 let N:Nat->Option OB:=λr=>if @decide (r=r0\/∃k,pa k=some r) (Classical.propDecidable _)=true then ob r else none
 have hin:∀r,(r=r0\/∃k,pa k=some r)->N r=ob r:=λr hr=>if_pos (@decide_eq_true _ (Classical.propDecidable _) hr)
 refine⟨N,⟨⟨mo,by rw[hin r0 (.inl rfl)];exact h1,h2,h3⟩,λk a hk=>by rw[hin a (.inr ⟨k,hk⟩)];exact h.at_ k a hk,h.non,h.inj,h.ne⟩,λr x hx=>?_⟩
 have hx:(if @decide (r=r0\/∃k,pa k=some r) (Classical.propDecidable _)=true then ob r else none)=some x:=hx
 split at hx
 ·rename_i hd
  refine⟨hx,?_⟩
  rcases @of_decide_eq_true _ (Classical.propDecidable _) hd with e|⟨k,hk⟩
  ·have hy:=h1.symm.trans (e ▸ hx);cases hy;exact h2
  ·have hy:=(h.at_ k r hk).symm.trans hx;cases hy;rfl
 ·cases hx
theorem kf(cs:List In)(nx:Nat->List Nat)(R:Nat)(hg:bR Try.prog 66 [.fs 5 cs.length (cC cs)] [.v (.fs 1 cs.length (gC nx))])(hn:cs.length<=16384)
  (hops:∀x ∈ cs,0<=x.1/\x.1<39) (hnx:∀i,i<cs.length->∀k ∈ nx i,k<=cs.length) (hnl:∀i,(nx i).length<=2) (hR:∀x ∈ cs,∀r ∈ aD x.1 x.2.2.1 x.2.2.2.1,0<=r/\r<(R:Int)) (hw1:∀i k,i<cs.length->k ∈ nx i->k=i->a8 (cs.getD i (0,0,0,0,0)).1 (cs.getD i (0,0,0,0,0)).2.1= -1):
  iz Try.prog 74 [.fs 5 cs.length (cC cs)] (λ_=>True) (λM rs N=>∃(r0:Nat) (pa:Int->Option Nat) (T:Int->List Int),rs=[.v (.cv (.map (some r0)))]/\gp r0 pa T N/\(∀p,(T p).Nodup)/\(∀p q,q ∈ T p↔fJ cs nx p q)):=by
 have hlv:=jA cs nx R hg hn hops hnx hnl hR hw1
 have hadC:∀(ad:Nat->Nat) i,Ap ad i 0= .cv (.map (some (ad i))):=λ_ _=>rfl
 have hn0:(0:Int)<((cs.length+1:Nat):Int):=by omega
 refine jF ba Og ⟨by simp,by decide⟩ λM hM=>?_
 simp only[bM]
 repeat first|with_reducible refine au ?_|simp only[go_sem,simprocAttr]
 refine fY (λr0 hr0=>?_)
 repeat first|with_reducible refine au ?_|simp only[go_sem,simprocAttr]
 refine bS [] (.cons (.rfl (by rfl)) .nil) hlv True.intro (by simp only[AH.mark_next,ag,aA,aB,ao,ai,af,ah,List.length_cons,List.length_nil];decide) ?_
 rintro rs N ⟨S,ad,hS,hob0,rfl⟩ hfree
 have hfr:∀r x,N r=some x->br (eT M) r0 (.mp ⟨true,λ_=>none,0,none⟩) r=none:=hfree
 have hlvo:eR (cs.length+1) ad S (jR (br (eT M) r0 (.mp ⟨true,λ_=>none,0,none⟩)) N):=⟨λi hi=>(eO (hfr _ _ (hob0.at_ i hi))).trans (hob0.at_ i hi),hob0.inj⟩
 have hr0o:jR (br (eT M) r0 (.mp ⟨true,λ_=>none,0,none⟩)) N r0=some (.mp ⟨true,λ_=>none,0,none⟩):=An (aK _ _ _)
 have hob1:=hlvo.at_ 0 (by omega)
 repeat first|with_reducible refine au ?_|simp only[hadC,hn0,hob1,go_sem,simprocAttr]
 refine lM (λt1 ht1=>?_)
 generalize hobA:jR (br (eT M) r0 (.mp ⟨true,λ_=>none,0,none⟩)) N=obA at*
 have ht1:obA t1=none:=by rw[<-hobA];exact ht1
 have hif0:qa cs nx (cs.length+1) ad S r0 (λ_=>none) (λ_=>[]) obA:=⟨⟨⟨_,hr0o,rfl,rfl⟩,λk a hk=>(by cases hk),λ_ _=>rfl,λk k' a hk=>(by cases hk),λk a hk=>(by cases hk)⟩,hlvo,λk a i _ hk=>(by cases hk),λi hi e=>(by
  have:=hfr _ _ (hob0.at_ i hi)
  rw[e,aK] at this
  cases this),λ_=>List.nodup_nil,λp q hq=>(by cases hq),λp q hq=>(by cases hq)⟩
 have hif1:=hif0.iter (.inl ht1) (.it ⟨ad 0,λk=>((bU (S 0)).get k).isSome,λ_=>false,none⟩)
 repeat first|with_reducible refine au ?_|simp only[go_sem,simprocAttr]
 refine GA.wk (Wk.mkS (L:=(26,C5 t1)::kC cs nx (cs.length+1) ad r0) (bl:=[]) [] [0] ?_ ?_ ?_) ?_
 ·simp only[bg,bf,kC,go_sem,simprocAttr]
  repeat' refine ab ?_ ?_
  all_goals first|exact bo|skip
  ·exact .cv (.p (o:=0) (j:=0) (List.mem_cons_self ..) (by simp only[go_sem,simprocAttr];rfl) (by show 0+1<=1;decide) (by show 0<1;decide) (λq hq=>by obtain rfl:q=0:=(by omega);rfl) (λq hq=>rfl))
  ·exact .cv (.fn .nil (.cons (.p (o:=0) (j:=0) (List.mem_cons_self ..) (by simp only[go_sem,simprocAttr];rfl) (by show 0+1<=1;decide) (by show 0<1;decide) (λq hq=>by obtain rfl:q=0:=(by omega);rfl) (λq hq=>rfl)) .nil))
 ·exact .nil
 ·simp
 simp only[go_sem,simprocAttr,hobA]
 refine Ip cs nx (cs.length+1) ad S r0 (by omega) (by omega) (λr hr=>((hS 0 (by omega)).2 r).1 hr) _ _ _ t1 hif1 (.start (aK _ _ _)) _ (λpa T ob e' H' hif hC1 hwk=>?_)
 simp only[go_sem,simprocAttr]
 refine GA.wk hwk ?_
 repeat first|with_reducible refine au ?_|simp only[go_sem,simprocAttr]
 refine GA.wk (Wk.mkS (L:=(46,.fs 5 cs.length (cC cs))::(47,.n .i64 cs.length)::(48,.n .i64 0)::kC cs nx (cs.length+1) ad r0) (bl:=[]) [] [] ?_ ?_ ?_) ?_
 ·simp only[bg,bf,kC,go_sem,simprocAttr]
  repeat' refine ab ?_ ?_
  all_goals first|exact bo|skip
 ·exact .nil
 ·simp
 refine Im cs nx ad S r0 hn hops hnx hnl (λi hi r hr=>((hS i hi).2 r).1 hr) pa T ob hif hC1 _ (λpa T ob e' H' hif hC1 hC2 hwk=>?_)
 simp only[go_sem,simprocAttr]
 refine GA.wk hwk ?_
 repeat first|with_reducible refine au ?_|simp only[go_sem,simprocAttr]
 obtain⟨N2,hN1,hN2⟩:=hif.io.cut
 refine⟨[_],N2,[_],⟨r0,pa,T,rfl,hN1,hif.nd,λp q=>⟨hif.ok p q,λhpq=>?_⟩⟩,rfl,⟨⟨rfl,rfl⟩,True.intro⟩,hN2⟩
 have hlive:∀i,i<=cs.length->∀r,bm cs nx i r->r ∈ S i:=λi hi r hr=>((hS i hi).2 r).2 hr
 rcases hpq with⟨h1,h2,h3⟩|⟨i,k,hi,hk,h0,⟨rfl,h2,h3⟩|⟨rfl,h2,h3⟩⟩
 ·exact hC1 p (hlive 0 (by omega) p h2) q (hlive 0 (by omega) q h3) h1
 ·exact hC2 i hi h0 k hk q (hlive k (hnx i hi k hk) q h3) h2
 ·exact hif.sy _ _ (hC2 i hi h0 k hk p (hlive k (hnx i hi k hk) p h3) h2)
def jW(K:Nat->Nat)(l:List Nat):Nat->Int->Option Int
 |0=>λ_=>none
 |k+1=>λq=>if q=((l.getD k 0:Nat):Int) then some ((K (l.getD k 0):Nat):Int) else jW K l k q
theorem jt{K:Nat->Nat}{l:List Nat}(h:l.Pairwise (· < ·)):∀{k:Nat},k<=l.length->∀(q v:Int),jW K l k q=some v↔∃i,i<k/\q=((l.getD i 0:Nat):Int)/\v=((K (l.getD i 0):Nat):Int)
 |0,_,q,v=>⟨λh=>(by cases h),λ⟨i,h,_⟩=>by omega⟩
 |k+1,hk,q,v=>by
  unfold jW
  by_cases e:q=((l.getD k 0:Nat):Int)
  ·rw[if_pos e]
   constructor
   ·intro h;cases h;exact⟨k,by omega,e,rfl⟩
   ·rintro ⟨i,hi,hq,rfl⟩
    have:l.getD i 0=l.getD k 0:=by omega
    rw[this]
  ·rw[if_neg e,jt h (by omega) q v]
   constructor
   ·rintro ⟨i,hi,h1,h2⟩;exact⟨i,by omega,h1,h2⟩
   ·rintro ⟨i,hi,h1,h2⟩
    have:i≠k:=λe'=>e (by rw[h1,e'])
    exact⟨i,by omega,h1,h2⟩
theorem pj{l:List Nat}(h:l.Pairwise (· < ·)){i j:Nat}(hij:i<j)(hj:j<l.length):l.getD i 0<l.getD j 0:=by
 rw[List.pairwise_iff_getElem] at h
 have:=h i j (by omega) hj hij
 rw[List.getD_eq_getElem?_getD,List.getD_eq_getElem?_getD,List.getElem?_eq_getElem hj,List.getElem?_eq_getElem (show i<l.length by omega)]
 exact this
theorem j9{K K':Nat->Nat}{l:List Nat}:∀{k:Nat},(∀i,i<k->K (l.getD i 0)=K' (l.getD i 0))->jW K l k=jW K' l k
 |0,_=>rfl
 |k+1,h=>by
  unfold jW
  rw[j9 (λi hi=>h i (by omega)),h k (by omega)]
theorem vH(l:List Int)(c:Int):(bU l).look false (.b false) c= .b (decide (c ∈ l)):=by
 unfold dv.look
 rw[dC]
 by_cases h:c ∈ l<;>simp[h,lN]
structure rY(r0:Nat)(pa:Int->Option Nat)(T:Int->List Int)(r1:Nat)(x:dv)(ob:Nat->Option OB):Prop where
 io:gp r0 pa T ob
 out:ob r1=some (.mp x)
 d0:r1≠r0
 d1:∀k,pa k≠some r1
section
variable {r0:Nat} {pa:Int->Option Nat} {T:Int->List Int} {r1:Nat} {x:dv} {ob:Nat->Option OB}
theorem rY.other(h:rY r0 pa T r1 x ob){t:Nat}(h0:t≠r0)(h1:t≠r1)(h2:∀k,pa k≠some t)(y:OB):rY r0 pa T r1 x (br ob t y):=by
 obtain⟨mo,q1,q2,q3⟩:=h.io.out
 exact⟨⟨⟨mo,by rw[aW _ _ (Ne.symm h0)];exact q1,q2,q3⟩,λk a hk=>by rw[aW _ _ (λe=>h2 k (by rw[hk,e]))];exact h.io.at_ k a hk,h.io.non,h.io.inj,h.io.ne⟩,by rw[aW _ _ (Ne.symm h1)];exact h.out,h.d0,h.d1⟩
theorem rY.clr(h:rY r0 pa T r1 x ob):rY r0 pa T r1 x (gn ob):=by
 obtain⟨mo,q1,q2,q3⟩:=h.io.out
 exact⟨⟨⟨mo,d8 q1,q2,q3⟩,λk a hk=>d8 (h.io.at_ k a hk),h.io.non,h.io.inj,h.io.ne⟩,d8 h.out,h.d0,h.d1⟩
theorem rY.fresh(h:rY r0 pa T r1 x ob){t:Nat}(ht:ob t=none):t≠r0/\t≠r1/\∀k,pa k≠some t:=by
 obtain⟨mo,q1,_⟩:=h.io.out
 exact⟨λe=>(by rw[e,q1] at ht;cases ht),λe=>(by rw[e,h.out] at ht;cases ht),λk hk=>(by rw[h.io.at_ k t hk] at ht;cases ht)⟩
theorem rY.set(h:rY r0 pa T r1 x ob)(x':dv):rY r0 pa T r1 x' (br ob r1 (.mp x')):=by
 obtain⟨mo,q1,q2,q3⟩:=h.io.out
 exact⟨⟨⟨mo,by rw[aW _ _ (Ne.symm h.d0)];exact q1,q2,q3⟩,λk a hk=>by rw[aW _ _ (λe=>h.d1 k (by rw[hk,e]))];exact h.io.at_ k a hk,h.io.non,h.io.inj,h.io.ne⟩,aK _ _ _,h.d0,h.d1⟩
end
abbrev pJ(l:List Nat)(r0 r1:Nat)(n k:Nat):List (Nat×AV):=[(4,.cv (.map (some r0))),(5,.cv (.map (some r1))),(6,.n .i64 n),(18,.fs 1 l.length (λj _=> .n .i64 ((l.getD j 0:Nat):Int))),(19,.n .i64 l.length),(20,.n .i64 k)]
theorem gS{K K':Nat->Nat}{l:List Nat}:∀{k:Nat},(∀i,i<k->K (l.getD i 0)=K' (l.getD i 0))->cM K l k=cM K' l k
 |0,_=>rfl
 |k+1,h=>by
  unfold cM
  rw[gS (λi hi=>h i (by omega)),h k (by omega)]
def Ay(T:Int->List Int)(l:List Nat)(K:Nat->Nat)(k:Nat):Prop:=∀i,i<k->ek (λc=>∃j,j<i/\((l.getD j 0:Nat):Int) ∈ T ((l.getD i 0:Nat):Int)/\K (l.getD j 0)=c) (K (l.getD i 0))
theorem x7{T:Int->List Int}{l:List Nat}(hl:l.Pairwise (· < ·)){K:Nat->Nat}{k c:Nat}(hk:k<l.length)(h:Ay T l K k){tk:List Int}(htk:∀v:Int,v ∈ tk↔∃o ∈ T ((l.getD k 0:Nat):Int),jW K l k o=some v)(hc:¬(c:Int) ∈ tk)(hlt:∀c':Nat,c'<c->(c':Int) ∈ tk):
  Ay T l (aZ K (l.getD k 0) c) (k+1)/\jW (aZ K (l.getD k 0) c) l k=jW K l k/\cM (aZ K (l.getD k 0) c) l k=cM K l k:=by
 have hne:∀i,i<k->l.getD i 0≠l.getD k 0:=λi hi e=>by have:=pj hl hi hk;omega
 have hK:∀i,i<k->aZ K (l.getD k 0) c (l.getD i 0)=K (l.getD i 0):=λi hi=>ae _ _ (hne i hi)
 refine⟨λi hi=>?_,j9 hK,gS hK⟩
 have hP:∀v:Nat,((∃j,j<i/\((l.getD j 0:Nat):Int) ∈ T ((l.getD i 0:Nat):Int)/\K (l.getD j 0)=v)↔∃j,j<i/\((l.getD j 0:Nat):Int) ∈ T ((l.getD i 0:Nat):Int)/\aZ K (l.getD k 0) c (l.getD j 0)=v):=λv=>by
  constructor
  ·rintro ⟨j,h1,h2,h3⟩;exact⟨j,h1,h2,by rw[hK j (by omega)];exact h3⟩
  ·rintro ⟨j,h1,h2,h3⟩;exact⟨j,h1,h2,by rw[<-hK j (by omega)];exact h3⟩
 by_cases e:i=k
 ·subst e
  rw[aY]
  have key:∀v:Nat,(v:Int) ∈ tk↔∃j,j<i/\((l.getD j 0:Nat):Int) ∈ T ((l.getD i 0:Nat):Int)/\K (l.getD j 0)=v:=λv=>by
   rw[htk]
   constructor
   ·rintro ⟨o,ho,hv⟩
    obtain⟨j,h1,rfl,h3⟩:=(jt hl (by omega) _ _).1 hv
    exact⟨j,h1,ho,by omega⟩
   ·rintro ⟨j,h1,h2,h3⟩
    exact⟨_,h2,(jt hl (by omega) _ _).2 ⟨j,h1,rfl,by rw[h3]⟩⟩
  exact⟨λhx=>hc ((key c).2 ((hP c).2 hx)),λc' hc'=>(hP c').1 ((key c').1 (hlt c' hc'))⟩
 ·rw[hK i (by omega)]
  exact(h i (by omega)).congr hP
theorem uv(T T':Int->List Int)(l:List Nat)(hl:l.Pairwise (· < ·))(hll:l.length<=100000)(r0 r1 r2:Nat)(pa:Int->Option Nat)(K:Nat->Nat)(k:Nat)(hkl:k<l.length)(x:dv)(ob:Nat->Option OB)(hcs:rY r0 pa T' r1 x ob)(hown:x.own=true)(hget:x.get=fA (jW K l k))(hmex:Ay T l K k)
  (tk:List Int) (htl:tk.length<=100000) (hob2:ob r2=some (.mp (bU tk))) (htk:∀v:Int,v ∈ tk↔∃o ∈ T ((l.getD k 0:Nat):Int),jW K l k o=some v)
  (Q:AE->Tr AV->AH->Prop) (hQ:∀(K':Nat->Nat) (x':dv) (ob':Nat->Option OB) e' H',rY r0 pa T' r1 x' ob'->x'.own=true->x'.get=fA (jW K' l (k+1))->Ay T l K' (k+1)->Wk 57 e' H' (aF (pJ l r0 r1 (cM K' l (k+1)) k)) (bc ob' [])->Q .normal e' H'):
  GA Try.prog 57 (aE Try.prog 42) w5 (aF ((13,.n .i64 0)::(9,.cv (.map (some r2)))::(8,.n .i64 ((l.getD k 0:Nat):Int))::pJ l r0 r1 (cM K l k) k)) (bc ob []) (gW 4 (gx (λe' H'=>GA Try.prog 57 (aE Try.prog 42) ((AC.reg wZ).seq (AC.reg wY)) e' H' Q) Q)):=by
 have hadd:∀j:Nat,j<200000->IntKind.wrap .i64 ((j:Int)+1)=((j+1:Nat):Int):=λj hj=>by rw[aU (by omega)];omega
 refine GA.loop (I:=λmm e H=>∃(c:Nat),mm=tk.length+1-c/\c<=tk.length/\(∀c':Nat,c'<c->(c':Int) ∈ tk)/\e=aF ((13,.n .i64 c)::(9,.cv (.map (some r2)))::(8,.n .i64 ((l.getD k 0:Nat):Int))::pJ l r0 r1 (cM K l k) k)/\H=bc ob []) Wk.refl ⟨0,rfl,Nat.zero_le _,λc' hc'=>by omega,rfl,rfl⟩ ?_
 rintro mm e H ⟨c,rfl,hcl,hlt,rfl,rfl⟩
 have hlk:=vH tk (c:Int)
 have ha:=hadd c (by omega)
 repeat first|with_reducible refine au ?_|simp only[hob2,hlk,go_sem,simprocAttr]
 refine⟨λhin=>?_,λhout=>?_⟩
 ·have hsub:=fP (l:=(List.range (c+1)).map (λn:Nat=>(n:Int))) (l':=tk) (List.pairwise_map.2 (List.nodup_range.imp λh e=>h (by omega))) (λv hv=>by
   obtain⟨n,hn,rfl⟩:=List.mem_map.1 hv
   rw[List.mem_range] at hn
   by_cases e:n=c
   ·rw[e];exact hin
   ·exact hlt n (by omega))
  rw[List.length_map,List.length_range] at hsub
  repeat first|with_reducible refine au ?_|simp only[ha,go_sem,simprocAttr]
  refine⟨_,_,_,?_,Wk.mkS [] [] ?_ ?_ ?_,c+1,rfl,hsub,λc' hc'=>?_,rfl,rfl⟩
  ·omega
  ·simp only[bg,bf,pJ,go_sem,simprocAttr]
   repeat' refine ab ?_ ?_
   all_goals first|exact bo|skip
   all_goals exact Wv.same rfl
  ·exact .nil
  ·simp
  ·by_cases e:c'=c
   ·rw[e];exact hin
   ·exact hlt c' (by omega)
 ·obtain⟨hm1,hm2,hm3⟩:=x7 hl hkl hmex htk hout hlt
  have hob1:=hcs.out
  have hmx:(if(cM K l k:Int)<((c+1:Nat):Int) then((c+1:Nat):Int) else(cM K l k:Int))=((cM (aZ K (l.getD k 0) c) l (k+1):Nat):Int):=by
   show _=((max (cM (aZ K (l.getD k 0) c) l k) (aZ K (l.getD k 0) c (l.getD k 0)+1):Nat):Int)
   rw[hm3,aY]
   split<;>omega
  repeat first|with_reducible refine au ?_|simp only[hob1,hown,ha,hmx,go_sem,simprocAttr]
  refine hQ (aZ K (l.getD k 0) c) _ _ _ _ (hcs.clr.set (x.put ((l.getD k 0:Nat):Int) (.n .i64 (c:Int)))) hown ?_ hm1 (Wk.mkS [] [] ?_ ?_ ?_)
  ·funext q
   show(if q=_ then _ else x.get q)=((jW (aZ K (l.getD k 0) c) l (k+1) q).map (.n .i64 ·))
   unfold jW
   rw[aY,hm2]
   by_cases e:q=((l.getD k 0:Nat):Int)
   ·rw[if_pos e,if_pos e];rfl
   ·rw[if_neg e,if_neg e,hget]
  ·simp only[bg,bf,pJ,go_sem,simprocAttr]
   repeat' refine ab ?_ ?_
   all_goals first|exact bo|skip
   all_goals exact Wv.same rfl
  ·exact .nil
  ·simp
theorem s9(cs:List In)(T:Int->List Int)(l:List Nat)(hl:l.Pairwise (· < ·))(hll:l.length<=100000)(hTn:∀p,(T p).Nodup)(hTl:∀p,(T p).length<=100000)
  (hin:iz Try.prog 74 [.fs 5 cs.length (cC cs)] (λ_=>True) (λM rs N=>∃(r0:Nat) (pa:Int->Option Nat) (T':Int->List Int),rs=[.v (.cv (.map (some r0)))]/\gp r0 pa T' N/\(∀p,(T' p).Nodup)/\(∀p q,q ∈ T' p↔q ∈ T p)))
  (ho:bR Try.prog 52 [.fs 5 cs.length (cC cs)] [.v (.fs 1 l.length (λj _=> .n .i64 ((l.getD j 0:Nat):Int)))]):
  iz Try.prog 42 [.fs 5 cs.length (cC cs)] (λ_=>True) (λM rs N=>∃(r1:Nat) (x:dv) (K:Nat->Nat),rs=[.v (.cv (.map (some r1))),.v (.n .i64 (cM K l l.length))]/\N r1=some (.mp x)/\x.get=fA (jW K l l.length)/\
   ∀i,i<l.length->ek (λc=>∃j,j<i/\((l.getD j 0:Nat):Int) ∈ T ((l.getD i 0:Nat):Int)/\K (l.getD j 0)=c) (K (l.getD i 0))):=by
 have hadd:∀j:Nat,j<200000->IntKind.wrap .i64 ((j:Int)+1)=((j+1:Nat):Int):=λj hj=>by rw[aU (by omega)];omega
 refine jF ba Ma ⟨by simp,by decide⟩ λM hM=>?_
 simp only[bM]
 repeat first|with_reducible refine au ?_|simp only[go_sem,simprocAttr]
 refine bS [] (.cons (.rfl (by rfl)) .nil) hin True.intro (by simp only[AH.mark_next,ag,aA,aB,ao,ai,af,ah,List.length_cons,List.length_nil];decide) ?_
 rintro rs N ⟨r0,pa,T',rfl,hio,hTn',hTT⟩ hfree
 have hfr:∀r x,N r=some x->eT M r=none:=hfree
 have hio2:gp r0 pa T' (jR (eT M) N):=by
  obtain⟨mo,h1,h2,h3⟩:=hio.out
  exact⟨⟨mo,(eO (hfr _ _ h1)).trans h1,h2,h3⟩,λk a hk=>(eO (hfr _ _ (hio.at_ k a hk))).trans (hio.at_ k a hk),hio.non,hio.inj,hio.ne⟩
 repeat first|with_reducible refine au ?_|simp only[go_sem,simprocAttr]
 refine fY (λr1 hr1=>?_)
 repeat first|with_reducible refine au ?_|simp only[go_sem,simprocAttr]
 refine aq [] (.cons (.rfl (by rfl)) .nil) ho (by simp only[AH.mark_next,ag,aA,aB,ao,ai,aw,af,ah,List.length_cons,List.length_nil];decide) ?_
 repeat first|with_reducible refine au ?_|simp only[go_sem,simprocAttr]
 have hpre1:jR (eT M) N r1=none:=hr1
 have hcs0:rY r0 pa T' r1 ⟨true,λ_=>none,0,none⟩ (br (jR (eT M) N) r1 (.mp ⟨true,λ_=>none,0,none⟩)):=by
  obtain⟨mo,q1,q2,q3⟩:=hio2.out
  have f0:r1≠r0:=λe=>by rw[e,q1] at hpre1;cases hpre1
  have f1:∀k,pa k≠some r1:=λk hk=>by rw[hio2.at_ k r1 hk] at hpre1;cases hpre1
  exact⟨⟨⟨mo,by rw[aW _ _ (Ne.symm f0)];exact q1,q2,q3⟩,λk a hk=>by rw[aW _ _ (λe=>f1 k (by rw[hk,e]))];exact hio2.at_ k a hk,hio2.non,hio2.inj,hio2.ne⟩,aK _ _ _,f0,f1⟩
 refine GA.loop (I:=λmm e H=>∃(k:Nat) (K:Nat->Nat) (x:dv) (ob:Nat->Option OB),mm=l.length-k/\k<=l.length/\rY r0 pa T' r1 x ob/\x.own=true/\x.get=fA (jW K l k)/\(∀i,i<k->ek (λc=>∃j,j<i/\((l.getD j 0:Nat):Int) ∈ T ((l.getD i 0:Nat):Int)/\K (l.getD j 0)=c) (K (l.getD i 0)))/\e=aF (pJ l r0 r1 (cM K l k) k)/\H=bc ob []) (Wk.mkS [] [] ?_ ?_ ?_) ⟨0,λ_=>0,_,_,rfl,Nat.zero_le _,hcs0,rfl,rfl,λi hi=>by omega,rfl,rfl⟩ ?_
 ·simp only[bg,bf,pJ,go_sem,simprocAttr]
  repeat' refine ab ?_ ?_
  all_goals first|exact bo|skip
  all_goals exact Wv.same rfl
 ·exact .nil
 ·simp
 clear hcs0 hio2 hio hfree hfr hpre1 hr1
 rintro mm e H ⟨k,K,x,ob,rfl,hk,hcs,hown,hget,hmex,rfl,rfl⟩
 repeat first|with_reducible refine au ?_|simp only[go_sem,simprocAttr]
 refine⟨λh=>?_,λh=>?_⟩
 ·have hkl:k<l.length:=by omega
  have hk0:(0:Int)<=(k:Int):=by omega
  have ha:=hadd k (by omega)
  repeat first|with_reducible refine au ?_|simp only[hk0,h,decide_true,go_sem,simprocAttr]
  refine fY (λr2 hr2=>?_)
  have hr2:ob r2=none:=hr2
  obtain⟨g0,g1,g2⟩:=hcs.fresh hr2
  have hcs2:=hcs.other g0 g1 g2 (.mp ⟨true,λ_=>none,0,none⟩)
  obtain⟨mo,hmo,hmown,hmget⟩:=hcs2.io.out
  have hlk:=jz hmget ((l.getD k 0:Nat):Int)
  have hob2:br ob r2 (.mp ⟨true,λ_=>none,0,none⟩) r2=some (.mp (bU [])):=by rw[aK,fq]
  cases hp:pa ((l.getD k 0:Nat):Int) with
  |none=>
   rw[hp] at hlk
   have hT0:∀o,o ∉ T ((l.getD k 0:Nat):Int):=λo ho=>by
    have h1:=(hTT _ _).2 ho
    rw[hcs.io.non _ hp] at h1;cases h1
   repeat first|with_reducible refine au ?_|simp only[hmo,hlk,go_sem,simprocAttr]
   intro t ht
   have ht:br ob r2 (.mp ⟨true,λ_=>none,0,none⟩) t=none:=ht
   obtain⟨f0,f1,f2⟩:=hcs2.fresh ht
   have hcs3:=hcs2.other f0 f1 f2 (.fix (.mapIter none 0 #[] 0))
   have hob3:br (br ob r2 (.mp ⟨true,λ_=>none,0,none⟩)) t (.fix (.mapIter none 0 #[] 0)) r2=some (.mp (bU [])):=by
    rw[aW _ _ (iH hob2 ht)];exact hob2
   have hot:br (br ob r2 (.mp ⟨true,λ_=>none,0,none⟩)) t (.fix (.mapIter none 0 #[] 0)) t=some (.fix (.mapIter none 0 #[] 0)):=aK _ _ _
   repeat first|with_reducible refine au ?_|simp only[go_sem,simprocAttr]
   refine GA.loop (I:=λmm e H=>mm=0/\e=aF ((28,C5 t)::(9,.cv (.map (some r2)))::(8,.n .i64 ((l.getD k 0:Nat):Int))::pJ l r0 r1 (cM K l k) k)/\H=bc (br (br ob r2 (.mp ⟨true,λ_=>none,0,none⟩)) t (.fix (.mapIter none 0 #[] 0))) []) (Wk.mkS [] [] ?_ ?_ ?_) ⟨rfl,rfl,rfl⟩ ?_
   ·simp only[bg,bf,pJ,go_sem,simprocAttr]
    repeat' refine ab ?_ ?_
    all_goals first|exact bo|skip
    all_goals exact Wv.same rfl
   ·exact .nil
   ·simp
   rintro mm e H ⟨rfl,rfl,rfl⟩
   repeat first|with_reducible refine au ?_|simp only[hot,go_sem,simprocAttr]
   refine GA.wk (Wk.mkS (L:=(13,.n .i64 0)::(9,.cv (.map (some r2)))::(8,.n .i64 ((l.getD k 0:Nat):Int))::pJ l r0 r1 (cM K l k) k) (bl:=[]) [] [] ?_ ?_ ?_) ?_
   ·simp only[bg,bf,pJ,go_sem,simprocAttr]
    repeat' refine ab ?_ ?_
    all_goals first|exact bo|skip
    all_goals exact Wv.same rfl
   ·exact .nil
   ·simp
   refine uv T T' l hl hll r0 r1 r2 pa K k hkl x _ hcs3 hown hget hmex [] (by simp) hob3 (λv=>⟨λh=>(by cases h),λ⟨o,ho,_⟩=>absurd ho (hT0 o)⟩) _ (λK' x' ob' e' H' c1 c2 c3 c4 hwk=>?_)
   simp only[go_sem,simprocAttr]
   refine GA.wk hwk ?_
   repeat first|with_reducible refine au ?_|simp only[ha,go_sem,simprocAttr]
   refine⟨_,_,_,?_,Wk.mkS [] [] ?_ ?_ ?_,k+1,K',x',ob',rfl,by omega,c1,c2,c3,c4,rfl,rfl⟩
   ·omega
   ·simp only[bg,bf,pJ,go_sem,simprocAttr]
    repeat' refine ab ?_ ?_
    all_goals first|exact bo|skip
    all_goals exact Wv.same rfl
   ·exact .nil
   ·simp
  |some a=>
   rw[hp] at hlk
   have hat:=hcs2.io.at_ _ a hp
   repeat first|with_reducible refine au ?_|simp only[hmo,hlk,hat,go_sem,simprocAttr]
   refine lM (λt ht=>?_)
   have ht:br ob r2 (.mp ⟨true,λ_=>none,0,none⟩) t=none:=ht
   obtain⟨f0,f1,f2⟩:=hcs2.fresh ht
   have hcs3:=hcs2.other f0 f1 f2 (.it ⟨a,λq=>((bU (T' ((l.getD k 0:Nat):Int))).get q).isSome,λ_=>false,none⟩)
   have hob3:br (br ob r2 (.mp ⟨true,λ_=>none,0,none⟩)) t (.it ⟨a,λq=>((bU (T' ((l.getD k 0:Nat):Int))).get q).isSome,λ_=>false,none⟩) r2=some (.mp (bU [])):=by
    rw[aW _ _ (iH hob2 ht)];exact hob2
   have hw3:gf (T' ((l.getD k 0:Nat):Int)) [] a (br (br ob r2 (.mp ⟨true,λ_=>none,0,none⟩)) t (.it ⟨a,λq=>((bU (T' ((l.getD k 0:Nat):Int))).get q).isSome,λ_=>false,none⟩)) t:= .start (aK _ _ _)
   have htr2:t≠r2:=λe=>by rw[e,hob2] at ht;cases ht
   have hTl2:(T' ((l.getD k 0:Nat):Int)).length<=100000:=Nat.le_trans (fP (hTn' _) (λv hv=>(hTT _ v).1 hv)) (hTl _)
   repeat first|with_reducible refine au ?_|simp only[go_sem,simprocAttr]
   refine GA.loop (I:=λmm e H=>∃(d tk:List Int) (ob:Nat->Option OB),mm=(T' ((l.getD k 0:Nat):Int)).length-d.length/\gf (T' ((l.getD k 0:Nat):Int)) d a ob t/\rY r0 pa T' r1 x ob/\ob r2=some (.mp (bU tk))/\tk.length<=d.length/\(∀v:Int,v ∈ tk↔∃o ∈ d,jW K l k o=some v)/\e=aF ((28,C5 t)::(9,.cv (.map (some r2)))::(8,.n .i64 ((l.getD k 0:Nat):Int))::pJ l r0 r1 (cM K l k) k)/\H=bc ob []) (Wk.mkS [] [] ?_ ?_ ?_) ⟨[],[],_,rfl,hw3,hcs3,hob3,Nat.le_refl _,λv=>⟨λh=>(by cases h),λ⟨o,ho,_⟩=>(by cases ho)⟩,rfl,rfl⟩ ?_
   ·simp only[bg,bf,pJ,go_sem,simprocAttr]
    repeat' refine ab ?_ ?_
    all_goals first|exact bo|skip
    all_goals exact Wv.same rfl
   ·exact .nil
   ·simp
   clear hcs3 hob3 hw3 ht hcs2 hob2 hmo hlk hat hcs hr2
   rintro mm e H ⟨d,tk,ob,rfl,hw,hcs,hob2,htl,htk,rfl,rfl⟩
   have hat:=hcs.io.at_ _ a hp
   have hout:=hcs.out
   obtain⟨seen,cur,hsn,hot⟩:=hw.it
   repeat first|with_reducible refine au ?_|simp only[hot,hat,go_sem,simprocAttr]
   refine k9 hw.nd hw.sub hsn (λo ho hod y hcur hwo=>?_) (λhall=>?_)
   ·have hwo:=hwo ob
    have hlen2:=hwo.len
    rw[List.length_append,List.length_singleton] at hlen2
    have hcs4:=hcs.other f0 f1 f2 (.it y)
    have hout4:=hcs4.out
    have hob4:br ob t (.it y) r2=some (.mp (bU tk)):=by rw[aW _ _ (Ne.symm htr2)];exact hob2
    have hlk:=sH hget true o
    cases hnm:jW K l k o with
    |none=>
     rw[hnm] at hlk
     simp only[Option.isSome_none,Option.getD_none] at hlk
     repeat first|with_reducible refine au ?_|simp only[hcur,hout4,hlk,go_sem,simprocAttr]
     refine⟨_,_,_,?_,Wk.mkS [] [] ?_ ?_ ?_,d++[o],tk,_,rfl,hwo,hcs4,hob4,by rw[List.length_append];omega,λv=>(htk v).trans ⟨λ⟨o',h1,h2⟩=>⟨o',List.mem_append.2 (.inl h1),h2⟩,λ⟨o',h1,h2⟩=>?_⟩,rfl,rfl⟩
     ·rw[List.length_append,List.length_singleton];omega
     ·simp only[bg,bf,pJ,go_sem,simprocAttr]
      repeat' refine ab ?_ ?_
      all_goals first|exact bo|skip
      all_goals exact Wv.same rfl
     ·exact .nil
     ·simp
     ·rcases List.mem_append.1 h1 with h1|h1
      ·exact⟨o',h1,h2⟩
      ·simp at h1;subst h1;rw[hnm] at h2;cases h2
    |some v=>
     rw[hnm] at hlk
     repeat first|with_reducible refine au ?_|simp only[hcur,hout4,hlk,hob4,go_sem,simprocAttr]
     have hcs5:=hcs4.clr.other g0 g1 g2 (.mp ((bU tk).put v (.b true)))
     refine⟨rfl,_,_,_,?_,Wk.mkS [] [] ?_ ?_ ?_,d++[o],gX tk v,_,rfl,hwo.keep (λz hz=>⟨none,by rw[aW _ _ htr2];exact uA hz⟩),hcs5,by rw[aK,je],?_,λv'=>?_,rfl,rfl⟩
     ·rw[List.length_append,List.length_singleton];omega
     ·simp only[bg,bf,pJ,go_sem,simprocAttr]
      repeat' refine ab ?_ ?_
      all_goals first|exact bo|skip
      all_goals exact Wv.same rfl
     ·exact .nil
     ·simp
     ·rw[List.length_append,List.length_singleton]
      unfold gX
      split
      ·omega
      ·rw[List.length_append,List.length_singleton];omega
     ·rw[dn,htk]
      constructor
      ·rintro (⟨o',h1,h2⟩|rfl)
       ·exact⟨o',List.mem_append.2 (.inl h1),h2⟩
       ·exact⟨o,List.mem_append.2 (.inr (by simp)),hnm⟩
      ·rintro ⟨o',h1,h2⟩
       rcases List.mem_append.1 h1 with h1|h1
       ·exact .inl ⟨o',h1,h2⟩
       ·simp at h1;subst h1;rw[hnm] at h2;exact .inr (Option.some.inj h2).symm
   ·repeat first|with_reducible refine au ?_|simp only[go_sem,simprocAttr]
    refine GA.wk (Wk.mkS (L:=(13,.n .i64 0)::(9,.cv (.map (some r2)))::(8,.n .i64 ((l.getD k 0:Nat):Int))::pJ l r0 r1 (cM K l k) k) (bl:=[]) [] [] ?_ ?_ ?_) ?_
    ·simp only[bg,bf,pJ,go_sem,simprocAttr]
     repeat' refine ab ?_ ?_
     all_goals first|exact bo|skip
     all_goals exact Wv.same rfl
    ·exact .nil
    ·simp
    refine uv T T' l hl hll r0 r1 r2 pa K k hkl x ob hcs hown hget hmex tk (by have:=hw.len;omega) hob2 (λv=>(htk v).trans ⟨λ⟨o,h1,h2⟩=>⟨o,(hTT _ o).1 (hw.sub o h1),h2⟩,λ⟨o,h1,h2⟩=>⟨o,hall o ((hTT _ o).2 h1),h2⟩⟩) _ (λK' x' ob' e' H' c1 c2 c3 c4 hwk=>?_)
    simp only[go_sem,simprocAttr]
    refine GA.wk hwk ?_
    repeat first|with_reducible refine au ?_|simp only[ha,go_sem,simprocAttr]
    refine⟨_,_,_,?_,Wk.mkS [] [] ?_ ?_ ?_,k+1,K',x',ob',rfl,by omega,c1,c2,c3,c4,rfl,rfl⟩
    ·omega
    ·simp only[bg,bf,pJ,go_sem,simprocAttr]
     repeat' refine ab ?_ ?_
     all_goals first|exact bo|skip
     all_goals exact Wv.same rfl
    ·exact .nil
    ·simp
 ·have hkk:k=l.length:=by omega
  subst hkk
  repeat first|with_reducible refine au ?_|simp only[go_sem,simprocAttr]
  refine⟨_,λr=>if r=r1 then some (.mp x) else none,[_,_],⟨r1,x,K,rfl,if_pos rfl,hget,hmex⟩,rfl,⟨⟨rfl,rfl⟩,⟨rfl,rfl⟩,True.intro⟩,λr y hy=>?_⟩
  have hy:(if r=r1 then some (OB.mp x) else none)=some y:=hy
  split at hy
  ·rename_i e
   cases hy
   subst e
   exact⟨hcs.out,hown⟩
  ·cases hy
end Go.Proofs.Yteopfmnnhlhbmaa
namespace Go.Proofs.Yteopfmnnhlhbmaa
open Go.RowKit
theorem yG{P:Program}{f:FuncId}{args:List AV}{x:AV}(hx:x.pu 3=true)(h:rR P f args λv H=>∃M,Cv M H v x):bR P f args [.v x]:=by
 refine⟨h.1,λφ w args' hφ ha=>(h.2 φ w args' hφ ha).mono λe w' hq=>?_⟩
 cases e with
 |panicked c=>exact hq.elim
 |outgrown=>exact hq.elim
 |returned u=>
  obtain⟨v,Hc,σ',⟨M,hcv⟩,hv,hH,hb,hz⟩:=hq
  obtain⟨σ2,q1,q2,q3,q4,q5,q6,q7⟩:=hH.marks M
  have hu:=hcv.ok hH q1 q2 q7 hv
  exact⟨x,cg Hc M,σ2,⟨[x],rfl,⟨rfl,hx⟩,True.intro⟩,hu.mono σ2.bare_le,q6,hb,λc hc=>(q4.eq c hc).trans (hz c hc)⟩
def bG(cs:List In)(pt:Nat->Nat)(i:Nat):List Nat:=
 if bT cs i=27\/bT cs i=29\/bT cs i=30 then[i+1,pt i+1]
 else if bT cs i=28 then[pt i+1]
 else if bT cs i=31 then(if bT cs (pt i)=29 then[pt i+1,i+1] else[i+1])
 else[i+1]
theorem r8{M:List Nat}{H:AH}{b a:Nat}{x:AB}(hx:H.at b=some x)(hm:M.contains b=true)(hs:1=x.size)(hg:x.get 0= .n .i64 (a:Int)){nx:Nat->List Nat}{i:Nat}(hnx:nx i=[a]):Cv M H (.sl b 0 1 1) (gC nx i 0):=pg hx hm hs hnx hg
theorem xl{M:List Nat}{H:AH}{b a a2:Nat}{x:AB}(hx:H.at b=some x)(hm:M.contains b=true)(hs:2=x.size)(hg:x.get 0= .n .i64 (a:Int))(hg2:x.get 1= .n .i64 (a2:Int)){nx:Nat->List Nat}{i:Nat}(hnx:nx i=[a,a2]):Cv M H (.sl b 0 2 2) (gC nx i 0):=by
 unfold gC
 rw[hnx]
 refine .sl (by simpa using hm) hx (by rw[<-hs];decide) (by decide) (by rw[<-hs];decide) (λp j hp hj=>?_) (λp j hp hj=>rfl)
 obtain rfl:j=0:=by omega
 have hp':p<2:=hp
 obtain rfl|rfl:p=0\/p=1:=by omega
 ·exact hg
 ·exact hg2
theorem uS(cs:List In)(hn:cs.length<=16384)(pr:List Int)(hpr:pr.length=cs.length)(pt:Nat->Nat)(i:Nat)(hil:i<cs.length)(hp:dY (bT cs i)->pr.getD i 0=(pt i:Int)/\pt i<cs.length):
  bR Try.prog 59 [.fs 5 cs.length (cC cs),.fs 1 pr.length (iC .i64 pr),.n .i64 i] [.v (gC (bG cs pt) i 0)]:=by
 have hadd:∀j:Nat,j<100000->IntKind.wrap .i64 ((j:Int)+1)=((j+1:Nat):Int):=λj hj=>by rw[aU (by omega)];omega
 have hi0:(0:Int)<=(i:Int):=by omega
 have h:(i:Int)<(cs.length:Int):=by omega
 have ha:=hadd i (by omega)
 have hcc0:=tg cs i
 have hic:iC .i64 pr i 0= .n .i64 (pr.getD i 0):=rfl
 have hp0:(0:Int)<=(pt i:Int):=by omega
 have hpc0:=tg cs (pt i)
 have hnx:bG cs pt i=bG cs pt i:=rfl
 conv at hnx=>rhs;unfold bG
 have hopp:(cs.getD (pt i) (0,0,0,0,0)).1=bT cs (pt i):=rfl
 have hopi:(cs.getD i (0,0,0,0,0)).1=bT cs i:=rfl
 rw[hopi] at hcc0
 rw[hopp] at hpc0
 generalize bT cs i=op at*
 generalize bT cs (pt i)=opp at*
 refine yG (by rfl) (aO ba Lk ⟨by simp,by decide⟩ ?_)
 simp only[bM]
 have hcase:(op=27\/op=29\/op=30)\/op=28\/op=31\/¬dY op:=by unfold dY;omega
 rcases hcase with h1|h1|h1|h1
 ·obtain⟨hpe,hpl⟩:=hp (by unfold dY;omega)
  have hap:=hadd (pt i) (by omega)
  rw[hpe] at hic
  rw[if_pos h1] at hnx
  rcases h1 with rfl|rfl|rfl
  all_goals
   repeat first|with_reducible refine au ?_|simp only[hi0,h,hpr,hcc0,hic,ha,hap,decide_true,decide_false,go_sem,simprocAttr]
   exact⟨[0],xl (by simp only[go_sem,simprocAttr];rfl) (by rfl) (by rfl) (by first|rfl|simp only[go_sem,simprocAttr]) (by first|rfl|simp only[go_sem,simprocAttr]) hnx⟩
 ·obtain⟨hpe,hpl⟩:=hp (by unfold dY;omega)
  have hap:=hadd (pt i) (by omega)
  rw[hpe] at hic
  subst h1
  rw[if_neg (by decide),if_pos rfl] at hnx
  repeat first|with_reducible refine au ?_|simp only[hi0,h,hpr,hcc0,hic,ha,hap,decide_true,decide_false,go_sem,simprocAttr]
  exact⟨[0],r8 (by simp only[go_sem,simprocAttr];rfl) (by rfl) (by rfl) (by first|rfl|simp only[go_sem,simprocAttr]) hnx⟩
 ·obtain⟨hpe,hpl⟩:=hp (by unfold dY;omega)
  have hap:=hadd (pt i) (by omega)
  have hpl':(pt i:Int)<(cs.length:Int):=by omega
  rw[hpe] at hic
  subst h1
  rw[if_neg (by decide),if_neg (by decide),if_pos rfl] at hnx
  by_cases ho:opp=29
  ·rw[if_pos ho] at hnx
   subst ho
   repeat first|with_reducible refine au ?_|simp only[hi0,h,hpr,hcc0,hic,ha,hap,hp0,hpl',hpc0,decide_true,decide_false,go_sem,simprocAttr]
   exact⟨[0],xl (by simp only[go_sem,simprocAttr];rfl) (by rfl) (by rfl) (by first|rfl|simp only[go_sem,simprocAttr]) (by first|rfl|simp only[go_sem,simprocAttr]) hnx⟩
  ·rw[if_neg ho] at hnx
   repeat first|with_reducible refine au ?_|simp only[hi0,h,hpr,hcc0,hic,ha,hap,hp0,hpl',hpc0,ho,decide_true,decide_false,go_sem,simprocAttr]
   exact⟨[0],r8 (by simp only[go_sem,simprocAttr];rfl) (by rfl) (by rfl) (by first|rfl|simp only[go_sem,simprocAttr]) hnx⟩
 ·have hn27:¬op=27:=λe=>h1 (.inl e)
  have hn28:¬op=28:=λe=>h1 (.inr (.inl e))
  have hn29:¬op=29:=λe=>h1 (.inr (.inr (.inl e)))
  have hn30:¬op=30:=λe=>h1 (.inr (.inr (.inr (.inl e))))
  have hn31:¬op=31:=λe=>h1 (.inr (.inr (.inr (.inr e))))
  rw[if_neg (by omega),if_neg hn28,if_neg hn31] at hnx
  repeat first|with_reducible refine au ?_|simp only[hi0,h,hpr,hcc0,hic,ha,hn27,hn28,hn29,hn30,hn31,decide_true,decide_false,go_sem,simprocAttr]
  exact⟨[0],r8 (by simp only[go_sem,simprocAttr];rfl) (by rfl) (by rfl) (by first|rfl|simp only[go_sem,simprocAttr]) hnx⟩
theorem xA(l:List Int)(hl:l.length<=100000)(v:Int):bR Try.prog 73 [.fs 1 l.length (iC .i64 l),.n .i64 v] [.v (.b (l.contains v))]:=by
 have hadd:∀j:Nat,j<200000->IntKind.wrap .i64 ((j:Int)+1)=((j+1:Nat):Int):=λj hj=>by rw[aU (by omega)];omega
 refine aO ba K5 ⟨by simp,by decide⟩ ?_
 simp only[bM]
 repeat first|with_reducible refine au ?_|simp only[go_sem,simprocAttr]
 refine GA.loop (I:=λmm e H=>∃(k:Nat),mm=l.length-k/\k<=l.length/\(∀i,i<k->l.getD i 0≠v)/\e=aF [(0,.fs 1 l.length (iC .i64 l)),(1,.n .i64 v),(5,.n .i64 k)]/\H=aX []) (Wk.mk [] [] ?_ ?_ ?_) ⟨0,rfl,Nat.zero_le _,λi hi=>by omega,rfl,rfl⟩ ?_
 ·simp only[bg,bf,go_sem,simprocAttr]
  repeat' refine ab ?_ ?_
  all_goals first|exact bo|skip
 ·exact .nil
 ·simp
 rintro mm e H ⟨k,rfl,hk,hno,rfl,rfl⟩
 repeat first|with_reducible refine au ?_|simp only[go_sem,simprocAttr]
 refine⟨λh=>?_,λh=>?_⟩
 ·have hkl:k<l.length:=by omega
  have hk0:(0:Int)<=(k:Int):=by omega
  have ha:=hadd k (by omega)
  have hic:iC .i64 l k 0= .n .i64 (l.getD k 0):=rfl
  repeat first|with_reducible refine au ?_|simp only[hk0,h,hic,decide_true,go_sem,simprocAttr]
  refine⟨λhe=>?_,λhne=>?_⟩
  ·have hc:l.contains v=true:=by
    rw[List.contains_iff_mem,<-he,List.getD_eq_getElem?_getD,List.getElem?_eq_getElem hkl]
    exact List.getElem_mem hkl
   rw[hc]
   repeat first|with_reducible refine au ?_|simp only[go_sem,simprocAttr]
   exact⟨[_],rfl,⟨rfl,rfl⟩,True.intro⟩
  ·repeat first|with_reducible refine au ?_|simp only[ha,go_sem,simprocAttr]
   refine⟨_,_,_,?_,Wk.mk [] [] ?_ ?_ ?_,k+1,rfl,by omega,λi hi=>?_,rfl,rfl⟩
   ·omega
   ·simp only[bg,bf,go_sem,simprocAttr]
    repeat' refine ab ?_ ?_
    all_goals first|exact bo|skip
   ·exact .nil
   ·simp
   ·by_cases e:i=k
    ·subst e;exact hne
    ·exact hno i (by omega)
 ·have hk':k=l.length:=by omega
  subst hk'
  have hc:l.contains v=false:=by
   rw[<-Bool.not_eq_true,List.contains_iff_mem]
   intro hm
   obtain⟨i,hi,rfl⟩:=List.mem_iff_getElem.1 hm
   exact hno i hi (by rw[List.getD_eq_getElem?_getD,List.getElem?_eq_getElem hi];rfl)
  rw[hc]
  repeat first|with_reducible refine au ?_|simp only[go_sem,simprocAttr]
  exact⟨[_],rfl,⟨rfl,rfl⟩,True.intro⟩
def dp(nm:List Int)(r:Int):Int:=if r<0 then-1 else nm.getD r.toNat 0
def bC(s:Nat->Bool)(i _j:Nat):AV:= .b (s i)
def dN(s:Nat->Bool)(n:Nat):List Nat:=(List.range n).filter s
theorem vw(s:Nat->Bool)(n:Nat):dN s (n+1)=if s n=true then dN s n++[n] else dN s n:=by
 unfold dN
 rw[List.range_succ,List.filter_append]
 cases h:s n<;>simp[h]
theorem x9(s:Nat->Bool)(n:Nat):(dN s n).length<=n:=by
 have:=List.length_filter_le s (List.range n)
 rw[List.length_range] at this
 exact this
theorem sb(s:Nat->Bool)(n:Nat)(hn:n<=100000):bR Try.prog 41 [.fs 1 n (bC s)] [.o 3 1 (dN s n).length 0 (fm (dN s n))]:=by
 have hadd:∀j:Nat,j<200000->IntKind.wrap .i64 ((j:Int)+1)=((j+1:Nat):Int):=λj hj=>by rw[aU (by omega)];omega
 refine aO ba Ls ⟨by simp,by decide⟩ ?_
 simp only[bM]
 repeat first|with_reducible refine au ?_|simp only[go_sem,simprocAttr]
 refine GA.wk (Wk.nil 3 1 3 (by simp only[go_sem,simprocAttr]) (by decide) (by simp only[go_sem,simprocAttr])) ?_
 refine GA.loop (I:=λmm e H=>∃(k:Nat),mm=n-k/\k<=n/\e=aF [(0,.fs 1 n (bC s)),(3,.os 0 (dN s k).length),(4,.n .i64 k)]/\H=aX [aG 3 1 (dN s k).length 0 (fm (dN s k))]) (Wk.mk [0] [] ?_ ?_ ?_) ⟨0,rfl,Nat.zero_le _,rfl,rfl⟩ ?_
 ·simp only[bg,bf,go_sem,simprocAttr]
  repeat' refine ab ?_ ?_
  all_goals first|exact bo|skip
 ·exact .cons rfl (.rowW (by simp only[go_sem,simprocAttr];rfl) (by rfl) (by rfl) (by rfl) (by show 0<=_;exact Nat.zero_le _) (by exact Nat.le_refl _) rfl (by decide) (λi j hi=>absurd (show i<0 from hi) (Nat.not_lt_zero _))) .nil
 ·simp
 rintro mm e H ⟨k,rfl,hk,rfl,rfl⟩
 repeat first|with_reducible refine au ?_|simp only[go_sem,simprocAttr]
 refine⟨λh=>?_,λh=>?_⟩
 ·have hkl:k<n:=by omega
  have hk0:(0:Int)<=(k:Int):=by omega
  have ha:=hadd k (by omega)
  have hbC:bC s k 0= .b (s k):=rfl
  have hlen:=x9 s k
  have hl1:(dN s k).length+1<1099511627776:=by omega
  have hl2:((dN s k).length+1)*8<=140737488355328:=by omega
  have hl3:(dN s k).length<=9223372036854775806:=by omega
  have hsc:=vw s k
  cases hs:s k with
  |true=>
   rw[hs] at hbC
   rw[if_pos hs] at hsc
   repeat first|with_reducible refine au ?_|simp only[hk0,h,hbC,decide_true,ha,hl1,hl2,hl3,go_sem,simprocAttr]
   have hlen2:(dN s (k+1)).length=(dN s k).length+1:=by rw[hsc,List.length_append,List.length_singleton]
   refine⟨_,aF [(0,.fs 1 n (bC s)),(3,.os 0 (dN s (k+1)).length),(4,.n .i64 (k+1:Nat))],aX [aG 3 1 (dN s (k+1)).length 0 (fm (dN s (k+1)))],?_,Wk.mk (L:=[(0,.fs 1 n (bC s)),(3,.os 0 (dN s (k+1)).length),(4,.n .i64 (k+1:Nat))]) [2] [] ?_ ?_ ?_,k+1,rfl,by omega,rfl,rfl⟩
   ·omega
   ·rw[hlen2]
    simp only[bg,bf,go_sem,simprocAttr]
    repeat' refine ab ?_ ?_
    all_goals first|exact bo|skip
   ·rw[hlen2]
    refine .cons rfl (.rowW (by simp only[go_sem,simprocAttr];rfl) (by rfl) (by rfl) (by rfl) (by rw[app_size];show((dN s k).length+1)*1<=_;simp only[ch.len,List.length_singleton];omega) (by rw[cA];exact Nat.le_refl _) rfl (by decide) (λq j hq hj=>?_)) .nil
    obtain rfl:j=0:=by omega
    rw[Nat.mul_one,Nat.add_zero,dl _ _ _ (by omega) _ hq]
    by_cases e:q<(dN s k).length
    ·rw[if_pos e]
     have:=aI (ty:=3) (n:=(dN s k).length) (z:=0) (row:=fm (dN s k)) q 0 (by decide:0<1)
     rw[Nat.mul_one,Nat.add_zero] at this
     rw[this]
     unfold fm
     rw[hsc,List.getD_eq_getElem?_getD,List.getD_eq_getElem?_getD,List.getElem?_append_left e]
     exact .cv (.rfl (by rfl))
    ·obtain rfl:q=(dN s k).length:=by omega
     rw[if_neg e]
     unfold fm
     rw[hsc,List.getD_eq_getElem?_getD,List.getElem?_append_right (Nat.le_refl _)]
     simp only[Nat.sub_self,List.getElem?_cons_zero,Option.getD_some]
     exact .cv (.rfl (by rfl))
   ·simp
  |false=>
   rw[hs] at hbC
   rw[if_neg (by rw[hs];decide)] at hsc
   repeat first|with_reducible refine au ?_|simp only[hk0,h,hbC,decide_true,ha,go_sem,simprocAttr]
   refine⟨_,_,_,?_,Wk.mk [0] [] ?_ ?_ ?_,k+1,rfl,by omega,by rw[hsc],by rw[hsc]⟩
   ·omega
   ·simp only[bg,bf,go_sem,simprocAttr]
    repeat' refine ab ?_ ?_
    all_goals first|exact bo|skip
   ·exact .cons rfl .k1 .nil
   ·simp
 ·have hk':k=n:=by omega
  subst hk'
  repeat first|with_reducible refine au ?_|simp only[go_sem,simprocAttr]
  exact⟨[_],rfl,dR.o (x:=_) (by simp only[go_sem,simprocAttr]) rfl rfl rfl (by decide) (Nat.le_refl _) (Nat.le_refl _) (λi j hi hj=>aI i j hj) (λi j _ _=>rfl) rfl .nil⟩
end Go.Proofs.Yteopfmnnhlhbmaa