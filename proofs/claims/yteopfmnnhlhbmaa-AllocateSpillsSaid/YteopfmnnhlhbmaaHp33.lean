/- A part of the proof of AllocateSpills: LiA PrsA OcA CoA CpA InA InB InC InD InE InF CoB SuA RfA RfB. No condition. -/
import Derived.Test.YteopfmnnhlhbmaaHp19
import Derived.Test.YteopfmnnhlhbmaaHp23
import Derived.Test.YteopfmnnhlhbmaaHp24
import Derived.Test.YteopfmnnhlhbmaaHp32
import Derived.Test.YteopfmnnhlhbmaaHp13
import Derived.Test.YteopfmnnhlhbmaaHp15
import Derived.Test.YteopfmnnhlhbmaaHp17
set_option linter.unusedSimpArgs false
set_option linter.unusedVariables false
set_option linter.constructorNameAsVariable false
set_option maxRecDepth 100000
set_option maxHeartbeats 4000000
namespace Go.Proofs.Yteopfmnnhlhbmaa
open Go.RowKit
noncomputable def di(cs:List In)(nx:Nat->List Nat)(R i:Nat):List Nat:=(List.range R).filter λr:Nat=> @Decidable.decide (bn cs nx i (r:Int)) (Classical.propDecidable _)
theorem nM{cs:List In}{nx:Nat->List Nat}{R i r:Nat}:r ∈ di cs nx R i↔r<R/\bn cs nx i (r:Int):=by
 unfold di
 rw[List.mem_filter,List.mem_range,@decide_eq_true_iff _ (Classical.propDecidable _)]
theorem oV(cs:List In)(nx:Nat->List Nat)(R i:Nat):(di cs nx R i).Pairwise (· < ·):=List.Pairwise.filter _ List.pairwise_lt_range
theorem j9(cs:List In)(nx:Nat->List Nat)(R i:Nat):(di cs nx R i).length<=R:=by
 have:=List.length_filter_le (λr:Nat=> @Decidable.decide (bn cs nx i (r:Int)) (Classical.propDecidable _)) (List.range R)
 rw[List.length_range] at this
 exact this
theorem ko{l1 l2:List Int}(h1:l1.Pairwise (· < ·))(h2:l2.Pairwise (· < ·))(hm:∀k,k ∈ l1↔k ∈ l2):l1=l2:=
 List.Perm.eq_of_pairwise (le:=(· < ·)) (λa b _ _ p q=>by omega) h1 h2 ((List.perm_ext_iff_of_nodup (h1.imp λh=>by omega) (h2.imp λh=>by omega)).2 hm)
theorem sE{cs:List In}{nx:Nat->List Nat}{R i:Nat}{zs:List Int}(hm:∀k,k ∈ zs↔bn cs nx i k)(hp:zs.Pairwise (· < ·))(hr:∀k,bn cs nx i k->0<=k/\k<(R:Int)):zs=(di cs nx R i).map (λn:Nat=>(n:Int)):=by
 refine ko hp (List.pairwise_map.2 ((oV cs nx R i).imp λh=>by omega)) (λk=>?_)
 rw[hm,List.mem_map]
 constructor
 ·intro h
  obtain⟨a,b⟩:=hr k h
  exact⟨k.toNat,nM.2 ⟨by omega,by rwa [Int.toNat_of_nonneg a]⟩,Int.toNat_of_nonneg a⟩
 ·rintro ⟨n,h,rfl⟩
  exact(nM.1 h).2
theorem yV(l:List Nat):(AV.fs 1 (l.map (λn:Nat=>(n:Int))).length (λj _=> .n .i64 ((l.map (λn:Nat=>(n:Int))).getD j 0)))= .fs 1 l.length (λj _=> .n .i64 ((l.getD j 0:Nat):Int)):=by
 rw[List.length_map]
 congr 1
 funext j _
 congr 1
 rw[List.getD_eq_getElem?_getD,List.getD_eq_getElem?_getD,List.getElem?_map]
 cases l[j]? <;>rfl
theorem qI(r:Nat):bA Try.prog 38 [.cv (.map (some r))] [.v (.f 71 [] [.bx 1 (λ_=> .cv (.map (some r)))])]:=by
 refine aB aW Oc ⟨by simp,by decide⟩ ?_
 simp only[bt]
 (try simp only[go_sem,simprocAttr])
 iterate 4 (with_reducible refine GA.go aW rfl ?_;try simp only[go_sem,simprocAttr])
 refine GA.wk (Wk.mk (L:=[(2,.f 71 [] [.bx 1 (λ_=> .cv (.map (some r)))])]) (bl:=[]) [] [0] ?_ ?_ ?_) ?_
 ·exact⟨⟨by decide,.f 71 [] [.p 0 0],by simp only[go_sem,simprocAttr],.cv (.fn .nil (.cons (.bx (x:=aK 0 70 [.cv (.map (some r))]) (List.mem_cons_self ..) (by simp only[go_sem,simprocAttr]<;>rfl) (by show 1<=1;decide) (by show 0<1;decide) (λq hq=>by obtain rfl:q=0:=(by omega);rfl) (λq hq=>rfl)) .nil))⟩,True.intro⟩
 ·exact .nil
 ·decide
 repeat first|with_reducible refine aw ?_|simp only[go_sem,simprocAttr]
 exact⟨[_],rfl,⟨rfl,rfl⟩,True.intro⟩
theorem BO(la:List (Bool×Int))(regs par:Int)(cs:List In)(hla:la.length<1000000)(harg:∀x ∈ cs,0<=x.2.2.2.2/\x.2.2.2.2<4294967296)(hc0:(gk la regs par cs).2=0)
  (nx:Nat->List Nat) (R:Nat) (hRs:R<=100000) (hg:bA Try.prog 66 [.fs 5 cs.length (cC cs)] [.v (.fs 1 cs.length (gC nx))]) (hn:cs.length<=16384)
  (hops:∀x ∈ cs,0<=x.1/\x.1<39) (hnx:∀i,i<cs.length->∀k ∈ nx i,k<=cs.length) (hnl:∀i,(nx i).length<=2) (hR:∀x ∈ cs,∀r ∈ aF x.1 x.2.2.1 x.2.2.2.1,0<=r/\r<(R:Int)) (hw1:∀i k,i<cs.length->k ∈ nx i->k=i->a6 (cs.getD i (0,0,0,0,0)).1 (cs.getD i (0,0,0,0,0)).2.1= -1):
  bA Try.prog 11 [ax la.length (aC la) regs par cs] [.v (.fs 1 (cs.length+1) (gC (di cs nx R))),.v (.n .i64 0)]:=by
 have hadd:∀j:Nat,j<100000->IntKind.wrap .i64 ((j:Int)+1)=((j+1:Nat):Int):=λj hj=>by rw[aJ (by omega)];omega
 have hck:=ij la regs par cs hla (by omega) harg
 rw[hc0] at hck
 have hlv:=jy cs nx R hg hn hops hnx hnl hR hw1
 have hrange:∀i k,bn cs nx i k->0<=k/\k<(R:Int):=λi k h=>h.range hR
 refine aB aW CP ⟨by simp,by decide⟩ ?_
 simp only[bt,ax]
 repeat first|with_reducible refine aw ?_|simp only[go_sem,simprocAttr]
 refine rO hck ?_
 repeat first|with_reducible refine aw ?_|simp only[go_sem,simprocAttr]
 refine bQ [] (.cons (.rfl (by rfl)) .nil) hlv True.intro (by simp only[go_sem,simprocAttr]) ?_
 rintro rs N ⟨S,ad,hS,hob0,rfl⟩ hfree
 repeat first|with_reducible refine aw ?_|simp only[go_sem,simprocAttr]
 refine GA.wk (Wk.nil 8 1 39 (by simp only[go_sem,simprocAttr]) (by decide) (by simp only[go_sem,simprocAttr])) ?_
 refine GA.loop (I:=λmm e H=>∃(i:Nat) (ob:Nat->Option OB),mm=cs.length+1-i/\i<=cs.length+1/\eN (cs.length+1) ad S ob/\e=az [(8,.os 0 i),(25,.fs 1 (cs.length+1) (Ao ad)),(26,.n .i64 (cs.length+1:Nat)),(27,.n .i64 i)]/\H=bh ob [aD 39 1 i 0 (gC (di cs nx R))]) (Wk.mkS [1] [] ?_ ?_ ?_) ⟨0,_,rfl,Nat.zero_le _,?_,rfl,rfl⟩ ?_
 ·simp only[aX,aV,go_sem,simprocAttr]
  repeat' refine aa ?_ ?_
  all_goals first|exact ba|skip
 ·exact .cons rfl (.rowW (by simp only[go_sem,simprocAttr];rfl) (by rfl) (by rfl) (by rfl) (by decide) (by exact Nat.le_refl _) rfl (by decide) (λi j hi=>by omega)) .nil
 ·simp
 ·simp only[go_sem,simprocAttr]
  exact⟨λi hi=>(eM (by first|rfl|(rw[cJ]))).trans (hob0.at_ i hi),hob0.inj⟩
 rintro mm e H ⟨i,ob,rfl,hi,hob,rfl,rfl⟩
 repeat first|with_reducible refine aw ?_|simp only[go_sem,simprocAttr]
 refine⟨λh=>?_,λh=>?_⟩
 ·have hil:i<cs.length+1:=by omega
  have hi0:(0:Int)<=(i:Int):=by omega
  have ha:=hadd i (by omega)
  have hl1:i+1<1099511627776:=by omega
  have hl2:(i+1)*24<=140737488355328:=by omega
  have hl3:i<=9223372036854775806:=by omega
  have had:Ao ad i 0= .cv (.map (some (ad i))):=rfl
  repeat first|with_reducible refine aw ?_|simp only[hi0,h,had,decide_true,go_sem,simprocAttr]
  refine ao [] (.cons (.rfl (by rfl)) .nil) (qI _) (by simp only[af,List.length_cons,List.length_nil];decide) ?_
  repeat first|with_reducible refine aw ?_|simp only[go_sem,simprocAttr]
  obtain⟨hnd,hmem⟩:=hS i (by omega)
  refine bQ [] (.cons (.rfl (by rfl)) .nil) (lA _) ⟨bR (S i),hob.at_ i hil,?_,?_⟩ (by simp only[af,List.length_cons,List.length_nil];decide) ?_
  ·have:=gD hnd (λr hr=>hrange i r ((hmem r).1 hr))
   rw[gu];omega
  ·intro k v hk
   rw[du] at hk
   split at hk
   ·rename_i hk'
    have:=hrange i k ((hmem k).1 hk')
    omega
   ·cases hk
  rintro rs N2 ⟨ss,hss,hpw,rfl,rfl⟩ hfree2
  have hsl:ss=(di cs nx R i).map (λn:Nat=>(n:Int)):=sE (λk=>by
   rw[hss _ (hob.at_ i hil) k,du,<-hmem k]
   by_cases e:k ∈ S i<;>simp[e]) hpw (hrange i)
  subst hsl
  simp only[yV]
  repeat first|with_reducible refine aw ?_|simp only[hi0,decide_true,ha,hl1,hl2,hl3,go_sem,simprocAttr]
  refine⟨_,_,_,?_,Wk.mkS [2] [] ?_ ?_ ?_,i+1,_,rfl,by omega,?_,rfl,rfl⟩
  ·omega
  ·simp only[aX,aV,go_sem,simprocAttr]
   repeat' refine aa ?_ ?_
   all_goals first|exact ba|skip
  ·exact .cons rfl (.rowW (by simp only[go_sem,simprocAttr];rfl) (by rfl) (by rfl) (by rfl) (by rw[app_size];show(i+1)*1<=_;simp only[cf.len,List.length_singleton];omega) (by rw[cy];exact Nat.le_refl _) rfl (by decide) (λq j hq hj=>dS (by omega) hq hj (.rfl (by rfl)))) .nil
  ·simp
  ·(try simp only[cJ,go_sem,simprocAttr]);exact hob
 ·have hk:i=cs.length+1:=by omega
  subst hk
  refine GA.wk (Wk.mkS (L:=[(8,.fs 1 (cs.length+1) (gC (di cs nx R)))]) (bl:=[]) [] [0] ?_ ?_ ?_) ?_
  ·refine⟨⟨by decide,.os 0 (cs.length+1),by simp only[go_sem,simprocAttr],.cv (.os (x:=aD 39 1 (cs.length+1) 0 (gC (di cs nx R))) (by simp) (by simp only[go_sem,simprocAttr]) (Nat.le_refl _) (λi j _ hj=>aL i j hj) (λi j _ _=>rfl))⟩,True.intro⟩
  ·exact .nil
  ·simp
  repeat first|with_reducible refine aw ?_|simp only[go_sem,simprocAttr]
  exact⟨[_,_],rfl,⟨rfl,rfl⟩,⟨rfl,rfl⟩,True.intro⟩
theorem yy(la:List (Bool×Int))(regs par:Int)(cs:List In)(hla:la.length<1000000)(hcs:cs.length<1000000)(harg:∀x ∈ cs,0<=x.2.2.2.2/\x.2.2.2.2<4294967296)(hc0:(gk la regs par cs).2≠0)(nx:Nat->List Nat):
  bA Try.prog 11 [ax la.length (aC la) regs par cs] [.v (.fs 1 0 (gC nx)),.v (.n .i64 (gk la regs par cs).2)]:=by
 refine de (rs:=[.o 39 1 0 0 (gC nx),.v (.n .i64 (gk la regs par cs).2)]) ?_ (by rfl)
 have hck:=ij la regs par cs hla hcs harg
 refine aB aW CP ⟨by simp,by decide⟩ ?_
 simp only[bt,ax]
 repeat first|with_reducible refine aw ?_|simp only[go_sem,simprocAttr]
 refine rO hck ?_
 repeat first|with_reducible refine aw ?_|simp only[hc0,decide_true,decide_false,go_sem,simprocAttr]
 exact⟨[_,_],rfl,cn.o0 rfl (cn.v rfl rfl .nil)⟩
def r8(L:Nat->List Nat):Nat->Nat
 |0=>0
 |n+1=>max (r8 L n) (L n).length
theorem jk(na:Nat)(ra:Nat->Nat->AV)(regs par:Int)(cs:List In)(L:Nat->List Nat)(n:Nat)(hn:n<=20000)(e:Int)(hL:∀i,(L i).length<=100000)(hlive:bA Try.prog 11 [ax na ra regs par cs] [.v (.fs 1 n (gC L)),.v (.n .i64 e)]):
  bA Try.prog 13 [ax na ra regs par cs] [.v (.n .i64 (r8 L n)),.v (.n .i64 e)]:=by
 have hadd:∀j:Nat,j<100000->IntKind.wrap .i64 ((j:Int)+1)=((j+1:Nat):Int):=λj hj=>by rw[aJ (by omega)];omega
 simp only[ax] at hlive
 refine aB aW N7 ⟨by simp,by decide⟩ ?_
 simp only[bt,ax]
 repeat first|with_reducible refine aw ?_|simp only[go_sem,simprocAttr]
 refine rO hlive ?_
 repeat first|with_reducible refine aw ?_|simp only[go_sem,simprocAttr]
 refine GA.loop (I:=λmm e' H=>∃(i:Nat),mm=n-i/\i<=n/\e'=az [(6,.n .i64 (r8 L i)),(5,.n .i64 e),(14,.fs 1 n (gC L)),(15,.n .i64 n),(16,.n .i64 i)]/\H=aP []) (Wk.mk [] [] ?_ ?_ ?_) ⟨0,rfl,Nat.zero_le _,rfl,rfl⟩ ?_
 ·simp only[aX,aV,go_sem,simprocAttr]
  repeat' refine aa ?_ ?_
  all_goals first|exact ba|skip
 ·exact .nil
 ·simp
 rintro mm e' H ⟨i,rfl,hi,rfl,rfl⟩
 repeat first|with_reducible refine aw ?_|simp only[go_sem,simprocAttr]
 refine⟨λh=>?_,λh=>?_⟩
 ·have hil:i<n:=by omega
  have hi0:(0:Int)<=(i:Int):=by omega
  have ha:=hadd i (by omega)
  have hgC:gC L i 0= .fs 1 (L i).length (λj _=> .n .i64 (((L i).getD j 0:Nat):Int)):=rfl
  have hmx:(if(r8 L i:Int)<((L i).length:Int) then((L i).length:Int) else(r8 L i:Int))=((r8 L (i+1):Nat):Int):=by
   show _=((max (r8 L i) (L i).length:Nat):Int)
   split<;>omega
  repeat first|with_reducible refine aw ?_|simp only[hi0,h,hgC,decide_true,ha,hmx,go_sem,simprocAttr]
  refine⟨_,_,_,?_,Wk.mk [] [] ?_ ?_ ?_,i+1,rfl,by omega,rfl,rfl⟩
  ·omega
  ·simp only[aX,aV,go_sem,simprocAttr]
   repeat' refine aa ?_ ?_
   all_goals first|exact ba|skip
  ·exact .nil
  ·simp
 ·have hk:i=n:=by omega
  subst hk
  repeat first|with_reducible refine aw ?_|simp only[go_sem,simprocAttr]
  exact⟨[_,_],rfl,⟨rfl,rfl⟩,⟨rfl,rfl⟩,True.intro⟩
def bM(x:In):List Int:=aF x.1 x.2.2.1 x.2.2.2.1++[a6 x.1 x.2.1]
def cP(cs:List In)(r:Int):Bool:=cs.any λx=>(bM x).contains r
def bL(cs:List In)(R:Nat):List Nat:=(List.range R).filter λr:Nat=>cP cs (r:Int)
def pN(s:List Int)(r:Int):List Int:=if 0<=r then gV s r else s
def fi(s l:List Int):List Int:=l.foldl pN s
def mH(cs:List In):Nat->List Int
 |0=>[]
 |k+1=>fi (mH cs k) (bM (cs.getD k (0,0,0,0,0)))
theorem An{s:List Int}{k r:Int}:r ∈ pN s k↔r ∈ s\/(r=k/\0<=k):=by
 unfold pN
 split
 ·rename_i h;rw[db];simp[h]
 ·rename_i h;simp[h]
theorem tq{s:List Int}(h:s.Nodup)(k:Int):(pN s k).Nodup:=by
 unfold pN;split
 ·exact iZ h k
 ·exact h
theorem mF:∀(l s:List Int) (r:Int),r ∈ fi s l↔r ∈ s\/(r ∈ l/\0<=r)
 |[],s,r=>by simp[fi]
 |k::l,s,r=>by
  show r ∈ fi (pN s k) l↔_
  rw[mF l,An,List.mem_cons]
  constructor
  ·rintro ((h|⟨rfl,h⟩)|⟨h1,h2⟩)
   ·exact .inl h
   ·exact .inr ⟨.inl rfl,h⟩
   ·exact .inr ⟨.inr h1,h2⟩
  ·rintro (h|⟨rfl|h1,h2⟩)
   ·exact .inl (.inl h)
   ·exact .inl (.inr ⟨rfl,h2⟩)
   ·exact .inr ⟨h1,h2⟩
theorem jL:∀(l:List Int) {s:List Int},s.Nodup->(fi s l).Nodup
 |[],s,h=>h
 |k::l,s,h=>jL l (tq h k)
theorem rD{s l:List Int}{j:Nat}(h:j<l.length):fi s (l.take (j+1))=pN (fi s (l.take j)) (l.getD j 0):=by
 rw[List.take_add_one,List.getElem?_eq_getElem h]
 unfold fi
 rw[List.foldl_append]
 simp[List.getD,h]
theorem mG(cs:List In):∀k,(mH cs k).Nodup
 |0=>List.nodup_nil
 |k+1=>jL _ (mG cs k)
theorem jM(cs:List In):∀k,k<=cs.length->∀r,r ∈ mH cs k↔0<=r/\∃i,i<k/\r ∈ bM (cs.getD i (0,0,0,0,0))
 |0,_,r=>by simp[mH]
 |k+1,h,r=>by
  unfold mH
  rw[mF,jM cs k (by omega)]
  constructor
  ·rintro (⟨h0,i,hi,h1⟩|⟨h1,h0⟩)
   ·exact⟨h0,i,by omega,h1⟩
   ·exact⟨h0,k,by omega,h1⟩
  ·rintro ⟨h0,i,hi,h1⟩
   by_cases e:i=k
   ·subst e;exact .inr ⟨h1,h0⟩
   ·exact .inl ⟨h0,i,by omega,h1⟩
theorem gA{cs:List In}{r:Int}:cP cs r=true↔∃i,i<cs.length/\r ∈ bM (cs.getD i (0,0,0,0,0)):=by
 unfold cP
 rw[List.any_eq_true]
 constructor
 ·rintro ⟨x,hx,h⟩
  obtain⟨i,hi,rfl⟩:=List.mem_iff_getElem.1 hx
  refine⟨i,hi,?_⟩
  rw[List.getD_eq_getElem?_getD,List.getElem?_eq_getElem hi]
  simpa using h
 ·rintro ⟨i,hi,h⟩
  refine⟨cs[i],List.getElem_mem hi,?_⟩
  rw[List.getD_eq_getElem?_getD,List.getElem?_eq_getElem hi] at h
  simpa using h
theorem gz{cs:List In}{R r:Nat}:r ∈ bL cs R↔r<R/\cP cs (r:Int)=true:=by
 unfold bL;rw[List.mem_filter,List.mem_range]
theorem cL(cs:List In)(R:Nat):(bL cs R).Pairwise (· < ·):=List.Pairwise.filter _ List.pairwise_lt_range
theorem qv(cs:List In)(R:Nat):(bL cs R).length<=R:=by
 have:=List.length_filter_le (λr:Nat=>cP cs (r:Int)) (List.range R)
 rw[List.length_range] at this
 exact this
theorem vf{cs:List In}{R:Nat}{zs:List Int}(hm:∀k,k ∈ zs↔0<=k/\cP cs k=true)(hp:zs.Pairwise (· < ·))(hr:∀k,cP cs k=true->k<(R:Int)):zs=(bL cs R).map (λn:Nat=>(n:Int)):=by
 refine ko hp (List.pairwise_map.2 ((cL cs R).imp λh=>by omega)) (λk=>?_)
 rw[hm,List.mem_map]
 constructor
 ·rintro ⟨h0,h⟩
  have:=hr k h
  exact⟨k.toNat,gz.2 ⟨by omega,by rwa [Int.toNat_of_nonneg h0]⟩,Int.toNat_of_nonneg h0⟩
 ·rintro ⟨n,h,rfl⟩
  exact⟨by omega,(gz.1 h).2⟩
theorem jQ(x:In):(bM x).length=(aF x.1 x.2.2.1 x.2.2.2.1).length+1:=by unfold bM;simp
theorem uI(x:In){ty i j:Nat}(hm:(aF x.1 x.2.2.1 x.2.2.2.1).length<1000000)(hi:i<(aF x.1 x.2.2.1 x.2.2.2.1).length+1)(hj:j<1):
  ((aD ty 1 (aF x.1 x.2.2.1 x.2.2.2.1).length 0 (iC .i64 (aF x.1 x.2.2.1 x.2.2.2.1))).app (aF x.1 x.2.2.1 x.2.2.2.1).length (.li [.n .i64 (a6 x.1 x.2.1)])).get (i*1+j)=iC .i64 (bM x) i j:=by
 obtain rfl:j=0:=by omega
 rw[Nat.mul_one,Nat.add_zero,da _ _ _ hm _ hi]
 unfold bM iC
 by_cases e:i<(aF x.1 x.2.2.1 x.2.2.2.1).length
 ·rw[if_pos e]
  have:=aL (ty:=ty) (n:=(aF x.1 x.2.2.1 x.2.2.2.1).length) (z:=0) (row:=iC .i64 (aF x.1 x.2.2.1 x.2.2.2.1)) i 0 (by decide:0<1)
  rw[Nat.mul_one,Nat.add_zero] at this
  rw[show(λi _j=>AV.n .i64 ((aF x.1 x.2.2.1 x.2.2.2.1).getD i 0))=iC .i64 (aF x.1 x.2.2.1 x.2.2.2.1) from rfl,this]
  unfold iC
  rw[List.getD_eq_getElem?_getD,List.getD_eq_getElem?_getD,List.getElem?_append_left e]
 ·obtain rfl:i=(aF x.1 x.2.2.1 x.2.2.2.1).length:=by omega
  rw[if_neg e,List.getD_eq_getElem?_getD,List.getElem?_append_right (Nat.le_refl _)]
  simp
theorem mX(cs:List In)(R:Nat)(hRs:R<=100000)(hn:cs.length<=16384)(hops:∀x ∈ cs,0<=x.1/\x.1<39)(hU:∀x ∈ cs,∀r ∈ bM x,r<(R:Int))(hrl:∀x ∈ cs,(bM x).length<=10):
  bA Try.prog 52 [.fs 5 cs.length (cC cs)] [.v (.fs 1 (bL cs R).length (λj _=> .n .i64 (((bL cs R).getD j 0:Nat):Int)))]:=by
 have hadd:∀j:Nat,j<100000->IntKind.wrap .i64 ((j:Int)+1)=((j+1:Nat):Int):=λj hj=>by rw[aJ (by omega)];omega
 have hoc:∀k,cP cs k=true->k<(R:Int):=λk hk=>by
  obtain⟨i,hi,h⟩:=gA.1 hk
  exact hU _ (by rw[List.getD_eq_getElem?_getD,List.getElem?_eq_getElem hi];exact List.getElem_mem hi) k h
 refine aB aW QJ ⟨by simp,by decide⟩ ?_
 simp only[bt]
 repeat first|with_reducible refine aw ?_|simp only[go_sem,simprocAttr]
 refine fS (λr hr=>?_)
 repeat first|with_reducible refine aw ?_|simp only[go_sem,simprocAttr]
 refine GA.loop (I:=λmm e H=>∃(k:Nat) (ob:Nat->Option OB),mm=cs.length-k/\k<=cs.length/\ob r=some (.mp (bR (mH cs k)))/\e=az [(3,.cv (.map (some r))),(11,.fs 5 cs.length (cC cs)),(12,.n .i64 cs.length),(13,.n .i64 k)]/\H=bh ob []) (Wk.mkS [] [] ?_ ?_ ?_) ⟨0,_,rfl,Nat.zero_le _,?_,rfl,rfl⟩ ?_
 ·simp only[aX,aV,go_sem,simprocAttr]
  repeat' refine aa ?_ ?_
  all_goals first|exact ba|skip
 ·exact .nil
 ·simp
 ·simp only[go_sem,simprocAttr]
  first|exact(aN _ _ _).trans (by rw[fo];rfl)|exact congrArg (λz=>some (OB.mp z)) fo|(rw[fo];rfl)
 rintro mm e H ⟨k,ob,rfl,hk,hob,rfl,rfl⟩
 repeat first|with_reducible refine aw ?_|simp only[go_sem,simprocAttr]
 refine⟨λh=>?_,λh=>?_⟩
 ·have hkl:k<cs.length:=by omega
  have hk0:(0:Int)<=(k:Int):=by omega
  have ha:=hadd k (by omega)
  have hcc0:=te cs k
  have hcc1:=zP cs k
  have hcc2:=zO cs k
  have hcc3:=zN cs k
  have hcc4:=zM cs k
  have hmem:cs.getD k (0,0,0,0,0) ∈ cs:=by rw[List.getD_eq_getElem?_getD,List.getElem?_eq_getElem hkl];exact List.getElem_mem hkl
  have hacc:mH cs (k+1)=fi (mH cs k) (bM (cs.getD k (0,0,0,0,0))):=rfl
  have hop:=hops _ hmem
  have hrlk:=hrl _ hmem
  generalize hx:cs.getD k (0,0,0,0,0)=x at*
  obtain⟨op,to,a,b,arg⟩:=x
  have hu:=lx op to a b arg hop
  repeat first|with_reducible refine aw ?_|simp only[hk0,h,hcc0,hcc1,hcc2,hcc3,hcc4,decide_true,go_sem,simprocAttr]
  refine ao [] (.cons (.rfl (by rfl)) .nil) hu (by simp only[AH.mark_next,ae,au,av,am,af,ag,List.length_cons,List.length_nil];decide) ?_
  rw[jQ] at hrlk
  simp only at hrlk
  have hl1:(aF op a b).length+1<1099511627776:=by omega
  have hl2:((aF op a b).length+1)*8<=140737488355328:=by omega
  have hl3:(aF op a b).length<=9223372036854775806:=by omega
  repeat first|with_reducible refine aw ?_|simp only[hl1,hl2,hl3,go_sem,simprocAttr]
  have hlen:(bM (op,to,a,b,arg)).length=(aF op a b).length+1:=jQ _
  refine GA.loop (I:=λmm e H=>∃(j:Nat) (ob':Nat->Option OB),mm=(aF op a b).length+1-j/\j<=(aF op a b).length+1/\ob' r=some (.mp (bR (fi (mH cs k) ((bM (op,to,a,b,arg)).take j))))/\e=az [(25,.fs 1 ((aF op a b).length+1) (iC .i64 (bM (op,to,a,b,arg)))),(26,.n .i64 ((aF op a b).length+1:Nat)),(27,.n .i64 j),(3,.cv (.map (some r))),(11,.fs 5 cs.length (cC cs)),(12,.n .i64 cs.length),(13,.n .i64 k)]/\H=bh ob' []) (Wk.mkS [] [3] ?_ ?_ ?_) ⟨0,_,rfl,Nat.zero_le _,?_,rfl,rfl⟩ ?_
  ·simp only[aX,aV,go_sem,simprocAttr]
   repeat' refine aa ?_ ?_
   all_goals first|exact ba|skip
   exact .cv (.os (by simp) (by simp only[go_sem,simprocAttr];rfl) (by rw[app_size];simp only[cf.len,List.length_singleton];omega) (λi j hi hj=>uI (op,to,a,b,arg) (by simp only;omega) hi hj) (λi j _ _=>rfl))
  ·exact .nil
  ·simp
  ·(try simp only[cJ,go_sem,simprocAttr]);exact hob
  ·rintro mm e H ⟨j,ob',rfl,hj,hob',rfl,rfl⟩
   repeat first|with_reducible refine aw ?_|simp only[go_sem,simprocAttr]
   refine⟨λh=>?_,λh=>?_⟩
   ·have hjl:j<(aF op a b).length+1:=by omega
    have hj0:(0:Int)<=(j:Int):=by omega
    have ha2:=hadd j (by omega)
    have htk:=rD (s:=mH cs k) (l:=bM (op,to,a,b,arg)) (j:=j) (by omega)
    have hic:iC .i64 (bM (op,to,a,b,arg)) j 0= .n .i64 ((bM (op,to,a,b,arg)).getD j 0):=rfl
    generalize hv:(bM (op,to,a,b,arg)).getD j 0=v at*
    by_cases hv0:0<=v
    ·repeat first|with_reducible refine aw ?_|simp only[hj0,h,hic,decide_true,hv0,hob',go_sem,simprocAttr]
     refine⟨rfl,?_⟩
     repeat first|with_reducible refine aw ?_|simp only[ha2,go_sem,simprocAttr]
     refine⟨_,_,_,?_,Wk.mkS [] [] ?_ ?_ ?_,j+1,_,rfl,by omega,?_,rfl,rfl⟩
     ·omega
     ·simp only[aX,aV,go_sem,simprocAttr]
      repeat' refine aa ?_ ?_
      all_goals first|exact ba|skip
     ·exact .nil
     ·simp
     ·simp only[go_sem,simprocAttr]
      rw[jb,htk]
      unfold pN
      rw[if_pos hv0]
    ·repeat first|with_reducible refine aw ?_|simp only[hj0,h,hic,decide_true,decide_false,hv0,hob',ha2,go_sem,simprocAttr]
     refine⟨_,_,_,?_,Wk.mkS [] [] ?_ ?_ ?_,j+1,_,rfl,by omega,?_,rfl,rfl⟩
     ·omega
     ·simp only[aX,aV,go_sem,simprocAttr]
      repeat' refine aa ?_ ?_
      all_goals first|exact ba|skip
     ·exact .nil
     ·simp
     ·(try simp only[go_sem,simprocAttr])
      rw[htk]
      unfold pN
      rw[if_neg hv0]
      exact hob'
   ·have hjk:j=(aF op a b).length+1:=by omega
    subst hjk
    rw[List.take_of_length_le (by omega),<-hacc] at hob'
    repeat first|with_reducible refine aw ?_|simp only[ha,go_sem,simprocAttr]
    refine⟨_,_,_,?_,Wk.mkS [] [] ?_ ?_ ?_,k+1,_,rfl,by omega,?_,rfl,rfl⟩
    ·omega
    ·simp only[aX,aV,go_sem,simprocAttr]
     repeat' refine aa ?_ ?_
     all_goals first|exact ba|skip
    ·exact .nil
    ·simp
    ·(try simp only[go_sem,simprocAttr]);exact hob'
 ·have hkk:k=cs.length:=by omega
  subst hkk
  repeat first|with_reducible refine aw ?_|simp only[go_sem,simprocAttr]
  refine ao [] (.cons (.rfl (by rfl)) .nil) (qI _) (by simp only[af,List.length_cons,List.length_nil];decide) ?_
  repeat first|with_reducible refine aw ?_|simp only[go_sem,simprocAttr]
  refine bQ [] (.cons (.rfl (by rfl)) .nil) (lA _) ⟨_,hob,?_,?_⟩ (by simp only[af,List.length_cons,List.length_nil];decide) ?_
  ·have:=gD (R:=R) (mG cs cs.length) (λr hr=>by
    obtain⟨h0,i,hi,h1⟩:=(jM cs _ (Nat.le_refl _) r).1 hr
    exact⟨h0,hoc r (gA.2 ⟨i,hi,h1⟩)⟩)
   rw[gu];omega
  ·intro q v hq
   rw[du] at hq
   split at hq
   ·rename_i hq'
    obtain⟨h0,i,hi,h1⟩:=(jM cs _ (Nat.le_refl _) q).1 hq'
    have:=hoc q (gA.2 ⟨i,hi,h1⟩)
    omega
   ·cases hq
  rintro rs N2 ⟨ss,hss,hpw,rfl,rfl⟩ hfree2
  have hsl:ss=(bL cs R).map (λn:Nat=>(n:Int)):=vf (λq=>by
   rw[hss _ hob q,du,gA,<-jM cs _ (Nat.le_refl _)]
   by_cases e:q ∈ mH cs cs.length<;>simp[e]) hpw hoc
  subst hsl
  simp only[yV]
  repeat first|with_reducible refine aw ?_|simp only[go_sem,simprocAttr]
  exact⟨[_],rfl,⟨rfl,rfl⟩,True.intro⟩
def ef(P:Nat->Prop)(c:Nat):Prop:=¬P c/\∀c',c'<c->P c'
theorem ef.uniq{P:Nat->Prop}{c c':Nat}(h:ef P c)(h':ef P c'):c=c':=by
 rcases Nat.lt_trichotomy c c' with h1|h1|h1
 ·exact absurd (h'.2 c h1) h.1
 ·exact h1
 ·exact absurd (h.2 c' h1) h'.1
theorem ef.congr{P P':Nat->Prop}(hp:∀c,P c↔P' c){c:Nat}(h:ef P c):ef P' c:=⟨λhc=>h.1 ((hp c).2 hc),λc' hc'=>(hp c').1 (h.2 c' hc')⟩
structure rL(occ:Nat->Bool)(nb:Nat->Nat->Prop)(n:Nat)(K:Nat->Nat):Prop where
 yes:∀r,r<n->occ r=true->ef (λc=>∃s,s<r/\occ s=true/\nb r s/\K s=c) (K r)
 no:∀r,r<n->occ r=false->K r=0
theorem rL.uniq{occ:Nat->Bool}{nb nb':Nat->Nat->Prop}{n:Nat}{K K':Nat->Nat}(h:rL occ nb n K)(h':rL occ nb' n K')(hnb:∀r s,nb r s↔nb' r s):∀r,r<n->K r=K' r:=by
 intro r
 induction r using Nat.strongRecOn with
 |_ r ih=>
  intro hr
  cases ho:occ r with
  |false=>rw[h.no r hr ho,h'.no r hr ho]
  |true=>
   refine(h.yes r hr ho).uniq ((h'.yes r hr ho).congr (λc=>?_))
   constructor
   ·rintro ⟨s,h1,h2,h3,h4⟩
    exact⟨s,h1,h2,(hnb r s).2 h3,by rw[ih s h1 (by omega)];exact h4⟩
   ·rintro ⟨s,h1,h2,h3,h4⟩
    exact⟨s,h1,h2,(hnb r s).1 h3,by rw[<-ih s h1 (by omega)];exact h4⟩
theorem ef.le{P:Nat->Prop}{c m:Nat}(h:ef P c){l:List Nat}(hP:∀x,P x->x ∈ l)(hl:l.length<=m):c<=m:=by
 have h1:(List.range c).length<=l.length:=eW List.nodup_range (λx hx=>hP x (h.2 x (List.mem_range.1 hx)))
 rw[List.length_range] at h1
 omega
theorem rL.le{occ:Nat->Bool}{nb:Nat->Nat->Prop}{n:Nat}{K:Nat->Nat}(h:rL occ nb n K):∀r,r<n->K r<=r:=by
 intro r hr
 cases ho:occ r with
 |false=>rw[h.no r hr ho];omega
 |true=>exact(h.yes r hr ho).le (l:=(List.range r).map K) (λx ⟨s,h1,_,_,h4⟩=>List.mem_map.2 ⟨s,List.mem_range.2 h1,h4⟩) (by simp)
def cK(K:Nat->Nat)(l:List Nat):Nat->Nat
 |0=>0
 |k+1=>max (cK K l k) (K (l.getD k 0)+1)
def mO(l:List Nat):Nat->Int->Option Int
 |0=>λ_=>none
 |k+1=>λq=>if q=((l.getD k 0:Nat):Int) then some (k:Int) else mO l k q
theorem lO{l:List Nat}:∀{k:Nat} {q v:Int},mO l k q=some v->∃i,i<k/\q=((l.getD i 0:Nat):Int)/\v=(i:Int)
 |0,q,v,h=>by cases h
 |k+1,q,v,h=>by
  unfold mO at h
  split at h
  ·cases h;exact⟨k,by omega,by assumption,rfl⟩
  ·obtain⟨i,h1,h2⟩:=lO h;exact⟨i,by omega,h2⟩
theorem Bu{l:List Nat}(h:l.Pairwise (· < ·)){k:Nat}(hk:k<l.length):mO l k ((l.getD k 0:Nat):Int)=none:=by
 cases hx:mO l k ((l.getD k 0:Nat):Int) with
 |none=>rfl
 |some v=>
  obtain⟨i,h1,h2,_⟩:=lO hx
  rw[List.pairwise_iff_getElem] at h
  have:=h i k (by omega) hk h1
  rw[List.getD_eq_getElem?_getD,List.getD_eq_getElem?_getD,List.getElem?_eq_getElem hk,List.getElem?_eq_getElem (show i<l.length by omega)] at h2
  simp only[Option.getD_some] at h2
  omega
theorem Bg{x:dk}{l:List Nat}(h:l.Pairwise (· < ·)){k:Nat}(hk:k<l.length)(hg:x.get=fw (mO l k))(hc:x.cnt=k):
  (x.put ((l.getD k 0:Nat):Int) (.n .i64 (k:Int))).get=fw (mO l (k+1))/\(x.put ((l.getD k 0:Nat):Int) (.n .i64 (k:Int))).cnt=k+1:=by
 have h0:x.get ((l.getD k 0:Nat):Int)=none:=by rw[hg];show((mO l k _).map _)=none;rw[Bu h hk];rfl
 refine⟨?_,?_⟩
 ·funext q
  show(if q=_ then _ else x.get q)=((mO l (k+1) q).map (.n .i64 ·))
  unfold mO
  by_cases e:q=((l.getD k 0:Nat):Int)
  ·rw[if_pos e,if_pos e];rfl
  ·rw[if_neg e,if_neg e,hg]
 ·show(if(x.get _).isSome=true then x.cnt else x.cnt+1)=k+1
  rw[h0,if_neg (by simp),hc]
theorem s6(la:List (Bool×Int))(regs par:Int)(cs:List In)(x:AV)(hla:la.length<1000000)(hcs:cs.length<=16384)(l:List Nat)(hl:l.Pairwise (· < ·))(hll:l.length<=100000)
  (hc:bA Try.prog 27 [ax la.length (aC la) regs par cs] [.v x,.v (.n .i64 0)])
  (ho:bA Try.prog 52 [.fs 5 cs.length (cC cs)] [.v (.fs 1 l.length (λj _=> .n .i64 ((l.getD j 0:Nat):Int)))]):
  bA Try.prog 20 [ax la.length (aC la) regs par cs] [.v (ax la.length (aC la) l.length par (cs.map (eR (mO l l.length)))),.v (.n .i64 0)]:=by
 have hadd:∀j:Nat,j<100000->IntKind.wrap .i64 ((j:Int)+1)=((j+1:Nat):Int):=λj hj=>by rw[aJ (by omega)];omega
 refine aB aW P7 ⟨by simp,by decide⟩ ?_
 simp only[bt,ax] at hc ⊢
 repeat first|with_reducible refine aw ?_|simp only[go_sem,simprocAttr]
 refine rO hc ?_
 repeat first|with_reducible refine aw ?_|simp only[go_sem,simprocAttr]
 refine fS (λr hr=>?_)
 repeat first|with_reducible refine aw ?_|simp only[go_sem,simprocAttr]
 refine ao [] (.cons (.rfl (by rfl)) .nil) ho (by simp only[AH.mark_next,ae,au,av,am,ah,ag,List.length_cons,List.length_nil];decide) ?_
 repeat first|with_reducible refine aw ?_|simp only[go_sem,simprocAttr]
 refine GA.loop (I:=λmm e H=>∃(k:Nat) (ob:Nat->Option OB) (x:dk),mm=l.length-k/\k<=l.length/\ob r=some (.mp x)/\x.own=true/\x.get=fw (mO l k)/\x.cnt=k/\
   e=az [(1,.p 0 0),(2,.p 1 0),(6,.cv (.map (some r))),(21,.fs 1 l.length (λj _=> .n .i64 ((l.getD j 0:Nat):Int))),(22,.n .i64 l.length),(23,.n .i64 k)]/\
   H=bh ob [aK 0 25 [.sl0,.n .i64 0,.n .i64 0,.sl0],aK 0 25 [.fs 2 la.length (aC la),.n .i64 regs,.n .i64 par,.fs 5 cs.length (cC cs)]]) (Wk.mkS [1,0] [] ?_ ?_ ?_) ⟨0,_,⟨true,λ_=>none,0,none⟩,rfl,Nat.zero_le _,?_,rfl,rfl,rfl,rfl,rfl⟩ ?_
 ·simp only[aX,aV,go_sem,simprocAttr]
  repeat' refine aa ?_ ?_
  all_goals first|exact ba|skip
 ·exact .cons rfl .ls (.cons rfl .ls .nil)
 ·simp
 ·simp only[go_sem,simprocAttr]
 rintro mm e H ⟨k,ob,mx,rfl,hk,hob,hown,hget,hcnt,rfl,rfl⟩
 repeat first|with_reducible refine aw ?_|simp only[go_sem,simprocAttr]
 refine⟨λh=>?_,λh=>?_⟩
 ·have hkl:k<l.length:=by omega
  have hk0:(0:Int)<=(k:Int):=by omega
  have ha:=hadd k (by omega)
  obtain⟨hp1,hp2⟩:=Bg hl hkl hget hcnt
  repeat first|with_reducible refine aw ?_|simp only[hk0,h,decide_true,hob,hown,ha,go_sem,simprocAttr]
  refine⟨_,_,_,?_,Wk.mkS [1,0] [] ?_ ?_ ?_,k+1,_,mx.put ((l.getD k 0:Nat):Int) (.n .i64 (k:Int)),rfl,by omega,?_,hown,hp1,hp2,rfl,rfl⟩
  ·omega
  ·simp only[aX,aV,go_sem,simprocAttr]
   repeat' refine aa ?_ ?_
   all_goals first|exact ba|skip
  ·exact .cons rfl .ls (.cons rfl .ls .nil)
  ·simp
  ·simp only[go_sem,simprocAttr]
 ·have hkk:k=l.length:=by omega
  subst hkk
  repeat first|with_reducible refine aw ?_|simp only[hob,hcnt,go_sem,simprocAttr]
  refine bQ [] (.cons (.rfl (by rfl)) (.cons (.rfl (by rfl)) (.cons (.rfl (by rfl)) .nil))) (kr r (mO l l.length) hla bI (by omega)) ⟨mx,hob,hget⟩ (by simp only[AH.mark_next,ae,au,av,am,af,ag,List.length_cons,List.length_nil];decide) ?_
  rintro rs N ⟨rfl,rfl⟩ hfree
  simp only[ax]
  repeat first|with_reducible refine aw ?_|simp only[go_sem,simprocAttr]
  exact⟨[_,_],rfl,cn.v rfl rfl (cn.v rfl rfl .nil)⟩
def IC{α:Type}(T:Int->α)(p:Int)(x:α):Int->α:=λk=>if k=p then x else T k
theorem bV{α:Type}(T:Int->α)(p:Int)(x:α):IC T p x p=x:=if_pos rfl
theorem eD{α:Type}(T:Int->α){p k:Int}(x:α)(h:k≠p):IC T p x k=T k:=if_neg h
def kO(T:Int->List Int)(p q:Int):Int->List Int:=IC T p (gV (T p) q)
def jp(T:Int->List Int)(a b:Int):Int->List Int:=kO (kO T a b) b a
structure gl(r0:Nat)(pa:Int->Option Nat)(T:Int->List Int)(ob:Nat->Option OB):Prop where
 out:∃mo:dk,ob r0=some (.mp mo)/\mo.own=true/\mo.get=λk=>(pa k).map λa=> .cv (.map (some a))
 at_:∀k a,pa k=some a->ob a=some (.mp (bR (T k)))
 non:∀k,pa k=none->T k=[]
 inj:∀k k' a,pa k=some a->pa k'=some a->k=k'
 ne:∀k a,pa k=some a->a≠r0
theorem gl.made{r0:Nat}{pa:Int->Option Nat}{T:Int->List Int}{ob:Nat->Option OB}(h:gl r0 pa T ob){p:Int}(hp:pa p=none){t:Nat}(ht:ob t=none){mo:dk}(hmo:ob r0=some (.mp mo))(ho:mo.own=true)(hg:mo.get=λk=>(pa k).map λa=> .cv (.map (some a))):
  gl r0 (IC pa p (some t)) T (bp (gj (bp ob t (.mp ⟨true,λ_=>none,0,none⟩))) r0 (.mp (mo.put p (.cv (.map (some t)))))):=by
 have htr:t≠r0:=λe=>by rw[e,hmo] at ht;cases ht
 have hta:∀k a,pa k=some a->a≠t:=λk a hk e=>by have:=h.at_ k a hk;rw[e,ht] at this;cases this
 refine⟨⟨_,aN _ _ _,ho,?_⟩,λk a hk=>?_,λk hk=>?_,λk k' a hk hk'=>?_,λk a hk=>?_⟩
 ·funext q
  show(if q=p then some _ else mo.get q)=(IC pa p (some t) q).map _
  unfold IC
  by_cases e:q=p
  ·rw[if_pos e,if_pos e];rfl
  ·rw[if_neg e,if_neg e,hg]
 ·by_cases e:k=p
  ·subst e
   rw[bV] at hk
   cases hk
   rw[aZ _ _ htr,dT (aN _ _ _),h.non k hp,fo]
  ·rw[eD _ _ e] at hk
   rw[aZ _ _ (h.ne k a hk)]
   refine dT ?_
   rw[aZ _ _ (hta k a hk)]
   exact h.at_ k a hk
 ·by_cases e:k=p
  ·subst e;rw[bV] at hk;cases hk
  ·rw[eD _ _ e] at hk;exact h.non k hk
 ·by_cases e:k=p
  ·subst e
   rw[bV] at hk
   cases hk
   by_cases e':k'=k
   ·exact e'.symm
   ·rw[eD _ _ e'] at hk'
    exact absurd rfl (hta k' t hk')
  ·rw[eD _ _ e] at hk
   by_cases e':k'=p
   ·subst e'
    rw[bV] at hk'
    cases hk'
    exact absurd rfl (hta k t hk)
   ·rw[eD _ _ e'] at hk'
    exact h.inj k k' a hk hk'
 ·by_cases e:k=p
  ·subst e;rw[bV] at hk;cases hk;exact htr
  ·rw[eD _ _ e] at hk;exact h.ne k a hk
theorem gl.put{r0:Nat}{pa:Int->Option Nat}{T:Int->List Int}{ob:Nat->Option OB}(h:gl r0 pa T ob){p q:Int}{a:Nat}(hp:pa p=some a):
  gl r0 pa (kO T p q) (bp (gj ob) a (.mp ((bR (T p)).put q (.b true)))):=by
 obtain⟨mo,h1,h2,h3⟩:=h.out
 refine⟨⟨mo,?_,h2,h3⟩,λk a' hk=>?_,λk hk=>?_,h.inj,h.ne⟩
 ·rw[aZ _ _ (Ne.symm (h.ne p a hp))];exact dT h1
 ·by_cases e:k=p
  ·subst e
   rw[hp] at hk
   cases hk
   rw[aN,jb]
   unfold kO
   rw[bV]
  ·rw[aZ _ _ (λe'=>e (h.inj k p a (by rw[hk,e']) hp)),dT (h.at_ k a' hk)]
   unfold kO
   rw[eD _ _ e]
 ·have e:k≠p:=λe=>by rw[e,hp] at hk;cases hk
  unfold kO
  rw[eD _ _ e];exact h.non k hk
theorem uv(x:OB):x.clr.clr=x.clr:=by cases x<;>rfl
structure kQ(r0:Nat)(pa0:Int->Option Nat)(ob0:Nat->Option OB)(pa:Int->Option Nat)(T:Int->List Int)(ob:Nat->Option OB):Prop where
 io:gl r0 pa T ob
 keep:∀r x,ob0 r=some x->r≠r0->(∀k,pa0 k≠some r)->∃y,ob r=some y/\y.clr=x.clr
 new:∀k a,pa k=some a->pa0 k=some a\/ob0 a=none
 old:∀r x,ob0 r=some x->∃y,ob r=some y
theorem kQ.refl{r0:Nat}{pa:Int->Option Nat}{T:Int->List Int}{ob:Nat->Option OB}(h:gl r0 pa T ob):kQ r0 pa ob pa T ob:=⟨h,λr x hx _ _=>⟨x,hx,rfl⟩,λk a hk=> .inl hk,λr x hx=>⟨x,hx⟩⟩
theorem kQ.put{r0:Nat}{pa0:Int->Option Nat}{ob0:Nat->Option OB}{pa:Int->Option Nat}{T:Int->List Int}{ob:Nat->Option OB}(h:kQ r0 pa0 ob0 pa T ob){p q:Int}{a:Nat}(hp:pa p=some a):
  kQ r0 pa0 ob0 pa (kO T p q) (bp (gj ob) a (.mp ((bR (T p)).put q (.b true)))):=by
 refine⟨h.io.put hp,λr x hx hr hk=>?_,h.new,λr x hx=>?_⟩
 rotate_left
 ·obtain⟨y,hy⟩:=h.old r x hx
  by_cases e:r=a
  ·rw[e,aN];exact⟨_,rfl⟩
  ·rw[aZ _ _ e];unfold gj;rw[hy];exact⟨_,rfl⟩
 obtain⟨y,hy,hc⟩:=h.keep r x hx hr hk
 have hra:r≠a:=λe=>by
  rcases h.new p a hp with h1|h1
  ·exact hk p (by rw[h1,e])
  ·rw[<-e,hx] at h1;cases h1
 refine⟨y.clr,?_,by rw[uv,hc]⟩
 rw[aZ _ _ hra]
 unfold gj
 rw[hy];rfl
theorem kQ.made{r0:Nat}{pa0:Int->Option Nat}{ob0:Nat->Option OB}{pa:Int->Option Nat}{T:Int->List Int}{ob:Nat->Option OB}(h:kQ r0 pa0 ob0 pa T ob){p:Int}(hp:pa p=none){t:Nat}(ht:ob t=none){mo:dk}(hmo:ob r0=some (.mp mo))(ho:mo.own=true)(hg:mo.get=λk=>(pa k).map λa=> .cv (.map (some a))):
  kQ r0 pa0 ob0 (IC pa p (some t)) T (bp (gj (bp ob t (.mp ⟨true,λ_=>none,0,none⟩))) r0 (.mp (mo.put p (.cv (.map (some t)))))):=by
 refine⟨h.io.made hp ht hmo ho hg,λr x hx hr hk=>?_,λk a hk=>?_,λr x hx=>?_⟩
 rotate_right
 ·obtain⟨y,hy⟩:=h.old r x hx
  by_cases e:r=r0
  ·rw[e,aN];exact⟨_,rfl⟩
  ·rw[aZ _ _ e];unfold gj;rw[aZ _ _ (iz hy ht),hy];exact⟨_,rfl⟩
 ·obtain⟨y,hy,hc⟩:=h.keep r x hx hr hk
  refine⟨y.clr,?_,by rw[uv,hc]⟩
  rw[aZ _ _ hr]
  unfold gj
  rw[aZ _ _ (iz hy ht),hy];rfl
 ·by_cases e:k=p
  ·subst e
   rw[bV] at hk
   cases hk
   refine .inr ?_
   cases hx:ob0 t with
   |none=>rfl
   |some x=>
    obtain⟨y,hy⟩:=h.old t x hx
    rw[ht] at hy;cases hy
  ·rw[eD _ _ e] at hk;exact h.new k a hk
theorem jx{mo:dk}{pa:Int->Option Nat}(h:mo.get=λk=>(pa k).map λa=> .cv (.map (some a)))(p:Int):mo.look false (.cv (.map none)) p= .cv (.map (pa p)):=by
 unfold dk.look
 have:mo.get p=(pa p).map λa=> .cv (.map (some a)):=by rw[h]
 rw[this]
 cases pa p<;>rfl
def Rp(T:Int->List Int)(a b:Int)(i:Nat):Int->List Int:=if i=0 then T else if i=1 then kO T a b else jp T a b
theorem qA(r0:Nat)(pa:Int->Option Nat)(T:Int->List Int)(a b:Int)(H:AH)(hH:gl r0 pa T H.ob)(hnx:H.next<1000):
  ov Try.prog 94 [.n .i64 a,.n .i64 b,.fp 1 (λ_=> .cv (.map (some r0))) 0] H (λv H'=>H'.next<10/\∃pa',kQ r0 pa H.ob pa' (jp T a b) H'.ob):=by
 refine xO aW PD (by simp) ?_
 refine GA.wk (Wk.arg _ _ _ (by simp)) ?_
 simp only[bt]
 refine GA.wk (Wk.mkS (L:=[(0,.n .i64 a),(1,.n .i64 b),(2,.fp 1 (λ_=> .cv (.map (some r0))) 0)]) (bl:=[]) [] [] ?_ ?_ ?_) ?_
 ·simp only[aX,aV,go_sem,simprocAttr]
  repeat' refine aa ?_ ?_
  all_goals first|exact ba|skip
 ·exact .nil
 ·simp
 generalize hob0:H.ob=ob0 at hH ⊢
 repeat first|with_reducible refine aw ?_|simp only[go_sem,simprocAttr]
 refine GA.loop (I:=λmm e H=>∃(i:Nat) (pa1:Int->Option Nat) (ob1:Nat->Option OB),mm=2-i/\i<=2/\kQ r0 pa ob0 pa1 (Rp T a b i) ob1/\e=az [(2,.fp 1 (λ_=> .cv (.map (some r0))) 0),(13,.sl 0 0 2 2),(14,.n .i64 2),(15,.n .i64 i)]/\H=bh ob1 [aK 2 142 [.n .i64 a,.n .i64 b,.n .i64 b,.n .i64 a]]) (Wk.mkS [0] [] ?_ ?_ ?_) ⟨0,pa,ob0,rfl,by omega,.refl hH,rfl,rfl⟩ ?_
 ·simp only[aX,aV,go_sem,simprocAttr]
  repeat' refine aa ?_ ?_
  all_goals first|exact ba|skip
 ·exact .cons rfl .ls .nil
 ·simp
 rintro mm e H1 ⟨i,pa1,ob1,rfl,hi,hst,rfl,rfl⟩
 obtain⟨mo,hmo,hown,hget⟩:=hst.io.out
 obtain rfl|rfl|rfl:i=0\/i=1\/i=2:=by omega
 ·have hlk:=jx hget a
  cases hp:pa1 a with
  |none=>
   rw[hp] at hlk
   repeat first|with_reducible refine aw ?_|simp only[hmo,hlk,decide_true,go_sem,simprocAttr]
   refine fS (λt ht=>?_)
   have ht:ob1 t=none:=ht
   have hst2:=hst.made hp ht hmo hown hget
   have hmo1:bp ob1 t (.mp ⟨true,λ_=>none,0,none⟩) r0=some (.mp mo):=by rw[aZ _ _ (iz hmo ht)];exact hmo
   obtain⟨mo2,e1,e2,e3⟩:=hst2.io.out
   rw[aN] at e1
   cases e1
   have hlk2:(mo.put a (.cv (.map (some t)))).look false (.cv (.map none)) a= .cv (.map (some t)):=(jx e3 a).trans (by rw[bV])
   have hat2:=hst2.io.at_ a t (bV _ _ _)
   repeat first|with_reducible refine aw ?_|simp only[hmo1,hown,hlk2,hat2,go_sem,simprocAttr]
   refine⟨rfl,?_⟩
   repeat first|with_reducible refine aw ?_|simp only[go_sem,simprocAttr]
   refine⟨_,_,_,?_,Wk.mkS [0] [] ?_ ?_ ?_,1,_,_,rfl,by omega,hst2.put (q:=b) (bV _ _ _),rfl,rfl⟩
   ·decide
   ·simp only[aX,aV,go_sem,simprocAttr]
    repeat' refine aa ?_ ?_
    all_goals first|exact ba|skip
   ·exact .cons rfl .ls .nil
   ·simp
  |some ap=>
   rw[hp] at hlk
   have hat:=hst.io.at_ a ap hp
   repeat first|with_reducible refine aw ?_|simp only[hmo,hlk,hat,decide_true,go_sem,simprocAttr]
   refine⟨rfl,?_⟩
   repeat first|with_reducible refine aw ?_|simp only[go_sem,simprocAttr]
   refine⟨_,_,_,?_,Wk.mkS [0] [] ?_ ?_ ?_,1,_,_,rfl,by omega,hst.put (q:=b) hp,rfl,rfl⟩
   ·decide
   ·simp only[aX,aV,go_sem,simprocAttr]
    repeat' refine aa ?_ ?_
    all_goals first|exact ba|skip
   ·exact .cons rfl .ls .nil
   ·simp
 ·have hlk:=jx hget b
  cases hp:pa1 b with
  |none=>
   rw[hp] at hlk
   repeat first|with_reducible refine aw ?_|simp only[hmo,hlk,decide_true,go_sem,simprocAttr]
   refine fS (λt ht=>?_)
   have ht:ob1 t=none:=ht
   have hst2:=hst.made hp ht hmo hown hget
   have hmo1:bp ob1 t (.mp ⟨true,λ_=>none,0,none⟩) r0=some (.mp mo):=by rw[aZ _ _ (iz hmo ht)];exact hmo
   obtain⟨mo2,e1,e2,e3⟩:=hst2.io.out
   rw[aN] at e1
   cases e1
   have hlk2:(mo.put b (.cv (.map (some t)))).look false (.cv (.map none)) b= .cv (.map (some t)):=(jx e3 b).trans (by rw[bV])
   have hat2:=hst2.io.at_ b t (bV _ _ _)
   repeat first|with_reducible refine aw ?_|simp only[hmo1,hown,hlk2,hat2,go_sem,simprocAttr]
   refine⟨rfl,?_⟩
   repeat first|with_reducible refine aw ?_|simp only[go_sem,simprocAttr]
   refine⟨_,_,_,?_,Wk.mkS [0] [] ?_ ?_ ?_,2,_,_,rfl,by omega,hst2.put (q:=a) (bV _ _ _),rfl,rfl⟩
   ·decide
   ·simp only[aX,aV,go_sem,simprocAttr]
    repeat' refine aa ?_ ?_
    all_goals first|exact ba|skip
   ·exact .cons rfl .ls .nil
   ·simp
  |some ap=>
   rw[hp] at hlk
   have hat:=hst.io.at_ b ap hp
   repeat first|with_reducible refine aw ?_|simp only[hmo,hlk,hat,decide_true,go_sem,simprocAttr]
   refine⟨rfl,?_⟩
   repeat first|with_reducible refine aw ?_|simp only[go_sem,simprocAttr]
   refine⟨_,_,_,?_,Wk.mkS [0] [] ?_ ?_ ?_,2,_,_,rfl,by omega,hst.put (q:=a) hp,rfl,rfl⟩
   ·decide
   ·simp only[aX,aV,go_sem,simprocAttr]
    repeat' refine aa ?_ ?_
    all_goals first|exact ba|skip
   ·exact .cons rfl .ls .nil
   ·simp
 ·repeat first|with_reducible refine aw ?_|simp only[go_sem,simprocAttr]
  exact⟨pa1,hst⟩
def jP(cs:List In)(i:Nat):Int:=a6 (cs.getD i (0,0,0,0,0)).1 (cs.getD i (0,0,0,0,0)).2.1
def fj(cs:List In)(nx:Nat->List Nat)(p q:Int):Prop:=
 (p≠q/\bn cs nx 0 p/\bn cs nx 0 q)\/∃i k,i<cs.length/\k ∈ nx i/\0<=jP cs i/\((p=jP cs i/\q≠p/\bn cs nx k q)\/(q=jP cs i/\p≠q/\bn cs nx k p))
theorem fj.symm{cs:List In}{nx:Nat->List Nat}{p q:Int}(h:fj cs nx p q):fj cs nx q p:=by
 rcases h with⟨h1,h2,h3⟩|⟨i,k,h1,h2,h3,h4|h4⟩
 ·exact .inl ⟨Ne.symm h1,h3,h2⟩
 ·exact .inr ⟨i,k,h1,h2,h3,.inr h4⟩
 ·exact .inr ⟨i,k,h1,h2,h3,.inl h4⟩
theorem rC{T:Int->List Int}{p q k x:Int}:x ∈ kO T p q k↔x ∈ T k\/(k=p/\x=q):=by
 unfold kO
 by_cases e:k=p
 ·subst e;rw[bV,db];simp
 ·rw[eD _ _ e];simp[e]
theorem bT{T:Int->List Int}{a b k x:Int}:x ∈ jp T a b k↔x ∈ T k\/(k=a/\x=b)\/(k=b/\x=a):=by
 unfold jp
 rw[rC,rC,or_assoc]
theorem mD{T:Int->List Int}(h:∀p,(T p).Nodup)(p q k:Int):(kO T p q k).Nodup:=by
 unfold kO
 by_cases e:k=p
 ·subst e;rw[bV];exact iZ (h _) _
 ·rw[eD _ _ e];exact h k
structure pX(cs:List In)(nx:Nat->List Nat)(n1:Nat)(ad:Nat->Nat)(S:Nat->List Int)(r0:Nat)(pa:Int->Option Nat)(T:Int->List Int)(ob:Nat->Option OB):Prop where
 io:gl r0 pa T ob
 lv:eN n1 ad S ob
 d1:∀k a i,i<n1->pa k=some a->a≠ad i
 d2:∀i,i<n1->ad i≠r0
 nd:∀p,(T p).Nodup
 ok:∀p q,q ∈ T p->fj cs nx p q
 sy:∀p q,q ∈ T p->p ∈ T q
section
variable {cs:List In} {nx:Nat->List Nat} {n1:Nat} {ad:Nat->Nat} {S:Nat->List Int} {r0:Nat} {pa pa':Int->Option Nat} {T:Int->List Int} {ob ob':Nat->Option OB}
theorem pX.note(h:pX cs nx n1 ad S r0 pa T ob){a b:Int}(hst:kQ r0 pa ob pa' (jp T a b) ob')(hab:fj cs nx a b):pX cs nx n1 ad S r0 pa' (jp T a b) ob':=by
 refine⟨hst.io,⟨λi hi=>?_,h.lv.inj⟩,λk x i hi hk e=>?_,h.d2,λp=>mD (mD h.nd a b) b a p,λp q hq=>?_,λp q hq=>?_⟩
 ·obtain⟨y,hy,hc⟩:=hst.keep (ad i) _ (h.lv.at_ i hi) (h.d2 i hi) (λk hk=>h.d1 k _ i hi hk rfl)
  cases y with
  |mp z=>rw[hy];exact congrArg some hc
  |it z=>cases hc
  |fix o=>cases hc
 ·rcases hst.new k x hk with h1|h1
  ·exact h.d1 k x i hi h1 e
  ·rw[e,h.lv.at_ i hi] at h1;cases h1
 ·rcases bT.1 hq with h1|⟨rfl,rfl⟩|⟨rfl,rfl⟩
  ·exact h.ok p q h1
  ·exact hab
  ·exact hab.symm
 ·rcases bT.1 hq with h1|⟨rfl,rfl⟩|⟨rfl,rfl⟩
  ·exact bT.2 (.inl (h.sy p q h1))
  ·exact bT.2 (.inr (.inr ⟨rfl,rfl⟩))
  ·exact bT.2 (.inr (.inl ⟨rfl,rfl⟩))
theorem pX.itKeep(h:pX cs nx n1 ad S r0 pa T ob){a b:Int}(hst:kQ r0 pa ob pa' (jp T a b) ob'){t:Nat}{y:mP}(ht:ob t=some (.it y)):∃c,ob' t=some (.it {y with cur:=c}):=by
 obtain⟨z,hz,hc⟩:=hst.keep t _ ht (λe=>by
  obtain⟨mo,h1,_⟩:=h.io.out
  rw[e,h1] at ht;cases ht) (λk hk=>by have:=h.io.at_ k t hk;rw[ht] at this;cases this)
 cases z with
 |mp z=>cases hc
 |fix o=>cases hc
 |it z=>
  refine⟨z.cur,?_⟩
  rw[hz]
  simp only[OB.clr,OB.it.injEq,mP.mk.injEq] at hc
  obtain⟨e1,e2,e3,_⟩:=hc
  rw[<-e1,<-e2,<-e3]
theorem pX.iter(h:pX cs nx n1 ad S r0 pa T ob){t:Nat}(ht:ob t=none\/∃y,ob t=some (.it y))(x:OB):pX cs nx n1 ad S r0 pa T (bp ob t x):=by
 have key:∀r m,ob r=some (.mp m)->bp ob t x r=some (.mp m):=λr m hr=>by
  rw[aZ _ _ (λe=>by rcases ht with h1|⟨y,h1⟩<;>rw[e,h1] at hr<;>cases hr)]
  exact hr
 obtain⟨mo,h1,h2,h3⟩:=h.io.out
 exact⟨⟨⟨mo,key _ _ h1,h2,h3⟩,λk a hk=>key _ _ (h.io.at_ k a hk),h.io.non,h.io.inj,h.io.ne⟩,⟨λi hi=>key _ _ (h.lv.at_ i hi),h.lv.inj⟩,h.d1,h.d2,h.nd,h.ok,h.sy⟩
end
abbrev CX(t:Nat):AV:= .cv (.pointer (some ⟨t,0,none⟩))
abbrev kv(cs:List In)(nx:Nat->List Nat)(n1:Nat)(ad:Nat->Nat)(r0:Nat):List (Nat×AV):=[(0,.fs 5 cs.length (cC cs)),(3,.fp 1 (λ_=> .cv (.map (some r0))) 0),(4,.f 94 [] [.fp 1 (λ_=> .cv (.map (some r0))) 0]),(5,.fs 1 n1 (Ao ad)),(6,.fs 1 cs.length (gC nx))]
structure fY(l d:List Int)(m:Nat)(ob:Nat->Option OB)(t:Nat):Prop where
 nd:d.Nodup
 sub:∀r ∈ d,r ∈ l
 it:∃seen cur,(∀q,seen q=true↔q ∈ d)/\ob t=some (.it ⟨m,λq=>((bR l).get q).isSome,seen,cur⟩)
theorem fY.keep{l d:List Int}{m t:Nat}{ob ob':Nat->Option OB}(h:fY l d m ob t)(hk:∀y,ob t=some (.it y)->∃c,ob' t=some (.it {y with cur:=c})):fY l d m ob' t:=by
 obtain⟨seen,cur,h1,h2⟩:=h.it
 obtain⟨c,hc⟩:=hk _ h2
 exact⟨h.nd,h.sub,seen,c,h1,hc⟩
theorem fY.start{l:List Int}{m t:Nat}{ob:Nat->Option OB}(h:ob t=some (.it ⟨m,λq=>((bR l).get q).isSome,λ_=>false,none⟩)):fY l [] m ob t:=⟨List.nodup_nil,λr hr=>(by cases hr),_,_,λq=>by simp,h⟩
theorem fY.len{l d:List Int}{m t:Nat}{ob:Nat->Option OB}(h:fY l d m ob t):d.length<=l.length:=eW h.nd h.sub
end Go.Proofs.Yteopfmnnhlhbmaa
namespace Go.Proofs.Yteopfmnnhlhbmaa
open Go.RowKit
theorem kS{H:AH}{Q:AV->AH->Prop}{t m:Nat}{l d:List Int}{seen:Int->Bool}{cur:Option (Int×AV)}(hn:d.Nodup)(hs:∀r ∈ d,r ∈ l)(hsn:∀q,seen q=true↔q ∈ d)
  (h1:∀q,q ∈ l->q ∉ d->∀y:mP,y.cur=some (q,.b true)->(∀ob:Nat->Option OB,fY l (d++[q]) m (bp ob t (.it y)) t)->Q (.tup [.b true,.n .i64 q,.b true]) (H.setOb t (.it y)))
  (h2:(∀q ∈ l,q ∈ d)->Q (.tup [.b false]) H):tV H Q t ⟨m,λq=>((bR l).get q).isSome,seen,cur⟩ (some (.mp (bR l))):=by
 refine xY (λq v hq=>by show((bR l).get q).isSome=true;rw[hq];rfl) (λq v hq hsq=>?_) (λhall=>h2 λq hq=>(hsn q).1 (hall q ?_))
 ·rw[du] at hq
  split at hq
  ·rename_i hql
   cases hq
   have hqd:q ∉ d:=λhm=>by
    have:=(hsn q).2 hm
    have hsq:seen q=false:=hsq
    rw[hsq] at this;cases this
   refine h1 q hql hqd _ rfl (λob=>⟨List.nodup_append.2 ⟨hn,by simp,λa ha b hb e=>by simp at hb;subst hb;subst e;exact hqd ha⟩,λr hr=>?_,_,_,λq'=>?_,aN _ _ _⟩)
   ·rcases List.mem_append.1 hr with hr|hr
    ·exact hs r hr
    ·simp at hr;subst hr;exact hql
   ·show(decide (q'=q)||seen q')=true↔q' ∈ d++[q]
    rw[Bool.or_eq_true,decide_eq_true_eq,hsn q',List.mem_append,List.mem_singleton,or_comm]
  ·cases hq
 ·show((bR l).get q).isSome=true
  rw[du,if_pos hq];rfl
theorem JI(cs:List In)(nx:Nat->List Nat)(n1:Nat)(ad:Nat->Nat)(S:Nat->List Int)(r0:Nat)(hn1:0<n1)(hnn:n1<=20000)(hS0:∀r,r ∈ S 0->bn cs nx 0 r)(pa:Int->Option Nat)(T:Int->List Int)(ob:Nat->Option OB)(t1:Nat)(hif:pX cs nx n1 ad S r0 pa T ob)(hw:fY (S 0) [] (ad 0) ob t1)
  (Q:AE->Tr AV->AH->Prop) (hQ:∀pa T ob e' H',pX cs nx n1 ad S r0 pa T ob->(∀a ∈ S 0,∀b ∈ S 0,a≠b->b ∈ T a)->Wk 90 e' H' (az (kv cs nx n1 ad r0)) (bh ob [])->Q (.exit 0) e' H'):
  GA Try.prog 90 (aE Try.prog 74) xk (az ((26,CX t1)::kv cs nx n1 ad r0)) (bh ob []) Q:=by
 have hadC:∀i,Ao ad i 0= .cv (.map (some (ad i))):=λ_=>rfl
 have hn10:(0:Int)<(n1:Int):=by omega
 refine GA.loop (I:=λmm e H=>∃(d:List Int) (pa:Int->Option Nat) (T:Int->List Int) (ob:Nat->Option OB),mm=(S 0).length-d.length/\fY (S 0) d (ad 0) ob t1/\pX cs nx n1 ad S r0 pa T ob/\(∀a ∈ d,∀b ∈ S 0,a≠b->b ∈ T a)/\e=az ((26,CX t1)::kv cs nx n1 ad r0)/\H=bh ob []) Wk.refl ⟨[],pa,T,ob,rfl,hw,hif,λa ha=>(by cases ha),rfl,rfl⟩ ?_
 rintro mm e H ⟨d,pa,T,ob,rfl,hw,hif,hdone,rfl,rfl⟩
 have hob0:=hif.lv.at_ 0 hn1
 obtain⟨seen,cur,hsn,hot⟩:=hw.it
 repeat first|with_reducible refine aw ?_|simp only[hot,hob0,go_sem,simprocAttr]
 refine kS hw.nd hw.sub hsn (λp hp hpd y hcur hw2=>?_) (λhall=>?_)
 ·have hif2:=hif.iter (.inr ⟨_,hot⟩) (.it y)
  have hw2:=hw2 ob
  have hob02:=hif2.lv.at_ 0 hn1
  have hlen:=hw2.len
  rw[List.length_append,List.length_singleton] at hlen
  repeat first|with_reducible refine aw ?_|simp only[hcur,hadC,hob02,hn10,go_sem,simprocAttr]
  refine lH (λt2 ht2=>?_)
  have ht2:bp ob t1 (.it y) t2=none:=ht2
  have hif3:=hif2.iter (.inl ht2) (.it ⟨ad 0,λk=>((bR (S 0)).get k).isSome,λ_=>false,none⟩)
  have hw3:fY (S 0) [] (ad 0) (bp (bp ob t1 (.it y)) t2 (.it ⟨ad 0,λk=>((bR (S 0)).get k).isSome,λ_=>false,none⟩)) t2:= .start (aN _ _ _)
  have hw4:fY (S 0) (d++[p]) (ad 0) (bp (bp ob t1 (.it y)) t2 (.it ⟨ad 0,λk=>((bR (S 0)).get k).isSome,λ_=>false,none⟩)) t1:=hw2.keep λz hz=>⟨z.cur,by rw[aZ _ _ (iz hz ht2)];exact hz⟩
  have htt0:t1≠t2:=λe=>by rw[<-e,aN] at ht2;cases ht2
  repeat first|with_reducible refine aw ?_|simp only[go_sem,simprocAttr]
  refine GA.loop (I:=λmm e H=>∃(d2:List Int) (pa:Int->Option Nat) (T:Int->List Int) (ob:Nat->Option OB),mm=(S 0).length-d2.length/\fY (S 0) d2 (ad 0) ob t2/\fY (S 0) (d++[p]) (ad 0) ob t1/\t1≠t2/\pX cs nx n1 ad S r0 pa T ob/\(∀a ∈ d,∀b ∈ S 0,a≠b->b ∈ T a)/\(∀b ∈ d2,p≠b->b ∈ T p)/\e=az ((34,CX t2)::(7,.n .i64 p)::(26,CX t1)::kv cs nx n1 ad r0)/\H=bh ob []) (Wk.mkS [] [] ?_ ?_ ?_) ⟨[],pa,T,_,rfl,hw3,hw4,htt0,hif3,hdone,λb hb=>(by cases hb),rfl,rfl⟩ ?_
  ·simp only[aX,aV,kv,go_sem,simprocAttr]
   repeat' refine aa ?_ ?_
   all_goals first|exact ba|skip
  ·exact .nil
  ·simp
  clear hw3 hw4 hif3 hif2 hw2 hif hw hdone hot hob0 hob02
  rintro mm e H ⟨d2,pa,T,ob,rfl,hw,hwp,htt,hif,hdone,hd2,rfl,rfl⟩
  have hob0:=hif.lv.at_ 0 hn1
  obtain⟨seen,cur,hsn,hot⟩:=hw.it
  repeat first|with_reducible refine aw ?_|simp only[hot,hob0,go_sem,simprocAttr]
  refine kS hw.nd hw.sub hsn (λq hq hqd y hcur hwq=>?_) (λhall=>?_)
  ·have hif2:=hif.iter (.inr ⟨_,hot⟩) (.it y)
   have hwq:=hwq ob
   have hlen2:=hwq.len
   rw[List.length_append,List.length_singleton] at hlen2
   have hwp2:fY (S 0) (d++[p]) (ad 0) (bp ob t2 (.it y)) t1:=hwp.keep λz hz=>⟨z.cur,by rw[aZ _ _ htt];exact hz⟩
   repeat first|with_reducible refine aw ?_|simp only[hcur,go_sem,simprocAttr]
   refine⟨λhne=>?_,λheq=>?_⟩
   ·refine GA.regp (l:=[_,_,_]) rfl ?_
    simp only[go_sem,simprocAttr]
    refine⟨PE.of (by rfl),_,_,_,_,(by simp only[go_sem,simprocAttr];rfl),(by simp only[go_sem,simprocAttr];rfl),(qA r0 pa T p q ((bh ob []).setOb t2 (.it y)) hif2.io (by show 0<1000;decide)).mono (λv H' hpost=>?_)⟩
    obtain⟨hnx,pa',hst⟩:=hpost
    have hifn:=hif2.note hst (.inl ⟨hne,hS0 p hp,hS0 q hq⟩)
    refine⟨_,_,_,?_,Wk.mkS [] [] ?_ ?_ ?_,d2++[q],pa',jp T p q,H'.ob,rfl,hwq.keep (λz hz=>hif2.itKeep hst hz),hwp2.keep (λz hz=>hif2.itKeep hst hz),htt,hifn,λa ha b hb hab=>bT.2 (.inl (hdone a ha b hb hab)),λb hb hpb=>?_,rfl,rfl⟩
    ·simp only[List.length_append,List.length_singleton];omega
    ·simp only[aX,aV,kv,go_sem,simprocAttr]
     repeat' refine aa ?_ ?_
     all_goals first|exact ba|skip
    ·exact .nil
    ·simp
    ·rcases List.mem_append.1 hb with hb|hb
     ·exact bT.2 (.inl (hd2 b hb hpb))
     ·simp at hb;subst hb;exact bT.2 (.inr (.inl ⟨rfl,rfl⟩))
   ·repeat first|with_reducible refine aw ?_|simp only[go_sem,simprocAttr]
    refine⟨_,_,_,?_,Wk.mkS [] [] ?_ ?_ ?_,d2++[q],pa,T,_,rfl,hwq,hwp2,htt,hif2,hdone,λb hb hpb=>?_,rfl,rfl⟩
    ·simp only[List.length_append,List.length_singleton];omega
    ·simp only[aX,aV,kv,go_sem,simprocAttr]
     repeat' refine aa ?_ ?_
     all_goals first|exact ba|skip
    ·exact .nil
    ·simp
    ·rcases List.mem_append.1 hb with hb|hb
     ·exact hd2 b hb hpb
     ·simp at hb;subst hb;exact absurd heq hpb
  ·repeat first|with_reducible refine aw ?_|simp only[go_sem,simprocAttr]
   refine⟨_,_,_,?_,Wk.mkS [] [] ?_ ?_ ?_,d++[p],pa,T,ob,rfl,hwp,hif,λa ha b hb hab=>?_,rfl,rfl⟩
   ·simp only[List.length_append,List.length_singleton];omega
   ·simp only[aX,aV,kv,go_sem,simprocAttr]
    repeat' refine aa ?_ ?_
    all_goals first|exact ba|skip
   ·exact .nil
   ·simp
   ·rcases List.mem_append.1 ha with ha|ha
    ·exact hdone a ha b hb hab
    ·simp at ha;subst ha;exact hd2 b (hall b hb) hab
 ·repeat first|with_reducible refine aw ?_|simp only[go_sem,simprocAttr]
  refine hQ pa T ob _ _ hif (λa ha b hb=>hdone a (hall a ha) b hb) (Wk.mkS [] [] ?_ ?_ ?_)
  ·simp only[aX,aV,kv,go_sem,simprocAttr]
   repeat' refine aa ?_ ?_
   all_goals first|exact ba|skip
  ·exact .nil
  ·simp
def R6(nx:Nat->List Nat)(S:Nat->List Int)(w:Nat->Int)(T:Int->List Int)(i:Nat):Prop:=∀i',i'<i->0<=w i'->∀k ∈ nx i',∀r ∈ S k,r≠w i'->r ∈ T (w i')
abbrev yJ(nx:Nat->List Nat)(i j:Nat)(w:Int)(n:Nat)(code:AV):List (Nat×AV):=[(61,.fs 1 (nx i).length (λj _=> .n .i64 (((nx i).getD j 0:Nat):Int))),(62,.n .i64 (nx i).length),(63,.n .i64 j),(12,.n .i64 w),(46,code),(47,.n .i64 n),(48,.n .i64 i)]
theorem JH(cs:List In)(nx:Nat->List Nat)(ad:Nat->Nat)(S:Nat->List Int)(r0:Nat)(hn:cs.length<=16384)(hops:∀x ∈ cs,0<=x.1/\x.1<39)(hnx:∀i,i<cs.length->∀k ∈ nx i,k<=cs.length)(hnl:∀i,(nx i).length<=2)(hS:∀i,i<=cs.length->∀r,r ∈ S i->bn cs nx i r)
  (pa:Int->Option Nat) (T:Int->List Int) (ob:Nat->Option OB) (hif:pX cs nx (cs.length+1) ad S r0 pa T ob) (hC1:∀a ∈ S 0,∀b ∈ S 0,a≠b->b ∈ T a)
  (Q:AE->Tr AV->AH->Prop) (hQ:∀pa T ob e' H',pX cs nx (cs.length+1) ad S r0 pa T ob->(∀a ∈ S 0,∀b ∈ S 0,a≠b->b ∈ T a)->R6 nx S (jP cs) T cs.length->Wk 90 e' H' (az (kv cs nx (cs.length+1) ad r0)) (bh ob [])->Q (.exit 4) e' H'):
  GA Try.prog 90 (aE Try.prog 74) xj (az ((46,.fs 5 cs.length (cC cs))::(47,.n .i64 cs.length)::(48,.n .i64 0)::kv cs nx (cs.length+1) ad r0)) (bh ob []) Q:=by
 have hadd:∀j:Nat,j<100000->IntKind.wrap .i64 ((j:Int)+1)=((j+1:Nat):Int):=λj hj=>by rw[aJ (by omega)];omega
 have hadC:∀i,Ao ad i 0= .cv (.map (some (ad i))):=λ_=>rfl
 have hgC:∀i,gC nx i 0= .fs 1 (nx i).length (λj _=> .n .i64 (((nx i).getD j 0:Nat):Int)):=λ_=>rfl
 refine GA.loop (I:=λmm e H=>∃(i:Nat) (pa:Int->Option Nat) (T:Int->List Int) (ob:Nat->Option OB),mm=cs.length-i/\i<=cs.length/\pX cs nx (cs.length+1) ad S r0 pa T ob/\(∀a ∈ S 0,∀b ∈ S 0,a≠b->b ∈ T a)/\R6 nx S (jP cs) T i/\e=az ((46,.fs 5 cs.length (cC cs))::(47,.n .i64 cs.length)::(48,.n .i64 i)::kv cs nx (cs.length+1) ad r0)/\H=bh ob []) Wk.refl ⟨0,pa,T,ob,rfl,Nat.zero_le _,hif,hC1,λi hi=>by omega,rfl,rfl⟩ ?_
 rintro mm e H ⟨i,pa,T,ob,rfl,hi,hif,hC1,hC2,rfl,rfl⟩
 repeat first|with_reducible refine aw ?_|simp only[go_sem,simprocAttr]
 refine⟨λh=>?_,λh=>?_⟩
 ·have hil:i<cs.length:=by omega
  have hi0:(0:Int)<=(i:Int):=by omega
  have ha:=hadd i (by omega)
  have hcc0:=te cs i
  have hcc1:=zP cs i
  have hcc2:=zO cs i
  have hcc3:=zN cs i
  have hcc4:=zM cs i
  have hmem:cs.getD i (0,0,0,0,0) ∈ cs:=by rw[List.getD_eq_getElem?_getD,List.getElem?_eq_getElem hil];exact List.getElem_mem hil
  have hop:=hops _ hmem
  have hwr:jP cs i=a6 (cs.getD i (0,0,0,0,0)).1 (cs.getD i (0,0,0,0,0)).2.1:=rfl
  generalize hx:cs.getD i (0,0,0,0,0)=x at*
  obtain⟨op,to,a,b,arg⟩:=x
  have hu:=de (lx op to a b arg hop) (by rfl)
  simp only[List.map_cons,List.map_nil,RT.fz] at hu
  simp only at hwr
  repeat first|with_reducible refine aw ?_|simp only[hi0,h,hcc0,hcc1,hcc2,hcc3,hcc4,decide_true,go_sem,simprocAttr]
  refine ao [] (.cons (.rfl (by rfl)) .nil) hu (by simp only[AH.mark_next,ae,au,av,am,af,ag,List.length_cons,List.length_nil];decide) ?_
  rw[<-hwr]
  generalize hw:jP cs i=w
  repeat first|with_reducible refine aw ?_|simp only[hi0,h,hgC,go_sem,simprocAttr]
  refine GA.loop (I:=λmm e H=>∃(j:Nat) (pa:Int->Option Nat) (T:Int->List Int) (ob:Nat->Option OB),mm=(nx i).length-j/\j<=(nx i).length/\pX cs nx (cs.length+1) ad S r0 pa T ob/\(∀a ∈ S 0,∀b ∈ S 0,a≠b->b ∈ T a)/\R6 nx S (jP cs) T i/\(0<=w->∀j',j'<j->∀r ∈ S ((nx i).getD j' 0),r≠w->r ∈ T w)/\e=az (yJ nx i j w cs.length (.fs 5 cs.length (cC cs))++kv cs nx (cs.length+1) ad r0)/\H=bh ob []) (Wk.mkS [] [] ?_ ?_ ?_) ⟨0,pa,T,_,rfl,Nat.zero_le _,hif,hC1,hC2,λ_ j hj=>by omega,rfl,rfl⟩ ?_
  ·simp only[aX,aV,kv,yJ,List.cons_append,List.nil_append,go_sem,simprocAttr]
   repeat' refine aa ?_ ?_
   all_goals first|exact ba|skip
  ·exact .nil
  ·simp
  clear hif hC1 hC2
  rintro mm e H ⟨j,pa,T,ob,rfl,hj,hif,hC1,hC2,hC3,rfl,rfl⟩
  simp only[yJ,List.cons_append,List.nil_append]
  repeat first|with_reducible refine aw ?_|simp only[go_sem,simprocAttr]
  refine⟨λh=>?_,λh=>?_⟩
  ·have hjl:j<(nx i).length:=by omega
   have hj0:(0:Int)<=(j:Int):=by omega
   have ha2:=hadd j (by have:=hnl i;omega)
   obtain⟨k,hk⟩:∃k,(nx i).getD j 0=k:=⟨_,rfl⟩
   have hkm:k ∈ nx i:=by rw[<-hk,List.getD_eq_getElem?_getD,List.getElem?_eq_getElem hjl];exact List.getElem_mem hjl
   have hkn:k<=cs.length:=hnx i hil k hkm
   have hk0:(0:Int)<=(k:Int):=by omega
   have hk1:(k:Int)<((cs.length+1:Nat):Int):=by omega
   have hobk:=hif.lv.at_ k (by omega)
   repeat first|with_reducible refine aw ?_|simp only[hj0,h,hk,hk0,hk1,hadC,hobk,go_sem,simprocAttr]
   refine lH (λt ht=>?_)
   have ht:ob t=none:=ht
   have hif3:=hif.iter (.inl ht) (.it ⟨ad k,λq=>((bR (S k)).get q).isSome,λ_=>false,none⟩)
   have hw3:fY (S k) [] (ad k) (bp ob t (.it ⟨ad k,λq=>((bR (S k)).get q).isSome,λ_=>false,none⟩)) t:= .start (aN _ _ _)
   repeat first|with_reducible refine aw ?_|simp only[go_sem,simprocAttr]
   refine GA.loop (I:=λmm e H=>∃(d:List Int) (pa:Int->Option Nat) (T:Int->List Int) (ob:Nat->Option OB),mm=(S k).length-d.length/\fY (S k) d (ad k) ob t/\pX cs nx (cs.length+1) ad S r0 pa T ob/\(∀a ∈ S 0,∀b ∈ S 0,a≠b->b ∈ T a)/\R6 nx S (jP cs) T i/\(0<=w->∀j',j'<j->∀r ∈ S ((nx i).getD j' 0),r≠w->r ∈ T w)/\(0<=w->∀r ∈ d,r≠w->r ∈ T w)/\e=az ((71,CX t)::(yJ nx i j w cs.length (.fs 5 cs.length (cC cs))++kv cs nx (cs.length+1) ad r0))/\H=bh ob []) (Wk.mkS [] [] ?_ ?_ ?_) ⟨[],pa,T,_,rfl,hw3,hif3,hC1,hC2,hC3,λ_ b hb=>(by cases hb),rfl,rfl⟩ ?_
   ·simp only[aX,aV,kv,yJ,List.cons_append,List.nil_append,go_sem,simprocAttr]
    repeat' refine aa ?_ ?_
    all_goals first|exact ba|skip
   ·exact .nil
   ·simp
   clear hw3 hif3 hif hC1 hC2 hC3 hobk ht
   rintro mm e H ⟨d,pa,T,ob,rfl,hwk,hif,hC1,hC2,hC3,hd,rfl,rfl⟩
   have hobk:=hif.lv.at_ k (by omega)
   obtain⟨seen,cur,hsn,hot⟩:=hwk.it
   simp only[yJ,List.cons_append,List.nil_append]
   repeat first|with_reducible refine aw ?_|simp only[hot,hobk,go_sem,simprocAttr]
   refine kS hwk.nd hwk.sub hsn (λq hq hqd y hcur hwq=>?_) (λhall=>?_)
   ·have hif2:=hif.iter (.inr ⟨_,hot⟩) (.it y)
    have hwq:=hwq ob
    have hlen2:=hwq.len
    rw[List.length_append,List.length_singleton] at hlen2
    by_cases hw0:0<=w
    ·repeat first|with_reducible refine aw ?_|simp only[hcur,hw0,decide_true,go_sem,simprocAttr]
     refine⟨λhne=>?_,λheq=>?_⟩
     ·refine GA.regp (l:=[_,_,_]) rfl ?_
      simp only[go_sem,simprocAttr]
      refine⟨PE.of (by rfl),_,_,_,_,(by simp only[go_sem,simprocAttr];rfl),(by simp only[go_sem,simprocAttr];rfl),(qA r0 pa T w q ((bh ob []).setOb t (.it y)) hif2.io (by show 0<1000;decide)).mono (λv H' hpost=>?_)⟩
      obtain⟨hnx2,pa',hst⟩:=hpost
      have hifn:=hif2.note hst (.inr ⟨i,k,hil,hkm,by rw[hw];exact hw0,.inl ⟨hw.symm,hne,hS k hkn q hq⟩⟩)
      refine⟨_,_,_,?_,Wk.mkS [] [] ?_ ?_ ?_,d++[q],pa',jp T w q,H'.ob,rfl,hwq.keep (λz hz=>hif2.itKeep hst hz),hifn,λa ha b hb hab=>bT.2 (.inl (hC1 a ha b hb hab)),λi' hi' h0 k' hk' r hr hrw=>bT.2 (.inl (hC2 i' hi' h0 k' hk' r hr hrw)),λj' hj' r hr hrw=>bT.2 (.inl (hC3 hw0 j' hj' r hr hrw)),λr hr hrw=>?_,rfl,rfl⟩
      ·simp only[List.length_append,List.length_singleton];omega
      ·simp only[aX,aV,kv,yJ,List.cons_append,List.nil_append,go_sem,simprocAttr]
       repeat' refine aa ?_ ?_
       all_goals first|exact ba|skip
      ·exact .nil
      ·simp
      ·rcases List.mem_append.1 hr with hr|hr
       ·exact bT.2 (.inl (hd hw0 r hr hrw))
       ·simp at hr;subst hr;exact bT.2 (.inr (.inl ⟨rfl,rfl⟩))
     ·repeat first|with_reducible refine aw ?_|simp only[go_sem,simprocAttr]
      refine⟨_,_,_,?_,Wk.mkS [] [] ?_ ?_ ?_,d++[q],pa,T,_,rfl,hwq,hif2,hC1,hC2,hC3 hw0,λr hr hrw=>?_,rfl,rfl⟩
      ·simp only[List.length_append,List.length_singleton];omega
      ·simp only[aX,aV,kv,yJ,List.cons_append,List.nil_append,go_sem,simprocAttr]
       repeat' refine aa ?_ ?_
       all_goals first|exact ba|skip
      ·exact .nil
      ·simp
      ·rcases List.mem_append.1 hr with hr|hr
       ·exact hd hw0 r hr hrw
       ·simp at hr;subst hr;exact absurd heq hrw
    ·repeat first|with_reducible refine aw ?_|simp only[hcur,hw0,decide_false,go_sem,simprocAttr]
     refine⟨_,_,_,?_,Wk.mkS [] [] ?_ ?_ ?_,d++[q],pa,T,_,rfl,hwq,hif2,hC1,hC2,rfl,rfl⟩
     ·simp only[List.length_append,List.length_singleton];omega
     ·simp only[aX,aV,kv,yJ,List.cons_append,List.nil_append,go_sem,simprocAttr]
      repeat' refine aa ?_ ?_
      all_goals first|exact ba|skip
     ·exact .nil
     ·simp
   ·repeat first|with_reducible refine aw ?_|simp only[ha2,go_sem,simprocAttr]
    refine⟨_,_,_,?_,Wk.mkS [] [] ?_ ?_ ?_,j+1,pa,T,ob,rfl,by omega,hif,hC1,hC2,λh0 j' hj' r hr hrw=>?_,rfl,rfl⟩
    ·omega
    ·simp only[aX,aV,kv,yJ,List.cons_append,List.nil_append,go_sem,simprocAttr]
     repeat' refine aa ?_ ?_
     all_goals first|exact ba|skip
    ·exact .nil
    ·simp
    ·by_cases e:j'=j
     ·subst e;rw[hk] at hr;exact hd h0 r (hall r hr) hrw
     ·exact hC3 h0 j' (by omega) r hr hrw
  ·have hjk:j=(nx i).length:=by omega
   repeat first|with_reducible refine aw ?_|simp only[ha,go_sem,simprocAttr]
   refine⟨_,_,_,?_,Wk.mkS [] [] ?_ ?_ ?_,i+1,pa,T,ob,rfl,by omega,hif,hC1,λi' hi' h0 k hk r hr hrw=>?_,rfl,rfl⟩
   ·omega
   ·simp only[aX,aV,kv,yJ,List.cons_append,List.nil_append,go_sem,simprocAttr]
    repeat' refine aa ?_ ?_
    all_goals first|exact ba|skip
   ·exact .nil
   ·simp
   ·by_cases e:i'=i
    ·subst e
     rw[hw] at h0 hrw ⊢
     obtain⟨j',hj',rfl⟩:=List.mem_iff_getElem.1 hk
     refine hC3 h0 j' (by omega) r ?_ hrw
     rw[List.getD_eq_getElem?_getD,List.getElem?_eq_getElem hj'];exact hr
    ·exact hC2 i' (by omega) h0 k hk r hr hrw
 ·have hik:i=cs.length:=by omega
  subst hik
  repeat first|with_reducible refine aw ?_|simp only[go_sem,simprocAttr]
  refine hQ pa T ob _ _ hif hC1 hC2 (Wk.mkS [] [] ?_ ?_ ?_)
  ·simp only[aX,aV,kv,go_sem,simprocAttr]
   repeat' refine aa ?_ ?_
   all_goals first|exact ba|skip
  ·exact .nil
  ·simp
theorem gl.cut{r0:Nat}{pa:Int->Option Nat}{T:Int->List Int}{ob:Nat->Option OB}(h:gl r0 pa T ob):∃N:Nat->Option OB,gl r0 pa T N/\∀r x,N r=some x->ob r=some x/\xP x=true:=by
 obtain⟨mo,h1,h2,h3⟩:=h.out
 let N:Nat->Option OB:=λr=>if @decide (r=r0\/∃k,pa k=some r) (Classical.propDecidable _)=true then ob r else none
 have hin:∀r,(r=r0\/∃k,pa k=some r)->N r=ob r:=λr hr=>if_pos (@decide_eq_true _ (Classical.propDecidable _) hr)
 refine⟨N,⟨⟨mo,by rw[hin r0 (.inl rfl)];exact h1,h2,h3⟩,λk a hk=>by rw[hin a (.inr ⟨k,hk⟩)];exact h.at_ k a hk,h.non,h.inj,h.ne⟩,λr x hx=>?_⟩
 have hx:(if @decide (r=r0\/∃k,pa k=some r) (Classical.propDecidable _)=true then ob r else none)=some x:=hx
 split at hx
 ·rename_i hd
  refine⟨hx,?_⟩
  rcases @of_decide_eq_true _ (Classical.propDecidable _) hd with e|⟨k,hk⟩
  ·have hy:=h1.symm.trans (e ▸ hx);cases hy;exact h2
  ·have hy:=(h.at_ k r hk).symm.trans hx;cases hy;rfl
 ·cases hx
theorem ka(cs:List In)(nx:Nat->List Nat)(R:Nat)(hg:bA Try.prog 66 [.fs 5 cs.length (cC cs)] [.v (.fs 1 cs.length (gC nx))])(hn:cs.length<=16384)
  (hops:∀x ∈ cs,0<=x.1/\x.1<39) (hnx:∀i,i<cs.length->∀k ∈ nx i,k<=cs.length) (hnl:∀i,(nx i).length<=2) (hR:∀x ∈ cs,∀r ∈ aF x.1 x.2.2.1 x.2.2.2.1,0<=r/\r<(R:Int)) (hw1:∀i k,i<cs.length->k ∈ nx i->k=i->a6 (cs.getD i (0,0,0,0,0)).1 (cs.getD i (0,0,0,0,0)).2.1= -1):
  ir Try.prog 74 [.fs 5 cs.length (cC cs)] (λ_=>True) (λM rs N=>∃(r0:Nat) (pa:Int->Option Nat) (T:Int->List Int),rs=[.v (.cv (.map (some r0)))]/\gl r0 pa T N/\(∀p,(T p).Nodup)/\(∀p q,q ∈ T p↔fj cs nx p q)):=by
 have hlv:=jy cs nx R hg hn hops hnx hnl hR hw1
 have hadC:∀(ad:Nat->Nat) i,Ao ad i 0= .cv (.map (some (ad i))):=λ_ _=>rfl
 have hn0:(0:Int)<((cs.length+1:Nat):Int):=by omega
 refine jC aW PW ⟨by simp,by decide⟩ λM hM=>?_
 simp only[bt]
 repeat first|with_reducible refine aw ?_|simp only[go_sem,simprocAttr]
 refine fS (λr0 hr0=>?_)
 repeat first|with_reducible refine aw ?_|simp only[go_sem,simprocAttr]
 refine bQ [] (.cons (.rfl (by rfl)) .nil) hlv True.intro (by simp only[AH.mark_next,ae,au,av,am,ah,af,ag,List.length_cons,List.length_nil];decide) ?_
 rintro rs N ⟨S,ad,hS,hob0,rfl⟩ hfree
 have hfr:∀r x,N r=some x->bp (eS M) r0 (.mp ⟨true,λ_=>none,0,none⟩) r=none:=hfree
 have hlvo:eN (cs.length+1) ad S (jK (bp (eS M) r0 (.mp ⟨true,λ_=>none,0,none⟩)) N):=⟨λi hi=>(eM (hfr _ _ (hob0.at_ i hi))).trans (hob0.at_ i hi),hob0.inj⟩
 have hr0o:jK (bp (eS M) r0 (.mp ⟨true,λ_=>none,0,none⟩)) N r0=some (.mp ⟨true,λ_=>none,0,none⟩):=Am (aN _ _ _)
 have hob1:=hlvo.at_ 0 (by omega)
 repeat first|with_reducible refine aw ?_|simp only[hadC,hn0,hob1,go_sem,simprocAttr]
 refine lH (λt1 ht1=>?_)
 generalize hobA:jK (bp (eS M) r0 (.mp ⟨true,λ_=>none,0,none⟩)) N=obA at*
 have ht1:obA t1=none:=by rw[<-hobA];exact ht1
 have hif0:pX cs nx (cs.length+1) ad S r0 (λ_=>none) (λ_=>[]) obA:=⟨⟨⟨_,hr0o,rfl,rfl⟩,λk a hk=>(by cases hk),λ_ _=>rfl,λk k' a hk=>(by cases hk),λk a hk=>(by cases hk)⟩,hlvo,λk a i _ hk=>(by cases hk),λi hi e=>(by
  have:=hfr _ _ (hob0.at_ i hi)
  rw[e,aN] at this
  cases this),λ_=>List.nodup_nil,λp q hq=>(by cases hq),λp q hq=>(by cases hq)⟩
 have hif1:=hif0.iter (.inl ht1) (.it ⟨ad 0,λk=>((bR (S 0)).get k).isSome,λ_=>false,none⟩)
 repeat first|with_reducible refine aw ?_|simp only[go_sem,simprocAttr]
 refine GA.wk (Wk.mkS (L:=(26,CX t1)::kv cs nx (cs.length+1) ad r0) (bl:=[]) [] [0] ?_ ?_ ?_) ?_
 ·simp only[aX,aV,kv,go_sem,simprocAttr]
  repeat' refine aa ?_ ?_
  all_goals first|exact ba|skip
  ·exact .cv (.p (o:=0) (j:=0) (List.mem_cons_self ..) (by simp only[go_sem,simprocAttr];rfl) (by show 0+1<=1;decide) (by show 0<1;decide) (λq hq=>by obtain rfl:q=0:=(by omega);rfl) (λq hq=>rfl))
  ·exact .cv (.fn .nil (.cons (.p (o:=0) (j:=0) (List.mem_cons_self ..) (by simp only[go_sem,simprocAttr];rfl) (by show 0+1<=1;decide) (by show 0<1;decide) (λq hq=>by obtain rfl:q=0:=(by omega);rfl) (λq hq=>rfl)) .nil))
 ·exact .nil
 ·simp
 simp only[go_sem,simprocAttr,hobA]
 refine JI cs nx (cs.length+1) ad S r0 (by omega) (by omega) (λr hr=>((hS 0 (by omega)).2 r).1 hr) _ _ _ t1 hif1 (.start (aN _ _ _)) _ (λpa T ob e' H' hif hC1 hwk=>?_)
 simp only[go_sem,simprocAttr]
 refine GA.wk hwk ?_
 repeat first|with_reducible refine aw ?_|simp only[go_sem,simprocAttr]
 refine GA.wk (Wk.mkS (L:=(46,.fs 5 cs.length (cC cs))::(47,.n .i64 cs.length)::(48,.n .i64 0)::kv cs nx (cs.length+1) ad r0) (bl:=[]) [] [] ?_ ?_ ?_) ?_
 ·simp only[aX,aV,kv,go_sem,simprocAttr]
  repeat' refine aa ?_ ?_
  all_goals first|exact ba|skip
 ·exact .nil
 ·simp
 refine JH cs nx ad S r0 hn hops hnx hnl (λi hi r hr=>((hS i hi).2 r).1 hr) pa T ob hif hC1 _ (λpa T ob e' H' hif hC1 hC2 hwk=>?_)
 simp only[go_sem,simprocAttr]
 refine GA.wk hwk ?_
 repeat first|with_reducible refine aw ?_|simp only[go_sem,simprocAttr]
 obtain⟨N2,hN1,hN2⟩:=hif.io.cut
 refine⟨[_],N2,[_],⟨r0,pa,T,rfl,hN1,hif.nd,λp q=>⟨hif.ok p q,λhpq=>?_⟩⟩,rfl,⟨⟨rfl,rfl⟩,True.intro⟩,hN2⟩
 have hlive:∀i,i<=cs.length->∀r,bn cs nx i r->r ∈ S i:=λi hi r hr=>((hS i hi).2 r).2 hr
 rcases hpq with⟨h1,h2,h3⟩|⟨i,k,hi,hk,h0,⟨rfl,h2,h3⟩|⟨rfl,h2,h3⟩⟩
 ·exact hC1 p (hlive 0 (by omega) p h2) q (hlive 0 (by omega) q h3) h1
 ·exact hC2 i hi h0 k hk q (hlive k (hnx i hi k hk) q h3) h2
 ·exact hif.sy _ _ (hC2 i hi h0 k hk p (hlive k (hnx i hi k hk) p h3) h2)
def jO(K:Nat->Nat)(l:List Nat):Nat->Int->Option Int
 |0=>λ_=>none
 |k+1=>λq=>if q=((l.getD k 0:Nat):Int) then some ((K (l.getD k 0):Nat):Int) else jO K l k q
theorem jq{K:Nat->Nat}{l:List Nat}(h:l.Pairwise (· < ·)):∀{k:Nat},k<=l.length->∀(q v:Int),jO K l k q=some v↔∃i,i<k/\q=((l.getD i 0:Nat):Int)/\v=((K (l.getD i 0):Nat):Int)
 |0,_,q,v=>⟨λh=>(by cases h),λ⟨i,h,_⟩=>by omega⟩
 |k+1,hk,q,v=>by
  unfold jO
  by_cases e:q=((l.getD k 0:Nat):Int)
  ·rw[if_pos e]
   constructor
   ·intro h;cases h;exact⟨k,by omega,e,rfl⟩
   ·rintro ⟨i,hi,hq,rfl⟩
    have:l.getD i 0=l.getD k 0:=by omega
    rw[this]
  ·rw[if_neg e,jq h (by omega) q v]
   constructor
   ·rintro ⟨i,hi,h1,h2⟩;exact⟨i,by omega,h1,h2⟩
   ·rintro ⟨i,hi,h1,h2⟩
    have:i≠k:=λe'=>e (by rw[h1,e'])
    exact⟨i,by omega,h1,h2⟩
theorem pc{l:List Nat}(h:l.Pairwise (· < ·)){i j:Nat}(hij:i<j)(hj:j<l.length):l.getD i 0<l.getD j 0:=by
 rw[List.pairwise_iff_getElem] at h
 have:=h i j (by omega) hj hij
 rw[List.getD_eq_getElem?_getD,List.getD_eq_getElem?_getD,List.getElem?_eq_getElem hj,List.getElem?_eq_getElem (show i<l.length by omega)]
 exact this
theorem j4{K K':Nat->Nat}{l:List Nat}:∀{k:Nat},(∀i,i<k->K (l.getD i 0)=K' (l.getD i 0))->jO K l k=jO K' l k
 |0,_=>rfl
 |k+1,h=>by
  unfold jO
  rw[j4 (λi hi=>h i (by omega)),h k (by omega)]
theorem vF(l:List Int)(c:Int):(bR l).look false (.b false) c= .b (decide (c ∈ l)):=by
 unfold dk.look
 rw[du]
 by_cases h:c ∈ l<;>simp[h,lI]
structure rQ(r0:Nat)(pa:Int->Option Nat)(T:Int->List Int)(r1:Nat)(x:dk)(ob:Nat->Option OB):Prop where
 io:gl r0 pa T ob
 out:ob r1=some (.mp x)
 d0:r1≠r0
 d1:∀k,pa k≠some r1
section
variable {r0:Nat} {pa:Int->Option Nat} {T:Int->List Int} {r1:Nat} {x:dk} {ob:Nat->Option OB}
theorem rQ.other(h:rQ r0 pa T r1 x ob){t:Nat}(h0:t≠r0)(h1:t≠r1)(h2:∀k,pa k≠some t)(y:OB):rQ r0 pa T r1 x (bp ob t y):=by
 obtain⟨mo,q1,q2,q3⟩:=h.io.out
 exact⟨⟨⟨mo,by rw[aZ _ _ (Ne.symm h0)];exact q1,q2,q3⟩,λk a hk=>by rw[aZ _ _ (λe=>h2 k (by rw[hk,e]))];exact h.io.at_ k a hk,h.io.non,h.io.inj,h.io.ne⟩,by rw[aZ _ _ (Ne.symm h1)];exact h.out,h.d0,h.d1⟩
theorem rQ.clr(h:rQ r0 pa T r1 x ob):rQ r0 pa T r1 x (gj ob):=by
 obtain⟨mo,q1,q2,q3⟩:=h.io.out
 exact⟨⟨⟨mo,dT q1,q2,q3⟩,λk a hk=>dT (h.io.at_ k a hk),h.io.non,h.io.inj,h.io.ne⟩,dT h.out,h.d0,h.d1⟩
theorem rQ.fresh(h:rQ r0 pa T r1 x ob){t:Nat}(ht:ob t=none):t≠r0/\t≠r1/\∀k,pa k≠some t:=by
 obtain⟨mo,q1,_⟩:=h.io.out
 exact⟨λe=>(by rw[e,q1] at ht;cases ht),λe=>(by rw[e,h.out] at ht;cases ht),λk hk=>(by rw[h.io.at_ k t hk] at ht;cases ht)⟩
theorem rQ.set(h:rQ r0 pa T r1 x ob)(x':dk):rQ r0 pa T r1 x' (bp ob r1 (.mp x')):=by
 obtain⟨mo,q1,q2,q3⟩:=h.io.out
 exact⟨⟨⟨mo,by rw[aZ _ _ (Ne.symm h.d0)];exact q1,q2,q3⟩,λk a hk=>by rw[aZ _ _ (λe=>h.d1 k (by rw[hk,e]))];exact h.io.at_ k a hk,h.io.non,h.io.inj,h.io.ne⟩,aN _ _ _,h.d0,h.d1⟩
end
abbrev pF(l:List Nat)(r0 r1:Nat)(n k:Nat):List (Nat×AV):=[(4,.cv (.map (some r0))),(5,.cv (.map (some r1))),(6,.n .i64 n),(18,.fs 1 l.length (λj _=> .n .i64 ((l.getD j 0:Nat):Int))),(19,.n .i64 l.length),(20,.n .i64 k)]
theorem gP{K K':Nat->Nat}{l:List Nat}:∀{k:Nat},(∀i,i<k->K (l.getD i 0)=K' (l.getD i 0))->cK K l k=cK K' l k
 |0,_=>rfl
 |k+1,h=>by
  unfold cK
  rw[gP (λi hi=>h i (by omega)),h k (by omega)]
def Az(T:Int->List Int)(l:List Nat)(K:Nat->Nat)(k:Nat):Prop:=∀i,i<k->ef (λc=>∃j,j<i/\((l.getD j 0:Nat):Int) ∈ T ((l.getD i 0:Nat):Int)/\K (l.getD j 0)=c) (K (l.getD i 0))
theorem ye{T:Int->List Int}{l:List Nat}(hl:l.Pairwise (· < ·)){K:Nat->Nat}{k c:Nat}(hk:k<l.length)(h:Az T l K k){tk:List Int}(htk:∀v:Int,v ∈ tk↔∃o ∈ T ((l.getD k 0:Nat):Int),jO K l k o=some v)(hc:¬(c:Int) ∈ tk)(hlt:∀c':Nat,c'<c->(c':Int) ∈ tk):
  Az T l (bc K (l.getD k 0) c) (k+1)/\jO (bc K (l.getD k 0) c) l k=jO K l k/\cK (bc K (l.getD k 0) c) l k=cK K l k:=by
 have hne:∀i,i<k->l.getD i 0≠l.getD k 0:=λi hi e=>by have:=pc hl hi hk;omega
 have hK:∀i,i<k->bc K (l.getD k 0) c (l.getD i 0)=K (l.getD i 0):=λi hi=>aq _ _ (hne i hi)
 refine⟨λi hi=>?_,j4 hK,gP hK⟩
 have hP:∀v:Nat,((∃j,j<i/\((l.getD j 0:Nat):Int) ∈ T ((l.getD i 0:Nat):Int)/\K (l.getD j 0)=v)↔∃j,j<i/\((l.getD j 0:Nat):Int) ∈ T ((l.getD i 0:Nat):Int)/\bc K (l.getD k 0) c (l.getD j 0)=v):=λv=>by
  constructor
  ·rintro ⟨j,h1,h2,h3⟩;exact⟨j,h1,h2,by rw[hK j (by omega)];exact h3⟩
  ·rintro ⟨j,h1,h2,h3⟩;exact⟨j,h1,h2,by rw[<-hK j (by omega)];exact h3⟩
 by_cases e:i=k
 ·subst e
  rw[a8]
  have key:∀v:Nat,(v:Int) ∈ tk↔∃j,j<i/\((l.getD j 0:Nat):Int) ∈ T ((l.getD i 0:Nat):Int)/\K (l.getD j 0)=v:=λv=>by
   rw[htk]
   constructor
   ·rintro ⟨o,ho,hv⟩
    obtain⟨j,h1,rfl,h3⟩:=(jq hl (by omega) _ _).1 hv
    exact⟨j,h1,ho,by omega⟩
   ·rintro ⟨j,h1,h2,h3⟩
    exact⟨_,h2,(jq hl (by omega) _ _).2 ⟨j,h1,rfl,by rw[h3]⟩⟩
  exact⟨λhx=>hc ((key c).2 ((hP c).2 hx)),λc' hc'=>(hP c').1 ((key c').1 (hlt c' hc'))⟩
 ·rw[hK i (by omega)]
  exact(h i (by omega)).congr hP
theorem ur(T T':Int->List Int)(l:List Nat)(hl:l.Pairwise (· < ·))(hll:l.length<=100000)(r0 r1 r2:Nat)(pa:Int->Option Nat)(K:Nat->Nat)(k:Nat)(hkl:k<l.length)(x:dk)(ob:Nat->Option OB)(hcs:rQ r0 pa T' r1 x ob)(hown:x.own=true)(hget:x.get=fw (jO K l k))(hmex:Az T l K k)
  (tk:List Int) (htl:tk.length<=100000) (hob2:ob r2=some (.mp (bR tk))) (htk:∀v:Int,v ∈ tk↔∃o ∈ T ((l.getD k 0:Nat):Int),jO K l k o=some v)
  (Q:AE->Tr AV->AH->Prop) (hQ:∀(K':Nat->Nat) (x':dk) (ob':Nat->Option OB) e' H',rQ r0 pa T' r1 x' ob'->x'.own=true->x'.get=fw (jO K' l (k+1))->Az T l K' (k+1)->Wk 57 e' H' (az (pF l r0 r1 (cK K' l (k+1)) k)) (bh ob' [])->Q .normal e' H'):
  GA Try.prog 57 (aE Try.prog 42) xg (az ((13,.n .i64 0)::(9,.cv (.map (some r2)))::(8,.n .i64 ((l.getD k 0:Nat):Int))::pF l r0 r1 (cK K l k) k)) (bh ob []) (gU 4 (gq (λe' H'=>GA Try.prog 57 (aE Try.prog 42) ((AC.reg xf).seq (AC.reg xe)) e' H' Q) Q)):=by
 have hadd:∀j:Nat,j<200000->IntKind.wrap .i64 ((j:Int)+1)=((j+1:Nat):Int):=λj hj=>by rw[aJ (by omega)];omega
 refine GA.loop (I:=λmm e H=>∃(c:Nat),mm=tk.length+1-c/\c<=tk.length/\(∀c':Nat,c'<c->(c':Int) ∈ tk)/\e=az ((13,.n .i64 c)::(9,.cv (.map (some r2)))::(8,.n .i64 ((l.getD k 0:Nat):Int))::pF l r0 r1 (cK K l k) k)/\H=bh ob []) Wk.refl ⟨0,rfl,Nat.zero_le _,λc' hc'=>by omega,rfl,rfl⟩ ?_
 rintro mm e H ⟨c,rfl,hcl,hlt,rfl,rfl⟩
 have hlk:=vF tk (c:Int)
 have ha:=hadd c (by omega)
 repeat first|with_reducible refine aw ?_|simp only[hob2,hlk,go_sem,simprocAttr]
 refine⟨λhin=>?_,λhout=>?_⟩
 ·have hsub:=eW (l:=(List.range (c+1)).map (λn:Nat=>(n:Int))) (l':=tk) (List.pairwise_map.2 (List.nodup_range.imp λh e=>h (by omega))) (λv hv=>by
   obtain⟨n,hn,rfl⟩:=List.mem_map.1 hv
   rw[List.mem_range] at hn
   by_cases e:n=c
   ·rw[e];exact hin
   ·exact hlt n (by omega))
  rw[List.length_map,List.length_range] at hsub
  repeat first|with_reducible refine aw ?_|simp only[ha,go_sem,simprocAttr]
  refine⟨_,_,_,?_,Wk.mkS [] [] ?_ ?_ ?_,c+1,rfl,hsub,λc' hc'=>?_,rfl,rfl⟩
  ·omega
  ·simp only[aX,aV,pF,go_sem,simprocAttr]
   repeat' refine aa ?_ ?_
   all_goals first|exact ba|skip
   all_goals exact Wv.same rfl
  ·exact .nil
  ·simp
  ·by_cases e:c'=c
   ·rw[e];exact hin
   ·exact hlt c' (by omega)
 ·obtain⟨hm1,hm2,hm3⟩:=ye hl hkl hmex htk hout hlt
  have hob1:=hcs.out
  have hmx:(if(cK K l k:Int)<((c+1:Nat):Int) then((c+1:Nat):Int) else(cK K l k:Int))=((cK (bc K (l.getD k 0) c) l (k+1):Nat):Int):=by
   show _=((max (cK (bc K (l.getD k 0) c) l k) (bc K (l.getD k 0) c (l.getD k 0)+1):Nat):Int)
   rw[hm3,a8]
   split<;>omega
  repeat first|with_reducible refine aw ?_|simp only[hob1,hown,ha,hmx,go_sem,simprocAttr]
  refine hQ (bc K (l.getD k 0) c) _ _ _ _ (hcs.clr.set (x.put ((l.getD k 0:Nat):Int) (.n .i64 (c:Int)))) hown ?_ hm1 (Wk.mkS [] [] ?_ ?_ ?_)
  ·funext q
   show(if q=_ then _ else x.get q)=((jO (bc K (l.getD k 0) c) l (k+1) q).map (.n .i64 ·))
   unfold jO
   rw[a8,hm2]
   by_cases e:q=((l.getD k 0:Nat):Int)
   ·rw[if_pos e,if_pos e];rfl
   ·rw[if_neg e,if_neg e,hget]
  ·simp only[aX,aV,pF,go_sem,simprocAttr]
   repeat' refine aa ?_ ?_
   all_goals first|exact ba|skip
   all_goals exact Wv.same rfl
  ·exact .nil
  ·simp
theorem s7(cs:List In)(T:Int->List Int)(l:List Nat)(hl:l.Pairwise (· < ·))(hll:l.length<=100000)(hTn:∀p,(T p).Nodup)(hTl:∀p,(T p).length<=100000)
  (hin:ir Try.prog 74 [.fs 5 cs.length (cC cs)] (λ_=>True) (λM rs N=>∃(r0:Nat) (pa:Int->Option Nat) (T':Int->List Int),rs=[.v (.cv (.map (some r0)))]/\gl r0 pa T' N/\(∀p,(T' p).Nodup)/\(∀p q,q ∈ T' p↔q ∈ T p)))
  (ho:bA Try.prog 52 [.fs 5 cs.length (cC cs)] [.v (.fs 1 l.length (λj _=> .n .i64 ((l.getD j 0:Nat):Int)))]):
  ir Try.prog 42 [.fs 5 cs.length (cC cs)] (λ_=>True) (λM rs N=>∃(r1:Nat) (x:dk) (K:Nat->Nat),rs=[.v (.cv (.map (some r1))),.v (.n .i64 (cK K l l.length))]/\N r1=some (.mp x)/\x.get=fw (jO K l l.length)/\
   ∀i,i<l.length->ef (λc=>∃j,j<i/\((l.getD j 0:Nat):Int) ∈ T ((l.getD i 0:Nat):Int)/\K (l.getD j 0)=c) (K (l.getD i 0))):=by
 have hadd:∀j:Nat,j<200000->IntKind.wrap .i64 ((j:Int)+1)=((j+1:Nat):Int):=λj hj=>by rw[aJ (by omega)];omega
 refine jC aW NW ⟨by simp,by decide⟩ λM hM=>?_
 simp only[bt]
 repeat first|with_reducible refine aw ?_|simp only[go_sem,simprocAttr]
 refine bQ [] (.cons (.rfl (by rfl)) .nil) hin True.intro (by simp only[AH.mark_next,ae,au,av,am,ah,af,ag,List.length_cons,List.length_nil];decide) ?_
 rintro rs N ⟨r0,pa,T',rfl,hio,hTn',hTT⟩ hfree
 have hfr:∀r x,N r=some x->eS M r=none:=hfree
 have hio2:gl r0 pa T' (jK (eS M) N):=by
  obtain⟨mo,h1,h2,h3⟩:=hio.out
  exact⟨⟨mo,(eM (hfr _ _ h1)).trans h1,h2,h3⟩,λk a hk=>(eM (hfr _ _ (hio.at_ k a hk))).trans (hio.at_ k a hk),hio.non,hio.inj,hio.ne⟩
 repeat first|with_reducible refine aw ?_|simp only[go_sem,simprocAttr]
 refine fS (λr1 hr1=>?_)
 repeat first|with_reducible refine aw ?_|simp only[go_sem,simprocAttr]
 refine ao [] (.cons (.rfl (by rfl)) .nil) ho (by simp only[AH.mark_next,ae,au,av,am,ah,aj,af,ag,List.length_cons,List.length_nil];decide) ?_
 repeat first|with_reducible refine aw ?_|simp only[go_sem,simprocAttr]
 have hpre1:jK (eS M) N r1=none:=hr1
 have hcs0:rQ r0 pa T' r1 ⟨true,λ_=>none,0,none⟩ (bp (jK (eS M) N) r1 (.mp ⟨true,λ_=>none,0,none⟩)):=by
  obtain⟨mo,q1,q2,q3⟩:=hio2.out
  have f0:r1≠r0:=λe=>by rw[e,q1] at hpre1;cases hpre1
  have f1:∀k,pa k≠some r1:=λk hk=>by rw[hio2.at_ k r1 hk] at hpre1;cases hpre1
  exact⟨⟨⟨mo,by rw[aZ _ _ (Ne.symm f0)];exact q1,q2,q3⟩,λk a hk=>by rw[aZ _ _ (λe=>f1 k (by rw[hk,e]))];exact hio2.at_ k a hk,hio2.non,hio2.inj,hio2.ne⟩,aN _ _ _,f0,f1⟩
 refine GA.loop (I:=λmm e H=>∃(k:Nat) (K:Nat->Nat) (x:dk) (ob:Nat->Option OB),mm=l.length-k/\k<=l.length/\rQ r0 pa T' r1 x ob/\x.own=true/\x.get=fw (jO K l k)/\(∀i,i<k->ef (λc=>∃j,j<i/\((l.getD j 0:Nat):Int) ∈ T ((l.getD i 0:Nat):Int)/\K (l.getD j 0)=c) (K (l.getD i 0)))/\e=az (pF l r0 r1 (cK K l k) k)/\H=bh ob []) (Wk.mkS [] [] ?_ ?_ ?_) ⟨0,λ_=>0,_,_,rfl,Nat.zero_le _,hcs0,rfl,rfl,λi hi=>by omega,rfl,rfl⟩ ?_
 ·simp only[aX,aV,pF,go_sem,simprocAttr]
  repeat' refine aa ?_ ?_
  all_goals first|exact ba|skip
  all_goals exact Wv.same rfl
 ·exact .nil
 ·simp
 clear hcs0 hio2 hio hfree hfr hpre1 hr1
 rintro mm e H ⟨k,K,x,ob,rfl,hk,hcs,hown,hget,hmex,rfl,rfl⟩
 repeat first|with_reducible refine aw ?_|simp only[go_sem,simprocAttr]
 refine⟨λh=>?_,λh=>?_⟩
 ·have hkl:k<l.length:=by omega
  have hk0:(0:Int)<=(k:Int):=by omega
  have ha:=hadd k (by omega)
  repeat first|with_reducible refine aw ?_|simp only[hk0,h,decide_true,go_sem,simprocAttr]
  refine fS (λr2 hr2=>?_)
  have hr2:ob r2=none:=hr2
  obtain⟨g0,g1,g2⟩:=hcs.fresh hr2
  have hcs2:=hcs.other g0 g1 g2 (.mp ⟨true,λ_=>none,0,none⟩)
  obtain⟨mo,hmo,hmown,hmget⟩:=hcs2.io.out
  have hlk:=jx hmget ((l.getD k 0:Nat):Int)
  have hob2:bp ob r2 (.mp ⟨true,λ_=>none,0,none⟩) r2=some (.mp (bR [])):=by rw[aN,fo]
  cases hp:pa ((l.getD k 0:Nat):Int) with
  |none=>
   rw[hp] at hlk
   have hT0:∀o,o ∉ T ((l.getD k 0:Nat):Int):=λo ho=>by
    have h1:=(hTT _ _).2 ho
    rw[hcs.io.non _ hp] at h1;cases h1
   repeat first|with_reducible refine aw ?_|simp only[hmo,hlk,go_sem,simprocAttr]
   intro t ht
   have ht:bp ob r2 (.mp ⟨true,λ_=>none,0,none⟩) t=none:=ht
   obtain⟨f0,f1,f2⟩:=hcs2.fresh ht
   have hcs3:=hcs2.other f0 f1 f2 (.fix (.mapIter none 0 #[] 0))
   have hob3:bp (bp ob r2 (.mp ⟨true,λ_=>none,0,none⟩)) t (.fix (.mapIter none 0 #[] 0)) r2=some (.mp (bR [])):=by
    rw[aZ _ _ (iz hob2 ht)];exact hob2
   have hot:bp (bp ob r2 (.mp ⟨true,λ_=>none,0,none⟩)) t (.fix (.mapIter none 0 #[] 0)) t=some (.fix (.mapIter none 0 #[] 0)):=aN _ _ _
   repeat first|with_reducible refine aw ?_|simp only[go_sem,simprocAttr]
   refine GA.loop (I:=λmm e H=>mm=0/\e=az ((28,CX t)::(9,.cv (.map (some r2)))::(8,.n .i64 ((l.getD k 0:Nat):Int))::pF l r0 r1 (cK K l k) k)/\H=bh (bp (bp ob r2 (.mp ⟨true,λ_=>none,0,none⟩)) t (.fix (.mapIter none 0 #[] 0))) []) (Wk.mkS [] [] ?_ ?_ ?_) ⟨rfl,rfl,rfl⟩ ?_
   ·simp only[aX,aV,pF,go_sem,simprocAttr]
    repeat' refine aa ?_ ?_
    all_goals first|exact ba|skip
    all_goals exact Wv.same rfl
   ·exact .nil
   ·simp
   rintro mm e H ⟨rfl,rfl,rfl⟩
   repeat first|with_reducible refine aw ?_|simp only[hot,go_sem,simprocAttr]
   refine GA.wk (Wk.mkS (L:=(13,.n .i64 0)::(9,.cv (.map (some r2)))::(8,.n .i64 ((l.getD k 0:Nat):Int))::pF l r0 r1 (cK K l k) k) (bl:=[]) [] [] ?_ ?_ ?_) ?_
   ·simp only[aX,aV,pF,go_sem,simprocAttr]
    repeat' refine aa ?_ ?_
    all_goals first|exact ba|skip
    all_goals exact Wv.same rfl
   ·exact .nil
   ·simp
   refine ur T T' l hl hll r0 r1 r2 pa K k hkl x _ hcs3 hown hget hmex [] (by simp) hob3 (λv=>⟨λh=>(by cases h),λ⟨o,ho,_⟩=>absurd ho (hT0 o)⟩) _ (λK' x' ob' e' H' c1 c2 c3 c4 hwk=>?_)
   simp only[go_sem,simprocAttr]
   refine GA.wk hwk ?_
   repeat first|with_reducible refine aw ?_|simp only[ha,go_sem,simprocAttr]
   refine⟨_,_,_,?_,Wk.mkS [] [] ?_ ?_ ?_,k+1,K',x',ob',rfl,by omega,c1,c2,c3,c4,rfl,rfl⟩
   ·omega
   ·simp only[aX,aV,pF,go_sem,simprocAttr]
    repeat' refine aa ?_ ?_
    all_goals first|exact ba|skip
    all_goals exact Wv.same rfl
   ·exact .nil
   ·simp
  |some a=>
   rw[hp] at hlk
   have hat:=hcs2.io.at_ _ a hp
   repeat first|with_reducible refine aw ?_|simp only[hmo,hlk,hat,go_sem,simprocAttr]
   refine lH (λt ht=>?_)
   have ht:bp ob r2 (.mp ⟨true,λ_=>none,0,none⟩) t=none:=ht
   obtain⟨f0,f1,f2⟩:=hcs2.fresh ht
   have hcs3:=hcs2.other f0 f1 f2 (.it ⟨a,λq=>((bR (T' ((l.getD k 0:Nat):Int))).get q).isSome,λ_=>false,none⟩)
   have hob3:bp (bp ob r2 (.mp ⟨true,λ_=>none,0,none⟩)) t (.it ⟨a,λq=>((bR (T' ((l.getD k 0:Nat):Int))).get q).isSome,λ_=>false,none⟩) r2=some (.mp (bR [])):=by
    rw[aZ _ _ (iz hob2 ht)];exact hob2
   have hw3:fY (T' ((l.getD k 0:Nat):Int)) [] a (bp (bp ob r2 (.mp ⟨true,λ_=>none,0,none⟩)) t (.it ⟨a,λq=>((bR (T' ((l.getD k 0:Nat):Int))).get q).isSome,λ_=>false,none⟩)) t:= .start (aN _ _ _)
   have htr2:t≠r2:=λe=>by rw[e,hob2] at ht;cases ht
   have hTl2:(T' ((l.getD k 0:Nat):Int)).length<=100000:=Nat.le_trans (eW (hTn' _) (λv hv=>(hTT _ v).1 hv)) (hTl _)
   repeat first|with_reducible refine aw ?_|simp only[go_sem,simprocAttr]
   refine GA.loop (I:=λmm e H=>∃(d tk:List Int) (ob:Nat->Option OB),mm=(T' ((l.getD k 0:Nat):Int)).length-d.length/\fY (T' ((l.getD k 0:Nat):Int)) d a ob t/\rQ r0 pa T' r1 x ob/\ob r2=some (.mp (bR tk))/\tk.length<=d.length/\(∀v:Int,v ∈ tk↔∃o ∈ d,jO K l k o=some v)/\e=az ((28,CX t)::(9,.cv (.map (some r2)))::(8,.n .i64 ((l.getD k 0:Nat):Int))::pF l r0 r1 (cK K l k) k)/\H=bh ob []) (Wk.mkS [] [] ?_ ?_ ?_) ⟨[],[],_,rfl,hw3,hcs3,hob3,Nat.le_refl _,λv=>⟨λh=>(by cases h),λ⟨o,ho,_⟩=>(by cases ho)⟩,rfl,rfl⟩ ?_
   ·simp only[aX,aV,pF,go_sem,simprocAttr]
    repeat' refine aa ?_ ?_
    all_goals first|exact ba|skip
    all_goals exact Wv.same rfl
   ·exact .nil
   ·simp
   clear hcs3 hob3 hw3 ht hcs2 hob2 hmo hlk hat hcs hr2
   rintro mm e H ⟨d,tk,ob,rfl,hw,hcs,hob2,htl,htk,rfl,rfl⟩
   have hat:=hcs.io.at_ _ a hp
   have hout:=hcs.out
   obtain⟨seen,cur,hsn,hot⟩:=hw.it
   repeat first|with_reducible refine aw ?_|simp only[hot,hat,go_sem,simprocAttr]
   refine kS hw.nd hw.sub hsn (λo ho hod y hcur hwo=>?_) (λhall=>?_)
   ·have hwo:=hwo ob
    have hlen2:=hwo.len
    rw[List.length_append,List.length_singleton] at hlen2
    have hcs4:=hcs.other f0 f1 f2 (.it y)
    have hout4:=hcs4.out
    have hob4:bp ob t (.it y) r2=some (.mp (bR tk)):=by rw[aZ _ _ (Ne.symm htr2)];exact hob2
    have hlk:=sC hget true o
    cases hnm:jO K l k o with
    |none=>
     rw[hnm] at hlk
     simp only[Option.isSome_none,Option.getD_none] at hlk
     repeat first|with_reducible refine aw ?_|simp only[hcur,hout4,hlk,go_sem,simprocAttr]
     refine⟨_,_,_,?_,Wk.mkS [] [] ?_ ?_ ?_,d++[o],tk,_,rfl,hwo,hcs4,hob4,by rw[List.length_append];omega,λv=>(htk v).trans ⟨λ⟨o',h1,h2⟩=>⟨o',List.mem_append.2 (.inl h1),h2⟩,λ⟨o',h1,h2⟩=>?_⟩,rfl,rfl⟩
     ·rw[List.length_append,List.length_singleton];omega
     ·simp only[aX,aV,pF,go_sem,simprocAttr]
      repeat' refine aa ?_ ?_
      all_goals first|exact ba|skip
      all_goals exact Wv.same rfl
     ·exact .nil
     ·simp
     ·rcases List.mem_append.1 h1 with h1|h1
      ·exact⟨o',h1,h2⟩
      ·simp at h1;subst h1;rw[hnm] at h2;cases h2
    |some v=>
     rw[hnm] at hlk
     repeat first|with_reducible refine aw ?_|simp only[hcur,hout4,hlk,hob4,go_sem,simprocAttr]
     have hcs5:=hcs4.clr.other g0 g1 g2 (.mp ((bR tk).put v (.b true)))
     refine⟨rfl,_,_,_,?_,Wk.mkS [] [] ?_ ?_ ?_,d++[o],gV tk v,_,rfl,hwo.keep (λz hz=>⟨none,by rw[aZ _ _ htr2];exact uw hz⟩),hcs5,by rw[aN,jb],?_,λv'=>?_,rfl,rfl⟩
     ·rw[List.length_append,List.length_singleton];omega
     ·simp only[aX,aV,pF,go_sem,simprocAttr]
      repeat' refine aa ?_ ?_
      all_goals first|exact ba|skip
      all_goals exact Wv.same rfl
     ·exact .nil
     ·simp
     ·rw[List.length_append,List.length_singleton]
      unfold gV
      split
      ·omega
      ·rw[List.length_append,List.length_singleton];omega
     ·rw[db,htk]
      constructor
      ·rintro (⟨o',h1,h2⟩|rfl)
       ·exact⟨o',List.mem_append.2 (.inl h1),h2⟩
       ·exact⟨o,List.mem_append.2 (.inr (by simp)),hnm⟩
      ·rintro ⟨o',h1,h2⟩
       rcases List.mem_append.1 h1 with h1|h1
       ·exact .inl ⟨o',h1,h2⟩
       ·simp at h1;subst h1;rw[hnm] at h2;exact .inr (Option.some.inj h2).symm
   ·repeat first|with_reducible refine aw ?_|simp only[go_sem,simprocAttr]
    refine GA.wk (Wk.mkS (L:=(13,.n .i64 0)::(9,.cv (.map (some r2)))::(8,.n .i64 ((l.getD k 0:Nat):Int))::pF l r0 r1 (cK K l k) k) (bl:=[]) [] [] ?_ ?_ ?_) ?_
    ·simp only[aX,aV,pF,go_sem,simprocAttr]
     repeat' refine aa ?_ ?_
     all_goals first|exact ba|skip
     all_goals exact Wv.same rfl
    ·exact .nil
    ·simp
    refine ur T T' l hl hll r0 r1 r2 pa K k hkl x ob hcs hown hget hmex tk (by have:=hw.len;omega) hob2 (λv=>(htk v).trans ⟨λ⟨o,h1,h2⟩=>⟨o,(hTT _ o).1 (hw.sub o h1),h2⟩,λ⟨o,h1,h2⟩=>⟨o,hall o ((hTT _ o).2 h1),h2⟩⟩) _ (λK' x' ob' e' H' c1 c2 c3 c4 hwk=>?_)
    simp only[go_sem,simprocAttr]
    refine GA.wk hwk ?_
    repeat first|with_reducible refine aw ?_|simp only[ha,go_sem,simprocAttr]
    refine⟨_,_,_,?_,Wk.mkS [] [] ?_ ?_ ?_,k+1,K',x',ob',rfl,by omega,c1,c2,c3,c4,rfl,rfl⟩
    ·omega
    ·simp only[aX,aV,pF,go_sem,simprocAttr]
     repeat' refine aa ?_ ?_
     all_goals first|exact ba|skip
     all_goals exact Wv.same rfl
    ·exact .nil
    ·simp
 ·have hkk:k=l.length:=by omega
  subst hkk
  repeat first|with_reducible refine aw ?_|simp only[go_sem,simprocAttr]
  refine⟨_,λr=>if r=r1 then some (.mp x) else none,[_,_],⟨r1,x,K,rfl,if_pos rfl,hget,hmex⟩,rfl,⟨⟨rfl,rfl⟩,⟨rfl,rfl⟩,True.intro⟩,λr y hy=>?_⟩
  have hy:(if r=r1 then some (OB.mp x) else none)=some y:=hy
  split at hy
  ·rename_i e
   cases hy
   subst e
   exact⟨hcs.out,hown⟩
  ·cases hy
end Go.Proofs.Yteopfmnnhlhbmaa
namespace Go.Proofs.Yteopfmnnhlhbmaa
open Go.RowKit
theorem sO{P:Program}{f:FuncId}{args:List AV}{x:AV}(hx:x.pu 3=true)(h:rJ P f args λv H=>∃M,Cv M H v x):bA P f args [.v x]:=by
 refine⟨h.1,λφ w args' hφ ha=>(h.2 φ w args' hφ ha).mono λe w' hq=>?_⟩
 cases e with
 |panicked c=>exact hq.elim
 |outgrown=>exact hq.elim
 |returned u=>
  obtain⟨v,Hc,σ',⟨M,hcv⟩,hv,hH,hb,hz⟩:=hq
  obtain⟨σ2,q1,q2,q3,q4,q5,q6,q7⟩:=hH.marks M
  have hu:=hcv.ok hH q1 q2 q7 hv
  exact⟨x,b9 Hc M,σ2,⟨[x],rfl,⟨rfl,hx⟩,True.intro⟩,hu.mono σ2.bare_le,q6,hb,λc hc=>(q4.eq c hc).trans (hz c hc)⟩
def bO(cs:List In)(pt:Nat->Nat)(i:Nat):List Nat:=
 if bS cs i=27\/bS cs i=29\/bS cs i=30 then[i+1,pt i+1]
 else if bS cs i=28 then[pt i+1]
 else if bS cs i=31 then(if bS cs (pt i)=29 then[pt i+1,i+1] else[i+1])
 else[i+1]
theorem rS{M:List Nat}{H:AH}{b a:Nat}{x:AB}(hx:H.at b=some x)(hm:M.contains b=true)(hs:1=x.size)(hg:x.get 0= .n .i64 (a:Int)){nx:Nat->List Nat}{i:Nat}(hnx:nx i=[a]):Cv M H (.sl b 0 1 1) (gC nx i 0):=o9 hx hm hs hnx hg
theorem xv{M:List Nat}{H:AH}{b a a2:Nat}{x:AB}(hx:H.at b=some x)(hm:M.contains b=true)(hs:2=x.size)(hg:x.get 0= .n .i64 (a:Int))(hg2:x.get 1= .n .i64 (a2:Int)){nx:Nat->List Nat}{i:Nat}(hnx:nx i=[a,a2]):Cv M H (.sl b 0 2 2) (gC nx i 0):=by
 unfold gC
 rw[hnx]
 refine .sl (by simpa using hm) hx (by rw[<-hs];decide) (by decide) (by rw[<-hs];decide) (λp j hp hj=>?_) (λp j hp hj=>rfl)
 obtain rfl:j=0:=by omega
 have hp':p<2:=hp
 obtain rfl|rfl:p=0\/p=1:=by omega
 ·exact hg
 ·exact hg2
theorem nv(cs:List In)(hn:cs.length<=16384)(pr:List Int)(hpr:pr.length=cs.length)(pt:Nat->Nat)(i:Nat)(hil:i<cs.length)(hp:dN (bS cs i)->pr.getD i 0=(pt i:Int)/\pt i<cs.length):
  bA Try.prog 59 [.fs 5 cs.length (cC cs),.fs 1 pr.length (iC .i64 pr),.n .i64 i] [.v (gC (bO cs pt) i 0)]:=by
 have hadd:∀j:Nat,j<100000->IntKind.wrap .i64 ((j:Int)+1)=((j+1:Nat):Int):=λj hj=>by rw[aJ (by omega)];omega
 have hi0:(0:Int)<=(i:Int):=by omega
 have h:(i:Int)<(cs.length:Int):=by omega
 have ha:=hadd i (by omega)
 have hcc0:=te cs i
 have hic:iC .i64 pr i 0= .n .i64 (pr.getD i 0):=rfl
 have hp0:(0:Int)<=(pt i:Int):=by omega
 have hpc0:=te cs (pt i)
 have hnx:bO cs pt i=bO cs pt i:=rfl
 conv at hnx=>rhs;unfold bO
 have hopp:(cs.getD (pt i) (0,0,0,0,0)).1=bS cs (pt i):=rfl
 have hopi:(cs.getD i (0,0,0,0,0)).1=bS cs i:=rfl
 rw[hopi] at hcc0
 rw[hopp] at hpc0
 generalize bS cs i=op at*
 generalize bS cs (pt i)=opp at*
 refine sO (by rfl) (aB aW Ma ⟨by simp,by decide⟩ ?_)
 simp only[bt]
 have hcase:(op=27\/op=29\/op=30)\/op=28\/op=31\/¬dN op:=by unfold dN;omega
 rcases hcase with h1|h1|h1|h1
 ·obtain⟨hpe,hpl⟩:=hp (by unfold dN;omega)
  have hap:=hadd (pt i) (by omega)
  rw[hpe] at hic
  rw[if_pos h1] at hnx
  rcases h1 with rfl|rfl|rfl
  all_goals
   repeat first|with_reducible refine aw ?_|simp only[hi0,h,hpr,hcc0,hic,ha,hap,decide_true,decide_false,go_sem,simprocAttr]
   exact⟨[0],xv (by simp only[go_sem,simprocAttr];rfl) (by rfl) (by rfl) (by first|rfl|simp only[go_sem,simprocAttr]) (by first|rfl|simp only[go_sem,simprocAttr]) hnx⟩
 ·obtain⟨hpe,hpl⟩:=hp (by unfold dN;omega)
  have hap:=hadd (pt i) (by omega)
  rw[hpe] at hic
  subst h1
  rw[if_neg (by decide),if_pos rfl] at hnx
  repeat first|with_reducible refine aw ?_|simp only[hi0,h,hpr,hcc0,hic,ha,hap,decide_true,decide_false,go_sem,simprocAttr]
  exact⟨[0],rS (by simp only[go_sem,simprocAttr];rfl) (by rfl) (by rfl) (by first|rfl|simp only[go_sem,simprocAttr]) hnx⟩
 ·obtain⟨hpe,hpl⟩:=hp (by unfold dN;omega)
  have hap:=hadd (pt i) (by omega)
  have hpl':(pt i:Int)<(cs.length:Int):=by omega
  rw[hpe] at hic
  subst h1
  rw[if_neg (by decide),if_neg (by decide),if_pos rfl] at hnx
  by_cases ho:opp=29
  ·rw[if_pos ho] at hnx
   subst ho
   repeat first|with_reducible refine aw ?_|simp only[hi0,h,hpr,hcc0,hic,ha,hap,hp0,hpl',hpc0,decide_true,decide_false,go_sem,simprocAttr]
   exact⟨[0],xv (by simp only[go_sem,simprocAttr];rfl) (by rfl) (by rfl) (by first|rfl|simp only[go_sem,simprocAttr]) (by first|rfl|simp only[go_sem,simprocAttr]) hnx⟩
  ·rw[if_neg ho] at hnx
   repeat first|with_reducible refine aw ?_|simp only[hi0,h,hpr,hcc0,hic,ha,hap,hp0,hpl',hpc0,ho,decide_true,decide_false,go_sem,simprocAttr]
   exact⟨[0],rS (by simp only[go_sem,simprocAttr];rfl) (by rfl) (by rfl) (by first|rfl|simp only[go_sem,simprocAttr]) hnx⟩
 ·have hn27:¬op=27:=λe=>h1 (.inl e)
  have hn28:¬op=28:=λe=>h1 (.inr (.inl e))
  have hn29:¬op=29:=λe=>h1 (.inr (.inr (.inl e)))
  have hn30:¬op=30:=λe=>h1 (.inr (.inr (.inr (.inl e))))
  have hn31:¬op=31:=λe=>h1 (.inr (.inr (.inr (.inr e))))
  rw[if_neg (by omega),if_neg hn28,if_neg hn31] at hnx
  repeat first|with_reducible refine aw ?_|simp only[hi0,h,hpr,hcc0,hic,ha,hn27,hn28,hn29,hn30,hn31,decide_true,decide_false,go_sem,simprocAttr]
  exact⟨[0],rS (by simp only[go_sem,simprocAttr];rfl) (by rfl) (by rfl) (by first|rfl|simp only[go_sem,simprocAttr]) hnx⟩
theorem qk(l:List Int)(hl:l.length<=100000)(v:Int):bA Try.prog 73 [.fs 1 l.length (iC .i64 l),.n .i64 v] [.v (.b (l.contains v))]:=by
 have hadd:∀j:Nat,j<200000->IntKind.wrap .i64 ((j:Int)+1)=((j+1:Nat):Int):=λj hj=>by rw[aJ (by omega)];omega
 refine aB aW LW ⟨by simp,by decide⟩ ?_
 simp only[bt]
 repeat first|with_reducible refine aw ?_|simp only[go_sem,simprocAttr]
 refine GA.loop (I:=λmm e H=>∃(k:Nat),mm=l.length-k/\k<=l.length/\(∀i,i<k->l.getD i 0≠v)/\e=az [(0,.fs 1 l.length (iC .i64 l)),(1,.n .i64 v),(5,.n .i64 k)]/\H=aP []) (Wk.mk [] [] ?_ ?_ ?_) ⟨0,rfl,Nat.zero_le _,λi hi=>by omega,rfl,rfl⟩ ?_
 ·simp only[aX,aV,go_sem,simprocAttr]
  repeat' refine aa ?_ ?_
  all_goals first|exact ba|skip
 ·exact .nil
 ·simp
 rintro mm e H ⟨k,rfl,hk,hno,rfl,rfl⟩
 repeat first|with_reducible refine aw ?_|simp only[go_sem,simprocAttr]
 refine⟨λh=>?_,λh=>?_⟩
 ·have hkl:k<l.length:=by omega
  have hk0:(0:Int)<=(k:Int):=by omega
  have ha:=hadd k (by omega)
  have hic:iC .i64 l k 0= .n .i64 (l.getD k 0):=rfl
  repeat first|with_reducible refine aw ?_|simp only[hk0,h,hic,decide_true,go_sem,simprocAttr]
  refine⟨λhe=>?_,λhne=>?_⟩
  ·have hc:l.contains v=true:=by
    rw[List.contains_iff_mem,<-he,List.getD_eq_getElem?_getD,List.getElem?_eq_getElem hkl]
    exact List.getElem_mem hkl
   rw[hc]
   repeat first|with_reducible refine aw ?_|simp only[go_sem,simprocAttr]
   exact⟨[_],rfl,⟨rfl,rfl⟩,True.intro⟩
  ·repeat first|with_reducible refine aw ?_|simp only[ha,go_sem,simprocAttr]
   refine⟨_,_,_,?_,Wk.mk [] [] ?_ ?_ ?_,k+1,rfl,by omega,λi hi=>?_,rfl,rfl⟩
   ·omega
   ·simp only[aX,aV,go_sem,simprocAttr]
    repeat' refine aa ?_ ?_
    all_goals first|exact ba|skip
   ·exact .nil
   ·simp
   ·by_cases e:i=k
    ·subst e;exact hne
    ·exact hno i (by omega)
 ·have hk':k=l.length:=by omega
  subst hk'
  have hc:l.contains v=false:=by
   rw[<-Bool.not_eq_true,List.contains_iff_mem]
   intro hm
   obtain⟨i,hi,rfl⟩:=List.mem_iff_getElem.1 hm
   exact hno i hi (by rw[List.getD_eq_getElem?_getD,List.getElem?_eq_getElem hi];rfl)
  rw[hc]
  repeat first|with_reducible refine aw ?_|simp only[go_sem,simprocAttr]
  exact⟨[_],rfl,⟨rfl,rfl⟩,True.intro⟩
def cY(nm:List Int)(r:Int):Int:=if r<0 then-1 else nm.getD r.toNat 0
theorem gw(nm:List Int)(r:Int)(hr:r<(nm.length:Int)):bA Try.prog 80 [.fs 1 nm.length (iC .i64 nm),.n .i64 r] [.v (.n .i64 (cY nm r))]:=by
 refine aB aW LB ⟨by simp,by decide⟩ ?_
 simp only[bt]
 repeat first|with_reducible refine aw ?_|simp only[go_sem,simprocAttr]
 refine⟨λh=>?_,λh=>?_⟩
 ·have e:cY nm r= -1:=if_pos h
  rw[e]
  repeat first|with_reducible refine aw ?_|simp only[go_sem,simprocAttr]
  exact⟨[_],rfl,⟨rfl,rfl⟩,True.intro⟩
 ·have e:cY nm r=nm.getD r.toNat 0:=if_neg (by omega)
  have hic:iC .i64 nm r.toNat 0= .n .i64 (nm.getD r.toNat 0):=rfl
  have h0:0<=r:=by omega
  rw[e]
  repeat first|with_reducible refine aw ?_|simp only[hr,h0,hic,go_sem,simprocAttr]
  exact⟨[_],rfl,⟨rfl,rfl⟩,True.intro⟩
def bC(s:Nat->Bool)(i _j:Nat):AV:= .b (s i)
def dG(s:Nat->Bool)(n:Nat):List Nat:=(List.range n).filter s
theorem vt(s:Nat->Bool)(n:Nat):dG s (n+1)=if s n=true then dG s n++[n] else dG s n:=by
 unfold dG
 rw[List.range_succ,List.filter_append]
 cases h:s n<;>simp[h]
theorem yg(s:Nat->Bool)(n:Nat):(dG s n).length<=n:=by
 have:=List.length_filter_le s (List.range n)
 rw[List.length_range] at this
 exact this
theorem rY(s:Nat->Bool)(n:Nat)(hn:n<=100000):bA Try.prog 41 [.fs 1 n (bC s)] [.o 3 1 (dG s n).length 0 (fh (dG s n))]:=by
 have hadd:∀j:Nat,j<200000->IntKind.wrap .i64 ((j:Int)+1)=((j+1:Nat):Int):=λj hj=>by rw[aJ (by omega)];omega
 refine aB aW MT ⟨by simp,by decide⟩ ?_
 simp only[bt]
 repeat first|with_reducible refine aw ?_|simp only[go_sem,simprocAttr]
 refine GA.wk (Wk.nil 3 1 3 (by simp only[go_sem,simprocAttr]) (by decide) (by simp only[go_sem,simprocAttr])) ?_
 refine GA.loop (I:=λmm e H=>∃(k:Nat),mm=n-k/\k<=n/\e=az [(0,.fs 1 n (bC s)),(3,.os 0 (dG s k).length),(4,.n .i64 k)]/\H=aP [aD 3 1 (dG s k).length 0 (fh (dG s k))]) (Wk.mk [0] [] ?_ ?_ ?_) ⟨0,rfl,Nat.zero_le _,rfl,rfl⟩ ?_
 ·simp only[aX,aV,go_sem,simprocAttr]
  repeat' refine aa ?_ ?_
  all_goals first|exact ba|skip
 ·exact .cons rfl (.rowW (by simp only[go_sem,simprocAttr];rfl) (by rfl) (by rfl) (by rfl) (by show 0<=_;exact Nat.zero_le _) (by exact Nat.le_refl _) rfl (by decide) (λi j hi=>absurd (show i<0 from hi) (Nat.not_lt_zero _))) .nil
 ·simp
 rintro mm e H ⟨k,rfl,hk,rfl,rfl⟩
 repeat first|with_reducible refine aw ?_|simp only[go_sem,simprocAttr]
 refine⟨λh=>?_,λh=>?_⟩
 ·have hkl:k<n:=by omega
  have hk0:(0:Int)<=(k:Int):=by omega
  have ha:=hadd k (by omega)
  have hbC:bC s k 0= .b (s k):=rfl
  have hlen:=yg s k
  have hl1:(dG s k).length+1<1099511627776:=by omega
  have hl2:((dG s k).length+1)*8<=140737488355328:=by omega
  have hl3:(dG s k).length<=9223372036854775806:=by omega
  have hsc:=vt s k
  cases hs:s k with
  |true=>
   rw[hs] at hbC
   rw[if_pos hs] at hsc
   repeat first|with_reducible refine aw ?_|simp only[hk0,h,hbC,decide_true,ha,hl1,hl2,hl3,go_sem,simprocAttr]
   have hlen2:(dG s (k+1)).length=(dG s k).length+1:=by rw[hsc,List.length_append,List.length_singleton]
   refine⟨_,az [(0,.fs 1 n (bC s)),(3,.os 0 (dG s (k+1)).length),(4,.n .i64 (k+1:Nat))],aP [aD 3 1 (dG s (k+1)).length 0 (fh (dG s (k+1)))],?_,Wk.mk (L:=[(0,.fs 1 n (bC s)),(3,.os 0 (dG s (k+1)).length),(4,.n .i64 (k+1:Nat))]) [2] [] ?_ ?_ ?_,k+1,rfl,by omega,rfl,rfl⟩
   ·omega
   ·rw[hlen2]
    simp only[aX,aV,go_sem,simprocAttr]
    repeat' refine aa ?_ ?_
    all_goals first|exact ba|skip
   ·rw[hlen2]
    refine .cons rfl (.rowW (by simp only[go_sem,simprocAttr];rfl) (by rfl) (by rfl) (by rfl) (by rw[app_size];show((dG s k).length+1)*1<=_;simp only[cf.len,List.length_singleton];omega) (by rw[cy];exact Nat.le_refl _) rfl (by decide) (λq j hq hj=>?_)) .nil
    obtain rfl:j=0:=by omega
    rw[Nat.mul_one,Nat.add_zero,da _ _ _ (by omega) _ hq]
    by_cases e:q<(dG s k).length
    ·rw[if_pos e]
     have:=aL (ty:=3) (n:=(dG s k).length) (z:=0) (row:=fh (dG s k)) q 0 (by decide:0<1)
     rw[Nat.mul_one,Nat.add_zero] at this
     rw[this]
     unfold fh
     rw[hsc,List.getD_eq_getElem?_getD,List.getD_eq_getElem?_getD,List.getElem?_append_left e]
     exact .cv (.rfl (by rfl))
    ·obtain rfl:q=(dG s k).length:=by omega
     rw[if_neg e]
     unfold fh
     rw[hsc,List.getD_eq_getElem?_getD,List.getElem?_append_right (Nat.le_refl _)]
     simp only[Nat.sub_self,List.getElem?_cons_zero,Option.getD_some]
     exact .cv (.rfl (by rfl))
   ·simp
  |false=>
   rw[hs] at hbC
   rw[if_neg (by rw[hs];decide)] at hsc
   repeat first|with_reducible refine aw ?_|simp only[hk0,h,hbC,decide_true,ha,go_sem,simprocAttr]
   refine⟨_,_,_,?_,Wk.mk [0] [] ?_ ?_ ?_,k+1,rfl,by omega,by rw[hsc],by rw[hsc]⟩
   ·omega
   ·simp only[aX,aV,go_sem,simprocAttr]
    repeat' refine aa ?_ ?_
    all_goals first|exact ba|skip
   ·exact .cons rfl .k1 .nil
   ·simp
 ·have hk':k=n:=by omega
  subst hk'
  repeat first|with_reducible refine aw ?_|simp only[go_sem,simprocAttr]
  exact⟨[_],rfl,cn.o (x:=_) (by simp only[go_sem,simprocAttr]) rfl rfl rfl (by decide) (Nat.le_refl _) (Nat.le_refl _) (λi j hi hj=>aL i j hj) (λi j _ _=>rfl) rfl .nil⟩
end Go.Proofs.Yteopfmnnhlhbmaa