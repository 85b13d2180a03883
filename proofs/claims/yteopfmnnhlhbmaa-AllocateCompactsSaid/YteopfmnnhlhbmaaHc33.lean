/- A part of the proof of AllocateCompacts: LiA PrsA OcA CoA CpA InA InB InC InD InE InF CoB SuA RfA RfB. No condition. -/
import Derived.Test.YteopfmnnhlhbmaaHc19
import Derived.Test.YteopfmnnhlhbmaaHc23
import Derived.Test.YteopfmnnhlhbmaaHc24
import Derived.Test.YteopfmnnhlhbmaaHc32
import Derived.Test.YteopfmnnhlhbmaaHc13
import Derived.Test.YteopfmnnhlhbmaaHc15
import Derived.Test.YteopfmnnhlhbmaaHc17
set_option linter.unusedSimpArgs false
set_option linter.unusedVariables false
set_option linter.constructorNameAsVariable false
set_option maxRecDepth 100000
set_option maxHeartbeats 4000000
namespace Go.Proofs.Yteopfmnnhlhbmaa
open Go.RowKit
noncomputable def dg(cs:List In)(nx:Nat->List Nat)(R i:Nat):List Nat:=(List.range R).filter λr:Nat=> @Decidable.decide (br cs nx i (r:Int)) (Classical.propDecidable _)
theorem nu{cs:List In}{nx:Nat->List Nat}{R i r:Nat}:r ∈ dg cs nx R i↔r<R/\br cs nx i (r:Int):=by
 unfold dg
 rw[List.mem_filter,List.mem_range,@decide_eq_true_iff _ (Classical.propDecidable _)]
theorem oy(cs:List In)(nx:Nat->List Nat)(R i:Nat):(dg cs nx R i).Pairwise (· < ·):=List.Pairwise.filter _ List.pairwise_lt_range
theorem jX(cs:List In)(nx:Nat->List Nat)(R i:Nat):(dg cs nx R i).length<=R:=by
 have:=List.length_filter_le (λr:Nat=> @Decidable.decide (br cs nx i (r:Int)) (Classical.propDecidable _)) (List.range R)
 rw[List.length_range] at this
 exact this
theorem kd{l1 l2:List Int}(h1:l1.Pairwise (· < ·))(h2:l2.Pairwise (· < ·))(hm:∀k,k ∈ l1↔k ∈ l2):l1=l2:=
 List.Perm.eq_of_pairwise (le:=(· < ·)) (λa b _ _ p q=>by omega) h1 h2 ((List.perm_ext_iff_of_nodup (h1.imp λh=>by omega) (h2.imp λh=>by omega)).2 hm)
theorem r9{cs:List In}{nx:Nat->List Nat}{R i:Nat}{zs:List Int}(hm:∀k,k ∈ zs↔br cs nx i k)(hp:zs.Pairwise (· < ·))(hr:∀k,br cs nx i k->0<=k/\k<(R:Int)):zs=(dg cs nx R i).map (λn:Nat=>(n:Int)):=by
 refine kd hp (List.pairwise_map.2 ((oy cs nx R i).imp λh=>by omega)) (λk=>?_)
 rw[hm,List.mem_map]
 constructor
 ·intro h
  obtain⟨a,b⟩:=hr k h
  exact⟨k.toNat,nu.2 ⟨by omega,by rwa [Int.toNat_of_nonneg a]⟩,Int.toNat_of_nonneg a⟩
 ·rintro ⟨n,h,rfl⟩
  exact(nu.1 h).2
theorem yi(l:List Nat):(AV.fs 1 (l.map (λn:Nat=>(n:Int))).length (λj _=> .n .i64 ((l.map (λn:Nat=>(n:Int))).getD j 0)))= .fs 1 l.length (λj _=> .n .i64 ((l.getD j 0:Nat):Int)):=by
 rw[List.length_map]
 congr 1
 funext j _
 congr 1
 rw[List.getD_eq_getElem?_getD,List.getD_eq_getElem?_getD,List.getElem?_map]
 cases l[j]? <;>rfl
theorem qo(r:Nat):bH Try.prog 38 [.cv (.map (some r))] [.v (.f 71 [] [.bx 1 (λ_=> .cv (.map (some r)))])]:=by
 refine aD aZ Mj ⟨by simp,by decide⟩ ?_
 simp only[bz]
 (try simp only[go_sem,simprocAttr])
 iterate 4 (with_reducible refine GA.go aZ rfl ?_;try simp only[go_sem,simprocAttr])
 refine GA.wk (Wk.mk (L:=[(2,.f 71 [] [.bx 1 (λ_=> .cv (.map (some r)))])]) (bl:=[]) [] [0] ?_ ?_ ?_) ?_
 ·exact⟨⟨by decide,.f 71 [] [.p 0 0],by simp only[go_sem,simprocAttr],.cv (.fn .nil (.cons (.bx (x:=ba 0 70 [.cv (.map (some r))]) (List.mem_cons_self ..) (by simp only[go_sem,simprocAttr]<;>rfl) (by show 1<=1;decide) (by show 0<1;decide) (λq hq=>by obtain rfl:q=0:=(by omega);rfl) (λq hq=>rfl)) .nil))⟩,True.intro⟩
 ·exact .nil
 ·decide
 repeat first|with_reducible refine au ?_|simp only[go_sem,simprocAttr]
 exact⟨[_],rfl,⟨rfl,rfl⟩,True.intro⟩
theorem Bc(la:List (Bool×Int))(regs par:Int)(cs:List In)(hla:la.length<1000000)(harg:∀x ∈ cs,0<=x.2.2.2.2/\x.2.2.2.2<4294967296)(hc0:(fZ la regs par cs).2=0)
  (nx:Nat->List Nat) (R:Nat) (hRs:R<=100000) (hg:bH Try.prog 66 [.fs 5 cs.length (cC cs)] [.v (.fs 1 cs.length (gC nx))]) (hn:cs.length<=16384)
  (hops:∀x ∈ cs,0<=x.1/\x.1<39) (hnx:∀i,i<cs.length->∀k ∈ nx i,k<=cs.length) (hnl:∀i,(nx i).length<=2) (hR:∀x ∈ cs,∀r ∈ aB x.1 x.2.2.1 x.2.2.2.1,0<=r/\r<(R:Int)) (hw1:∀i k,i<cs.length->k ∈ nx i->k=i->aW (cs.getD i (0,0,0,0,0)).1 (cs.getD i (0,0,0,0,0)).2.1= -1):
  bH Try.prog 11 [ay la.length (aC la) regs par cs] [.v (.fs 1 (cs.length+1) (gC (dg cs nx R))),.v (.n .i64 0)]:=by
 have hadd:∀j:Nat,j<100000->IntKind.wrap .i64 ((j:Int)+1)=((j+1:Nat):Int):=λj hj=>by rw[aV (by omega)];omega
 have hck:=g8 la regs par cs hla (by omega) harg
 rw[hc0] at hck
 have hlv:=jm cs nx R hg hn hops hnx hnl hR hw1
 have hrange:∀i k,br cs nx i k->0<=k/\k<(R:Int):=λi k h=>h.range hR
 refine aD aZ Cf ⟨by simp,by decide⟩ ?_
 simp only[bz,ay]
 repeat first|with_reducible refine au ?_|simp only[go_sem,simprocAttr]
 refine sq hck ?_
 repeat first|with_reducible refine au ?_|simp only[go_sem,simprocAttr]
 refine bP [] (.cons (.rfl (by rfl)) .nil) hlv True.intro (by simp only[go_sem,simprocAttr]) ?_
 rintro rs N ⟨S,ad,hS,hob0,rfl⟩ hfree
 repeat first|with_reducible refine au ?_|simp only[go_sem,simprocAttr]
 refine GA.wk (Wk.nil 8 1 39 (by simp only[go_sem,simprocAttr]) (by decide) (by simp only[go_sem,simprocAttr])) ?_
 refine GA.loop (I:=λmm e H=>∃(i:Nat) (ob:Nat->Option OB),mm=cs.length+1-i/\i<=cs.length+1/\eH (cs.length+1) ad S ob/\e=aF [(8,.os 0 i),(25,.fs 1 (cs.length+1) (zE ad)),(26,.n .i64 (cs.length+1:Nat)),(27,.n .i64 i)]/\H=bg ob [aG 39 1 i 0 (gC (dg cs nx R))]) (Wk.mkS [1] [] ?_ ?_ ?_) ⟨0,_,rfl,Nat.zero_le _,?_,rfl,rfl⟩ ?_
 ·simp only[bh,bf,go_sem,simprocAttr]
  repeat' refine ab ?_ ?_
  all_goals first|exact bm|skip
 ·exact .cons rfl (.rowW (by simp only[go_sem,simprocAttr];rfl) (by rfl) (by rfl) (by rfl) (by decide) (by exact Nat.le_refl _) rfl (by decide) (λi j hi=>by omega)) .nil
 ·simp
 ·simp only[go_sem,simprocAttr]
  exact⟨λi hi=>(eF (by first|rfl|(rw[cI]))).trans (hob0.at_ i hi),hob0.inj⟩
 rintro mm e H ⟨i,ob,rfl,hi,hob,rfl,rfl⟩
 repeat first|with_reducible refine au ?_|simp only[go_sem,simprocAttr]
 refine⟨λh=>?_,λh=>?_⟩
 ·have hil:i<cs.length+1:=by omega
  have hi0:(0:Int)<=(i:Int):=by omega
  have ha:=hadd i (by omega)
  have hl1:i+1<1099511627776:=by omega
  have hl2:(i+1)*24<=140737488355328:=by omega
  have hl3:i<=9223372036854775806:=by omega
  have had:zE ad i 0= .cv (.map (some (ad i))):=rfl
  repeat first|with_reducible refine au ?_|simp only[hi0,h,had,decide_true,go_sem,simprocAttr]
  refine am [] (.cons (.rfl (by rfl)) .nil) (qo _) (by simp only[af,List.length_cons,List.length_nil];decide) ?_
  repeat first|with_reducible refine au ?_|simp only[go_sem,simprocAttr]
  obtain⟨hnd,hmem⟩:=hS i (by omega)
  refine bP [] (.cons (.rfl (by rfl)) .nil) (lg _) ⟨bQ (S i),hob.at_ i hil,?_,?_⟩ (by simp only[af,List.length_cons,List.length_nil];decide) ?_
  ·have:=gu hnd (λr hr=>hrange i r ((hmem r).1 hr))
   rw[gj];omega
  ·intro k v hk
   rw[dn] at hk
   split at hk
   ·rename_i hk'
    have:=hrange i k ((hmem k).1 hk')
    omega
   ·cases hk
  rintro rs N2 ⟨ss,hss,hpw,rfl,rfl⟩ hfree2
  have hsl:ss=(dg cs nx R i).map (λn:Nat=>(n:Int)):=r9 (λk=>by
   rw[hss _ (hob.at_ i hil) k,dn,<-hmem k]
   by_cases e:k ∈ S i<;>simp[e]) hpw (hrange i)
  subst hsl
  simp only[yi]
  repeat first|with_reducible refine au ?_|simp only[hi0,decide_true,ha,hl1,hl2,hl3,go_sem,simprocAttr]
  refine⟨_,_,_,?_,Wk.mkS [2] [] ?_ ?_ ?_,i+1,_,rfl,by omega,?_,rfl,rfl⟩
  ·omega
  ·simp only[bh,bf,go_sem,simprocAttr]
   repeat' refine ab ?_ ?_
   all_goals first|exact bm|skip
  ·exact .cons rfl (.rowW (by simp only[go_sem,simprocAttr];rfl) (by rfl) (by rfl) (by rfl) (by rw[app_size];show(i+1)*1<=_;simp only[cf.len,List.length_singleton];omega) (by rw[cw];exact Nat.le_refl _) rfl (by decide) (λq j hq hj=>dN (by omega) hq hj (.rfl (by rfl)))) .nil
  ·simp
  ·(try simp only[cI,go_sem,simprocAttr]);exact hob
 ·have hk:i=cs.length+1:=by omega
  subst hk
  refine GA.wk (Wk.mkS (L:=[(8,.fs 1 (cs.length+1) (gC (dg cs nx R)))]) (bl:=[]) [] [0] ?_ ?_ ?_) ?_
  ·refine⟨⟨by decide,.os 0 (cs.length+1),by simp only[go_sem,simprocAttr],.cv (.os (x:=aG 39 1 (cs.length+1) 0 (gC (dg cs nx R))) (by simp) (by simp only[go_sem,simprocAttr]) (Nat.le_refl _) (λi j _ hj=>aN i j hj) (λi j _ _=>rfl))⟩,True.intro⟩
  ·exact .nil
  ·simp
  repeat first|with_reducible refine au ?_|simp only[go_sem,simprocAttr]
  exact⟨[_,_],rfl,⟨rfl,rfl⟩,⟨rfl,rfl⟩,True.intro⟩
theorem xO(la:List (Bool×Int))(regs par:Int)(cs:List In)(hla:la.length<1000000)(hcs:cs.length<1000000)(harg:∀x ∈ cs,0<=x.2.2.2.2/\x.2.2.2.2<4294967296)(hc0:(fZ la regs par cs).2≠0)(nx:Nat->List Nat):
  bH Try.prog 11 [ay la.length (aC la) regs par cs] [.v (.fs 1 0 (gC nx)),.v (.n .i64 (fZ la regs par cs).2)]:=by
 refine dM (rs:=[.o 39 1 0 0 (gC nx),.v (.n .i64 (fZ la regs par cs).2)]) ?_ (by rfl)
 have hck:=g8 la regs par cs hla hcs harg
 refine aD aZ Cf ⟨by simp,by decide⟩ ?_
 simp only[bz,ay]
 repeat first|with_reducible refine au ?_|simp only[go_sem,simprocAttr]
 refine sq hck ?_
 repeat first|with_reducible refine au ?_|simp only[hc0,decide_true,decide_false,go_sem,simprocAttr]
 exact⟨[_,_],rfl,cX.o0 rfl (cX.v rfl rfl .nil)⟩
def rH(L:Nat->List Nat):Nat->Nat
 |0=>0
 |n+1=>max (rH L n) (L n).length
theorem i9(na:Nat)(ra:Nat->Nat->AV)(regs par:Int)(cs:List In)(L:Nat->List Nat)(n:Nat)(hn:n<=20000)(e:Int)(hL:∀i,(L i).length<=100000)(hlive:bH Try.prog 11 [ay na ra regs par cs] [.v (.fs 1 n (gC L)),.v (.n .i64 e)]):
  bH Try.prog 13 [ay na ra regs par cs] [.v (.n .i64 (rH L n)),.v (.n .i64 e)]:=by
 have hadd:∀j:Nat,j<100000->IntKind.wrap .i64 ((j:Int)+1)=((j+1:Nat):Int):=λj hj=>by rw[aV (by omega)];omega
 simp only[ay] at hlive
 refine aD aZ Me ⟨by simp,by decide⟩ ?_
 simp only[bz,ay]
 repeat first|with_reducible refine au ?_|simp only[go_sem,simprocAttr]
 refine sq hlive ?_
 repeat first|with_reducible refine au ?_|simp only[go_sem,simprocAttr]
 refine GA.loop (I:=λmm e' H=>∃(i:Nat),mm=n-i/\i<=n/\e'=aF [(6,.n .i64 (rH L i)),(5,.n .i64 e),(14,.fs 1 n (gC L)),(15,.n .i64 n),(16,.n .i64 i)]/\H=aY []) (Wk.mk [] [] ?_ ?_ ?_) ⟨0,rfl,Nat.zero_le _,rfl,rfl⟩ ?_
 ·simp only[bh,bf,go_sem,simprocAttr]
  repeat' refine ab ?_ ?_
  all_goals first|exact bm|skip
 ·exact .nil
 ·simp
 rintro mm e' H ⟨i,rfl,hi,rfl,rfl⟩
 repeat first|with_reducible refine au ?_|simp only[go_sem,simprocAttr]
 refine⟨λh=>?_,λh=>?_⟩
 ·have hil:i<n:=by omega
  have hi0:(0:Int)<=(i:Int):=by omega
  have ha:=hadd i (by omega)
  have hgC:gC L i 0= .fs 1 (L i).length (λj _=> .n .i64 (((L i).getD j 0:Nat):Int)):=rfl
  have hmx:(if(rH L i:Int)<((L i).length:Int) then((L i).length:Int) else(rH L i:Int))=((rH L (i+1):Nat):Int):=by
   show _=((max (rH L i) (L i).length:Nat):Int)
   split<;>omega
  repeat first|with_reducible refine au ?_|simp only[hi0,h,hgC,decide_true,ha,hmx,go_sem,simprocAttr]
  refine⟨_,_,_,?_,Wk.mk [] [] ?_ ?_ ?_,i+1,rfl,by omega,rfl,rfl⟩
  ·omega
  ·simp only[bh,bf,go_sem,simprocAttr]
   repeat' refine ab ?_ ?_
   all_goals first|exact bm|skip
  ·exact .nil
  ·simp
 ·have hk:i=n:=by omega
  subst hk
  repeat first|with_reducible refine au ?_|simp only[go_sem,simprocAttr]
  exact⟨[_,_],rfl,⟨rfl,rfl⟩,⟨rfl,rfl⟩,True.intro⟩
def bL(x:In):List Int:=aB x.1 x.2.2.1 x.2.2.2.1++[aW x.1 x.2.1]
def cP(cs:List In)(r:Int):Bool:=cs.any λx=>(bL x).contains r
def bK(cs:List In)(R:Nat):List Nat:=(List.range R).filter λr:Nat=>cP cs (r:Int)
def ph(s:List Int)(r:Int):List Int:=if 0<=r then gM s r else s
def eZ(s l:List Int):List Int:=l.foldl ph s
def mz(cs:List In):Nat->List Int
 |0=>[]
 |k+1=>eZ (mz cs k) (bL (cs.getD k (0,0,0,0,0)))
theorem zD{s:List Int}{k r:Int}:r ∈ ph s k↔r ∈ s\/(r=k/\0<=k):=by
 unfold ph
 split
 ·rename_i h;rw[db];simp[h]
 ·rename_i h;simp[h]
theorem sY{s:List Int}(h:s.Nodup)(k:Int):(ph s k).Nodup:=by
 unfold ph;split
 ·exact iT h k
 ·exact h
theorem mw:∀(l s:List Int) (r:Int),r ∈ eZ s l↔r ∈ s\/(r ∈ l/\0<=r)
 |[],s,r=>by simp[eZ]
 |k::l,s,r=>by
  show r ∈ eZ (ph s k) l↔_
  rw[mw l,zD,List.mem_cons]
  constructor
  ·rintro ((h|⟨rfl,h⟩)|⟨h1,h2⟩)
   ·exact .inl h
   ·exact .inr ⟨.inl rfl,h⟩
   ·exact .inr ⟨.inr h1,h2⟩
  ·rintro (h|⟨rfl|h1,h2⟩)
   ·exact .inl (.inl h)
   ·exact .inl (.inr ⟨rfl,h2⟩)
   ·exact .inr ⟨h1,h2⟩
theorem jC:∀(l:List Int) {s:List Int},s.Nodup->(eZ s l).Nodup
 |[],s,h=>h
 |k::l,s,h=>jC l (sY h k)
theorem qY{s l:List Int}{j:Nat}(h:j<l.length):eZ s (l.take (j+1))=ph (eZ s (l.take j)) (l.getD j 0):=by
 rw[List.take_add_one,List.getElem?_eq_getElem h]
 unfold eZ
 rw[List.foldl_append]
 simp[List.getD,h]
theorem my(cs:List In):∀k,(mz cs k).Nodup
 |0=>List.nodup_nil
 |k+1=>jC _ (my cs k)
theorem jD(cs:List In):∀k,k<=cs.length->∀r,r ∈ mz cs k↔0<=r/\∃i,i<k/\r ∈ bL (cs.getD i (0,0,0,0,0))
 |0,_,r=>by simp[mz]
 |k+1,h,r=>by
  unfold mz
  rw[mw,jD cs k (by omega)]
  constructor
  ·rintro (⟨h0,i,hi,h1⟩|⟨h1,h0⟩)
   ·exact⟨h0,i,by omega,h1⟩
   ·exact⟨h0,k,by omega,h1⟩
  ·rintro ⟨h0,i,hi,h1⟩
   by_cases e:i=k
   ·subst e;exact .inr ⟨h1,h0⟩
   ·exact .inl ⟨h0,i,by omega,h1⟩
theorem gr{cs:List In}{r:Int}:cP cs r=true↔∃i,i<cs.length/\r ∈ bL (cs.getD i (0,0,0,0,0)):=by
 unfold cP
 rw[List.any_eq_true]
 constructor
 ·rintro ⟨x,hx,h⟩
  obtain⟨i,hi,rfl⟩:=List.mem_iff_getElem.1 hx
  refine⟨i,hi,?_⟩
  rw[List.getD_eq_getElem?_getD,List.getElem?_eq_getElem hi]
  simpa using h
 ·rintro ⟨i,hi,h⟩
  refine⟨cs[i],List.getElem_mem hi,?_⟩
  rw[List.getD_eq_getElem?_getD,List.getElem?_eq_getElem hi] at h
  simpa using h
theorem gq{cs:List In}{R r:Nat}:r ∈ bK cs R↔r<R/\cP cs (r:Int)=true:=by
 unfold bK;rw[List.mem_filter,List.mem_range]
theorem cK(cs:List In)(R:Nat):(bK cs R).Pairwise (· < ·):=List.Pairwise.filter _ List.pairwise_lt_range
theorem pY(cs:List In)(R:Nat):(bK cs R).length<=R:=by
 have:=List.length_filter_le (λr:Nat=>cP cs (r:Int)) (List.range R)
 rw[List.length_range] at this
 exact this
theorem uM{cs:List In}{R:Nat}{zs:List Int}(hm:∀k,k ∈ zs↔0<=k/\cP cs k=true)(hp:zs.Pairwise (· < ·))(hr:∀k,cP cs k=true->k<(R:Int)):zs=(bK cs R).map (λn:Nat=>(n:Int)):=by
 refine kd hp (List.pairwise_map.2 ((cK cs R).imp λh=>by omega)) (λk=>?_)
 rw[hm,List.mem_map]
 constructor
 ·rintro ⟨h0,h⟩
  have:=hr k h
  exact⟨k.toNat,gq.2 ⟨by omega,by rwa [Int.toNat_of_nonneg h0]⟩,Int.toNat_of_nonneg h0⟩
 ·rintro ⟨n,h,rfl⟩
  exact⟨by omega,(gq.1 h).2⟩
theorem jH(x:In):(bL x).length=(aB x.1 x.2.2.1 x.2.2.2.1).length+1:=by unfold bL;simp
theorem ul(x:In){ty i j:Nat}(hm:(aB x.1 x.2.2.1 x.2.2.2.1).length<1000000)(hi:i<(aB x.1 x.2.2.1 x.2.2.2.1).length+1)(hj:j<1):
  ((aG ty 1 (aB x.1 x.2.2.1 x.2.2.2.1).length 0 (iC .i64 (aB x.1 x.2.2.1 x.2.2.2.1))).app (aB x.1 x.2.2.1 x.2.2.2.1).length (.li [.n .i64 (aW x.1 x.2.1)])).get (i*1+j)=iC .i64 (bL x) i j:=by
 obtain rfl:j=0:=by omega
 rw[Nat.mul_one,Nat.add_zero,da _ _ _ hm _ hi]
 unfold bL iC
 by_cases e:i<(aB x.1 x.2.2.1 x.2.2.2.1).length
 ·rw[if_pos e]
  have:=aN (ty:=ty) (n:=(aB x.1 x.2.2.1 x.2.2.2.1).length) (z:=0) (row:=iC .i64 (aB x.1 x.2.2.1 x.2.2.2.1)) i 0 (by decide:0<1)
  rw[Nat.mul_one,Nat.add_zero] at this
  rw[show(λi _j=>AV.n .i64 ((aB x.1 x.2.2.1 x.2.2.2.1).getD i 0))=iC .i64 (aB x.1 x.2.2.1 x.2.2.2.1) from rfl,this]
  unfold iC
  rw[List.getD_eq_getElem?_getD,List.getD_eq_getElem?_getD,List.getElem?_append_left e]
 ·obtain rfl:i=(aB x.1 x.2.2.1 x.2.2.2.1).length:=by omega
  rw[if_neg e,List.getD_eq_getElem?_getD,List.getElem?_append_right (Nat.le_refl _)]
  simp
theorem mM(cs:List In)(R:Nat)(hRs:R<=100000)(hn:cs.length<=16384)(hops:∀x ∈ cs,0<=x.1/\x.1<39)(hU:∀x ∈ cs,∀r ∈ bL x,r<(R:Int))(hrl:∀x ∈ cs,(bL x).length<=10):
  bH Try.prog 52 [.fs 5 cs.length (cC cs)] [.v (.fs 1 (bK cs R).length (λj _=> .n .i64 (((bK cs R).getD j 0:Nat):Int)))]:=by
 have hadd:∀j:Nat,j<100000->IntKind.wrap .i64 ((j:Int)+1)=((j+1:Nat):Int):=λj hj=>by rw[aV (by omega)];omega
 have hoc:∀k,cP cs k=true->k<(R:Int):=λk hk=>by
  obtain⟨i,hi,h⟩:=gr.1 hk
  exact hU _ (by rw[List.getD_eq_getElem?_getD,List.getElem?_eq_getElem hi];exact List.getElem_mem hi) k h
 refine aD aZ OS ⟨by simp,by decide⟩ ?_
 simp only[bz]
 repeat first|with_reducible refine au ?_|simp only[go_sem,simprocAttr]
 refine fJ (λr hr=>?_)
 repeat first|with_reducible refine au ?_|simp only[go_sem,simprocAttr]
 refine GA.loop (I:=λmm e H=>∃(k:Nat) (ob:Nat->Option OB),mm=cs.length-k/\k<=cs.length/\ob r=some (.mp (bQ (mz cs k)))/\e=aF [(3,.cv (.map (some r))),(11,.fs 5 cs.length (cC cs)),(12,.n .i64 cs.length),(13,.n .i64 k)]/\H=bg ob []) (Wk.mkS [] [] ?_ ?_ ?_) ⟨0,_,rfl,Nat.zero_le _,?_,rfl,rfl⟩ ?_
 ·simp only[bh,bf,go_sem,simprocAttr]
  repeat' refine ab ?_ ?_
  all_goals first|exact bm|skip
 ·exact .nil
 ·simp
 ·simp only[go_sem,simprocAttr]
  first|exact(aL _ _ _).trans (by rw[fc];rfl)|exact congrArg (λz=>some (OB.mp z)) fc|(rw[fc];rfl)
 rintro mm e H ⟨k,ob,rfl,hk,hob,rfl,rfl⟩
 repeat first|with_reducible refine au ?_|simp only[go_sem,simprocAttr]
 refine⟨λh=>?_,λh=>?_⟩
 ·have hkl:k<cs.length:=by omega
  have hk0:(0:Int)<=(k:Int):=by omega
  have ha:=hadd k (by omega)
  have hcc0:=vM cs k
  have hcc1:=BO cs k
  have hcc2:=BN cs k
  have hcc3:=BM cs k
  have hcc4:=BL cs k
  have hmem:cs.getD k (0,0,0,0,0) ∈ cs:=by rw[List.getD_eq_getElem?_getD,List.getElem?_eq_getElem hkl];exact List.getElem_mem hkl
  have hacc:mz cs (k+1)=eZ (mz cs k) (bL (cs.getD k (0,0,0,0,0))):=rfl
  have hop:=hops _ hmem
  have hrlk:=hrl _ hmem
  generalize hx:cs.getD k (0,0,0,0,0)=x at*
  obtain⟨op,to,a,b,arg⟩:=x
  have hu:=kZ op to a b arg hop
  repeat first|with_reducible refine au ?_|simp only[hk0,h,hcc0,hcc1,hcc2,hcc3,hcc4,decide_true,go_sem,simprocAttr]
  refine am [] (.cons (.rfl (by rfl)) .nil) hu (by simp only[AH.mark_next,ae,av,aw,aj,af,ah,List.length_cons,List.length_nil];decide) ?_
  rw[jH] at hrlk
  simp only at hrlk
  have hl1:(aB op a b).length+1<1099511627776:=by omega
  have hl2:((aB op a b).length+1)*8<=140737488355328:=by omega
  have hl3:(aB op a b).length<=9223372036854775806:=by omega
  repeat first|with_reducible refine au ?_|simp only[hl1,hl2,hl3,go_sem,simprocAttr]
  have hlen:(bL (op,to,a,b,arg)).length=(aB op a b).length+1:=jH _
  refine GA.loop (I:=λmm e H=>∃(j:Nat) (ob':Nat->Option OB),mm=(aB op a b).length+1-j/\j<=(aB op a b).length+1/\ob' r=some (.mp (bQ (eZ (mz cs k) ((bL (op,to,a,b,arg)).take j))))/\e=aF [(25,.fs 1 ((aB op a b).length+1) (iC .i64 (bL (op,to,a,b,arg)))),(26,.n .i64 ((aB op a b).length+1:Nat)),(27,.n .i64 j),(3,.cv (.map (some r))),(11,.fs 5 cs.length (cC cs)),(12,.n .i64 cs.length),(13,.n .i64 k)]/\H=bg ob' []) (Wk.mkS [] [3] ?_ ?_ ?_) ⟨0,_,rfl,Nat.zero_le _,?_,rfl,rfl⟩ ?_
  ·simp only[bh,bf,go_sem,simprocAttr]
   repeat' refine ab ?_ ?_
   all_goals first|exact bm|skip
   exact .cv (.os (by simp) (by simp only[go_sem,simprocAttr];rfl) (by rw[app_size];simp only[cf.len,List.length_singleton];omega) (λi j hi hj=>ul (op,to,a,b,arg) (by simp only;omega) hi hj) (λi j _ _=>rfl))
  ·exact .nil
  ·simp
  ·(try simp only[cI,go_sem,simprocAttr]);exact hob
  ·rintro mm e H ⟨j,ob',rfl,hj,hob',rfl,rfl⟩
   repeat first|with_reducible refine au ?_|simp only[go_sem,simprocAttr]
   refine⟨λh=>?_,λh=>?_⟩
   ·have hjl:j<(aB op a b).length+1:=by omega
    have hj0:(0:Int)<=(j:Int):=by omega
    have ha2:=hadd j (by omega)
    have htk:=qY (s:=mz cs k) (l:=bL (op,to,a,b,arg)) (j:=j) (by omega)
    have hic:iC .i64 (bL (op,to,a,b,arg)) j 0= .n .i64 ((bL (op,to,a,b,arg)).getD j 0):=rfl
    generalize hv:(bL (op,to,a,b,arg)).getD j 0=v at*
    by_cases hv0:0<=v
    ·repeat first|with_reducible refine au ?_|simp only[hj0,h,hic,decide_true,hv0,hob',go_sem,simprocAttr]
     refine⟨rfl,?_⟩
     repeat first|with_reducible refine au ?_|simp only[ha2,go_sem,simprocAttr]
     refine⟨_,_,_,?_,Wk.mkS [] [] ?_ ?_ ?_,j+1,_,rfl,by omega,?_,rfl,rfl⟩
     ·omega
     ·simp only[bh,bf,go_sem,simprocAttr]
      repeat' refine ab ?_ ?_
      all_goals first|exact bm|skip
     ·exact .nil
     ·simp
     ·simp only[go_sem,simprocAttr]
      rw[iZ,htk]
      unfold ph
      rw[if_pos hv0]
    ·repeat first|with_reducible refine au ?_|simp only[hj0,h,hic,decide_true,decide_false,hv0,hob',ha2,go_sem,simprocAttr]
     refine⟨_,_,_,?_,Wk.mkS [] [] ?_ ?_ ?_,j+1,_,rfl,by omega,?_,rfl,rfl⟩
     ·omega
     ·simp only[bh,bf,go_sem,simprocAttr]
      repeat' refine ab ?_ ?_
      all_goals first|exact bm|skip
     ·exact .nil
     ·simp
     ·(try simp only[go_sem,simprocAttr])
      rw[htk]
      unfold ph
      rw[if_neg hv0]
      exact hob'
   ·have hjk:j=(aB op a b).length+1:=by omega
    subst hjk
    rw[List.take_of_length_le (by omega),<-hacc] at hob'
    repeat first|with_reducible refine au ?_|simp only[ha,go_sem,simprocAttr]
    refine⟨_,_,_,?_,Wk.mkS [] [] ?_ ?_ ?_,k+1,_,rfl,by omega,?_,rfl,rfl⟩
    ·omega
    ·simp only[bh,bf,go_sem,simprocAttr]
     repeat' refine ab ?_ ?_
     all_goals first|exact bm|skip
    ·exact .nil
    ·simp
    ·(try simp only[go_sem,simprocAttr]);exact hob'
 ·have hkk:k=cs.length:=by omega
  subst hkk
  repeat first|with_reducible refine au ?_|simp only[go_sem,simprocAttr]
  refine am [] (.cons (.rfl (by rfl)) .nil) (qo _) (by simp only[af,List.length_cons,List.length_nil];decide) ?_
  repeat first|with_reducible refine au ?_|simp only[go_sem,simprocAttr]
  refine bP [] (.cons (.rfl (by rfl)) .nil) (lg _) ⟨_,hob,?_,?_⟩ (by simp only[af,List.length_cons,List.length_nil];decide) ?_
  ·have:=gu (R:=R) (my cs cs.length) (λr hr=>by
    obtain⟨h0,i,hi,h1⟩:=(jD cs _ (Nat.le_refl _) r).1 hr
    exact⟨h0,hoc r (gr.2 ⟨i,hi,h1⟩)⟩)
   rw[gj];omega
  ·intro q v hq
   rw[dn] at hq
   split at hq
   ·rename_i hq'
    obtain⟨h0,i,hi,h1⟩:=(jD cs _ (Nat.le_refl _) q).1 hq'
    have:=hoc q (gr.2 ⟨i,hi,h1⟩)
    omega
   ·cases hq
  rintro rs N2 ⟨ss,hss,hpw,rfl,rfl⟩ hfree2
  have hsl:ss=(bK cs R).map (λn:Nat=>(n:Int)):=uM (λq=>by
   rw[hss _ hob q,dn,gr,<-jD cs _ (Nat.le_refl _)]
   by_cases e:q ∈ mz cs cs.length<;>simp[e]) hpw hoc
  subst hsl
  simp only[yi]
  repeat first|with_reducible refine au ?_|simp only[go_sem,simprocAttr]
  exact⟨[_],rfl,⟨rfl,rfl⟩,True.intro⟩
def ee(P:Nat->Prop)(c:Nat):Prop:=¬P c/\∀c',c'<c->P c'
theorem ee.uniq{P:Nat->Prop}{c c':Nat}(h:ee P c)(h':ee P c'):c=c':=by
 rcases Nat.lt_trichotomy c c' with h1|h1|h1
 ·exact absurd (h'.2 c h1) h.1
 ·exact h1
 ·exact absurd (h.2 c' h1) h'.1
theorem ee.congr{P P':Nat->Prop}(hp:∀c,P c↔P' c){c:Nat}(h:ee P c):ee P' c:=⟨λhc=>h.1 ((hp c).2 hc),λc' hc'=>(hp c').1 (h.2 c' hc')⟩
structure rm(occ:Nat->Bool)(nb:Nat->Nat->Prop)(n:Nat)(K:Nat->Nat):Prop where
 yes:∀r,r<n->occ r=true->ee (λc=>∃s,s<r/\occ s=true/\nb r s/\K s=c) (K r)
 no:∀r,r<n->occ r=false->K r=0
theorem rm.uniq{occ:Nat->Bool}{nb nb':Nat->Nat->Prop}{n:Nat}{K K':Nat->Nat}(h:rm occ nb n K)(h':rm occ nb' n K')(hnb:∀r s,nb r s↔nb' r s):∀r,r<n->K r=K' r:=by
 intro r
 induction r using Nat.strongRecOn with
 |_ r ih=>
  intro hr
  cases ho:occ r with
  |false=>rw[h.no r hr ho,h'.no r hr ho]
  |true=>
   refine(h.yes r hr ho).uniq ((h'.yes r hr ho).congr (λc=>?_))
   constructor
   ·rintro ⟨s,h1,h2,h3,h4⟩
    exact⟨s,h1,h2,(hnb r s).2 h3,by rw[ih s h1 (by omega)];exact h4⟩
   ·rintro ⟨s,h1,h2,h3,h4⟩
    exact⟨s,h1,h2,(hnb r s).1 h3,by rw[<-ih s h1 (by omega)];exact h4⟩
theorem ee.le{P:Nat->Prop}{c m:Nat}(h:ee P c){l:List Nat}(hP:∀x,P x->x ∈ l)(hl:l.length<=m):c<=m:=by
 have h1:(List.range c).length<=l.length:=fA List.nodup_range (λx hx=>hP x (h.2 x (List.mem_range.1 hx)))
 rw[List.length_range] at h1
 omega
theorem rm.le{occ:Nat->Bool}{nb:Nat->Nat->Prop}{n:Nat}{K:Nat->Nat}(h:rm occ nb n K):∀r,r<n->K r<=r:=by
 intro r hr
 cases ho:occ r with
 |false=>rw[h.no r hr ho];omega
 |true=>exact(h.yes r hr ho).le (l:=(List.range r).map K) (λx ⟨s,h1,_,_,h4⟩=>List.mem_map.2 ⟨s,List.mem_range.2 h1,h4⟩) (by simp)
def cJ(K:Nat->Nat)(l:List Nat):Nat->Nat
 |0=>0
 |k+1=>max (cJ K l k) (K (l.getD k 0)+1)
def mE(l:List Nat):Nat->Int->Option Int
 |0=>λ_=>none
 |k+1=>λq=>if q=((l.getD k 0:Nat):Int) then some (k:Int) else mE l k q
theorem lC{l:List Nat}:∀{k:Nat} {q v:Int},mE l k q=some v->∃i,i<k/\q=((l.getD i 0:Nat):Int)/\v=(i:Int)
 |0,q,v,h=>by cases h
 |k+1,q,v,h=>by
  unfold mE at h
  split at h
  ·cases h;exact⟨k,by omega,by assumption,rfl⟩
  ·obtain⟨i,h1,h2⟩:=lC h;exact⟨i,by omega,h2⟩
theorem AM{l:List Nat}(h:l.Pairwise (· < ·)){k:Nat}(hk:k<l.length):mE l k ((l.getD k 0:Nat):Int)=none:=by
 cases hx:mE l k ((l.getD k 0:Nat):Int) with
 |none=>rfl
 |some v=>
  obtain⟨i,h1,h2,_⟩:=lC hx
  rw[List.pairwise_iff_getElem] at h
  have:=h i k (by omega) hk h1
  rw[List.getD_eq_getElem?_getD,List.getD_eq_getElem?_getD,List.getElem?_eq_getElem hk,List.getElem?_eq_getElem (show i<l.length by omega)] at h2
  simp only[Option.getD_some] at h2
  omega
theorem An{x:di}{l:List Nat}(h:l.Pairwise (· < ·)){k:Nat}(hk:k<l.length)(hg:x.get=fi (mE l k))(hc:x.cnt=k):
  (x.put ((l.getD k 0:Nat):Int) (.n .i64 (k:Int))).get=fi (mE l (k+1))/\(x.put ((l.getD k 0:Nat):Int) (.n .i64 (k:Int))).cnt=k+1:=by
 have h0:x.get ((l.getD k 0:Nat):Int)=none:=by rw[hg];show((mE l k _).map _)=none;rw[AM h hk];rfl
 refine⟨?_,?_⟩
 ·funext q
  show(if q=_ then _ else x.get q)=((mE l (k+1) q).map (.n .i64 ·))
  unfold mE
  by_cases e:q=((l.getD k 0:Nat):Int)
  ·rw[if_pos e,if_pos e];rfl
  ·rw[if_neg e,if_neg e,hg]
 ·show(if(x.get _).isSome=true then x.cnt else x.cnt+1)=k+1
  rw[h0,if_neg (by simp),hc]
theorem qO(na:Nat)(ra:Nat->Nat->AV)(regs par er:Int)(cs:List In)(x:AV)(he:er≠0)(hc:bH Try.prog 27 [ay na ra regs par cs] [.v x,.v (.n .i64 er)]):
  bH Try.prog 20 [ay na ra regs par cs] [.v (.agg [.sl0,.n .i64 0,.n .i64 0,.sl0]),.v (.n .i64 er)]:=by
 refine aD aZ Ch ⟨by simp,by decide⟩ ?_
 simp only[bz,ay] at hc ⊢
 repeat first|with_reducible refine au ?_|simp only[go_sem,simprocAttr]
 refine sq hc ?_
 repeat first|with_reducible refine au ?_|simp only[he,decide_true,decide_false,go_sem,simprocAttr]
 exact⟨[_,_],rfl,cX.v rfl rfl (cX.v rfl rfl .nil)⟩
theorem sH(la:List (Bool×Int))(regs par:Int)(cs:List In)(x:AV)(hla:la.length<1000000)(hcs:cs.length<=16384)(l:List Nat)(hl:l.Pairwise (· < ·))(hll:l.length<=100000)
  (hc:bH Try.prog 27 [ay la.length (aC la) regs par cs] [.v x,.v (.n .i64 0)])
  (ho:bH Try.prog 52 [.fs 5 cs.length (cC cs)] [.v (.fs 1 l.length (λj _=> .n .i64 ((l.getD j 0:Nat):Int)))]):
  bH Try.prog 20 [ay la.length (aC la) regs par cs] [.v (ay la.length (aC la) l.length par (cs.map (eJ (mE l l.length)))),.v (.n .i64 0)]:=by
 have hadd:∀j:Nat,j<100000->IntKind.wrap .i64 ((j:Int)+1)=((j+1:Nat):Int):=λj hj=>by rw[aV (by omega)];omega
 refine aD aZ Ch ⟨by simp,by decide⟩ ?_
 simp only[bz,ay] at hc ⊢
 repeat first|with_reducible refine au ?_|simp only[go_sem,simprocAttr]
 refine sq hc ?_
 repeat first|with_reducible refine au ?_|simp only[go_sem,simprocAttr]
 refine fJ (λr hr=>?_)
 repeat first|with_reducible refine au ?_|simp only[go_sem,simprocAttr]
 refine am [] (.cons (.rfl (by rfl)) .nil) ho (by simp only[AH.mark_next,ae,av,aw,aj,ai,ah,List.length_cons,List.length_nil];decide) ?_
 repeat first|with_reducible refine au ?_|simp only[go_sem,simprocAttr]
 refine GA.loop (I:=λmm e H=>∃(k:Nat) (ob:Nat->Option OB) (x:di),mm=l.length-k/\k<=l.length/\ob r=some (.mp x)/\x.own=true/\x.get=fi (mE l k)/\x.cnt=k/\
   e=aF [(1,.p 0 0),(2,.p 1 0),(6,.cv (.map (some r))),(21,.fs 1 l.length (λj _=> .n .i64 ((l.getD j 0:Nat):Int))),(22,.n .i64 l.length),(23,.n .i64 k)]/\
   H=bg ob [ba 0 25 [.sl0,.n .i64 0,.n .i64 0,.sl0],ba 0 25 [.fs 2 la.length (aC la),.n .i64 regs,.n .i64 par,.fs 5 cs.length (cC cs)]]) (Wk.mkS [1,0] [] ?_ ?_ ?_) ⟨0,_,⟨true,λ_=>none,0,none⟩,rfl,Nat.zero_le _,?_,rfl,rfl,rfl,rfl,rfl⟩ ?_
 ·simp only[bh,bf,go_sem,simprocAttr]
  repeat' refine ab ?_ ?_
  all_goals first|exact bm|skip
 ·exact .cons rfl .ls (.cons rfl .ls .nil)
 ·simp
 ·simp only[go_sem,simprocAttr]
 rintro mm e H ⟨k,ob,mx,rfl,hk,hob,hown,hget,hcnt,rfl,rfl⟩
 repeat first|with_reducible refine au ?_|simp only[go_sem,simprocAttr]
 refine⟨λh=>?_,λh=>?_⟩
 ·have hkl:k<l.length:=by omega
  have hk0:(0:Int)<=(k:Int):=by omega
  have ha:=hadd k (by omega)
  obtain⟨hp1,hp2⟩:=An hl hkl hget hcnt
  repeat first|with_reducible refine au ?_|simp only[hk0,h,decide_true,hob,hown,ha,go_sem,simprocAttr]
  refine⟨_,_,_,?_,Wk.mkS [1,0] [] ?_ ?_ ?_,k+1,_,mx.put ((l.getD k 0:Nat):Int) (.n .i64 (k:Int)),rfl,by omega,?_,hown,hp1,hp2,rfl,rfl⟩
  ·omega
  ·simp only[bh,bf,go_sem,simprocAttr]
   repeat' refine ab ?_ ?_
   all_goals first|exact bm|skip
  ·exact .cons rfl .ls (.cons rfl .ls .nil)
  ·simp
  ·simp only[go_sem,simprocAttr]
 ·have hkk:k=l.length:=by omega
  subst hkk
  repeat first|with_reducible refine au ?_|simp only[hob,hcnt,go_sem,simprocAttr]
  refine bP [] (.cons (.rfl (by rfl)) (.cons (.rfl (by rfl)) (.cons (.rfl (by rfl)) .nil))) (kg r (mE l l.length) hla dA (by omega)) ⟨mx,hob,hget⟩ (by simp only[AH.mark_next,ae,av,aw,aj,af,ah,List.length_cons,List.length_nil];decide) ?_
  rintro rs N ⟨rfl,rfl⟩ hfree
  simp only[ay]
  repeat first|with_reducible refine au ?_|simp only[go_sem,simprocAttr]
  exact⟨[_,_],rfl,cX.v rfl rfl (cX.v rfl rfl .nil)⟩
def GL{α:Type}(T:Int->α)(p:Int)(x:α):Int->α:=λk=>if k=p then x else T k
theorem bU{α:Type}(T:Int->α)(p:Int)(x:α):GL T p x p=x:=if_pos rfl
theorem ez{α:Type}(T:Int->α){p k:Int}(x:α)(h:k≠p):GL T p x k=T k:=if_neg h
def kG(T:Int->List Int)(p q:Int):Int->List Int:=GL T p (gM (T p) q)
def je(T:Int->List Int)(a b:Int):Int->List Int:=kG (kG T a b) b a
structure f9(r0:Nat)(pa:Int->Option Nat)(T:Int->List Int)(ob:Nat->Option OB):Prop where
 out:∃mo:di,ob r0=some (.mp mo)/\mo.own=true/\mo.get=λk=>(pa k).map λa=> .cv (.map (some a))
 at_:∀k a,pa k=some a->ob a=some (.mp (bQ (T k)))
 non:∀k,pa k=none->T k=[]
 inj:∀k k' a,pa k=some a->pa k'=some a->k=k'
 ne:∀k a,pa k=some a->a≠r0
theorem f9.made{r0:Nat}{pa:Int->Option Nat}{T:Int->List Int}{ob:Nat->Option OB}(h:f9 r0 pa T ob){p:Int}(hp:pa p=none){t:Nat}(ht:ob t=none){mo:di}(hmo:ob r0=some (.mp mo))(ho:mo.own=true)(hg:mo.get=λk=>(pa k).map λa=> .cv (.map (some a))):
  f9 r0 (GL pa p (some t)) T (bo (fY (bo ob t (.mp ⟨true,λ_=>none,0,none⟩))) r0 (.mp (mo.put p (.cv (.map (some t)))))):=by
 have htr:t≠r0:=λe=>by rw[e,hmo] at ht;cases ht
 have hta:∀k a,pa k=some a->a≠t:=λk a hk e=>by have:=h.at_ k a hk;rw[e,ht] at this;cases this
 refine⟨⟨_,aL _ _ _,ho,?_⟩,λk a hk=>?_,λk hk=>?_,λk k' a hk hk'=>?_,λk a hk=>?_⟩
 ·funext q
  show(if q=p then some _ else mo.get q)=(GL pa p (some t) q).map _
  unfold GL
  by_cases e:q=p
  ·rw[if_pos e,if_pos e];rfl
  ·rw[if_neg e,if_neg e,hg]
 ·by_cases e:k=p
  ·subst e
   rw[bU] at hk
   cases hk
   rw[aU _ _ htr,dQ (aL _ _ _),h.non k hp,fc]
  ·rw[ez _ _ e] at hk
   rw[aU _ _ (h.ne k a hk)]
   refine dQ ?_
   rw[aU _ _ (hta k a hk)]
   exact h.at_ k a hk
 ·by_cases e:k=p
  ·subst e;rw[bU] at hk;cases hk
  ·rw[ez _ _ e] at hk;exact h.non k hk
 ·by_cases e:k=p
  ·subst e
   rw[bU] at hk
   cases hk
   by_cases e':k'=k
   ·exact e'.symm
   ·rw[ez _ _ e'] at hk'
    exact absurd rfl (hta k' t hk')
  ·rw[ez _ _ e] at hk
   by_cases e':k'=p
   ·subst e'
    rw[bU] at hk'
    cases hk'
    exact absurd rfl (hta k t hk)
   ·rw[ez _ _ e'] at hk'
    exact h.inj k k' a hk hk'
 ·by_cases e:k=p
  ·subst e;rw[bU] at hk;cases hk;exact htr
  ·rw[ez _ _ e] at hk;exact h.ne k a hk
theorem f9.put{r0:Nat}{pa:Int->Option Nat}{T:Int->List Int}{ob:Nat->Option OB}(h:f9 r0 pa T ob){p q:Int}{a:Nat}(hp:pa p=some a):
  f9 r0 pa (kG T p q) (bo (fY ob) a (.mp ((bQ (T p)).put q (.b true)))):=by
 obtain⟨mo,h1,h2,h3⟩:=h.out
 refine⟨⟨mo,?_,h2,h3⟩,λk a' hk=>?_,λk hk=>?_,h.inj,h.ne⟩
 ·rw[aU _ _ (Ne.symm (h.ne p a hp))];exact dQ h1
 ·by_cases e:k=p
  ·subst e
   rw[hp] at hk
   cases hk
   rw[aL,iZ]
   unfold kG
   rw[bU]
  ·rw[aU _ _ (λe'=>e (h.inj k p a (by rw[hk,e']) hp)),dQ (h.at_ k a' hk)]
   unfold kG
   rw[ez _ _ e]
 ·have e:k≠p:=λe=>by rw[e,hp] at hk;cases hk
  unfold kG
  rw[ez _ _ e];exact h.non k hk
theorem t7(x:OB):x.clr.clr=x.clr:=by cases x<;>rfl
structure kI(r0:Nat)(pa0:Int->Option Nat)(ob0:Nat->Option OB)(pa:Int->Option Nat)(T:Int->List Int)(ob:Nat->Option OB):Prop where
 io:f9 r0 pa T ob
 keep:∀r x,ob0 r=some x->r≠r0->(∀k,pa0 k≠some r)->∃y,ob r=some y/\y.clr=x.clr
 new:∀k a,pa k=some a->pa0 k=some a\/ob0 a=none
 old:∀r x,ob0 r=some x->∃y,ob r=some y
theorem kI.refl{r0:Nat}{pa:Int->Option Nat}{T:Int->List Int}{ob:Nat->Option OB}(h:f9 r0 pa T ob):kI r0 pa ob pa T ob:=⟨h,λr x hx _ _=>⟨x,hx,rfl⟩,λk a hk=> .inl hk,λr x hx=>⟨x,hx⟩⟩
theorem kI.put{r0:Nat}{pa0:Int->Option Nat}{ob0:Nat->Option OB}{pa:Int->Option Nat}{T:Int->List Int}{ob:Nat->Option OB}(h:kI r0 pa0 ob0 pa T ob){p q:Int}{a:Nat}(hp:pa p=some a):
  kI r0 pa0 ob0 pa (kG T p q) (bo (fY ob) a (.mp ((bQ (T p)).put q (.b true)))):=by
 refine⟨h.io.put hp,λr x hx hr hk=>?_,h.new,λr x hx=>?_⟩
 rotate_left
 ·obtain⟨y,hy⟩:=h.old r x hx
  by_cases e:r=a
  ·rw[e,aL];exact⟨_,rfl⟩
  ·rw[aU _ _ e];unfold fY;rw[hy];exact⟨_,rfl⟩
 obtain⟨y,hy,hc⟩:=h.keep r x hx hr hk
 have hra:r≠a:=λe=>by
  rcases h.new p a hp with h1|h1
  ·exact hk p (by rw[h1,e])
  ·rw[<-e,hx] at h1;cases h1
 refine⟨y.clr,?_,by rw[t7,hc]⟩
 rw[aU _ _ hra]
 unfold fY
 rw[hy];rfl
theorem kI.made{r0:Nat}{pa0:Int->Option Nat}{ob0:Nat->Option OB}{pa:Int->Option Nat}{T:Int->List Int}{ob:Nat->Option OB}(h:kI r0 pa0 ob0 pa T ob){p:Int}(hp:pa p=none){t:Nat}(ht:ob t=none){mo:di}(hmo:ob r0=some (.mp mo))(ho:mo.own=true)(hg:mo.get=λk=>(pa k).map λa=> .cv (.map (some a))):
  kI r0 pa0 ob0 (GL pa p (some t)) T (bo (fY (bo ob t (.mp ⟨true,λ_=>none,0,none⟩))) r0 (.mp (mo.put p (.cv (.map (some t)))))):=by
 refine⟨h.io.made hp ht hmo ho hg,λr x hx hr hk=>?_,λk a hk=>?_,λr x hx=>?_⟩
 rotate_right
 ·obtain⟨y,hy⟩:=h.old r x hx
  by_cases e:r=r0
  ·rw[e,aL];exact⟨_,rfl⟩
  ·rw[aU _ _ e];unfold fY;rw[aU _ _ (ir hy ht),hy];exact⟨_,rfl⟩
 ·obtain⟨y,hy,hc⟩:=h.keep r x hx hr hk
  refine⟨y.clr,?_,by rw[t7,hc]⟩
  rw[aU _ _ hr]
  unfold fY
  rw[aU _ _ (ir hy ht),hy];rfl
 ·by_cases e:k=p
  ·subst e
   rw[bU] at hk
   cases hk
   refine .inr ?_
   cases hx:ob0 t with
   |none=>rfl
   |some x=>
    obtain⟨y,hy⟩:=h.old t x hx
    rw[ht] at hy;cases hy
  ·rw[ez _ _ e] at hk;exact h.new k a hk
theorem jl{mo:di}{pa:Int->Option Nat}(h:mo.get=λk=>(pa k).map λa=> .cv (.map (some a)))(p:Int):mo.look false (.cv (.map none)) p= .cv (.map (pa p)):=by
 unfold di.look
 have:mo.get p=(pa p).map λa=> .cv (.map (some a)):=by rw[h]
 rw[this]
 cases pa p<;>rfl
def Py(T:Int->List Int)(a b:Int)(i:Nat):Int->List Int:=if i=0 then T else if i=1 then kG T a b else je T a b
theorem qd(r0:Nat)(pa:Int->Option Nat)(T:Int->List Int)(a b:Int)(H:AH)(hH:f9 r0 pa T H.ob)(hnx:H.next<1000):
  nU Try.prog 94 [.n .i64 a,.n .i64 b,.fp 1 (λ_=> .cv (.map (some r0))) 0] H (λv H'=>H'.next<10/\∃pa',kI r0 pa H.ob pa' (je T a b) H'.ob):=by
 refine w6 aZ NG (by simp) ?_
 refine GA.wk (Wk.arg _ _ _ (by simp)) ?_
 simp only[bz]
 refine GA.wk (Wk.mkS (L:=[(0,.n .i64 a),(1,.n .i64 b),(2,.fp 1 (λ_=> .cv (.map (some r0))) 0)]) (bl:=[]) [] [] ?_ ?_ ?_) ?_
 ·simp only[bh,bf,go_sem,simprocAttr]
  repeat' refine ab ?_ ?_
  all_goals first|exact bm|skip
 ·exact .nil
 ·simp
 generalize hob0:H.ob=ob0 at hH ⊢
 repeat first|with_reducible refine au ?_|simp only[go_sem,simprocAttr]
 refine GA.loop (I:=λmm e H=>∃(i:Nat) (pa1:Int->Option Nat) (ob1:Nat->Option OB),mm=2-i/\i<=2/\kI r0 pa ob0 pa1 (Py T a b i) ob1/\e=aF [(2,.fp 1 (λ_=> .cv (.map (some r0))) 0),(13,.sl 0 0 2 2),(14,.n .i64 2),(15,.n .i64 i)]/\H=bg ob1 [ba 2 142 [.n .i64 a,.n .i64 b,.n .i64 b,.n .i64 a]]) (Wk.mkS [0] [] ?_ ?_ ?_) ⟨0,pa,ob0,rfl,by omega,.refl hH,rfl,rfl⟩ ?_
 ·simp only[bh,bf,go_sem,simprocAttr]
  repeat' refine ab ?_ ?_
  all_goals first|exact bm|skip
 ·exact .cons rfl .ls .nil
 ·simp
 rintro mm e H1 ⟨i,pa1,ob1,rfl,hi,hst,rfl,rfl⟩
 obtain⟨mo,hmo,hown,hget⟩:=hst.io.out
 obtain rfl|rfl|rfl:i=0\/i=1\/i=2:=by omega
 ·have hlk:=jl hget a
  cases hp:pa1 a with
  |none=>
   rw[hp] at hlk
   repeat first|with_reducible refine au ?_|simp only[hmo,hlk,decide_true,go_sem,simprocAttr]
   refine fJ (λt ht=>?_)
   have ht:ob1 t=none:=ht
   have hst2:=hst.made hp ht hmo hown hget
   have hmo1:bo ob1 t (.mp ⟨true,λ_=>none,0,none⟩) r0=some (.mp mo):=by rw[aU _ _ (ir hmo ht)];exact hmo
   obtain⟨mo2,e1,e2,e3⟩:=hst2.io.out
   rw[aL] at e1
   cases e1
   have hlk2:(mo.put a (.cv (.map (some t)))).look false (.cv (.map none)) a= .cv (.map (some t)):=(jl e3 a).trans (by rw[bU])
   have hat2:=hst2.io.at_ a t (bU _ _ _)
   repeat first|with_reducible refine au ?_|simp only[hmo1,hown,hlk2,hat2,go_sem,simprocAttr]
   refine⟨rfl,?_⟩
   repeat first|with_reducible refine au ?_|simp only[go_sem,simprocAttr]
   refine⟨_,_,_,?_,Wk.mkS [0] [] ?_ ?_ ?_,1,_,_,rfl,by omega,hst2.put (q:=b) (bU _ _ _),rfl,rfl⟩
   ·decide
   ·simp only[bh,bf,go_sem,simprocAttr]
    repeat' refine ab ?_ ?_
    all_goals first|exact bm|skip
   ·exact .cons rfl .ls .nil
   ·simp
  |some ap=>
   rw[hp] at hlk
   have hat:=hst.io.at_ a ap hp
   repeat first|with_reducible refine au ?_|simp only[hmo,hlk,hat,decide_true,go_sem,simprocAttr]
   refine⟨rfl,?_⟩
   repeat first|with_reducible refine au ?_|simp only[go_sem,simprocAttr]
   refine⟨_,_,_,?_,Wk.mkS [0] [] ?_ ?_ ?_,1,_,_,rfl,by omega,hst.put (q:=b) hp,rfl,rfl⟩
   ·decide
   ·simp only[bh,bf,go_sem,simprocAttr]
    repeat' refine ab ?_ ?_
    all_goals first|exact bm|skip
   ·exact .cons rfl .ls .nil
   ·simp
 ·have hlk:=jl hget b
  cases hp:pa1 b with
  |none=>
   rw[hp] at hlk
   repeat first|with_reducible refine au ?_|simp only[hmo,hlk,decide_true,go_sem,simprocAttr]
   refine fJ (λt ht=>?_)
   have ht:ob1 t=none:=ht
   have hst2:=hst.made hp ht hmo hown hget
   have hmo1:bo ob1 t (.mp ⟨true,λ_=>none,0,none⟩) r0=some (.mp mo):=by rw[aU _ _ (ir hmo ht)];exact hmo
   obtain⟨mo2,e1,e2,e3⟩:=hst2.io.out
   rw[aL] at e1
   cases e1
   have hlk2:(mo.put b (.cv (.map (some t)))).look false (.cv (.map none)) b= .cv (.map (some t)):=(jl e3 b).trans (by rw[bU])
   have hat2:=hst2.io.at_ b t (bU _ _ _)
   repeat first|with_reducible refine au ?_|simp only[hmo1,hown,hlk2,hat2,go_sem,simprocAttr]
   refine⟨rfl,?_⟩
   repeat first|with_reducible refine au ?_|simp only[go_sem,simprocAttr]
   refine⟨_,_,_,?_,Wk.mkS [0] [] ?_ ?_ ?_,2,_,_,rfl,by omega,hst2.put (q:=a) (bU _ _ _),rfl,rfl⟩
   ·decide
   ·simp only[bh,bf,go_sem,simprocAttr]
    repeat' refine ab ?_ ?_
    all_goals first|exact bm|skip
   ·exact .cons rfl .ls .nil
   ·simp
  |some ap=>
   rw[hp] at hlk
   have hat:=hst.io.at_ b ap hp
   repeat first|with_reducible refine au ?_|simp only[hmo,hlk,hat,decide_true,go_sem,simprocAttr]
   refine⟨rfl,?_⟩
   repeat first|with_reducible refine au ?_|simp only[go_sem,simprocAttr]
   refine⟨_,_,_,?_,Wk.mkS [0] [] ?_ ?_ ?_,2,_,_,rfl,by omega,hst.put (q:=a) hp,rfl,rfl⟩
   ·decide
   ·simp only[bh,bf,go_sem,simprocAttr]
    repeat' refine ab ?_ ?_
    all_goals first|exact bm|skip
   ·exact .cons rfl .ls .nil
   ·simp
 ·repeat first|with_reducible refine au ?_|simp only[go_sem,simprocAttr]
  exact⟨pa1,hst⟩
def ru(cs:List In)(i:Nat):Int:=aW (cs.getD i (0,0,0,0,0)).1 (cs.getD i (0,0,0,0,0)).2.1
def fQ(cs:List In)(nx:Nat->List Nat)(p q:Int):Prop:=
 (p≠q/\br cs nx 0 p/\br cs nx 0 q)\/∃i k,i<cs.length/\k ∈ nx i/\0<=ru cs i/\((p=ru cs i/\q≠p/\br cs nx k q)\/(q=ru cs i/\p≠q/\br cs nx k p))
theorem fQ.symm{cs:List In}{nx:Nat->List Nat}{p q:Int}(h:fQ cs nx p q):fQ cs nx q p:=by
 rcases h with⟨h1,h2,h3⟩|⟨i,k,h1,h2,h3,h4|h4⟩
 ·exact .inl ⟨Ne.symm h1,h3,h2⟩
 ·exact .inr ⟨i,k,h1,h2,h3,.inr h4⟩
 ·exact .inr ⟨i,k,h1,h2,h3,.inl h4⟩
theorem qX{T:Int->List Int}{p q k x:Int}:x ∈ kG T p q k↔x ∈ T k\/(k=p/\x=q):=by
 unfold kG
 by_cases e:k=p
 ·subst e;rw[bU,db];simp
 ·rw[ez _ _ e];simp[e]
theorem bS{T:Int->List Int}{a b k x:Int}:x ∈ je T a b k↔x ∈ T k\/(k=a/\x=b)\/(k=b/\x=a):=by
 unfold je
 rw[qX,qX,or_assoc]
theorem mq{T:Int->List Int}(h:∀p,(T p).Nodup)(p q k:Int):(kG T p q k).Nodup:=by
 unfold kG
 by_cases e:k=p
 ·subst e;rw[bU];exact iT (h _) _
 ·rw[ez _ _ e];exact h k
structure pA(cs:List In)(nx:Nat->List Nat)(n1:Nat)(ad:Nat->Nat)(S:Nat->List Int)(r0:Nat)(pa:Int->Option Nat)(T:Int->List Int)(ob:Nat->Option OB):Prop where
 io:f9 r0 pa T ob
 lv:eH n1 ad S ob
 d1:∀k a i,i<n1->pa k=some a->a≠ad i
 d2:∀i,i<n1->ad i≠r0
 nd:∀p,(T p).Nodup
 ok:∀p q,q ∈ T p->fQ cs nx p q
 sy:∀p q,q ∈ T p->p ∈ T q
section
variable {cs:List In} {nx:Nat->List Nat} {n1:Nat} {ad:Nat->Nat} {S:Nat->List Int} {r0:Nat} {pa pa':Int->Option Nat} {T:Int->List Int} {ob ob':Nat->Option OB}
theorem pA.note(h:pA cs nx n1 ad S r0 pa T ob){a b:Int}(hst:kI r0 pa ob pa' (je T a b) ob')(hab:fQ cs nx a b):pA cs nx n1 ad S r0 pa' (je T a b) ob':=by
 refine⟨hst.io,⟨λi hi=>?_,h.lv.inj⟩,λk x i hi hk e=>?_,h.d2,λp=>mq (mq h.nd a b) b a p,λp q hq=>?_,λp q hq=>?_⟩
 ·obtain⟨y,hy,hc⟩:=hst.keep (ad i) _ (h.lv.at_ i hi) (h.d2 i hi) (λk hk=>h.d1 k _ i hi hk rfl)
  cases y with
  |mp z=>rw[hy];exact congrArg some hc
  |it z=>cases hc
  |fix o=>cases hc
 ·rcases hst.new k x hk with h1|h1
  ·exact h.d1 k x i hi h1 e
  ·rw[e,h.lv.at_ i hi] at h1;cases h1
 ·rcases bS.1 hq with h1|⟨rfl,rfl⟩|⟨rfl,rfl⟩
  ·exact h.ok p q h1
  ·exact hab
  ·exact hab.symm
 ·rcases bS.1 hq with h1|⟨rfl,rfl⟩|⟨rfl,rfl⟩
  ·exact bS.2 (.inl (h.sy p q h1))
  ·exact bS.2 (.inr (.inr ⟨rfl,rfl⟩))
  ·exact bS.2 (.inr (.inl ⟨rfl,rfl⟩))
theorem pA.itKeep(h:pA cs nx n1 ad S r0 pa T ob){a b:Int}(hst:kI r0 pa ob pa' (je T a b) ob'){t:Nat}{y:mF}(ht:ob t=some (.it y)):∃c,ob' t=some (.it {y with cur:=c}):=by
 obtain⟨z,hz,hc⟩:=hst.keep t _ ht (λe=>by
  obtain⟨mo,h1,_⟩:=h.io.out
  rw[e,h1] at ht;cases ht) (λk hk=>by have:=h.io.at_ k t hk;rw[ht] at this;cases this)
 cases z with
 |mp z=>cases hc
 |fix o=>cases hc
 |it z=>
  refine⟨z.cur,?_⟩
  rw[hz]
  simp only[OB.clr,OB.it.injEq,mF.mk.injEq] at hc
  obtain⟨e1,e2,e3,_⟩:=hc
  rw[<-e1,<-e2,<-e3]
theorem pA.iter(h:pA cs nx n1 ad S r0 pa T ob){t:Nat}(ht:ob t=none\/∃y,ob t=some (.it y))(x:OB):pA cs nx n1 ad S r0 pa T (bo ob t x):=by
 have key:∀r m,ob r=some (.mp m)->bo ob t x r=some (.mp m):=λr m hr=>by
  rw[aU _ _ (λe=>by rcases ht with h1|⟨y,h1⟩<;>rw[e,h1] at hr<;>cases hr)]
  exact hr
 obtain⟨mo,h1,h2,h3⟩:=h.io.out
 exact⟨⟨⟨mo,key _ _ h1,h2,h3⟩,λk a hk=>key _ _ (h.io.at_ k a hk),h.io.non,h.io.inj,h.io.ne⟩,⟨λi hi=>key _ _ (h.lv.at_ i hi),h.lv.inj⟩,h.d1,h.d2,h.nd,h.ok,h.sy⟩
end
abbrev Cp(t:Nat):AV:= .cv (.pointer (some ⟨t,0,none⟩))
abbrev kl(cs:List In)(nx:Nat->List Nat)(n1:Nat)(ad:Nat->Nat)(r0:Nat):List (Nat×AV):=[(0,.fs 5 cs.length (cC cs)),(3,.fp 1 (λ_=> .cv (.map (some r0))) 0),(4,.f 94 [] [.fp 1 (λ_=> .cv (.map (some r0))) 0]),(5,.fs 1 n1 (zE ad)),(6,.fs 1 cs.length (gC nx))]
structure fP(l d:List Int)(m:Nat)(ob:Nat->Option OB)(t:Nat):Prop where
 nd:d.Nodup
 sub:∀r ∈ d,r ∈ l
 it:∃seen cur,(∀q,seen q=true↔q ∈ d)/\ob t=some (.it ⟨m,λq=>((bQ l).get q).isSome,seen,cur⟩)
theorem fP.keep{l d:List Int}{m t:Nat}{ob ob':Nat->Option OB}(h:fP l d m ob t)(hk:∀y,ob t=some (.it y)->∃c,ob' t=some (.it {y with cur:=c})):fP l d m ob' t:=by
 obtain⟨seen,cur,h1,h2⟩:=h.it
 obtain⟨c,hc⟩:=hk _ h2
 exact⟨h.nd,h.sub,seen,c,h1,hc⟩
theorem fP.start{l:List Int}{m t:Nat}{ob:Nat->Option OB}(h:ob t=some (.it ⟨m,λq=>((bQ l).get q).isSome,λ_=>false,none⟩)):fP l [] m ob t:=⟨List.nodup_nil,λr hr=>(by cases hr),_,_,λq=>by simp,h⟩
theorem fP.len{l d:List Int}{m t:Nat}{ob:Nat->Option OB}(h:fP l d m ob t):d.length<=l.length:=fA h.nd h.sub
end Go.Proofs.Yteopfmnnhlhbmaa
namespace Go.Proofs.Yteopfmnnhlhbmaa
open Go.RowKit
theorem kK{H:AH}{Q:AV->AH->Prop}{t m:Nat}{l d:List Int}{seen:Int->Bool}{cur:Option (Int×AV)}(hn:d.Nodup)(hs:∀r ∈ d,r ∈ l)(hsn:∀q,seen q=true↔q ∈ d)
  (h1:∀q,q ∈ l->q ∉ d->∀y:mF,y.cur=some (q,.b true)->(∀ob:Nat->Option OB,fP l (d++[q]) m (bo ob t (.it y)) t)->Q (.tup [.b true,.n .i64 q,.b true]) (H.setOb t (.it y)))
  (h2:(∀q ∈ l,q ∈ d)->Q (.tup [.b false]) H):tA H Q t ⟨m,λq=>((bQ l).get q).isSome,seen,cur⟩ (some (.mp (bQ l))):=by
 refine xh (λq v hq=>by show((bQ l).get q).isSome=true;rw[hq];rfl) (λq v hq hsq=>?_) (λhall=>h2 λq hq=>(hsn q).1 (hall q ?_))
 ·rw[dn] at hq
  split at hq
  ·rename_i hql
   cases hq
   have hqd:q ∉ d:=λhm=>by
    have:=(hsn q).2 hm
    have hsq:seen q=false:=hsq
    rw[hsq] at this;cases this
   refine h1 q hql hqd _ rfl (λob=>⟨List.nodup_append.2 ⟨hn,by simp,λa ha b hb e=>by simp at hb;subst hb;subst e;exact hqd ha⟩,λr hr=>?_,_,_,λq'=>?_,aL _ _ _⟩)
   ·rcases List.mem_append.1 hr with hr|hr
    ·exact hs r hr
    ·simp at hr;subst hr;exact hql
   ·show(decide (q'=q)||seen q')=true↔q' ∈ d++[q]
    rw[Bool.or_eq_true,decide_eq_true_eq,hsn q',List.mem_append,List.mem_singleton,or_comm]
  ·cases hq
 ·show((bQ l).get q).isSome=true
  rw[dn,if_pos hq];rfl
theorem Ic(cs:List In)(nx:Nat->List Nat)(n1:Nat)(ad:Nat->Nat)(S:Nat->List Int)(r0:Nat)(hn1:0<n1)(hnn:n1<=20000)(hS0:∀r,r ∈ S 0->br cs nx 0 r)(pa:Int->Option Nat)(T:Int->List Int)(ob:Nat->Option OB)(t1:Nat)(hif:pA cs nx n1 ad S r0 pa T ob)(hw:fP (S 0) [] (ad 0) ob t1)
  (Q:AE->Tr AV->AH->Prop) (hQ:∀pa T ob e' H',pA cs nx n1 ad S r0 pa T ob->(∀a ∈ S 0,∀b ∈ S 0,a≠b->b ∈ T a)->Wk 90 e' H' (aF (kl cs nx n1 ad r0)) (bg ob [])->Q (.exit 0) e' H'):
  GA Try.prog 90 (aE Try.prog 74) wA (aF ((26,Cp t1)::kl cs nx n1 ad r0)) (bg ob []) Q:=by
 have hadC:∀i,zE ad i 0= .cv (.map (some (ad i))):=λ_=>rfl
 have hn10:(0:Int)<(n1:Int):=by omega
 refine GA.loop (I:=λmm e H=>∃(d:List Int) (pa:Int->Option Nat) (T:Int->List Int) (ob:Nat->Option OB),mm=(S 0).length-d.length/\fP (S 0) d (ad 0) ob t1/\pA cs nx n1 ad S r0 pa T ob/\(∀a ∈ d,∀b ∈ S 0,a≠b->b ∈ T a)/\e=aF ((26,Cp t1)::kl cs nx n1 ad r0)/\H=bg ob []) Wk.refl ⟨[],pa,T,ob,rfl,hw,hif,λa ha=>(by cases ha),rfl,rfl⟩ ?_
 rintro mm e H ⟨d,pa,T,ob,rfl,hw,hif,hdone,rfl,rfl⟩
 have hob0:=hif.lv.at_ 0 hn1
 obtain⟨seen,cur,hsn,hot⟩:=hw.it
 repeat first|with_reducible refine au ?_|simp only[hot,hob0,go_sem,simprocAttr]
 refine kK hw.nd hw.sub hsn (λp hp hpd y hcur hw2=>?_) (λhall=>?_)
 ·have hif2:=hif.iter (.inr ⟨_,hot⟩) (.it y)
  have hw2:=hw2 ob
  have hob02:=hif2.lv.at_ 0 hn1
  have hlen:=hw2.len
  rw[List.length_append,List.length_singleton] at hlen
  repeat first|with_reducible refine au ?_|simp only[hcur,hadC,hob02,hn10,go_sem,simprocAttr]
  refine lu (λt2 ht2=>?_)
  have ht2:bo ob t1 (.it y) t2=none:=ht2
  have hif3:=hif2.iter (.inl ht2) (.it ⟨ad 0,λk=>((bQ (S 0)).get k).isSome,λ_=>false,none⟩)
  have hw3:fP (S 0) [] (ad 0) (bo (bo ob t1 (.it y)) t2 (.it ⟨ad 0,λk=>((bQ (S 0)).get k).isSome,λ_=>false,none⟩)) t2:= .start (aL _ _ _)
  have hw4:fP (S 0) (d++[p]) (ad 0) (bo (bo ob t1 (.it y)) t2 (.it ⟨ad 0,λk=>((bQ (S 0)).get k).isSome,λ_=>false,none⟩)) t1:=hw2.keep λz hz=>⟨z.cur,by rw[aU _ _ (ir hz ht2)];exact hz⟩
  have htt0:t1≠t2:=λe=>by rw[<-e,aL] at ht2;cases ht2
  repeat first|with_reducible refine au ?_|simp only[go_sem,simprocAttr]
  refine GA.loop (I:=λmm e H=>∃(d2:List Int) (pa:Int->Option Nat) (T:Int->List Int) (ob:Nat->Option OB),mm=(S 0).length-d2.length/\fP (S 0) d2 (ad 0) ob t2/\fP (S 0) (d++[p]) (ad 0) ob t1/\t1≠t2/\pA cs nx n1 ad S r0 pa T ob/\(∀a ∈ d,∀b ∈ S 0,a≠b->b ∈ T a)/\(∀b ∈ d2,p≠b->b ∈ T p)/\e=aF ((34,Cp t2)::(7,.n .i64 p)::(26,Cp t1)::kl cs nx n1 ad r0)/\H=bg ob []) (Wk.mkS [] [] ?_ ?_ ?_) ⟨[],pa,T,_,rfl,hw3,hw4,htt0,hif3,hdone,λb hb=>(by cases hb),rfl,rfl⟩ ?_
  ·simp only[bh,bf,kl,go_sem,simprocAttr]
   repeat' refine ab ?_ ?_
   all_goals first|exact bm|skip
  ·exact .nil
  ·simp
  clear hw3 hw4 hif3 hif2 hw2 hif hw hdone hot hob0 hob02
  rintro mm e H ⟨d2,pa,T,ob,rfl,hw,hwp,htt,hif,hdone,hd2,rfl,rfl⟩
  have hob0:=hif.lv.at_ 0 hn1
  obtain⟨seen,cur,hsn,hot⟩:=hw.it
  repeat first|with_reducible refine au ?_|simp only[hot,hob0,go_sem,simprocAttr]
  refine kK hw.nd hw.sub hsn (λq hq hqd y hcur hwq=>?_) (λhall=>?_)
  ·have hif2:=hif.iter (.inr ⟨_,hot⟩) (.it y)
   have hwq:=hwq ob
   have hlen2:=hwq.len
   rw[List.length_append,List.length_singleton] at hlen2
   have hwp2:fP (S 0) (d++[p]) (ad 0) (bo ob t2 (.it y)) t1:=hwp.keep λz hz=>⟨z.cur,by rw[aU _ _ htt];exact hz⟩
   repeat first|with_reducible refine au ?_|simp only[hcur,go_sem,simprocAttr]
   refine⟨λhne=>?_,λheq=>?_⟩
   ·refine GA.regp (l:=[_,_,_]) rfl ?_
    simp only[go_sem,simprocAttr]
    refine⟨PE.of (by rfl),_,_,_,_,(by simp only[go_sem,simprocAttr];rfl),(by simp only[go_sem,simprocAttr];rfl),(qd r0 pa T p q ((bg ob []).setOb t2 (.it y)) hif2.io (by show 0<1000;decide)).mono (λv H' hpost=>?_)⟩
    obtain⟨hnx,pa',hst⟩:=hpost
    have hifn:=hif2.note hst (.inl ⟨hne,hS0 p hp,hS0 q hq⟩)
    refine⟨_,_,_,?_,Wk.mkS [] [] ?_ ?_ ?_,d2++[q],pa',je T p q,H'.ob,rfl,hwq.keep (λz hz=>hif2.itKeep hst hz),hwp2.keep (λz hz=>hif2.itKeep hst hz),htt,hifn,λa ha b hb hab=>bS.2 (.inl (hdone a ha b hb hab)),λb hb hpb=>?_,rfl,rfl⟩
    ·simp only[List.length_append,List.length_singleton];omega
    ·simp only[bh,bf,kl,go_sem,simprocAttr]
     repeat' refine ab ?_ ?_
     all_goals first|exact bm|skip
    ·exact .nil
    ·simp
    ·rcases List.mem_append.1 hb with hb|hb
     ·exact bS.2 (.inl (hd2 b hb hpb))
     ·simp at hb;subst hb;exact bS.2 (.inr (.inl ⟨rfl,rfl⟩))
   ·repeat first|with_reducible refine au ?_|simp only[go_sem,simprocAttr]
    refine⟨_,_,_,?_,Wk.mkS [] [] ?_ ?_ ?_,d2++[q],pa,T,_,rfl,hwq,hwp2,htt,hif2,hdone,λb hb hpb=>?_,rfl,rfl⟩
    ·simp only[List.length_append,List.length_singleton];omega
    ·simp only[bh,bf,kl,go_sem,simprocAttr]
     repeat' refine ab ?_ ?_
     all_goals first|exact bm|skip
    ·exact .nil
    ·simp
    ·rcases List.mem_append.1 hb with hb|hb
     ·exact hd2 b hb hpb
     ·simp at hb;subst hb;exact absurd heq hpb
  ·repeat first|with_reducible refine au ?_|simp only[go_sem,simprocAttr]
   refine⟨_,_,_,?_,Wk.mkS [] [] ?_ ?_ ?_,d++[p],pa,T,ob,rfl,hwp,hif,λa ha b hb hab=>?_,rfl,rfl⟩
   ·simp only[List.length_append,List.length_singleton];omega
   ·simp only[bh,bf,kl,go_sem,simprocAttr]
    repeat' refine ab ?_ ?_
    all_goals first|exact bm|skip
   ·exact .nil
   ·simp
   ·rcases List.mem_append.1 ha with ha|ha
    ·exact hdone a ha b hb hab
    ·simp at ha;subst ha;exact hd2 b (hall b hb) hab
 ·repeat first|with_reducible refine au ?_|simp only[go_sem,simprocAttr]
  refine hQ pa T ob _ _ hif (λa ha b hb=>hdone a (hall a ha) b hb) (Wk.mkS [] [] ?_ ?_ ?_)
  ·simp only[bh,bf,kl,go_sem,simprocAttr]
   repeat' refine ab ?_ ?_
   all_goals first|exact bm|skip
  ·exact .nil
  ·simp
def Qe(nx:Nat->List Nat)(S:Nat->List Int)(w:Nat->Int)(T:Int->List Int)(i:Nat):Prop:=∀i',i'<i->0<=w i'->∀k ∈ nx i',∀r ∈ S k,r≠w i'->r ∈ T (w i')
abbrev x5(nx:Nat->List Nat)(i j:Nat)(w:Int)(n:Nat)(code:AV):List (Nat×AV):=[(61,.fs 1 (nx i).length (λj _=> .n .i64 (((nx i).getD j 0:Nat):Int))),(62,.n .i64 (nx i).length),(63,.n .i64 j),(12,.n .i64 w),(46,code),(47,.n .i64 n),(48,.n .i64 i)]
theorem Ib(cs:List In)(nx:Nat->List Nat)(ad:Nat->Nat)(S:Nat->List Int)(r0:Nat)(hn:cs.length<=16384)(hops:∀x ∈ cs,0<=x.1/\x.1<39)(hnx:∀i,i<cs.length->∀k ∈ nx i,k<=cs.length)(hnl:∀i,(nx i).length<=2)(hS:∀i,i<=cs.length->∀r,r ∈ S i->br cs nx i r)
  (pa:Int->Option Nat) (T:Int->List Int) (ob:Nat->Option OB) (hif:pA cs nx (cs.length+1) ad S r0 pa T ob) (hC1:∀a ∈ S 0,∀b ∈ S 0,a≠b->b ∈ T a)
  (Q:AE->Tr AV->AH->Prop) (hQ:∀pa T ob e' H',pA cs nx (cs.length+1) ad S r0 pa T ob->(∀a ∈ S 0,∀b ∈ S 0,a≠b->b ∈ T a)->Qe nx S (ru cs) T cs.length->Wk 90 e' H' (aF (kl cs nx (cs.length+1) ad r0)) (bg ob [])->Q (.exit 4) e' H'):
  GA Try.prog 90 (aE Try.prog 74) wy (aF ((46,.fs 5 cs.length (cC cs))::(47,.n .i64 cs.length)::(48,.n .i64 0)::kl cs nx (cs.length+1) ad r0)) (bg ob []) Q:=by
 have hadd:∀j:Nat,j<100000->IntKind.wrap .i64 ((j:Int)+1)=((j+1:Nat):Int):=λj hj=>by rw[aV (by omega)];omega
 have hadC:∀i,zE ad i 0= .cv (.map (some (ad i))):=λ_=>rfl
 have hgC:∀i,gC nx i 0= .fs 1 (nx i).length (λj _=> .n .i64 (((nx i).getD j 0:Nat):Int)):=λ_=>rfl
 refine GA.loop (I:=λmm e H=>∃(i:Nat) (pa:Int->Option Nat) (T:Int->List Int) (ob:Nat->Option OB),mm=cs.length-i/\i<=cs.length/\pA cs nx (cs.length+1) ad S r0 pa T ob/\(∀a ∈ S 0,∀b ∈ S 0,a≠b->b ∈ T a)/\Qe nx S (ru cs) T i/\e=aF ((46,.fs 5 cs.length (cC cs))::(47,.n .i64 cs.length)::(48,.n .i64 i)::kl cs nx (cs.length+1) ad r0)/\H=bg ob []) Wk.refl ⟨0,pa,T,ob,rfl,Nat.zero_le _,hif,hC1,λi hi=>by omega,rfl,rfl⟩ ?_
 rintro mm e H ⟨i,pa,T,ob,rfl,hi,hif,hC1,hC2,rfl,rfl⟩
 repeat first|with_reducible refine au ?_|simp only[go_sem,simprocAttr]
 refine⟨λh=>?_,λh=>?_⟩
 ·have hil:i<cs.length:=by omega
  have hi0:(0:Int)<=(i:Int):=by omega
  have ha:=hadd i (by omega)
  have hcc0:=vM cs i
  have hcc1:=BO cs i
  have hcc2:=BN cs i
  have hcc3:=BM cs i
  have hcc4:=BL cs i
  have hmem:cs.getD i (0,0,0,0,0) ∈ cs:=by rw[List.getD_eq_getElem?_getD,List.getElem?_eq_getElem hil];exact List.getElem_mem hil
  have hop:=hops _ hmem
  have hwr:ru cs i=aW (cs.getD i (0,0,0,0,0)).1 (cs.getD i (0,0,0,0,0)).2.1:=rfl
  generalize hx:cs.getD i (0,0,0,0,0)=x at*
  obtain⟨op,to,a,b,arg⟩:=x
  have hu:=dM (kZ op to a b arg hop) (by rfl)
  simp only[List.map_cons,List.map_nil,RT.fz] at hu
  simp only at hwr
  repeat first|with_reducible refine au ?_|simp only[hi0,h,hcc0,hcc1,hcc2,hcc3,hcc4,decide_true,go_sem,simprocAttr]
  refine am [] (.cons (.rfl (by rfl)) .nil) hu (by simp only[AH.mark_next,ae,av,aw,aj,af,ah,List.length_cons,List.length_nil];decide) ?_
  rw[<-hwr]
  generalize hw:ru cs i=w
  repeat first|with_reducible refine au ?_|simp only[hi0,h,hgC,go_sem,simprocAttr]
  refine GA.loop (I:=λmm e H=>∃(j:Nat) (pa:Int->Option Nat) (T:Int->List Int) (ob:Nat->Option OB),mm=(nx i).length-j/\j<=(nx i).length/\pA cs nx (cs.length+1) ad S r0 pa T ob/\(∀a ∈ S 0,∀b ∈ S 0,a≠b->b ∈ T a)/\Qe nx S (ru cs) T i/\(0<=w->∀j',j'<j->∀r ∈ S ((nx i).getD j' 0),r≠w->r ∈ T w)/\e=aF (x5 nx i j w cs.length (.fs 5 cs.length (cC cs))++kl cs nx (cs.length+1) ad r0)/\H=bg ob []) (Wk.mkS [] [] ?_ ?_ ?_) ⟨0,pa,T,_,rfl,Nat.zero_le _,hif,hC1,hC2,λ_ j hj=>by omega,rfl,rfl⟩ ?_
  ·simp only[bh,bf,kl,x5,List.cons_append,List.nil_append,go_sem,simprocAttr]
   repeat' refine ab ?_ ?_
   all_goals first|exact bm|skip
  ·exact .nil
  ·simp
  clear hif hC1 hC2
  rintro mm e H ⟨j,pa,T,ob,rfl,hj,hif,hC1,hC2,hC3,rfl,rfl⟩
  simp only[x5,List.cons_append,List.nil_append]
  repeat first|with_reducible refine au ?_|simp only[go_sem,simprocAttr]
  refine⟨λh=>?_,λh=>?_⟩
  ·have hjl:j<(nx i).length:=by omega
   have hj0:(0:Int)<=(j:Int):=by omega
   have ha2:=hadd j (by have:=hnl i;omega)
   obtain⟨k,hk⟩:∃k,(nx i).getD j 0=k:=⟨_,rfl⟩
   have hkm:k ∈ nx i:=by rw[<-hk,List.getD_eq_getElem?_getD,List.getElem?_eq_getElem hjl];exact List.getElem_mem hjl
   have hkn:k<=cs.length:=hnx i hil k hkm
   have hk0:(0:Int)<=(k:Int):=by omega
   have hk1:(k:Int)<((cs.length+1:Nat):Int):=by omega
   have hobk:=hif.lv.at_ k (by omega)
   repeat first|with_reducible refine au ?_|simp only[hj0,h,hk,hk0,hk1,hadC,hobk,go_sem,simprocAttr]
   refine lu (λt ht=>?_)
   have ht:ob t=none:=ht
   have hif3:=hif.iter (.inl ht) (.it ⟨ad k,λq=>((bQ (S k)).get q).isSome,λ_=>false,none⟩)
   have hw3:fP (S k) [] (ad k) (bo ob t (.it ⟨ad k,λq=>((bQ (S k)).get q).isSome,λ_=>false,none⟩)) t:= .start (aL _ _ _)
   repeat first|with_reducible refine au ?_|simp only[go_sem,simprocAttr]
   refine GA.loop (I:=λmm e H=>∃(d:List Int) (pa:Int->Option Nat) (T:Int->List Int) (ob:Nat->Option OB),mm=(S k).length-d.length/\fP (S k) d (ad k) ob t/\pA cs nx (cs.length+1) ad S r0 pa T ob/\(∀a ∈ S 0,∀b ∈ S 0,a≠b->b ∈ T a)/\Qe nx S (ru cs) T i/\(0<=w->∀j',j'<j->∀r ∈ S ((nx i).getD j' 0),r≠w->r ∈ T w)/\(0<=w->∀r ∈ d,r≠w->r ∈ T w)/\e=aF ((71,Cp t)::(x5 nx i j w cs.length (.fs 5 cs.length (cC cs))++kl cs nx (cs.length+1) ad r0))/\H=bg ob []) (Wk.mkS [] [] ?_ ?_ ?_) ⟨[],pa,T,_,rfl,hw3,hif3,hC1,hC2,hC3,λ_ b hb=>(by cases hb),rfl,rfl⟩ ?_
   ·simp only[bh,bf,kl,x5,List.cons_append,List.nil_append,go_sem,simprocAttr]
    repeat' refine ab ?_ ?_
    all_goals first|exact bm|skip
   ·exact .nil
   ·simp
   clear hw3 hif3 hif hC1 hC2 hC3 hobk ht
   rintro mm e H ⟨d,pa,T,ob,rfl,hwk,hif,hC1,hC2,hC3,hd,rfl,rfl⟩
   have hobk:=hif.lv.at_ k (by omega)
   obtain⟨seen,cur,hsn,hot⟩:=hwk.it
   simp only[x5,List.cons_append,List.nil_append]
   repeat first|with_reducible refine au ?_|simp only[hot,hobk,go_sem,simprocAttr]
   refine kK hwk.nd hwk.sub hsn (λq hq hqd y hcur hwq=>?_) (λhall=>?_)
   ·have hif2:=hif.iter (.inr ⟨_,hot⟩) (.it y)
    have hwq:=hwq ob
    have hlen2:=hwq.len
    rw[List.length_append,List.length_singleton] at hlen2
    by_cases hw0:0<=w
    ·repeat first|with_reducible refine au ?_|simp only[hcur,hw0,decide_true,go_sem,simprocAttr]
     refine⟨λhne=>?_,λheq=>?_⟩
     ·refine GA.regp (l:=[_,_,_]) rfl ?_
      simp only[go_sem,simprocAttr]
      refine⟨PE.of (by rfl),_,_,_,_,(by simp only[go_sem,simprocAttr];rfl),(by simp only[go_sem,simprocAttr];rfl),(qd r0 pa T w q ((bg ob []).setOb t (.it y)) hif2.io (by show 0<1000;decide)).mono (λv H' hpost=>?_)⟩
      obtain⟨hnx2,pa',hst⟩:=hpost
      have hifn:=hif2.note hst (.inr ⟨i,k,hil,hkm,by rw[hw];exact hw0,.inl ⟨hw.symm,hne,hS k hkn q hq⟩⟩)
      refine⟨_,_,_,?_,Wk.mkS [] [] ?_ ?_ ?_,d++[q],pa',je T w q,H'.ob,rfl,hwq.keep (λz hz=>hif2.itKeep hst hz),hifn,λa ha b hb hab=>bS.2 (.inl (hC1 a ha b hb hab)),λi' hi' h0 k' hk' r hr hrw=>bS.2 (.inl (hC2 i' hi' h0 k' hk' r hr hrw)),λj' hj' r hr hrw=>bS.2 (.inl (hC3 hw0 j' hj' r hr hrw)),λr hr hrw=>?_,rfl,rfl⟩
      ·simp only[List.length_append,List.length_singleton];omega
      ·simp only[bh,bf,kl,x5,List.cons_append,List.nil_append,go_sem,simprocAttr]
       repeat' refine ab ?_ ?_
       all_goals first|exact bm|skip
      ·exact .nil
      ·simp
      ·rcases List.mem_append.1 hr with hr|hr
       ·exact bS.2 (.inl (hd hw0 r hr hrw))
       ·simp at hr;subst hr;exact bS.2 (.inr (.inl ⟨rfl,rfl⟩))
     ·repeat first|with_reducible refine au ?_|simp only[go_sem,simprocAttr]
      refine⟨_,_,_,?_,Wk.mkS [] [] ?_ ?_ ?_,d++[q],pa,T,_,rfl,hwq,hif2,hC1,hC2,hC3 hw0,λr hr hrw=>?_,rfl,rfl⟩
      ·simp only[List.length_append,List.length_singleton];omega
      ·simp only[bh,bf,kl,x5,List.cons_append,List.nil_append,go_sem,simprocAttr]
       repeat' refine ab ?_ ?_
       all_goals first|exact bm|skip
      ·exact .nil
      ·simp
      ·rcases List.mem_append.1 hr with hr|hr
       ·exact hd hw0 r hr hrw
       ·simp at hr;subst hr;exact absurd heq hrw
    ·repeat first|with_reducible refine au ?_|simp only[hcur,hw0,decide_false,go_sem,simprocAttr]
     refine⟨_,_,_,?_,Wk.mkS [] [] ?_ ?_ ?_,d++[q],pa,T,_,rfl,hwq,hif2,hC1,hC2,rfl,rfl⟩
     ·simp only[List.length_append,List.length_singleton];omega
     ·simp only[bh,bf,kl,x5,List.cons_append,List.nil_append,go_sem,simprocAttr]
      repeat' refine ab ?_ ?_
      all_goals first|exact bm|skip
     ·exact .nil
     ·simp
   ·repeat first|with_reducible refine au ?_|simp only[ha2,go_sem,simprocAttr]
    refine⟨_,_,_,?_,Wk.mkS [] [] ?_ ?_ ?_,j+1,pa,T,ob,rfl,by omega,hif,hC1,hC2,λh0 j' hj' r hr hrw=>?_,rfl,rfl⟩
    ·omega
    ·simp only[bh,bf,kl,x5,List.cons_append,List.nil_append,go_sem,simprocAttr]
     repeat' refine ab ?_ ?_
     all_goals first|exact bm|skip
    ·exact .nil
    ·simp
    ·by_cases e:j'=j
     ·subst e;rw[hk] at hr;exact hd h0 r (hall r hr) hrw
     ·exact hC3 h0 j' (by omega) r hr hrw
  ·have hjk:j=(nx i).length:=by omega
   repeat first|with_reducible refine au ?_|simp only[ha,go_sem,simprocAttr]
   refine⟨_,_,_,?_,Wk.mkS [] [] ?_ ?_ ?_,i+1,pa,T,ob,rfl,by omega,hif,hC1,λi' hi' h0 k hk r hr hrw=>?_,rfl,rfl⟩
   ·omega
   ·simp only[bh,bf,kl,x5,List.cons_append,List.nil_append,go_sem,simprocAttr]
    repeat' refine ab ?_ ?_
    all_goals first|exact bm|skip
   ·exact .nil
   ·simp
   ·by_cases e:i'=i
    ·subst e
     rw[hw] at h0 hrw ⊢
     obtain⟨j',hj',rfl⟩:=List.mem_iff_getElem.1 hk
     refine hC3 h0 j' (by omega) r ?_ hrw
     rw[List.getD_eq_getElem?_getD,List.getElem?_eq_getElem hj'];exact hr
    ·exact hC2 i' (by omega) h0 k hk r hr hrw
 ·have hik:i=cs.length:=by omega
  subst hik
  repeat first|with_reducible refine au ?_|simp only[go_sem,simprocAttr]
  refine hQ pa T ob _ _ hif hC1 hC2 (Wk.mkS [] [] ?_ ?_ ?_)
  ·simp only[bh,bf,kl,go_sem,simprocAttr]
   repeat' refine ab ?_ ?_
   all_goals first|exact bm|skip
  ·exact .nil
  ·simp
theorem f9.cut{r0:Nat}{pa:Int->Option Nat}{T:Int->List Int}{ob:Nat->Option OB}(h:f9 r0 pa T ob):∃N:Nat->Option OB,f9 r0 pa T N/\∀r x,N r=some x->ob r=some x/\w7 x=true:=by
 obtain⟨mo,h1,h2,h3⟩:=h.out
 let N:Nat->Option OB:=λr=>if @decide (r=r0\/∃k,pa k=some r) (Classical.propDecidable _)=true then ob r else none
 have hin:∀r,(r=r0\/∃k,pa k=some r)->N r=ob r:=λr hr=>if_pos (@decide_eq_true _ (Classical.propDecidable _) hr)
 refine⟨N,⟨⟨mo,by rw[hin r0 (.inl rfl)];exact h1,h2,h3⟩,λk a hk=>by rw[hin a (.inr ⟨k,hk⟩)];exact h.at_ k a hk,h.non,h.inj,h.ne⟩,λr x hx=>?_⟩
 have hx:(if @decide (r=r0\/∃k,pa k=some r) (Classical.propDecidable _)=true then ob r else none)=some x:=hx
 split at hx
 ·rename_i hd
  refine⟨hx,?_⟩
  rcases @of_decide_eq_true _ (Classical.propDecidable _) hd with e|⟨k,hk⟩
  ·have hy:=h1.symm.trans (e ▸ hx);cases hy;exact h2
  ·have hy:=(h.at_ k r hk).symm.trans hx;cases hy;rfl
 ·cases hx
theorem jY(cs:List In)(nx:Nat->List Nat)(R:Nat)(hg:bH Try.prog 66 [.fs 5 cs.length (cC cs)] [.v (.fs 1 cs.length (gC nx))])(hn:cs.length<=16384)
  (hops:∀x ∈ cs,0<=x.1/\x.1<39) (hnx:∀i,i<cs.length->∀k ∈ nx i,k<=cs.length) (hnl:∀i,(nx i).length<=2) (hR:∀x ∈ cs,∀r ∈ aB x.1 x.2.2.1 x.2.2.2.1,0<=r/\r<(R:Int)) (hw1:∀i k,i<cs.length->k ∈ nx i->k=i->aW (cs.getD i (0,0,0,0,0)).1 (cs.getD i (0,0,0,0,0)).2.1= -1):
  ik Try.prog 74 [.fs 5 cs.length (cC cs)] (λ_=>True) (λM rs N=>∃(r0:Nat) (pa:Int->Option Nat) (T:Int->List Int),rs=[.v (.cv (.map (some r0)))]/\f9 r0 pa T N/\(∀p,(T p).Nodup)/\(∀p q,q ∈ T p↔fQ cs nx p q)):=by
 have hlv:=jm cs nx R hg hn hops hnx hnl hR hw1
 have hadC:∀(ad:Nat->Nat) i,zE ad i 0= .cv (.map (some (ad i))):=λ_ _=>rfl
 have hn0:(0:Int)<((cs.length+1:Nat):Int):=by omega
 refine jp aZ NW ⟨by simp,by decide⟩ λM hM=>?_
 simp only[bz]
 repeat first|with_reducible refine au ?_|simp only[go_sem,simprocAttr]
 refine fJ (λr0 hr0=>?_)
 repeat first|with_reducible refine au ?_|simp only[go_sem,simprocAttr]
 refine bP [] (.cons (.rfl (by rfl)) .nil) hlv True.intro (by simp only[AH.mark_next,ae,av,aw,aj,ai,af,ah,List.length_cons,List.length_nil];decide) ?_
 rintro rs N ⟨S,ad,hS,hob0,rfl⟩ hfree
 have hfr:∀r x,N r=some x->bo (eK M) r0 (.mp ⟨true,λ_=>none,0,none⟩) r=none:=hfree
 have hlvo:eH (cs.length+1) ad S (jB (bo (eK M) r0 (.mp ⟨true,λ_=>none,0,none⟩)) N):=⟨λi hi=>(eF (hfr _ _ (hob0.at_ i hi))).trans (hob0.at_ i hi),hob0.inj⟩
 have hr0o:jB (bo (eK M) r0 (.mp ⟨true,λ_=>none,0,none⟩)) N r0=some (.mp ⟨true,λ_=>none,0,none⟩):=zC (aL _ _ _)
 have hob1:=hlvo.at_ 0 (by omega)
 repeat first|with_reducible refine au ?_|simp only[hadC,hn0,hob1,go_sem,simprocAttr]
 refine lu (λt1 ht1=>?_)
 generalize hobA:jB (bo (eK M) r0 (.mp ⟨true,λ_=>none,0,none⟩)) N=obA at*
 have ht1:obA t1=none:=by rw[<-hobA];exact ht1
 have hif0:pA cs nx (cs.length+1) ad S r0 (λ_=>none) (λ_=>[]) obA:=⟨⟨⟨_,hr0o,rfl,rfl⟩,λk a hk=>(by cases hk),λ_ _=>rfl,λk k' a hk=>(by cases hk),λk a hk=>(by cases hk)⟩,hlvo,λk a i _ hk=>(by cases hk),λi hi e=>(by
  have:=hfr _ _ (hob0.at_ i hi)
  rw[e,aL] at this
  cases this),λ_=>List.nodup_nil,λp q hq=>(by cases hq),λp q hq=>(by cases hq)⟩
 have hif1:=hif0.iter (.inl ht1) (.it ⟨ad 0,λk=>((bQ (S 0)).get k).isSome,λ_=>false,none⟩)
 repeat first|with_reducible refine au ?_|simp only[go_sem,simprocAttr]
 refine GA.wk (Wk.mkS (L:=(26,Cp t1)::kl cs nx (cs.length+1) ad r0) (bl:=[]) [] [0] ?_ ?_ ?_) ?_
 ·simp only[bh,bf,kl,go_sem,simprocAttr]
  repeat' refine ab ?_ ?_
  all_goals first|exact bm|skip
  ·exact .cv (.p (o:=0) (j:=0) (List.mem_cons_self ..) (by simp only[go_sem,simprocAttr];rfl) (by show 0+1<=1;decide) (by show 0<1;decide) (λq hq=>by obtain rfl:q=0:=(by omega);rfl) (λq hq=>rfl))
  ·exact .cv (.fn .nil (.cons (.p (o:=0) (j:=0) (List.mem_cons_self ..) (by simp only[go_sem,simprocAttr];rfl) (by show 0+1<=1;decide) (by show 0<1;decide) (λq hq=>by obtain rfl:q=0:=(by omega);rfl) (λq hq=>rfl)) .nil))
 ·exact .nil
 ·simp
 simp only[go_sem,simprocAttr,hobA]
 refine Ic cs nx (cs.length+1) ad S r0 (by omega) (by omega) (λr hr=>((hS 0 (by omega)).2 r).1 hr) _ _ _ t1 hif1 (.start (aL _ _ _)) _ (λpa T ob e' H' hif hC1 hwk=>?_)
 simp only[go_sem,simprocAttr]
 refine GA.wk hwk ?_
 repeat first|with_reducible refine au ?_|simp only[go_sem,simprocAttr]
 refine GA.wk (Wk.mkS (L:=(46,.fs 5 cs.length (cC cs))::(47,.n .i64 cs.length)::(48,.n .i64 0)::kl cs nx (cs.length+1) ad r0) (bl:=[]) [] [] ?_ ?_ ?_) ?_
 ·simp only[bh,bf,kl,go_sem,simprocAttr]
  repeat' refine ab ?_ ?_
  all_goals first|exact bm|skip
 ·exact .nil
 ·simp
 refine Ib cs nx ad S r0 hn hops hnx hnl (λi hi r hr=>((hS i hi).2 r).1 hr) pa T ob hif hC1 _ (λpa T ob e' H' hif hC1 hC2 hwk=>?_)
 simp only[go_sem,simprocAttr]
 refine GA.wk hwk ?_
 repeat first|with_reducible refine au ?_|simp only[go_sem,simprocAttr]
 obtain⟨N2,hN1,hN2⟩:=hif.io.cut
 refine⟨[_],N2,[_],⟨r0,pa,T,rfl,hN1,hif.nd,λp q=>⟨hif.ok p q,λhpq=>?_⟩⟩,rfl,⟨⟨rfl,rfl⟩,True.intro⟩,hN2⟩
 have hlive:∀i,i<=cs.length->∀r,br cs nx i r->r ∈ S i:=λi hi r hr=>((hS i hi).2 r).2 hr
 rcases hpq with⟨h1,h2,h3⟩|⟨i,k,hi,hk,h0,⟨rfl,h2,h3⟩|⟨rfl,h2,h3⟩⟩
 ·exact hC1 p (hlive 0 (by omega) p h2) q (hlive 0 (by omega) q h3) h1
 ·exact hC2 i hi h0 k hk q (hlive k (hnx i hi k hk) q h3) h2
 ·exact hif.sy _ _ (hC2 i hi h0 k hk p (hlive k (hnx i hi k hk) p h3) h2)
def jG(K:Nat->Nat)(l:List Nat):Nat->Int->Option Int
 |0=>λ_=>none
 |k+1=>λq=>if q=((l.getD k 0:Nat):Int) then some ((K (l.getD k 0):Nat):Int) else jG K l k q
theorem jf{K:Nat->Nat}{l:List Nat}(h:l.Pairwise (· < ·)):∀{k:Nat},k<=l.length->∀(q v:Int),jG K l k q=some v↔∃i,i<k/\q=((l.getD i 0:Nat):Int)/\v=((K (l.getD i 0):Nat):Int)
 |0,_,q,v=>⟨λh=>(by cases h),λ⟨i,h,_⟩=>by omega⟩
 |k+1,hk,q,v=>by
  unfold jG
  by_cases e:q=((l.getD k 0:Nat):Int)
  ·rw[if_pos e]
   constructor
   ·intro h;cases h;exact⟨k,by omega,e,rfl⟩
   ·rintro ⟨i,hi,hq,rfl⟩
    have:l.getD i 0=l.getD k 0:=by omega
    rw[this]
  ·rw[if_neg e,jf h (by omega) q v]
   constructor
   ·rintro ⟨i,hi,h1,h2⟩;exact⟨i,by omega,h1,h2⟩
   ·rintro ⟨i,hi,h1,h2⟩
    have:i≠k:=λe'=>e (by rw[h1,e'])
    exact⟨i,by omega,h1,h2⟩
theorem oI{l:List Nat}(h:l.Pairwise (· < ·)){i j:Nat}(hij:i<j)(hj:j<l.length):l.getD i 0<l.getD j 0:=by
 rw[List.pairwise_iff_getElem] at h
 have:=h i j (by omega) hj hij
 rw[List.getD_eq_getElem?_getD,List.getD_eq_getElem?_getD,List.getElem?_eq_getElem hj,List.getElem?_eq_getElem (show i<l.length by omega)]
 exact this
theorem jR{K K':Nat->Nat}{l:List Nat}:∀{k:Nat},(∀i,i<k->K (l.getD i 0)=K' (l.getD i 0))->jG K l k=jG K' l k
 |0,_=>rfl
 |k+1,h=>by
  unfold jG
  rw[jR (λi hi=>h i (by omega)),h k (by omega)]
theorem vi(l:List Int)(c:Int):(bQ l).look false (.b false) c= .b (decide (c ∈ l)):=by
 unfold di.look
 rw[dn]
 by_cases h:c ∈ l<;>simp[h,lw]
structure rn(r0:Nat)(pa:Int->Option Nat)(T:Int->List Int)(r1:Nat)(x:di)(ob:Nat->Option OB):Prop where
 io:f9 r0 pa T ob
 out:ob r1=some (.mp x)
 d0:r1≠r0
 d1:∀k,pa k≠some r1
section
variable {r0:Nat} {pa:Int->Option Nat} {T:Int->List Int} {r1:Nat} {x:di} {ob:Nat->Option OB}
theorem rn.other(h:rn r0 pa T r1 x ob){t:Nat}(h0:t≠r0)(h1:t≠r1)(h2:∀k,pa k≠some t)(y:OB):rn r0 pa T r1 x (bo ob t y):=by
 obtain⟨mo,q1,q2,q3⟩:=h.io.out
 exact⟨⟨⟨mo,by rw[aU _ _ (Ne.symm h0)];exact q1,q2,q3⟩,λk a hk=>by rw[aU _ _ (λe=>h2 k (by rw[hk,e]))];exact h.io.at_ k a hk,h.io.non,h.io.inj,h.io.ne⟩,by rw[aU _ _ (Ne.symm h1)];exact h.out,h.d0,h.d1⟩
theorem rn.clr(h:rn r0 pa T r1 x ob):rn r0 pa T r1 x (fY ob):=by
 obtain⟨mo,q1,q2,q3⟩:=h.io.out
 exact⟨⟨⟨mo,dQ q1,q2,q3⟩,λk a hk=>dQ (h.io.at_ k a hk),h.io.non,h.io.inj,h.io.ne⟩,dQ h.out,h.d0,h.d1⟩
theorem rn.fresh(h:rn r0 pa T r1 x ob){t:Nat}(ht:ob t=none):t≠r0/\t≠r1/\∀k,pa k≠some t:=by
 obtain⟨mo,q1,_⟩:=h.io.out
 exact⟨λe=>(by rw[e,q1] at ht;cases ht),λe=>(by rw[e,h.out] at ht;cases ht),λk hk=>(by rw[h.io.at_ k t hk] at ht;cases ht)⟩
theorem rn.set(h:rn r0 pa T r1 x ob)(x':di):rn r0 pa T r1 x' (bo ob r1 (.mp x')):=by
 obtain⟨mo,q1,q2,q3⟩:=h.io.out
 exact⟨⟨⟨mo,by rw[aU _ _ (Ne.symm h.d0)];exact q1,q2,q3⟩,λk a hk=>by rw[aU _ _ (λe=>h.d1 k (by rw[hk,e]))];exact h.io.at_ k a hk,h.io.non,h.io.inj,h.io.ne⟩,aL _ _ _,h.d0,h.d1⟩
end
abbrev o8(l:List Nat)(r0 r1:Nat)(n k:Nat):List (Nat×AV):=[(4,.cv (.map (some r0))),(5,.cv (.map (some r1))),(6,.n .i64 n),(18,.fs 1 l.length (λj _=> .n .i64 ((l.getD j 0:Nat):Int))),(19,.n .i64 l.length),(20,.n .i64 k)]
theorem gH{K K':Nat->Nat}{l:List Nat}:∀{k:Nat},(∀i,i<k->K (l.getD i 0)=K' (l.getD i 0))->cJ K l k=cJ K' l k
 |0,_=>rfl
 |k+1,h=>by
  unfold cJ
  rw[gH (λi hi=>h i (by omega)),h k (by omega)]
def zN(T:Int->List Int)(l:List Nat)(K:Nat->Nat)(k:Nat):Prop:=∀i,i<k->ee (λc=>∃j,j<i/\((l.getD j 0:Nat):Int) ∈ T ((l.getD i 0:Nat):Int)/\K (l.getD j 0)=c) (K (l.getD i 0))
theorem xv{T:Int->List Int}{l:List Nat}(hl:l.Pairwise (· < ·)){K:Nat->Nat}{k c:Nat}(hk:k<l.length)(h:zN T l K k){tk:List Int}(htk:∀v:Int,v ∈ tk↔∃o ∈ T ((l.getD k 0:Nat):Int),jG K l k o=some v)(hc:¬(c:Int) ∈ tk)(hlt:∀c':Nat,c'<c->(c':Int) ∈ tk):
  zN T l (a8 K (l.getD k 0) c) (k+1)/\jG (a8 K (l.getD k 0) c) l k=jG K l k/\cJ (a8 K (l.getD k 0) c) l k=cJ K l k:=by
 have hne:∀i,i<k->l.getD i 0≠l.getD k 0:=λi hi e=>by have:=oI hl hi hk;omega
 have hK:∀i,i<k->a8 K (l.getD k 0) c (l.getD i 0)=K (l.getD i 0):=λi hi=>ag _ _ (hne i hi)
 refine⟨λi hi=>?_,jR hK,gH hK⟩
 have hP:∀v:Nat,((∃j,j<i/\((l.getD j 0:Nat):Int) ∈ T ((l.getD i 0:Nat):Int)/\K (l.getD j 0)=v)↔∃j,j<i/\((l.getD j 0:Nat):Int) ∈ T ((l.getD i 0:Nat):Int)/\a8 K (l.getD k 0) c (l.getD j 0)=v):=λv=>by
  constructor
  ·rintro ⟨j,h1,h2,h3⟩;exact⟨j,h1,h2,by rw[hK j (by omega)];exact h3⟩
  ·rintro ⟨j,h1,h2,h3⟩;exact⟨j,h1,h2,by rw[<-hK j (by omega)];exact h3⟩
 by_cases e:i=k
 ·subst e
  rw[a7]
  have key:∀v:Nat,(v:Int) ∈ tk↔∃j,j<i/\((l.getD j 0:Nat):Int) ∈ T ((l.getD i 0:Nat):Int)/\K (l.getD j 0)=v:=λv=>by
   rw[htk]
   constructor
   ·rintro ⟨o,ho,hv⟩
    obtain⟨j,h1,rfl,h3⟩:=(jf hl (by omega) _ _).1 hv
    exact⟨j,h1,ho,by omega⟩
   ·rintro ⟨j,h1,h2,h3⟩
    exact⟨_,h2,(jf hl (by omega) _ _).2 ⟨j,h1,rfl,by rw[h3]⟩⟩
  exact⟨λhx=>hc ((key c).2 ((hP c).2 hx)),λc' hc'=>(hP c').1 ((key c').1 (hlt c' hc'))⟩
 ·rw[hK i (by omega)]
  exact(h i (by omega)).congr hP
theorem tX(T T':Int->List Int)(l:List Nat)(hl:l.Pairwise (· < ·))(hll:l.length<=100000)(r0 r1 r2:Nat)(pa:Int->Option Nat)(K:Nat->Nat)(k:Nat)(hkl:k<l.length)(x:di)(ob:Nat->Option OB)(hcs:rn r0 pa T' r1 x ob)(hown:x.own=true)(hget:x.get=fi (jG K l k))(hmex:zN T l K k)
  (tk:List Int) (htl:tk.length<=100000) (hob2:ob r2=some (.mp (bQ tk))) (htk:∀v:Int,v ∈ tk↔∃o ∈ T ((l.getD k 0:Nat):Int),jG K l k o=some v)
  (Q:AE->Tr AV->AH->Prop) (hQ:∀(K':Nat->Nat) (x':di) (ob':Nat->Option OB) e' H',rn r0 pa T' r1 x' ob'->x'.own=true->x'.get=fi (jG K' l (k+1))->zN T l K' (k+1)->Wk 57 e' H' (aF (o8 l r0 r1 (cJ K' l (k+1)) k)) (bg ob' [])->Q .normal e' H'):
  GA Try.prog 57 (aE Try.prog 42) wv (aF ((13,.n .i64 0)::(9,.cv (.map (some r2)))::(8,.n .i64 ((l.getD k 0:Nat):Int))::o8 l r0 r1 (cJ K l k) k)) (bg ob []) (gL 4 (gh (λe' H'=>GA Try.prog 57 (aE Try.prog 42) ((AC.reg wu).seq (AC.reg wt)) e' H' Q) Q)):=by
 have hadd:∀j:Nat,j<200000->IntKind.wrap .i64 ((j:Int)+1)=((j+1:Nat):Int):=λj hj=>by rw[aV (by omega)];omega
 refine GA.loop (I:=λmm e H=>∃(c:Nat),mm=tk.length+1-c/\c<=tk.length/\(∀c':Nat,c'<c->(c':Int) ∈ tk)/\e=aF ((13,.n .i64 c)::(9,.cv (.map (some r2)))::(8,.n .i64 ((l.getD k 0:Nat):Int))::o8 l r0 r1 (cJ K l k) k)/\H=bg ob []) Wk.refl ⟨0,rfl,Nat.zero_le _,λc' hc'=>by omega,rfl,rfl⟩ ?_
 rintro mm e H ⟨c,rfl,hcl,hlt,rfl,rfl⟩
 have hlk:=vi tk (c:Int)
 have ha:=hadd c (by omega)
 repeat first|with_reducible refine au ?_|simp only[hob2,hlk,go_sem,simprocAttr]
 refine⟨λhin=>?_,λhout=>?_⟩
 ·have hsub:=fA (l:=(List.range (c+1)).map (λn:Nat=>(n:Int))) (l':=tk) (List.pairwise_map.2 (List.nodup_range.imp λh e=>h (by omega))) (λv hv=>by
   obtain⟨n,hn,rfl⟩:=List.mem_map.1 hv
   rw[List.mem_range] at hn
   by_cases e:n=c
   ·rw[e];exact hin
   ·exact hlt n (by omega))
  rw[List.length_map,List.length_range] at hsub
  repeat first|with_reducible refine au ?_|simp only[ha,go_sem,simprocAttr]
  refine⟨_,_,_,?_,Wk.mkS [] [] ?_ ?_ ?_,c+1,rfl,hsub,λc' hc'=>?_,rfl,rfl⟩
  ·omega
  ·simp only[bh,bf,o8,go_sem,simprocAttr]
   repeat' refine ab ?_ ?_
   all_goals first|exact bm|skip
   all_goals exact Wv.same rfl
  ·exact .nil
  ·simp
  ·by_cases e:c'=c
   ·rw[e];exact hin
   ·exact hlt c' (by omega)
 ·obtain⟨hm1,hm2,hm3⟩:=xv hl hkl hmex htk hout hlt
  have hob1:=hcs.out
  have hmx:(if(cJ K l k:Int)<((c+1:Nat):Int) then((c+1:Nat):Int) else(cJ K l k:Int))=((cJ (a8 K (l.getD k 0) c) l (k+1):Nat):Int):=by
   show _=((max (cJ (a8 K (l.getD k 0) c) l k) (a8 K (l.getD k 0) c (l.getD k 0)+1):Nat):Int)
   rw[hm3,a7]
   split<;>omega
  repeat first|with_reducible refine au ?_|simp only[hob1,hown,ha,hmx,go_sem,simprocAttr]
  refine hQ (a8 K (l.getD k 0) c) _ _ _ _ (hcs.clr.set (x.put ((l.getD k 0:Nat):Int) (.n .i64 (c:Int)))) hown ?_ hm1 (Wk.mkS [] [] ?_ ?_ ?_)
  ·funext q
   show(if q=_ then _ else x.get q)=((jG (a8 K (l.getD k 0) c) l (k+1) q).map (.n .i64 ·))
   unfold jG
   rw[a7,hm2]
   by_cases e:q=((l.getD k 0:Nat):Int)
   ·rw[if_pos e,if_pos e];rfl
   ·rw[if_neg e,if_neg e,hget]
  ·simp only[bh,bf,o8,go_sem,simprocAttr]
   repeat' refine ab ?_ ?_
   all_goals first|exact bm|skip
   all_goals exact Wv.same rfl
  ·exact .nil
  ·simp
theorem sI(cs:List In)(T:Int->List Int)(l:List Nat)(hl:l.Pairwise (· < ·))(hll:l.length<=100000)(hTn:∀p,(T p).Nodup)(hTl:∀p,(T p).length<=100000)
  (hin:ik Try.prog 74 [.fs 5 cs.length (cC cs)] (λ_=>True) (λM rs N=>∃(r0:Nat) (pa:Int->Option Nat) (T':Int->List Int),rs=[.v (.cv (.map (some r0)))]/\f9 r0 pa T' N/\(∀p,(T' p).Nodup)/\(∀p q,q ∈ T' p↔q ∈ T p)))
  (ho:bH Try.prog 52 [.fs 5 cs.length (cC cs)] [.v (.fs 1 l.length (λj _=> .n .i64 ((l.getD j 0:Nat):Int)))]):
  ik Try.prog 42 [.fs 5 cs.length (cC cs)] (λ_=>True) (λM rs N=>∃(r1:Nat) (x:di) (K:Nat->Nat),rs=[.v (.cv (.map (some r1))),.v (.n .i64 (cJ K l l.length))]/\N r1=some (.mp x)/\x.get=fi (jG K l l.length)/\
   ∀i,i<l.length->ee (λc=>∃j,j<i/\((l.getD j 0:Nat):Int) ∈ T ((l.getD i 0:Nat):Int)/\K (l.getD j 0)=c) (K (l.getD i 0))):=by
 have hadd:∀j:Nat,j<200000->IntKind.wrap .i64 ((j:Int)+1)=((j+1:Nat):Int):=λj hj=>by rw[aV (by omega)];omega
 refine jp aZ L5 ⟨by simp,by decide⟩ λM hM=>?_
 simp only[bz]
 repeat first|with_reducible refine au ?_|simp only[go_sem,simprocAttr]
 refine bP [] (.cons (.rfl (by rfl)) .nil) hin True.intro (by simp only[AH.mark_next,ae,av,aw,aj,ai,af,ah,List.length_cons,List.length_nil];decide) ?_
 rintro rs N ⟨r0,pa,T',rfl,hio,hTn',hTT⟩ hfree
 have hfr:∀r x,N r=some x->eK M r=none:=hfree
 have hio2:f9 r0 pa T' (jB (eK M) N):=by
  obtain⟨mo,h1,h2,h3⟩:=hio.out
  exact⟨⟨mo,(eF (hfr _ _ h1)).trans h1,h2,h3⟩,λk a hk=>(eF (hfr _ _ (hio.at_ k a hk))).trans (hio.at_ k a hk),hio.non,hio.inj,hio.ne⟩
 repeat first|with_reducible refine au ?_|simp only[go_sem,simprocAttr]
 refine fJ (λr1 hr1=>?_)
 repeat first|with_reducible refine au ?_|simp only[go_sem,simprocAttr]
 refine am [] (.cons (.rfl (by rfl)) .nil) ho (by simp only[AH.mark_next,ae,av,aw,aj,ai,aq,af,ah,List.length_cons,List.length_nil];decide) ?_
 repeat first|with_reducible refine au ?_|simp only[go_sem,simprocAttr]
 have hpre1:jB (eK M) N r1=none:=hr1
 have hcs0:rn r0 pa T' r1 ⟨true,λ_=>none,0,none⟩ (bo (jB (eK M) N) r1 (.mp ⟨true,λ_=>none,0,none⟩)):=by
  obtain⟨mo,q1,q2,q3⟩:=hio2.out
  have f0:r1≠r0:=λe=>by rw[e,q1] at hpre1;cases hpre1
  have f1:∀k,pa k≠some r1:=λk hk=>by rw[hio2.at_ k r1 hk] at hpre1;cases hpre1
  exact⟨⟨⟨mo,by rw[aU _ _ (Ne.symm f0)];exact q1,q2,q3⟩,λk a hk=>by rw[aU _ _ (λe=>f1 k (by rw[hk,e]))];exact hio2.at_ k a hk,hio2.non,hio2.inj,hio2.ne⟩,aL _ _ _,f0,f1⟩
 refine GA.loop (I:=λmm e H=>∃(k:Nat) (K:Nat->Nat) (x:di) (ob:Nat->Option OB),mm=l.length-k/\k<=l.length/\rn r0 pa T' r1 x ob/\x.own=true/\x.get=fi (jG K l k)/\(∀i,i<k->ee (λc=>∃j,j<i/\((l.getD j 0:Nat):Int) ∈ T ((l.getD i 0:Nat):Int)/\K (l.getD j 0)=c) (K (l.getD i 0)))/\e=aF (o8 l r0 r1 (cJ K l k) k)/\H=bg ob []) (Wk.mkS [] [] ?_ ?_ ?_) ⟨0,λ_=>0,_,_,rfl,Nat.zero_le _,hcs0,rfl,rfl,λi hi=>by omega,rfl,rfl⟩ ?_
 ·simp only[bh,bf,o8,go_sem,simprocAttr]
  repeat' refine ab ?_ ?_
  all_goals first|exact bm|skip
  all_goals exact Wv.same rfl
 ·exact .nil
 ·simp
 clear hcs0 hio2 hio hfree hfr hpre1 hr1
 rintro mm e H ⟨k,K,x,ob,rfl,hk,hcs,hown,hget,hmex,rfl,rfl⟩
 repeat first|with_reducible refine au ?_|simp only[go_sem,simprocAttr]
 refine⟨λh=>?_,λh=>?_⟩
 ·have hkl:k<l.length:=by omega
  have hk0:(0:Int)<=(k:Int):=by omega
  have ha:=hadd k (by omega)
  repeat first|with_reducible refine au ?_|simp only[hk0,h,decide_true,go_sem,simprocAttr]
  refine fJ (λr2 hr2=>?_)
  have hr2:ob r2=none:=hr2
  obtain⟨g0,g1,g2⟩:=hcs.fresh hr2
  have hcs2:=hcs.other g0 g1 g2 (.mp ⟨true,λ_=>none,0,none⟩)
  obtain⟨mo,hmo,hmown,hmget⟩:=hcs2.io.out
  have hlk:=jl hmget ((l.getD k 0:Nat):Int)
  have hob2:bo ob r2 (.mp ⟨true,λ_=>none,0,none⟩) r2=some (.mp (bQ [])):=by rw[aL,fc]
  cases hp:pa ((l.getD k 0:Nat):Int) with
  |none=>
   rw[hp] at hlk
   have hT0:∀o,o ∉ T ((l.getD k 0:Nat):Int):=λo ho=>by
    have h1:=(hTT _ _).2 ho
    rw[hcs.io.non _ hp] at h1;cases h1
   repeat first|with_reducible refine au ?_|simp only[hmo,hlk,go_sem,simprocAttr]
   intro t ht
   have ht:bo ob r2 (.mp ⟨true,λ_=>none,0,none⟩) t=none:=ht
   obtain⟨f0,f1,f2⟩:=hcs2.fresh ht
   have hcs3:=hcs2.other f0 f1 f2 (.fix (.mapIter none 0 #[] 0))
   have hob3:bo (bo ob r2 (.mp ⟨true,λ_=>none,0,none⟩)) t (.fix (.mapIter none 0 #[] 0)) r2=some (.mp (bQ [])):=by
    rw[aU _ _ (ir hob2 ht)];exact hob2
   have hot:bo (bo ob r2 (.mp ⟨true,λ_=>none,0,none⟩)) t (.fix (.mapIter none 0 #[] 0)) t=some (.fix (.mapIter none 0 #[] 0)):=aL _ _ _
   repeat first|with_reducible refine au ?_|simp only[go_sem,simprocAttr]
   refine GA.loop (I:=λmm e H=>mm=0/\e=aF ((28,Cp t)::(9,.cv (.map (some r2)))::(8,.n .i64 ((l.getD k 0:Nat):Int))::o8 l r0 r1 (cJ K l k) k)/\H=bg (bo (bo ob r2 (.mp ⟨true,λ_=>none,0,none⟩)) t (.fix (.mapIter none 0 #[] 0))) []) (Wk.mkS [] [] ?_ ?_ ?_) ⟨rfl,rfl,rfl⟩ ?_
   ·simp only[bh,bf,o8,go_sem,simprocAttr]
    repeat' refine ab ?_ ?_
    all_goals first|exact bm|skip
    all_goals exact Wv.same rfl
   ·exact .nil
   ·simp
   rintro mm e H ⟨rfl,rfl,rfl⟩
   repeat first|with_reducible refine au ?_|simp only[hot,go_sem,simprocAttr]
   refine GA.wk (Wk.mkS (L:=(13,.n .i64 0)::(9,.cv (.map (some r2)))::(8,.n .i64 ((l.getD k 0:Nat):Int))::o8 l r0 r1 (cJ K l k) k) (bl:=[]) [] [] ?_ ?_ ?_) ?_
   ·simp only[bh,bf,o8,go_sem,simprocAttr]
    repeat' refine ab ?_ ?_
    all_goals first|exact bm|skip
    all_goals exact Wv.same rfl
   ·exact .nil
   ·simp
   refine tX T T' l hl hll r0 r1 r2 pa K k hkl x _ hcs3 hown hget hmex [] (by simp) hob3 (λv=>⟨λh=>(by cases h),λ⟨o,ho,_⟩=>absurd ho (hT0 o)⟩) _ (λK' x' ob' e' H' c1 c2 c3 c4 hwk=>?_)
   simp only[go_sem,simprocAttr]
   refine GA.wk hwk ?_
   repeat first|with_reducible refine au ?_|simp only[ha,go_sem,simprocAttr]
   refine⟨_,_,_,?_,Wk.mkS [] [] ?_ ?_ ?_,k+1,K',x',ob',rfl,by omega,c1,c2,c3,c4,rfl,rfl⟩
   ·omega
   ·simp only[bh,bf,o8,go_sem,simprocAttr]
    repeat' refine ab ?_ ?_
    all_goals first|exact bm|skip
    all_goals exact Wv.same rfl
   ·exact .nil
   ·simp
  |some a=>
   rw[hp] at hlk
   have hat:=hcs2.io.at_ _ a hp
   repeat first|with_reducible refine au ?_|simp only[hmo,hlk,hat,go_sem,simprocAttr]
   refine lu (λt ht=>?_)
   have ht:bo ob r2 (.mp ⟨true,λ_=>none,0,none⟩) t=none:=ht
   obtain⟨f0,f1,f2⟩:=hcs2.fresh ht
   have hcs3:=hcs2.other f0 f1 f2 (.it ⟨a,λq=>((bQ (T' ((l.getD k 0:Nat):Int))).get q).isSome,λ_=>false,none⟩)
   have hob3:bo (bo ob r2 (.mp ⟨true,λ_=>none,0,none⟩)) t (.it ⟨a,λq=>((bQ (T' ((l.getD k 0:Nat):Int))).get q).isSome,λ_=>false,none⟩) r2=some (.mp (bQ [])):=by
    rw[aU _ _ (ir hob2 ht)];exact hob2
   have hw3:fP (T' ((l.getD k 0:Nat):Int)) [] a (bo (bo ob r2 (.mp ⟨true,λ_=>none,0,none⟩)) t (.it ⟨a,λq=>((bQ (T' ((l.getD k 0:Nat):Int))).get q).isSome,λ_=>false,none⟩)) t:= .start (aL _ _ _)
   have htr2:t≠r2:=λe=>by rw[e,hob2] at ht;cases ht
   have hTl2:(T' ((l.getD k 0:Nat):Int)).length<=100000:=Nat.le_trans (fA (hTn' _) (λv hv=>(hTT _ v).1 hv)) (hTl _)
   repeat first|with_reducible refine au ?_|simp only[go_sem,simprocAttr]
   refine GA.loop (I:=λmm e H=>∃(d tk:List Int) (ob:Nat->Option OB),mm=(T' ((l.getD k 0:Nat):Int)).length-d.length/\fP (T' ((l.getD k 0:Nat):Int)) d a ob t/\rn r0 pa T' r1 x ob/\ob r2=some (.mp (bQ tk))/\tk.length<=d.length/\(∀v:Int,v ∈ tk↔∃o ∈ d,jG K l k o=some v)/\e=aF ((28,Cp t)::(9,.cv (.map (some r2)))::(8,.n .i64 ((l.getD k 0:Nat):Int))::o8 l r0 r1 (cJ K l k) k)/\H=bg ob []) (Wk.mkS [] [] ?_ ?_ ?_) ⟨[],[],_,rfl,hw3,hcs3,hob3,Nat.le_refl _,λv=>⟨λh=>(by cases h),λ⟨o,ho,_⟩=>(by cases ho)⟩,rfl,rfl⟩ ?_
   ·simp only[bh,bf,o8,go_sem,simprocAttr]
    repeat' refine ab ?_ ?_
    all_goals first|exact bm|skip
    all_goals exact Wv.same rfl
   ·exact .nil
   ·simp
   clear hcs3 hob3 hw3 ht hcs2 hob2 hmo hlk hat hcs hr2
   rintro mm e H ⟨d,tk,ob,rfl,hw,hcs,hob2,htl,htk,rfl,rfl⟩
   have hat:=hcs.io.at_ _ a hp
   have hout:=hcs.out
   obtain⟨seen,cur,hsn,hot⟩:=hw.it
   repeat first|with_reducible refine au ?_|simp only[hot,hat,go_sem,simprocAttr]
   refine kK hw.nd hw.sub hsn (λo ho hod y hcur hwo=>?_) (λhall=>?_)
   ·have hwo:=hwo ob
    have hlen2:=hwo.len
    rw[List.length_append,List.length_singleton] at hlen2
    have hcs4:=hcs.other f0 f1 f2 (.it y)
    have hout4:=hcs4.out
    have hob4:bo ob t (.it y) r2=some (.mp (bQ tk)):=by rw[aU _ _ (Ne.symm htr2)];exact hob2
    have hlk:=r7 hget true o
    cases hnm:jG K l k o with
    |none=>
     rw[hnm] at hlk
     simp only[Option.isSome_none,Option.getD_none] at hlk
     repeat first|with_reducible refine au ?_|simp only[hcur,hout4,hlk,go_sem,simprocAttr]
     refine⟨_,_,_,?_,Wk.mkS [] [] ?_ ?_ ?_,d++[o],tk,_,rfl,hwo,hcs4,hob4,by rw[List.length_append];omega,λv=>(htk v).trans ⟨λ⟨o',h1,h2⟩=>⟨o',List.mem_append.2 (.inl h1),h2⟩,λ⟨o',h1,h2⟩=>?_⟩,rfl,rfl⟩
     ·rw[List.length_append,List.length_singleton];omega
     ·simp only[bh,bf,o8,go_sem,simprocAttr]
      repeat' refine ab ?_ ?_
      all_goals first|exact bm|skip
      all_goals exact Wv.same rfl
     ·exact .nil
     ·simp
     ·rcases List.mem_append.1 h1 with h1|h1
      ·exact⟨o',h1,h2⟩
      ·simp at h1;subst h1;rw[hnm] at h2;cases h2
    |some v=>
     rw[hnm] at hlk
     repeat first|with_reducible refine au ?_|simp only[hcur,hout4,hlk,hob4,go_sem,simprocAttr]
     have hcs5:=hcs4.clr.other g0 g1 g2 (.mp ((bQ tk).put v (.b true)))
     refine⟨rfl,_,_,_,?_,Wk.mkS [] [] ?_ ?_ ?_,d++[o],gM tk v,_,rfl,hwo.keep (λz hz=>⟨none,by rw[aU _ _ htr2];exact t8 hz⟩),hcs5,by rw[aL,iZ],?_,λv'=>?_,rfl,rfl⟩
     ·rw[List.length_append,List.length_singleton];omega
     ·simp only[bh,bf,o8,go_sem,simprocAttr]
      repeat' refine ab ?_ ?_
      all_goals first|exact bm|skip
      all_goals exact Wv.same rfl
     ·exact .nil
     ·simp
     ·rw[List.length_append,List.length_singleton]
      unfold gM
      split
      ·omega
      ·rw[List.length_append,List.length_singleton];omega
     ·rw[db,htk]
      constructor
      ·rintro (⟨o',h1,h2⟩|rfl)
       ·exact⟨o',List.mem_append.2 (.inl h1),h2⟩
       ·exact⟨o,List.mem_append.2 (.inr (by simp)),hnm⟩
      ·rintro ⟨o',h1,h2⟩
       rcases List.mem_append.1 h1 with h1|h1
       ·exact .inl ⟨o',h1,h2⟩
       ·simp at h1;subst h1;rw[hnm] at h2;exact .inr (Option.some.inj h2).symm
   ·repeat first|with_reducible refine au ?_|simp only[go_sem,simprocAttr]
    refine GA.wk (Wk.mkS (L:=(13,.n .i64 0)::(9,.cv (.map (some r2)))::(8,.n .i64 ((l.getD k 0:Nat):Int))::o8 l r0 r1 (cJ K l k) k) (bl:=[]) [] [] ?_ ?_ ?_) ?_
    ·simp only[bh,bf,o8,go_sem,simprocAttr]
     repeat' refine ab ?_ ?_
     all_goals first|exact bm|skip
     all_goals exact Wv.same rfl
    ·exact .nil
    ·simp
    refine tX T T' l hl hll r0 r1 r2 pa K k hkl x ob hcs hown hget hmex tk (by have:=hw.len;omega) hob2 (λv=>(htk v).trans ⟨λ⟨o,h1,h2⟩=>⟨o,(hTT _ o).1 (hw.sub o h1),h2⟩,λ⟨o,h1,h2⟩=>⟨o,hall o ((hTT _ o).2 h1),h2⟩⟩) _ (λK' x' ob' e' H' c1 c2 c3 c4 hwk=>?_)
    simp only[go_sem,simprocAttr]
    refine GA.wk hwk ?_
    repeat first|with_reducible refine au ?_|simp only[ha,go_sem,simprocAttr]
    refine⟨_,_,_,?_,Wk.mkS [] [] ?_ ?_ ?_,k+1,K',x',ob',rfl,by omega,c1,c2,c3,c4,rfl,rfl⟩
    ·omega
    ·simp only[bh,bf,o8,go_sem,simprocAttr]
     repeat' refine ab ?_ ?_
     all_goals first|exact bm|skip
     all_goals exact Wv.same rfl
    ·exact .nil
    ·simp
 ·have hkk:k=l.length:=by omega
  subst hkk
  repeat first|with_reducible refine au ?_|simp only[go_sem,simprocAttr]
  refine⟨_,λr=>if r=r1 then some (.mp x) else none,[_,_],⟨r1,x,K,rfl,if_pos rfl,hget,hmex⟩,rfl,⟨⟨rfl,rfl⟩,⟨rfl,rfl⟩,True.intro⟩,λr y hy=>?_⟩
  have hy:(if r=r1 then some (OB.mp x) else none)=some y:=hy
  split at hy
  ·rename_i e
   cases hy
   subst e
   exact⟨hcs.out,hown⟩
  ·cases hy
end Go.Proofs.Yteopfmnnhlhbmaa
namespace Go.Proofs.Yteopfmnnhlhbmaa
open Go.RowKit
theorem x7{P:Program}{f:FuncId}{args:List AV}{x:AV}(hx:x.pu 3=true)(h:rj P f args λv H=>∃M,Cv M H v x):bH P f args [.v x]:=by
 refine⟨h.1,λφ w args' hφ ha=>(h.2 φ w args' hφ ha).mono λe w' hq=>?_⟩
 cases e with
 |panicked c=>exact hq.elim
 |outgrown=>exact hq.elim
 |returned u=>
  obtain⟨v,Hc,σ',⟨M,hcv⟩,hv,hH,hb,hz⟩:=hq
  obtain⟨σ2,q1,q2,q3,q4,q5,q6,q7⟩:=hH.marks M
  have hu:=hcv.ok hH q1 q2 q7 hv
  exact⟨x,b8 Hc M,σ2,⟨[x],rfl,⟨rfl,hx⟩,True.intro⟩,hu.mono σ2.bare_le,q6,hb,λc hc=>(q4.eq c hc).trans (hz c hc)⟩
def bR(cs:List In)(pt:Nat->Nat)(i:Nat):List Nat:=
 if bV cs i=27\/bV cs i=29\/bV cs i=30 then[i+1,pt i+1]
 else if bV cs i=28 then[pt i+1]
 else if bV cs i=31 then(if bV cs (pt i)=29 then[pt i+1,i+1] else[i+1])
 else[i+1]
theorem rx{M:List Nat}{H:AH}{b a:Nat}{x:AB}(hx:H.at b=some x)(hm:M.contains b=true)(hs:1=x.size)(hg:x.get 0= .n .i64 (a:Int)){nx:Nat->List Nat}{i:Nat}(hnx:nx i=[a]):Cv M H (.sl b 0 1 1) (gC nx i 0):=oG hx hm hs hnx hg
theorem wI{M:List Nat}{H:AH}{b a a2:Nat}{x:AB}(hx:H.at b=some x)(hm:M.contains b=true)(hs:2=x.size)(hg:x.get 0= .n .i64 (a:Int))(hg2:x.get 1= .n .i64 (a2:Int)){nx:Nat->List Nat}{i:Nat}(hnx:nx i=[a,a2]):Cv M H (.sl b 0 2 2) (gC nx i 0):=by
 unfold gC
 rw[hnx]
 refine .sl (by simpa using hm) hx (by rw[<-hs];decide) (by decide) (by rw[<-hs];decide) (λp j hp hj=>?_) (λp j hp hj=>rfl)
 obtain rfl:j=0:=by omega
 have hp':p<2:=hp
 obtain rfl|rfl:p=0\/p=1:=by omega
 ·exact hg
 ·exact hg2
theorem uw(cs:List In)(hn:cs.length<=16384)(pr:List Int)(hpr:pr.length=cs.length)(pt:Nat->Nat)(i:Nat)(hil:i<cs.length)(hp:dL (bV cs i)->pr.getD i 0=(pt i:Int)/\pt i<cs.length):
  bH Try.prog 59 [.fs 5 cs.length (cC cs),.fs 1 pr.length (iC .i64 pr),.n .i64 i] [.v (gC (bR cs pt) i 0)]:=by
 have hadd:∀j:Nat,j<100000->IntKind.wrap .i64 ((j:Int)+1)=((j+1:Nat):Int):=λj hj=>by rw[aV (by omega)];omega
 have hi0:(0:Int)<=(i:Int):=by omega
 have h:(i:Int)<(cs.length:Int):=by omega
 have ha:=hadd i (by omega)
 have hcc0:=vM cs i
 have hic:iC .i64 pr i 0= .n .i64 (pr.getD i 0):=rfl
 have hp0:(0:Int)<=(pt i:Int):=by omega
 have hpc0:=vM cs (pt i)
 have hnx:bR cs pt i=bR cs pt i:=rfl
 conv at hnx=>rhs;unfold bR
 have hopp:(cs.getD (pt i) (0,0,0,0,0)).1=bV cs (pt i):=rfl
 have hopi:(cs.getD i (0,0,0,0,0)).1=bV cs i:=rfl
 rw[hopi] at hcc0
 rw[hopp] at hpc0
 generalize bV cs i=op at*
 generalize bV cs (pt i)=opp at*
 refine x7 (by rfl) (aD aZ Kv ⟨by simp,by decide⟩ ?_)
 simp only[bz]
 have hcase:(op=27\/op=29\/op=30)\/op=28\/op=31\/¬dL op:=by unfold dL;omega
 rcases hcase with h1|h1|h1|h1
 ·obtain⟨hpe,hpl⟩:=hp (by unfold dL;omega)
  have hap:=hadd (pt i) (by omega)
  rw[hpe] at hic
  rw[if_pos h1] at hnx
  rcases h1 with rfl|rfl|rfl
  all_goals
   repeat first|with_reducible refine au ?_|simp only[hi0,h,hpr,hcc0,hic,ha,hap,decide_true,decide_false,go_sem,simprocAttr]
   exact⟨[0],wI (by simp only[go_sem,simprocAttr];rfl) (by rfl) (by rfl) (by first|rfl|simp only[go_sem,simprocAttr]) (by first|rfl|simp only[go_sem,simprocAttr]) hnx⟩
 ·obtain⟨hpe,hpl⟩:=hp (by unfold dL;omega)
  have hap:=hadd (pt i) (by omega)
  rw[hpe] at hic
  subst h1
  rw[if_neg (by decide),if_pos rfl] at hnx
  repeat first|with_reducible refine au ?_|simp only[hi0,h,hpr,hcc0,hic,ha,hap,decide_true,decide_false,go_sem,simprocAttr]
  exact⟨[0],rx (by simp only[go_sem,simprocAttr];rfl) (by rfl) (by rfl) (by first|rfl|simp only[go_sem,simprocAttr]) hnx⟩
 ·obtain⟨hpe,hpl⟩:=hp (by unfold dL;omega)
  have hap:=hadd (pt i) (by omega)
  have hpl':(pt i:Int)<(cs.length:Int):=by omega
  rw[hpe] at hic
  subst h1
  rw[if_neg (by decide),if_neg (by decide),if_pos rfl] at hnx
  by_cases ho:opp=29
  ·rw[if_pos ho] at hnx
   subst ho
   repeat first|with_reducible refine au ?_|simp only[hi0,h,hpr,hcc0,hic,ha,hap,hp0,hpl',hpc0,decide_true,decide_false,go_sem,simprocAttr]
   exact⟨[0],wI (by simp only[go_sem,simprocAttr];rfl) (by rfl) (by rfl) (by first|rfl|simp only[go_sem,simprocAttr]) (by first|rfl|simp only[go_sem,simprocAttr]) hnx⟩
  ·rw[if_neg ho] at hnx
   repeat first|with_reducible refine au ?_|simp only[hi0,h,hpr,hcc0,hic,ha,hap,hp0,hpl',hpc0,ho,decide_true,decide_false,go_sem,simprocAttr]
   exact⟨[0],rx (by simp only[go_sem,simprocAttr];rfl) (by rfl) (by rfl) (by first|rfl|simp only[go_sem,simprocAttr]) hnx⟩
 ·have hn27:¬op=27:=λe=>h1 (.inl e)
  have hn28:¬op=28:=λe=>h1 (.inr (.inl e))
  have hn29:¬op=29:=λe=>h1 (.inr (.inr (.inl e)))
  have hn30:¬op=30:=λe=>h1 (.inr (.inr (.inr (.inl e))))
  have hn31:¬op=31:=λe=>h1 (.inr (.inr (.inr (.inr e))))
  rw[if_neg (by omega),if_neg hn28,if_neg hn31] at hnx
  repeat first|with_reducible refine au ?_|simp only[hi0,h,hpr,hcc0,hic,ha,hn27,hn28,hn29,hn30,hn31,decide_true,decide_false,go_sem,simprocAttr]
  exact⟨[0],rx (by simp only[go_sem,simprocAttr];rfl) (by rfl) (by rfl) (by first|rfl|simp only[go_sem,simprocAttr]) hnx⟩
theorem wX(l:List Int)(hl:l.length<=100000)(v:Int):bH Try.prog 73 [.fs 1 l.length (iC .i64 l),.n .i64 v] [.v (.b (l.contains v))]:=by
 have hadd:∀j:Nat,j<200000->IntKind.wrap .i64 ((j:Int)+1)=((j+1:Nat):Int):=λj hj=>by rw[aV (by omega)];omega
 refine aD aZ Kh ⟨by simp,by decide⟩ ?_
 simp only[bz]
 repeat first|with_reducible refine au ?_|simp only[go_sem,simprocAttr]
 refine GA.loop (I:=λmm e H=>∃(k:Nat),mm=l.length-k/\k<=l.length/\(∀i,i<k->l.getD i 0≠v)/\e=aF [(0,.fs 1 l.length (iC .i64 l)),(1,.n .i64 v),(5,.n .i64 k)]/\H=aY []) (Wk.mk [] [] ?_ ?_ ?_) ⟨0,rfl,Nat.zero_le _,λi hi=>by omega,rfl,rfl⟩ ?_
 ·simp only[bh,bf,go_sem,simprocAttr]
  repeat' refine ab ?_ ?_
  all_goals first|exact bm|skip
 ·exact .nil
 ·simp
 rintro mm e H ⟨k,rfl,hk,hno,rfl,rfl⟩
 repeat first|with_reducible refine au ?_|simp only[go_sem,simprocAttr]
 refine⟨λh=>?_,λh=>?_⟩
 ·have hkl:k<l.length:=by omega
  have hk0:(0:Int)<=(k:Int):=by omega
  have ha:=hadd k (by omega)
  have hic:iC .i64 l k 0= .n .i64 (l.getD k 0):=rfl
  repeat first|with_reducible refine au ?_|simp only[hk0,h,hic,decide_true,go_sem,simprocAttr]
  refine⟨λhe=>?_,λhne=>?_⟩
  ·have hc:l.contains v=true:=by
    rw[List.contains_iff_mem,<-he,List.getD_eq_getElem?_getD,List.getElem?_eq_getElem hkl]
    exact List.getElem_mem hkl
   rw[hc]
   repeat first|with_reducible refine au ?_|simp only[go_sem,simprocAttr]
   exact⟨[_],rfl,⟨rfl,rfl⟩,True.intro⟩
  ·repeat first|with_reducible refine au ?_|simp only[ha,go_sem,simprocAttr]
   refine⟨_,_,_,?_,Wk.mk [] [] ?_ ?_ ?_,k+1,rfl,by omega,λi hi=>?_,rfl,rfl⟩
   ·omega
   ·simp only[bh,bf,go_sem,simprocAttr]
    repeat' refine ab ?_ ?_
    all_goals first|exact bm|skip
   ·exact .nil
   ·simp
   ·by_cases e:i=k
    ·subst e;exact hne
    ·exact hno i (by omega)
 ·have hk':k=l.length:=by omega
  subst hk'
  have hc:l.contains v=false:=by
   rw[<-Bool.not_eq_true,List.contains_iff_mem]
   intro hm
   obtain⟨i,hi,rfl⟩:=List.mem_iff_getElem.1 hm
   exact hno i hi (by rw[List.getD_eq_getElem?_getD,List.getElem?_eq_getElem hi];rfl)
  rw[hc]
  repeat first|with_reducible refine au ?_|simp only[go_sem,simprocAttr]
  exact⟨[_],rfl,⟨rfl,rfl⟩,True.intro⟩
def gm(nm:List Int)(r:Int):Int:=if r<0 then-1 else nm.getD r.toNat 0
theorem gl(nm:List Int)(r:Int)(hr:r<(nm.length:Int)):bH Try.prog 80 [.fs 1 nm.length (iC .i64 nm),.n .i64 r] [.v (.n .i64 (gm nm r))]:=by
 refine aD aZ J8 ⟨by simp,by decide⟩ ?_
 simp only[bz]
 repeat first|with_reducible refine au ?_|simp only[go_sem,simprocAttr]
 refine⟨λh=>?_,λh=>?_⟩
 ·have e:gm nm r= -1:=if_pos h
  rw[e]
  repeat first|with_reducible refine au ?_|simp only[go_sem,simprocAttr]
  exact⟨[_],rfl,⟨rfl,rfl⟩,True.intro⟩
 ·have e:gm nm r=nm.getD r.toNat 0:=if_neg (by omega)
  have hic:iC .i64 nm r.toNat 0= .n .i64 (nm.getD r.toNat 0):=rfl
  have h0:0<=r:=by omega
  rw[e]
  repeat first|with_reducible refine au ?_|simp only[hr,h0,hic,go_sem,simprocAttr]
  exact⟨[_],rfl,⟨rfl,rfl⟩,True.intro⟩
def bC(s:Nat->Bool)(i _j:Nat):AV:= .b (s i)
def dD(s:Nat->Bool)(n:Nat):List Nat:=(List.range n).filter s
theorem uZ(s:Nat->Bool)(n:Nat):dD s (n+1)=if s n=true then dD s n++[n] else dD s n:=by
 unfold dD
 rw[List.range_succ,List.filter_append]
 cases h:s n<;>simp[h]
theorem xy(s:Nat->Bool)(n:Nat):(dD s n).length<=n:=by
 have:=List.length_filter_le s (List.range n)
 rw[List.length_range] at this
 exact this
theorem rC(s:Nat->Bool)(n:Nat)(hn:n<=100000):bH Try.prog 41 [.fs 1 n (bC s)] [.o 3 1 (dD s n).length 0 (eY (dD s n))]:=by
 have hadd:∀j:Nat,j<200000->IntKind.wrap .i64 ((j:Int)+1)=((j+1:Nat):Int):=λj hj=>by rw[aV (by omega)];omega
 refine aD aZ K4 ⟨by simp,by decide⟩ ?_
 simp only[bz]
 repeat first|with_reducible refine au ?_|simp only[go_sem,simprocAttr]
 refine GA.wk (Wk.nil 3 1 3 (by simp only[go_sem,simprocAttr]) (by decide) (by simp only[go_sem,simprocAttr])) ?_
 refine GA.loop (I:=λmm e H=>∃(k:Nat),mm=n-k/\k<=n/\e=aF [(0,.fs 1 n (bC s)),(3,.os 0 (dD s k).length),(4,.n .i64 k)]/\H=aY [aG 3 1 (dD s k).length 0 (eY (dD s k))]) (Wk.mk [0] [] ?_ ?_ ?_) ⟨0,rfl,Nat.zero_le _,rfl,rfl⟩ ?_
 ·simp only[bh,bf,go_sem,simprocAttr]
  repeat' refine ab ?_ ?_
  all_goals first|exact bm|skip
 ·exact .cons rfl (.rowW (by simp only[go_sem,simprocAttr];rfl) (by rfl) (by rfl) (by rfl) (by show 0<=_;exact Nat.zero_le _) (by exact Nat.le_refl _) rfl (by decide) (λi j hi=>absurd (show i<0 from hi) (Nat.not_lt_zero _))) .nil
 ·simp
 rintro mm e H ⟨k,rfl,hk,rfl,rfl⟩
 repeat first|with_reducible refine au ?_|simp only[go_sem,simprocAttr]
 refine⟨λh=>?_,λh=>?_⟩
 ·have hkl:k<n:=by omega
  have hk0:(0:Int)<=(k:Int):=by omega
  have ha:=hadd k (by omega)
  have hbC:bC s k 0= .b (s k):=rfl
  have hlen:=xy s k
  have hl1:(dD s k).length+1<1099511627776:=by omega
  have hl2:((dD s k).length+1)*8<=140737488355328:=by omega
  have hl3:(dD s k).length<=9223372036854775806:=by omega
  have hsc:=uZ s k
  cases hs:s k with
  |true=>
   rw[hs] at hbC
   rw[if_pos hs] at hsc
   repeat first|with_reducible refine au ?_|simp only[hk0,h,hbC,decide_true,ha,hl1,hl2,hl3,go_sem,simprocAttr]
   have hlen2:(dD s (k+1)).length=(dD s k).length+1:=by rw[hsc,List.length_append,List.length_singleton]
   refine⟨_,aF [(0,.fs 1 n (bC s)),(3,.os 0 (dD s (k+1)).length),(4,.n .i64 (k+1:Nat))],aY [aG 3 1 (dD s (k+1)).length 0 (eY (dD s (k+1)))],?_,Wk.mk (L:=[(0,.fs 1 n (bC s)),(3,.os 0 (dD s (k+1)).length),(4,.n .i64 (k+1:Nat))]) [2] [] ?_ ?_ ?_,k+1,rfl,by omega,rfl,rfl⟩
   ·omega
   ·rw[hlen2]
    simp only[bh,bf,go_sem,simprocAttr]
    repeat' refine ab ?_ ?_
    all_goals first|exact bm|skip
   ·rw[hlen2]
    refine .cons rfl (.rowW (by simp only[go_sem,simprocAttr];rfl) (by rfl) (by rfl) (by rfl) (by rw[app_size];show((dD s k).length+1)*1<=_;simp only[cf.len,List.length_singleton];omega) (by rw[cw];exact Nat.le_refl _) rfl (by decide) (λq j hq hj=>?_)) .nil
    obtain rfl:j=0:=by omega
    rw[Nat.mul_one,Nat.add_zero,da _ _ _ (by omega) _ hq]
    by_cases e:q<(dD s k).length
    ·rw[if_pos e]
     have:=aN (ty:=3) (n:=(dD s k).length) (z:=0) (row:=eY (dD s k)) q 0 (by decide:0<1)
     rw[Nat.mul_one,Nat.add_zero] at this
     rw[this]
     unfold eY
     rw[hsc,List.getD_eq_getElem?_getD,List.getD_eq_getElem?_getD,List.getElem?_append_left e]
     exact .cv (.rfl (by rfl))
    ·obtain rfl:q=(dD s k).length:=by omega
     rw[if_neg e]
     unfold eY
     rw[hsc,List.getD_eq_getElem?_getD,List.getElem?_append_right (Nat.le_refl _)]
     simp only[Nat.sub_self,List.getElem?_cons_zero,Option.getD_some]
     exact .cv (.rfl (by rfl))
   ·simp
  |false=>
   rw[hs] at hbC
   rw[if_neg (by rw[hs];decide)] at hsc
   repeat first|with_reducible refine au ?_|simp only[hk0,h,hbC,decide_true,ha,go_sem,simprocAttr]
   refine⟨_,_,_,?_,Wk.mk [0] [] ?_ ?_ ?_,k+1,rfl,by omega,by rw[hsc],by rw[hsc]⟩
   ·omega
   ·simp only[bh,bf,go_sem,simprocAttr]
    repeat' refine ab ?_ ?_
    all_goals first|exact bm|skip
   ·exact .cons rfl .k1 .nil
   ·simp
 ·have hk':k=n:=by omega
  subst hk'
  repeat first|with_reducible refine au ?_|simp only[go_sem,simprocAttr]
  exact⟨[_],rfl,cX.o (x:=_) (by simp only[go_sem,simprocAttr]) rfl rfl rfl (by decide) (Nat.le_refl _) (Nat.le_refl _) (λi j hi hj=>aN i j hj) (λi j _ _=>rfl) rfl .nil⟩
end Go.Proofs.Yteopfmnnhlhbmaa