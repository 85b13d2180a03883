/- A part of the proof of OptimizerShortens: FoM FrB FrC PrB PrC OpA OpB PsR FrD FvC. No condition. -/
import Derived.Test.YtidhfimbnjaceaaGs16
import Derived.Test.YtidhfimbnjaceaaGs11
import Derived.Test.YtidhfimbnjaceaaGs12
import Derived.Test.YtidhfimbnjaceaaGs13
import Derived.Test.YtidhfimbnjaceaaGs10
set_option linter.unusedSimpArgs false
set_option linter.unusedVariables false
set_option linter.constructorNameAsVariable false
set_option maxRecDepth 100000
set_option maxHeartbeats 4000000
namespace Go.Proofs.Ytidhfimbnjaceaa
open Go.RowKit
def nk(op a b:Int):Int×Int:=(if cR op b=0 then aU op a b else 0,cR op b)
theorem k9{op:Int}(h:ce op=true):8<=op/\op<=26:=by
 unfold ce at h
 split at h
 ·rename_i h1
  exact⟨by simpa using h1,by simpa using h⟩
 ·cases h
theorem qp(op a b:Int)(h:ce op=true)(ha:0<=a/\a<4294967296)(hb:0<=b/\b<4294967296):bj Try.prog 61 [.n .i64 op,.n .u32 a,.n .u32 b] [.v (.n .u32 (nk op a b).1),.v (.n .i64 (nk op a b).2)]:=by
 refine zO ⟨_,Try.func61,by kernel_rfl,by kernel_rfl⟩ λw=>?_
 by_cases he:cR op b=0
 ·simp only[nk,if_pos he]
  rw[he]
  exact tg op a b ha.1 ha.2 hb.1 hb.2 he w
 ·simp only[nk,if_neg he]
  exact qq op a b ha.1 ha.2 hb.1 hb.2 he w
def Ih(op:Int):Bool:=(bZ op.toNat).getD 2 false
def Jf(op:Int):Bool:=(bZ op.toNat).getD 3 false
theorem Ig:(bZ 36).getD 2 false=true/\(bZ 36).getD 3 false=false:=by decide
theorem dC.putw{r:Nat->Option Nat}{M:List Nat}{H:AH}{b ty esz n z q o:Nat}{row row2:Nat->Nat->AV}{l:List AV}(hx:H.at b=some ((ax ty esz n z row).putN o l))(ho:o=q*esz)(hl:l.length=esz)(hq:q<n)(hM:M.contains b=false)(h0:0<esz)(hn:n*esz<1000000)
  (h1:∀i j,i<n->i≠q->j<esz->row2 i j=row i j) (hc:∀i j,i<n->j<esz->(row i j).pu 3=true) (h2:∀j,j<esz->Wv r M H (l[j]?.getD .u) (row2 q j)):dC r M H b (ax ty esz n z row2):=by
 subst ho
 refine⟨_,hx,rfl,rfl,rfl,rfl,.inl rfl,?_,λi hi=>?_⟩
 ·rw[if_neg (by simpa using hM)];exact Nat.le_refl _
 have hi':i<n*esz:=hi
 have hqi:i / esz<n:=Nat.div_lt_of_lt_mul (by rw[Nat.mul_comm];exact hi')
 have hm:i%esz<esz:=Nat.mod_lt _ h0
 have hdm:i / esz*esz+i%esz=i:=by
  have:=Nat.div_add_mod i esz
  rw[Nat.mul_comm] at this
  exact this
 have e1:(ax ty esz n z row2).get i=row2 (i / esz) (i%esz):=rfl
 have e2:=oO (ty:=ty) (z:=z) (row:=row) hl hq hn _ _ hqi hm
 rw[hdm] at e2
 rw[e1,e2]
 by_cases h:i / esz=q
 ·rw[if_pos h,h]
  exact h2 _ hm
 ·rw[if_neg h,h1 _ _ hqi h hm]
  exact .cv (.rfl (hc _ _ hqi hm))
def upd{α:Type}(f:Nat->α)(r:Nat)(x:α):Nat->α:=λi=>if i=r then x else f i
structure u9(regs:Nat)(x:In):Prop where
 op:0<=x.1/\x.1<39
 a:Ih x.1=true->0<=x.2.2.1/\x.2.2.1<regs
 b:Jf x.1=true->0<=x.2.2.2.1/\x.2.2.2.1<regs
 to:b8 x.1 x.2.1<regs
 arg:0<=x.2.2.2.2/\x.2.2.2.2<4294967296
abbrev Lv:=Nat->Nat->Bool
def lC(regs:Nat)(L:Lv)(i _j:Nat):AV:= .fs 1 regs (bF (L i))
def jW(L:Lv)(to:Int)(base:Nat->Bool)(l:List Int)(r:Nat):Bool:=base r||l.any λnx=>L nx.toNat r&& !decide ((r:Int)=to)
def jV(base:Nat->Bool)(l:List Int)(r:Nat):Bool:=base r||l.any λq=>decide (q=(r:Int))
def lD(cs:List In)(pt:List Int)(L:Lv)(i:Nat):Nat->Bool:=
 jV (jW L (b8 (cs.getD i (0,0,0,0,0)).1 (cs.getD i (0,0,0,0,0)).2.1) (L i) (iP cs pt i)) (cS (cs.getD i (0,0,0,0,0)).1 (cs.getD i (0,0,0,0,0)).2.2.1 (cs.getD i (0,0,0,0,0)).2.2.2.1)
def fj(cs:List In)(pt:List Int)(regs i:Nat)(s:Lv×Bool):Lv×Bool:=
 if tU regs (lD cs pt s.1 i) (s.1 i)=true then s else(upd s.1 i (lD cs pt s.1 i),true)
def fK(cs:List In)(pt:List Int)(regs:Nat):Nat->Lv×Bool->Lv×Bool
 |0,s=>s
 |i+1,s=>fK cs pt regs i (fj cs pt regs i s)
def rounds(cs:List In)(pt:List Int)(regs:Nat):Nat->Lv->Option Lv
 |0,_=>none
 |f+1,L=>if(fK cs pt regs cs.length (L,false)).2=true then rounds cs pt regs f (fK cs pt regs cs.length (L,false)).1 else some (fK cs pt regs cs.length (L,false)).1
theorem pA(L:Lv)(to:Int)(base:Nat->Bool)(l:List Int)(x:Int)(r:Nat):jW L to base (l++[x]) r=(jW L to base l r||(L x.toNat r&& !decide ((r:Int)=to))):=by
 unfold jW
 rw[List.any_append]
 simp[Bool.or_assoc]
theorem pz(base:Nat->Bool)(l:List Int)(x:Int)(r:Nat):jV base (l++[x]) r=(jV base l r||decide (x=(r:Int))):=by
 unfold jV
 rw[List.any_append]
 simp[Bool.or_assoc]
theorem ro{na:Nat}{ra:Nat->Nat->AV}{regs:Nat}{par:Int}{cs:List In}{pt:List Int}{fuel:Nat}{Lf:Lv}(hcs:cs.length<100000)(hr:regs<1000000)(hpt:dP cs=some pt)(hptl:pt.length=cs.length)
  (hin:∀x ∈ cs,u9 regs x) (hp:∀i,i<cs.length->(-1<=pt.getD i 0/\pt.getD i 0<cs.length)/\((cs.getD i (0,0,0,0,0)).1=31->0<=pt.getD i 0)) (hfo:∀i,i<cs.length->∀nx ∈ iP cs pt i,0<=nx/\nx<=cs.length)
  (hL:rounds cs pt regs fuel (λ_ _=>false)=some Lf):
  bj Try.prog 39 [af na ra regs par cs] [.o 78 1 (cs.length+1) 0 (lC regs Lf)]:=by
 have hpa:=gy cs (by omega) pt hpt
 have hw1:IntKind.wrap .i64 ((cs.length:Int)+1)=((cs.length+1:Nat):Int):=by rw[cE (by omega)];omega
 have hg1:(0:Int)<=((cs.length+1:Nat):Int):=by omega
 have hg2:((cs.length+1:Nat):Int)<=16777216:=by omega
 have hg3:24*(cs.length+1)<=140737488355328/\(cs.length+1)<1099511627776:=by omega
 have hb1:(0:Int)<=(regs:Int):=by omega
 have hb2:(regs:Int)<=16777216:=by omega
 have hb3:1*regs<=140737488355328/\regs<=140737488355328/\regs<1099511627776:=by omega
 refine ae aH DZ ⟨by simp,by decide⟩ ?_
 simp only[aV,af]
 repeat first|with_reducible refine gg ?_|simp only[go_sem,simprocAttr]
 refine g1 hpa ?_
 simp only[go_sem,simprocAttr]
 refine GA.wk (Wk.mk (L:=[(1,.p 0 0),(3,.fs 1 pt.length (iC .i64 pt))]) (bl:=[aK 0 25 [.fs 2 na ra,.n .i64 regs,.n .i64 par,.fs 5 cs.length (cC cs)]]) [0] [1] ?_ ?_ ?_) ?_
 ·simp only[aZ,a7,go_sem,simprocAttr]
  repeat' refine aa ?_ ?_
  all_goals first|exact True.intro|exact Wv.same rfl|exact Wv.p rfl|skip
  refine Wv.cv (Cv.own (ty:=3) (z:=0) (by simp) (by simp only[go_sem,simprocAttr]) (λi j _ _=>rfl))
 ·refine .cons rfl (.ls) .nil
 ·simp
 repeat first|with_reducible refine gg ?_|simp only[hw1,hg1,hg2,hg3.1,hg3.2,Int.le_refl,decide_true,go_sem,simprocAttr]
 refine GA.loop (I:=λmm e H=>∃k:Nat,mm=cs.length+1-k/\k<=cs.length+1/\e=aL [(1,.p 0 0),(3,.fs 1 pt.length (iC .i64 pt)),(4,.os 1 (cs.length+1)),(26,.n .i64 ((cs.length+1:Nat):Int)),(27,.n .i64 k)]/\
   H=aq [ax 78 1 (cs.length+1) 0 (λi _=>if i<k then .fs 1 regs (bF λ_=>false) else .sl0),aK 0 25 [.fs 2 na ra,.n .i64 regs,.n .i64 par,.fs 5 cs.length (cC cs)]]) (Wk.mk [1,0] [] ?_ ?_ ?_) ⟨0,rfl,by omega,rfl,rfl⟩ ?_
 ·simp only[aZ,a7,go_sem,simprocAttr]
  repeat' refine aa ?_ ?_
  all_goals first|exact dt|skip
 ·refine .cons rfl (.same (by simp only[go_sem,simprocAttr]<;>rfl) rfl (by decide) (λi j h hj=>by cases Nat.lt_one_iff.1 hj;rw[if_neg (by omega)];rfl) (λi j _ hj=>by split<;>rfl)) (.cons rfl (.ls) .nil)
 ·simp
 rintro mm e H ⟨k,rfl,hk,rfl,rfl⟩
 repeat first|with_reducible refine gg ?_|simp only[go_sem,simprocAttr]
 refine⟨λh=>?_,λh=>?_⟩
 ·have hkn:k<cs.length+1:=by omega
  have h0:(0:Int)<=(k:Int):=by omega
  have hk1:k+1<=cs.length+1:=hkn
  repeat first|with_reducible refine gg ?_|simp only[h0,h,hkn,hk1,hb1,hb2,hb3.1,hb3.2.1,hb3.2.2,Int.le_refl,decide_true,go_sem,simprocAttr]
  refine⟨_,_,_,?_,Wk.mk [1,0] [2] ?_ ?_ ?_,k+1,rfl,by omega,rfl,rfl⟩
  ·omega
  ·simp only[aZ,a7,go_sem,simprocAttr]
   repeat' refine aa ?_ ?_
   all_goals first|exact dt|skip
  ·refine .cons rfl (.putw (q:=k) (by simp only[go_sem,simprocAttr]<;>rfl) (by simp) (by rfl) hkn rfl (by decide) (by omega) (λi j hi hne hj=>?_) (λi j _ _=>by split<;>rfl) (λj hj=>?_)) (.cons rfl (.ls) .nil)
   ·by_cases h9:i<k
    ·rw[if_pos h9,if_pos (by omega)]
    ·rw[if_neg h9,if_neg (by omega)]
   ·cases Nat.lt_one_iff.1 hj
    rw[if_pos (by omega)]
    refine Wv.cv (Cv.os (x:=_) (by simp) (by simp only[go_sem,simprocAttr]<;>rfl) (by simp only[go_sem,simprocAttr]<;>exact Nat.le_refl _) (λi j hi hj=>?_) (λ_ _ _ _=>rfl))
    cases Nat.lt_one_iff.1 hj
    rw[Nat.mul_one,Nat.add_zero,bM]
    rfl
  ·simp
 have hkn:k=cs.length+1:=by omega
 subst hkn
 repeat first|with_reducible refine gg ?_|simp only[go_sem,simprocAttr]
 refine GA.loop (I:=λmm e H=>∃(f:Nat) (L:Lv) (ch:Bool),mm=f/\(ch=true->rounds cs pt regs f L=some Lf)/\(ch=false->L=Lf)/\e=aL [(1,.p 0 0),(3,.fs 1 pt.length (iC .i64 pt)),(4,.os 1 (cs.length+1)),(6,.b ch)]/\
   H=aq [ax 78 1 (cs.length+1) 0 (lC regs L),aK 0 25 [.fs 2 na ra,.n .i64 regs,.n .i64 par,.fs 5 cs.length (cC cs)]]) (Wk.mk [1,0] [] ?_ ?_ ?_) ⟨fuel,λ_ _=>false,true,rfl,λ_=>hL,λh=>(by cases h),rfl,rfl⟩ ?_
 ·simp only[aZ,a7,go_sem,simprocAttr]
  repeat' refine aa ?_ ?_
  all_goals first|exact dt|skip
 ·refine .cons rfl (.same (by simp only[go_sem,simprocAttr]<;>rfl) rfl (by decide) (λi j h hj=>by rw[if_pos h];rfl) (λi j _ hj=>rfl)) (.cons rfl (.ls) .nil)
 ·simp
 rintro mm e H ⟨f,L,ch,rfl,hch1,hch2,rfl,rfl⟩
 cases ch
 ·repeat first|with_reducible refine gg ?_|simp only[go_sem,simprocAttr]
  have:=hch2 rfl
  subst this
  refine⟨[_],rfl,.o (x:=_) (by simp only[go_sem,simprocAttr];rfl) (by rfl) (by rfl) (by rfl) (by decide) (Nat.le_refl _) (Nat.le_refl _) (λi j _ hj=>aX i j hj) (λi j _ hj=>rfl) rfl .nil⟩
 have hro:=hch1 rfl
 cases mm with
 |zero=>cases hro
 |succ f=>
 rw[rounds] at hro
 generalize hsw:fK cs pt regs cs.length (L,false)=S at hro
 have hw2:IntKind.wrap .i64 ((cs.length:Int)-1)=(cs.length:Int)-1:=cE (by omega)
 repeat first|with_reducible refine gg ?_|simp only[hw2,go_sem,simprocAttr]
 refine GA.loop (I:=λmm e H=>∃(j:Nat) (L:Lv) (ch:Bool),mm=j/\j<=cs.length/\fK cs pt regs j (L,ch)=S/\e=aL [(1,.p 0 0),(3,.fs 1 pt.length (iC .i64 pt)),(4,.os 1 (cs.length+1)),(6,.b ch),(7,.n .i64 ((j:Int)-1))]/\
   H=aq [ax 78 1 (cs.length+1) 0 (lC regs L),aK 0 25 [.fs 2 na ra,.n .i64 regs,.n .i64 par,.fs 5 cs.length (cC cs)]]) (Wk.mk [1,0] [] ?_ ?_ ?_) ⟨cs.length,L,false,rfl,Nat.le_refl _,hsw,rfl,rfl⟩ ?_
 ·simp only[aZ,a7,go_sem,simprocAttr]
  repeat' refine aa ?_ ?_
  all_goals first|exact dt|skip
 ·refine .cons rfl (.k1) (.cons rfl (.ls) .nil)
 ·simp
 rintro mm e H ⟨j,L,ch,rfl,hj,hS,rfl,rfl⟩
 repeat first|with_reducible refine gg ?_|simp only[go_sem,simprocAttr]
 refine⟨λh=>?_,λh=>?_⟩
 rotate_left
 ·have hj0:mm=0:=by omega
  subst hj0
  rw[fK] at hS
  subst hS
  repeat first|with_reducible refine gg ?_|simp only[go_sem,simprocAttr]
  refine⟨_,_,_,?_,Wk.mk [1,0] [] ?_ ?_ ?_,f,L,ch,rfl,λhc=>?_,λhc=>?_,rfl,rfl⟩
  ·omega
  ·simp only[aZ,a7,go_sem,simprocAttr]
   repeat' refine aa ?_ ?_
   all_goals first|exact dt|skip
  ·refine .cons rfl (.k1) (.cons rfl (.ls) .nil)
  ·simp
  ·rw[hc] at hro;simpa using hro
  ·rw[hc] at hro;simpa using hro
 obtain⟨i,rfl⟩:∃i,mm=i+1:=⟨mm-1,by omega⟩
 have hii:((i+1:Nat):Int)-1=(i:Int):=by omega
 rw[fK] at hS
 refine GA.wk (Wk.mk (L:=[(1,.p 0 0),(3,.fs 1 pt.length (iC .i64 pt)),(4,.os 1 (cs.length+1)),(6,.b ch),(7,.n .i64 i)]) (bl:=[ax 78 1 (cs.length+1) 0 (lC regs L),aK 0 25 [.fs 2 na ra,.n .i64 regs,.n .i64 par,.fs 5 cs.length (cC cs)]]) [1,0] [] ?_ ?_ ?_) ?_
 ·simp only[aZ,a7,go_sem,simprocAttr]
  repeat' refine aa ?_ ?_
  all_goals first|exact dt|skip
 ·exact(.cons rfl (.k1) (.cons rfl (.ls) .nil))
 ·simp
 have hin0:i<cs.length:=by omega
 have hi0:(0:Int)<=(i:Int):=by omega
 have hi1:(i:Int)<(cs.length:Int):=by omega
 have hi2:(i:Int)<((cs.length+1:Nat):Int):=by omega
 have hi3:i<cs.length+1:=by omega
 have hm:cs.getD i (0,0,0,0,0) ∈ cs:=by rw[List.getD_eq_getElem?_getD,List.getElem?_eq_getElem hin0];exact List.getElem_mem _
 have hx:=hin _ hm
 have hgl:∀(L:Lv) (q:Nat),(ax 78 1 (cs.length+1) 0 (lC regs L)).get q= .fs 1 regs (bF (L q)):=λL q=>by rw[bM];rfl
 have hfw:=kF cs pt i hin0 (by omega) (by omega) (hp i hin0).1 (hp i hin0).2
 have hF:=hfo i hin0
 have hsA:fj cs pt regs i (L,ch)=if tU regs (lD cs pt L i) (L i)=true then(L,ch) else(upd L i (lD cs pt L i),true):=rfl
 rw[hsA] at hS
 clear hsA
 unfold lD at hS
 have hcc0:=ki cs i
 have hcc1:=ny cs i
 have hcc2:=ou cs i
 have hcc3:=ot cs i
 have hcc4:=oo cs i
 generalize cs.getD i (0,0,0,0,0)=x at hS hx hcc0 hcc1 hcc2 hcc3 hcc4
 obtain⟨op,uto,a,b,arg⟩:=x
 generalize hFe:iP cs pt i=F at hS hfw hF
 have hFl:F.length<=2:=by
  rw[<-hFe];unfold iP
  split
  ·simp
  split<;>simp
 have hrq:∀q ∈ cS op a b,0<=q/\q<regs:=by
  intro q hq
  unfold cS at hq
  rcases List.mem_append.1 hq with hq|hq
  ·split at hq
   ·rename_i hu
    rw[List.mem_singleton.1 hq];exact hx.a hu
   ·cases hq
  ·split at hq
   ·rename_i hu
    rw[List.mem_singleton.1 hq];exact hx.b hu
   ·cases hq
 have hus:=jH op uto a b arg hx.op
 have hrl:=mA op a b
 simp only at hS
 generalize cS op a b=rd at hS hus hrq hrl
 generalize b8 op uto=to at hS hus
 repeat first|with_reducible refine gg ?_|simp only[hi0,hi1,hcc0,hcc1,hcc2,hcc3,hcc4,go_sem,simprocAttr]
 refine g1 hus ?_
 repeat first|with_reducible refine gg ?_|simp only[hi0,hi2,hi3,hgl,go_sem,simprocAttr]
 refine g1 (og (row:=bF (L i)) hr (λ_ _ _ _=>rfl)) ?_
 repeat first|with_reducible refine gg ?_|simp only[go_sem,simprocAttr]
 refine ah [] (.cons (.rfl (by rfl)) (.cons (.rfl (by rfl)) (.cons (.rfl (by rfl)) .nil))) hfw (by simp only[go_sem,simprocAttr]) ?_
 repeat first|with_reducible refine gg ?_|simp only[go_sem,simprocAttr]
 refine GA.loop (I:=λmm e H=>∃k:Nat,mm=F.length-k/\k<=F.length/\e=aL [(1,.p 0 0),(3,.fs 1 pt.length (iC .i64 pt)),(4,.os 1 (cs.length+1)),(6,.b ch),(7,.n .i64 i),(8,.os 2 rd.length),(9,.n .i64 to),(10,.os 3 regs),(64,.fs 1 F.length (iC .i64 F)),(65,.n .i64 F.length),(66,.n .i64 k)]/\H=aq [ax 4 1 regs 0 (bF (jW L to (L i) (F.take k))),ax 3 1 rd.length 0 (iC .i64 rd),ax 78 1 (cs.length+1) 0 (lC regs L),aK 0 25 [.fs 2 na ra,.n .i64 regs,.n .i64 par,.fs 5 cs.length (cC cs)]]) (Wk.mk [3,2,1,0] [] ?_ ?_ ?_) ⟨0,rfl,by omega,rfl,rfl⟩ ?_
 ·simp only[aZ,a7,go_sem,simprocAttr]
  repeat' refine aa ?_ ?_
  all_goals first|exact dt|skip
 ·refine(.cons rfl (.same (by simp only[go_sem,simprocAttr]<;>rfl) rfl (by decide) (λz j h hj=>?_) (λi j _ hj=>rfl)) (.cons rfl (.k1) (.cons rfl (.k1) (.cons rfl (.ls) .nil))))
  cases Nat.lt_one_iff.1 hj
  show AV.b (L i z)=AV.b (jW L to (L i) (F.take 0) z)
  unfold jW;simp
 ·simp
 rintro mm e H ⟨k,rfl,hk,rfl,rfl⟩
 repeat first|with_reducible refine gg ?_|simp only[go_sem,simprocAttr]
 refine⟨λh=>?_,λh=>?_⟩
 ·have hkn:k<F.length:=by omega
  have h0:(0:Int)<=(k:Int):=by omega
  have hmF:F.getD k 0 ∈ F:=by rw[List.getD_eq_getElem?_getD,List.getElem?_eq_getElem hkn];exact List.getElem_mem _
  have hFq:=hF _ hmF
  have htk:F.take (k+1)=F.take k++[F.getD k 0]:=ey hkn
  have hic:iC .i64 F k 0= .n .i64 (F.getD k 0):=rfl
  generalize F.getD k 0=nx at hFq htk hic
  obtain⟨q,rfl⟩:∃q:Nat,nx=(q:Int):=⟨nx.toNat,by omega⟩
  have hq0:(0:Int)<=(q:Int):=hFq.1
  have hq1:(q:Int)<((cs.length+1:Nat):Int):=by omega
  have hq2:q<cs.length+1:=by omega
  generalize hbase:jW L to (L i) (F.take k)=base
  repeat first|with_reducible refine gg ?_|simp only[h0,h,hic,hq0,hq1,hq2,hgl,go_sem,simprocAttr]
  refine GA.loop (I:=λmm e H=>∃r:Nat,mm=regs-r/\r<=regs/\e=aL [(1,.p 0 0),(3,.fs 1 pt.length (iC .i64 pt)),(4,.os 1 (cs.length+1)),(6,.b ch),(7,.n .i64 i),(8,.os 2 rd.length),(9,.n .i64 to),(10,.os 3 regs),(64,.fs 1 F.length (iC .i64 F)),(65,.n .i64 F.length),(66,.n .i64 k),(73,.fs 1 regs (bF (L q))),(74,.n .i64 regs),(75,.n .i64 r)]/\H=aq [ax 4 1 regs 0 (bF λz=>if z<r then(base z||(L q z&& !decide ((z:Int)=to))) else base z),ax 3 1 rd.length 0 (iC .i64 rd),ax 78 1 (cs.length+1) 0 (lC regs L),aK 0 25 [.fs 2 na ra,.n .i64 regs,.n .i64 par,.fs 5 cs.length (cC cs)]]) (Wk.mk [3,2,1,0] [] ?_ ?_ ?_) ⟨0,rfl,by omega,rfl,rfl⟩ ?_
  ·simp only[aZ,a7,go_sem,simprocAttr]
   repeat' refine aa ?_ ?_
   all_goals first|exact dt|skip
  ·refine(.cons rfl (.same (by simp only[go_sem,simprocAttr]<;>rfl) rfl (by decide) (λz j h hj=>?_) (λi j _ hj=>rfl)) (.cons rfl (.k1) (.cons rfl (.k1) (.cons rfl (.ls) .nil))))
   cases Nat.lt_one_iff.1 hj
   show AV.b (base z)=AV.b (if z<0 then _ else _)
   rw[if_neg (by omega)]
  ·simp
  rintro mm e H ⟨r,rfl,hrr,rfl,rfl⟩
  repeat first|with_reducible refine gg ?_|simp only[go_sem,simprocAttr]
  refine⟨λhlr=>?_,λhlr=>?_⟩
  ·have hrn:r<regs:=by omega
   have hr0:(0:Int)<=(r:Int):=by omega
   have hr1:r+1<=regs:=hrn
   have e1:(ax 4 1 regs 0 (bF λz=>if z<r then(base z||(L q z&& !decide ((z:Int)=to))) else base z)).get r= .b (base r):=by
    rw[bM]
    show AV.b (if r<r then _ else _)=_
    rw[if_neg (by omega)]
   have e2:bF (L q) r 0= .b (L q r):=rfl
   have hfin:∀(val:Bool),val=(base r||(L q r&& !decide ((r:Int)=to)))->∀z,(if z=r then AV.b val else AV.b (if z<r then(base z||(L q z&& !decide ((z:Int)=to))) else base z))=AV.b (if z<r+1 then(base z||(L q z&& !decide ((z:Int)=to))) else base z):=by
    intro val hval z
    by_cases e:z=r
    ·subst e;rw[if_pos rfl,if_pos (by omega),hval]
    ·rw[if_neg e]
     by_cases h9:z<r
     ·rw[if_pos h9,if_pos (by omega)]
     ·rw[if_neg h9,if_neg (by omega)]
   cases hbr:base r<;>cases hLr:L q r
   all_goals
    rw[hbr] at e1 hfin
    rw[hLr] at e2 hfin
    repeat first|with_reducible refine gg ?_|simp only[hr0,hlr,hrn,hr1,e1,e2,go_sem,simprocAttr]
    refine⟨_,_,_,?_,Wk.mk [3,2,1,0] [] ?_ ?_ ?_,r+1,rfl,by omega,rfl,rfl⟩
    ·omega
    ·simp only[aZ,a7,go_sem,simprocAttr]
     repeat' refine aa ?_ ?_
     all_goals first|exact dt|skip
    ·refine(.cons rfl (.put (q:=r) (by simp only[go_sem,simprocAttr]<;>rfl) (by simp) (by rfl) hrn rfl (by decide) (by omega) (λz j h hj=>?_) (λi j _ hj=>rfl)) (.cons rfl (.k1) (.cons rfl (.k1) (.cons rfl (.ls) .nil))))
     cases Nat.lt_one_iff.1 hj
     exact hfin _ (by simp) _
    ·simp
  ·have hrn:r=regs:=by omega
   subst hrn
   repeat first|with_reducible refine gg ?_|simp only[go_sem,simprocAttr]
   refine⟨_,_,_,?_,Wk.mk [3,2,1,0] [] ?_ ?_ ?_,k+1,rfl,by omega,rfl,rfl⟩
   ·omega
   ·simp only[aZ,a7,go_sem,simprocAttr]
    repeat' refine aa ?_ ?_
    all_goals first|exact dt|skip
   ·refine(.cons rfl (.same (by simp only[go_sem,simprocAttr]<;>rfl) rfl (by decide) (λz j h hj=>?_) (λi j _ hj=>rfl)) (.cons rfl (.k1) (.cons rfl (.k1) (.cons rfl (.ls) .nil))))
    cases Nat.lt_one_iff.1 hj
    show AV.b (if z<r then _ else _)=AV.b (jW L to (L i) (F.take (k+1)) z)
    rw[if_pos h,htk,pA,hbase]
    rfl
   ·simp
 have hkn:k=F.length:=by omega
 subst hkn
 rw[List.take_length]
 generalize hA:jW L to (L i) F=NA at hS ⊢
 repeat first|with_reducible refine gg ?_|simp only[go_sem,simprocAttr]
 refine GA.loop (I:=λmm e H=>∃k:Nat,mm=rd.length-k/\k<=rd.length/\e=aL [(1,.p 0 0),(3,.fs 1 pt.length (iC .i64 pt)),(4,.os 1 (cs.length+1)),(6,.b ch),(7,.n .i64 i),(10,.os 3 regs),(97,.os 2 rd.length),(98,.n .i64 rd.length),(99,.n .i64 k)]/\H=aq [ax 4 1 regs 0 (bF (jV NA (rd.take k))),ax 3 1 rd.length 0 (iC .i64 rd),ax 78 1 (cs.length+1) 0 (lC regs L),aK 0 25 [.fs 2 na ra,.n .i64 regs,.n .i64 par,.fs 5 cs.length (cC cs)]]) (Wk.mk [3,2,1,0] [] ?_ ?_ ?_) ⟨0,rfl,by omega,rfl,rfl⟩ ?_
 ·simp only[aZ,a7,go_sem,simprocAttr]
  repeat' refine aa ?_ ?_
  all_goals first|exact dt|skip
 ·refine(.cons rfl (.same (by simp only[go_sem,simprocAttr]<;>rfl) rfl (by decide) (λz j h hj=>?_) (λi j _ hj=>rfl)) (.cons rfl (.k1) (.cons rfl (.k1) (.cons rfl (.ls) .nil))))
  cases Nat.lt_one_iff.1 hj
  show AV.b (NA z)=AV.b (jV NA (rd.take 0) z)
  unfold jV;simp
 ·simp
 rintro mm e H ⟨k,rfl,hk,rfl,rfl⟩
 repeat first|with_reducible refine gg ?_|simp only[go_sem,simprocAttr]
 refine⟨λh=>?_,λh=>?_⟩
 ·have hkn:k<rd.length:=by omega
  have h0:(0:Int)<=(k:Int):=by omega
  have hmR:rd.getD k 0 ∈ rd:=by rw[List.getD_eq_getElem?_getD,List.getElem?_eq_getElem hkn];exact List.getElem_mem _
  have hRq:=hrq _ hmR
  have htk:rd.take (k+1)=rd.take k++[rd.getD k 0]:=ey hkn
  have hic:(ax 3 1 rd.length 0 (iC .i64 rd)).get k= .n .i64 (rd.getD k 0):=by rw[bM];rfl
  generalize rd.getD k 0=nx at hRq htk hic
  obtain⟨q,rfl⟩:∃q:Nat,nx=(q:Int):=⟨nx.toNat,by omega⟩
  have hq0:(0:Int)<=(q:Int):=hRq.1
  have hq1:(q:Int)<(regs:Int):=hRq.2
  have hq2:q<regs:=by omega
  have hq3:q+1<=regs:=hq2
  repeat first|with_reducible refine gg ?_|simp only[h0,h,hkn,hic,hq0,hq1,hq2,hq3,go_sem,simprocAttr]
  refine⟨_,_,_,?_,Wk.mk [3,2,1,0] [] ?_ ?_ ?_,k+1,rfl,by omega,rfl,rfl⟩
  ·omega
  ·simp only[aZ,a7,go_sem,simprocAttr]
   repeat' refine aa ?_ ?_
   all_goals first|exact dt|skip
  ·refine(.cons rfl (.put (q:=q) (by simp only[go_sem,simprocAttr]<;>rfl) (by simp) (by rfl) hq2 rfl (by decide) (by omega) (λz j h hj=>?_) (λi j _ hj=>rfl)) (.cons rfl (.k1) (.cons rfl (.k1) (.cons rfl (.ls) .nil))))
   cases Nat.lt_one_iff.1 hj
   show(if z=q then AV.b true else AV.b (jV NA (rd.take k) z))=AV.b (jV NA (rd.take (k+1)) z)
   rw[htk,pz]
   by_cases e:z=q
   ·subst e;rw[if_pos rfl];simp
   ·have:decide ((q:Int)=(z:Int))=false:=by simp;omega
    rw[if_neg e,this,Bool.or_false]
  ·simp
 have hkn:k=rd.length:=by omega
 subst hkn
 rw[List.take_length]
 generalize jV NA rd=N at hS ⊢
 repeat first|with_reducible refine gg ?_|simp only[hi0,hi2,hi3,hgl,go_sem,simprocAttr]
 refine ah [3] (fargs:=[.fs 1 regs (bF N),.fs 1 regs (bF (L i))]) (.cons (Cv.own (ty:=4) (z:=0) (by simp) (by simp only[go_sem,simprocAttr]<;>rfl) (λ_ _ _ _=>rfl)) (.cons (.rfl (by rfl)) .nil)) (oa N (L i) hr) (by simp only[go_sem,simprocAttr]) ?_
 cases heq:tU regs N (L i)
 ·rw[heq,if_neg (by simp)] at hS
  have hi4:i<=cs.length:=by omega
  repeat first|with_reducible refine gg ?_|simp only[hi0,hi2,hi3,hi4,Nat.le_refl,go_sem,simprocAttr]
  refine⟨_,_,_,?_,Wk.mk [1,0] [3] ?_ ?_ ?_,i,upd L i N,true,rfl,by omega,hS,rfl,rfl⟩
  ·omega
  ·simp only[aZ,a7,go_sem,simprocAttr]
   repeat' refine aa ?_ ?_
   all_goals first|exact dt|skip
  ·refine .cons rfl (.putw (q:=i) (by simp only[go_sem,simprocAttr]<;>rfl) (by simp) (by rfl) hi3 rfl (by decide) (by omega) (λz j hz hne hj=>?_) (λ_ _ _ _=>rfl) (λj hj=>?_)) (.cons rfl (.ls) .nil)
   ·unfold lC upd;rw[if_neg hne]
   ·cases Nat.lt_one_iff.1 hj
    unfold lC upd;rw[if_pos rfl]
    refine Wv.cv (Cv.os (x:=_) (by simp) (by simp only[go_sem,simprocAttr]<;>rfl) (by simp only[go_sem,simprocAttr]<;>exact Nat.le_refl _) (λz j hi hj=>?_) (λ_ _ _ _=>rfl))
    cases Nat.lt_one_iff.1 hj
    rw[Nat.mul_one,Nat.add_zero,rR,bM]
  ·simp
 ·rw[heq,if_pos rfl] at hS
  repeat first|with_reducible refine gg ?_|simp only[go_sem,simprocAttr]
  refine⟨_,_,_,?_,Wk.mk [1,0] [] ?_ ?_ ?_,i,L,ch,rfl,by omega,hS,rfl,rfl⟩
  ·omega
  ·simp only[aZ,a7,go_sem,simprocAttr]
   repeat' refine aa ?_ ?_
   all_goals first|exact dt|skip
  ·exact(.cons rfl (.k1) (.cons rfl (.ls) .nil))
  ·simp
def gN(op:Int):Bool:=fF op||decide (op=0)||decide (op=36)||decide (op=38)
def ez(L:Lv)(i:Nat)(x:In):Bool:= !gN x.1||L (i+1) x.2.1.toNat
def cT(L:Lv):List In->Nat->List In
 |[],_=>[]
 |x::l,i=>(if ez L i x=true then[x] else[])++cT L l (i+1)
def fO(cs:List In)(i d:Nat):List In:=cs.take i++cs.drop (i+d)
def uK(cs:List In)(i:Nat):Nat:=if(cs.getD i (0,0,0,0,0)).1=28 then 1 else 2
def iQ:Nat->List In->List In
 |0,l=>l
 |f+1,l=>match jv l with
  |none=>l
  |some i=>iQ f (fO l i (uK l i))
theorem mD(L:Lv):∀(l:List In) (i:Nat),(cT L l i).length<=l.length
 |[],_=>Nat.le_refl _
 |x::l,i=>by
  unfold cT
  rw[List.length_append,List.length_cons]
  have:=mD L l (i+1)
  split<;>simp<;>omega
theorem j7{cs:List In}:∀{f k i:Nat},gP cs f k=some i->i+1<cs.length
 |0,k,i,h=>by cases h
 |f+1,k,i,h=>by
  rw[gP] at h
  split at h
  ·rename_i hk
   split at h
   ·cases h;exact hk
   ·exact j7 h
  ·cases h
theorem dL{cs:List In}{i d:Nat}(h:i+d<=cs.length):(fO cs i d).length=cs.length-d:=by
 unfold fO
 rw[List.length_append,List.length_take,List.length_drop]
 omega
def lj(P:Program)(g:FuncId)(ty:TypeId):Prop:=∀(cs:List In) (i d b:Nat) (H:AH) (Q:AV->AH->Prop),cs.length<1000000->H.at b=some (ax ty 5 cs.length 0 (cC cs))->b<1000000->0<d->i+d<=cs.length->
 (∀x2:AB,x2.ty=ty->x2.esz=5->x2.opn=true->x2.live=true->x2.fzn=0->(cs.length-d)*5<=x2.size->(∀q j,q<cs.length-d->j<5->x2.get (q*5+j)=cC (fO cs i d) q j)->Q (.os b (cs.length-d)) (H.upd b x2))->jp P g [.os b cs.length,.n .i64 i,.n .i64 ((i+d:Nat):Int)] H Q
theorem pq{na:Nat}{ra:Nat->Nat->AV}{regs:Nat}{par:Int}{cs:List In}{Lf:Lv}(hcs:cs.length<100000)(hr:regs<1000000)(hin:∀x ∈ cs,u9 regs x)(hto:∀x ∈ cs,gN x.1=true->0<=x.2.1/\x.2.1<regs)
  (hlv:bj Try.prog 39 [af na ra regs par cs] [.o 78 1 (cs.length+1) 0 (lC regs Lf)])
  (hdel:jv (cT Lf cs 0)≠none->lj Try.prog 42 38):
  bj Try.prog 24 [af na ra regs par cs] [.o 38 5 (iQ (cT Lf cs 0).length (cT Lf cs 0)).length 0 (cC (iQ (cT Lf cs 0).length (cT Lf cs 0)))]:=by
 refine ae aH Ea ⟨by simp,by decide⟩ ?_
 simp only[aV,af] at hlv ⊢
 repeat first|with_reducible refine gg ?_|simp only[go_sem,simprocAttr]
 refine g1 hlv ?_
 simp only[go_sem,simprocAttr]
 refine GA.wk (Wk.mk (L:=[(1,.p 0 0),(3,.fs 1 (cs.length+1) (lC regs Lf))]) (bl:=[aK 0 25 [.fs 2 na ra,.n .i64 regs,.n .i64 par,.fs 5 cs.length (cC cs)]]) [0] [1] ?_ ?_ ?_) ?_
 ·simp only[aZ,a7,go_sem,simprocAttr]
  repeat' refine aa ?_ ?_
  all_goals first|exact True.intro|exact Wv.same rfl|exact Wv.p rfl|skip
  refine Wv.cv (Cv.own (ty:=78) (z:=0) (by simp) (by simp only[go_sem,simprocAttr]) (λi j _ _=>rfl))
 ·refine .cons rfl (.ls) .nil
 ·simp
 with_reducible refine GA.seq ?_
 with_reducible refine GA.reg ?_
 simp only[go_sem,simprocAttr]
 refine GA.wk (Wk.nil 4 5 38 (by simp only[go_sem,simprocAttr]) (by decide) (by simp only[go_sem,simprocAttr])) ?_
 simp only[cA]
 repeat first|with_reducible refine gg ?_|simp only[go_sem,simprocAttr]
 refine GA.loop (I:=λmm e H=>∃(k:Nat) (out:List In),mm=cs.length-k/\k<=cs.length/\out.length<=k/\cT Lf cs 0=out++cT Lf (cs.drop k) k/\e=aL [(1,.p 0 0),(3,.fs 1 (cs.length+1) (lC regs Lf)),(4,.os 1 out.length),(14,.fs 5 cs.length (cC cs)),(15,.n .i64 cs.length),(16,.n .i64 k)]/\
   H=aq [ax 38 5 out.length 0 (cC out),aK 0 25 [.fs 2 na ra,.n .i64 regs,.n .i64 par,.fs 5 cs.length (cC cs)]]) (Wk.mk [1,0] [] ?_ ?_ ?_) ⟨0,[],rfl,by omega,by simp,by simp,rfl,rfl⟩ ?_
 ·simp only[aZ,a7,go_sem,simprocAttr]
  repeat' refine aa ?_ ?_
  all_goals first|exact dt|skip
 ·refine .cons rfl (.r0) (.cons rfl (.ls) .nil)
 ·simp
 rintro mm e H ⟨k,out,rfl,hk,hol,hs,rfl,rfl⟩
 repeat first|with_reducible refine gg ?_|simp only[go_sem,simprocAttr]
 refine⟨λh=>?_,λh=>?_⟩
 ·have hkn:k<cs.length:=by omega
  have h0:(0:Int)<=(k:Int):=by omega
  have hm:cs.getD k (0,0,0,0,0) ∈ cs:=by rw[List.getD_eq_getElem?_getD,List.getElem?_eq_getElem hkn];exact List.getElem_mem _
  rw[bq (d:=(0,0,0,0,0)) hkn,cT] at hs
  have hcc0:=ki cs k
  have hcc1:=ny cs k
  have hcc2:=ou cs k
  have hcc3:=ot cs k
  have hcc4:=oo cs k
  have hxt:=hto _ hm
  generalize cs.getD k (0,0,0,0,0)=x at hs hm hxt hcc0 hcc1 hcc2 hcc3 hcc4
  obtain⟨op,to,a,b,arg⟩:=x
  simp only at hs hxt hcc0 hcc1 hcc2 hcc3 hcc4
  have hlim:(out.length+1)*5<1099511627776/\(out.length+1)*40<=140737488355328/\out.length+1<=9223372036854775807:=by omega
  have hkeep:ez Lf k (op,to,a,b,arg)=(!gN op||Lf (k+1) to.toNat):=rfl
  have hid:gN op=(fF op||decide (op=0)||decide (op=36)||decide (op=38)):=rfl
  have hw:IntKind.wrap .i64 ((k:Int)+1)=((k+1:Nat):Int):=by rw[cE (by omega)];omega
  repeat first|with_reducible refine gg ?_|simp only[h0,h,hcc0,hcc1,hcc2,hcc3,hcc4,go_sem,simprocAttr]
  refine g1 (gj op) ?_
  have fin1:∀(hk1:ez Lf k (op,to,a,b,arg)=true),cT Lf cs 0=(out++[(op,to,a,b,arg)])++cT Lf (cs.drop (k+1)) (k+1):=λhk1=>by
   rw[hs,if_pos hk1,List.append_assoc]
  have fin0:∀(hk1:ez Lf k (op,to,a,b,arg)=false),cT Lf cs 0=out++cT Lf (cs.drop (k+1)) (k+1):=λhk1=>by
   rw[hs,if_neg (by rw[hk1];simp),List.nil_append]
  generalize hkv:ez Lf k (op,to,a,b,arg)=kv at hkeep fin1 fin0
  cases hi:gN op
  ·rw[hi] at hid hkeep
   simp only[Bool.not_false,Bool.true_or] at hkeep
   have d:fF op=false/\decide (op=0)=false/\decide (op=36)=false/\decide (op=38)=false:=by
    cases h1:fF op<;>cases h2:decide (op=0)<;>cases h3:decide (op=36)<;>cases h4:decide (op=38)<;>simp[h1,h2,h3,h4] at hid ⊢
   rw[d.1]
   repeat first|with_reducible refine gg ?_|simp only[d.2.1,d.2.2.1,d.2.2.2,hlim.1,hlim.2.1,hlim.2.2,decide_true,go_sem,simprocAttr]
   refine⟨_,_,_,?_,Wk.mk [4,0] [] ?_ ?_ ?_,k+1,out++[(op,to,a,b,arg)],rfl,by omega,by simp;omega,fin1 hkeep,rfl,rfl⟩
   ·omega
   ·simp only[aZ,a7,go_sem,simprocAttr]
    repeat' refine aa ?_ ?_
    all_goals first|exact dt|skip
   ·rw[show(out++[(op,to,a,b,arg)]).length=out.length+1 from by simp]
    refine .cons rfl (.snoc (by simp only[go_sem,simprocAttr]<;>rfl) (by simp) (by rfl) rfl (by decide) (by omega) (λi j hi _=>by unfold cC;rw[aP hi]) (λj hj=>by
     unfold cC
     rw[aQ]
     rcases cD hj with rfl|rfl|rfl|rfl|rfl<;>rfl) (λi j _ hj=>by rcases cD hj with rfl|rfl|rfl|rfl|rfl<;>rfl)) (.cons rfl (.ls) .nil)
   ·simp
  ·rw[hi] at hid hkeep
   obtain⟨ht0,ht1⟩:=hxt hi
   obtain⟨q,rfl⟩:∃q:Nat,to=(q:Int):=⟨to.toNat,by omega⟩
   simp only[Bool.not_true,Bool.false_or,Int.toNat_natCast] at hkeep
   have e1:lC regs Lf (k+1) 0= .fs 1 regs (bF (Lf (k+1))):=rfl
   have e2:bF (Lf (k+1)) q 0= .b (Lf (k+1) q):=rfl
   have hq0:(0:Int)<=((k+1:Nat):Int):=by omega
   have hq1:((k+1:Nat):Int)<((cs.length+1:Nat):Int):=by omega
   have hq2:(0:Int)<=(q:Int):=ht0
   have hq3:(q:Int)<(regs:Int):=ht1
   have alt:fF op=true\/(fF op=false/\decide (op=0)=true)\/(fF op=false/\decide (op=0)=false/\decide (op=36)=true)\/(fF op=false/\decide (op=0)=false/\decide (op=36)=false/\decide (op=38)=true):=by
    cases h1:fF op<;>cases h2:decide (op=0)<;>cases h3:decide (op=36)<;>cases h4:decide (op=38)<;>simp[h1,h2,h3,h4] at hid ⊢
   rcases alt with h1|⟨h1,h2⟩|⟨h1,h2,h3⟩|⟨h1,h2,h3,h4⟩
   ·rw[h1]
    cases hv:Lf (k+1) q
    ·have hkk:ez Lf k (op,(q:Int),a,b,arg)=false:=by rw[hkv,hkeep,hv]
     rw[hv] at e2
     repeat first|with_reducible refine gg ?_|simp only[h1,hq0,hq1,hq2,hq3,e1,e2,hw,go_sem,simprocAttr]
     refine⟨_,_,_,?_,Wk.mk [1,0] [] ?_ ?_ ?_,k+1,out,rfl,by omega,by omega,fin0 (by rw[<-hkv];exact hkk),rfl,rfl⟩
     ·omega
     ·simp only[aZ,a7,go_sem,simprocAttr]
      repeat' refine aa ?_ ?_
      all_goals first|exact dt|skip
     ·refine .cons rfl (.k5) (.cons rfl (.ls) .nil)
     ·simp
    ·have hkk:ez Lf k (op,(q:Int),a,b,arg)=true:=by rw[hkv,hkeep,hv]
     rw[hv] at e2
     repeat first|with_reducible refine gg ?_|simp only[h1,hq0,hq1,hq2,hq3,e1,e2,hw,hlim.1,hlim.2.1,hlim.2.2,decide_true,go_sem,simprocAttr]
     refine⟨_,_,_,?_,Wk.mk [4,0] [] ?_ ?_ ?_,k+1,out++[(op,(q:Int),a,b,arg)],rfl,by omega,by simp;omega,fin1 (by rw[<-hkv];exact hkk),rfl,rfl⟩
     ·omega
     ·simp only[aZ,a7,go_sem,simprocAttr]
      repeat' refine aa ?_ ?_
      all_goals first|exact dt|skip
     ·rw[show(out++[(op,(q:Int),a,b,arg)]).length=out.length+1 from by simp]
      refine .cons rfl (.snoc (by simp only[go_sem,simprocAttr]<;>rfl) (by simp) (by rfl) rfl (by decide) (by omega) (λi j hi _=>by unfold cC;rw[aP hi]) (λj hj=>by
       unfold cC
       rw[aQ]
       rcases cD hj with rfl|rfl|rfl|rfl|rfl<;>rfl) (λi j _ hj=>by rcases cD hj with rfl|rfl|rfl|rfl|rfl<;>rfl)) (.cons rfl (.ls) .nil)
     ·simp
   ·rw[h1]
    cases hv:Lf (k+1) q
    ·have hkk:ez Lf k (op,(q:Int),a,b,arg)=false:=by rw[hkv,hkeep,hv]
     rw[hv] at e2
     repeat first|with_reducible refine gg ?_|simp only[h2,hq0,hq1,hq2,hq3,e1,e2,hw,go_sem,simprocAttr]
     refine⟨_,_,_,?_,Wk.mk [1,0] [] ?_ ?_ ?_,k+1,out,rfl,by omega,by omega,fin0 (by rw[<-hkv];exact hkk),rfl,rfl⟩
     ·omega
     ·simp only[aZ,a7,go_sem,simprocAttr]
      repeat' refine aa ?_ ?_
      all_goals first|exact dt|skip
     ·refine .cons rfl (.k5) (.cons rfl (.ls) .nil)
     ·simp
    ·have hkk:ez Lf k (op,(q:Int),a,b,arg)=true:=by rw[hkv,hkeep,hv]
     rw[hv] at e2
     repeat first|with_reducible refine gg ?_|simp only[h2,hq0,hq1,hq2,hq3,e1,e2,hw,hlim.1,hlim.2.1,hlim.2.2,decide_true,go_sem,simprocAttr]
     refine⟨_,_,_,?_,Wk.mk [4,0] [] ?_ ?_ ?_,k+1,out++[(op,(q:Int),a,b,arg)],rfl,by omega,by simp;omega,fin1 (by rw[<-hkv];exact hkk),rfl,rfl⟩
     ·omega
     ·simp only[aZ,a7,go_sem,simprocAttr]
      repeat' refine aa ?_ ?_
      all_goals first|exact dt|skip
     ·rw[show(out++[(op,(q:Int),a,b,arg)]).length=out.length+1 from by simp]
      refine .cons rfl (.snoc (by simp only[go_sem,simprocAttr]<;>rfl) (by simp) (by rfl) rfl (by decide) (by omega) (λi j hi _=>by unfold cC;rw[aP hi]) (λj hj=>by
       unfold cC
       rw[aQ]
       rcases cD hj with rfl|rfl|rfl|rfl|rfl<;>rfl) (λi j _ hj=>by rcases cD hj with rfl|rfl|rfl|rfl|rfl<;>rfl)) (.cons rfl (.ls) .nil)
     ·simp
   ·rw[h1]
    cases hv:Lf (k+1) q
    ·have hkk:ez Lf k (op,(q:Int),a,b,arg)=false:=by rw[hkv,hkeep,hv]
     rw[hv] at e2
     repeat first|with_reducible refine gg ?_|simp only[h2,h3,hq0,hq1,hq2,hq3,e1,e2,hw,go_sem,simprocAttr]
     refine⟨_,_,_,?_,Wk.mk [1,0] [] ?_ ?_ ?_,k+1,out,rfl,by omega,by omega,fin0 (by rw[<-hkv];exact hkk),rfl,rfl⟩
     ·omega
     ·simp only[aZ,a7,go_sem,simprocAttr]
      repeat' refine aa ?_ ?_
      all_goals first|exact dt|skip
     ·refine .cons rfl (.k5) (.cons rfl (.ls) .nil)
     ·simp
    ·have hkk:ez Lf k (op,(q:Int),a,b,arg)=true:=by rw[hkv,hkeep,hv]
     rw[hv] at e2
     repeat first|with_reducible refine gg ?_|simp only[h2,h3,hq0,hq1,hq2,hq3,e1,e2,hw,hlim.1,hlim.2.1,hlim.2.2,decide_true,go_sem,simprocAttr]
     refine⟨_,_,_,?_,Wk.mk [4,0] [] ?_ ?_ ?_,k+1,out++[(op,(q:Int),a,b,arg)],rfl,by omega,by simp;omega,fin1 (by rw[<-hkv];exact hkk),rfl,rfl⟩
     ·omega
     ·simp only[aZ,a7,go_sem,simprocAttr]
      repeat' refine aa ?_ ?_
      all_goals first|exact dt|skip
     ·rw[show(out++[(op,(q:Int),a,b,arg)]).length=out.length+1 from by simp]
      refine .cons rfl (.snoc (by simp only[go_sem,simprocAttr]<;>rfl) (by simp) (by rfl) rfl (by decide) (by omega) (λi j hi _=>by unfold cC;rw[aP hi]) (λj hj=>by
       unfold cC
       rw[aQ]
       rcases cD hj with rfl|rfl|rfl|rfl|rfl<;>rfl) (λi j _ hj=>by rcases cD hj with rfl|rfl|rfl|rfl|rfl<;>rfl)) (.cons rfl (.ls) .nil)
     ·simp
   ·rw[h1]
    cases hv:Lf (k+1) q
    ·have hkk:ez Lf k (op,(q:Int),a,b,arg)=false:=by rw[hkv,hkeep,hv]
     rw[hv] at e2
     repeat first|with_reducible refine gg ?_|simp only[h2,h3,h4,hq0,hq1,hq2,hq3,e1,e2,hw,go_sem,simprocAttr]
     refine⟨_,_,_,?_,Wk.mk [1,0] [] ?_ ?_ ?_,k+1,out,rfl,by omega,by omega,fin0 (by rw[<-hkv];exact hkk),rfl,rfl⟩
     ·omega
     ·simp only[aZ,a7,go_sem,simprocAttr]
      repeat' refine aa ?_ ?_
      all_goals first|exact dt|skip
     ·refine .cons rfl (.k5) (.cons rfl (.ls) .nil)
     ·simp
    ·have hkk:ez Lf k (op,(q:Int),a,b,arg)=true:=by rw[hkv,hkeep,hv]
     rw[hv] at e2
     repeat first|with_reducible refine gg ?_|simp only[h2,h3,h4,hq0,hq1,hq2,hq3,e1,e2,hw,hlim.1,hlim.2.1,hlim.2.2,decide_true,go_sem,simprocAttr]
     refine⟨_,_,_,?_,Wk.mk [4,0] [] ?_ ?_ ?_,k+1,out++[(op,(q:Int),a,b,arg)],rfl,by omega,by simp;omega,fin1 (by rw[<-hkv];exact hkk),rfl,rfl⟩
     ·omega
     ·simp only[aZ,a7,go_sem,simprocAttr]
      repeat' refine aa ?_ ?_
      all_goals first|exact dt|skip
     ·rw[show(out++[(op,(q:Int),a,b,arg)]).length=out.length+1 from by simp]
      refine .cons rfl (.snoc (by simp only[go_sem,simprocAttr]<;>rfl) (by simp) (by rfl) rfl (by decide) (by omega) (λi j hi _=>by unfold cC;rw[aP hi]) (λj hj=>by
       unfold cC
       rw[aQ]
       rcases cD hj with rfl|rfl|rfl|rfl|rfl<;>rfl) (λi j _ hj=>by rcases cD hj with rfl|rfl|rfl|rfl|rfl<;>rfl)) (.cons rfl (.ls) .nil)
     ·simp
 ·have hkn:k=cs.length:=by omega
  subst hkn
  rw[List.drop_length,cT,List.append_nil] at hs
  rw[hs] at hdel ⊢
  generalize hR:iQ out.length out=R
  repeat first|with_reducible refine gg ?_|simp only[go_sem,simprocAttr]
  refine GA.loop (I:=λmm e H=>∃(f:Nat) (l:List In),mm=f/\l.length<=f/\l.length<1000000/\iQ f l=R/\(jv l≠none->lj Try.prog 42 38)/\e=aL [(4,.os 0 l.length)]/\H=aq [ax 38 5 l.length 0 (cC l)]) (Wk.mk [1] [] ?_ ?_ ?_) ⟨out.length,out,rfl,Nat.le_refl _,by omega,hR,hdel,rfl,rfl⟩ ?_
  ·simp only[aZ,a7,go_sem,simprocAttr]
   repeat' refine aa ?_ ?_
   all_goals first|exact dt|skip
  ·refine .cons rfl (.k5) .nil
  ·simp
  rintro mm e H ⟨f,l,rfl,hlf,hll,hd,hdl,rfl,rfl⟩
  repeat first|with_reducible refine gg ?_|simp only[go_sem,simprocAttr]
  refine eS [0] (fargs:=[.fs 5 l.length (cC l)]) (.cons (Cv.own (ty:=38) (z:=0) (by simp) (by simp only[go_sem,simprocAttr]<;>rfl) (λ_ _ _ hj=>bt _ hj)) .nil) (nZ l hll) (by simp only[go_sem,simprocAttr]) ?_ ?_
  ·intro r hr
   unfold uw at hr
   split at hr<;>(simp only[List.mem_cons,List.not_mem_nil,or_false] at hr;rcases hr with rfl|rfl<;>rfl)
  cases hh:jv l with
  |none=>
   have hRl:l=R:=by
    rw[<-hd]
    cases mm with
    |zero=>rfl
    |succ f=>rw[iQ,hh]
   subst hRl
   simp only[uw]
   repeat first|with_reducible refine gg ?_|simp only[go_sem,simprocAttr]
   refine⟨[_],rfl,.o (x:=_) (by simp only[go_sem,simprocAttr];rfl) (by rfl) (by rfl) (by rfl) (by decide) (Nat.le_refl _) (Nat.le_refl _) (λi j _ hj=>aX i j hj) (λi j _ hj=>bt i hj) rfl .nil⟩
  |some i=>
   have hil:=j7 hh
   obtain⟨f,rfl⟩:∃f,mm=f+1:=⟨mm-1,by omega⟩
   rw[iQ,hh] at hd
   simp only at hd
   have hDel:=hdl (by rw[hh];simp)
   have hg:(ax 38 5 l.length 0 (cC l)).get (i*5)= .n .i64 (l.getD i (0,0,0,0,0)).1:=by
    have:=aX (ty:=38) (n:=l.length) (z:=0) (row:=cC l) i 0 (by decide:0<5)
    exact this
   have hi0:(0:Int)<=(i:Int):=by omega
   have hi1:(i:Int)<(l.length:Int):=by omega
   have hi2:i*5<l.length*5:=by omega
   have hw1:IntKind.wrap .i64 ((i:Int)+1)=((i+1:Nat):Int):=by rw[cE (by omega)];omega
   have hw2:IntKind.wrap .i64 ((i:Int)+2)=((i+2:Nat):Int):=by rw[cE (by omega)];omega
   unfold uK at hd
   generalize (l.getD i (0,0,0,0,0)).1=op at hg hd
   simp only[uw]
   repeat first|with_reducible refine gg ?_|simp only[hi0,hi1,hi2,hg,go_sem,simprocAttr]
   refine⟨λh1=>?_,λh1=>?_⟩
   ·rw[if_pos h1] at hd
    repeat first|with_reducible refine gg ?_|simp only[hw1,go_sem,simprocAttr]
    refine hDel l i 1 0 _ _ hll (by simp only[go_sem,simprocAttr]) (by decide) (by decide) (by omega) (λx2 q1 q2 q3 q4 q5 q6 q7=>?_)
    repeat first|with_reducible refine gg ?_|simp only[go_sem,simprocAttr]
    refine⟨_,_,_,?_,Wk.mk [0] [] ?_ ?_ ?_,f,fO l i 1,rfl,by rw[dL (by omega)];omega,by rw[dL (by omega)];omega,hd,λ_=>hDel,rfl,rfl⟩
    ·omega
    ·rw[dL (by omega)]
     simp only[aZ,a7,go_sem,simprocAttr]
     repeat' refine aa ?_ ?_
     all_goals first|exact dt|skip
    ·rw[dL (by omega)]
     refine .cons rfl (.rows (x:=x2) (by simp only[q4,go_sem,simprocAttr]) q1 q2 q3 q6 (by simp[q5]) (by decide) q7 (λi j _ hj=>by rcases cD hj with rfl|rfl|rfl|rfl|rfl<;>rfl)) .nil
    ·simp
   ·rw[if_neg h1] at hd
    repeat first|with_reducible refine gg ?_|simp only[hw2,go_sem,simprocAttr]
    refine hDel l i 2 0 _ _ hll (by simp only[go_sem,simprocAttr]) (by decide) (by decide) (by omega) (λx2 q1 q2 q3 q4 q5 q6 q7=>?_)
    repeat first|with_reducible refine gg ?_|simp only[go_sem,simprocAttr]
    refine⟨_,_,_,?_,Wk.mk [0] [] ?_ ?_ ?_,f,fO l i 2,rfl,by rw[dL (by omega)];omega,by rw[dL (by omega)];omega,hd,λ_=>hDel,rfl,rfl⟩
    ·omega
    ·rw[dL (by omega)]
     simp only[aZ,a7,go_sem,simprocAttr]
     repeat' refine aa ?_ ?_
     all_goals first|exact dt|skip
    ·rw[dL (by omega)]
     refine .cons rfl (.rows (x:=x2) (by simp only[q4,go_sem,simprocAttr]) q1 q2 q3 q6 (by simp[q5]) (by decide) q7 (λi j _ hj=>by rcases cD hj with rfl|rfl|rfl|rfl|rfl<;>rfl)) .nil
    ·simp
def tT:List In->List In->Bool
 |[],[]=>true
 |x::l,y::m=>dR x y&&tT l m
 |_,_=>false
theorem oZ:∀{l m:List In},¬l.length=m.length->tT l m=false
 |[],[],h=>absurd rfl h
 |[],_::_,_=>rfl
 |_::_,[],_=>rfl
 |x::l,y::m,h=>by
  rw[tT,oZ (by simpa using h),Bool.and_false]
theorem n9(l m:List In)(hl:l.length<1000000):bj Try.prog 30 [.fs 5 l.length (cC l),.fs 5 m.length (cC m)] [.v (.b (tT l m))]:=by
 by_cases hlm:l.length=m.length
 ·have hll:(l.length:Int)=(m.length:Int):=by omega
  refine ae aH vd ⟨by simp,by decide⟩ ?_
  simp only[aV]
  repeat first|with_reducible refine gg ?_|simp only[hll,decide_true,go_sem,simprocAttr]
  refine GA.loop (I:=λmm e H=>∃k:Nat,mm=l.length-k/\k<=l.length/\tT l m=tT (l.drop k) (m.drop k)/\e=aL [(0,.fs 5 l.length (cC l)),(1,.fs 5 m.length (cC m)),(11,.fs 5 l.length (cC l)),(12,.n .i64 m.length),(13,.n .i64 k)]/\H=aq []) (Wk.mk [] [] ?_ ?_ ?_) ⟨0,rfl,by omega,rfl,rfl,rfl⟩ ?_
  ·simp only[aZ,a7,go_sem,simprocAttr]
   repeat' refine aa ?_ ?_
   all_goals first|exact dt|skip
  ·exact True.intro
  ·simp
  rintro mm e H ⟨k,rfl,hk,hs,rfl,rfl⟩
  repeat first|with_reducible refine gg ?_|simp only[go_sem,simprocAttr]
  refine⟨λh=>?_,λh=>?_⟩
  ·have hk':k<l.length:=by omega
   have hkm:k<m.length:=by omega
   have h0:(0:Int)<=(k:Int):=by omega
   have h2:(k:Int)<(m.length:Int):=by omega
   have h3:(k:Int)<(l.length:Int):=by omega
   rw[bq (d:=(0,0,0,0,0)) hk',bq (d:=(0,0,0,0,0)) hkm,tT] at hs
   have c0:=ki l k
   have c1:=ny l k
   have c2:=ou l k
   have c3:=ot l k
   have c4:=oo l k
   have e0:=ki m k
   have e1:=ny m k
   have e2:=ou m k
   have e3:=ot m k
   have e4:=oo m k
   generalize l.getD k (0,0,0,0,0)=x at hs c0 c1 c2 c3 c4
   generalize m.getD k (0,0,0,0,0)=y at hs e0 e1 e2 e3 e4
   have hxy:=jE x y
   repeat first|with_reducible refine gg ?_|simp only[h0,h,h2,h3,hll,c0,c1,c2,c3,c4,e0,e1,e2,e3,e4,mg,jw,f9,l6,SH.row,go_sem,simprocAttr]
   refine⟨λh1=>?_,λh1=>?_⟩
   ·have he:dR x y=false:=by
     rw[hxy]
     first
      |exact h1
      |simpa using h1
    rw[he,Bool.false_and] at hs
    repeat first|with_reducible refine gg ?_|simp only[go_sem,simprocAttr]
    exact ag (by rw[hs]) rfl
   ·have he:dR x y=true:=by
     rw[hxy]
     first
      |exact h1
      |simpa using h1
    rw[he,Bool.true_and] at hs
    repeat first|with_reducible refine gg ?_|simp only[go_sem,simprocAttr]
    refine⟨_,_,_,?_,Wk.mk [] [] ?_ ?_ ?_,k+1,rfl,by omega,hs,rfl,rfl⟩
    ·omega
    ·simp only[aZ,a7,go_sem,simprocAttr]
     repeat' refine aa ?_ ?_
     all_goals first|exact dt|skip
    ·exact True.intro
    ·simp
  ·have:k=l.length:=by omega
   rw[this,List.drop_length,hlm,List.drop_length] at hs
   repeat first|with_reducible refine gg ?_|simp only[go_sem,simprocAttr]
   exact ag (by rw[hs];rfl) rfl
 ·have hll:¬((l.length:Int)=(m.length:Int)):=by omega
  have hf:tT l m=false:=oZ hlm
  refine ae aH vd ⟨by simp,by decide⟩ ?_
  simp only[aV]
  repeat first|with_reducible refine gg ?_|simp only[hll,decide_false,go_sem,simprocAttr]
  exact ag (by rw[hf]) rfl
def hI(p:List In->List In):Nat->List In->List In
 |0,c=>c
 |f+1,c=>if tT c (p c)=true then c else hI p f (p c)
def ma(na:Nat)(ra:Nat->Nat->AV)(regs:Nat)(par:Int)(Good:List In->Prop)(g:FuncId)(p:List In->List In):Prop:=
 ∀c,Good c->bj Try.prog g [af na ra regs par c] [.v (.fs 5 (p c).length (cC (p c)))]/\Good (p c)
def dT(p1 p2 p3 p4:List In->List In):Nat->List In->List In
 |0,c=>c
 |1,c=>p1 c
 |2,c=>p2 (p1 c)
 |3,c=>p3 (p2 (p1 c))
 |_,c=>p4 (p3 (p2 (p1 c)))
theorem LJ{i:Nat}(h:i<4):i=0\/i=1\/i=2\/i=3:=by omega
theorem qV{na:Nat}{ra:Nat->Nat->AV}{regs:Nat}{par:Int}{cs:List In}{Good:List In->Prop}{p1 p2 p3 p4:List In->List In}(hna:na<1000000)(hra:∀i j,i<na->j<2->(ra i j).cell=true)
  (hlen:∀c,Good c->c.length<1000000) (h1:ma na ra regs par Good 23 p1) (h2:ma na ra regs par Good 26 p2) (h3:ma na ra regs par Good 27 p3) (h4:ma na ra regs par Good 24 p4) (hg:Good cs):
  bj Try.prog 28 [af na ra regs par cs] [.v (.fs 5 (hI (λc=>p4 (p3 (p2 (p1 c)))) 8 cs).length (cC (hI (λc=>p4 (p3 (p2 (p1 c)))) 8 cs)))]:=by
 generalize hR:hI (λc=>p4 (p3 (p2 (p1 c)))) 8 cs=R
 have hgood:∀k c,Good c->Good (dT p1 p2 p3 p4 k c):=λk c hc=>by
  match k with
  |0=>exact hc
  |1=>exact(h1 c hc).2
  |2=>exact(h2 _ (h1 c hc).2).2
  |3=>exact(h3 _ (h2 _ (h1 c hc).2).2).2
  |k+4=>exact(h4 _ (h3 _ (h2 _ (h1 c hc).2).2).2).2
 refine ae aH Bv ⟨by simp,by decide⟩ ?_
 simp only[aV,af]
 repeat first|with_reducible refine gg ?_|simp only[go_sem,simprocAttr]
 refine GA.loop (I:=λmm e H=>∃(f:Nat) (k:Nat) (c:List In),mm=f/\k+f=8/\Good c/\hI (λc=>p4 (p3 (p2 (p1 c)))) f c=R/\e=aL [(1,.p 0 0),(6,.n .i64 k)]/\H=aq [aK 0 25 [.fs 2 na ra,.n .i64 regs,.n .i64 par,.fs 5 c.length (cC c)]]) (Wk.mk [0] [] ?_ ?_ ?_) ⟨8,0,cs,rfl,rfl,hg,hR,rfl,rfl⟩ ?_
 ·simp only[aZ,a7,go_sem,simprocAttr]
  repeat' refine aa ?_ ?_
  all_goals first|exact dt|skip
 ·exact .cons rfl (.ls) .nil
 ·simp
 rintro mm e H ⟨f,k,c,rfl,hkf,hc,hr,rfl,rfl⟩
 repeat first|with_reducible refine gg ?_|simp only[go_sem,simprocAttr]
 refine⟨λh=>?_,λh=>?_⟩
 rotate_left
 ·have hf0:mm=0:=by omega
  subst hf0
  rw[hI] at hr
  subst hr
  repeat first|with_reducible refine gg ?_|simp only[go_sem,simprocAttr]
  exact ag rfl rfl
 obtain⟨f,rfl⟩:∃f,mm=f+1:=⟨mm-1,by omega⟩
 rw[hI] at hr
 repeat first|with_reducible refine gg ?_|simp only[go_sem,simprocAttr]
 refine GA.loop (I:=λmm e H=>∃q:Nat,mm=4-q/\q<=4/\e=aL [(1,.p 0 0),(3,.p 1 0),(6,.n .i64 k),(9,.sl 2 0 4 4),(10,.n .i64 4),(11,.n .i64 q)]/\H=aq [aK 1 55 [.f 23 [] [],.f 26 [] [],.f 27 [] [],.f 24 [] []],
   aK 0 25 [.fs 2 na ra,.n .i64 regs,.n .i64 par,.fs 5 (dT p1 p2 p3 p4 q c).length (cC (dT p1 p2 p3 p4 q c))],aK 0 25 [.fs 2 na ra,.n .i64 regs,.n .i64 par,.fs 5 c.length (cC c)]]) (Wk.mk [2,1,0] [] ?_ ?_ ?_) ⟨0,rfl,by omega,rfl,rfl⟩ ?_
 ·simp only[aZ,a7,go_sem,simprocAttr]
  repeat' refine aa ?_ ?_
  all_goals first|exact dt|skip
 ·refine .cons rfl (.l4) (.cons rfl (.lsti (x:=_) (by simp only[go_sem,simprocAttr]<;>rfl) (by rfl) (by rfl) (by rfl) (by rfl) (by rfl) (by rfl) (by simp) (λi hi=>by rcases LJ hi with rfl|rfl|rfl|rfl<;>(simp only[go_sem,simprocAttr];first|done|rfl)) (by rfl)) (.cons rfl (.ls) .nil))
 ·simp
 rintro mm e H ⟨q,rfl,hq,rfl,rfl⟩
 repeat first|with_reducible refine gg ?_|simp only[go_sem,simprocAttr]
 refine⟨λhq4=>?_,λhq4=>?_⟩
 ·have hq0:(0:Int)<=(q:Int):=by omega
  have hq5:(q:Int)<((4:Nat):Int):=by omega
  have hgq:=hgood q c hc
  have hcases:q=0\/q=1\/q=2\/q=3:=by omega
  rcases hcases with rfl|rfl|rfl|rfl
  ·have hpass:=h1 _ hgq
   have hlp:=hlen _ hpass.2
   have hnx:dT p1 p2 p3 p4 1 c=p1 (dT p1 p2 p3 p4 0 c):=rfl
   generalize dT p1 p2 p3 p4 0 c=d at hpass hlp hnx ⊢
   simp only[af] at hpass
   repeat first|with_reducible refine gg ?_|simp only[hq0,hq5,go_sem,simprocAttr]
   refine g1 hpass.1 ?_
   repeat first|with_reducible refine gg ?_|simp only[go_sem,simprocAttr]
   refine g2 (gl (regs:=regs) (par:=par) (cs:=d) hna hra hlp) ?_
   simp only[af]
   repeat first|with_reducible refine gg ?_|simp only[go_sem,simprocAttr]
   refine⟨_,_,_,?_,Wk.mk [2,1,0] [] ?_ ?_ ?_,1,rfl,by omega,rfl,rfl⟩
   ·omega
   ·simp only[aZ,a7,go_sem,simprocAttr]
    repeat' refine aa ?_ ?_
    all_goals first|exact dt|skip
   ·rw[hnx]
    refine .cons rfl (.ls) (.cons rfl (.l4) (.cons rfl (.ls) .nil))
   ·simp
  ·have hpass:=h2 _ hgq
   have hlp:=hlen _ hpass.2
   have hnx:dT p1 p2 p3 p4 2 c=p2 (dT p1 p2 p3 p4 1 c):=rfl
   generalize dT p1 p2 p3 p4 1 c=d at hpass hlp hnx ⊢
   simp only[af] at hpass
   repeat first|with_reducible refine gg ?_|simp only[hq0,hq5,go_sem,simprocAttr]
   refine g1 hpass.1 ?_
   repeat first|with_reducible refine gg ?_|simp only[go_sem,simprocAttr]
   refine g2 (gl (regs:=regs) (par:=par) (cs:=d) hna hra hlp) ?_
   simp only[af]
   repeat first|with_reducible refine gg ?_|simp only[go_sem,simprocAttr]
   refine⟨_,_,_,?_,Wk.mk [2,1,0] [] ?_ ?_ ?_,2,rfl,by omega,rfl,rfl⟩
   ·omega
   ·simp only[aZ,a7,go_sem,simprocAttr]
    repeat' refine aa ?_ ?_
    all_goals first|exact dt|skip
   ·rw[hnx]
    refine .cons rfl (.ls) (.cons rfl (.l4) (.cons rfl (.ls) .nil))
   ·simp
  ·have hpass:=h3 _ hgq
   have hlp:=hlen _ hpass.2
   have hnx:dT p1 p2 p3 p4 3 c=p3 (dT p1 p2 p3 p4 2 c):=rfl
   generalize dT p1 p2 p3 p4 2 c=d at hpass hlp hnx ⊢
   simp only[af] at hpass
   repeat first|with_reducible refine gg ?_|simp only[hq0,hq5,go_sem,simprocAttr]
   refine g1 hpass.1 ?_
   repeat first|with_reducible refine gg ?_|simp only[go_sem,simprocAttr]
   refine g2 (gl (regs:=regs) (par:=par) (cs:=d) hna hra hlp) ?_
   simp only[af]
   repeat first|with_reducible refine gg ?_|simp only[go_sem,simprocAttr]
   refine⟨_,_,_,?_,Wk.mk [2,1,0] [] ?_ ?_ ?_,3,rfl,by omega,rfl,rfl⟩
   ·omega
   ·simp only[aZ,a7,go_sem,simprocAttr]
    repeat' refine aa ?_ ?_
    all_goals first|exact dt|skip
   ·rw[hnx]
    refine .cons rfl (.ls) (.cons rfl (.l4) (.cons rfl (.ls) .nil))
   ·simp
  ·have hpass:=h4 _ hgq
   have hlp:=hlen _ hpass.2
   have hnx:dT p1 p2 p3 p4 4 c=p4 (dT p1 p2 p3 p4 3 c):=rfl
   generalize dT p1 p2 p3 p4 3 c=d at hpass hlp hnx ⊢
   simp only[af] at hpass
   repeat first|with_reducible refine gg ?_|simp only[hq0,hq5,go_sem,simprocAttr]
   refine g1 hpass.1 ?_
   repeat first|with_reducible refine gg ?_|simp only[go_sem,simprocAttr]
   refine g2 (gl (regs:=regs) (par:=par) (cs:=d) hna hra hlp) ?_
   simp only[af]
   repeat first|with_reducible refine gg ?_|simp only[go_sem,simprocAttr]
   refine⟨_,_,_,?_,Wk.mk [2,1,0] [] ?_ ?_ ?_,4,rfl,by omega,rfl,rfl⟩
   ·omega
   ·simp only[aZ,a7,go_sem,simprocAttr]
    repeat' refine aa ?_ ?_
    all_goals first|exact dt|skip
   ·rw[hnx]
    refine .cons rfl (.ls) (.cons rfl (.l4) (.cons rfl (.ls) .nil))
   ·simp
 ·have hq':q=4:=by omega
  subst hq'
  have hd:dT p1 p2 p3 p4 4 c=p4 (p3 (p2 (p1 c))):=rfl
  have hgd:=hgood 4 c hc
  rw[hd] at hgd ⊢
  generalize p4 (p3 (p2 (p1 c)))=d at hgd hr ⊢
  repeat first|with_reducible refine gg ?_|simp only[go_sem,simprocAttr]
  refine g2 (n9 c d (hlen c hc)) ?_
  cases hcd:tT c d
  ·rw[hcd,if_neg (by simp)] at hr
   repeat first|with_reducible refine gg ?_|simp only[go_sem,simprocAttr]
   refine⟨_,_,_,?_,Wk.mk [0] [] ?_ ?_ ?_,f,k+1,d,rfl,by omega,hgd,hr,rfl,rfl⟩
   ·omega
   ·simp only[aZ,a7,go_sem,simprocAttr]
    repeat' refine aa ?_ ?_
    all_goals first|exact dt|skip
   ·refine .cons rfl (.l4) .nil
   ·simp
  ·rw[hcd,if_pos rfl] at hr
   subst hr
   repeat first|with_reducible refine gg ?_|simp only[go_sem,simprocAttr]
   exact ag rfl rfl
theorem oD{na na2:Nat}{ra ra2:Nat->Nat->AV}{regs par regs2 par2 er:Int}{cs cs2:List In}(h:bj Try.prog 22 [af na ra regs par cs,.f 26 [] []] [.v (af na2 ra2 regs2 par2 cs2),.v (.n .i64 er)]):
  bj Try.prog 14 [af na ra regs par cs] [.v (af na2 ra2 regs2 par2 cs2),.v (.n .i64 er)]:=by
 refine ae aH Fu ⟨by simp,by decide⟩ ?_
 simp only[aV,af]
 repeat first|with_reducible refine gg ?_|simp only[go_sem,simprocAttr]
 refine g2 h ?_
 simp only[af]
 repeat first|with_reducible refine gg ?_|simp only[go_sem,simprocAttr]
 exact bn (.v rfl rfl (.v rfl rfl .nil))
theorem qv{na na2:Nat}{ra ra2:Nat->Nat->AV}{regs par regs2 par2 er:Int}{cs cs2:List In}(h:bj Try.prog 22 [af na ra regs par cs,.f 27 [] []] [.v (af na2 ra2 regs2 par2 cs2),.v (.n .i64 er)]):
  bj Try.prog 15 [af na ra regs par cs] [.v (af na2 ra2 regs2 par2 cs2),.v (.n .i64 er)]:=by
 refine ae aH Dc ⟨by simp,by decide⟩ ?_
 simp only[aV,af]
 repeat first|with_reducible refine gg ?_|simp only[go_sem,simprocAttr]
 refine g2 h ?_
 simp only[af]
 repeat first|with_reducible refine gg ?_|simp only[go_sem,simprocAttr]
 exact bn (.v rfl rfl (.v rfl rfl .nil))
theorem qw{na na2:Nat}{ra ra2:Nat->Nat->AV}{regs par regs2 par2 er:Int}{cs cs2:List In}(h:bj Try.prog 22 [af na ra regs par cs,.f 24 [] []] [.v (af na2 ra2 regs2 par2 cs2),.v (.n .i64 er)]):
  bj Try.prog 12 [af na ra regs par cs] [.v (af na2 ra2 regs2 par2 cs2),.v (.n .i64 er)]:=by
 refine ae aH Ef ⟨by simp,by decide⟩ ?_
 simp only[aV,af]
 repeat first|with_reducible refine gg ?_|simp only[go_sem,simprocAttr]
 refine g2 h ?_
 simp only[af]
 repeat first|with_reducible refine gg ?_|simp only[go_sem,simprocAttr]
 exact bn (.v rfl rfl (.v rfl rfl .nil))
theorem mb{na na2:Nat}{ra ra2:Nat->Nat->AV}{regs par regs2 par2 er:Int}{cs cs2:List In}(h:bj Try.prog 22 [af na ra regs par cs,.f 28 [] []] [.v (af na2 ra2 regs2 par2 cs2),.v (.n .i64 er)]):
  bj Try.prog 16 [af na ra regs par cs] [.v (af na2 ra2 regs2 par2 cs2),.v (.n .i64 er)]:=by
 refine ae aH BB ⟨by simp,by decide⟩ ?_
 simp only[aV,af]
 repeat first|with_reducible refine gg ?_|simp only[go_sem,simprocAttr]
 refine g2 h ?_
 simp only[af]
 repeat first|with_reducible refine gg ?_|simp only[go_sem,simprocAttr]
 exact bn (.v rfl rfl (.v rfl rfl .nil))
def gW(x:Int):Prop:=0<=x/\x<4294967296
theorem gw(x:Int):gW (IntKind.u32.wrap x):=by unfold gW;rw[IntKind.wrap_u32];omega
theorem eb(b:Bool):gW (a9 b):=by cases b<;>simp[a9,gW]
theorem oy(op a b:Int)(ha:gW a)(hb:gW b)(h:cR op b=0):gW (aU op a b):=by
 unfold gW at ha hb
 unfold cR at h
 split at h
 ·simp at h
 rename_i hop
 split at h
 ·simp at h
 rename_i hdiv
 unfold aU
 by_cases o8:op=8
 ·rw[if_pos o8]
  unfold gW;omega
 rw[if_neg o8]
 by_cases o9:op=9
 ·rw[if_pos o9]
  unfold gW;omega
 rw[if_neg o9]
 by_cases o10:op=10
 ·rw[if_pos o10]
  unfold gW;omega
 rw[if_neg o10]
 by_cases o11:op=11
 ·rw[if_pos o11]
  have hb0:b≠0:=λe0=>hdiv ⟨e0,.inl o11⟩
  refine⟨Int.ediv_nonneg ha.1 hb.1,?_⟩
  have:=Int.ediv_le_self (a:=a) b ha.1
  omega
 rw[if_neg o11]
 by_cases o12:op=12
 ·rw[if_pos o12]
  have hb0:b≠0:=λe0=>hdiv ⟨e0,.inr o12⟩
  have h1:=Int.emod_nonneg a hb0
  have h2:=Int.emod_lt_of_pos a (show 0<b by omega)
  unfold gW;omega
 rw[if_neg o12]
 by_cases o13:op=13
 ·rw[if_pos o13]
  exact gw _
 rw[if_neg o13]
 by_cases o14:op=14
 ·rw[if_pos o14]
  exact gw _
 rw[if_neg o14]
 by_cases o15:op=15
 ·rw[if_pos o15]
  exact gw _
 rw[if_neg o15]
 by_cases o16:op=16
 ·rw[if_pos o16]
  unfold gW;omega
 rw[if_neg o16]
 by_cases o17:op=17
 ·rw[if_pos o17]
  have hp:(0:Int)<2^(b%32).toNat:=Int.pow_pos (by decide)
  refine⟨Int.ediv_nonneg ha.1 (by omega),?_⟩
  have:=Int.ediv_le_self (a:=a) (2^(b%32).toNat) ha.1
  omega
 rw[if_neg o17]
 by_cases o18:op=18
 ·rw[if_pos o18]
  unfold gW;omega
 rw[if_neg o18]
 by_cases o19:op=19
 ·rw[if_pos o19]
  unfold gW;omega
 rw[if_neg o19]
 by_cases o20:op=20
 ·rw[if_pos o20]
  exact gw _
 rw[if_neg o20]
 by_cases o21:op=21
 ·rw[if_pos o21]
  exact eb _
 rw[if_neg o21]
 by_cases o22:op=22
 ·rw[if_pos o22]
  exact eb _
 rw[if_neg o22]
 by_cases o23:op=23
 ·rw[if_pos o23]
  exact eb _
 rw[if_neg o23]
 by_cases o24:op=24
 ·rw[if_pos o24]
  exact eb _
 rw[if_neg o24]
 by_cases o25:op=25
 ·rw[if_pos o25]
  exact eb _
 rw[if_neg o25]
 exact eb _
theorem u4(op a b:Int)(ha:0<=a/\a<4294967296)(hb:0<=b/\b<4294967296):0<=(nk op a b).1/\(nk op a b).1<4294967296:=by
 unfold nk
 simp only
 split
 ·rename_i h
  exact oy op a b ha hb h
 ·omega
end Go.Proofs.Ytidhfimbnjaceaa