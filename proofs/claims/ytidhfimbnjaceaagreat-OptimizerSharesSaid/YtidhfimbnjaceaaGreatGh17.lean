/- A part of the proof of OptimizerShares: FoM FrB FrC PrB PsR FrD. No condition. -/
import Derived.Test.YtidhfimbnjaceaaGreatGh16
import Derived.Test.YtidhfimbnjaceaaGreatGh11
import Derived.Test.YtidhfimbnjaceaaGreatGh12
import Derived.Test.YtidhfimbnjaceaaGreatGh13
set_option linter.unusedSimpArgs false
set_option linter.unusedVariables false
set_option linter.constructorNameAsVariable false
set_option maxRecDepth 100000
set_option maxHeartbeats 4000000
namespace Go.Proofs.YtidhfimbnjaceaaGreat
open Go.RowKit
def rS (op a b:Int):Int×Int:=(if dn op b=0 then ba op a b else 0,dn op b)
theorem rM (op a b:Int) (h:dW op=true) (ha:0<=a/\a<4294967296) (hb:0<=b/\b<4294967296):a7 Tryz.prog 92 [.n .i64 op,.n .u32 a,.n .u32 b] [.v (.n .u32 (rS op a b).1),.v (.n .i64 (rS op a b).2)]:=by
 refine CE ⟨_,Tryz.func92,by kernel_rfl,by kernel_rfl⟩ λw=>?_
 by_cases he:dn op b=0
 ·simp only[rS,if_pos he]
  rw[he]
  exact uJ op a b ha.1 ha.2 hb.1 hb.2 he w
 ·simp only[rS,if_neg he]
  exact rN op a b ha.1 ha.2 hb.1 hb.2 he w
def P2 (op:Int):Bool:=(b9 op.toNat).getD 2 false
def P1 (op:Int):Bool:=(b9 op.toNat).getD 3 false
theorem eS.snocw {r:Nat->Option Nat} {M:List Nat} {H:AH} {b ty esz n z o:Nat} {row row2:Nat->Nat->AV} {l:List AV} (hx:H.at b=some ((ar ty esz n z row).app o (.li l))) (ho:o=n*esz) (hl:l.length=esz) (hM:M.contains b=false) (h0:0<esz) (hn:(n+1)*esz<2^40)
  (h1:∀i j,i<n->j<esz->row2 i j=row i j) (hc:∀i j,i<n->j<esz->(row i j).pu 3=true) (h2:∀j,j<esz->Wv r M H (l[j]?.getD .u) (row2 n j)):eS r M H b (ar ty esz (n+1) z row2):=by
 subst ho
 have hsz:((ar ty esz n z row).app (n*esz) (.li l)).size=(n+1)*esz:=by
  rw[AB.app_size];simp only[dp.len,hl,Nat.succ_mul]
 have hre:=AB.app_rest (ar ty esz n z row) (n*esz) (.li l)
 refine⟨_,hx,hre.2.1.symm,hre.1.symm,hre.2.2.1.symm,rfl,.inl hsz.symm,?_,λi hi=>?_⟩
 ·rw[if_neg (by simpa using hM),(AB.app_rest _ _ _).2.2.2.2];exact Nat.le_refl _
 have hi':i<(n+1)*esz:=hi
 have hq:i / esz<n+1:=Nat.div_lt_of_lt_mul (by rw[Nat.mul_comm];exact hi')
 have hm:i%esz<esz:=Nat.mod_lt _ h0
 have hdm:i / esz*esz+i%esz=i:=by
  have:=Nat.div_add_mod i esz
  rw[Nat.mul_comm] at this
  exact this
 have e1:(ar ty esz (n+1) z row2).get i=row2 (i / esz) (i%esz):=rfl
 have e2:=jI (ar ty esz n z row) n esz l hl hn _ _ hq hm
 rw[hdm] at e2
 rw[e1,e2]
 by_cases h:i / esz<n
 ·rw[if_pos h,h1 _ _ h hm]
  have:=aX (ty:=ty) (n:=n) (z:=z) (row:=row) (i / esz) (i%esz) hm
  rw[hdm] at this
  rw[this]
  exact .cv (.rfl (hc _ _ h hm))
 ·rw[if_neg h]
  have:i / esz=n:=by omega
  rw[this]
  exact h2 _ hm
theorem eS.putw {r:Nat->Option Nat} {M:List Nat} {H:AH} {b ty esz n z q o:Nat} {row row2:Nat->Nat->AV} {l:List AV} (hx:H.at b=some ((ar ty esz n z row).putN o l)) (ho:o=q*esz) (hl:l.length=esz) (hq:q<n) (hM:M.contains b=false) (h0:0<esz) (hn:n*esz<1000000)
  (h1:∀i j,i<n->i≠q->j<esz->row2 i j=row i j) (hc:∀i j,i<n->j<esz->(row i j).pu 3=true) (h2:∀j,j<esz->Wv r M H (l[j]?.getD .u) (row2 q j)):eS r M H b (ar ty esz n z row2):=by
 subst ho
 refine⟨_,hx,rfl,rfl,rfl,rfl,.inl rfl,?_,λi hi=>?_⟩
 ·rw[if_neg (by simpa using hM)];exact Nat.le_refl _
 have hi':i<n*esz:=hi
 have hqi:i / esz<n:=Nat.div_lt_of_lt_mul (by rw[Nat.mul_comm];exact hi')
 have hm:i%esz<esz:=Nat.mod_lt _ h0
 have hdm:i / esz*esz+i%esz=i:=by
  have:=Nat.div_add_mod i esz
  rw[Nat.mul_comm] at this
  exact this
 have e1:(ar ty esz n z row2).get i=row2 (i / esz) (i%esz):=rfl
 have e2:=pM (ty:=ty) (z:=z) (row:=row) hl hq hn _ _ hqi hm
 rw[hdm] at e2
 rw[e1,e2]
 by_cases h:i / esz=q
 ·rw[if_pos h,h]
  exact h2 _ hm
 ·rw[if_neg h,h1 _ _ hqi h hm]
  exact .cv (.rfl (hc _ _ hqi hm))
def upd {α:Type} (f:Nat->α) (r:Nat) (x:α):Nat->α:=λi=>if i=r then x else f i
structure wJ (regs:Nat) (x:In):Prop where
 op:0<=x.1/\x.1<39
 a:P2 x.1=true->0<=x.2.2.1/\x.2.2.1<regs
 b:P1 x.1=true->0<=x.2.2.2.1/\x.2.2.2.1<regs
 to:bf x.1 x.2.1<regs
 arg:0<=x.2.2.2.2/\x.2.2.2.2<4294967296
abbrev Lv:=Nat->Nat->Bool
def lC (regs:Nat) (L:Lv) (i _j:Nat):AV:= .fs 1 regs (bF (L i))
def kZ (L:Lv) (to:Int) (base:Nat->Bool) (l:List Int) (r:Nat):Bool:=base r||l.any λnx=>L nx.toNat r&& !decide ((r:Int)=to)
def kY (base:Nat->Bool) (l:List Int) (r:Nat):Bool:=base r||l.any λq=>decide (q=(r:Int))
def sO (cs:List In) (pt:List Int) (L:Lv) (i:Nat):Nat->Bool:=
 kY (kZ L (bf (cs.getD i (0,0,0,0,0)).1 (cs.getD i (0,0,0,0,0)).2.1) (L i) (i7 cs pt i)) (cO (cs.getD i (0,0,0,0,0)).1 (cs.getD i (0,0,0,0,0)).2.2.1 (cs.getD i (0,0,0,0,0)).2.2.2.1)
def pG (cs:List In) (pt:List Int) (regs i:Nat) (s:Lv×Bool):Lv×Bool:=
 if we regs (sO cs pt s.1 i) (s.1 i)=true then s else(upd s.1 i (sO cs pt s.1 i),true)
def jz (cs:List In) (pt:List Int) (regs:Nat):Nat->Lv×Bool->Lv×Bool
 |0,s=>s
 |i+1,s=>jz cs pt regs i (pG cs pt regs i s)
def rounds (cs:List In) (pt:List Int) (regs:Nat):Nat->Lv->Option Lv
 |0,_=>none
 |f+1,L=>if(jz cs pt regs cs.length (L,false)).2=true then rounds cs pt regs f (jz cs pt regs cs.length (L,false)).1 else some (jz cs pt regs cs.length (L,false)).1
theorem qN (L:Lv) (to:Int) (base:Nat->Bool) (l:List Int) (x:Int) (r:Nat):kZ L to base (l++[x]) r=(kZ L to base l r||(L x.toNat r&& !decide ((r:Int)=to))):=by
 unfold kZ
 rw[List.any_append]
 simp[Bool.or_assoc]
theorem qM (base:Nat->Bool) (l:List Int) (x:Int) (r:Nat):kY base (l++[x]) r=(kY base l r||decide (x=(r:Int))):=by
 unfold kY
 rw[List.any_append]
 simp[Bool.or_assoc]
theorem s9 {na:Nat} {ra:Nat->Nat->AV} {regs:Nat} {par:Int} {cs:List In} {pt:List Int} {fuel:Nat} {Lf:Lv} (hcs:cs.length<100000) (hr:regs<1000000) (hpt:eh cs=some pt) (hptl:pt.length=cs.length)
  (hin:∀x ∈ cs,wJ regs x) (hp:∀i,i<cs.length->(-1<=pt.getD i 0/\pt.getD i 0<cs.length)/\((cs.getD i (0,0,0,0,0)).1=31->0<=pt.getD i 0)) (hfo:∀i,i<cs.length->∀nx ∈ i7 cs pt i,0<=nx/\nx<=cs.length)
  (hL:rounds cs pt regs fuel (λ_ _=>false)=some Lf):
  a7 Tryz.prog 75 [ag na ra regs par cs] [.o 47 1 (cs.length+1) 0 (lC regs Lf)]:=by
 have hpa:=gP cs (by omega) pt hpt
 have hw1:IntKind.wrap .i64 ((cs.length:Int)+1)=((cs.length+1:Nat):Int):=by rw[cG (by omega)];omega
 have hg1:(0:Int)<=((cs.length+1:Nat):Int):=by omega
 have hg2:((cs.length+1:Nat):Int)<=16777216:=by omega
 have hg3:24*(cs.length+1)<=140737488355328/\(cs.length+1)<1099511627776:=by omega
 have hb1:(0:Int)<=(regs:Int):=by omega
 have hb2:(regs:Int)<=16777216:=by omega
 have hb3:1*regs<=140737488355328/\regs<=140737488355328/\regs<1099511627776:=by omega
 refine ah aa Hp ⟨by simp,by decide⟩ ?_
 simp only[aW,ag]
 repeat (first|(with_reducible refine GA.go aa rfl ?_)|simp only[go_sem,simprocAttr])
 refine ab [] (.cons (.rfl (by rfl)) .nil) hpa (by simp only[go_sem,simprocAttr]) ?_
 simp only[go_sem,simprocAttr]
 refine GA.wk (Wk.mk (L:=[(1,.p 0 0),(3,.fs 1 pt.length (iC .i64 pt))]) (bl:=[ax 0 25 [.fs 2 na ra,.n .i64 regs,.n .i64 par,.fs 5 cs.length (cC cs)]]) [0] [1] ?_ ?_ ?_) ?_
 ·simp only[aP,aR,go_sem,simprocAttr]
  repeat' refine ae ?_ ?_
  all_goals first|exact True.intro|exact Wv.same rfl|exact Wv.p rfl|skip
  refine Wv.cv (Cv.own (ty:=3) (z:=0) (by simp) (by simp only[go_sem,simprocAttr]) (λi j _ _=>rfl))
 ·refine .cons rfl (.ls) .nil
 ·simp
 repeat (first|(with_reducible refine GA.go aa rfl ?_)|simp only[hw1,hg1,hg2,hg3.1,hg3.2,Int.le_refl,decide_true,go_sem,simprocAttr])
 refine GA.loop (I:=λmm e H=>∃k:Nat,mm=cs.length+1-k/\k<=cs.length+1/\e=aI [(1,.p 0 0),(3,.fs 1 pt.length (iC .i64 pt)),(4,.os 1 (cs.length+1)),(26,.n .i64 ((cs.length+1:Nat):Int)),(27,.n .i64 k)]/\
   H=am [ar 47 1 (cs.length+1) 0 (λi _=>if i<k then .fs 1 regs (bF λ_=>false) else .sl0),ax 0 25 [.fs 2 na ra,.n .i64 regs,.n .i64 par,.fs 5 cs.length (cC cs)]]) (Wk.mk [1,0] [] ?_ ?_ ?_) ⟨0,rfl,by omega,rfl,rfl⟩ ?_
 ·simp only[aP,aR,go_sem,simprocAttr]
  repeat' refine ae ?_ ?_
  all_goals first|exact dX|skip
 ·refine .cons rfl (.same (by simp only[go_sem,simprocAttr]<;>rfl) rfl (by decide) (λi j h hj=>by cases Nat.lt_one_iff.1 hj;rw[if_neg (by omega)];rfl) (λi j _ hj=>by split<;>rfl)) (.cons rfl (.ls) .nil)
 ·simp
 rintro mm e H ⟨k,rfl,hk,rfl,rfl⟩
 repeat (first|(with_reducible refine GA.go aa rfl ?_)|simp only[go_sem,simprocAttr])
 refine⟨λh=>?_,λh=>?_⟩
 ·have hkn:k<cs.length+1:=by omega
  have h0:(0:Int)<=(k:Int):=by omega
  have hk1:k+1<=cs.length+1:=hkn
  repeat (first|(with_reducible refine GA.go aa rfl ?_)|simp only[h0,h,hkn,hk1,hb1,hb2,hb3.1,hb3.2.1,hb3.2.2,Int.le_refl,decide_true,go_sem,simprocAttr])
  refine⟨_,_,_,?_,Wk.mk [1,0] [2] ?_ ?_ ?_,k+1,rfl,by omega,rfl,rfl⟩
  ·omega
  ·simp only[aP,aR,go_sem,simprocAttr]
   repeat' refine ae ?_ ?_
   all_goals first|exact dX|skip
  ·refine .cons rfl (.putw (q:=k) (by simp only[go_sem,simprocAttr]<;>rfl) (by simp) (by rfl) hkn rfl (by decide) (by omega) (λi j hi hne hj=>?_) (λi j _ _=>by split<;>rfl) (λj hj=>?_)) (.cons rfl (.ls) .nil)
   ·by_cases h9:i<k
    ·rw[if_pos h9,if_pos (by omega)]
    ·rw[if_neg h9,if_neg (by omega)]
   ·cases Nat.lt_one_iff.1 hj
    rw[if_pos (by omega)]
    refine Wv.cv (Cv.os (x:=_) (by simp) (by simp only[go_sem,simprocAttr]<;>rfl) (by simp only[go_sem,simprocAttr]<;>exact Nat.le_refl _) (λi j hi hj=>?_) (λ_ _ _ _=>rfl))
    cases Nat.lt_one_iff.1 hj
    rw[Nat.mul_one,Nat.add_zero,bX]
    rfl
  ·simp
 have hkn:k=cs.length+1:=by omega
 subst hkn
 repeat (first|(with_reducible refine GA.go aa rfl ?_)|simp only[go_sem,simprocAttr])
 refine GA.loop (I:=λmm e H=>∃(f:Nat) (L:Lv) (ch:Bool),mm=f/\(ch=true->rounds cs pt regs f L=some Lf)/\(ch=false->L=Lf)/\e=aI [(1,.p 0 0),(3,.fs 1 pt.length (iC .i64 pt)),(4,.os 1 (cs.length+1)),(6,.b ch)]/\
   H=am [ar 47 1 (cs.length+1) 0 (lC regs L),ax 0 25 [.fs 2 na ra,.n .i64 regs,.n .i64 par,.fs 5 cs.length (cC cs)]]) (Wk.mk [1,0] [] ?_ ?_ ?_) ⟨fuel,λ_ _=>false,true,rfl,λ_=>hL,λh=>(by cases h),rfl,rfl⟩ ?_
 ·simp only[aP,aR,go_sem,simprocAttr]
  repeat' refine ae ?_ ?_
  all_goals first|exact dX|skip
 ·refine .cons rfl (.same (by simp only[go_sem,simprocAttr]<;>rfl) rfl (by decide) (λi j h hj=>by rw[if_pos h];rfl) (λi j _ hj=>rfl)) (.cons rfl (.ls) .nil)
 ·simp
 rintro mm e H ⟨f,L,ch,rfl,hch1,hch2,rfl,rfl⟩
 cases ch
 ·repeat (first|(with_reducible refine GA.go aa rfl ?_)|simp only[go_sem,simprocAttr])
  have:=hch2 rfl
  subst this
  refine⟨[_],rfl,.o (x:=_) (by simp only[go_sem,simprocAttr];rfl) (by rfl) (by rfl) (by rfl) (by decide) (Nat.le_refl _) (Nat.le_refl _) (λi j _ hj=>aX i j hj) (λi j _ hj=>rfl) rfl .nil⟩
 have hro:=hch1 rfl
 cases mm with
 |zero=>cases hro
 |succ f=>
 rw[rounds] at hro
 generalize hsw:jz cs pt regs cs.length (L,false)=S at hro
 have hw2:IntKind.wrap .i64 ((cs.length:Int)-1)=(cs.length:Int)-1:=cG (by omega)
 repeat (first|(with_reducible refine GA.go aa rfl ?_)|simp only[hw2,go_sem,simprocAttr])
 refine GA.loop (I:=λmm e H=>∃(j:Nat) (L:Lv) (ch:Bool),mm=j/\j<=cs.length/\jz cs pt regs j (L,ch)=S/\e=aI [(1,.p 0 0),(3,.fs 1 pt.length (iC .i64 pt)),(4,.os 1 (cs.length+1)),(6,.b ch),(7,.n .i64 ((j:Int)-1))]/\
   H=am [ar 47 1 (cs.length+1) 0 (lC regs L),ax 0 25 [.fs 2 na ra,.n .i64 regs,.n .i64 par,.fs 5 cs.length (cC cs)]]) (Wk.mk [1,0] [] ?_ ?_ ?_) ⟨cs.length,L,false,rfl,Nat.le_refl _,hsw,rfl,rfl⟩ ?_
 ·simp only[aP,aR,go_sem,simprocAttr]
  repeat' refine ae ?_ ?_
  all_goals first|exact dX|skip
 ·refine .cons rfl (.k1) (.cons rfl (.ls) .nil)
 ·simp
 rintro mm e H ⟨j,L,ch,rfl,hj,hS,rfl,rfl⟩
 repeat (first|(with_reducible refine GA.go aa rfl ?_)|simp only[go_sem,simprocAttr])
 refine⟨λh=>?_,λh=>?_⟩
 rotate_left
 ·have hj0:mm=0:=by omega
  subst hj0
  rw[jz] at hS
  subst hS
  repeat (first|(with_reducible refine GA.go aa rfl ?_)|simp only[go_sem,simprocAttr])
  refine⟨_,_,_,?_,Wk.mk [1,0] [] ?_ ?_ ?_,f,L,ch,rfl,λhc=>?_,λhc=>?_,rfl,rfl⟩
  ·omega
  ·simp only[aP,aR,go_sem,simprocAttr]
   repeat' refine ae ?_ ?_
   all_goals first|exact dX|skip
  ·refine .cons rfl (.k1) (.cons rfl (.ls) .nil)
  ·simp
  ·rw[hc] at hro;simpa using hro
  ·rw[hc] at hro;simpa using hro
 obtain⟨i,rfl⟩:∃i,mm=i+1:=⟨mm-1,by omega⟩
 have hii:((i+1:Nat):Int)-1=(i:Int):=by omega
 rw[jz] at hS
 refine GA.wk (Wk.mk (L:=[(1,.p 0 0),(3,.fs 1 pt.length (iC .i64 pt)),(4,.os 1 (cs.length+1)),(6,.b ch),(7,.n .i64 i)]) (bl:=[ar 47 1 (cs.length+1) 0 (lC regs L),ax 0 25 [.fs 2 na ra,.n .i64 regs,.n .i64 par,.fs 5 cs.length (cC cs)]]) [1,0] [] ?_ ?_ ?_) ?_
 ·simp only[aP,aR,go_sem,simprocAttr]
  repeat' refine ae ?_ ?_
  all_goals first|exact dX|skip
 ·exact(.cons rfl (.k1) (.cons rfl (.ls) .nil))
 ·simp
 have hin0:i<cs.length:=by omega
 have hi0:(0:Int)<=(i:Int):=by omega
 have hi1:(i:Int)<(cs.length:Int):=by omega
 have hi2:(i:Int)<((cs.length+1:Nat):Int):=by omega
 have hi3:i<cs.length+1:=by omega
 have hm:cs.getD i (0,0,0,0,0) ∈ cs:=by rw[List.getD_eq_getElem?_getD,List.getElem?_eq_getElem hin0];exact List.getElem_mem _
 have hx:=hin _ hm
 have hgl:∀(L:Lv) (q:Nat),(ar 47 1 (cs.length+1) 0 (lC regs L)).get q= .fs 1 regs (bF (L q)):=λL q=>by rw[bX];rfl
 have hfw:=lm cs pt i hin0 (by omega) (by omega) (hp i hin0).1 (hp i hin0).2
 have hF:=hfo i hin0
 have hsA:pG cs pt regs i (L,ch)=if we regs (sO cs pt L i) (L i)=true then(L,ch) else(upd L i (sO cs pt L i),true):=rfl
 rw[hsA] at hS
 clear hsA
 unfold sO at hS
 have hcc0:=iu cs i
 have hcc1:=kH cs i
 have hcc2:=lX cs i
 have hcc3:=lW cs i
 have hcc4:=lu cs i
 generalize cs.getD i (0,0,0,0,0)=x at hS hx hcc0 hcc1 hcc2 hcc3 hcc4
 obtain⟨op,uto,a,b,arg⟩:=x
 generalize hFe:i7 cs pt i=F at hS hfw hF
 have hFl:F.length<=2:=by
  rw[<-hFe];unfold i7
  split
  ·simp
  split<;>simp
 have hrq:∀q ∈ cO op a b,0<=q/\q<regs:=by
  intro q hq
  unfold cO at hq
  rcases List.mem_append.1 hq with hq|hq
  ·split at hq
   ·rename_i hu
    rw[List.mem_singleton.1 hq];exact hx.a hu
   ·cases hq
  ·split at hq
   ·rename_i hu
    rw[List.mem_singleton.1 hq];exact hx.b hu
   ·cases hq
 have hus:=j5 op uto a b arg hx.op
 have hrl:=m8 op a b
 simp only at hS
 generalize cO op a b=rd at hS hus hrq hrl
 generalize bf op uto=to at hS hus
 repeat (first|(with_reducible refine GA.go aa rfl ?_)|simp only[hi0,hi1,hcc0,hcc1,hcc2,hcc3,hcc4,go_sem,simprocAttr])
 refine ab [] (.cons (.rfl (by rfl)) .nil) hus (by simp only[go_sem,simprocAttr]) ?_
 repeat (first|(with_reducible refine GA.go aa rfl ?_)|simp only[hi0,hi2,hi3,hgl,go_sem,simprocAttr])
 refine ab [] (.cons (.rfl (by rfl)) .nil) (pe (row:=bF (L i)) hr (λ_ _ _ _=>rfl)) (by simp only[go_sem,simprocAttr]) ?_
 repeat (first|(with_reducible refine GA.go aa rfl ?_)|simp only[go_sem,simprocAttr])
 refine ab [] (.cons (.rfl (by rfl)) (.cons (.rfl (by rfl)) (.cons (.rfl (by rfl)) .nil))) hfw (by simp only[go_sem,simprocAttr]) ?_
 repeat (first|(with_reducible refine GA.go aa rfl ?_)|simp only[go_sem,simprocAttr])
 refine GA.loop (I:=λmm e H=>∃k:Nat,mm=F.length-k/\k<=F.length/\e=aI [(1,.p 0 0),(3,.fs 1 pt.length (iC .i64 pt)),(4,.os 1 (cs.length+1)),(6,.b ch),(7,.n .i64 i),(8,.os 2 rd.length),(9,.n .i64 to),(10,.os 3 regs),(64,.fs 1 F.length (iC .i64 F)),(65,.n .i64 F.length),(66,.n .i64 k)]/\H=am [ar 4 1 regs 0 (bF (kZ L to (L i) (F.take k))),ar 3 1 rd.length 0 (iC .i64 rd),ar 47 1 (cs.length+1) 0 (lC regs L),ax 0 25 [.fs 2 na ra,.n .i64 regs,.n .i64 par,.fs 5 cs.length (cC cs)]]) (Wk.mk [3,2,1,0] [] ?_ ?_ ?_) ⟨0,rfl,by omega,rfl,rfl⟩ ?_
 ·simp only[aP,aR,go_sem,simprocAttr]
  repeat' refine ae ?_ ?_
  all_goals first|exact dX|skip
 ·refine(.cons rfl (.same (by simp only[go_sem,simprocAttr]<;>rfl) rfl (by decide) (λz j h hj=>?_) (λi j _ hj=>rfl)) (.cons rfl (.k1) (.cons rfl (.k1) (.cons rfl (.ls) .nil))))
  cases Nat.lt_one_iff.1 hj
  show AV.b (L i z)=AV.b (kZ L to (L i) (F.take 0) z)
  unfold kZ;simp
 ·simp
 rintro mm e H ⟨k,rfl,hk,rfl,rfl⟩
 repeat (first|(with_reducible refine GA.go aa rfl ?_)|simp only[go_sem,simprocAttr])
 refine⟨λh=>?_,λh=>?_⟩
 ·have hkn:k<F.length:=by omega
  have h0:(0:Int)<=(k:Int):=by omega
  have hmF:F.getD k 0 ∈ F:=by rw[List.getD_eq_getElem?_getD,List.getElem?_eq_getElem hkn];exact List.getElem_mem _
  have hFq:=hF _ hmF
  have htk:F.take (k+1)=F.take k++[F.getD k 0]:=cW hkn
  have hic:iC .i64 F k 0= .n .i64 (F.getD k 0):=rfl
  generalize F.getD k 0=nx at hFq htk hic
  obtain⟨q,rfl⟩:∃q:Nat,nx=(q:Int):=⟨nx.toNat,by omega⟩
  have hq0:(0:Int)<=(q:Int):=hFq.1
  have hq1:(q:Int)<((cs.length+1:Nat):Int):=by omega
  have hq2:q<cs.length+1:=by omega
  generalize hbase:kZ L to (L i) (F.take k)=base
  repeat (first|(with_reducible refine GA.go aa rfl ?_)|simp only[h0,h,hic,hq0,hq1,hq2,hgl,go_sem,simprocAttr])
  refine GA.loop (I:=λmm e H=>∃r:Nat,mm=regs-r/\r<=regs/\e=aI [(1,.p 0 0),(3,.fs 1 pt.length (iC .i64 pt)),(4,.os 1 (cs.length+1)),(6,.b ch),(7,.n .i64 i),(8,.os 2 rd.length),(9,.n .i64 to),(10,.os 3 regs),(64,.fs 1 F.length (iC .i64 F)),(65,.n .i64 F.length),(66,.n .i64 k),(73,.fs 1 regs (bF (L q))),(74,.n .i64 regs),(75,.n .i64 r)]/\H=am [ar 4 1 regs 0 (bF λz=>if z<r then(base z||(L q z&& !decide ((z:Int)=to))) else base z),ar 3 1 rd.length 0 (iC .i64 rd),ar 47 1 (cs.length+1) 0 (lC regs L),ax 0 25 [.fs 2 na ra,.n .i64 regs,.n .i64 par,.fs 5 cs.length (cC cs)]]) (Wk.mk [3,2,1,0] [] ?_ ?_ ?_) ⟨0,rfl,by omega,rfl,rfl⟩ ?_
  ·simp only[aP,aR,go_sem,simprocAttr]
   repeat' refine ae ?_ ?_
   all_goals first|exact dX|skip
  ·refine(.cons rfl (.same (by simp only[go_sem,simprocAttr]<;>rfl) rfl (by decide) (λz j h hj=>?_) (λi j _ hj=>rfl)) (.cons rfl (.k1) (.cons rfl (.k1) (.cons rfl (.ls) .nil))))
   cases Nat.lt_one_iff.1 hj
   show AV.b (base z)=AV.b (if z<0 then _ else _)
   rw[if_neg (by omega)]
  ·simp
  rintro mm e H ⟨r,rfl,hrr,rfl,rfl⟩
  repeat (first|(with_reducible refine GA.go aa rfl ?_)|simp only[go_sem,simprocAttr])
  refine⟨λhlr=>?_,λhlr=>?_⟩
  ·have hrn:r<regs:=by omega
   have hr0:(0:Int)<=(r:Int):=by omega
   have hr1:r+1<=regs:=hrn
   have e1:(ar 4 1 regs 0 (bF λz=>if z<r then(base z||(L q z&& !decide ((z:Int)=to))) else base z)).get r= .b (base r):=by
    rw[bX]
    show AV.b (if r<r then _ else _)=_
    rw[if_neg (by omega)]
   have e2:bF (L q) r 0= .b (L q r):=rfl
   have hfin:∀(val:Bool),val=(base r||(L q r&& !decide ((r:Int)=to)))->∀z,(if z=r then AV.b val else AV.b (if z<r then(base z||(L q z&& !decide ((z:Int)=to))) else base z))=AV.b (if z<r+1 then(base z||(L q z&& !decide ((z:Int)=to))) else base z):=by
    intro val hval z
    by_cases e:z=r
    ·subst e;rw[if_pos rfl,if_pos (by omega),hval]
    ·rw[if_neg e]
     by_cases h9:z<r
     ·rw[if_pos h9,if_pos (by omega)]
     ·rw[if_neg h9,if_neg (by omega)]
   cases hbr:base r<;>cases hLr:L q r
   all_goals
    rw[hbr] at e1 hfin
    rw[hLr] at e2 hfin
    repeat (first|(with_reducible refine GA.go aa rfl ?_)|simp only[hr0,hlr,hrn,hr1,e1,e2,go_sem,simprocAttr])
    refine⟨_,_,_,?_,Wk.mk [3,2,1,0] [] ?_ ?_ ?_,r+1,rfl,by omega,rfl,rfl⟩
    ·omega
    ·simp only[aP,aR,go_sem,simprocAttr]
     repeat' refine ae ?_ ?_
     all_goals first|exact dX|skip
    ·refine(.cons rfl (.put (q:=r) (by simp only[go_sem,simprocAttr]<;>rfl) (by simp) (by rfl) hrn rfl (by decide) (by omega) (λz j h hj=>?_) (λi j _ hj=>rfl)) (.cons rfl (.k1) (.cons rfl (.k1) (.cons rfl (.ls) .nil))))
     cases Nat.lt_one_iff.1 hj
     exact hfin _ (by simp) _
    ·simp
  ·have hrn:r=regs:=by omega
   subst hrn
   repeat (first|(with_reducible refine GA.go aa rfl ?_)|simp only[go_sem,simprocAttr])
   refine⟨_,_,_,?_,Wk.mk [3,2,1,0] [] ?_ ?_ ?_,k+1,rfl,by omega,rfl,rfl⟩
   ·omega
   ·simp only[aP,aR,go_sem,simprocAttr]
    repeat' refine ae ?_ ?_
    all_goals first|exact dX|skip
   ·refine(.cons rfl (.same (by simp only[go_sem,simprocAttr]<;>rfl) rfl (by decide) (λz j h hj=>?_) (λi j _ hj=>rfl)) (.cons rfl (.k1) (.cons rfl (.k1) (.cons rfl (.ls) .nil))))
    cases Nat.lt_one_iff.1 hj
    show AV.b (if z<r then _ else _)=AV.b (kZ L to (L i) (F.take (k+1)) z)
    rw[if_pos h,htk,qN,hbase]
    rfl
   ·simp
 have hkn:k=F.length:=by omega
 subst hkn
 rw[List.take_length]
 generalize hA:kZ L to (L i) F=NA at hS ⊢
 repeat (first|(with_reducible refine GA.go aa rfl ?_)|simp only[go_sem,simprocAttr])
 refine GA.loop (I:=λmm e H=>∃k:Nat,mm=rd.length-k/\k<=rd.length/\e=aI [(1,.p 0 0),(3,.fs 1 pt.length (iC .i64 pt)),(4,.os 1 (cs.length+1)),(6,.b ch),(7,.n .i64 i),(10,.os 3 regs),(97,.os 2 rd.length),(98,.n .i64 rd.length),(99,.n .i64 k)]/\H=am [ar 4 1 regs 0 (bF (kY NA (rd.take k))),ar 3 1 rd.length 0 (iC .i64 rd),ar 47 1 (cs.length+1) 0 (lC regs L),ax 0 25 [.fs 2 na ra,.n .i64 regs,.n .i64 par,.fs 5 cs.length (cC cs)]]) (Wk.mk [3,2,1,0] [] ?_ ?_ ?_) ⟨0,rfl,by omega,rfl,rfl⟩ ?_
 ·simp only[aP,aR,go_sem,simprocAttr]
  repeat' refine ae ?_ ?_
  all_goals first|exact dX|skip
 ·refine(.cons rfl (.same (by simp only[go_sem,simprocAttr]<;>rfl) rfl (by decide) (λz j h hj=>?_) (λi j _ hj=>rfl)) (.cons rfl (.k1) (.cons rfl (.k1) (.cons rfl (.ls) .nil))))
  cases Nat.lt_one_iff.1 hj
  show AV.b (NA z)=AV.b (kY NA (rd.take 0) z)
  unfold kY;simp
 ·simp
 rintro mm e H ⟨k,rfl,hk,rfl,rfl⟩
 repeat (first|(with_reducible refine GA.go aa rfl ?_)|simp only[go_sem,simprocAttr])
 refine⟨λh=>?_,λh=>?_⟩
 ·have hkn:k<rd.length:=by omega
  have h0:(0:Int)<=(k:Int):=by omega
  have hmR:rd.getD k 0 ∈ rd:=by rw[List.getD_eq_getElem?_getD,List.getElem?_eq_getElem hkn];exact List.getElem_mem _
  have hRq:=hrq _ hmR
  have htk:rd.take (k+1)=rd.take k++[rd.getD k 0]:=cW hkn
  have hic:(ar 3 1 rd.length 0 (iC .i64 rd)).get k= .n .i64 (rd.getD k 0):=by rw[bX];rfl
  generalize rd.getD k 0=nx at hRq htk hic
  obtain⟨q,rfl⟩:∃q:Nat,nx=(q:Int):=⟨nx.toNat,by omega⟩
  have hq0:(0:Int)<=(q:Int):=hRq.1
  have hq1:(q:Int)<(regs:Int):=hRq.2
  have hq2:q<regs:=by omega
  have hq3:q+1<=regs:=hq2
  repeat (first|(with_reducible refine GA.go aa rfl ?_)|simp only[h0,h,hkn,hic,hq0,hq1,hq2,hq3,go_sem,simprocAttr])
  refine⟨_,_,_,?_,Wk.mk [3,2,1,0] [] ?_ ?_ ?_,k+1,rfl,by omega,rfl,rfl⟩
  ·omega
  ·simp only[aP,aR,go_sem,simprocAttr]
   repeat' refine ae ?_ ?_
   all_goals first|exact dX|skip
  ·refine(.cons rfl (.put (q:=q) (by simp only[go_sem,simprocAttr]<;>rfl) (by simp) (by rfl) hq2 rfl (by decide) (by omega) (λz j h hj=>?_) (λi j _ hj=>rfl)) (.cons rfl (.k1) (.cons rfl (.k1) (.cons rfl (.ls) .nil))))
   cases Nat.lt_one_iff.1 hj
   show(if z=q then AV.b true else AV.b (kY NA (rd.take k) z))=AV.b (kY NA (rd.take (k+1)) z)
   rw[htk,qM]
   by_cases e:z=q
   ·subst e;rw[if_pos rfl];simp
   ·have:decide ((q:Int)=(z:Int))=false:=by simp;omega
    rw[if_neg e,this,Bool.or_false]
  ·simp
 have hkn:k=rd.length:=by omega
 subst hkn
 rw[List.take_length]
 generalize kY NA rd=N at hS ⊢
 repeat (first|(with_reducible refine GA.go aa rfl ?_)|simp only[hi0,hi2,hi3,hgl,go_sem,simprocAttr])
 refine ab [3] (fargs:=[.fs 1 regs (bF N),.fs 1 regs (bF (L i))]) (.cons (Cv.own (ty:=4) (z:=0) (by simp) (by simp only[go_sem,simprocAttr]<;>rfl) (λ_ _ _ _=>rfl)) (.cons (.rfl (by rfl)) .nil)) (o7 N (L i) hr) (by simp only[go_sem,simprocAttr]) ?_
 cases heq:we regs N (L i)
 ·rw[heq,if_neg (by simp)] at hS
  have hi4:i<=cs.length:=by omega
  repeat (first|(with_reducible refine GA.go aa rfl ?_)|simp only[hi0,hi2,hi3,hi4,Nat.le_refl,go_sem,simprocAttr])
  refine⟨_,_,_,?_,Wk.mk [1,0] [3] ?_ ?_ ?_,i,upd L i N,true,rfl,by omega,hS,rfl,rfl⟩
  ·omega
  ·simp only[aP,aR,go_sem,simprocAttr]
   repeat' refine ae ?_ ?_
   all_goals first|exact dX|skip
  ·refine .cons rfl (.putw (q:=i) (by simp only[go_sem,simprocAttr]<;>rfl) (by simp) (by rfl) hi3 rfl (by decide) (by omega) (λz j hz hne hj=>?_) (λ_ _ _ _=>rfl) (λj hj=>?_)) (.cons rfl (.ls) .nil)
   ·unfold lC upd;rw[if_neg hne]
   ·cases Nat.lt_one_iff.1 hj
    unfold lC upd;rw[if_pos rfl]
    refine Wv.cv (Cv.os (x:=_) (by simp) (by simp only[go_sem,simprocAttr]<;>rfl) (by simp only[go_sem,simprocAttr]<;>exact Nat.le_refl _) (λz j hi hj=>?_) (λ_ _ _ _=>rfl))
    cases Nat.lt_one_iff.1 hj
    rw[Nat.mul_one,Nat.add_zero,tB,bX]
  ·simp
 ·rw[heq,if_pos rfl] at hS
  repeat (first|(with_reducible refine GA.go aa rfl ?_)|simp only[go_sem,simprocAttr])
  refine⟨_,_,_,?_,Wk.mk [1,0] [] ?_ ?_ ?_,i,L,ch,rfl,by omega,hS,rfl,rfl⟩
  ·omega
  ·simp only[aP,aR,go_sem,simprocAttr]
   repeat' refine ae ?_ ?_
   all_goals first|exact dX|skip
  ·exact(.cons rfl (.k1) (.cons rfl (.ls) .nil))
  ·simp
def ib (x:Int):Prop:=0<=x/\x<4294967296
theorem gM (x:Int):ib (IntKind.u32.wrap x):=by unfold ib;rw[IntKind.wrap_u32];omega
theorem eE (b:Bool):ib (bm b):=by cases b<;>simp[bm,ib]
theorem pn (op a b:Int) (ha:ib a) (hb:ib b) (h:dn op b=0):ib (ba op a b):=by
 unfold ib at ha hb
 unfold dn at h
 split at h
 ·simp at h
 rename_i hop
 split at h
 ·simp at h
 rename_i hdiv
 unfold ba
 by_cases o8:op=8
 ·rw[if_pos o8]
  unfold ib;omega
 rw[if_neg o8]
 by_cases o9:op=9
 ·rw[if_pos o9]
  unfold ib;omega
 rw[if_neg o9]
 by_cases o10:op=10
 ·rw[if_pos o10]
  unfold ib;omega
 rw[if_neg o10]
 by_cases o11:op=11
 ·rw[if_pos o11]
  have hb0:b≠0:=λe0=>hdiv ⟨e0,.inl o11⟩
  refine⟨Int.ediv_nonneg ha.1 hb.1,?_⟩
  have:=Int.ediv_le_self (a:=a) b ha.1
  omega
 rw[if_neg o11]
 by_cases o12:op=12
 ·rw[if_pos o12]
  have hb0:b≠0:=λe0=>hdiv ⟨e0,.inr o12⟩
  have h1:=Int.emod_nonneg a hb0
  have h2:=Int.emod_lt_of_pos a (show 0<b by omega)
  unfold ib;omega
 rw[if_neg o12]
 by_cases o13:op=13
 ·rw[if_pos o13]
  exact gM _
 rw[if_neg o13]
 by_cases o14:op=14
 ·rw[if_pos o14]
  exact gM _
 rw[if_neg o14]
 by_cases o15:op=15
 ·rw[if_pos o15]
  exact gM _
 rw[if_neg o15]
 by_cases o16:op=16
 ·rw[if_pos o16]
  unfold ib;omega
 rw[if_neg o16]
 by_cases o17:op=17
 ·rw[if_pos o17]
  have hp:(0:Int)<2^(b%32).toNat:=Int.pow_pos (by decide)
  refine⟨Int.ediv_nonneg ha.1 (by omega),?_⟩
  have:=Int.ediv_le_self (a:=a) (2^(b%32).toNat) ha.1
  omega
 rw[if_neg o17]
 by_cases o18:op=18
 ·rw[if_pos o18]
  unfold ib;omega
 rw[if_neg o18]
 by_cases o19:op=19
 ·rw[if_pos o19]
  unfold ib;omega
 rw[if_neg o19]
 by_cases o20:op=20
 ·rw[if_pos o20]
  exact gM _
 rw[if_neg o20]
 by_cases o21:op=21
 ·rw[if_pos o21]
  exact eE _
 rw[if_neg o21]
 by_cases o22:op=22
 ·rw[if_pos o22]
  exact eE _
 rw[if_neg o22]
 by_cases o23:op=23
 ·rw[if_pos o23]
  exact eE _
 rw[if_neg o23]
 by_cases o24:op=24
 ·rw[if_pos o24]
  exact eE _
 rw[if_neg o24]
 by_cases o25:op=25
 ·rw[if_pos o25]
  exact eE _
 rw[if_neg o25]
 exact eE _
theorem wE (op a b:Int) (ha:0<=a/\a<4294967296) (hb:0<=b/\b<4294967296):0<=(rS op a b).1/\(rS op a b).1<4294967296:=by
 unfold rS
 simp only
 split
 ·rename_i h
  exact pn op a b ha hb h
 ·omega
theorem lt4 {i:Nat} (h:i<4):i=0\/i=1\/i=2\/i=3:=by omega
end Go.Proofs.YtidhfimbnjaceaaGreat