/- A part of the proof of AllocateNeeds: FoA FoB FoC FoD FoE FoG FoH FoI FoJ FoK FoN FoO FrA CkA Fw PpA PpB PrA FvA FwV FsA FwS FsB FvB FwK FoL. No condition. -/
import Derived.Test.YteopfmnnhlhbmaaHn14
import Derived.Test.YteopfmnnhlhbmaaHn13
import Derived.Test.YteopfmnnhlhbmaaHn03
import Derived.Test.YteopfmnnhlhbmaaHn10
set_option linter.unusedSimpArgs false
set_option linter.unusedVariables false
set_option linter.constructorNameAsVariable false
set_option maxRecDepth 100000
set_option maxHeartbeats 4000000
namespace Go.Proofs.Yteopfmnnhlhbmaa
open Go.RowKit
theorem bf:Try.prog.follows .mixedOrders=true:=by kernel_rfl
theorem aw{n:Nat}{hints:bz}{ac:AC}{e:Tr AV}{H:AH}{Q:AE->Tr AV->AH->Prop}(h:GS Try.prog n hints ac e H Q)(hg:RP ac=true:=by rfl):GA Try.prog n hints ac e H Q:=GA.go bf hg h
theorem ub{α:Type}{d:α}{l:List α}{k:Nat}(h:k<l.length):l.drop k=l.getD k d::l.drop (k+1):=by
 rw[List.drop_eq_getElem_cons h,List.getD_eq_getElem?_getD,List.getElem?_eq_getElem h];rfl
def iC(k:IntKind)(l:List Int)(i _j:Nat):AV:= .n k (l.getD i 0)
noncomputable def wR:FuncId->Option AF:=λf=>bF Try.prog (aB Try.prog f) f
theorem tp:zR Try.prog wR:=λf F h=>⟨_,h⟩
def cn(op:Nat):List Bool:=
 if op=3\/op=23\/op=26\/op=36 then[true,true,true,false]
 else if 8<=op/\op<=25 then[true,true,true,true]
 else if op=0\/op=32\/op=33\/op=38 then[true,true,false,false]
 else if op=27\/op=30\/op=29\/op=34\/op=35\/op=37 then[true,false,true,false]
 else if op=28\/op=31 then[true,false,false,false]
 else if op=4 then[true,false,true,true] else[false,false,false,false]
def tS(op:Nat):Option (AV×AH)->Bool
 |some (.agg [.b a,.b b,.b c,.b d],_)=>[a,b,c,d]==cn op
 |_=>false
theorem rJ:(List.range 39).all (λop=>tS op (kE wR 100 9 88 [.n .i64 (op:Int)] ⟨.nil,0,2^40,λ_=>none⟩))=true:=by kernel_rfl
theorem uC(op:Nat)(h:op<39):bR Try.prog 88 [.n .i64 op] [.v (.agg ((cn op).map .b))]:=by
 have:=List.all_eq_true.1 rJ op (List.mem_range.2 h)
 generalize hr:kE wR 100 9 88 [.n .i64 (op:Int)] ⟨.nil,0,2^40,λ_=>none⟩=R at this
 unfold tS at this
 split at this
 ·rename_i a b c d H'
  have e:[a,b,c,d]=cn op:=by simpa using this
  rw[<-e]
  exact l6 bf tp hr rfl
 ·cases this
def aA(op a b:Int):List Int:=(if(cn op.toNat).getD 2 false then[a] else[])++(if(cn op.toNat).getD 3 false then[b] else[])
def a8(op to:Int):Int:=if(cn op.toNat).getD 1 false then to else-1
theorem lq(op to a b arg:Int)(h:0<=op/\op<39):bR Try.prog 68 [.agg [.n .i64 op,.n .i64 to,.n .i64 a,.n .i64 b,.n .u32 arg]] [.o 3 1 (aA op a b).length 0 (iC .i64 (aA op a b)),.v (.n .i64 (a8 op to))]:=by
 obtain⟨k,rfl⟩:∃k:Nat,op=(k:Int):=⟨op.toNat,by omega⟩
 have hk:k<39:=by omega
 have hsh:=uC k hk
 obtain⟨x0,x1,x2,x3,hx⟩:∃x0 x1 x2 x3,cn k=[x0,x1,x2,x3]:=by
  unfold cn
  repeat' split
  all_goals exact⟨_,_,_,_,rfl⟩
 rw[hx] at hsh
 simp only[aA,a8,Int.toNat_natCast,hx,List.map_cons,List.map_nil] at hsh ⊢
 have hgo:∀x1 x2 x3:Bool,bR Try.prog 88 [.n .i64 k] [.v (.agg [.b x0,.b x1,.b x2,.b x3])]->bR Try.prog 68 [.agg [.n .i64 k,.n .i64 to,.n .i64 a,.n .i64 b,.n .u32 arg]]
   [.o 3 1 ((if x2=true then[a] else[])++(if x3=true then[b] else[])).length 0 (iC .i64 ((if x2=true then[a] else[])++(if x3=true then[b] else[]))),.v (.n .i64 (if x1=true then to else-1))]:=by
  intro x1 x2 x3 hsh
  refine aK bf Rk ⟨by simp,by decide⟩ ?_
  simp only[bI]
  repeat first|with_reducible refine aw ?_|simp only[go_sem,simprocAttr]
  refine sC hsh ?_
  cases x2<;>cases x3<;>cases x1
  all_goals
   repeat first|with_reducible refine aw ?_|simp only[go_sem,simprocAttr]
  all_goals try exact kZ (.o0 rfl (.v rfl rfl .nil))
  all_goals
   refine kZ (.o (x:=_) (by simp only[go_sem,simprocAttr];first|done|exact rfl) (by rfl) (by rfl) (by rfl) (by decide) ?_ ?_ ?_ ?_ rfl (.v rfl rfl .nil))
   ·simp only[go_sem,simprocAttr,if_true,Bool.false_eq_true,if_false];first|done|decide
   ·first|decide|(simp only[go_sem,simprocAttr];first|done|decide)
   ·intro i j hi hj
    obtain rfl:j=0:=by omega
    have h01:i=0\/i=1:=by have:i<2:=Nat.lt_of_lt_of_le hi (by simp);omega
    rcases h01 with rfl|rfl<;>first|rfl|(exact absurd hi (by decide))|(show AB.get _ 1=_;rw[mE _ _ _ _ (by simp) (by simp)];rfl)
   ·intro i j _ _;rfl
 exact hgo x1 x2 x3 hsh
def iP(i:Int×Int×Int×Int×Int):AV:= .agg [.n .i64 i.1,.n .i64 i.2.1,.n .i64 i.2.2.1,.n .i64 i.2.2.2.1,.n .u32 i.2.2.2.2]
/-! ### the facts that no instruction of a list destroys-/
abbrev In:=Int×Int×Int×Int×Int
def Ct(i:In)(j:Nat):AV:=if j=0 then .n .i64 i.1 else if j=1 then .n .i64 i.2.1 else if j=2 then .n .i64 i.2.2.1 else if j=3 then .n .i64 i.2.2.2.1 else .n .u32 i.2.2.2.2
def cC(l:List In)(i j:Nat):AV:=Ct (l.getD i (0,0,0,0,0)) j
theorem ww(l:List In)(i:Nat):cC l i 0= .n .i64 (l.getD i (0,0,0,0,0)).1:=rfl
theorem CB(l:List In)(i:Nat):cC l i 1= .n .i64 (l.getD i (0,0,0,0,0)).2.1:=rfl
theorem CA(l:List In)(i:Nat):cC l i 2= .n .i64 (l.getD i (0,0,0,0,0)).2.2.1:=rfl
theorem Cz(l:List In)(i:Nat):cC l i 3= .n .i64 (l.getD i (0,0,0,0,0)).2.2.2.1:=rfl
theorem Cy(l:List In)(i:Nat):cC l i 4= .n .u32 (l.getD i (0,0,0,0,0)).2.2.2.2:=rfl
def aP(na:Nat)(ra:Nat->Nat->AV)(regs par:Int)(cs:List In):AV:= .agg [.fs 2 na ra,.n .i64 regs,.n .i64 par,.fs 5 cs.length (cC cs)]
def qJ(na:Nat)(cs:List In):Bool:=if decide ((na:Int)<=20) then decide ((cs.length:Int)<=300) else false
theorem vK(na:Nat)(ra:Nat->Nat->AV)(regs par:Int)(cs:List In):bR Try.prog 33 [aP na ra regs par cs] [.v (.b (qJ na cs))]:=by
 refine aK bf Qm ⟨by simp,by decide⟩ ?_
 simp only[bI,aP]
 unfold qJ
 by_cases h:(na:Int)<=20
 ·rw[if_pos (by simpa using h)]
  repeat first|with_reducible refine aw ?_|simp only[h,decide_true,go_sem,simprocAttr]
  exact bJ rfl rfl
 ·rw[if_neg (by simpa using h)]
  repeat first|with_reducible refine aw ?_|simp only[h,decide_false,go_sem,simprocAttr]
  exact bJ rfl rfl
def kt(na:Nat)(regs:Int)(cs:List In):Bool:=if qJ na cs then(if decide (regs<=60) then true else decide (1024<regs)) else false
theorem Cv.own{M:List Nat}{H:AH}{b ty esz n z:Nat}{row:Nat->Nat->AV}(hm:b ∈ M)(hx:H.at b=some (aH ty esz n z row))(hc:∀i j,i<n->j<esz->(row i j).cell=true):Cv M H (.os b n) (.fs esz n row):=
 .os hm hx (Nat.le_refl _) (λi j _ hj=>aL i j hj) hc
theorem cZ.lsti{r:Nat->Option Nat}{M:List Nat}{H:AH}{b esz ty:Nat}{l:List AV}{x:AB}(hx:H.at b=some x)(h1:x.ty=ty)(h2:x.esz=esz)(h3:x.opn=false)(h4:x.size=l.length)(h5:x.fzn=0)(hM:M.contains b=false)(hl:l.length<1000000)(hg:∀i,i<l.length->x.get i=l[i]?.getD .u)(hp:l.all (AV.pu 3)=true):cZ r M H b (bg esz ty l):=by
 refine⟨x,hx,h1.symm,h2.symm,h3.symm,rfl,.inl h4.symm,by rw[if_neg (by simpa using hM),h5];exact Nat.zero_le _,λi hi=>?_⟩
 have hi':i<l.length:=hi
 rw[hg i hi',jr esz ty l i hl,List.getElem?_eq_getElem hi']
 exact .cv (.rfl (List.all_eq_true.1 hp _ (List.getElem_mem hi')))
theorem GA.cut'{P:Program}{n:Nat}{hints:bz}{e:Tr AV}{H:AH}{Q:AE->Tr AV->AH->Prop}{G:AE->Tr AV->AH->Prop}{x y:AC}(e2:Tr AV)(H2:AH)(h:GA P n hints x e H (eT (λe' H'=>Wk n e' H' e2 H2) (λ_ _ _=>False)))(h':GA P n hints y e2 H2 Q):GA P n hints x e H (eT (λe' H'=>GA P n hints y e' H' Q) G):=
 h.mono λa e' H' hq=>by
  cases a with
  |normal=>exact GA.wk hq h'
  |exit i=>exact hq.elim
  |ret=>exact hq.elim
theorem iL{i:Nat}(h:i<5):i=0\/i=1\/i=2\/i=3\/i=4:=by omega
theorem cZ.l5{r:Nat->Option Nat}{M:List Nat}{H:AH}{b esz ty:Nat}{l:List AV}{x:AB}(hx:H.at b=some x:=by simp only[go_sem,simprocAttr]<;>rfl)(h1:x.ty=ty:=by rfl)(h2:x.esz=esz:=by rfl)(h3:x.opn=false:=by rfl)(h4:x.size=l.length:=by rfl)(h5:x.fzn=0:=by rfl)(hM:M.contains b=false:=by rfl)(hl:l.length<1000000:=by simp)(hg:∀i,i<l.length->x.get i=l[i]?.getD .u:=by intro i hi;rcases iL hi with rfl|rfl|rfl|rfl|rfl<;>simp only[go_sem,simprocAttr])(hp:l.all (AV.pu 3)=true:=by rfl):cZ r M H b (bg esz ty l):= .lsti hx h1 h2 h3 h4 h5 hM hl hg hp
theorem RK{i:Nat}(h:i<4):i=0\/i=1\/i=2\/i=3:=by omega
theorem cZ.l4{r:Nat->Option Nat}{M:List Nat}{H:AH}{b esz ty:Nat}{l:List AV}{x:AB}(hx:H.at b=some x:=by simp only[go_sem,simprocAttr]<;>rfl)(h1:x.ty=ty:=by rfl)(h2:x.esz=esz:=by rfl)(h3:x.opn=false:=by rfl)(h4:x.size=l.length:=by rfl)(h5:x.fzn=0:=by rfl)(hM:M.contains b=false:=by rfl)(hl:l.length<1000000:=by simp)(hg:∀i,i<l.length->x.get i=l[i]?.getD .u:=by intro i hi;rcases RK hi with rfl|rfl|rfl|rfl<;>simp only[go_sem,simprocAttr])(hp:l.all (AV.pu 3)=true:=by rfl):cZ r M H b (bg esz ty l):= .lsti hx h1 h2 h3 h4 h5 hM hl hg hp
theorem sB{P:Program}{f:FuncId}{args:List AV}{a b c d:AV}(ha:a.pu 3=true)(hb:b.pu 3=true)(hc:c.pu 3=true)(hd:d.pu 3=true)(h:bR P f args [.v (.tup [a,b,c,d])]):bR P f args [.v a,.v b,.v c,.v d]:=
 rv.mono h λv H hq=>by
  obtain⟨l,e,hr⟩:=hq
  match l,hr with
  |[x],hr=>
   have hx:=hr.1.1
   subst hx
   exact⟨[a,b,c,d],e,⟨rfl,ha⟩,⟨rfl,hb⟩,⟨rfl,hc⟩,⟨rfl,hd⟩,trivial⟩
def tT(op:Nat):Option (AV×AH)->Bool
 |some (.tup [.b b,.b c,.b d,.b a],_)=>[a,b,c,d]==cn op
 |_=>false
theorem rQ:(List.range 39).all (λop=>tT op (kE wR 100 9 82 [.n .i64 (op:Int)] ⟨.nil,0,2^40,λ_=>none⟩))=true:=by kernel_rfl
theorem uK(op:Nat)(h:op<39)(a b c d:Bool)(he:cn op=[a,b,c,d]):bR Try.prog 82 [.n .i64 op] [.v (.b b),.v (.b c),.v (.b d),.v (.b a)]:=by
 have:=List.all_eq_true.1 rQ op (List.mem_range.2 h)
 generalize hr:kE wR 100 9 82 [.n .i64 (op:Int)] ⟨.nil,0,2^40,λ_=>none⟩=R at this
 unfold tT at this
 split at this
 ·rename_i b' c' d' a' H'
  have e:[a',b',c',d']=cn op:=by simpa using this
  rw[he] at e
  simp only[List.cons.injEq,and_true] at e
  obtain⟨rfl,rfl,rfl,rfl⟩:=e
  exact sB rfl rfl rfl rfl (l6 bf tp hr rfl)
 ·cases this
theorem nw(op to a b arg:Int)(h:0<=op/\op<39):bR Try.prog 57 [.agg [.n .i64 op,.n .i64 to,.n .i64 a,.n .i64 b,.n .u32 arg]] [.o 3 1 (aA op a b).length 0 (iC .i64 (aA op a b)),.v (.n .i64 (a8 op to))]:=by
 obtain⟨k,rfl⟩:∃k:Nat,op=(k:Int):=⟨op.toNat,by omega⟩
 have hk:k<39:=by omega
 obtain⟨x0,x1,x2,x3,hx⟩:∃x0 x1 x2 x3,cn k=[x0,x1,x2,x3]:=by
  unfold cn
  repeat' split
  all_goals exact⟨_,_,_,_,rfl⟩
 have hsh:=uK k hk _ _ _ _ hx
 simp only[aA,a8,Int.toNat_natCast,hx]
 have hgo:∀x1 x2 x3:Bool,bR Try.prog 82 [.n .i64 k] [.v (.b x1),.v (.b x2),.v (.b x3),.v (.b x0)]->bR Try.prog 57 [.agg [.n .i64 k,.n .i64 to,.n .i64 a,.n .i64 b,.n .u32 arg]]
   [.o 3 1 ((if x2=true then[a] else[])++(if x3=true then[b] else[])).length 0 (iC .i64 ((if x2=true then[a] else[])++(if x3=true then[b] else[]))),.v (.n .i64 (if x1=true then to else-1))]:=by
  intro x1 x2 x3 hsh
  refine aK bf QY ⟨by simp,by decide⟩ ?_
  simp only[bI]
  repeat first|with_reducible refine aw ?_|simp only[go_sem,simprocAttr]
  refine sC hsh ?_
  cases x2<;>cases x3<;>cases x1
  all_goals
   repeat first|with_reducible refine aw ?_|simp only[go_sem,simprocAttr]
  all_goals try exact kZ (.o0 rfl (.v rfl rfl .nil))
  all_goals
   refine kZ (.o (x:=_) (by simp only[go_sem,simprocAttr];first|done|exact rfl) (by rfl) (by rfl) (by rfl) (by decide) ?_ ?_ ?_ ?_ rfl (.v rfl rfl .nil))
   ·simp only[go_sem,simprocAttr,if_true,Bool.false_eq_true,if_false];first|done|decide
   ·first|decide|(simp only[go_sem,simprocAttr];first|done|decide)
   ·intro i j hi hj
    obtain rfl:j=0:=by omega
    have h01:i=0\/i=1:=by have:i<2:=Nat.lt_of_lt_of_le hi (by simp);omega
    rcases h01 with rfl|rfl<;>first|rfl|(exact absurd hi (by decide))|(show AB.get _ 1=_;rw[mE _ _ _ _ (by simp) (by simp)];rfl)
   ·intro i j _ _;rfl
 exact hgo x1 x2 x3 hsh
theorem Ax{ty esz n z q:Nat}{row:Nat->Nat->AV}{l:List AV}(hl:l.length=esz)(hq:q<n)(hn:n*esz<1000000):∀i j,i<n->j<esz->((aH ty esz n z row).putN (q*esz) l).get (i*esz+j)=if i=q then l[j]?.getD .u else row i j:=by
 intro i j hi hj
 have hql:q*esz+esz<=n*esz:=by
  have:=Nat.mul_le_mul_right esz (Nat.succ_le_of_lt hq)
  rwa [Nat.succ_mul] at this
 rw[fo (by omega)]
 by_cases e:i=q
 ·subst e
  rw[if_pos (by omega),if_pos rfl,Nat.add_sub_cancel_left]
 ·rw[if_neg e,if_neg ?_]
  ·exact aL i j hj
  ·rintro ⟨h1,h2⟩
   rcases Nat.lt_or_gt_of_ne e with h|h
   ·have:=Nat.mul_le_mul_right esz (Nat.succ_le_of_lt h)
    rw[Nat.succ_mul] at this
    omega
   ·have:=Nat.mul_le_mul_right esz (Nat.succ_le_of_lt h)
    rw[Nat.succ_mul] at this
    omega
theorem cZ.put{r:Nat->Option Nat}{M:List Nat}{H:AH}{b ty esz n z q o:Nat}{row row2:Nat->Nat->AV}{l:List AV}(hx:H.at b=some ((aH ty esz n z row).putN o l))(ho:o=q*esz)(hl:l.length=esz)(hq:q<n)(hM:M.contains b=false)(h0:0<esz)(hn:n*esz<1000000)
  (h2:∀i j,i<n->j<esz->(if i=q then l[j]?.getD .u else row i j)=row2 i j) (hc:∀i j,i<n->j<esz->(row2 i j).pu 3=true):cZ r M H b (aH ty esz n z row2):=by
 subst ho
 exact cZ.rows hx rfl rfl rfl (Nat.le_refl _) (by rw[if_neg (by simpa using hM)];exact Nat.le_refl _) h0 (λi j hi hj=>(Ax hl hq hn i j hi hj).trans (h2 i j hi hj)) hc
theorem cZ.same{r:Nat->Option Nat}{M:List Nat}{H:AH}{b ty esz n z:Nat}{row row2:Nat->Nat->AV}(hx:H.at b=some (aH ty esz n z row))(hM:M.contains b=false)(h0:0<esz)(h2:∀i j,i<n->j<esz->row i j=row2 i j)(hc:∀i j,i<n->j<esz->(row2 i j).pu 3=true):cZ r M H b (aH ty esz n z row2):=
 cZ.rows hx rfl rfl rfl (Nat.le_refl _) (by rw[if_neg (by simpa using hM)];exact Nat.le_refl _) h0 (λi j hi hj=>(aL i j hj).trans (h2 i j hi hj)) hc
theorem cZ.s1{r:Nat->Option Nat}{M:List Nat}{H:AH}{b ty n z:Nat}{row row2:Nat->Nat->AV}(hx:H.at b=some (aH ty 1 n z row):=by simp only[go_sem,simprocAttr]<;>rfl)(hM:M.contains b=false:=by rfl)(h2:∀i j,i<n->j<1->row i j=row2 i j:=by intro _ j _ hj;cases Nat.lt_one_iff.1 hj;rfl)(hc:∀i j,i<n->j<1->(row2 i j).pu 3=true:=by intro _ _ _ _;rfl):cZ r M H b (aH ty 1 n z row2):= .same hx hM (by decide) h2 hc
def aC(l:List (Bool×Int))(i j:Nat):AV:=if j=0 then .b (l.getD i (false,0)).1 else .n .i64 (l.getD i (false,0)).2
theorem iX{x:AB}{n m esz:Nat}{row:Nat->Nat->AV}{i j:Nat}(hj:j<esz)(hi:i<n+m)(hn:(n+m)*esz<2^40):(x.app (n*esz) (.fn (m*esz) λi=>row (i / esz) (i%esz))).get (i*esz+j)=if n<=i then row (i-n) j else x.get (i*esz+j):=by
 have h0:0<esz:=by omega
 have h1:i*esz+j<n*esz+m*esz:=by
  rw[<-Nat.add_mul];exact fc hi hj
 rw[AB.app_get _ _ _ _ (by simp only[cg.len];rw[<-Nat.add_mul];omega) h1]
 by_cases h:n<=i
 ·have h2:n*esz<=i*esz:=Nat.mul_le_mul_right esz h
  rw[if_pos (by omega),if_pos h]
  show row ((i*esz+j-n*esz) / esz) ((i*esz+j-n*esz)%esz)=_
  have e:i*esz+j-n*esz=j+esz*(i-n):=by
   rw[Nat.mul_comm esz,Nat.sub_mul];omega
  rw[e,Nat.add_mul_div_left _ _ h0,Nat.div_eq_of_lt hj,Nat.zero_add,Nat.add_mul_mod_self_left,Nat.mod_eq_of_lt hj]
 ·have h2:(i+1)*esz<=n*esz:=Nat.mul_le_mul_right esz (by omega)
  rw[Nat.succ_mul] at h2
  rw[if_neg (by omega),if_neg h]
theorem yC{x:AB}{n esz:Nat}{row:Nat->Nat->AV}{i j:Nat}(hi:i<n)(hj:j<esz)(hn:n*esz<2^40):(x.app 0 (.fn (n*esz) λi=>row (i / esz) (i%esz))).get (i*esz+j)=row i j:=by
 have:=iX (x:=x) (n:=0) (m:=n) (row:=row) hj (i:=i) (by omega) (by rwa [Nat.zero_add])
 rw[Nat.zero_mul,if_pos (Nat.zero_le _)] at this
 exact this
theorem sR{n:Nat}{row:Nat->Nat->AV}(hn:n<1000000)(hc:∀i j,i<n->j<2->(row i j).cell=true):
  bR Try.prog 75 [.fs 2 n row] [.o 102 2 n 0 row]:=by
 refine aK bf QE ⟨by simp,by decide⟩ ?_
 simp only[bI]
 have hl1:n*2<1099511627776:=by omega
 have hl2:n*16<=140737488355328:=by omega
 have hl3:n<=9223372036854775807:=by omega
 repeat first|with_reducible refine aw ?_|simp only[go_sem,simprocAttr]
 intro t ht
 cases t
 ·repeat first|with_reducible refine aw ?_|simp only[hl1,hl2,hl3,decide_true,go_sem,simprocAttr]
  refine⟨[_],rfl,.o (x:=_) (by simp only[go_sem,simprocAttr];rfl) (by rfl) (by rfl) (by rfl) (by decide) (by simp only[go_sem,simprocAttr]<;>omega) (Nat.le_refl _) (λi j hi hj=>?_) hc rfl .nil⟩
  exact yC hi hj (by omega)
 ·obtain rfl:=ht rfl
  repeat first|with_reducible refine aw ?_|simp only[go_sem,simprocAttr]
  exact⟨[_],rfl,.o0 rfl .nil⟩
theorem sQ{n:Nat}{row:Nat->Nat->AV}(hn:n<1000000)(hc:∀i j,i<n->j<5->(row i j).cell=true):
  bR Try.prog 29 [.fs 5 n row] [.o 60 5 n 0 row]:=by
 refine aK bf Qr ⟨by simp,by decide⟩ ?_
 simp only[bI]
 have hl1:n*5<1099511627776:=by omega
 have hl2:n*40<=140737488355328:=by omega
 have hl3:n<=9223372036854775807:=by omega
 repeat first|with_reducible refine aw ?_|simp only[go_sem,simprocAttr]
 intro t ht
 cases t
 ·repeat first|with_reducible refine aw ?_|simp only[hl1,hl2,hl3,decide_true,go_sem,simprocAttr]
  refine⟨[_],rfl,.o (x:=_) (by simp only[go_sem,simprocAttr];rfl) (by rfl) (by rfl) (by rfl) (by decide) (by simp only[go_sem,simprocAttr]<;>omega) (Nat.le_refl _) (λi j hi hj=>?_) hc rfl .nil⟩
  exact yC hi hj (by omega)
 ·obtain rfl:=ht rfl
  repeat first|with_reducible refine aw ?_|simp only[go_sem,simprocAttr]
  exact⟨[_],rfl,.o0 rfl .nil⟩
theorem cj{cs:List In}(i:Nat){j:Nat}(hj:j<5):(cC cs i j).cell=true:=by rcases iL hj with rfl|rfl|rfl|rfl|rfl<;>rfl
def eK.fz:eK->AV
 |.v x=>x
 |.o _ esz n _ row=> .fs esz n row
def RT.fz:RT->AV
 |.v x=>x
 |.o _ esz n _ row=> .fs esz n row
 |.a l=> .agg (l.map eK.fz)
theorem Cu{B:Nat}{σ:Sg}{H:AH}{w:World}(h:HR B σ H w){used:List Nat}{ty esz n z:Nat}{row:Nat->Nat->AV}{v:AV}(hr:AD used ty esz n z row v H):Cv (List.range H.next) H v (.fs esz n row):=by
 rcases hr with⟨rfl,rfl⟩|⟨b,rfl,_,x,hx,_,_,_,_,hsz,_,hget,hcell⟩
 ·exact .sl0 _ _
 ·exact .os (List.mem_range.2 (AH.at_lt h hx)) hx hsz hget hcell
theorem sE{B:Nat}{σ:Sg}{H:AH}{w:World}(h:HR B σ H w):∀{rs:List eK} {used:List Nat} {l:List AV},rn H used rs l->kA (List.range H.next) H l (rs.map eK.fz)
 |[],_,[],_=>trivial
 |[],_,_::_,hr=>hr.elim
 |.v _::_,_,[],hr=>hr.elim
 |.o _ _ _ _ _::_,_,[],hr=>hr.elim
 |.v x::rs,used,v::l,hr=>by
  obtain⟨⟨rfl,hp⟩,h2⟩:=hr
  exact⟨.rfl hp,sE h h2⟩
 |.o ty esz n z row::rs,used,v::l,hr=>⟨Cu h hr.1,sE h hr.2⟩
theorem kA.len{M:List Nat}{H:AH}:∀{l l2:List AV},kA M H l l2->l.length=l2.length
 |[],[],_=>rfl
 |[],_::_,h=>h.elim
 |_::_,[],h=>h.elim
 |_::l,_::l2,h=>by simp[kA.len h.2]
theorem kA.nth{M:List Nat}{H:AH}:∀{l l2:List AV},kA M H l l2->∀(i:Nat) (v v':AV),l[i]? =some v->l2[i]? =some v'->Cv M H v v'
 |[],[],_,i,v,v',h1,_=>by simp at h1
 |[],_::_,h,_,_,_,_,_=>h.elim
 |_::_,[],h,_,_,_,_,_=>h.elim
 |a::l,b::l2,h,0,v,v',h1,h2=>by
  simp at h1 h2
  subst h1 h2
  exact h.1
 |a::l,b::l2,h,i+1,v,v',h1,h2=>by
  simp at h1 h2
  exact kA.nth h.2 i v v' h1 h2
theorem oS{B:Nat}{σ:Sg}{H:AH}{w:World}(h:HR B σ H w):∀{rs:List RT} {l:List AV},dS rs l H->kA (List.range H.next) H l (rs.map RT.fz)
 |[],[],_=>trivial
 |[],_::_,hr=>hr.elim
 |.v _::_,[],hr=>hr.elim
 |.o _ _ _ _ _::_,[],hr=>hr.elim
 |.a _::_,[],hr=>hr.elim
 |.v x::rs,v::l,hr=>by
  obtain⟨⟨rfl,hp⟩,h2⟩:=hr
  exact⟨.rfl hp,oS h h2⟩
 |.o ty esz n z row::rs,v::l,hr=>⟨Cu h hr.1,oS h hr.2.2⟩
 |.a c::rs,v::l,hr=>by
  obtain⟨⟨_,vs,rfl,h1⟩,_,h2⟩:=hr
  have hc:=sE h h1
  exact⟨.agg hc.len hc.nth,oS h h2⟩
theorem rm:∀(l:List AV) {H:AH},l.all (AV.pu 3)=true->dS (l.map .v) l H
 |[],_,_=>trivial
 |v::l,H,h=>by
  simp only[List.all_cons,Bool.and_eq_true] at h
  exact⟨⟨rfl,h.1⟩,rm l h.2⟩
theorem fS{P:Program}{f:FuncId}{args:List AV}{rs:List RT}(h:bR P f args rs)(hp:(rs.map RT.fz).all (AV.pu 3)=true):bR P f args ((rs.map RT.fz).map .v):=by
 refine⟨h.1,λφ w args' hφ ha=>(h.2 φ w args' hφ ha).mono λe w' hq=>?_⟩
 cases e with
 |panicked c=>exact hq.elim
 |outgrown=>exact hq.elim
 |returned u=>
  obtain⟨v,Hc,σ',⟨l,rfl,hr⟩,hv,hHc,hbel,hfz⟩:=hq
  obtain⟨us,hus,hback⟩:=jU hv
  obtain⟨σ2,q1,q2,q3,q4,q5,q6,q7⟩:=hHc.marks (List.range Hc.next)
  have hcv:=oS hHc hr
  have hd:=hcv.ok hHc q1 q2 q7 hus
  refine⟨_,b9 Hc (List.range Hc.next),σ2,⟨_,rfl,rm _ hp⟩,hback hcv.len.symm (hd.mono (Sg.bare_le _)),q6,hbel,λc hc=>?_⟩
  rw[q4.eq c hc];exact hfz c hc
structure z6 where
 out:List Int
 op:List Nat
 lp:List Nat
def jT(cs:List In)(i:Nat)(op:Int)(s:z6):Option z6:=
 let out:=s.out.set i (-1)
 if op=27 then some ⟨out,i::s.op,s.lp⟩
 else if op=29 then some ⟨out,i::s.op,i::s.lp⟩
 else if op=28 then match s.op with
  |b::_=>some ⟨out.set b i,s.op,s.lp⟩
  |[]=>none
 else if op=31 then match s.op with
  |b::rest=>
   let out:=out.set i b
   let out:=if 0<=out.getD b 0 then out.set (out.getD b 0).toNat i else out.set b i
   if(cs.getD b (0,0,0,0,0)).1=29 then match s.lp with
    |_::lp=>some ⟨out,rest,lp⟩
    |[]=>none
   else some ⟨out,rest,s.lp⟩
  |[]=>none
 else if op=30 then match s.lp with
  |l::_=>some ⟨out.set i l,s.op,s.lp⟩
  |[]=>none
 else some ⟨out,s.op,s.lp⟩
def kU(cs:List In):List In->Nat->z6->Option z6
 |[],_,s=>some s
 |x::l,i,s=>(jT cs i x.1 s).bind (kU cs l (i+1))
def gH:List In->Nat->List Int->Option (List Int)
 |[],_,o=>some o
 |x::l,i,o=>if x.1=30 then(if 0<=o.getD i 0 then gH l (i+1) (o.set i (o.getD (o.getD i 0).toNat 0)) else none) else gH l (i+1) o
def oC(cs:List In):Option (List Int):=(kU cs cs 0 ⟨List.replicate cs.length 0,[],[]⟩).bind λs=>gH cs 0 s.out
def nC(l:List Nat)(i _j:Nat):AV:= .n .i64 ((l.reverse.getD i 0:Nat):Int)
theorem cZ.pop{r:Nat->Option Nat}{M:List Nat}{H:AH}{b ty esz n m z:Nat}{row row2:Nat->Nat->AV}(hx:H.at b=some (aH ty esz n z row))(hM:M.contains b=false)(h0:0<esz)(hm:m<=n)(h2:∀i j,i<m->j<esz->row i j=row2 i j)(hc:∀i j,i<m->j<esz->(row2 i j).pu 3=true):cZ r M H b (aH ty esz m z row2):=
 cZ.rows hx rfl rfl rfl (Nat.mul_le_mul_right esz hm) (by rw[if_neg (by simpa using hM)];exact Nat.le_refl _) h0 (λi j hi hj=>(aL i j hj).trans (h2 i j hi hj)) hc
theorem cZ.snoc{r:Nat->Option Nat}{M:List Nat}{H:AH}{b ty esz n z o:Nat}{row row2:Nat->Nat->AV}{l:List AV}(hx:H.at b=some ((aH ty esz n z row).app o (.li l)))(ho:o=n*esz)(hl:l.length=esz)(hM:M.contains b=false)(h0:0<esz)(hn:(n+1)*esz<2^40)
  (h1:∀i j,i<n->j<esz->row2 i j=row i j) (h2:∀j,j<esz->row2 n j=l[j]?.getD .u) (hc:∀i j,i<n+1->j<esz->(row2 i j).pu 3=true):cZ r M H b (aH ty esz (n+1) z row2):=by
 subst ho
 refine cZ.rows hx (AB.app_rest _ _ _).2.1 (AB.app_rest _ _ _).1 (AB.app_rest _ _ _).2.2.1 ?_ ?_ h0 (wT hl hn h1 h2) hc
 ·rw[AB.app_size];simp only[cg.len,hl,Nat.succ_mul];exact Nat.le_refl _
 ·rw[if_neg (by simpa using hM),(AB.app_rest _ _ _).2.2.2.2];exact Nat.le_refl _
theorem cZ.lstw{r:Nat->Option Nat}{M:List Nat}{H:AH}{b esz ty:Nat}{l:List AV}{x:AB}(hx:H.at b=some x)(h1:x.ty=ty)(h2:x.esz=esz)(h3:x.opn=false)(h4:x.size=l.length)(h5:x.fzn=0)(hM:M.contains b=false)(hl:l.length<1000000)(hg:∀i,i<l.length->Wv r M H (x.get i) (l[i]?.getD .u)):cZ r M H b (bg esz ty l):=by
 refine⟨x,hx,h1.symm,h2.symm,h3.symm,rfl,.inl h4.symm,by rw[if_neg (by simpa using hM),h5];exact Nat.zero_le _,λi hi=>?_⟩
 have hi':i<l.length:=hi
 rw[jr esz ty l i hl]
 exact hg i hi'
theorem iu{i:Nat}(h:i<4):i=0\/i=1\/i=2\/i=3:=by omega
theorem RM{i:Nat}(h:i<2):i=0\/i=1:=by omega
theorem cZ.w4{r:Nat->Option Nat}{M:List Nat}{H:AH}{b esz ty:Nat}{l:List AV}{x:AB}(hx:H.at b=some x:=by simp only[go_sem,simprocAttr]<;>rfl)(h1:x.ty=ty:=by rfl)(h2:x.esz=esz:=by rfl)(h3:x.opn=false:=by rfl)(h4:x.size=l.length:=by rfl)(h5:x.fzn=0:=by rfl)(hM:M.contains b=false:=by rfl)(hl:l.length<1000000:=by simp)
  (hg:∀i,i<l.length->Wv r M H (x.get i) (l[i]?.getD .u):=by intro i hi;rcases(show i=0\/i=1\/i=2\/i=3 from iu hi) with rfl|rfl|rfl|rfl<;>(simp only[go_sem,simprocAttr];first|exact Wv.same rfl|exact Wv.os rfl)):cZ r M H b (bg esz ty l):= .lstw hx h1 h2 h3 h4 h5 hM hl hg
theorem cZ.w2{r:Nat->Option Nat}{M:List Nat}{H:AH}{b esz ty:Nat}{l:List AV}{x:AB}(hx:H.at b=some x:=by simp only[go_sem,simprocAttr]<;>rfl)(h1:x.ty=ty:=by rfl)(h2:x.esz=esz:=by rfl)(h3:x.opn=false:=by rfl)(h4:x.size=l.length:=by rfl)(h5:x.fzn=0:=by rfl)(hM:M.contains b=false:=by rfl)(hl:l.length<1000000:=by simp)
  (hg:∀i,i<l.length->Wv r M H (x.get i) (l[i]?.getD .u):=by intro i hi;rcases(show i=0\/i=1 from RM hi) with rfl|rfl<;>(simp only[go_sem,simprocAttr];exact Wv.os rfl)):cZ r M H b (bg esz ty l):= .lstw hx h1 h2 h3 h4 h5 hM hl hg
theorem VR.n_val{σ:Sg}{k:IntKind}{x:Int}{v:Value}(h:VR σ (.n k x) v):v= .int k x:=by cases h;rfl
theorem VR.b_val{σ:Sg}{x:Bool}{v:Value}(h:VR σ (.b x) v):v= .bool x:=by cases h;rfl
theorem yx{φ:Fz}{w:World}(hφ:pE φ w){esz n:Nat}{row:Nat->Nat->AV}{v:Value}(h:VR (Sg.data φ) (.fs esz n row) v)(f:Nat->Nat->Value)(hf:∀i j,i<n->j<esz->∀(σ:Sg) u,VR σ (row i j) u->u=f i j):
  ∃a cap,v= .slice a n cap/\dG w.heap.size w esz a n f:=by
 cases h with
 |fs0 esz row a cap=>exact⟨a,cap,rfl,λi hi=>by omega⟩
 |@fs _ _ _ _ c off cs hz hb h1 h cap hcap=>
  refine⟨_,cap,rfl,λi hi=>?_⟩
  obtain⟨cs',t,fr,e1,e2⟩:=hφ c cs hz
  have hc:c<w.heap.size:=(Array.getElem?_eq_some_iff.1 e1).1
  refine⟨c,off,rfl,hc,λj hj=>?_⟩
  have hlt:=fc hi hj
  have h2:=hf i j hi hj _ _ (h i j hi hj)
  have h3:=e2.2 (off+i*esz+j) (by omega)
  have h4:off+i*esz+j<cs.size:=by omega
  rw[Array.getElem?_eq_getElem h4] at h3
  simp only[World.cell?,e1,h3]
  rw[<-h2,Array.getD,dif_pos h4]
  rfl
def bq(x:In):RI:=⟨x.1,x.2.1,x.2.2.1,x.2.2.2.1,x.2.2.2.2⟩
def jN(x:Bool×Int):Ar:=⟨x.1,x.2⟩
theorem mc{α β:Type}(g:α->β)(l:List α)(i:Nat)(d:α)(d':β)(h:i<l.length):(l.map g).getD i d'=g (l.getD i d):=by
 simp[List.getD_eq_getElem?_getD,List.getElem?_map,List.getElem?_eq_getElem h]
theorem sL{φ:Fz}{w:World}(hφ:pE φ w){cs:List In}{v:Value}(h:VR (Sg.data φ) (.fs 5 cs.length (cC cs)) v):∃a cap,v= .slice a (cs.map bq).length cap/\dG w.heap.size w 5 a (cs.map bq).length λi j=>((cs.map bq).getD i default).cell j:=by
 rw[List.length_map]
 refine yx hφ h _ (λi j hi hj σ u hu=>?_)
 rw[mc bq cs i (0,0,0,0,0) default hi]
 unfold cC at hu
 generalize cs.getD i (0,0,0,0,0)=x at hu
 rcases iL hj with rfl|rfl|rfl|rfl|rfl<;>exact hu.n_val
theorem HC{φ:Fz}{w:World}(hφ:pE φ w){l:List (Bool×Int)}{v:Value}(h:VR (Sg.data φ) (.fs 2 l.length (aC l)) v):∃a cap,v= .slice a (l.map jN).length cap/\dG w.heap.size w 2 a (l.map jN).length λi j=>((l.map jN).getD i default).cell j:=by
 rw[List.length_map]
 refine yx hφ h _ (λi j hi hj σ u hu=>?_)
 rw[mc jN l i (false,0) default hi]
 unfold aC at hu
 generalize l.getD i (false,0)=x at hu
 have hj2:j=0\/j=1:=by omega
 rcases hj2 with rfl|rfl
 ·exact hu.b_val
 ·exact hu.n_val
theorem qW{φ:Fz}{w:World}(hφ:pE φ w){l:List (Bool×Int)}{regs par:Int}{cs:List In}{args':Array Value}(ha:bw (Sg.data φ) [aP l.length (aC l) regs par cs] args'.toList):
  ∃a1 c1 a2 c2,args'= #[.agg #[.slice a1 (l.map jN).length c1,.int .i64 regs,.int .i64 par,.slice a2 (cs.map bq).length c2]]/\(dG w.heap.size w 2 a1 (l.map jN).length λi j=>((l.map jN).getD i default).cell j)/\dG w.heap.size w 5 a2 (cs.map bq).length λi j=>((cs.map bq).getD i default).cell j:=by
 have hn:args'.toList.length=1:=ha.1.symm
 match hl:args'.toList,hn with
 |[u],_=>
  rw[hl] at ha
  have hu:=ha.2 0 _ rfl
  simp only[List.getD_cons_zero] at hu
  have hargs:args'= #[u]:=by apply Array.toList_inj.1;rw[hl]
  unfold aP at hu
  cases hu with
  |@agg _ _ cs' hlen h=>
   have h0:=h 0 _ rfl
   have h1:=(h 1 _ rfl).n_val
   have h2:=(h 2 _ rfl).n_val
   have h3:=h 3 _ rfl
   obtain⟨a1,c1,e1,r1⟩:=HC hφ h0
   obtain⟨a2,c2,e2,r2⟩:=sL hφ h3
   refine⟨a1,c1,a2,c2,?_,r1,r2⟩
   rw[hargs]
   have hsz:cs'.size=4:=hlen.symm
   congr 2
   have ht:cs'= #[cs'.getD 0 undef,cs'.getD 1 undef,cs'.getD 2 undef,cs'.getD 3 undef]:=by
    apply Array.ext
    ·simp[hsz]
    ·intro i hi1 hi2
     have hi:i=0\/i=1\/i=2\/i=3:=by omega
     rcases hi with rfl|rfl|rfl|rfl<;>simp[Array.getD,hsz]
   rw[ht,e1,h1,h2,e2]
theorem qC{P:Program}{f:FuncId}{args:List AV}{j1 j2:IntKind}{x y:Int}(hf:vJ P f)(h:∀φ w args',pE φ w->bw (Sg.data φ) args args'.toList->Calls P f args' w λe w'=>e= .returned (.tuple #[.int j1 x,.int j2 y])/\Below w.heap.size w w'):
  bR P f args [.v (.n j1 x),.v (.n j2 y)]:=by
 refine⟨hf,λφ w args' hφ ha=>(h φ w args' hφ ha).mono λe w' hq=>?_⟩
 obtain⟨rfl,hbel⟩:=hq
 exact⟨.tup [.n j1 x,.n j2 y],⟨.nil,0,2^40,λ_=>none⟩,Sg.data φ,⟨[.n j1 x,.n j2 y],rfl,⟨rfl,rfl⟩,⟨rfl,rfl⟩,trivial⟩,bw.tup (cs:=[.int j1 x,.int j2 y]) (.cons (.n _ _) (.cons (.n _ _) .nil)),HR.after hφ hbel,hbel,λc _=>rfl⟩
def yU:In:=(0,0,0,0,0)
def dy(cd:List RI)(i:Nat)(s:z6):Option z6:=
 let out:=s.out.set i (-1)
 if aq cd i=27 then some ⟨out,i::s.op,s.lp⟩
 else if aq cd i=29 then some ⟨out,i::s.op,i::s.lp⟩
 else if aq cd i=28 then match s.op with
  |b::_=>some ⟨out.set b i,s.op,s.lp⟩
  |[]=>none
 else if aq cd i=31 then match s.op with
  |b::rest=>
   let out:=out.set i b
   let out:=if 0<=out.getD b 0 then out.set (out.getD b 0).toNat i else out.set b i
   if aq cd b=29 then match s.lp with
    |_::lp=>some ⟨out,rest,lp⟩
    |[]=>none
   else some ⟨out,rest,s.lp⟩
  |[]=>none
 else if aq cd i=30 then match s.lp with
  |l::_=>some ⟨out.set i l,s.op,s.lp⟩
  |[]=>none
 else some ⟨out,s.op,s.lp⟩
def je(cd:List RI):Nat->Nat->z6->Option z6
 |0,_,s=>some s
 |n+1,k,s=>(dy cd k s).bind (je cd n (k+1))
def iM(cd:List RI):Nat->Nat->List Int->Option (List Int)
 |0,_,o=>some o
 |n+1,k,o=>if aq cd k=30 then(if 0<=o.getD k 0 then iM cd n (k+1) (o.set k (o.getD (o.getD k 0).toNat 0)) else none) else iM cd n (k+1) o
theorem dW(cs:List In)(b:Nat):aq (cs.map bq) b=(cs.getD b (0,0,0,0,0)).1:=by
 unfold aq
 simp only[List.getD_eq_getElem?_getD,List.getElem?_map]
 cases cs[b]? <;>rfl
theorem xi(cs:List In)(i:Nat)(s:z6):jT cs i (cs.getD i (0,0,0,0,0)).1 s=dy (cs.map bq) i s:=by
 unfold jT dy
 simp only[dW]
 try rfl
theorem tB(cs:List In):∀(n k:Nat) (s:z6),k+n=cs.length->kU cs (cs.drop k) k s=je (cs.map bq) n k s
 |0,k,s,h=>by
  rw[List.drop_of_length_le (by omega)];rfl
 |n+1,k,s,h=>by
  rw[ub (d:=(0,0,0,0,0)) (by omega),kU,xi,je]
  congr 1
  funext s
  exact tB cs n (k+1) s (by omega)
theorem oJ(cs:List In):∀(n k:Nat) (o:List Int),k+n=cs.length->gH (cs.drop k) k o=iM (cs.map bq) n k o
 |0,k,o,h=>by
  rw[List.drop_of_length_le (by omega)];rfl
 |n+1,k,o,h=>by
  rw[ub (d:=(0,0,0,0,0)) (by omega),gH,iM,dW]
  split
  ·split
   ·exact oJ cs n (k+1) _ (by omega)
   ·rfl
  ·exact oJ cs n (k+1) _ (by omega)
def T.rz:T->Nat->Nat->List Int
 |.nil,_,_=>[]
 |.plain i r,k,l=>(if i.op=30 then(l:Int) else-1)::r.rz (k+1) l
 |.ite i a j r,k,l=>((k+a.size+1:Nat):Int)::(a.rz (k+1) l++(k:Int)::r.rz (k+a.size+2) l)
 |.ite2 i a x b j r,k,l=>((k+a.size+1:Nat):Int)::(a.rz (k+1) l++((k+a.size+b.size+2:Nat):Int)::(b.rz (k+a.size+2) l++(k:Int)::r.rz (k+a.size+b.size+3) l))
 |.loop i a j r,k,l=>((k+a.size+1:Nat):Int)::(a.rz (k+1) k++(k:Int)::r.rz (k+a.size+2) l)
theorem T.rz_length:∀(t:T) (k l:Nat),(t.rz k l).length=t.size
 |.nil,_,_=>rfl
 |.plain i r,k,l=>by simp only[rz,size,List.length_cons,r.rz_length]
 |.ite i a j r,k,l=>by simp only[rz,size,List.length_cons,List.length_append,a.rz_length,r.rz_length];omega
 |.ite2 i a x b j r,k,l=>by simp only[rz,size,List.length_cons,List.length_append,a.rz_length,b.rz_length,r.rz_length];omega
 |.loop i a j r,k,l=>by simp only[rz,size,List.length_cons,List.length_append,a.rz_length,r.rz_length];omega
theorem cQ(cd:List RI):∀(t:T) (w:Bool) (d k:Nat) (A:List Int) (m m':Nat) (op lp:List Nat),gb cd k t.flat->t.wf w d->A.length=k->(w=true->lp≠[])->
  je cd (t.size+m') k ⟨A++List.replicate (t.size+m) 0,op,lp⟩=je cd m' (k+t.size) ⟨A++(t.rz k (lp.headD 0)++List.replicate m 0),op,lp⟩
 |.nil,w,d,k,A,m,m',op,lp,hc,hw,hA,hl=>by simp[T.size,T.rz]
 |.plain i r,w,d,k,A,m,m',op,lp,hc,hw,hA,hl=>by
  obtain⟨⟨h1,h2,h3,h4⟩,h5,hr⟩:=hw
  have hi:aq cd k=i.op:=by show(cd.getD k default).op=_;rw[hc.head]
  have hset:∀v:Int,(A++List.replicate (r.size+1+m) (0:Int)).set k v=A++[v]++List.replicate (r.size+m) 0:=λv=>by
   rw[show r.size+1+m=(r.size+m)+1 by omega,List.replicate_succ,br _ _ _ _ hA];simp
  simp only[T.size]
  rw[show r.size+1+m'=(r.size+m')+1 by omega,je]
  have hs:dy cd k ⟨A++List.replicate (r.size+1+m) 0,op,lp⟩=some ⟨A++[if i.op=30 then((lp.headD 0:Nat):Int) else-1]++List.replicate (r.size+m) 0,op,lp⟩:=by
   unfold dy
   simp only
   rw[hi,if_neg h1,if_neg h3,if_neg h2,if_neg h4]
   by_cases h30:i.op=30
   ·rw[if_pos h30,if_pos h30]
    cases lp with
    |nil=>exact absurd rfl (hl (h5 h30))
    |cons l lr=>
     simp only[List.headD_cons]
     rw[List.set_set,hset]
   ·rw[if_neg h30,if_neg h30,hset]
  rw[hs]
  simp only[Option.bind_some]
  rw[cQ cd r w d (k+1) (A++[if i.op=30 then((lp.headD 0:Nat):Int) else-1]) m m' op lp hc.tail hr (by simp[hA]) hl,show k+1+r.size=k+(r.size+1) by omega]
  simp[T.rz]
 |.ite i a j r,w,d,k,A,m,m',op,lp,hc,hw,hA,hl=>by
  obtain⟨h1,h2,h3,ha,hr⟩:=hw
  simp only[T.flat] at hc
  have hi:aq cd k=27:=by show(cd.getD k default).op=_;rw[hc.head,h1]
  have hcj:=hc.tail.right
  rw[a.flat_length] at hcj
  have hj:aq cd (k+1+a.size)=31:=by show(cd.getD (k+1+a.size) default).op=_;rw[hcj.head,h2]
  generalize hL:lp.headD 0=L
  simp only[T.size]
  rw[show a.size+r.size+2+m'=(a.size+(r.size+m'+1))+1 by omega,je]
  have hs:dy cd k ⟨A++List.replicate (a.size+r.size+2+m) 0,op,lp⟩=some ⟨(A++[-1])++List.replicate (a.size+(r.size+m+1)) 0,k::op,lp⟩:=by
   unfold dy
   simp only
   rw[hi,if_pos rfl,show a.size+r.size+2+m=(a.size+(r.size+m+1))+1 by omega,List.replicate_succ,br _ _ _ _ hA]
   simp
  rw[hs]
  simp only[Option.bind_some]
  rw[cQ cd a w (d-1) (k+1) (A++[-1]) (r.size+m+1) (r.size+m'+1) (k::op) lp hc.tail.left ha (by simp[hA]) hl,hL,je]
  have hal:=a.rz_length (k+1) L
  have hs2:dy cd (k+1+a.size) ⟨A++[-1]++(a.rz (k+1) L++List.replicate (r.size+m+1) 0),k::op,lp⟩=
    some ⟨A++(((k+a.size+1:Nat):Int)::(a.rz (k+1) L++[(k:Int)]))++List.replicate (r.size+m) 0,op,lp⟩:=by
   unfold dy
   have e1:∀v:Int,(A++[-1]++(a.rz (k+1) L++List.replicate (r.size+m+1) (0:Int))).set (k+1+a.size) v=A++(-1:Int)::(a.rz (k+1) L++v::List.replicate (r.size+m) 0):=λv=>by
    rw[List.replicate_succ,<-List.append_assoc,br _ _ _ _ (by simp[hA,hal];omega)];simp
   have e2:(A++(-1:Int)::(a.rz (k+1) L++(k:Int)::List.replicate (r.size+m) 0)).getD k 0= -1:=co _ _ _ _ hA
   simp only
   rw[hj,if_neg (by decide),if_neg (by decide),if_neg (by decide),if_pos rfl,hi,if_neg (by decide),List.set_set,e1,e2,if_neg (by decide),br _ _ _ _ hA,show k+1+a.size=k+a.size+1 by omega]
   simp
  rw[hs2]
  simp only[Option.bind_some]
  rw[cQ cd r w d (k+1+a.size+1) (A++(((k+a.size+1:Nat):Int)::(a.rz (k+1) L++[(k:Int)]))) m m' op lp hcj.tail hr (by simp[hA,hal];omega) hl,hL]
  rw[show k+1+a.size+1=k+a.size+2 by omega,show k+a.size+2+r.size=k+(a.size+r.size+2) by omega]
  simp[T.rz]
 |.loop i a j r,w,d,k,A,m,m',op,lp,hc,hw,hA,hl=>by
  obtain⟨h1,h2,h3,ha,hr⟩:=hw
  simp only[T.flat] at hc
  have hi:aq cd k=29:=by show(cd.getD k default).op=_;rw[hc.head,h1]
  have hcj:=hc.tail.right
  rw[a.flat_length] at hcj
  have hj:aq cd (k+1+a.size)=31:=by show(cd.getD (k+1+a.size) default).op=_;rw[hcj.head,h2]
  simp only[T.size]
  rw[show a.size+r.size+2+m'=(a.size+(r.size+m'+1))+1 by omega,je]
  have hs:dy cd k ⟨A++List.replicate (a.size+r.size+2+m) 0,op,lp⟩=some ⟨(A++[-1])++List.replicate (a.size+(r.size+m+1)) 0,k::op,k::lp⟩:=by
   unfold dy
   simp only
   rw[hi,if_neg (by decide),if_pos rfl,show a.size+r.size+2+m=(a.size+(r.size+m+1))+1 by omega,List.replicate_succ,br _ _ _ _ hA]
   simp
  rw[hs]
  simp only[Option.bind_some]
  rw[cQ cd a true (d-1) (k+1) (A++[-1]) (r.size+m+1) (r.size+m'+1) (k::op) (k::lp) hc.tail.left ha (by simp[hA]) (by simp),je]
  simp only[List.headD_cons]
  have hal:=a.rz_length (k+1) k
  have hs2:dy cd (k+1+a.size) ⟨A++[-1]++(a.rz (k+1) k++List.replicate (r.size+m+1) 0),k::op,k::lp⟩=
    some ⟨A++(((k+a.size+1:Nat):Int)::(a.rz (k+1) k++[(k:Int)]))++List.replicate (r.size+m) 0,op,lp⟩:=by
   unfold dy
   have e1:∀v:Int,(A++[-1]++(a.rz (k+1) k++List.replicate (r.size+m+1) (0:Int))).set (k+1+a.size) v=A++(-1:Int)::(a.rz (k+1) k++v::List.replicate (r.size+m) 0):=λv=>by
    rw[List.replicate_succ,<-List.append_assoc,br _ _ _ _ (by simp[hA,hal];omega)];simp
   have e2:(A++(-1:Int)::(a.rz (k+1) k++(k:Int)::List.replicate (r.size+m) 0)).getD k 0= -1:=co _ _ _ _ hA
   simp only
   rw[hj,if_neg (by decide),if_neg (by decide),if_neg (by decide),if_pos rfl,hi,if_pos rfl,List.set_set,e1,e2,if_neg (by decide),br _ _ _ _ hA,show k+1+a.size=k+a.size+1 by omega]
   simp
  rw[hs2]
  simp only[Option.bind_some]
  rw[cQ cd r w d (k+1+a.size+1) (A++(((k+a.size+1:Nat):Int)::(a.rz (k+1) k++[(k:Int)]))) m m' op lp hcj.tail hr (by simp[hA,hal];omega) hl]
  rw[show k+1+a.size+1=k+a.size+2 by omega,show k+a.size+2+r.size=k+(a.size+r.size+2) by omega]
  simp[T.rz]
 |.ite2 i a x b j r,w,d,k,A,m,m',op,lp,hc,hw,hA,hl=>by
  obtain⟨h1,hx,h2,h3,ha,hb,hr⟩:=hw
  simp only[T.flat] at hc
  have hi:aq cd k=27:=by show(cd.getD k default).op=_;rw[hc.head,h1]
  have hcx:=hc.tail.right
  rw[a.flat_length] at hcx
  have hxo:aq cd (k+1+a.size)=28:=by show(cd.getD (k+1+a.size) default).op=_;rw[hcx.head,hx]
  have hcj:=hcx.tail.right
  rw[b.flat_length] at hcj
  have hj:aq cd (k+1+a.size+1+b.size)=31:=by show(cd.getD (k+1+a.size+1+b.size) default).op=_;rw[hcj.head,h2]
  generalize hL:lp.headD 0=L
  have hal:=a.rz_length (k+1) L
  have hbl:=b.rz_length (k+1+a.size+1) L
  simp only[T.size]
  rw[show a.size+b.size+r.size+3+m'=(a.size+(b.size+(r.size+m'+1)+1))+1 by omega,je]
  have hs:dy cd k ⟨A++List.replicate (a.size+b.size+r.size+3+m) 0,op,lp⟩=some ⟨(A++[-1])++List.replicate (a.size+(b.size+(r.size+m+1)+1)) 0,k::op,lp⟩:=by
   unfold dy
   simp only
   rw[hi,if_pos rfl,show a.size+b.size+r.size+3+m=(a.size+(b.size+(r.size+m+1)+1))+1 by omega,List.replicate_succ,br _ _ _ _ hA]
   simp
  rw[hs]
  simp only[Option.bind_some]
  rw[cQ cd a w (d-1) (k+1) (A++[-1]) (b.size+(r.size+m+1)+1) (b.size+(r.size+m'+1)+1) (k::op) lp hc.tail.left ha (by simp[hA]) hl,hL,je]
  have hs2:dy cd (k+1+a.size) ⟨A++[-1]++(a.rz (k+1) L++List.replicate (b.size+(r.size+m+1)+1) 0),k::op,lp⟩=
    some ⟨A++(((k+1+a.size:Nat):Int)::(a.rz (k+1) L++[(-1:Int)]))++List.replicate (b.size+(r.size+m+1)) 0,k::op,lp⟩:=by
   unfold dy
   have e1:(A++[-1]++(a.rz (k+1) L++List.replicate (b.size+(r.size+m+1)+1) (0:Int))).set (k+1+a.size) (-1)=A++(-1:Int)::(a.rz (k+1) L++ -1::List.replicate (b.size+(r.size+m+1)) 0):=by
    rw[List.replicate_succ,<-List.append_assoc,br _ _ _ _ (by simp[hA,hal];omega)];simp
   simp only
   rw[hxo,if_neg (by decide),if_neg (by decide),if_pos rfl,e1,br _ _ _ _ hA]
   simp
  rw[hs2]
  simp only[Option.bind_some]
  rw[cQ cd b w (d-1) (k+1+a.size+1) (A++(((k+1+a.size:Nat):Int)::(a.rz (k+1) L++[(-1:Int)]))) (r.size+m+1) (r.size+m'+1) (k::op) lp hcx.tail.left hb (by simp[hA,hal];omega) hl,hL,je]
  have hs3:dy cd (k+1+a.size+1+b.size) ⟨A++(((k+1+a.size:Nat):Int)::(a.rz (k+1) L++[(-1:Int)]))++(b.rz (k+1+a.size+1) L++List.replicate (r.size+m+1) 0),k::op,lp⟩=
    some ⟨A++(((k+1+a.size:Nat):Int)::(a.rz (k+1) L++(((k+1+a.size+1+b.size:Nat):Int)::(b.rz (k+1+a.size+1) L++[(k:Int)]))))++List.replicate (r.size+m) 0,op,lp⟩:=by
   unfold dy
   have e1:∀v:Int,(A++(((k+1+a.size:Nat):Int)::(a.rz (k+1) L++[(-1:Int)]))++(b.rz (k+1+a.size+1) L++List.replicate (r.size+m+1) 0)).set (k+1+a.size+1+b.size) v=
     A++((k+1+a.size:Nat):Int)::(a.rz (k+1) L++ -1::(b.rz (k+1+a.size+1) L++v::List.replicate (r.size+m) 0)):=λv=>by
    rw[List.replicate_succ,<-List.append_assoc,br _ _ _ _ (by simp[hA,hal,hbl];omega)];simp
   have e2:(A++((k+1+a.size:Nat):Int)::(a.rz (k+1) L++ -1::(b.rz (k+1+a.size+1) L++(k:Int)::List.replicate (r.size+m) 0))).getD k 0=((k+1+a.size:Nat):Int):=co _ _ _ _ hA
   have e4:(A++((k+1+a.size:Nat):Int)::(a.rz (k+1) L++ -1::(b.rz (k+1+a.size+1) L++(k:Int)::List.replicate (r.size+m) (0:Int)))).set (k+1+a.size) ((k+1+a.size+1+b.size:Nat):Int)=
     A++((k+1+a.size:Nat):Int)::(a.rz (k+1) L++((k+1+a.size+1+b.size:Nat):Int)::(b.rz (k+1+a.size+1) L++(k:Int)::List.replicate (r.size+m) 0)):=by
    have:=br (A++((k+1+a.size:Nat):Int)::a.rz (k+1) L) (-1) ((k+1+a.size+1+b.size:Nat):Int) (b.rz (k+1+a.size+1) L++(k:Int)::List.replicate (r.size+m) (0:Int)) (k:=k+1+a.size) (by simp[hA,hal];omega)
    simpa using this
   simp only
   rw[hj,if_neg (by decide),if_neg (by decide),if_neg (by decide),if_pos rfl,hi,if_neg (by decide),List.set_set,e1,e2,if_pos (by omega),Int.toNat_natCast,e4]
   simp
  rw[hs3]
  simp only[Option.bind_some]
  rw[cQ cd r w d (k+1+a.size+1+b.size+1) (A++(((k+1+a.size:Nat):Int)::(a.rz (k+1) L++(((k+1+a.size+1+b.size:Nat):Int)::(b.rz (k+1+a.size+1) L++[(k:Int)]))))) m m' op lp hcj.tail hr (by simp[hA,hal,hbl];omega) hl,hL]
  simp only[T.rz]
  rw[show k+a.size+1=k+1+a.size by omega,show k+a.size+b.size+2=k+1+a.size+1+b.size by omega,show k+a.size+2=k+1+a.size+1 by omega,show k+a.size+b.size+3=k+1+a.size+1+b.size+1 by omega,show k+(a.size+b.size+r.size+3)=k+1+a.size+1+b.size+1+r.size by omega]
  simp
theorem nT{A B:List Int}{l:Nat}(h:l<A.length):(A++B).getD l 0=A.getD l 0:=by
 rw[List.getD_eq_getElem?_getD,List.getElem?_append_left h,<-List.getD_eq_getElem?_getD]
def B6(A:List Int)(l:Nat)(e:Int):Prop:=l<A.length/\A.getD l 0=e
theorem B6.app{A:List Int}{l:Nat}{e:Int}(h:B6 A l e)(B:List Int):B6 (A++B) l e:=⟨by simp only[List.length_append];have:=h.1;omega,by rw[nT h.1];exact h.2⟩
theorem cX(cd:List RI):∀(t:T) (w:Bool) (d k:Nat) (A B:List Int) (m':Nat) (l:Nat) (e:Int),gb cd k t.flat->t.wf w d->A.length=k->(w=true->B6 A l e)->
  iM cd (t.size+m') k (A++(t.rz k l++B))=iM cd m' (k+t.size) (A++(t.rq k e++B))
 |.nil,w,d,k,A,B,m',l,e,hc,hw,hA,hl=>by simp[T.size,T.rz,T.rq]
 |.plain i r,w,d,k,A,B,m',l,e,hc,hw,hA,hl=>by
  obtain⟨⟨h1,h2,h3,h4⟩,h5,hr⟩:=hw
  have hi:aq cd k=i.op:=by show(cd.getD k default).op=_;rw[hc.head]
  simp only[T.size]
  rw[show r.size+1+m'=(r.size+m')+1 by omega,iM,hi]
  have ih:=cX cd r w d (k+1) (A++[if i.op=30 then e else-1]) B m' l e hc.tail hr (by simp[hA]) (λh=>(hl h).app _)
  rw[show k+1+r.size=k+(r.size+1) by omega] at ih
  by_cases h30:i.op=30
  ·obtain⟨g1,g2⟩:=hl (h5 h30)
   have e1:(A++((T.plain i r).rz k l++B)).getD k 0=(l:Int):=by
    simp only[T.rz,if_pos h30,List.cons_append];exact co _ _ _ _ hA
   have e2:(A++((T.plain i r).rz k l++B)).getD l 0=e:=by rw[nT g1];exact g2
   rw[if_pos h30,e1,if_pos (by omega),Int.toNat_natCast,e2]
   simp only[T.rz,T.rq,List.cons_append]
   rw[br _ _ _ _ hA,if_pos h30]
   rw[if_pos h30] at ih
   simpa using ih
  ·rw[if_neg h30]
   simp only[T.rz,T.rq,if_neg h30,List.cons_append]
   rw[if_neg h30] at ih
   simpa using ih
 |.ite i a j r,w,d,k,A,B,m',l,e,hc,hw,hA,hl=>by
  obtain⟨h1,h2,h3,ha,hr⟩:=hw
  simp only[T.flat] at hc
  have hi:aq cd k=27:=by show(cd.getD k default).op=_;rw[hc.head,h1]
  have hcj:=hc.tail.right
  rw[a.flat_length] at hcj
  have hj:aq cd (k+1+a.size)=31:=by show(cd.getD (k+1+a.size) default).op=_;rw[hcj.head,h2]
  have hal:=a.rq_length (k+1) e
  simp only[T.size]
  rw[show a.size+r.size+2+m'=(a.size+(r.size+m'+1))+1 by omega,iM,hi,if_neg (by decide)]
  have ih1:=cX cd a w (d-1) (k+1) (A++[((k+a.size+1:Nat):Int)]) ((k:Int)::(r.rz (k+a.size+2) l++B)) (r.size+m'+1) l e hc.tail.left ha (by simp[hA]) (λh=>(hl h).app _)
  have ih2:=cX cd r w d (k+a.size+2) (A++(((k+a.size+1:Nat):Int)::(a.rq (k+1) e++[(k:Int)]))) B m' l e (by have:=hcj.tail;rw[show k+1+a.size+1=k+a.size+2 by omega] at this;exact this) hr (by simp only[List.length_append,List.length_cons,List.length_nil,hA,hal];omega) (λh=>(hl h).app _)
  simp only[T.rz,T.rq]
  rw[iM,hj,if_neg (by decide)] at ih1
  rw[show k+1+a.size+1=k+a.size+2 by omega] at ih1
  rw[show k+a.size+2+r.size=k+(a.size+r.size+2) by omega] at ih2
  have t1:A++(((k+a.size+1:Nat):Int)::(a.rz (k+1) l++(k:Int)::r.rz (k+a.size+2) l)++B)=A++[((k+a.size+1:Nat):Int)]++(a.rz (k+1) l++((k:Int)::(r.rz (k+a.size+2) l++B))):=by simp
  have t2:A++[((k+a.size+1:Nat):Int)]++(a.rq (k+1) e++((k:Int)::(r.rz (k+a.size+2) l++B)))=A++(((k+a.size+1:Nat):Int)::(a.rq (k+1) e++[(k:Int)]))++(r.rz (k+a.size+2) l++B):=by simp
  rw[t1,ih1,t2,ih2]
  simp
 |.loop i a j r,w,d,k,A,B,m',l,e,hc,hw,hA,hl=>by
  obtain⟨h1,h2,h3,ha,hr⟩:=hw
  simp only[T.flat] at hc
  have hi:aq cd k=29:=by show(cd.getD k default).op=_;rw[hc.head,h1]
  have hcj:=hc.tail.right
  rw[a.flat_length] at hcj
  have hj:aq cd (k+1+a.size)=31:=by show(cd.getD (k+1+a.size) default).op=_;rw[hcj.head,h2]
  have hal:=a.rq_length (k+1) ((k+a.size+1:Nat):Int)
  simp only[T.size]
  rw[show a.size+r.size+2+m'=(a.size+(r.size+m'+1))+1 by omega,iM,hi,if_neg (by decide)]
  have ih1:=cX cd a true (d-1) (k+1) (A++[((k+a.size+1:Nat):Int)]) ((k:Int)::(r.rz (k+a.size+2) l++B)) (r.size+m'+1) k ((k+a.size+1:Nat):Int) hc.tail.left ha (by simp[hA]) (λ_=>⟨by simp[hA],co _ _ _ _ hA⟩)
  have ih2:=cX cd r w d (k+a.size+2) (A++(((k+a.size+1:Nat):Int)::(a.rq (k+1) ((k+a.size+1:Nat):Int)++[(k:Int)]))) B m' l e (by have:=hcj.tail;rw[show k+1+a.size+1=k+a.size+2 by omega] at this;exact this) hr (by simp only[List.length_append,List.length_cons,List.length_nil,hA,hal];omega) (λh=>(hl h).app _)
  simp only[T.rz,T.rq]
  rw[iM,hj,if_neg (by decide)] at ih1
  rw[show k+1+a.size+1=k+a.size+2 by omega] at ih1
  rw[show k+a.size+2+r.size=k+(a.size+r.size+2) by omega] at ih2
  have t1:A++(((k+a.size+1:Nat):Int)::(a.rz (k+1) k++(k:Int)::r.rz (k+a.size+2) l)++B)=A++[((k+a.size+1:Nat):Int)]++(a.rz (k+1) k++((k:Int)::(r.rz (k+a.size+2) l++B))):=by simp
  have t2:A++[((k+a.size+1:Nat):Int)]++(a.rq (k+1) ((k+a.size+1:Nat):Int)++((k:Int)::(r.rz (k+a.size+2) l++B)))=A++(((k+a.size+1:Nat):Int)::(a.rq (k+1) ((k+a.size+1:Nat):Int)++[(k:Int)]))++(r.rz (k+a.size+2) l++B):=by simp
  rw[t1,ih1,t2,ih2]
  simp
 |.ite2 i a x b j r,w,d,k,A,B,m',l,e,hc,hw,hA,hl=>by
  obtain⟨h1,hx,h2,h3,ha,hb,hr⟩:=hw
  simp only[T.flat] at hc
  have hi:aq cd k=27:=by show(cd.getD k default).op=_;rw[hc.head,h1]
  have hcx:=hc.tail.right
  rw[a.flat_length] at hcx
  have hxo:aq cd (k+1+a.size)=28:=by show(cd.getD (k+1+a.size) default).op=_;rw[hcx.head,hx]
  have hcj:=hcx.tail.right
  rw[b.flat_length] at hcj
  have hj:aq cd (k+1+a.size+1+b.size)=31:=by show(cd.getD (k+1+a.size+1+b.size) default).op=_;rw[hcj.head,h2]
  have hal:=a.rq_length (k+1) e
  have hbl:=b.rq_length (k+1+a.size+1) e
  have r1:k+a.size+1=k+1+a.size:=by omega
  have r2:k+a.size+b.size+2=k+1+a.size+1+b.size:=by omega
  have r3:k+a.size+2=k+1+a.size+1:=by omega
  have r4:k+a.size+b.size+3=k+1+a.size+1+b.size+1:=by omega
  simp only[T.size,T.rz,T.rq]
  rw[r1,r2,r3,r4]
  rw[show a.size+b.size+r.size+3+m'=(a.size+(b.size+(r.size+m'+1)+1))+1 by omega,iM,hi,if_neg (by decide)]
  obtain⟨R,hR⟩:∃R,R=r.rz (k+1+a.size+1+b.size+1) l++B:=⟨_,rfl⟩
  have ih1:=cX cd a w (d-1) (k+1) (A++[((k+1+a.size:Nat):Int)]) (((k+1+a.size+1+b.size:Nat):Int)::(b.rz (k+1+a.size+1) l++(k:Int)::R)) (b.size+(r.size+m'+1)+1) l e hc.tail.left ha (by simp[hA]) (λh=>(hl h).app _)
  rw[iM,hxo,if_neg (by decide)] at ih1
  have ih2:=cX cd b w (d-1) (k+1+a.size+1) (A++(((k+1+a.size:Nat):Int)::(a.rq (k+1) e++[((k+1+a.size+1+b.size:Nat):Int)]))) ((k:Int)::R) (r.size+m'+1) l e hcx.tail.left hb (by simp only[List.length_append,List.length_cons,List.length_nil,hA,hal];omega) (λh=>(hl h).app _)
  rw[iM,hj,if_neg (by decide)] at ih2
  have ih3:=cX cd r w d (k+1+a.size+1+b.size+1) (A++(((k+1+a.size:Nat):Int)::(a.rq (k+1) e++(((k+1+a.size+1+b.size:Nat):Int)::(b.rq (k+1+a.size+1) e++[(k:Int)]))))) B m' l e hcj.tail hr (by simp[hA,hal,hbl];omega) (λh=>(hl h).app _)
  rw[<-hR] at ih3
  have t1:A++(((k+1+a.size:Nat):Int)::(a.rz (k+1) l++((k+1+a.size+1+b.size:Nat):Int)::(b.rz (k+1+a.size+1) l++(k:Int)::r.rz (k+1+a.size+1+b.size+1) l))++B)=A++[((k+1+a.size:Nat):Int)]++(a.rz (k+1) l++(((k+1+a.size+1+b.size:Nat):Int)::(b.rz (k+1+a.size+1) l++(k:Int)::R))):=by rw[hR];simp
  have t2:A++[((k+1+a.size:Nat):Int)]++(a.rq (k+1) e++(((k+1+a.size+1+b.size:Nat):Int)::(b.rz (k+1+a.size+1) l++(k:Int)::R)))=A++(((k+1+a.size:Nat):Int)::(a.rq (k+1) e++[((k+1+a.size+1+b.size:Nat):Int)]))++(b.rz (k+1+a.size+1) l++((k:Int)::R)):=by simp
  have t3:A++(((k+1+a.size:Nat):Int)::(a.rq (k+1) e++[((k+1+a.size+1+b.size:Nat):Int)]))++(b.rq (k+1+a.size+1) e++((k:Int)::R))=A++(((k+1+a.size:Nat):Int)::(a.rq (k+1) e++(((k+1+a.size+1+b.size:Nat):Int)::(b.rq (k+1+a.size+1) e++[(k:Int)]))))++R:=by simp
  rw[t1,ih1,t2,ih2,t3,ih3,show k+(a.size+b.size+r.size+3)=k+1+a.size+1+b.size+1+r.size by omega]
  simp
theorem rR{cs:List In}{t:T}(ht:cs.map bq=t.flat)(hw:t.wf false 8):oC cs=some (t.rq 0 0):=by
 have hl:cs.length=t.size:=by rw[<-t.flat_length,<-ht,List.length_map]
 unfold oC
 have h1:=tB cs cs.length 0 ⟨List.replicate cs.length 0,[],[]⟩ (by omega)
 rw[List.drop_zero] at h1
 rw[h1,ht]
 have h2:=cQ t.flat t false 8 0 [] 0 0 [] [] (λj hj=>by simp) hw rfl (λh=>by cases h)
 simp only[List.nil_append,Nat.add_zero,Nat.zero_add,List.headD_nil,List.replicate_zero,List.append_nil] at h2
 rw[hl,h2,je]
 simp only[Option.bind_some]
 have h3:=oJ cs cs.length 0 (t.rz 0 0) (by omega)
 rw[List.drop_zero] at h3
 rw[h3,ht,hl]
 have h4:=cX t.flat t false 8 0 [] [] 0 0 0 (λj hj=>by simp) hw rfl (λh=>by cases h)
 simp only[List.nil_append,Nat.add_zero,Nat.zero_add,List.append_nil] at h4
 rw[h4,iM]
def eqB(n:Nat)(f g:Nat->Bool):Bool:=(List.range n).all λr=>f r==g r
def O7(cs:List In)(pt:List Int)(i:Nat):List Int:=
 if(cs.getD i (0,0,0,0,0)).1=28 then[pt.getD i 0+1]
 else if(cs.getD i (0,0,0,0,0)).1=27\/(cs.getD i (0,0,0,0,0)).1=29\/(cs.getD i (0,0,0,0,0)).1=30\/((cs.getD i (0,0,0,0,0)).1=31/\(cs.getD (pt.getD i 0).toNat (0,0,0,0,0)).1=29) then[(i:Int)+1,pt.getD i 0+1]
 else[(i:Int)+1]
end Go.Proofs.Yteopfmnnhlhbmaa