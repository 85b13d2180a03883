/- A part of the proof of CostCompares: CsC CsF CsD CsE. No condition. -/
import Derived.Test.YthehakngpbjgjaaGreatGa19
import Derived.Test.YthehakngpbjgjaaGreatGa20
set_option linter.unusedSimpArgs false
set_option linter.unusedVariables false
set_option linter.constructorNameAsVariable false
set_option maxRecDepth 100000
set_option maxHeartbeats 4000000
namespace Go.Proofs.YthehakngpbjgjaaGreat
open Go.RowKit
theorem ch:Tryz.prog.follows .mixedOrders=true:=by kernel_rfl
theorem aV{n:Nat}{hints:aY}{ac:AC}{e:Tr AV}{H:AH}{Q:AE->Tr AV->AH->Prop}(h:GS Tryz.prog n hints ac e H Q)(hg:Qj ac=true:=by rfl):GA Tryz.prog n hints ac e H Q:=GA.go ch hg h
theorem fS{x:AB}{n m esz:Nat}{row:Nat->Nat->AV}{i j:Nat}(hj:j<esz)(hi:i<n+m)(hn:(n+m)*esz<2^40):(x.app (n*esz) (.fn (m*esz) λi=>row (i / esz) (i%esz))).get (i*esz+j)=if n<=i then row (i-n) j else x.get (i*esz+j):=by
 have h0:0<esz:=by omega
 have h1:i*esz+j<n*esz+m*esz:=by
  rw[<-Nat.add_mul];exact bO hi hj
 rw[AB.app_get _ _ _ _ (by simp only[bf.len];rw[<-Nat.add_mul];omega) h1]
 by_cases h:n<=i
 ·have h2:n*esz<=i*esz:=Nat.mul_le_mul_right esz h
  rw[if_pos (by omega),if_pos h]
  show row ((i*esz+j-n*esz) / esz) ((i*esz+j-n*esz)%esz)=_
  have e:i*esz+j-n*esz=j+esz*(i-n):=by
   rw[Nat.mul_comm esz,Nat.sub_mul];omega
  rw[e,Nat.add_mul_div_left _ _ h0,Nat.div_eq_of_lt hj,Nat.zero_add,Nat.add_mul_mod_self_left,Nat.mod_eq_of_lt hj]
 ·have h2:(i+1)*esz<=n*esz:=Nat.mul_le_mul_right esz (by omega)
  rw[Nat.succ_mul] at h2
  rw[if_neg (by omega),if_neg h]
theorem fK{x:AB}{n esz:Nat}{row:Nat->Nat->AV}{i j:Nat}(hi:i<n)(hj:j<esz)(hn:n*esz<2^40):(x.app 0 (.fn (n*esz) λi=>row (i / esz) (i%esz))).get (i*esz+j)=row i j:=by
 have:=fS (x:=x) (n:=0) (m:=n) (row:=row) hj (i:=i) (by omega) (by rwa [Nat.zero_add])
 rw[Nat.zero_mul,if_pos (Nat.zero_le _)] at this
 exact this
theorem fN{n:Nat}{row:Nat->Nat->AV}(hn:n<1000000)(hc:∀i j,i<n->j<1->(row i j).cell=true):
  dz Tryz.prog 78 [.fs 1 n row] [.o 5 1 n 0 row]:=by
 refine az ch pp ⟨by simp,by decide⟩ ?_
 simp only[bI]
 have hl1:n*1<1099511627776:=by omega
 have hl2:n*1<=140737488355328:=by omega
 have hl3:n<=9223372036854775807:=by omega
 try simp only[Nat.mul_one] at hl1 hl2
 repeat first|with_reducible refine aV ?_|simp only[go_sem,simprocAttr]
 intro t ht
 cases t
 ·repeat first|with_reducible refine aV ?_|simp only[hl1,hl2,hl3,decide_true,go_sem,simprocAttr]
  refine⟨[_],rfl,.o (x:=_) (by simp only[go_sem,simprocAttr];rfl) (by rfl) (by rfl) (by rfl) (by decide) (by simp only[go_sem,simprocAttr]<;>omega) (Nat.le_refl _) (λi j hi hj=>?_) hc rfl .nil⟩
  exact fK hi hj (by omega)
 ·obtain rfl:=ht rfl
  repeat first|with_reducible refine aV ?_|simp only[go_sem,simprocAttr]
  exact⟨[_],rfl,.o0 rfl .nil⟩
theorem fM{n:Nat}{row:Nat->Nat->AV}(hn:n<1000000)(hc:∀i j,i<n->j<2->(row i j).cell=true):
  dz Tryz.prog 69 [.fs 2 n row] [.o 123 2 n 0 row]:=by
 refine az ch oO ⟨by simp,by decide⟩ ?_
 simp only[bI]
 have hl1:n*2<1099511627776:=by omega
 have hl2:n*16<=140737488355328:=by omega
 have hl3:n<=9223372036854775807:=by omega
 try simp only[Nat.mul_one] at hl1 hl2
 repeat first|with_reducible refine aV ?_|simp only[go_sem,simprocAttr]
 intro t ht
 cases t
 ·repeat first|with_reducible refine aV ?_|simp only[hl1,hl2,hl3,decide_true,go_sem,simprocAttr]
  refine⟨[_],rfl,.o (x:=_) (by simp only[go_sem,simprocAttr];rfl) (by rfl) (by rfl) (by rfl) (by decide) (by simp only[go_sem,simprocAttr]<;>omega) (Nat.le_refl _) (λi j hi hj=>?_) hc rfl .nil⟩
  exact fK hi hj (by omega)
 ·obtain rfl:=ht rfl
  repeat first|with_reducible refine aV ?_|simp only[go_sem,simprocAttr]
  exact⟨[_],rfl,.o0 rfl .nil⟩
theorem fL{n:Nat}{row:Nat->Nat->AV}(hn:n<1000000)(hc:∀i j,i<n->j<3->(row i j).cell=true):
  dz Tryz.prog 107 [.fs 3 n row] [.o 178 3 n 0 row]:=by
 refine az ch oM ⟨by simp,by decide⟩ ?_
 simp only[bI]
 have hl1:n*3<1099511627776:=by omega
 have hl2:n*24<=140737488355328:=by omega
 have hl3:n<=9223372036854775807:=by omega
 try simp only[Nat.mul_one] at hl1 hl2
 repeat first|with_reducible refine aV ?_|simp only[go_sem,simprocAttr]
 intro t ht
 cases t
 ·repeat first|with_reducible refine aV ?_|simp only[hl1,hl2,hl3,decide_true,go_sem,simprocAttr]
  refine⟨[_],rfl,.o (x:=_) (by simp only[go_sem,simprocAttr];rfl) (by rfl) (by rfl) (by rfl) (by decide) (by simp only[go_sem,simprocAttr]<;>omega) (Nat.le_refl _) (λi j hi hj=>?_) hc rfl .nil⟩
  exact fK hi hj (by omega)
 ·obtain rfl:=ht rfl
  repeat first|with_reducible refine aV ?_|simp only[go_sem,simprocAttr]
  exact⟨[_],rfl,.o0 rfl .nil⟩
def dZ:AV->Bool
 |.sl0=>true
 |.os _ 0=>true
 |.fs _ 0 _=>true
 |_=>false
theorem gQ{a:AV}(h:dZ a=true)(E:Nat)(row:Nat->Nat->AV){σ:Sg}{u:Value}(hu:VR σ a u):VR σ (.fs E 0 row) u:=by
 cases hu<;>first
  |(cases h;done)
  |exact .fs0 _ _ _ _
  |(unfold dZ at h;split at h<;>first|(cases h;done)|(rename_i heq;cases heq<;>exact .fs0 _ _ _ _))
def BA(g:FuncId)(rs:List RT):av:=λf args H=>bif Nat.beq f g&&decide (H.next<2^39) then(match args with
   |[a]=>bif dZ a then some (aF (aN (aA H []) rs).1,(aN (aA H []) rs).2) else none
   |_=>none) else none
theorem fm{P:Program}{g:FuncId}{E:Nat}{row:Nat->Nat->AV}{rs:List RT}(h:dz P g [.fs E 0 row] rs)(hp:(AV.fs E 0 row).pu 3=true)(B:Nat):au P B (BA g rs):=by
 have key:∀{f:FuncId} {args:List AV} {H H':AH} {v:AV},BA g rs f args H=some (v,H')->f=g/\cH P g args H λv1 H1=>v1=v/\H1=H':=by
  intro f args H H' v hr
  unfold BA at hr
  cases hc:Nat.beq f g&&decide (H.next<2^39) with
  |false=>rw[hc] at hr;cases hr
  |true=>
   rw[hc] at hr
   simp only[Bool.and_eq_true,decide_eq_true_eq] at hc
   have hf:=Nat.eq_of_beq_eq_true hc.1
   simp only[cond_true] at hr
   split at hr
   ·rename_i a
    cases hn:dZ a with
    |false=>rw[hn] at hr;cases hr
    |true=>
     rw[hn] at hr
     simp only[cond_true,Option.some.injEq,Prod.mk.injEq] at hr
     have h1:cH P g [.fs E 0 row] H λv1 H1=>v1=v/\H1=H':=ao [] (bK.same (by simp only[List.all_cons,List.all_nil,Bool.and_true];exact hp)) h (by omega) hr
     refine⟨hf,h1.1,λB σ w args' hH ha=>h1.2 B σ w args' hH ?_⟩
     match args',ha with
     |⟨[u]⟩,ha=>exact aq.nil.cons (gQ hn E row (ha.2 0 _ rfl))
     |⟨[]⟩,ha=>exact absurd ha.1 (by simp)
     |⟨_::_::_⟩,ha=>exact absurd ha.1 (by simp)
   ·cases hr
 refine⟨λhr=>?_,λhr σ w args' hH ha=>?_⟩
 ·obtain⟨rfl,h1⟩:=key hr
  exact h1.1
 ·obtain⟨rfl,h1⟩:=key hr
  refine(h1.2 B σ w args' hH ha).mono λe w' hp=>?_
  cases e with
  |panicked c=>exact hp.elim
  |outgrown=>exact hp.elim
  |returned u=>
   obtain⟨v1,H1,σ',⟨rfl,rfl⟩,q1,q2,q3,_⟩:=hp
   exact⟨σ',q1,q2,q3⟩
def gH:Nat->Nat->AV:=λ_ _=> .u
def xcl:av:=Au (BA 78 [.o 5 1 0 0 gH]) (Au (BA 69 [.o 123 2 0 0 gH]) (BA 107 [.o 178 3 0 0 gH]))
theorem qi(B:Nat):au Tryz.prog B xcl:=
 dY (fm (row:=gH) (fN (by decide) (λi j hi=>absurd hi (Nat.not_lt_zero _))) rfl B) (dY (fm (row:=gH) (fM (by decide) (λi j hi=>absurd hi (Nat.not_lt_zero _))) rfl B) (fm (row:=gH) (fL (by decide) (λi j hi=>absurd hi (Nat.not_lt_zero _))) rfl B))
def bE(a:Int):Bool:=decide (0<=a)&&decide (a<=281474976710656)
theorem aR(a:Int):dz Tryz.prog 28 [.n .i64 a] [.v (.b (bE a))]:=by
 refine az ch oJ ⟨by simp,by decide⟩ ?_
 simp only[bI]
 by_cases h:0<=a
 ·repeat first|with_reducible refine aV ?_|simp only[h,ge_iff_le,decide_true,go_sem,simprocAttr]
  exact am (by simp[bE,h]) rfl
 ·repeat first|with_reducible refine aV ?_|simp only[h,ge_iff_le,decide_false,go_sem,simprocAttr]
  exact am (by simp[bE];omega) rfl
def b6(a b:Int):Int:=if bE a=true/\bE b=true/\bE (IntKind.i64.wrap (a+b))=true then IntKind.i64.wrap (a+b) else 281474976710656
theorem f8(a b:Int):dz Tryz.prog 26 [.n .i64 a,.n .i64 b] [.v (.n .i64 (b6 a b))]:=by
 refine az ch oK ⟨by simp,by decide⟩ ?_
 simp only[bI]
 repeat first|with_reducible refine aV ?_|simp only[go_sem,simprocAttr]
 refine ao [] (fargs:=[.n .i64 a]) (bK.same rfl) (aR a) (by decide) ?_
 cases h1:bE a
 ·repeat first|with_reducible refine aV ?_|simp only[h1,go_sem,simprocAttr]
  exact am (by simp[b6,h1]) rfl
 ·repeat first|with_reducible refine aV ?_|simp only[h1,go_sem,simprocAttr]
  refine ao [] (fargs:=[.n .i64 b]) (bK.same rfl) (aR b) (by decide) ?_
  cases h2:bE b
  ·repeat first|with_reducible refine aV ?_|simp only[h2,go_sem,simprocAttr]
   exact am (by simp[b6,h1,h2]) rfl
  ·repeat first|with_reducible refine aV ?_|simp only[h2,go_sem,simprocAttr]
   refine ao [] (fargs:=[.n .i64 (IntKind.i64.wrap (a+b))]) (bK.same rfl) (aR _) (by decide) ?_
   cases h3:bE (IntKind.i64.wrap (a+b))
   ·repeat first|with_reducible refine aV ?_|simp only[h3,go_sem,simprocAttr]
    exact am (by simp[b6,h1,h2,h3]) rfl
   ·repeat first|with_reducible refine aV ?_|simp only[h3,go_sem,simprocAttr]
    exact am (by simp[b6,h1,h2,h3]) rfl
def aK(m n:Int):AV:= .agg [.n .i64 m,.n .i64 n]
theorem oA(m n m2 n2:Int):dz Tryz.prog 11 [aK m n,aK m2 n2] [.v (aK (b6 m m2) (b6 n n2))]:=by
 refine az ch oL ⟨by simp,by decide⟩ ?_
 simp only[bI,aK]
 repeat first|with_reducible refine aV ?_|simp only[go_sem,simprocAttr]
 refine ao [] (fargs:=[.n .i64 m,.n .i64 m2]) (bK.same rfl) (f8 m m2) (by first|decide|(simp only[go_sem,simprocAttr]<;>decide)) ?_
 repeat first|with_reducible refine aV ?_|simp only[go_sem,simprocAttr]
 refine ao [] (fargs:=[.n .i64 n,.n .i64 n2]) (bK.same rfl) (f8 n n2) (by first|decide|(simp only[go_sem,simprocAttr]<;>decide)) ?_
 repeat first|with_reducible refine aV ?_|simp only[go_sem,simprocAttr]
 exact am rfl rfl
def cY(m n m2 n2:Int):Bool:=bE m&&bE n&&bE m2&&bE n2&&decide (m<=m2)&&decide (n<=n2)
theorem kb(m n m2 n2:Int):dz Tryz.prog 13 [aK m n,aK m2 n2] [.v (.b (cY m n m2 n2))]:=by
 refine az ch oI ⟨by simp,by decide⟩ ?_
 simp only[bI,aK]
 repeat first|with_reducible refine aV ?_|simp only[go_sem,simprocAttr]
 refine ao [] (fargs:=[.n .i64 m]) (bK.same rfl) (aR m) (by first|decide|(simp only[go_sem,simprocAttr]<;>decide)) ?_
 cases h1:bE m
 ·repeat first|with_reducible refine aV ?_|simp only[h1,go_sem,simprocAttr]
  exact am (by simp[cY,h1]) rfl
 repeat first|with_reducible refine aV ?_|simp only[h1,go_sem,simprocAttr]
 refine ao [] (fargs:=[.n .i64 n]) (bK.same rfl) (aR n) (by first|decide|(simp only[go_sem,simprocAttr]<;>decide)) ?_
 cases h2:bE n
 ·repeat first|with_reducible refine aV ?_|simp only[h2,go_sem,simprocAttr]
  exact am (by simp[cY,h1,h2]) rfl
 repeat first|with_reducible refine aV ?_|simp only[h2,go_sem,simprocAttr]
 refine ao [] (fargs:=[.n .i64 m2]) (bK.same rfl) (aR m2) (by first|decide|(simp only[go_sem,simprocAttr]<;>decide)) ?_
 cases h3:bE m2
 ·repeat first|with_reducible refine aV ?_|simp only[h3,go_sem,simprocAttr]
  exact am (by simp[cY,h1,h2,h3]) rfl
 repeat first|with_reducible refine aV ?_|simp only[h3,go_sem,simprocAttr]
 refine ao [] (fargs:=[.n .i64 n2]) (bK.same rfl) (aR n2) (by first|decide|(simp only[go_sem,simprocAttr]<;>decide)) ?_
 cases h4:bE n2
 ·repeat first|with_reducible refine aV ?_|simp only[h4,go_sem,simprocAttr]
  exact am (by simp[cY,h1,h2,h3,h4]) rfl
 by_cases h5:m<=m2
 ·repeat first|with_reducible refine aV ?_|simp only[h4,h5,decide_true,go_sem,simprocAttr]
  exact am (by simp[cY,h1,h2,h3,h4,h5]) rfl
 ·repeat first|with_reducible refine aV ?_|simp only[h4,h5,decide_false,go_sem,simprocAttr]
  exact am (by simp[cY,h1,h2,h3,h4,h5]) rfl
def qb(C:av)(g:FuncId)(xs:List AV):Option AV:=match C g xs ⟨.nil,0,2^40,λ_=>none,[]⟩ with
 |some (v,_)=>bif v.sc 3 then some v else none
 |none=>none
def gi(C:av)(g:FuncId)(k:Int):List Nat->Option AV
 |[]=>none
 |n::l=>match decide (k=(n:Int)) with
  |true=>qb C g [.n .i64 (n:Int)]
  |false=>gi C g k l
def fZ(C:av)(g:FuncId)(l:List Nat):av:=λf args H=>bif Nat.beq f g&&decide (H.next<2^39) then(match args with
  |[.n .i64 k]=>match gi C g k l with
   |some v=>some (aF (aN (aA H []) [.v v]).1,(aN (aA H []) [.v v]).2)
   |none=>none
  |_=>none) else none
theorem dK{P:Program}{C:av}(hC:∀B,au P B C){g:FuncId}{k:Int}{v:AV}:∀{l:List Nat},gi C g k l=some v->dz P g [.n .i64 k] [.v v]
 |[],h=>by cases h
 |n::l,h=>by
  unfold gi at h
  split at h
  ·rename_i hk
   have hk:=of_decide_eq_true hk
   subst hk
   unfold qb at h
   split at h
   ·rename_i v' H' hr
    cases hs:v'.sc 3 with
    |false=>rw[hs] at h;cases h
    |true=>
     rw[hs] at h
     cases h
     exact gq hC hr hs
   ·cases h
  ·exact dK hC h
theorem iW{P:Program}{C:av}(hC:∀B,au P B C)(g:FuncId)(l:List Nat)(B:Nat):au P B (fZ C g l):=by
 have key:∀{f:FuncId} {args:List AV} {H H':AH} {v:AV},fZ C g l f args H=some (v,H')->f=g/\cH P g args H λv1 H1=>v1=v/\H1=H':=by
  intro f args H H' v hr
  unfold fZ at hr
  cases hc:Nat.beq f g&&decide (H.next<2^39) with
  |false=>rw[hc] at hr;cases hr
  |true=>
   rw[hc] at hr
   simp only[Bool.and_eq_true,decide_eq_true_eq] at hc
   have hf:=Nat.eq_of_beq_eq_true hc.1
   simp only[cond_true] at hr
   split at hr
   ·rename_i k
    split at hr
    ·rename_i v0 hv
     simp only[Option.some.injEq,Prod.mk.injEq] at hr
     exact⟨hf,ao [] (bK.same rfl) (dK hC hv) (by omega) hr⟩
    ·cases hr
   ·cases hr
 refine⟨λhr=>?_,λhr σ w args' hH ha=>?_⟩
 ·obtain⟨rfl,h1⟩:=key hr
  exact h1.1
 ·obtain⟨rfl,h1⟩:=key hr
  refine(h1.2 B σ w args' hH ha).mono λe w' hp=>?_
  cases e with
  |panicked c=>exact hp.elim
  |outgrown=>exact hp.elim
  |returned u=>
   obtain⟨v1,H1,σ',⟨rfl,rfl⟩,q1,q2,q3,_⟩:=hp
   exact⟨σ',q1,q2,q3⟩
noncomputable def xkn:av:=Au (fZ (i7 OO.get 3000 20) 50 [0,29,1,6,31]) xcl
theorem qh(B:Nat):au Tryz.prog B xkn:=dY (iW (λB=>gb B ch kt 3000 20) _ _ B) (qi B)
noncomputable def kD:Bool:=match Ao xkn OO.get 3000 60 8 [] ⟨.nil,0,2^40,λ_=>none,[]⟩ with
 |some (.b true,_)=>true
 |_=>false
theorem iB:kD=true:=by kernel_rfl
theorem eX:dz Tryz.prog 8 [] [.v (.b true)]:=by
 have h:=iB
 unfold kD at h
 split at h
 ·rename_i H' hr
  exact gq (λB=>ga B ch kt 3000 (qh B) 60) hr rfl
 ·cases h
end Go.Proofs.YthehakngpbjgjaaGreat