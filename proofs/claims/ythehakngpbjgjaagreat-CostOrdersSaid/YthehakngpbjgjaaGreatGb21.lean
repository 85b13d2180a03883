/- A part of the proof of CostOrders: CsC CsF CsD CsE. No condition. -/
import Derived.Test.YthehakngpbjgjaaGreatGb19
import Derived.Test.YthehakngpbjgjaaGreatGb20
set_option linter.unusedSimpArgs false
set_option linter.unusedVariables false
set_option linter.constructorNameAsVariable false
set_option maxRecDepth 100000
set_option maxHeartbeats 4000000
namespace Go.Proofs.YthehakngpbjgjaaGreat
open Go.RowKit
theorem dm:Tryz.prog.follows .mixedOrders=true:=by kernel_rfl
theorem aZ{n:Nat}{hints:aX}{ac:AC}{e:Tr AV}{H:AH}{Q:AE->Tr AV->AH->Prop}(h:GS Tryz.prog n hints ac e H Q)(hg:QI ac=true:=by rfl):GA Tryz.prog n hints ac e H Q:=GA.go dm hg h
theorem fZ{x:AB}{n m esz:Nat}{row:Nat->Nat->AV}{i j:Nat}(hj:j<esz)(hi:i<n+m)(hn:(n+m)*esz<2^40):(x.app (n*esz) (.fn (m*esz) λi=>row (i / esz) (i%esz))).get (i*esz+j)=if n<=i then row (i-n) j else x.get (i*esz+j):=by
 have h0:0<esz:=by omega
 have h1:i*esz+j<n*esz+m*esz:=by
  rw[<-Nat.add_mul];exact bN hi hj
 rw[AB.app_get _ _ _ _ (by simp only[bg.len];rw[<-Nat.add_mul];omega) h1]
 by_cases h:n<=i
 ·have h2:n*esz<=i*esz:=Nat.mul_le_mul_right esz h
  rw[if_pos (by omega),if_pos h]
  show row ((i*esz+j-n*esz) / esz) ((i*esz+j-n*esz)%esz)=_
  have e:i*esz+j-n*esz=j+esz*(i-n):=by
   rw[Nat.mul_comm esz,Nat.sub_mul];omega
  rw[e,Nat.add_mul_div_left _ _ h0,Nat.div_eq_of_lt hj,Nat.zero_add,Nat.add_mul_mod_self_left,Nat.mod_eq_of_lt hj]
 ·have h2:(i+1)*esz<=n*esz:=Nat.mul_le_mul_right esz (by omega)
  rw[Nat.succ_mul] at h2
  rw[if_neg (by omega),if_neg h]
theorem fR{x:AB}{n esz:Nat}{row:Nat->Nat->AV}{i j:Nat}(hi:i<n)(hj:j<esz)(hn:n*esz<2^40):(x.app 0 (.fn (n*esz) λi=>row (i / esz) (i%esz))).get (i*esz+j)=row i j:=by
 have:=fZ (x:=x) (n:=0) (m:=n) (row:=row) hj (i:=i) (by omega) (by rwa [Nat.zero_add])
 rw[Nat.zero_mul,if_pos (Nat.zero_le _)] at this
 exact this
theorem fU{n:Nat}{row:Nat->Nat->AV}(hn:n<1000000)(hc:∀i j,i<n->j<1->(row i j).cell=true):
  ez Tryz.prog 78 [.fs 1 n row] [.o 5 1 n 0 row]:=by
 refine aV dm pJ ⟨by simp,by decide⟩ ?_
 simp only[cE]
 have hl1:n*1<1099511627776:=by omega
 have hl2:n*1<=140737488355328:=by omega
 have hl3:n<=9223372036854775807:=by omega
 try simp only[Nat.mul_one] at hl1 hl2
 repeat first|with_reducible refine aZ ?_|simp only[go_sem,simprocAttr]
 intro t ht
 cases t
 ·repeat first|with_reducible refine aZ ?_|simp only[hl1,hl2,hl3,decide_true,go_sem,simprocAttr]
  refine⟨[_],rfl,.o (x:=_) (by simp only[go_sem,simprocAttr];rfl) (by rfl) (by rfl) (by rfl) (by decide) (by simp only[go_sem,simprocAttr]<;>omega) (Nat.le_refl _) (λi j hi hj=>?_) hc rfl .nil⟩
  exact fR hi hj (by omega)
 ·obtain rfl:=ht rfl
  repeat first|with_reducible refine aZ ?_|simp only[go_sem,simprocAttr]
  exact⟨[_],rfl,.o0 rfl .nil⟩
theorem fT{n:Nat}{row:Nat->Nat->AV}(hn:n<1000000)(hc:∀i j,i<n->j<2->(row i j).cell=true):
  ez Tryz.prog 69 [.fs 2 n row] [.o 123 2 n 0 row]:=by
 refine aV dm pc ⟨by simp,by decide⟩ ?_
 simp only[cE]
 have hl1:n*2<1099511627776:=by omega
 have hl2:n*16<=140737488355328:=by omega
 have hl3:n<=9223372036854775807:=by omega
 try simp only[Nat.mul_one] at hl1 hl2
 repeat first|with_reducible refine aZ ?_|simp only[go_sem,simprocAttr]
 intro t ht
 cases t
 ·repeat first|with_reducible refine aZ ?_|simp only[hl1,hl2,hl3,decide_true,go_sem,simprocAttr]
  refine⟨[_],rfl,.o (x:=_) (by simp only[go_sem,simprocAttr];rfl) (by rfl) (by rfl) (by rfl) (by decide) (by simp only[go_sem,simprocAttr]<;>omega) (Nat.le_refl _) (λi j hi hj=>?_) hc rfl .nil⟩
  exact fR hi hj (by omega)
 ·obtain rfl:=ht rfl
  repeat first|with_reducible refine aZ ?_|simp only[go_sem,simprocAttr]
  exact⟨[_],rfl,.o0 rfl .nil⟩
theorem fS{n:Nat}{row:Nat->Nat->AV}(hn:n<1000000)(hc:∀i j,i<n->j<3->(row i j).cell=true):
  ez Tryz.prog 107 [.fs 3 n row] [.o 178 3 n 0 row]:=by
 refine aV dm pb ⟨by simp,by decide⟩ ?_
 simp only[cE]
 have hl1:n*3<1099511627776:=by omega
 have hl2:n*24<=140737488355328:=by omega
 have hl3:n<=9223372036854775807:=by omega
 try simp only[Nat.mul_one] at hl1 hl2
 repeat first|with_reducible refine aZ ?_|simp only[go_sem,simprocAttr]
 intro t ht
 cases t
 ·repeat first|with_reducible refine aZ ?_|simp only[hl1,hl2,hl3,decide_true,go_sem,simprocAttr]
  refine⟨[_],rfl,.o (x:=_) (by simp only[go_sem,simprocAttr];rfl) (by rfl) (by rfl) (by rfl) (by decide) (by simp only[go_sem,simprocAttr]<;>omega) (Nat.le_refl _) (λi j hi hj=>?_) hc rfl .nil⟩
  exact fR hi hj (by omega)
 ·obtain rfl:=ht rfl
  repeat first|with_reducible refine aZ ?_|simp only[go_sem,simprocAttr]
  exact⟨[_],rfl,.o0 rfl .nil⟩
def d8:AV->Bool
 |.sl0=>true
 |.os _ 0=>true
 |.fs _ 0 _=>true
 |_=>false
theorem hU{a:AV}(h:d8 a=true)(E:Nat)(row:Nat->Nat->AV){σ:Sg}{u:Value}(hu:VR σ a u):VR σ (.fs E 0 row) u:=by
 cases hu<;>first
  |(cases h;done)
  |exact .fs0 _ _ _ _
  |(unfold d8 at h;split at h<;>first|(cases h;done)|(rename_i heq;cases heq<;>exact .fs0 _ _ _ _))
def BX(g:FuncId)(rs:List RT):au:=λf args H=>bif Nat.beq f g&&decide (H.next<2^39) then(match args with
   |[a]=>bif d8 a then some (aE (aL (az H []) rs).1,(aL (az H []) rs).2) else none
   |_=>none) else none
theorem fy{P:Program}{g:FuncId}{E:Nat}{row:Nat->Nat->AV}{rs:List RT}(h:ez P g [.fs E 0 row] rs)(hp:(AV.fs E 0 row).pu 3=true)(B:Nat):ar P B (BX g rs):=by
 have key:∀{f:FuncId} {args:List AV} {H H':AH} {v:AV},BX g rs f args H=some (v,H')->f=g/\cI P g args H λv1 H1=>v1=v/\H1=H':=by
  intro f args H H' v hr
  unfold BX at hr
  cases hc:Nat.beq f g&&decide (H.next<2^39) with
  |false=>rw[hc] at hr;cases hr
  |true=>
   rw[hc] at hr
   simp only[Bool.and_eq_true,decide_eq_true_eq] at hc
   have hf:=Nat.eq_of_beq_eq_true hc.1
   simp only[cond_true] at hr
   split at hr
   ·rename_i a
    cases hn:d8 a with
    |false=>rw[hn] at hr;cases hr
    |true=>
     rw[hn] at hr
     simp only[cond_true,Option.some.injEq,Prod.mk.injEq] at hr
     have h1:cI P g [.fs E 0 row] H λv1 H1=>v1=v/\H1=H':=aj [] (bA.same (by simp only[List.all_cons,List.all_nil,Bool.and_true];exact hp)) h (by omega) hr
     refine⟨hf,h1.1,λB σ w args' hH ha=>h1.2 B σ w args' hH ?_⟩
     match args',ha with
     |⟨[u]⟩,ha=>exact ao.nil.cons (hU hn E row (ha.2 0 _ rfl))
     |⟨[]⟩,ha=>exact absurd ha.1 (by simp)
     |⟨_::_::_⟩,ha=>exact absurd ha.1 (by simp)
   ·cases hr
 refine⟨λhr=>?_,λhr σ w args' hH ha=>?_⟩
 ·obtain⟨rfl,h1⟩:=key hr
  exact h1.1
 ·obtain⟨rfl,h1⟩:=key hr
  refine(h1.2 B σ w args' hH ha).mono λe w' hp=>?_
  cases e with
  |panicked c=>exact hp.elim
  |outgrown=>exact hp.elim
  |returned u=>
   obtain⟨v1,H1,σ',⟨rfl,rfl⟩,q1,q2,q3,_⟩:=hp
   exact⟨σ',q1,q2,q3⟩
def gZ:Nat->Nat->AV:=λ_ _=> .u
def xcl:au:=A0 (BX 78 [.o 5 1 0 0 gZ]) (A0 (BX 69 [.o 123 2 0 0 gZ]) (BX 107 [.o 178 3 0 0 gZ]))
theorem qx(B:Nat):ar Tryz.prog B xcl:=
 dZ (fy (row:=gZ) (fU (by decide) (λi j hi=>absurd hi (Nat.not_lt_zero _))) rfl B) (dZ (fy (row:=gZ) (fT (by decide) (λi j hi=>absurd hi (Nat.not_lt_zero _))) rfl B) (fy (row:=gZ) (fS (by decide) (λi j hi=>absurd hi (Nat.not_lt_zero _))) rfl B))
def ed(a:Int):Bool:=decide (0<=a)&&decide (a<=281474976710656)
theorem aP(a:Int):ez Tryz.prog 28 [.n .i64 a] [.v (.b (ed a))]:=by
 refine aV dm o7 ⟨by simp,by decide⟩ ?_
 simp only[cE]
 by_cases h:0<=a
 ·repeat first|with_reducible refine aZ ?_|simp only[h,ge_iff_le,decide_true,go_sem,simprocAttr]
  exact aw (by simp[ed,h]) rfl
 ·repeat first|with_reducible refine aZ ?_|simp only[h,ge_iff_le,decide_false,go_sem,simprocAttr]
  exact aw (by simp[ed];omega) rfl
def dT(a b:Int):Int:=if ed a=true/\ed b=true/\ed (IntKind.i64.wrap (a+b))=true then IntKind.i64.wrap (a+b) else 281474976710656
theorem gl(a b:Int):ez Tryz.prog 26 [.n .i64 a,.n .i64 b] [.v (.n .i64 (dT a b))]:=by
 refine aV dm o8 ⟨by simp,by decide⟩ ?_
 simp only[cE]
 repeat first|with_reducible refine aZ ?_|simp only[go_sem,simprocAttr]
 refine aj [] (fargs:=[.n .i64 a]) (bA.same rfl) (aP a) (by decide) ?_
 cases h1:ed a
 ·repeat first|with_reducible refine aZ ?_|simp only[h1,go_sem,simprocAttr]
  exact aw (by simp[dT,h1]) rfl
 ·repeat first|with_reducible refine aZ ?_|simp only[h1,go_sem,simprocAttr]
  refine aj [] (fargs:=[.n .i64 b]) (bA.same rfl) (aP b) (by decide) ?_
  cases h2:ed b
  ·repeat first|with_reducible refine aZ ?_|simp only[h2,go_sem,simprocAttr]
   exact aw (by simp[dT,h1,h2]) rfl
  ·repeat first|with_reducible refine aZ ?_|simp only[h2,go_sem,simprocAttr]
   refine aj [] (fargs:=[.n .i64 (IntKind.i64.wrap (a+b))]) (bA.same rfl) (aP _) (by decide) ?_
   cases h3:ed (IntKind.i64.wrap (a+b))
   ·repeat first|with_reducible refine aZ ?_|simp only[h3,go_sem,simprocAttr]
    exact aw (by simp[dT,h1,h2,h3]) rfl
   ·repeat first|with_reducible refine aZ ?_|simp only[h3,go_sem,simprocAttr]
    exact aw (by simp[dT,h1,h2,h3]) rfl
def fN(m n:Int):AV:= .agg [.n .i64 m,.n .i64 n]
theorem oW(m n m2 n2:Int):ez Tryz.prog 11 [fN m n,fN m2 n2] [.v (fN (dT m m2) (dT n n2))]:=by
 refine aV dm o9 ⟨by simp,by decide⟩ ?_
 simp only[cE,fN]
 repeat first|with_reducible refine aZ ?_|simp only[go_sem,simprocAttr]
 refine aj [] (fargs:=[.n .i64 m,.n .i64 m2]) (bA.same rfl) (gl m m2) (by first|decide|(simp only[go_sem,simprocAttr]<;>decide)) ?_
 repeat first|with_reducible refine aZ ?_|simp only[go_sem,simprocAttr]
 refine aj [] (fargs:=[.n .i64 n,.n .i64 n2]) (bA.same rfl) (gl n n2) (by first|decide|(simp only[go_sem,simprocAttr]<;>decide)) ?_
 repeat first|with_reducible refine aZ ?_|simp only[go_sem,simprocAttr]
 exact aw rfl rfl
def ej(m n m2 n2:Int):Bool:=ed m&&ed n&&ed m2&&ed n2&&decide (m<=m2)&&decide (n<=n2)
theorem kt(m n m2 n2:Int):ez Tryz.prog 13 [fN m n,fN m2 n2] [.v (.b (ej m n m2 n2))]:=by
 refine aV dm o6 ⟨by simp,by decide⟩ ?_
 simp only[cE,fN]
 repeat first|with_reducible refine aZ ?_|simp only[go_sem,simprocAttr]
 refine aj [] (fargs:=[.n .i64 m]) (bA.same rfl) (aP m) (by first|decide|(simp only[go_sem,simprocAttr]<;>decide)) ?_
 cases h1:ed m
 ·repeat first|with_reducible refine aZ ?_|simp only[h1,go_sem,simprocAttr]
  exact aw (by simp[ej,h1]) rfl
 repeat first|with_reducible refine aZ ?_|simp only[h1,go_sem,simprocAttr]
 refine aj [] (fargs:=[.n .i64 n]) (bA.same rfl) (aP n) (by first|decide|(simp only[go_sem,simprocAttr]<;>decide)) ?_
 cases h2:ed n
 ·repeat first|with_reducible refine aZ ?_|simp only[h2,go_sem,simprocAttr]
  exact aw (by simp[ej,h1,h2]) rfl
 repeat first|with_reducible refine aZ ?_|simp only[h2,go_sem,simprocAttr]
 refine aj [] (fargs:=[.n .i64 m2]) (bA.same rfl) (aP m2) (by first|decide|(simp only[go_sem,simprocAttr]<;>decide)) ?_
 cases h3:ed m2
 ·repeat first|with_reducible refine aZ ?_|simp only[h3,go_sem,simprocAttr]
  exact aw (by simp[ej,h1,h2,h3]) rfl
 repeat first|with_reducible refine aZ ?_|simp only[h3,go_sem,simprocAttr]
 refine aj [] (fargs:=[.n .i64 n2]) (bA.same rfl) (aP n2) (by first|decide|(simp only[go_sem,simprocAttr]<;>decide)) ?_
 cases h4:ed n2
 ·repeat first|with_reducible refine aZ ?_|simp only[h4,go_sem,simprocAttr]
  exact aw (by simp[ej,h1,h2,h3,h4]) rfl
 by_cases h5:m<=m2
 ·repeat first|with_reducible refine aZ ?_|simp only[h4,h5,decide_true,go_sem,simprocAttr]
  exact aw (by simp[ej,h1,h2,h3,h4,h5]) rfl
 ·repeat first|with_reducible refine aZ ?_|simp only[h4,h5,decide_false,go_sem,simprocAttr]
  exact aw (by simp[ej,h1,h2,h3,h4,h5]) rfl
def qr(C:au)(g:FuncId)(xs:List AV):Option AV:=match C g xs ⟨.nil,0,2^40,λ_=>none,[]⟩ with
 |some (v,_)=>bif v.sc 3 then some v else none
 |none=>none
def gz(C:au)(g:FuncId)(k:Int):List Nat->Option AV
 |[]=>none
 |n::l=>match decide (k=(n:Int)) with
  |true=>qr C g [.n .i64 (n:Int)]
  |false=>gz C g k l
def gh(C:au)(g:FuncId)(l:List Nat):au:=λf args H=>bif Nat.beq f g&&decide (H.next<2^39) then(match args with
  |[.n .i64 k]=>match gz C g k l with
   |some v=>some (aE (aL (az H []) [.v v]).1,(aL (az H []) [.v v]).2)
   |none=>none
  |_=>none) else none
theorem dK{P:Program}{C:au}(hC:∀B,ar P B C){g:FuncId}{k:Int}{v:AV}:∀{l:List Nat},gz C g k l=some v->ez P g [.n .i64 k] [.v v]
 |[],h=>by cases h
 |n::l,h=>by
  unfold gz at h
  split at h
  ·rename_i hk
   have hk:=of_decide_eq_true hk
   subst hk
   unfold qr at h
   split at h
   ·rename_i v' H' hr
    cases hs:v'.sc 3 with
    |false=>rw[hs] at h;cases h
    |true=>
     rw[hs] at h
     cases h
     exact gH hC hr hs
   ·cases h
  ·exact dK hC h
theorem ji{P:Program}{C:au}(hC:∀B,ar P B C)(g:FuncId)(l:List Nat)(B:Nat):ar P B (gh C g l):=by
 have key:∀{f:FuncId} {args:List AV} {H H':AH} {v:AV},gh C g l f args H=some (v,H')->f=g/\cI P g args H λv1 H1=>v1=v/\H1=H':=by
  intro f args H H' v hr
  unfold gh at hr
  cases hc:Nat.beq f g&&decide (H.next<2^39) with
  |false=>rw[hc] at hr;cases hr
  |true=>
   rw[hc] at hr
   simp only[Bool.and_eq_true,decide_eq_true_eq] at hc
   have hf:=Nat.eq_of_beq_eq_true hc.1
   simp only[cond_true] at hr
   split at hr
   ·rename_i k
    split at hr
    ·rename_i v0 hv
     simp only[Option.some.injEq,Prod.mk.injEq] at hr
     exact⟨hf,aj [] (bA.same rfl) (dK hC hv) (by omega) hr⟩
    ·cases hr
   ·cases hr
 refine⟨λhr=>?_,λhr σ w args' hH ha=>?_⟩
 ·obtain⟨rfl,h1⟩:=key hr
  exact h1.1
 ·obtain⟨rfl,h1⟩:=key hr
  refine(h1.2 B σ w args' hH ha).mono λe w' hp=>?_
  cases e with
  |panicked c=>exact hp.elim
  |outgrown=>exact hp.elim
  |returned u=>
   obtain⟨v1,H1,σ',⟨rfl,rfl⟩,q1,q2,q3,_⟩:=hp
   exact⟨σ',q1,q2,q3⟩
noncomputable def xkn:au:=A0 (gh (jq Pf.get 3000 20) 50 [0,29,1,6,31]) xcl
theorem qw(B:Nat):ar Tryz.prog B xkn:=dZ (ji (λB=>gu B dm kK 3000 20) _ _ B) (qx B)
noncomputable def kU:Bool:=match AU xkn Pf.get 3000 60 8 [] ⟨.nil,0,2^40,λ_=>none,[]⟩ with
 |some (.b true,_)=>true
 |_=>false
theorem iV:kU=true:=by kernel_rfl
theorem fg:ez Tryz.prog 8 [] [.v (.b true)]:=by
 have h:=iV
 unfold kU at h
 split at h
 ·rename_i H' hr
  exact gH (λB=>gr B dm kK 3000 (qw B) 60) hr rfl
 ·cases h
end Go.Proofs.YthehakngpbjgjaaGreat