/- A part of the proof of CostReports: CsC CsD CsE CsF. No condition. -/
import Derived.Test.YtdpkgnmmikebdaaGreatGe18
import Derived.Test.YtdpkgnmmikebdaaGreatGe19
set_option linter.unusedSimpArgs false
set_option linter.unusedVariables false
set_option linter.constructorNameAsVariable false
set_option maxRecDepth 100000
set_option maxHeartbeats 4000000
namespace Go.Proofs.YtdpkgnmmikebdaaGreat
open Go.RowKit
theorem aE:Tryz.prog.follows .mixedOrders=true:=by kernel_rfl
theorem au{n:Nat}{hints:bo}{ac:AC}{e:Tr AV}{H:AH}{Q:AE->Tr AV->AH->Prop}(h:GS Tryz.prog n hints ac e H Q)(hg:goB ac=true:=by rfl):GA Tryz.prog n hints ac e H Q:=GA.go aE hg h
theorem mW{x:AB}{n m esz:Nat}{row:Nat->Nat->AV}{i j:Nat}(hj:j<esz)(hi:i<n+m)(hn:(n+m)*esz<2^40):(x.app (n*esz) (.fn (m*esz) λi=>row (i / esz) (i%esz))).get (i*esz+j)=if n<=i then row (i-n) j else x.get (i*esz+j):=by
 have h0:0<esz:=by omega
 have h1:i*esz+j<n*esz+m*esz:=by
  rw[<-Nat.add_mul];exact fx hi hj
 rw[AB.app_get _ _ _ _ (by simp only[dU.len];rw[<-Nat.add_mul];omega) h1]
 by_cases h:n<=i
 ·have h2:n*esz<=i*esz:=Nat.mul_le_mul_right esz h
  rw[if_pos (by omega),if_pos h]
  show row ((i*esz+j-n*esz) / esz) ((i*esz+j-n*esz)%esz)=_
  have e:i*esz+j-n*esz=j+esz*(i-n):=by
   rw[Nat.mul_comm esz,Nat.sub_mul];omega
  rw[e,Nat.add_mul_div_left _ _ h0,Nat.div_eq_of_lt hj,Nat.zero_add,Nat.add_mul_mod_self_left,Nat.mod_eq_of_lt hj]
 ·have h2:(i+1)*esz<=n*esz:=Nat.mul_le_mul_right esz (by omega)
  rw[Nat.succ_mul] at h2
  rw[if_neg (by omega),if_neg h]
theorem sP{x:AB}{n esz:Nat}{row:Nat->Nat->AV}{i j:Nat}(hi:i<n)(hj:j<esz)(hn:n*esz<2^40):(x.app 0 (.fn (n*esz) λi=>row (i / esz) (i%esz))).get (i*esz+j)=row i j:=by
 have:=mW (x:=x) (n:=0) (m:=n) (row:=row) hj (i:=i) (by omega) (by rwa [Nat.zero_add])
 rw[Nat.zero_mul,if_pos (Nat.zero_le _)] at this
 exact this
theorem mR{n:Nat}{row:Nat->Nat->AV}(hn:n<1000000)(hc:∀i j,i<n->j<1->(row i j).cell=true):
  bU Tryz.prog 96 [.fs 1 n row] [.o 5 1 n 0 row]:=by
 refine ah aE Ej ⟨by simp,by decide⟩ ?_
 simp only[aF]
 have hl1:n*1<1099511627776:=by omega
 have hl2:n*1<=140737488355328:=by omega
 have hl3:n<=9223372036854775807:=by omega
 try simp only[Nat.mul_one] at hl1 hl2
 repeat first|with_reducible refine au ?_|simp only[go_sem,simprocAttr]
 intro t ht
 cases t
 ·repeat first|with_reducible refine au ?_|simp only[hl1,hl2,hl3,decide_true,go_sem,simprocAttr]
  refine⟨[_],rfl,.o (x:=_) (by simp only[go_sem,simprocAttr];rfl) (by rfl) (by rfl) (by rfl) (by decide) (by simp only[go_sem,simprocAttr]<;>omega) (Nat.le_refl _) (λi j hi hj=>?_) hc rfl .nil⟩
  exact sP hi hj (by omega)
 ·obtain rfl:=ht rfl
  repeat first|with_reducible refine au ?_|simp only[go_sem,simprocAttr]
  exact⟨[_],rfl,.o0 rfl .nil⟩
theorem eU{n:Nat}{row:Nat->Nat->AV}(hn:n<1000000)(hc:∀i j,i<n->j<2->(row i j).cell=true):
  bU Tryz.prog 59 [.fs 2 n row] [.o 127 2 n 0 row]:=by
 refine ah aE DV ⟨by simp,by decide⟩ ?_
 simp only[aF]
 have hl1:n*2<1099511627776:=by omega
 have hl2:n*16<=140737488355328:=by omega
 have hl3:n<=9223372036854775807:=by omega
 try simp only[Nat.mul_one] at hl1 hl2
 repeat first|with_reducible refine au ?_|simp only[go_sem,simprocAttr]
 intro t ht
 cases t
 ·repeat first|with_reducible refine au ?_|simp only[hl1,hl2,hl3,decide_true,go_sem,simprocAttr]
  refine⟨[_],rfl,.o (x:=_) (by simp only[go_sem,simprocAttr];rfl) (by rfl) (by rfl) (by rfl) (by decide) (by simp only[go_sem,simprocAttr]<;>omega) (Nat.le_refl _) (λi j hi hj=>?_) hc rfl .nil⟩
  exact sP hi hj (by omega)
 ·obtain rfl:=ht rfl
  repeat first|with_reducible refine au ?_|simp only[go_sem,simprocAttr]
  exact⟨[_],rfl,.o0 rfl .nil⟩
theorem mQ{n:Nat}{row:Nat->Nat->AV}(hn:n<1000000)(hc:∀i j,i<n->j<3->(row i j).cell=true):
  bU Tryz.prog 123 [.fs 3 n row] [.o 221 3 n 0 row]:=by
 refine ah aE DF ⟨by simp,by decide⟩ ?_
 simp only[aF]
 have hl1:n*3<1099511627776:=by omega
 have hl2:n*24<=140737488355328:=by omega
 have hl3:n<=9223372036854775807:=by omega
 try simp only[Nat.mul_one] at hl1 hl2
 repeat first|with_reducible refine au ?_|simp only[go_sem,simprocAttr]
 intro t ht
 cases t
 ·repeat first|with_reducible refine au ?_|simp only[hl1,hl2,hl3,decide_true,go_sem,simprocAttr]
  refine⟨[_],rfl,.o (x:=_) (by simp only[go_sem,simprocAttr];rfl) (by rfl) (by rfl) (by rfl) (by decide) (by simp only[go_sem,simprocAttr]<;>omega) (Nat.le_refl _) (λi j hi hj=>?_) hc rfl .nil⟩
  exact sP hi hj (by omega)
 ·obtain rfl:=ht rfl
  repeat first|with_reducible refine au ?_|simp only[go_sem,simprocAttr]
  exact⟨[_],rfl,.o0 rfl .nil⟩
def o8:AV->Bool
 |.sl0=>true
 |.os _ 0=>true
 |.fs _ 0 _=>true
 |_=>false
theorem vf{a:AV}(h:o8 a=true)(E:Nat)(row:Nat->Nat->AV){σ:Sg}{u:Value}(hu:VR σ a u):VR σ (.fs E 0 row) u:=by
 cases hu<;>first
  |(cases h;done)
  |exact .fs0 _ _ _ _
  |(unfold o8 at h;split at h<;>first|(cases h;done)|(rename_i heq;cases heq<;>exact .fs0 _ _ _ _))
def O3(g:FuncId)(rs:List RT):bP:=λf args H=>bif Nat.beq f g&&decide (H.next<2^39) then(match args with
   |[a]=>bif o8 a then some (aX (bN (aY H []) rs).1,(bN (aY H []) rs).2) else none
   |_=>none) else none
theorem r6{P:Program}{g:FuncId}{E:Nat}{row:Nat->Nat->AV}{rs:List RT}(h:bU P g [.fs E 0 row] rs)(hp:(AV.fs E 0 row).pu 3=true)(B:Nat):bM P B (O3 g rs):=by
 have key:∀{f:FuncId} {args:List AV} {H H':AH} {v:AV},O3 g rs f args H=some (v,H')->f=g/\gC P g args H λv1 H1=>v1=v/\H1=H':=by
  intro f args H H' v hr
  unfold O3 at hr
  cases hc:Nat.beq f g&&decide (H.next<2^39) with
  |false=>rw[hc] at hr;cases hr
  |true=>
   rw[hc] at hr
   simp only[Bool.and_eq_true,decide_eq_true_eq] at hc
   have hf:=Nat.eq_of_beq_eq_true hc.1
   simp only[cond_true] at hr
   split at hr
   ·rename_i a
    cases hn:o8 a with
    |false=>rw[hn] at hr;cases hr
    |true=>
     rw[hn] at hr
     simp only[cond_true,Option.some.injEq,Prod.mk.injEq] at hr
     have h1:gC P g [.fs E 0 row] H λv1 H1=>v1=v/\H1=H':=bL [] (cF.same (by simp only[List.all_cons,List.all_nil,Bool.and_true];exact hp)) h (by omega) hr
     refine⟨hf,h1.1,λB σ w args' hH ha=>h1.2 B σ w args' hH ?_⟩
     match args',ha with
     |⟨[u]⟩,ha=>exact aV.nil.cons (vf hn E row (ha.2 0 _ rfl))
     |⟨[]⟩,ha=>exact absurd ha.1 (by simp)
     |⟨_::_::_⟩,ha=>exact absurd ha.1 (by simp)
   ·cases hr
 refine⟨λhr=>?_,λhr σ w args' hH ha=>?_⟩
 ·obtain⟨rfl,h1⟩:=key hr
  exact h1.1
 ·obtain⟨rfl,h1⟩:=key hr
  refine(h1.2 B σ w args' hH ha).mono λe w' hp=>?_
  cases e with
  |panicked c=>exact hp.elim
  |outgrown=>exact hp.elim
  |returned u=>
   obtain⟨v1,H1,σ',⟨rfl,rfl⟩,q1,q2,q3,_⟩:=hp
   exact⟨σ',q1,q2,q3⟩
def uP:Nat->Nat->AV:=λ_ _=> .u
def xcl:bP:=Nv (O3 96 [.o 5 1 0 0 uP]) (Nv (O3 59 [.o 127 2 0 0 uP]) (O3 123 [.o 221 3 0 0 uP]))
theorem Fb(B:Nat):bM Tryz.prog B xcl:=
 o6 (r6 (row:=uP) (mR (by decide) (λi j hi=>absurd hi (Nat.not_lt_zero _))) rfl B) (o6 (r6 (row:=uP) (eU (by decide) (λi j hi=>absurd hi (Nat.not_lt_zero _))) rfl B) (r6 (row:=uP) (mQ (by decide) (λi j hi=>absurd hi (Nat.not_lt_zero _))) rfl B))
def nZ(C:bP)(g:FuncId)(xs:List AV):Option AV:=match C g xs ⟨.nil,0,2^40,λ_=>none,[]⟩ with
 |some (v,_)=>bif v.sc 3 then some v else none
 |none=>none
def tY(C:bP)(g:FuncId)(k:Int):List Nat->Option AV
 |[]=>none
 |n::l=>match decide (k=(n:Int)) with
  |true=>nZ C g [.n .i64 (n:Int)]
  |false=>tY C g k l
def tv(C:bP)(g:FuncId)(l:List Nat):bP:=λf args H=>bif Nat.beq f g&&decide (H.next<2^39) then(match args with
  |[.n .i64 k]=>match tY C g k l with
   |some v=>some (aX (bN (aY H []) [.v v]).1,(bN (aY H []) [.v v]).2)
   |none=>none
  |_=>none) else none
theorem n8{P:Program}{C:bP}(hC:∀B,bM P B C){g:FuncId}{k:Int}{v:AV}:∀{l:List Nat},tY C g k l=some v->bU P g [.n .i64 k] [.v v]
 |[],h=>by cases h
 |n::l,h=>by
  unfold tY at h
  split at h
  ·rename_i hk
   have hk:=of_decide_eq_true hk
   subst hk
   unfold nZ at h
   split at h
   ·rename_i v' H' hr
    cases hs:v'.sc 3 with
    |false=>rw[hs] at h;cases h
    |true=>
     rw[hs] at h
     cases h
     exact pB hC hr hs
   ·cases h
  ·exact n8 hC h
theorem wZ{P:Program}{C:bP}(hC:∀B,bM P B C)(g:FuncId)(l:List Nat)(B:Nat):bM P B (tv C g l):=by
 have key:∀{f:FuncId} {args:List AV} {H H':AH} {v:AV},tv C g l f args H=some (v,H')->f=g/\gC P g args H λv1 H1=>v1=v/\H1=H':=by
  intro f args H H' v hr
  unfold tv at hr
  cases hc:Nat.beq f g&&decide (H.next<2^39) with
  |false=>rw[hc] at hr;cases hr
  |true=>
   rw[hc] at hr
   simp only[Bool.and_eq_true,decide_eq_true_eq] at hc
   have hf:=Nat.eq_of_beq_eq_true hc.1
   simp only[cond_true] at hr
   split at hr
   ·rename_i k
    split at hr
    ·rename_i v0 hv
     simp only[Option.some.injEq,Prod.mk.injEq] at hr
     exact⟨hf,bL [] (cF.same rfl) (n8 hC hv) (by omega) hr⟩
    ·cases hr
   ·cases hr
 refine⟨λhr=>?_,λhr σ w args' hH ha=>?_⟩
 ·obtain⟨rfl,h1⟩:=key hr
  exact h1.1
 ·obtain⟨rfl,h1⟩:=key hr
  refine(h1.2 B σ w args' hH ha).mono λe w' hp=>?_
  cases e with
  |panicked c=>exact hp.elim
  |outgrown=>exact hp.elim
  |returned u=>
   obtain⟨v1,H1,σ',⟨rfl,rfl⟩,q1,q2,q3,_⟩:=hp
   exact⟨σ',q1,q2,q3⟩
noncomputable def xkn:bP:=Nv (tv (sj O9.get 3000 20) 70 [0,29,1,6,31]) xcl
theorem Fa(B:Nat):bM Tryz.prog B xkn:=o6 (wZ (λB=>lx B aE pK 3000 20) _ _ B) (Fb B)
noncomputable def AD:Bool:=match M8 xkn O9.get 3000 60 9 [] ⟨.nil,0,2^40,λ_=>none,[]⟩ with
 |some (.b true,_)=>true
 |_=>false
theorem wE:AD=true:=by kernel_rfl
theorem iw:bU Tryz.prog 9 [] [.v (.b true)]:=by
 have h:=wE
 unfold AD at h
 split at h
 ·rename_i H' hr
  exact pB (λB=>tG B aE pK 3000 (Fa B) 60) hr rfl
 ·cases h
end Go.Proofs.YtdpkgnmmikebdaaGreat