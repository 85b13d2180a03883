/- A part of the proof of CostGrows: CsC CsD CsE CsF. No condition. -/
import Derived.Test.YtdpkgnmmikebdaaGreatGf18
import Derived.Test.YtdpkgnmmikebdaaGreatGf19
set_option linter.unusedSimpArgs false
set_option linter.unusedVariables false
set_option linter.constructorNameAsVariable false
set_option maxRecDepth 100000
set_option maxHeartbeats 4000000
namespace Go.Proofs.YtdpkgnmmikebdaaGreat
open Go.RowKit
theorem aD:Tryz.prog.follows .mixedOrders=true:=by kernel_rfl
theorem aq{n:Nat}{hints:bp}{ac:AC}{e:Tr AV}{H:AH}{Q:AE->Tr AV->AH->Prop}(h:GS Tryz.prog n hints ac e H Q)(hg:goB ac=true:=by rfl):GA Tryz.prog n hints ac e H Q:=GA.go aD hg h
theorem nj{x:AB}{n m esz:Nat}{row:Nat->Nat->AV}{i j:Nat}(hj:j<esz)(hi:i<n+m)(hn:(n+m)*esz<2^40):(x.app (n*esz) (.fn (m*esz) λi=>row (i / esz) (i%esz))).get (i*esz+j)=if n<=i then row (i-n) j else x.get (i*esz+j):=by
 have h0:0<esz:=by omega
 have h1:i*esz+j<n*esz+m*esz:=by
  rw[<-Nat.add_mul];exact fD hi hj
 rw[AB.app_get _ _ _ _ (by simp only[dZ.len];rw[<-Nat.add_mul];omega) h1]
 by_cases h:n<=i
 ·have h2:n*esz<=i*esz:=Nat.mul_le_mul_right esz h
  rw[if_pos (by omega),if_pos h]
  show row ((i*esz+j-n*esz) / esz) ((i*esz+j-n*esz)%esz)=_
  have e:i*esz+j-n*esz=j+esz*(i-n):=by
   rw[Nat.mul_comm esz,Nat.sub_mul];omega
  rw[e,Nat.add_mul_div_left _ _ h0,Nat.div_eq_of_lt hj,Nat.zero_add,Nat.add_mul_mod_self_left,Nat.mod_eq_of_lt hj]
 ·have h2:(i+1)*esz<=n*esz:=Nat.mul_le_mul_right esz (by omega)
  rw[Nat.succ_mul] at h2
  rw[if_neg (by omega),if_neg h]
theorem pP{x:AB}{n esz:Nat}{row:Nat->Nat->AV}{i j:Nat}(hi:i<n)(hj:j<esz)(hn:n*esz<2^40):(x.app 0 (.fn (n*esz) λi=>row (i / esz) (i%esz))).get (i*esz+j)=row i j:=by
 have:=nj (x:=x) (n:=0) (m:=n) (row:=row) hj (i:=i) (by omega) (by rwa [Nat.zero_add])
 rw[Nat.zero_mul,if_pos (Nat.zero_le _)] at this
 exact this
theorem tp{n:Nat}{row:Nat->Nat->AV}(hn:n<1000000)(hc:∀i j,i<n->j<1->(row i j).cell=true):
  bM Tryz.prog 96 [.fs 1 n row] [.o 5 1 n 0 row]:=by
 refine ag aD Vc ⟨by simp,by decide⟩ ?_
 simp only[aE]
 have hl1:n*1<1099511627776:=by omega
 have hl2:n*1<=140737488355328:=by omega
 have hl3:n<=9223372036854775807:=by omega
 try simp only[Nat.mul_one] at hl1 hl2
 repeat first|with_reducible refine aq ?_|simp only[go_sem,simprocAttr]
 intro t ht
 cases t
 ·repeat first|with_reducible refine aq ?_|simp only[hl1,hl2,hl3,decide_true,go_sem,simprocAttr]
  refine⟨[_],rfl,.o (x:=_) (by simp only[go_sem,simprocAttr];rfl) (by rfl) (by rfl) (by rfl) (by decide) (by simp only[go_sem,simprocAttr]<;>omega) (Nat.le_refl _) (λi j hi hj=>?_) hc rfl .nil⟩
  exact pP hi hj (by omega)
 ·obtain rfl:=ht rfl
  repeat first|with_reducible refine aq ?_|simp only[go_sem,simprocAttr]
  exact⟨[_],rfl,.o0 rfl .nil⟩
theorem gz{n:Nat}{row:Nat->Nat->AV}(hn:n<1000000)(hc:∀i j,i<n->j<2->(row i j).cell=true):
  bM Tryz.prog 59 [.fs 2 n row] [.o 127 2 n 0 row]:=by
 refine ag aD S7 ⟨by simp,by decide⟩ ?_
 simp only[aE]
 have hl1:n*2<1099511627776:=by omega
 have hl2:n*16<=140737488355328:=by omega
 have hl3:n<=9223372036854775807:=by omega
 try simp only[Nat.mul_one] at hl1 hl2
 repeat first|with_reducible refine aq ?_|simp only[go_sem,simprocAttr]
 intro t ht
 cases t
 ·repeat first|with_reducible refine aq ?_|simp only[hl1,hl2,hl3,decide_true,go_sem,simprocAttr]
  refine⟨[_],rfl,.o (x:=_) (by simp only[go_sem,simprocAttr];rfl) (by rfl) (by rfl) (by rfl) (by decide) (by simp only[go_sem,simprocAttr]<;>omega) (Nat.le_refl _) (λi j hi hj=>?_) hc rfl .nil⟩
  exact pP hi hj (by omega)
 ·obtain rfl:=ht rfl
  repeat first|with_reducible refine aq ?_|simp only[go_sem,simprocAttr]
  exact⟨[_],rfl,.o0 rfl .nil⟩
theorem tk{n:Nat}{row:Nat->Nat->AV}(hn:n<1000000)(hc:∀i j,i<n->j<3->(row i j).cell=true):
  bM Tryz.prog 123 [.fs 3 n row] [.o 221 3 n 0 row]:=by
 refine ag aD Q6 ⟨by simp,by decide⟩ ?_
 simp only[aE]
 have hl1:n*3<1099511627776:=by omega
 have hl2:n*24<=140737488355328:=by omega
 have hl3:n<=9223372036854775807:=by omega
 try simp only[Nat.mul_one] at hl1 hl2
 repeat first|with_reducible refine aq ?_|simp only[go_sem,simprocAttr]
 intro t ht
 cases t
 ·repeat first|with_reducible refine aq ?_|simp only[hl1,hl2,hl3,decide_true,go_sem,simprocAttr]
  refine⟨[_],rfl,.o (x:=_) (by simp only[go_sem,simprocAttr];rfl) (by rfl) (by rfl) (by rfl) (by decide) (by simp only[go_sem,simprocAttr]<;>omega) (Nat.le_refl _) (λi j hi hj=>?_) hc rfl .nil⟩
  exact pP hi hj (by omega)
 ·obtain rfl:=ht rfl
  repeat first|with_reducible refine aq ?_|simp only[go_sem,simprocAttr]
  exact⟨[_],rfl,.o0 rfl .nil⟩
def ug(C:dE)(g:FuncId)(xs:List AV):Option AV:=match C g xs ⟨.nil,0,2^40,λ_=>none,[]⟩ with
 |some (v,_)=>bif v.sc 3 then some v else none
 |none=>none
def ra(a:Int):Bool:=decide (0<=a)&&decide (a<=281474976710656)
theorem dU(a:Int):bM Tryz.prog 44 [.n .i64 a] [.v (.b (ra a))]:=by
 refine ag aD MT ⟨by simp,by decide⟩ ?_
 simp only[aE]
 by_cases h:0<=a
 ·repeat first|with_reducible refine aq ?_|simp only[h,ge_iff_le,decide_true,go_sem,simprocAttr]
  exact aa (by simp[ra,h]) rfl
 ·repeat first|with_reducible refine aq ?_|simp only[h,ge_iff_le,decide_false,go_sem,simprocAttr]
  exact aa (by simp[ra];omega) rfl
def oY(a b:Int):Int:=if ra a=true/\ra b=true/\ra (IntKind.i64.wrap (a+b))=true then IntKind.i64.wrap (a+b) else 281474976710656
theorem tT(a b:Int):bM Tryz.prog 43 [.n .i64 a,.n .i64 b] [.v (.n .i64 (oY a b))]:=by
 refine ag aD MY ⟨by simp,by decide⟩ ?_
 simp only[aE]
 repeat first|with_reducible refine aq ?_|simp only[go_sem,simprocAttr]
 refine aW [] (fargs:=[.n .i64 a]) (ck.same rfl) (dU a) (by decide) ?_
 cases h1:ra a
 ·repeat first|with_reducible refine aq ?_|simp only[h1,go_sem,simprocAttr]
  exact aa (by simp[oY,h1]) rfl
 ·repeat first|with_reducible refine aq ?_|simp only[h1,go_sem,simprocAttr]
  refine aW [] (fargs:=[.n .i64 b]) (ck.same rfl) (dU b) (by decide) ?_
  cases h2:ra b
  ·repeat first|with_reducible refine aq ?_|simp only[h2,go_sem,simprocAttr]
   exact aa (by simp[oY,h1,h2]) rfl
  ·repeat first|with_reducible refine aq ?_|simp only[h2,go_sem,simprocAttr]
   refine aW [] (fargs:=[.n .i64 (IntKind.i64.wrap (a+b))]) (ck.same rfl) (dU _) (by decide) ?_
   cases h3:ra (IntKind.i64.wrap (a+b))
   ·repeat first|with_reducible refine aq ?_|simp only[h3,go_sem,simprocAttr]
    exact aa (by simp[oY,h1,h2,h3]) rfl
   ·repeat first|with_reducible refine aq ?_|simp only[h3,go_sem,simprocAttr]
    exact aa (by simp[oY,h1,h2,h3]) rfl
def qY(m n:Int):AV:= .agg [.n .i64 m,.n .i64 n]
theorem CX(m n m2 n2:Int):bM Tryz.prog 21 [qY m n,qY m2 n2] [.v (qY (oY m m2) (oY n n2))]:=by
 refine ag aD M0 ⟨by simp,by decide⟩ ?_
 simp only[aE,qY]
 repeat first|with_reducible refine aq ?_|simp only[go_sem,simprocAttr]
 refine aW [] (fargs:=[.n .i64 m,.n .i64 m2]) (ck.same rfl) (tT m m2) (by first|decide|(simp only[go_sem,simprocAttr]<;>decide)) ?_
 repeat first|with_reducible refine aq ?_|simp only[go_sem,simprocAttr]
 refine aW [] (fargs:=[.n .i64 n,.n .i64 n2]) (ck.same rfl) (tT n n2) (by first|decide|(simp only[go_sem,simprocAttr]<;>decide)) ?_
 repeat first|with_reducible refine aq ?_|simp only[go_sem,simprocAttr]
 exact aa rfl rfl
def s9(m n m2 n2:Int):Bool:=ra m&&ra n&&ra m2&&ra n2&&decide (m<=m2)&&decide (n<=n2)
theorem rA(m n m2 n2:Int):bM Tryz.prog 22 [qY m n,qY m2 n2] [.v (.b (s9 m n m2 n2))]:=by
 refine ag aD MQ ⟨by simp,by decide⟩ ?_
 simp only[aE,qY]
 repeat first|with_reducible refine aq ?_|simp only[go_sem,simprocAttr]
 refine aW [] (fargs:=[.n .i64 m]) (ck.same rfl) (dU m) (by first|decide|(simp only[go_sem,simprocAttr]<;>decide)) ?_
 cases h1:ra m
 ·repeat first|with_reducible refine aq ?_|simp only[h1,go_sem,simprocAttr]
  exact aa (by simp[s9,h1]) rfl
 repeat first|with_reducible refine aq ?_|simp only[h1,go_sem,simprocAttr]
 refine aW [] (fargs:=[.n .i64 n]) (ck.same rfl) (dU n) (by first|decide|(simp only[go_sem,simprocAttr]<;>decide)) ?_
 cases h2:ra n
 ·repeat first|with_reducible refine aq ?_|simp only[h2,go_sem,simprocAttr]
  exact aa (by simp[s9,h1,h2]) rfl
 repeat first|with_reducible refine aq ?_|simp only[h2,go_sem,simprocAttr]
 refine aW [] (fargs:=[.n .i64 m2]) (ck.same rfl) (dU m2) (by first|decide|(simp only[go_sem,simprocAttr]<;>decide)) ?_
 cases h3:ra m2
 ·repeat first|with_reducible refine aq ?_|simp only[h3,go_sem,simprocAttr]
  exact aa (by simp[s9,h1,h2,h3]) rfl
 repeat first|with_reducible refine aq ?_|simp only[h3,go_sem,simprocAttr]
 refine aW [] (fargs:=[.n .i64 n2]) (ck.same rfl) (dU n2) (by first|decide|(simp only[go_sem,simprocAttr]<;>decide)) ?_
 cases h4:ra n2
 ·repeat first|with_reducible refine aq ?_|simp only[h4,go_sem,simprocAttr]
  exact aa (by simp[s9,h1,h2,h3,h4]) rfl
 by_cases h5:m<=m2
 ·repeat first|with_reducible refine aq ?_|simp only[h4,h5,decide_true,go_sem,simprocAttr]
  exact aa (by simp[s9,h1,h2,h3,h4,h5]) rfl
 ·repeat first|with_reducible refine aq ?_|simp only[h4,h5,decide_false,go_sem,simprocAttr]
  exact aa (by simp[s9,h1,h2,h3,h4,h5]) rfl
end Go.Proofs.YtdpkgnmmikebdaaGreat