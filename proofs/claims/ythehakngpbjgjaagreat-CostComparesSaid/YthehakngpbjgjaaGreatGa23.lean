/- A part of the proof of CostCompares: CsG CsH. No condition. -/
import Derived.Test.YthehakngpbjgjaaGreatGa21
import Derived.Test.YthehakngpbjgjaaGreatGa22
set_option linter.unusedSimpArgs false
set_option linter.unusedVariables false
set_option linter.constructorNameAsVariable false
set_option maxRecDepth 100000
set_option maxHeartbeats 4000000
namespace Go.Proofs.YthehakngpbjgjaaGreat
open Go.RowKit
theorem je(m n m2 n2:Int)(h:∀a b,dz Tryz.prog 27 [.n .i64 a,.n .i64 b] [.v (.n .i64 (b6 a b))]):dz Tryz.prog 12 [aK m n,aK m2 n2] [.v (aK (b6 m m2) (b6 n n2))]:=by
 refine az ch oG ⟨by simp,by decide⟩ ?_
 simp only[bI,aK]
 repeat first|with_reducible refine aV ?_|simp only[go_sem,simprocAttr]
 refine ao [] (fargs:=[.n .i64 m,.n .i64 m2]) (bK.same rfl) (h m m2) (by first|decide|(simp only[go_sem,simprocAttr]<;>decide)) ?_
 repeat first|with_reducible refine aV ?_|simp only[go_sem,simprocAttr]
 refine ao [] (fargs:=[.n .i64 n,.n .i64 n2]) (bK.same rfl) (h n n2) (by first|decide|(simp only[go_sem,simprocAttr]<;>decide)) ?_
 repeat first|with_reducible refine aV ?_|simp only[go_sem,simprocAttr]
 exact am rfl rfl
theorem dn(m n:Int):dz Tryz.prog 29 [aK m n] [.v (.b (bE m&&bE n))]:=by
 refine az ch oC ⟨by simp,by decide⟩ ?_
 simp only[bI,aK]
 by_cases h1:0<=m
 case neg=>
  repeat first|with_reducible refine aV ?_|simp only[h1,ge_iff_le,decide_false,go_sem,simprocAttr]
  exact am (by simp[bE,h1]) rfl
 by_cases h2:m<=281474976710656
 case neg=>
  repeat first|with_reducible refine aV ?_|simp only[h1,h2,ge_iff_le,decide_false,decide_true,go_sem,simprocAttr]
  exact am (by simp[bE,h1,h2]) rfl
 by_cases h3:0<=n
 case neg=>
  repeat first|with_reducible refine aV ?_|simp only[h1,h2,h3,ge_iff_le,decide_false,decide_true,go_sem,simprocAttr]
  exact am (by simp[bE,h1,h2,h3]) rfl
 repeat first|with_reducible refine aV ?_|simp only[h1,h2,h3,ge_iff_le,decide_true,go_sem,simprocAttr]
 exact am (by simp[bE,h1,h2,h3]) rfl
theorem fq{a:Int}(h0:0<=a)(h1:a<=562949953421312):IntKind.i64.wrap a=a:=da (by omega)
theorem i8(a b:Int):dz Tryz.prog 27 [.n .i64 a,.n .i64 b] [.v (.n .i64 (b6 a b))]:=by
 refine az ch oD ⟨by simp,by decide⟩ ?_
 simp only[bI]
 by_cases h1:a<0
 case pos=>
  repeat first|with_reducible refine aV ?_|simp only[h1,decide_true,go_sem,simprocAttr]
  exact am (by simp[b6,bE];omega) rfl
 by_cases h2:281474976710656<a
 case pos=>
  repeat first|with_reducible refine aV ?_|simp only[h1,h2,decide_true,decide_false,gt_iff_lt,go_sem,simprocAttr]
  exact am (by simp[b6,bE];omega) rfl
 by_cases h3:b<0
 case pos=>
  repeat first|with_reducible refine aV ?_|simp only[h1,h2,h3,decide_true,decide_false,gt_iff_lt,go_sem,simprocAttr]
  exact am (by simp[b6,bE];omega) rfl
 by_cases h4:281474976710656<b
 case pos=>
  repeat first|with_reducible refine aV ?_|simp only[h1,h2,h3,h4,decide_true,decide_false,gt_iff_lt,go_sem,simprocAttr]
  exact am (by simp[b6,bE];omega) rfl
 have hw:IntKind.i64.wrap (a+b)=a+b:=fq (by omega) (by omega)
 repeat first|with_reducible refine aV ?_|simp only[h1,h2,h3,h4,hw,decide_false,gt_iff_lt,qd,cI,Qg,go_sem,simprocAttr]
 refine am ?_ (by rfl)
 have k1:bE a=true:=by simp[bE];omega
 have k2:bE b=true:=by simp[bE];omega
 simp only[b6,hw,k1,k2,true_and]
 by_cases h5:a+b<=281474976710656
 ·have k3:bE (a+b)=true:=by simp[bE];omega
  simp only[k3,if_true]
  rw[if_neg (by omega)]
 ·have k3:bE (a+b)=false:=by simp[bE];omega
  simp only[k3,Bool.false_eq_true,if_false]
  rw[if_pos (by omega)]
theorem gI(m n m2 n2:Int):dz Tryz.prog 14 [aK m n,aK m2 n2] [.v (.b (cY m n m2 n2))]:=by
 refine az ch oE ⟨by simp,by decide⟩ ?_
 simp only[bI,aK]
 repeat first|with_reducible refine aV ?_|simp only[go_sem,simprocAttr]
 refine ao [] (fargs:=[aK m n]) (bK.same rfl) (dn m n) (by first|decide|(simp only[go_sem,simprocAttr]<;>decide)) ?_
 cases h1:(bE m&&bE n)
 case false=>
  repeat first|with_reducible refine aV ?_|simp only[h1,go_sem,simprocAttr]
  exact am (by simp only[cY,h1,Bool.false_and]) rfl
 repeat first|with_reducible refine aV ?_|simp only[h1,go_sem,simprocAttr]
 refine ao [] (fargs:=[aK m2 n2]) (bK.same rfl) (dn m2 n2) (by first|decide|(simp only[go_sem,simprocAttr]<;>decide)) ?_
 cases h2:(bE m2&&bE n2)
 case false=>
  repeat first|with_reducible refine aV ?_|simp only[h2,go_sem,simprocAttr]
  exact am (by simp only[cY,h1,Bool.true_and,h2,Bool.false_and]) rfl
 have e:cY m n m2 n2=(decide (m<=m2)&&decide (n<=n2)):=by simp only[cY,h1,Bool.true_and,h2]
 by_cases h5:m<=m2
 ·repeat first|with_reducible refine aV ?_|simp only[h2,h5,decide_true,go_sem,simprocAttr]
  exact am (by simp[e,h5]) rfl
 ·repeat first|with_reducible refine aV ?_|simp only[h2,h5,decide_false,go_sem,simprocAttr]
  exact am (by simp[e,h5]) rfl
theorem oa(a b:Int):iu 9 (.st [(0,1,.n),(1,1,.n)]) (.agg [.n .i64 a,.n .i64 b]) (.agg [.n .i64 a,.n .i64 b])=some true:=by
 simp[iu,iv,eH,SH.row,Bw]
theorem Bp(a:Bool):iu 9 .b (.b a) (.b a)=some true:=by simp[iu]
theorem ej(m n m2 n2:Int):dz Tryz.prog 4 [aK m n,aK m2 n2] [.v (.b true)]:=by
 refine az ch oH ⟨by simp,by decide⟩ ?_
 simp only[bI,aK]
 repeat first|with_reducible refine aV ?_|simp only[go_sem,simprocAttr]
 refine ao [] (fargs:=[aK m n,aK m2 n2]) (bK.same rfl) (oA m n m2 n2) (by first|decide|(simp only[go_sem,simprocAttr]<;>decide)) ?_
 repeat first|with_reducible refine aV ?_|simp only[go_sem,simprocAttr]
 refine ao [] (fargs:=[aK m n,aK m2 n2]) (bK.same rfl) (je m n m2 n2 i8) ?_ ?_
 ·simp only[go_sem,simprocAttr]
 repeat first|with_reducible refine aV ?_|simp only[aK,oa,go_sem,simprocAttr]
 refine ao [] (fargs:=[aK m n,aK m2 n2]) (bK.same rfl) (kb m n m2 n2) ?_ ?_
 ·simp only[go_sem,simprocAttr]
 repeat first|with_reducible refine aV ?_|simp only[go_sem,simprocAttr]
 refine ao [] (fargs:=[aK m n,aK m2 n2]) (bK.same rfl) (gI m n m2 n2) ?_ ?_
 ·simp only[go_sem,simprocAttr]
 repeat first|with_reducible refine aV ?_|simp only[Bp,go_sem,simprocAttr]
 refine ao [] (fargs:=[]) (bK.same rfl) eX ?_ ?_
 ·simp only[go_sem,simprocAttr]
 repeat first|with_reducible refine aV ?_|simp only[go_sem,simprocAttr]
 exact am rfl rfl
end Go.Proofs.YthehakngpbjgjaaGreat