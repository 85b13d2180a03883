/- A part of the proof of AllocateFits: Ph. No condition. -/
import Derived.Test.YteopfmnnhlhbmaaHf40
import Derived.Test.YteopfmnnhlhbmaaHf42
set_option linter.unusedSimpArgs false
set_option linter.unusedVariables false
set_option linter.constructorNameAsVariable false
set_option maxRecDepth 100000
set_option maxHeartbeats 4000000
namespace Go.Proofs.Yteopfmnnhlhbmaa
open Go.RowKit
def dF:List Ar->Int->Bool
 |[],_=>false
 |a::l,c=>if a.size<1\/65536-c<a.size then true else dF l (c+a.size)
theorem j4:∀(l:List Ar) (c:Int),0<=c->c<=65536->dF l c=match cz l c with|none=>true|some n=>decide (65536<n)
 |[],c,h1,h2=>by simp[dF,cz];omega
 |a::l,c,h1,h2=>by
  simp only[dF,cz]
  by_cases ha:a.size<1
  ·rw[if_pos (.inl ha),if_pos (.inl ha)]
  by_cases hb:65536<a.size
  ·rw[if_pos (.inr (by omega)),if_pos (.inr hb)]
  rw[if_neg (show ¬(a.size<1\/65536<a.size) by omega)]
  by_cases hc:65536-c<a.size
  ·rw[if_pos (.inr hc)]
   cases hm:cz l (c+a.size) with
   |none=>rfl
   |some m=>
    have:=(oh l _ _ hm (by omega)).1
    simp
    omega
  ·rw[if_neg (by omega)]
   exact j4 l (c+a.size) (by omega) (by omega)
theorem Cx{ars:List Ar}{regs spills:Int}{cd:List RI}(h8:ars.length<=8)(h:dF ars 0=true):(bw ars regs spills cd).2=2:=by
 rw[j4 ars 0 (by omega) (by omega)] at h
 unfold bw
 rw[if_neg (by omega)]
 cases hm:cz ars 0 with
 |none=>rfl
 |some n=>
  rw[hm] at h
  simp only
  rw[if_pos (.inl (by simpa using h))]
theorem zA{ars:List Ar}{regs spills:Int}{cd:List RI}(h8:ars.length<=8)(h:regs<0\/1024<regs\/spills<0\/1024<spills):(bw ars regs spills cd).2=2:=by
 unfold bw
 rw[if_neg (by omega)]
 cases hm:cz ars 0 with
 |none=>rfl
 |some n=>simp only;rw[if_pos (.inr h)]
theorem zy{ars:List Ar}{regs spills:Int}{cd:List RI}(h8:ars.length<=8)(h:dF ars 0=false)(hr:¬(regs<0\/1024<regs\/spills<0\/1024<spills)):
  bw ars regs spills cd=if 16384<cd.length then(0,6) else match bP regs spills ars.length cd 0 with|some r=>r|none=>if(aQ cd 0 []).2 then((aQ cd 0 []).1,15) else(0,0):=by
 rw[j4 ars 0 (by omega) (by omega)] at h
 unfold bw
 rw[if_neg (by omega)]
 cases hm:cz ars 0 with
 |none=>rw[hm] at h;cases h
 |some n=>
  rw[hm] at h
  simp only
  rw[if_neg (by
   rintro (h1|h1)
   ·simp at h;omega
   ·exact hr h1)]
  rfl
theorem u6{cd:List RI}{out:List Int}(h:dg cd cd.length 0 (List.replicate cd.length 0) []= .ok (out,[])):∃t:T,cd=t.flat/\t.wf false 8/\out=t.rp 0:=by
 have hn:=j5 cd.length 0 (List.replicate cd.length 0) [] [] (j6 cd) (by omega)
 rw[h] at hn
 simp only[List.drop_zero,List.length_nil,Nat.lt_irrefl,decide_false] at hn
 obtain⟨t,rfl,hw⟩:=nJ cd hn
 rw[nI t hw] at h
 cases h
 exact⟨t,rfl,hw,rfl⟩
theorem oU{cd:List RI}:∀out,dg cd cd.length 0 (List.replicate cd.length 0) []= .ok (out,[])->∃r,eK cd cd.length 0 out []=some r:=λout h=>by
 obtain⟨t,rfl,hw,rfl⟩:=u6 h
 exact⟨_,nQ t hw⟩
theorem u7{w w':World}{t:T}{e:Ending}(hw:t.wf false 8)(h:Ax w t.flat (dg t.flat t.flat.length 0 (List.replicate t.flat.length 0) []) e w'):
  Below w.heap.size w w'/\e= .returned (.tuple #[.slice (some ⟨w.heap.size,0,none⟩) t.flat.length t.flat.length,.int .i64 0,.int .i64 0])/\dS w' w.heap.size (eU .i64 (t.rq 0 0)) 3:=by
 rw[nI t hw] at h
 obtain⟨hb,h⟩:=h
 simp only[List.length_nil,Nat.lt_irrefl,if_false] at h
 have:=h _ (nQ t hw)
 exact⟨hb,this.1,this.2⟩
theorem oa{α:Type}[Inhabited α](l:List α)(k:Nat)(hk:k<l.length):l.drop k=l.getD k default::l.drop (k+1):=by
 rw[List.drop_eq_getElem_cons hk,List.getD_eq_getElem?_getD,List.getElem?_eq_getElem hk];rfl
end Go.Proofs.Yteopfmnnhlhbmaa