/- A part of the proof of AllocateNeeds: Ph. No condition. -/
import Derived.Test.YteopfmnnhlhbmaaHn40
import Derived.Test.YteopfmnnhlhbmaaHn42
set_option linter.unusedSimpArgs false
set_option linter.unusedVariables false
set_option linter.constructorNameAsVariable false
set_option maxRecDepth 100000
set_option maxHeartbeats 4000000
namespace Go.Proofs.Yteopfmnnhlhbmaa
open Go.RowKit
def dx:List Ar->Int->Bool
 |[],_=>false
 |a::l,c=>if a.size<1\/65536-c<a.size then true else dx l (c+a.size)
theorem jQ:∀(l:List Ar) (c:Int),0<=c->c<=65536->dx l c=match cy l c with|none=>true|some n=>decide (65536<n)
 |[],c,h1,h2=>by simp[dx,cy];omega
 |a::l,c,h1,h2=>by
  simp only[dx,cy]
  by_cases ha:a.size<1
  ·rw[if_pos (.inl ha),if_pos (.inl ha)]
  by_cases hb:65536<a.size
  ·rw[if_pos (.inr (by omega)),if_pos (.inr hb)]
  rw[if_neg (show ¬(a.size<1\/65536<a.size) by omega)]
  by_cases hc:65536-c<a.size
  ·rw[if_pos (.inr hc)]
   cases hm:cy l (c+a.size) with
   |none=>rfl
   |some m=>
    have:=(nZ l _ _ hm (by omega)).1
    simp
    omega
  ·rw[if_neg (by omega)]
   exact jQ l (c+a.size) (by omega) (by omega)
theorem BM{ars:List Ar}{regs spills:Int}{cd:List RI}(h8:ars.length<=8)(h:dx ars 0=true):(bA ars regs spills cd).2=2:=by
 rw[jQ ars 0 (by omega) (by omega)] at h
 unfold bA
 rw[if_neg (by omega)]
 cases hm:cy ars 0 with
 |none=>rfl
 |some n=>
  rw[hm] at h
  simp only
  rw[if_pos (.inl (by simpa using h))]
theorem y9{ars:List Ar}{regs spills:Int}{cd:List RI}(h8:ars.length<=8)(h:regs<0\/1024<regs\/spills<0\/1024<spills):(bA ars regs spills cd).2=2:=by
 unfold bA
 rw[if_neg (by omega)]
 cases hm:cy ars 0 with
 |none=>rfl
 |some n=>simp only;rw[if_pos (.inr h)]
theorem y8{ars:List Ar}{regs spills:Int}{cd:List RI}(h8:ars.length<=8)(h:dx ars 0=false)(hr:¬(regs<0\/1024<regs\/spills<0\/1024<spills)):
  bA ars regs spills cd=if 16384<cd.length then(0,6) else match bW regs spills ars.length cd 0 with|some r=>r|none=>if(aX cd 0 []).2 then((aX cd 0 []).1,15) else(0,0):=by
 rw[jQ ars 0 (by omega) (by omega)] at h
 unfold bA
 rw[if_neg (by omega)]
 cases hm:cy ars 0 with
 |none=>rw[hm] at h;cases h
 |some n=>
  rw[hm] at h
  simp only
  rw[if_neg (by
   rintro (h1|h1)
   ·simp at h;omega
   ·exact hr h1)]
  rfl
theorem nF{cd:List RI}{out:List Int}(h:cT cd cd.length 0 (List.replicate cd.length 0) []= .ok (out,[])):∃t:T,cd=t.flat/\t.wf false 8/\out=t.rp 0:=by
 have hn:=jR cd.length 0 (List.replicate cd.length 0) [] [] (jS cd) (by omega)
 rw[h] at hn
 simp only[List.drop_zero,List.length_nil,Nat.lt_irrefl,decide_false] at hn
 obtain⟨t,rfl,hw⟩:=nG cd hn
 rw[nD t hw] at h
 cases h
 exact⟨t,rfl,hw,rfl⟩
theorem kT{cd:List RI}:∀out,cT cd cd.length 0 (List.replicate cd.length 0) []= .ok (out,[])->∃r,eE cd cd.length 0 out []=some r:=λout h=>by
 obtain⟨t,rfl,hw,rfl⟩:=nF h
 exact⟨_,nL t hw⟩
theorem uL{w w':World}{t:T}{e:Ending}(hw:t.wf false 8)(h:uu w t.flat (cT t.flat t.flat.length 0 (List.replicate t.flat.length 0) []) e w'):
  Below w.heap.size w w'/\e= .returned (.tuple #[.slice (some ⟨w.heap.size,0,none⟩) t.flat.length t.flat.length,.int .i64 0,.int .i64 0])/\dI w' w.heap.size (eO .i64 (t.rq 0 0)) 3:=by
 rw[nD t hw] at h
 obtain⟨hb,h⟩:=h
 simp only[List.length_nil,Nat.lt_irrefl,if_false] at h
 have:=h _ (nL t hw)
 exact⟨hb,this.1,this.2⟩
theorem nW{α:Type}[Inhabited α](l:List α)(k:Nat)(hk:k<l.length):l.drop k=l.getD k default::l.drop (k+1):=by
 rw[List.drop_eq_getElem_cons hk,List.getD_eq_getElem?_getD,List.getElem?_eq_getElem hk];rfl
end Go.Proofs.Yteopfmnnhlhbmaa