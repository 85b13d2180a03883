/- A part of the proof of OptimizerShares: Ph. No condition. -/
import Derived.Test.YtidhfimbnjaceaaGreatGh27
import Derived.Test.YtidhfimbnjaceaaGreatGh29
set_option linter.unusedSimpArgs false
set_option linter.unusedVariables false
set_option linter.constructorNameAsVariable false
set_option maxRecDepth 100000
set_option maxHeartbeats 4000000
namespace Go.Proofs.YtidhfimbnjaceaaGreat
open Go.RowKit
def dG:List Ar->Int->Bool
 |[],_=>false
 |a::l,c=>if a.size<1\/65536-c<a.size then true else dG l (c+a.size)
theorem jj:∀(l:List Ar) (c:Int),0<=c->c<=65536->dG l c=match cH l c with|none=>true|some n=>decide (65536<n)
 |[],c,h1,h2=>by simp[dG,cH];omega
 |a::l,c,h1,h2=>by
  simp only[dG,cH]
  by_cases ha:a.size<1
  ·rw[if_pos (.inl ha),if_pos (.inl ha)]
  by_cases hb:65536<a.size
  ·rw[if_pos (.inr (by omega)),if_pos (.inr hb)]
  rw[if_neg (show ¬(a.size<1\/65536<a.size) by omega)]
  by_cases hc:65536-c<a.size
  ·rw[if_pos (.inr hc)]
   cases hm:cH l (c+a.size) with
   |none=>rfl
   |some m=>
    have:=(lS l _ _ hm (by omega)).1
    simp
    omega
  ·rw[if_neg (by omega)]
   exact jj l (c+a.size) (by omega) (by omega)
theorem wi {ars:List Ar} {regs spills:Int} {cd:List RI} (h8:ars.length<=8) (h:dG ars 0=true):(bE ars regs spills cd).2=2:=by
 rw[jj ars 0 (by omega) (by omega)] at h
 unfold bE
 rw[if_neg (by omega)]
 cases hm:cH ars 0 with
 |none=>rfl
 |some n=>
  rw[hm] at h
  simp only
  rw[if_pos (.inl (by simpa using h))]
theorem tV {ars:List Ar} {regs spills:Int} {cd:List RI} (h8:ars.length<=8) (h:regs<0\/1024<regs\/spills<0\/1024<spills):(bE ars regs spills cd).2=2:=by
 unfold bE
 rw[if_neg (by omega)]
 cases hm:cH ars 0 with
 |none=>rfl
 |some n=>simp only;rw[if_pos (.inr h)]
theorem tU {ars:List Ar} {regs spills:Int} {cd:List RI} (h8:ars.length<=8) (h:dG ars 0=false) (hr:¬(regs<0\/1024<regs\/spills<0\/1024<spills)):
  bE ars regs spills cd=if 16384<cd.length then(0,6) else match cj regs spills ars.length cd 0 with|some r=>r|none=>if(bg cd 0 []).2 then((bg cd 0 []).1,15) else(0,0):=by
 rw[jj ars 0 (by omega) (by omega)] at h
 unfold bE
 rw[if_neg (by omega)]
 cases hm:cH ars 0 with
 |none=>rw[hm] at h;cases h
 |some n=>
  rw[hm] at h
  simp only
  rw[if_neg (by
   rintro (h1|h1)
   ·simp at h;omega
   ·exact hr h1)]
  rfl
theorem qH {cd:List RI} {out:List Int} (h:dj cd cd.length 0 (List.replicate cd.length 0) []= .ok (out,[])):∃t:T,cd=t.flat/\t.wf false 8/\out=t.rp 0:=by
 have hn:=jl cd.length 0 (List.replicate cd.length 0) [] [] (jm cd) (by omega)
 rw[h] at hn
 simp only[List.drop_zero,List.length_nil,Nat.lt_irrefl,decide_false] at hn
 obtain⟨t,rfl,hw⟩:=lG cd hn
 rw[lF t hw] at h
 cases h
 exact⟨t,rfl,hw,rfl⟩
theorem mg {cd:List RI}:∀out,dj cd cd.length 0 (List.replicate cd.length 0) []= .ok (out,[])->∃r,eJ cd cd.length 0 out []=some r:=λout h=>by
 obtain⟨t,rfl,hw,rfl⟩:=qH h
 exact⟨_,lK t hw⟩
theorem qI {w w':World} {t:T} {e:Ending} (hw:t.wf false 8) (h:vg w t.flat (dj t.flat t.flat.length 0 (List.replicate t.flat.length 0) []) e w'):
  Below w.heap.size w w'/\e= .returned (.tuple #[.slice (some ⟨w.heap.size,0,none⟩) t.flat.length t.flat.length,.int .i64 0,.int .i64 0])/\dS w' w.heap.size (eX .i64 (t.rq 0 0)) 3:=by
 rw[lF t hw] at h
 obtain⟨hb,h⟩:=h
 simp only[List.length_nil,Nat.lt_irrefl,if_false] at h
 have:=h _ (lK t hw)
 exact⟨hb,this.1,this.2⟩
theorem lR {α:Type} [Inhabited α] (l:List α) (k:Nat) (hk:k<l.length):l.drop k=l.getD k default::l.drop (k+1):=by
 rw[List.drop_eq_getElem_cons hk,List.getD_eq_getElem?_getD,List.getElem?_eq_getElem hk];rfl
end Go.Proofs.YtidhfimbnjaceaaGreat