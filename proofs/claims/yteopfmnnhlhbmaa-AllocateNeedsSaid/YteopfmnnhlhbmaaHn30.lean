/- A part of the proof of AllocateNeeds: P. No condition. -/
import Derived.Lib.Hide
import Derived.LoopTactic
import Derived.Test.YteopfmnnhlhbmaaHn03
import Derived.Test.YteopfmnnhlhbmaaHn25
set_option linter.unusedSimpArgs false
set_option linter.unusedVariables false
set_option linter.constructorNameAsVariable false
set_option maxRecDepth 100000
set_option maxHeartbeats 4000000
namespace Go.Proofs.Yteopfmnnhlhbmaa
open Go.RowKit
theorem oE{r len:Nat}(h:r<len):(0:Int)<=(r:Int)/\(r:Int)<(len:Int):=by omega
def ek(p:Int->Bool):List Int->Nat->Int
 |[],_=> -1
 |x::xs,k=>if p x then(k:Int) else ek p xs (k+1)
theorem ks(p:Int->Bool):∀(xs:List Int) (k:Nat),decide (0<=ek p xs k)=xs.any p
 |[],_=>rfl
 |x::xs,k=>by
  unfold ek
  cases h:p x
  ·simp[h,<-ks p xs (k+1)]
  ·simp[h]
theorem fV(p:Int->Bool):∀(xs:List Int) (k i:Nat),i<=xs.length->(∀j,j<i->p (xs.getD j 0)=false)->ek p xs k=ek p (xs.drop i) (k+i)
 |xs,k,0,_,_=>by simp
 |[],k,i+1,h,_=>by simp at h
 |x::xs,k,i+1,h,hp=>by
  have h0:p x=false:=hp 0 (by omega)
  rw[ek,h0]
  simp only[List.drop_succ_cons]
  rw[fV p xs (k+1) i (by simpa using h) (λj hj=>hp (j+1) (by omega)),show k+1+i=k+(i+1) by omega]
  simp
theorem vy(a:Option Addr)(cap:Nat)(xs:List Int)(F:Nat)(p:Int->Bool)(w:World)(hrow:dG w.heap.size w 1 a xs.length λi _=> .int .i64 (xs.getD i 0))(hmax:xs.length<=9223372036854775806)
  (hen:∀(args:Array Value) (w:World),(callFunc F args).run Try.prog w= .ok (.enter F args) w)
  (hp:∀(x:Int) (w:World),Calls Try.prog F #[.int .i64 x] w λe w'=>e= .returned (.bool (p x))/\w=w'):
  Calls Try.prog 83 #[.slice a xs.length cap,.func (.func F) #[] #[]] w λe w'=>e= .returned (.int .i64 (ek p xs 0))/\w=w':=by
 have HR:=Lib.hid hrow
 have HP:=Lib.hid hp
 clear hrow hp
 go_enter Try.func83,Try.ntmps83
 go_wp2
 go_loop [8] (λi=>∃k:Nat,k<=xs.length/\i= .int .i64 k/\Hid (∀j,j<k->p (xs.getD j 0)=false)) (λi=>xs.length-(intOf i).toNat)
 case atStart=>exact⟨0,Nat.zero_le _,rfl,Lib.hid (λj hj=>by omega)⟩
 case round=>
  obtain⟨k,hk,rfl,hj⟩:=hrel
  by_cases hlt:k<xs.length
  ·have hlt':=oE hlt
   obtain⟨b,off,rfl,hb,hc⟩:=HR.out k hlt
   have c0:w.cell? ⟨b,off+k,none⟩=some (.int .i64 (xs.getD k 0)):=by have:=hc 0 (by omega);simpa using this
   clear hc
   generalize hx:xs.getD k 0=x at c0
   have HX:=Lib.hid hx
   clear hx
   cases hpx:p x
   ·have HPX:=Lib.hid hpx
    clear hpx
    go_wp2_with fail
    refine(HP.out x w).mono ?_
    rintro e w' ⟨rfl,rfl⟩
    rw[HPX.out]
    go_wp2
    go_round
    case rel=>exact⟨k+1,by omega,by simp,Lib.hid (λj hj2=>by
      by_cases h:j<k
      ·exact hj.out j h
      ·have:j=k:=by omega
       subst this;rw[HX.out];exact HPX.out)⟩
    case measure=>simp[intOf];omega
   ·have HPX:=Lib.hid hpx
    clear hpx
    go_wp2_with fail
    refine(HP.out x w).mono ?_
    rintro e w' ⟨rfl,rfl⟩
    rw[HPX.out]
    go_wp2
    go_ret
    refine⟨g9 ?_,rfl⟩
    rw[fV p xs 0 k hk hj.out,List.drop_eq_getElem_cons hlt,ek]
    have:xs[k]=x:=by rw[<-HX.out,List.getD_eq_getElem?_getD,List.getElem?_eq_getElem hlt];rfl
    rw[this,HPX.out];simp
  ·have hkk:k=xs.length:=by omega
   subst hkk
   go_wp2
   go_ret
   refine⟨g9 ?_,rfl⟩
   rw[fV p xs 0 xs.length (Nat.le_refl _) hj.out,List.drop_length];rfl
theorem pb(a:Option Addr)(cap:Nat)(xs:List Int)(F:Nat)(p:Int->Bool)(w:World)(hrow:dG w.heap.size w 1 a xs.length λi _=> .int .i64 (xs.getD i 0))(hmax:xs.length<=9223372036854775806)
  (hen:∀(args:Array Value) (w:World),(callFunc F args).run Try.prog w= .ok (.enter F args) w)
  (hp:∀(x:Int) (w:World),Calls Try.prog F #[.int .i64 x] w λe w'=>e= .returned (.bool (p x))/\w=w'):
  Calls Try.prog 58 #[.slice a xs.length cap,.func (.func F) #[] #[]] w λe w'=>e= .returned (.bool (xs.any p))/\w=w':=by
 have HI:=Lib.hid (vy a cap xs F p w hrow hmax hen hp)
 have HF:=Lib.hid (ks p xs 0)
 clear hrow hp hen
 go_enter Try.func58,Try.ntmps58
 go_wp2_with fail
 refine HI.out.mono ?_
 rintro e w' ⟨rfl,rfl⟩
 generalize ek p xs 0=z at HF
 go_wp2
 go_ret
 exact⟨jb HF.out,rfl⟩
end Go.Proofs.Yteopfmnnhlhbmaa