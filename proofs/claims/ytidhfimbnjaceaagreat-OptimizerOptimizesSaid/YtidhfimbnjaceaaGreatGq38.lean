/- A part of the proof of OptimizerOptimizes: DeA. No condition. -/
import Derived.Deep.RegionLaw
import Derived.WalkKit
import Derived.Test.YtidhfimbnjaceaaGreatGq17
set_option linter.unusedSimpArgs false
set_option linter.unusedVariables false
set_option linter.constructorNameAsVariable false
set_option maxRecDepth 100000
set_option maxHeartbeats 4000000
namespace Go.Proofs.YtidhfimbnjaceaaGreat
open Go.RowKit
theorem m9{P:Program}(w:World)(t e ty:TypeId)(z:Value)(ht:P.underlying t=some (.slice e))(hv:∀w,(zeroValue e).run P w= .ok z w)(l:List Value)(b o n c:Nat)(hl:(Builtin.zeroCells z.cells n).toList=l)(h1:∀u ∈ l,u.oneCell'=true)(hn:0<n)
  (hc:∀j,j<l.length->(w.cell? ⟨b,o+j,none⟩).isSome=true) (hf:∀j,j<l.length->w.frozen? ⟨b,o+j,none⟩=false):
  (Builtin.clear_ #[t] ty #[.slice (some ⟨b,o,none⟩) n c]).run P w= .ok (.tuple #[]) (w.setCells b o l):=by
 have hst:=run_storeCells_cells (P:=P) b o l 0 w (by simpa using hc) (by simpa using hf) h1
 simp only[Nat.add_zero] at hst
 obtain⟨m,rfl⟩:∃m,n=m+1:=⟨n-1,by omega⟩
 simp[Builtin.clear_,run_underlying ht,hv,hl,hst]
theorem f9(c:Nat):∀(vs:List Value) (o:Nat) (w:World),(w.setCells c o vs).heap.size=w.heap.size/\(w.setCells c o vs).os=w.os/\(w.setCells c o vs).tape=w.tape/\(w.setCells c o vs).output=w.output/\∀k,k≠c->(w.setCells c o vs).heap[k]? =w.heap[k]?
 |[],o,w=>⟨rfl,rfl,rfl,rfl,λ_ _=>rfl⟩
 |v::vs,o,w=>by
  obtain⟨h1,h2,h3,h4,h5⟩:=f9 c vs (o+1) (w.setCell ⟨c,o,none⟩ v)
  refine⟨h1.trans (by simp[World.setCell]),h2,h3,h4,λk hk=>(h5 k hk).trans ?_⟩
  simp only[World.setCell,Array.getElem?_modify]
  rw[if_neg (Ne.symm hk)]
theorem ki{w:World}{c:Nat}{arr:Array Value}{t:TypeId}(h:w.heap[c]? =some (.cells arr t (0,0))){q:Nat}(hq:q<arr.size):w.cell? ⟨c,q,none⟩=some (arr.getD q undef)/\w.frozen? ⟨c,q,none⟩=false:=
 ⟨by simp[World.cell?,h,Array.getD,hq],by simp[World.frozen?,h]⟩
theorem Tryz.zeroIns:(Tryz.prog.info? 37).map (λi=>(i.zero,i.size,i.bytes))=some (some (.agg #[.int .i64 0,.int .i64 0,.int .i64 0,.int .i64 0,.int .u32 0]),5,40):=by kernel_rfl
theorem vW(w:World):(zeroValue 37).run Tryz.prog w= .ok (.agg #[.int .i64 0,.int .i64 0,.int .i64 0,.int .i64 0,.int .u32 0]) w:=by kernel_rfl
def f6(n:Nat):List Value:=(Builtin.zeroCells (Value.agg #[.int .i64 0,.int .i64 0,.int .i64 0,.int .i64 0,.int .u32 0]).cells n).toList
theorem vY(n:Nat):(f6 n).length=n*5:=by
 unfold f6
 simp[Builtin.zeroCells,Value.cells]
theorem vX(n:Nat):∀u ∈ f6 n,u.oneCell'=true:=by
 intro u hu
 unfold f6 Builtin.zeroCells at hu
 simp[Value.cells] at hu
 obtain⟨q,hq,rfl⟩:=hu
 have h5:q%5<5:=Nat.mod_lt _ (by decide)
 rcases cJ h5 with h|h|h|h|h<;>simp[h,Value.oneCell']
theorem xK(c k n i j:Nat)(arr:Array Value)(w:World)(hb:w.heap[c]? =some (.cells arr 37 (0,0)))(hsz:arr.size=k*5)(hn:n<=k)(hk:k<=9223372036854775807)(hij:i<j)(hj:j<=n)(h1:∀q,q<n*5->(arr.getD q undef).oneCell'=true):
  Calls Tryz.prog 77 #[.slice (some ⟨c,0,none⟩) n k,.int .i64 i,.int .i64 j] w λe w'=>e= .returned (.slice (some ⟨c,0,none⟩) (i+(n-j)) k)/\
   ∃arr2,w'.heap[c]? =some (.cells arr2 37 (0,0))/\arr2.size=arr.size/\(∀q,q<i*5->arr2[q]? =arr[q]?)/\(∀q,q<(n-j)*5->arr2[i*5+q]? =arr[j*5+q]?)/\w'.heap.size=w.heap.size/\w'.os=w.os/\w'.tape=w.tape/\w'.output=w.output/\∀q,q≠c->w'.heap[q]? =w.heap[q]? :=by
 obtain⟨i0,hi0,hz0,hz1,hz2⟩:=info_parts Tryz.zeroIns
 obtain⟨news,hnews⟩:∃news,news=(arr.toList.drop (j*5)).take ((n-j)*5):=⟨_,rfl⟩
 have hlen:news.length=(n-j)*5:=by rw[hnews,List.length_take,List.length_drop,Array.length_toList];omega
 have hget:∀t,t<(n-j)*5->news[t]? =arr[j*5+t]? :=by
  intro t ht
  rw[hnews,List.getElem?_take_of_lt ht,List.getElem?_drop,Array.getElem?_toList]
 have hbd:w.drew.heap[c]? =some (.cells arr 37 (0,0)):=hb
 have hsome:∀t u,news[t]? =some u->t<(n-j)*5:=λt u hu=>by
  have:=(List.getElem?_eq_some_iff.1 hu).1
  rwa [hlen] at this
 obtain⟨A,hA,hsrc⟩:∃A:Addr,(if k=j then some (⟨c,0,none⟩:Addr) else some ⟨c,j*5,none⟩)=some A/\Hid (∀t u,news[t]? =some u->w.drew.cell? (A.add t)=some u):=by
  by_cases h:k=j
  ·refine⟨⟨c,0,none⟩,by simp[h],λt u hu=>?_⟩
   have:=hsome t u hu
   omega
  ·refine⟨⟨c,j*5,none⟩,by simp[h],λt u hu=>?_⟩
   have ht:=hsome t u hu
   rw[hget t ht] at hu
   have hq:j*5+t<arr.size:=by omega
   rw[Addr.add_lit,(ki hbd hq).1,<-hu,Array.getD_eq_getD_getElem?,Array.getElem?_eq_getElem hq,Option.getD_some]
 have s1:Hid (news.length=(n-j)*5):=hlen
 have s2:Hid (∀u ∈ news,u.oneCell'=true):=by
  intro u hu
  obtain⟨t,ht,rfl⟩:=List.getElem_of_mem hu
  rw[hlen] at ht
  have e:=hget t ht
  have hq:j*5+t<arr.size:=by omega
  rw[List.getElem?_eq_getElem (by omega),Array.getElem?_eq_getElem hq,Option.some.injEq] at e
  rw[e]
  have:=h1 (j*5+t) (by omega)
  rwa [Array.getD_eq_getD_getElem?,Array.getElem?_eq_getElem hq,Option.getD_some] at this
 have s3:Hid (∀t,t<news.length->(w.drew.cell? ⟨c,0+i*5+t,none⟩).isSome=true/\w.drew.frozen? ⟨c,0+i*5+t,none⟩=false):=by
  intro t ht
  rw[hlen] at ht
  have hq:0+i*5+t<arr.size:=by omega
  obtain⟨e1,e2⟩:=ki hbd hq
  exact⟨by rw[e1];rfl,e2⟩
 obtain⟨W1,hW1⟩:∃W1,W1=w.drew.setCells c (0+i*5) news:=⟨_,rfl⟩
 obtain⟨arr1,k1,k2,k3,k4⟩:=eI c news (0+i*5) w.drew arr 37 (0,0) hbd (by rw[hlen];omega)
 obtain⟨m1,m2,m3,m4,m5⟩:=f9 c news (0+i*5) w.drew
 rw[<-hW1] at k1 m1 m2 m3 m4 m5
 have hzl:=vY (n-(i+(n-j)))
 have hcl:∀ty,(Builtin.clear_ #[23] ty #[.slice (some ⟨c,(i+(n-j))*5,none⟩) (n-(i+(n-j))) (k-(i+(n-j)))]).run Tryz.prog W1= .ok (.tuple #[]) (W1.setCells c ((i+(n-j))*5) (f6 (n-(i+(n-j))))):=
  λty=>m9 W1 _ _ ty _ Tryz.underlying23 vW _ c _ _ _ rfl (vX _) (by omega) (λt ht=>by
   show(W1.cell? _).isSome=true
   rw[(ki k1 (by change t<(f6 _).length at ht;omega)).1];rfl) (λt ht=>(ki k1 (by change t<(f6 _).length at ht;omega)).2)
 have fin:∃arr2,(W1.setCells c ((i+(n-j))*5) (f6 (n-(i+(n-j))))).heap[c]? =some (.cells arr2 37 (0,0))/\arr2.size=arr.size/\(∀q,q<i*5->arr2[q]? =arr[q]?)/\(∀q,q<(n-j)*5->arr2[i*5+q]? =arr[j*5+q]?)/\(W1.setCells c ((i+(n-j))*5) (f6 (n-(i+(n-j))))).heap.size=w.heap.size/\(W1.setCells c ((i+(n-j))*5) (f6 (n-(i+(n-j))))).os=w.os/\(W1.setCells c ((i+(n-j))*5) (f6 (n-(i+(n-j))))).tape=w.tape/\(W1.setCells c ((i+(n-j))*5) (f6 (n-(i+(n-j))))).output=w.output/\∀q,q≠c->(W1.setCells c ((i+(n-j))*5) (f6 (n-(i+(n-j))))).heap[q]? =w.heap[q]? :=by
  obtain⟨arr2,g1,g2,g3,g4⟩:=eI c (f6 (n-(i+(n-j)))) ((i+(n-j))*5) W1 arr1 37 (0,0) k1 (by rw[hzl];omega)
  obtain⟨l1,l2,l3,l4,l5⟩:=f9 c (f6 (n-(i+(n-j)))) ((i+(n-j))*5) W1
  refine⟨arr2,g1,g2.trans k2,λq hq=>?_,λq hq=>?_,l1.trans m1,l2.trans m2,l3.trans m3,l4.trans m4,λq hq=>(l5 q hq).trans (m5 q hq)⟩
  ·rw[g3 q (by omega),k3 q (by omega)]
  ·have e:=k4 q (by rw[hlen];exact hq)
   rw[Nat.zero_add,hget q hq] at e
   rw[g3 (i*5+q) (by omega),e]
 have F:Hid (∃arr2,(W1.setCells c ((i+(n-j))*5) (f6 (n-(i+(n-j))))).heap[c]? =some (.cells arr2 37 (0,0))/\arr2.size=arr.size/\(∀q,q<i*5->arr2[q]? =arr[q]?)/\(∀q,q<(n-j)*5->arr2[i*5+q]? =arr[j*5+q]?)/\(W1.setCells c ((i+(n-j))*5) (f6 (n-(i+(n-j))))).heap.size=w.heap.size/\(W1.setCells c ((i+(n-j))*5) (f6 (n-(i+(n-j))))).os=w.os/\(W1.setCells c ((i+(n-j))*5) (f6 (n-(i+(n-j))))).tape=w.tape/\(W1.setCells c ((i+(n-j))*5) (f6 (n-(i+(n-j))))).output=w.output/\∀q,q≠c->(W1.setCells c ((i+(n-j))*5) (f6 (n-(i+(n-j))))).heap[q]? =w.heap[q]?):=fin
 have hW:Hid (W1=w.drew.setCells c (0+i*5) news):=hW1
 have hic:i<=k:=by omega
 have hjc:j<=k:=by omega
 have hkne:¬k=i+(n-j):=by omega
 clear fin k1 k2 k3 k4 m1 m2 m3 m4 m5 hzl hW1 hbd hsome hget hnews hlen h1 hb
 go_enter Tryz.func77,Tryz.ntmps77
 go_wp2_with fail
 go_region_law (refine step_append_room rfl (.tmp 22) (.tmp 25) 23 rfl 37 i0 5 Tryz.underlying23 hi0 hz1 c 0 i k (by simp[Act.eval,Act.put]) A (n-j) (k-j) news (by simp[Act.eval,Act.put]) s1.out hsrc.out s2.out (by omega) s3.out ?_;rw[<-hW.out])
 go_wp2_with (simp only[hcl])
 go_ret
 exact⟨rfl,F.out⟩
end Go.Proofs.YtidhfimbnjaceaaGreat