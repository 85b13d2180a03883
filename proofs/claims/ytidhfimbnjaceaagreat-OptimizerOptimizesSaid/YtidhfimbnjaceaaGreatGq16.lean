/- A part of the proof of OptimizerOptimizes: D E0 Rb. No condition. -/
import Derived.Carry
import Derived.Lib.Hide
import Derived.Test.YtidhfimbnjaceaaGreatGq14
import Derived.Test.YtidhfimbnjaceaaGreatGq15
import Derived.Test.YtidhfimbnjaceaaGreatGq03
set_option linter.unusedSimpArgs false
set_option linter.unusedVariables false
set_option linter.constructorNameAsVariable false
set_option maxRecDepth 100000
set_option maxHeartbeats 4000000
namespace Go.Proofs.YtidhfimbnjaceaaGreat
open Go.RowKit
def ag:Array MapEntry:= #[{key:= .int .i64 8,val:= .func (.func 120) #[] #[],born:=0},
 {key:= .int .i64 9,val:= .func (.func 121) #[] #[],born:=1},
 {key:= .int .i64 10,val:= .func (.func 122) #[] #[],born:=2},
 {key:= .int .i64 11,val:= .func (.func 123) #[] #[],born:=3},
 {key:= .int .i64 12,val:= .func (.func 124) #[] #[],born:=4},
 {key:= .int .i64 13,val:= .func (.func 125) #[] #[],born:=5},
 {key:= .int .i64 14,val:= .func (.func 126) #[] #[],born:=6},
 {key:= .int .i64 15,val:= .func (.func 127) #[] #[],born:=7},
 {key:= .int .i64 16,val:= .func (.func 128) #[] #[],born:=8},
 {key:= .int .i64 17,val:= .func (.func 129) #[] #[],born:=9},
 {key:= .int .i64 18,val:= .func (.func 130) #[] #[],born:=10},
 {key:= .int .i64 19,val:= .func (.func 131) #[] #[],born:=11},
 {key:= .int .i64 20,val:= .func (.func 132) #[] #[],born:=12},
 {key:= .int .i64 21,val:= .func (.func 133) #[] #[],born:=13},
 {key:= .int .i64 22,val:= .func (.func 135) #[] #[],born:=14},
 {key:= .int .i64 23,val:= .func (.func 136) #[] #[],born:=15},
 {key:= .int .i64 24,val:= .func (.func 137) #[] #[],born:=16},
 {key:= .int .i64 25,val:= .func (.func 138) #[] #[],born:=17},
 {key:= .int .i64 26,val:= .func (.func 139) #[] #[],born:=18}]
theorem aA(w:World):
  Calls Tryz.prog 113 #[] w λe w'=>e= .returned (.map (some w.heap.size))/\w'=w.alloc (.map ag 19):=by
 have hmm:=λ(t:TypeId) (w:World)=>run_makeMap (P:=Tryz.prog) t w
 have hup:=λ(w:World) es c k v h=>iw (P:=Tryz.prog) (T:=166) Tryz.underlying166 Tryz.underlying3 w es c k v h
 have hup0:=λ(w:World) k v=>iw (P:=Tryz.prog) (T:=166) Tryz.underlying166 Tryz.underlying3 w #[] 0 k v rfl
 go_enter Tryz.func113,Tryz.ntmps113
 go_wp2
 go_ret
 exact⟨rfl,rfl⟩
theorem bD(w:World):(zeroValue 143).run Tryz.prog w= .ok .nilFunc w:=by kernel_rfl
theorem bE:j3 ag.toList=true:=by decide
theorem bn{k l:IntKind}{a b c d:Int}(h:a=b)(h2:c=d):Ending.returned (.tuple #[.int k a,.int l c])= .returned (.tuple #[.int k b,.int l d]):=by rw[h,h2]
theorem tW(a b:Int):aR 8 a b=(a+b)%4294967296:=by simp[aR]
theorem tV(a b:Int):aR 9 a b=(a-b)%4294967296:=by simp[aR]
theorem rC(a b:Int):aR 10 a b=(a*b)%4294967296:=by simp[aR]
theorem rB(a b:Int):aR 11 a b=a / b:=by simp[aR]
theorem rA(a b:Int):aR 12 a b=a%b:=by simp[aR]
theorem ry(a b:Int):aR 13 a b=bits .and .u32 a b:=by simp[aR]
theorem rx(a b:Int):aR 14 a b=bits .or .u32 a b:=by simp[aR]
theorem rv(a b:Int):aR 15 a b=bits .xor .u32 a b:=by simp[aR]
theorem ru(a b:Int):aR 16 a b=a*2^(b%32).toNat%4294967296:=by simp[aR]
theorem ro(a b:Int):aR 17 a b=a / 2^(b%32).toNat:=by simp[aR]
theorem rn(a b:Int):aR 18 a b=min a b:=by simp[aR]
theorem rm(a b:Int):aR 19 a b=max a b:=by simp[aR]
theorem rl(a b:Int):aR 20 a b=kB a b:=by simp[aR]
theorem rk(a b:Int):aR 21 a b=aN (a==b):=by simp[aR]
theorem rj(a b:Int):aR 22 a b=aN (decide (a<b)):=by simp[aR]
theorem ri(a b:Int):aR 23 a b=aN (a==0):=by simp[aR]
theorem rh(a b:Int):aR 24 a b=aN (a != 0&&b != 0):=by simp[aR]
theorem rg(a b:Int):aR 25 a b=aN (a != 0||b != 0):=by simp[aR]
theorem rf(a b:Int):aR 26 a b=aN (a != 0):=by simp[aR]
theorem Af(a b:Int)(ha0:0<=a)(ha1:a<4294967296)(hb0:0<=b)(hb1:b<4294967296)(w:World):
  Calls Tryz.prog 92 #[.int .i64 8,.int .u32 a,.int .u32 b] w λe w'=>e= .returned (.tuple #[.int .u32 (aR 8 a b),.int .i64 0])/\Below w.heap.size w w':=by
 have hl:=aO (P:=Tryz.prog) (T:=166) Tryz.underlying166 Tryz.underlying3 (w.alloc (.map ag 19)) w.heap.size ag 19 (heap_alloc_new w _) 8 bE .nilFunc (bD _)
 have hv:cI 8 ag.toList=some (.func (.func 120) #[] #[]):=by rfl
 rw[hv] at hl
 simp only[Option.getD_some,Option.isSome_some] at hl
 rcases Bool.eq_false_or_eq_true (b==0) with hz|hz
 all_goals go_enter Tryz.func92,Tryz.ntmps92
 all_goals go_wp2_with (first|(go_at_call 113;refine(aA _).mono ?_;rintro e w' ⟨rfl,rfl⟩)|(go_at_call 120;refine(Vb a b ha0 ha1 hb0 hb1 _).mono ?_;rintro e w' ⟨rfl,rfl⟩))
 all_goals go_ret2
 all_goals exact⟨bn (tW a b).symm rfl,(Below.refl _ _).alloc (Nat.le_refl _) _⟩
theorem Ae(a b:Int)(ha0:0<=a)(ha1:a<4294967296)(hb0:0<=b)(hb1:b<4294967296)(w:World):
  Calls Tryz.prog 92 #[.int .i64 9,.int .u32 a,.int .u32 b] w λe w'=>e= .returned (.tuple #[.int .u32 (aR 9 a b),.int .i64 0])/\Below w.heap.size w w':=by
 have hl:=aO (P:=Tryz.prog) (T:=166) Tryz.underlying166 Tryz.underlying3 (w.alloc (.map ag 19)) w.heap.size ag 19 (heap_alloc_new w _) 9 bE .nilFunc (bD _)
 have hv:cI 9 ag.toList=some (.func (.func 121) #[] #[]):=by rfl
 rw[hv] at hl
 simp only[Option.getD_some,Option.isSome_some] at hl
 rcases Bool.eq_false_or_eq_true (b==0) with hz|hz
 all_goals go_enter Tryz.func92,Tryz.ntmps92
 all_goals go_wp2_with (first|(go_at_call 113;refine(aA _).mono ?_;rintro e w' ⟨rfl,rfl⟩)|(go_at_call 121;refine(Va a b ha0 ha1 hb0 hb1 _).mono ?_;rintro e w' ⟨rfl,rfl⟩))
 all_goals go_ret2
 all_goals exact⟨bn (tV a b).symm rfl,(Below.refl _ _).alloc (Nat.le_refl _) _⟩
theorem yM(a b:Int)(ha0:0<=a)(ha1:a<4294967296)(hb0:0<=b)(hb1:b<4294967296)(w:World):
  Calls Tryz.prog 92 #[.int .i64 10,.int .u32 a,.int .u32 b] w λe w'=>e= .returned (.tuple #[.int .u32 (aR 10 a b),.int .i64 0])/\Below w.heap.size w w':=by
 have hl:=aO (P:=Tryz.prog) (T:=166) Tryz.underlying166 Tryz.underlying3 (w.alloc (.map ag 19)) w.heap.size ag 19 (heap_alloc_new w _) 10 bE .nilFunc (bD _)
 have hv:cI 10 ag.toList=some (.func (.func 122) #[] #[]):=by rfl
 rw[hv] at hl
 simp only[Option.getD_some,Option.isSome_some] at hl
 rcases Bool.eq_false_or_eq_true (b==0) with hz|hz
 all_goals go_enter Tryz.func92,Tryz.ntmps92
 all_goals go_wp2_with (first|(go_at_call 113;refine(aA _).mono ?_;rintro e w' ⟨rfl,rfl⟩)|(go_at_call 122;refine(U9 a b ha0 ha1 hb0 hb1 _).mono ?_;rintro e w' ⟨rfl,rfl⟩))
 all_goals go_ret2
 all_goals exact⟨bn (rC a b).symm rfl,(Below.refl _ _).alloc (Nat.le_refl _) _⟩
theorem yL(a b:Int)(ha0:0<=a)(ha1:a<4294967296)(hb0:0<=b)(hb1:b<4294967296)(hb:¬b=0)(w:World):
  Calls Tryz.prog 92 #[.int .i64 11,.int .u32 a,.int .u32 b] w λe w'=>e= .returned (.tuple #[.int .u32 (aR 11 a b),.int .i64 0])/\Below w.heap.size w w':=by
 have hl:=aO (P:=Tryz.prog) (T:=166) Tryz.underlying166 Tryz.underlying3 (w.alloc (.map ag 19)) w.heap.size ag 19 (heap_alloc_new w _) 11 bE .nilFunc (bD _)
 have hv:cI 11 ag.toList=some (.func (.func 123) #[] #[]):=by rfl
 rw[hv] at hl
 simp only[Option.getD_some,Option.isSome_some] at hl
 have hb':(b==0)=false:=by simpa using hb
 go_enter Tryz.func92,Tryz.ntmps92
 go_wp2_with (first|(go_at_call 113;refine(aA _).mono ?_;rintro e w' ⟨rfl,rfl⟩)|(go_at_call 123;refine(U8 a b ha0 ha1 hb0 hb1 hb _).mono ?_;rintro e w' ⟨rfl,rfl⟩))
 all_goals go_ret2
 all_goals exact⟨bn (rB a b).symm rfl,(Below.refl _ _).alloc (Nat.le_refl _) _⟩
theorem yK(a b:Int)(ha0:0<=a)(ha1:a<4294967296)(hb0:0<=b)(hb1:b<4294967296)(hb:¬b=0)(w:World):
  Calls Tryz.prog 92 #[.int .i64 12,.int .u32 a,.int .u32 b] w λe w'=>e= .returned (.tuple #[.int .u32 (aR 12 a b),.int .i64 0])/\Below w.heap.size w w':=by
 have hl:=aO (P:=Tryz.prog) (T:=166) Tryz.underlying166 Tryz.underlying3 (w.alloc (.map ag 19)) w.heap.size ag 19 (heap_alloc_new w _) 12 bE .nilFunc (bD _)
 have hv:cI 12 ag.toList=some (.func (.func 124) #[] #[]):=by rfl
 rw[hv] at hl
 simp only[Option.getD_some,Option.isSome_some] at hl
 have hb':(b==0)=false:=by simpa using hb
 go_enter Tryz.func92,Tryz.ntmps92
 go_wp2_with (first|(go_at_call 113;refine(aA _).mono ?_;rintro e w' ⟨rfl,rfl⟩)|(go_at_call 124;refine(U7 a b ha0 ha1 hb0 hb1 hb _).mono ?_;rintro e w' ⟨rfl,rfl⟩))
 all_goals go_ret2
 all_goals exact⟨bn (rA a b).symm rfl,(Below.refl _ _).alloc (Nat.le_refl _) _⟩
theorem yJ(a b:Int)(ha0:0<=a)(ha1:a<4294967296)(hb0:0<=b)(hb1:b<4294967296)(w:World):
  Calls Tryz.prog 92 #[.int .i64 13,.int .u32 a,.int .u32 b] w λe w'=>e= .returned (.tuple #[.int .u32 (aR 13 a b),.int .i64 0])/\Below w.heap.size w w':=by
 have hl:=aO (P:=Tryz.prog) (T:=166) Tryz.underlying166 Tryz.underlying3 (w.alloc (.map ag 19)) w.heap.size ag 19 (heap_alloc_new w _) 13 bE .nilFunc (bD _)
 have hv:cI 13 ag.toList=some (.func (.func 125) #[] #[]):=by rfl
 rw[hv] at hl
 simp only[Option.getD_some,Option.isSome_some] at hl
 rcases Bool.eq_false_or_eq_true (b==0) with hz|hz
 all_goals go_enter Tryz.func92,Tryz.ntmps92
 all_goals go_wp2_with (first|(go_at_call 113;refine(aA _).mono ?_;rintro e w' ⟨rfl,rfl⟩)|(go_at_call 125;refine(U6 a b ha0 ha1 hb0 hb1 _).mono ?_;rintro e w' ⟨rfl,rfl⟩))
 all_goals go_ret2
 all_goals exact⟨bn (ry a b).symm rfl,(Below.refl _ _).alloc (Nat.le_refl _) _⟩
theorem yI(a b:Int)(ha0:0<=a)(ha1:a<4294967296)(hb0:0<=b)(hb1:b<4294967296)(w:World):
  Calls Tryz.prog 92 #[.int .i64 14,.int .u32 a,.int .u32 b] w λe w'=>e= .returned (.tuple #[.int .u32 (aR 14 a b),.int .i64 0])/\Below w.heap.size w w':=by
 have hl:=aO (P:=Tryz.prog) (T:=166) Tryz.underlying166 Tryz.underlying3 (w.alloc (.map ag 19)) w.heap.size ag 19 (heap_alloc_new w _) 14 bE .nilFunc (bD _)
 have hv:cI 14 ag.toList=some (.func (.func 126) #[] #[]):=by rfl
 rw[hv] at hl
 simp only[Option.getD_some,Option.isSome_some] at hl
 rcases Bool.eq_false_or_eq_true (b==0) with hz|hz
 all_goals go_enter Tryz.func92,Tryz.ntmps92
 all_goals go_wp2_with (first|(go_at_call 113;refine(aA _).mono ?_;rintro e w' ⟨rfl,rfl⟩)|(go_at_call 126;refine(U5 a b ha0 ha1 hb0 hb1 _).mono ?_;rintro e w' ⟨rfl,rfl⟩))
 all_goals go_ret2
 all_goals exact⟨bn (rx a b).symm rfl,(Below.refl _ _).alloc (Nat.le_refl _) _⟩
theorem yH(a b:Int)(ha0:0<=a)(ha1:a<4294967296)(hb0:0<=b)(hb1:b<4294967296)(w:World):
  Calls Tryz.prog 92 #[.int .i64 15,.int .u32 a,.int .u32 b] w λe w'=>e= .returned (.tuple #[.int .u32 (aR 15 a b),.int .i64 0])/\Below w.heap.size w w':=by
 have hl:=aO (P:=Tryz.prog) (T:=166) Tryz.underlying166 Tryz.underlying3 (w.alloc (.map ag 19)) w.heap.size ag 19 (heap_alloc_new w _) 15 bE .nilFunc (bD _)
 have hv:cI 15 ag.toList=some (.func (.func 127) #[] #[]):=by rfl
 rw[hv] at hl
 simp only[Option.getD_some,Option.isSome_some] at hl
 rcases Bool.eq_false_or_eq_true (b==0) with hz|hz
 all_goals go_enter Tryz.func92,Tryz.ntmps92
 all_goals go_wp2_with (first|(go_at_call 113;refine(aA _).mono ?_;rintro e w' ⟨rfl,rfl⟩)|(go_at_call 127;refine(U4 a b ha0 ha1 hb0 hb1 _).mono ?_;rintro e w' ⟨rfl,rfl⟩))
 all_goals go_ret2
 all_goals exact⟨bn (rv a b).symm rfl,(Below.refl _ _).alloc (Nat.le_refl _) _⟩
theorem yG(a b:Int)(ha0:0<=a)(ha1:a<4294967296)(hb0:0<=b)(hb1:b<4294967296)(w:World):
  Calls Tryz.prog 92 #[.int .i64 16,.int .u32 a,.int .u32 b] w λe w'=>e= .returned (.tuple #[.int .u32 (aR 16 a b),.int .i64 0])/\Below w.heap.size w w':=by
 have hl:=aO (P:=Tryz.prog) (T:=166) Tryz.underlying166 Tryz.underlying3 (w.alloc (.map ag 19)) w.heap.size ag 19 (heap_alloc_new w _) 16 bE .nilFunc (bD _)
 have hv:cI 16 ag.toList=some (.func (.func 128) #[] #[]):=by rfl
 rw[hv] at hl
 simp only[Option.getD_some,Option.isSome_some] at hl
 rcases Bool.eq_false_or_eq_true (b==0) with hz|hz
 all_goals go_enter Tryz.func92,Tryz.ntmps92
 all_goals go_wp2_with (first|(go_at_call 113;refine(aA _).mono ?_;rintro e w' ⟨rfl,rfl⟩)|(go_at_call 128;refine(U3 a b ha0 ha1 hb0 hb1 _).mono ?_;rintro e w' ⟨rfl,rfl⟩))
 all_goals go_ret2
 all_goals exact⟨bn (ru a b).symm rfl,(Below.refl _ _).alloc (Nat.le_refl _) _⟩
theorem yF(a b:Int)(ha0:0<=a)(ha1:a<4294967296)(hb0:0<=b)(hb1:b<4294967296)(w:World):
  Calls Tryz.prog 92 #[.int .i64 17,.int .u32 a,.int .u32 b] w λe w'=>e= .returned (.tuple #[.int .u32 (aR 17 a b),.int .i64 0])/\Below w.heap.size w w':=by
 have hl:=aO (P:=Tryz.prog) (T:=166) Tryz.underlying166 Tryz.underlying3 (w.alloc (.map ag 19)) w.heap.size ag 19 (heap_alloc_new w _) 17 bE .nilFunc (bD _)
 have hv:cI 17 ag.toList=some (.func (.func 129) #[] #[]):=by rfl
 rw[hv] at hl
 simp only[Option.getD_some,Option.isSome_some] at hl
 rcases Bool.eq_false_or_eq_true (b==0) with hz|hz
 all_goals go_enter Tryz.func92,Tryz.ntmps92
 all_goals go_wp2_with (first|(go_at_call 113;refine(aA _).mono ?_;rintro e w' ⟨rfl,rfl⟩)|(go_at_call 129;refine(IV a b ha0 ha1 hb0 hb1 _).mono ?_;rintro e w' ⟨rfl,rfl⟩))
 all_goals go_ret2
 all_goals exact⟨bn (ro a b).symm rfl,(Below.refl _ _).alloc (Nat.le_refl _) _⟩
theorem yE(a b:Int)(ha0:0<=a)(ha1:a<4294967296)(hb0:0<=b)(hb1:b<4294967296)(w:World):
  Calls Tryz.prog 92 #[.int .i64 18,.int .u32 a,.int .u32 b] w λe w'=>e= .returned (.tuple #[.int .u32 (aR 18 a b),.int .i64 0])/\Below w.heap.size w w':=by
 have hl:=aO (P:=Tryz.prog) (T:=166) Tryz.underlying166 Tryz.underlying3 (w.alloc (.map ag 19)) w.heap.size ag 19 (heap_alloc_new w _) 18 bE .nilFunc (bD _)
 have hv:cI 18 ag.toList=some (.func (.func 130) #[] #[]):=by rfl
 rw[hv] at hl
 simp only[Option.getD_some,Option.isSome_some] at hl
 rcases Bool.eq_false_or_eq_true (b==0) with hz|hz
 all_goals go_enter Tryz.func92,Tryz.ntmps92
 all_goals go_wp2_with (first|(go_at_call 113;refine(aA _).mono ?_;rintro e w' ⟨rfl,rfl⟩)|(go_at_call 130;refine(IU a b ha0 ha1 hb0 hb1 _).mono ?_;rintro e w' ⟨rfl,rfl⟩))
 all_goals go_ret2
 all_goals exact⟨bn (rn a b).symm rfl,(Below.refl _ _).alloc (Nat.le_refl _) _⟩
theorem yD(a b:Int)(ha0:0<=a)(ha1:a<4294967296)(hb0:0<=b)(hb1:b<4294967296)(w:World):
  Calls Tryz.prog 92 #[.int .i64 19,.int .u32 a,.int .u32 b] w λe w'=>e= .returned (.tuple #[.int .u32 (aR 19 a b),.int .i64 0])/\Below w.heap.size w w':=by
 have hl:=aO (P:=Tryz.prog) (T:=166) Tryz.underlying166 Tryz.underlying3 (w.alloc (.map ag 19)) w.heap.size ag 19 (heap_alloc_new w _) 19 bE .nilFunc (bD _)
 have hv:cI 19 ag.toList=some (.func (.func 131) #[] #[]):=by rfl
 rw[hv] at hl
 simp only[Option.getD_some,Option.isSome_some] at hl
 rcases Bool.eq_false_or_eq_true (b==0) with hz|hz
 all_goals go_enter Tryz.func92,Tryz.ntmps92
 all_goals go_wp2_with (first|(go_at_call 113;refine(aA _).mono ?_;rintro e w' ⟨rfl,rfl⟩)|(go_at_call 131;refine(IR a b ha0 ha1 hb0 hb1 _).mono ?_;rintro e w' ⟨rfl,rfl⟩))
 all_goals go_ret2
 all_goals exact⟨bn (rm a b).symm rfl,(Below.refl _ _).alloc (Nat.le_refl _) _⟩
theorem yC(a b:Int)(ha0:0<=a)(ha1:a<4294967296)(hb0:0<=b)(hb1:b<4294967296)(w:World):
  Calls Tryz.prog 92 #[.int .i64 20,.int .u32 a,.int .u32 b] w λe w'=>e= .returned (.tuple #[.int .u32 (aR 20 a b),.int .i64 0])/\Below w.heap.size w w':=by
 have hl:=aO (P:=Tryz.prog) (T:=166) Tryz.underlying166 Tryz.underlying3 (w.alloc (.map ag 19)) w.heap.size ag 19 (heap_alloc_new w _) 20 bE .nilFunc (bD _)
 have hv:cI 20 ag.toList=some (.func (.func 132) #[] #[]):=by rfl
 rw[hv] at hl
 simp only[Option.getD_some,Option.isSome_some] at hl
 rcases Bool.eq_false_or_eq_true (b==0) with hz|hz
 all_goals go_enter Tryz.func92,Tryz.ntmps92
 all_goals go_wp2_with (first|(go_at_call 113;refine(aA _).mono ?_;rintro e w' ⟨rfl,rfl⟩)|(go_at_call 132;refine(xi a b ha0 ha1 hb0 hb1 _).mono ?_;rintro e w' ⟨rfl,rfl⟩))
 all_goals go_ret2
 all_goals exact⟨bn (rl a b).symm rfl,(Below.refl _ _).alloc (Nat.le_refl _) _⟩
theorem yB(a b:Int)(ha0:0<=a)(ha1:a<4294967296)(hb0:0<=b)(hb1:b<4294967296)(w:World):
  Calls Tryz.prog 92 #[.int .i64 21,.int .u32 a,.int .u32 b] w λe w'=>e= .returned (.tuple #[.int .u32 (aR 21 a b),.int .i64 0])/\Below w.heap.size w w':=by
 have hl:=aO (P:=Tryz.prog) (T:=166) Tryz.underlying166 Tryz.underlying3 (w.alloc (.map ag 19)) w.heap.size ag 19 (heap_alloc_new w _) 21 bE .nilFunc (bD _)
 have hv:cI 21 ag.toList=some (.func (.func 133) #[] #[]):=by rfl
 rw[hv] at hl
 simp only[Option.getD_some,Option.isSome_some] at hl
 rcases Bool.eq_false_or_eq_true (b==0) with hz|hz
 all_goals go_enter Tryz.func92,Tryz.ntmps92
 all_goals go_wp2_with (first|(go_at_call 113;refine(aA _).mono ?_;rintro e w' ⟨rfl,rfl⟩)|(go_at_call 133;refine(IQ a b ha0 ha1 hb0 hb1 _).mono ?_;rintro e w' ⟨rfl,rfl⟩))
 all_goals go_ret2
 all_goals exact⟨bn (rk a b).symm rfl,(Below.refl _ _).alloc (Nat.le_refl _) _⟩
theorem yA(a b:Int)(ha0:0<=a)(ha1:a<4294967296)(hb0:0<=b)(hb1:b<4294967296)(w:World):
  Calls Tryz.prog 92 #[.int .i64 22,.int .u32 a,.int .u32 b] w λe w'=>e= .returned (.tuple #[.int .u32 (aR 22 a b),.int .i64 0])/\Below w.heap.size w w':=by
 have hl:=aO (P:=Tryz.prog) (T:=166) Tryz.underlying166 Tryz.underlying3 (w.alloc (.map ag 19)) w.heap.size ag 19 (heap_alloc_new w _) 22 bE .nilFunc (bD _)
 have hv:cI 22 ag.toList=some (.func (.func 135) #[] #[]):=by rfl
 rw[hv] at hl
 simp only[Option.getD_some,Option.isSome_some] at hl
 rcases Bool.eq_false_or_eq_true (b==0) with hz|hz
 all_goals go_enter Tryz.func92,Tryz.ntmps92
 all_goals go_wp2_with (first|(go_at_call 113;refine(aA _).mono ?_;rintro e w' ⟨rfl,rfl⟩)|(go_at_call 135;refine(IP a b ha0 ha1 hb0 hb1 _).mono ?_;rintro e w' ⟨rfl,rfl⟩))
 all_goals go_ret2
 all_goals exact⟨bn (rj a b).symm rfl,(Below.refl _ _).alloc (Nat.le_refl _) _⟩
theorem yz(a b:Int)(ha0:0<=a)(ha1:a<4294967296)(hb0:0<=b)(hb1:b<4294967296)(w:World):
  Calls Tryz.prog 92 #[.int .i64 23,.int .u32 a,.int .u32 b] w λe w'=>e= .returned (.tuple #[.int .u32 (aR 23 a b),.int .i64 0])/\Below w.heap.size w w':=by
 have hl:=aO (P:=Tryz.prog) (T:=166) Tryz.underlying166 Tryz.underlying3 (w.alloc (.map ag 19)) w.heap.size ag 19 (heap_alloc_new w _) 23 bE .nilFunc (bD _)
 have hv:cI 23 ag.toList=some (.func (.func 136) #[] #[]):=by rfl
 rw[hv] at hl
 simp only[Option.getD_some,Option.isSome_some] at hl
 rcases Bool.eq_false_or_eq_true (b==0) with hz|hz
 all_goals go_enter Tryz.func92,Tryz.ntmps92
 all_goals go_wp2_with (first|(go_at_call 113;refine(aA _).mono ?_;rintro e w' ⟨rfl,rfl⟩)|(go_at_call 136;refine(IM a b ha0 ha1 hb0 hb1 _).mono ?_;rintro e w' ⟨rfl,rfl⟩))
 all_goals go_ret2
 all_goals exact⟨bn (ri a b).symm rfl,(Below.refl _ _).alloc (Nat.le_refl _) _⟩
theorem yy(a b:Int)(ha0:0<=a)(ha1:a<4294967296)(hb0:0<=b)(hb1:b<4294967296)(w:World):
  Calls Tryz.prog 92 #[.int .i64 24,.int .u32 a,.int .u32 b] w λe w'=>e= .returned (.tuple #[.int .u32 (aR 24 a b),.int .i64 0])/\Below w.heap.size w w':=by
 have hl:=aO (P:=Tryz.prog) (T:=166) Tryz.underlying166 Tryz.underlying3 (w.alloc (.map ag 19)) w.heap.size ag 19 (heap_alloc_new w _) 24 bE .nilFunc (bD _)
 have hv:cI 24 ag.toList=some (.func (.func 137) #[] #[]):=by rfl
 rw[hv] at hl
 simp only[Option.getD_some,Option.isSome_some] at hl
 rcases Bool.eq_false_or_eq_true (b==0) with hz|hz
 all_goals go_enter Tryz.func92,Tryz.ntmps92
 all_goals go_wp2_with (first|(go_at_call 113;refine(aA _).mono ?_;rintro e w' ⟨rfl,rfl⟩)|(go_at_call 137;refine(IL a b ha0 ha1 hb0 hb1 _).mono ?_;rintro e w' ⟨rfl,rfl⟩))
 all_goals go_ret2
 all_goals exact⟨bn (rh a b).symm rfl,(Below.refl _ _).alloc (Nat.le_refl _) _⟩
theorem yx(a b:Int)(ha0:0<=a)(ha1:a<4294967296)(hb0:0<=b)(hb1:b<4294967296)(w:World):
  Calls Tryz.prog 92 #[.int .i64 25,.int .u32 a,.int .u32 b] w λe w'=>e= .returned (.tuple #[.int .u32 (aR 25 a b),.int .i64 0])/\Below w.heap.size w w':=by
 have hl:=aO (P:=Tryz.prog) (T:=166) Tryz.underlying166 Tryz.underlying3 (w.alloc (.map ag 19)) w.heap.size ag 19 (heap_alloc_new w _) 25 bE .nilFunc (bD _)
 have hv:cI 25 ag.toList=some (.func (.func 138) #[] #[]):=by rfl
 rw[hv] at hl
 simp only[Option.getD_some,Option.isSome_some] at hl
 rcases Bool.eq_false_or_eq_true (b==0) with hz|hz
 all_goals go_enter Tryz.func92,Tryz.ntmps92
 all_goals go_wp2_with (first|(go_at_call 113;refine(aA _).mono ?_;rintro e w' ⟨rfl,rfl⟩)|(go_at_call 138;refine(IK a b ha0 ha1 hb0 hb1 _).mono ?_;rintro e w' ⟨rfl,rfl⟩))
 all_goals go_ret2
 all_goals exact⟨bn (rg a b).symm rfl,(Below.refl _ _).alloc (Nat.le_refl _) _⟩
theorem yw(a b:Int)(ha0:0<=a)(ha1:a<4294967296)(hb0:0<=b)(hb1:b<4294967296)(w:World):
  Calls Tryz.prog 92 #[.int .i64 26,.int .u32 a,.int .u32 b] w λe w'=>e= .returned (.tuple #[.int .u32 (aR 26 a b),.int .i64 0])/\Below w.heap.size w w':=by
 have hl:=aO (P:=Tryz.prog) (T:=166) Tryz.underlying166 Tryz.underlying3 (w.alloc (.map ag 19)) w.heap.size ag 19 (heap_alloc_new w _) 26 bE .nilFunc (bD _)
 have hv:cI 26 ag.toList=some (.func (.func 139) #[] #[]):=by rfl
 rw[hv] at hl
 simp only[Option.getD_some,Option.isSome_some] at hl
 rcases Bool.eq_false_or_eq_true (b==0) with hz|hz
 all_goals go_enter Tryz.func92,Tryz.ntmps92
 all_goals go_wp2_with (first|(go_at_call 113;refine(aA _).mono ?_;rintro e w' ⟨rfl,rfl⟩)|(go_at_call 139;refine(IJ a b ha0 ha1 hb0 hb1 _).mono ?_;rintro e w' ⟨rfl,rfl⟩))
 all_goals go_ret2
 all_goals exact⟨bn (rf a b).symm rfl,(Below.refl _ _).alloc (Nat.le_refl _) _⟩
theorem s9(op a b:Int)(h:op<8\/26<op)(w:World):
  Calls Tryz.prog 92 #[.int .i64 op,.int .u32 a,.int .u32 b] w λe w'=>e= .returned (.tuple #[.int .u32 0,.int .i64 1])/\Below w.heap.size w w':=by
 have hl:=aO (P:=Tryz.prog) (T:=166) Tryz.underlying166 Tryz.underlying3 (w.alloc (.map ag 19)) w.heap.size ag 19 (heap_alloc_new w _) op bE .nilFunc (bD _)
 have hv:cI op ag.toList=none:=by
  simp only[ag,cI,gZ]
  repeat rw[if_neg (by omega)]
 rw[hv] at hl
 simp only[Option.getD_none,Option.isSome_none] at hl
 clear hv
 have HH:=Lib.hid h
 clear h
 go_enter Tryz.func92,Tryz.ntmps92
 go_wp2_with (go_at_call 113;refine(aA _).mono ?_;rintro e w' ⟨rfl,rfl⟩)
 all_goals go_ret2
 all_goals exact⟨rfl,(Below.refl _ _).alloc (Nat.le_refl _) _⟩
theorem vH(a:Int)(w:World):
  Calls Tryz.prog 92 #[.int .i64 11,.int .u32 a,.int .u32 0] w λe w'=>e= .returned (.tuple #[.int .u32 0,.int .i64 17])/\Below w.heap.size w w':=by
 have hl:=aO (P:=Tryz.prog) (T:=166) Tryz.underlying166 Tryz.underlying3 (w.alloc (.map ag 19)) w.heap.size ag 19 (heap_alloc_new w _) 11 bE .nilFunc (bD _)
 have hv:cI 11 ag.toList=some (.func (.func 123) #[] #[]):=by rfl
 rw[hv] at hl
 simp only[Option.getD_some,Option.isSome_some] at hl
 go_enter Tryz.func92,Tryz.ntmps92
 go_wp2_with (go_at_call 113;refine(aA _).mono ?_;rintro e w' ⟨rfl,rfl⟩)
 all_goals go_ret2
 all_goals exact⟨rfl,(Below.refl _ _).alloc (Nat.le_refl _) _⟩
theorem vG(a:Int)(w:World):
  Calls Tryz.prog 92 #[.int .i64 12,.int .u32 a,.int .u32 0] w λe w'=>e= .returned (.tuple #[.int .u32 0,.int .i64 17])/\Below w.heap.size w w':=by
 have hl:=aO (P:=Tryz.prog) (T:=166) Tryz.underlying166 Tryz.underlying3 (w.alloc (.map ag 19)) w.heap.size ag 19 (heap_alloc_new w _) 12 bE .nilFunc (bD _)
 have hv:cI 12 ag.toList=some (.func (.func 124) #[] #[]):=by rfl
 rw[hv] at hl
 simp only[Option.getD_some,Option.isSome_some] at hl
 go_enter Tryz.func92,Tryz.ntmps92
 go_wp2_with (go_at_call 113;refine(aA _).mono ?_;rintro e w' ⟨rfl,rfl⟩)
 all_goals go_ret2
 all_goals exact⟨rfl,(Below.refl _ _).alloc (Nat.le_refl _) _⟩
theorem yu(op a b:Int)(ha0:0<=a)(ha1:a<4294967296)(hb0:0<=b)(hb1:b<4294967296)(h:bg op b=0)(w:World):
  Calls Tryz.prog 92 #[.int .i64 op,.int .u32 a,.int .u32 b] w λe w'=>e= .returned (.tuple #[.int .u32 (aR op a b),.int .i64 0])/\Below w.heap.size w w':=by
 unfold bg at h
 split at h
 ·cases h
 rename_i h1
 split at h
 ·cases h
 rename_i h2
 have hc:op=8\/op=9\/op=10\/op=11\/op=12\/op=13\/op=14\/op=15\/op=16\/op=17\/op=18\/op=19\/op=20\/op=21\/op=22\/op=23\/op=24\/op=25\/op=26:=by omega
 rcases hc with rfl|rfl|rfl|rfl|rfl|rfl|rfl|rfl|rfl|rfl|rfl|rfl|rfl|rfl|rfl|rfl|rfl|rfl|rfl
 ·exact Af a b ha0 ha1 hb0 hb1 w
 ·exact Ae a b ha0 ha1 hb0 hb1 w
 ·exact yM a b ha0 ha1 hb0 hb1 w
 ·exact yL a b ha0 ha1 hb0 hb1 (by omega) w
 ·exact yK a b ha0 ha1 hb0 hb1 (by omega) w
 ·exact yJ a b ha0 ha1 hb0 hb1 w
 ·exact yI a b ha0 ha1 hb0 hb1 w
 ·exact yH a b ha0 ha1 hb0 hb1 w
 ·exact yG a b ha0 ha1 hb0 hb1 w
 ·exact yF a b ha0 ha1 hb0 hb1 w
 ·exact yE a b ha0 ha1 hb0 hb1 w
 ·exact yD a b ha0 ha1 hb0 hb1 w
 ·exact yC a b ha0 ha1 hb0 hb1 w
 ·exact yB a b ha0 ha1 hb0 hb1 w
 ·exact yA a b ha0 ha1 hb0 hb1 w
 ·exact yz a b ha0 ha1 hb0 hb1 w
 ·exact yy a b ha0 ha1 hb0 hb1 w
 ·exact yx a b ha0 ha1 hb0 hb1 w
 ·exact yw a b ha0 ha1 hb0 hb1 w
theorem vF(op a b:Int)(ha0:0<=a)(ha1:a<4294967296)(hb0:0<=b)(hb1:b<4294967296)(h:bg op b≠0)(w:World):
  Calls Tryz.prog 92 #[.int .i64 op,.int .u32 a,.int .u32 b] w λe w'=>e= .returned (.tuple #[.int .u32 0,.int .i64 (bg op b)])/\Below w.heap.size w w':=by
 unfold bg at h ⊢
 by_cases h1:op<8\/26<op
 ·rw[if_pos h1]
  exact s9 op a b h1 w
 ·rw[if_neg h1] at h ⊢
  by_cases h2:b=0/\(op=11\/op=12)
  ·rw[if_pos h2]
   obtain⟨rfl,rfl|rfl⟩:=h2
   ·exact vH a w
   ·exact vG a w
  ·rw[if_neg h2] at h;exact absurd rfl h
theorem bR(b:Bool)(w:World):Calls Tryz.prog 96 #[.bool b] w λe w'=>e= .returned (.int .u32 (aN b))/\w'=w:=by
 cases b
 all_goals
  go_enter Tryz.func96,Tryz.ntmps96
  go_wp2
  go_ret
  exact⟨rfl,rfl⟩
theorem bS(a b:Int)(ha0:0<=a)(ha1:a<4294967296)(hb0:0<=b)(hb1:b<4294967296)(w:World):
  Calls Tryz.prog 95 #[.int .u32 a,.int .u32 b] w λe w'=>e= .returned (.int .u32 (kB a b))/\w'=w:=by
 go_enter Tryz.func95,Tryz.ntmps95
 go_wp2
 go_ret
 refine⟨bU ?_,rfl⟩
 first|rfl|(simp[kB];done)
theorem wB(a b:Int)(ha0:0<=a)(ha1:a<4294967296)(hb0:0<=b)(hb1:b<4294967296)(w:World)(he:bg 8 b=0):
  Calls Tryz.prog 63 #[.int .i64 8,.int .u32 a,.int .u32 b] w λe w'=>e= .returned (.tuple #[.int .u32 (aR 8 a b),.int .i64 0])/\w'=w:=by
 clear he
 rcases Bool.eq_false_or_eq_true (a==0) with hz|hz
 all_goals rcases Bool.eq_false_or_eq_true (b==0) with hy|hy
 all_goals first
  |(exfalso;simp at hy;contradiction)
  |skip
 all_goals go_enter Tryz.func63,Tryz.ntmps63
 all_goals go_wp2_with (first|(go_at_call 96;refine(bR _ _).mono ?_;rintro e w' ⟨rfl,rfl⟩)|(go_at_call 95;refine(bS a b ha0 ha1 hb0 hb1 _).mono ?_;rintro e w' ⟨rfl,rfl⟩))
 all_goals go_ret2
 all_goals refine⟨bn (Eq.trans ?_ (tW a b).symm) rfl,rfl⟩
 all_goals first
  |rfl
  |(simp;done)
  |(simp[aN, *];done)
  |(simp_all [aN];done)
  |(simp[Int.tdiv_eq_ediv_of_nonneg ha0];exact Int.emod_eq_of_lt (Int.ediv_nonneg ha0 hb0) (Int.lt_of_le_of_lt (Int.ediv_le_self b ha0) ha1))
  |omega
theorem wA(a b:Int)(ha0:0<=a)(ha1:a<4294967296)(hb0:0<=b)(hb1:b<4294967296)(w:World)(he:bg 9 b=0):
  Calls Tryz.prog 63 #[.int .i64 9,.int .u32 a,.int .u32 b] w λe w'=>e= .returned (.tuple #[.int .u32 (aR 9 a b),.int .i64 0])/\w'=w:=by
 clear he
 rcases Bool.eq_false_or_eq_true (a==0) with hz|hz
 all_goals rcases Bool.eq_false_or_eq_true (b==0) with hy|hy
 all_goals first
  |(exfalso;simp at hy;contradiction)
  |skip
 all_goals go_enter Tryz.func63,Tryz.ntmps63
 all_goals go_wp2_with (first|(go_at_call 96;refine(bR _ _).mono ?_;rintro e w' ⟨rfl,rfl⟩)|(go_at_call 95;refine(bS a b ha0 ha1 hb0 hb1 _).mono ?_;rintro e w' ⟨rfl,rfl⟩))
 all_goals go_ret2
 all_goals refine⟨bn (Eq.trans ?_ (tV a b).symm) rfl,rfl⟩
 all_goals first
  |rfl
  |(simp;done)
  |(simp[aN, *];done)
  |(simp_all [aN];done)
  |(simp[Int.tdiv_eq_ediv_of_nonneg ha0];exact Int.emod_eq_of_lt (Int.ediv_nonneg ha0 hb0) (Int.lt_of_le_of_lt (Int.ediv_le_self b ha0) ha1))
  |omega
theorem uE(a b:Int)(ha0:0<=a)(ha1:a<4294967296)(hb0:0<=b)(hb1:b<4294967296)(w:World)(he:bg 10 b=0):
  Calls Tryz.prog 63 #[.int .i64 10,.int .u32 a,.int .u32 b] w λe w'=>e= .returned (.tuple #[.int .u32 (aR 10 a b),.int .i64 0])/\w'=w:=by
 clear he
 rcases Bool.eq_false_or_eq_true (a==0) with hz|hz
 all_goals rcases Bool.eq_false_or_eq_true (b==0) with hy|hy
 all_goals first
  |(exfalso;simp at hy;contradiction)
  |skip
 all_goals go_enter Tryz.func63,Tryz.ntmps63
 all_goals go_wp2_with (first|(go_at_call 96;refine(bR _ _).mono ?_;rintro e w' ⟨rfl,rfl⟩)|(go_at_call 95;refine(bS a b ha0 ha1 hb0 hb1 _).mono ?_;rintro e w' ⟨rfl,rfl⟩))
 all_goals go_ret2
 all_goals refine⟨bn (Eq.trans ?_ (rC a b).symm) rfl,rfl⟩
 all_goals first
  |rfl
  |(simp;done)
  |(simp[aN, *];done)
  |(simp_all [aN];done)
  |(simp[Int.tdiv_eq_ediv_of_nonneg ha0];exact Int.emod_eq_of_lt (Int.ediv_nonneg ha0 hb0) (Int.lt_of_le_of_lt (Int.ediv_le_self b ha0) ha1))
  |omega
theorem uD(a b:Int)(ha0:0<=a)(ha1:a<4294967296)(hb0:0<=b)(hb1:b<4294967296)(w:World)(he:bg 11 b=0):
  Calls Tryz.prog 63 #[.int .i64 11,.int .u32 a,.int .u32 b] w λe w'=>e= .returned (.tuple #[.int .u32 (aR 11 a b),.int .i64 0])/\w'=w:=by
 have hb:¬b=0:=λhb=>by unfold bg at he;simp[hb] at he
 clear he
 rcases Bool.eq_false_or_eq_true (a==0) with hz|hz
 all_goals rcases Bool.eq_false_or_eq_true (b==0) with hy|hy
 all_goals first
  |(exfalso;simp at hy;contradiction)
  |skip
 all_goals go_enter Tryz.func63,Tryz.ntmps63
 all_goals go_wp2_with (first|(go_at_call 96;refine(bR _ _).mono ?_;rintro e w' ⟨rfl,rfl⟩)|(go_at_call 95;refine(bS a b ha0 ha1 hb0 hb1 _).mono ?_;rintro e w' ⟨rfl,rfl⟩))
 all_goals go_ret2
 all_goals refine⟨bn (Eq.trans ?_ (rB a b).symm) rfl,rfl⟩
 all_goals first
  |rfl
  |(simp;done)
  |(simp[aN, *];done)
  |(simp_all [aN];done)
  |(simp[Int.tdiv_eq_ediv_of_nonneg ha0];exact Int.emod_eq_of_lt (Int.ediv_nonneg ha0 hb0) (Int.lt_of_le_of_lt (Int.ediv_le_self b ha0) ha1))
  |omega
theorem uC(a b:Int)(ha0:0<=a)(ha1:a<4294967296)(hb0:0<=b)(hb1:b<4294967296)(w:World)(he:bg 12 b=0):
  Calls Tryz.prog 63 #[.int .i64 12,.int .u32 a,.int .u32 b] w λe w'=>e= .returned (.tuple #[.int .u32 (aR 12 a b),.int .i64 0])/\w'=w:=by
 have hb:¬b=0:=λhb=>by unfold bg at he;simp[hb] at he
 clear he
 rcases Bool.eq_false_or_eq_true (a==0) with hz|hz
 all_goals rcases Bool.eq_false_or_eq_true (b==0) with hy|hy
 all_goals first
  |(exfalso;simp at hy;contradiction)
  |skip
 all_goals go_enter Tryz.func63,Tryz.ntmps63
 all_goals go_wp2_with (first|(go_at_call 96;refine(bR _ _).mono ?_;rintro e w' ⟨rfl,rfl⟩)|(go_at_call 95;refine(bS a b ha0 ha1 hb0 hb1 _).mono ?_;rintro e w' ⟨rfl,rfl⟩))
 all_goals go_ret2
 all_goals refine⟨bn (Eq.trans ?_ (rA a b).symm) rfl,rfl⟩
 all_goals first
  |rfl
  |(simp;done)
  |(simp[aN, *];done)
  |(simp_all [aN];done)
  |(simp[Int.tdiv_eq_ediv_of_nonneg ha0];exact Int.emod_eq_of_lt (Int.ediv_nonneg ha0 hb0) (Int.lt_of_le_of_lt (Int.ediv_le_self b ha0) ha1))
  |omega
theorem uB(a b:Int)(ha0:0<=a)(ha1:a<4294967296)(hb0:0<=b)(hb1:b<4294967296)(w:World)(he:bg 13 b=0):
  Calls Tryz.prog 63 #[.int .i64 13,.int .u32 a,.int .u32 b] w λe w'=>e= .returned (.tuple #[.int .u32 (aR 13 a b),.int .i64 0])/\w'=w:=by
 clear he
 rcases Bool.eq_false_or_eq_true (a==0) with hz|hz
 all_goals rcases Bool.eq_false_or_eq_true (b==0) with hy|hy
 all_goals first
  |(exfalso;simp at hy;contradiction)
  |skip
 all_goals go_enter Tryz.func63,Tryz.ntmps63
 all_goals go_wp2_with (first|(go_at_call 96;refine(bR _ _).mono ?_;rintro e w' ⟨rfl,rfl⟩)|(go_at_call 95;refine(bS a b ha0 ha1 hb0 hb1 _).mono ?_;rintro e w' ⟨rfl,rfl⟩))
 all_goals go_ret2
 all_goals refine⟨bn (Eq.trans ?_ (ry a b).symm) rfl,rfl⟩
 all_goals first
  |rfl
  |(simp;done)
  |(simp[aN, *];done)
  |(simp_all [aN];done)
  |(simp[Int.tdiv_eq_ediv_of_nonneg ha0];exact Int.emod_eq_of_lt (Int.ediv_nonneg ha0 hb0) (Int.lt_of_le_of_lt (Int.ediv_le_self b ha0) ha1))
  |omega
theorem uA(a b:Int)(ha0:0<=a)(ha1:a<4294967296)(hb0:0<=b)(hb1:b<4294967296)(w:World)(he:bg 14 b=0):
  Calls Tryz.prog 63 #[.int .i64 14,.int .u32 a,.int .u32 b] w λe w'=>e= .returned (.tuple #[.int .u32 (aR 14 a b),.int .i64 0])/\w'=w:=by
 clear he
 rcases Bool.eq_false_or_eq_true (a==0) with hz|hz
 all_goals rcases Bool.eq_false_or_eq_true (b==0) with hy|hy
 all_goals first
  |(exfalso;simp at hy;contradiction)
  |skip
 all_goals go_enter Tryz.func63,Tryz.ntmps63
 all_goals go_wp2_with (first|(go_at_call 96;refine(bR _ _).mono ?_;rintro e w' ⟨rfl,rfl⟩)|(go_at_call 95;refine(bS a b ha0 ha1 hb0 hb1 _).mono ?_;rintro e w' ⟨rfl,rfl⟩))
 all_goals go_ret2
 all_goals refine⟨bn (Eq.trans ?_ (rx a b).symm) rfl,rfl⟩
 all_goals first
  |rfl
  |(simp;done)
  |(simp[aN, *];done)
  |(simp_all [aN];done)
  |(simp[Int.tdiv_eq_ediv_of_nonneg ha0];exact Int.emod_eq_of_lt (Int.ediv_nonneg ha0 hb0) (Int.lt_of_le_of_lt (Int.ediv_le_self b ha0) ha1))
  |omega
theorem uz(a b:Int)(ha0:0<=a)(ha1:a<4294967296)(hb0:0<=b)(hb1:b<4294967296)(w:World)(he:bg 15 b=0):
  Calls Tryz.prog 63 #[.int .i64 15,.int .u32 a,.int .u32 b] w λe w'=>e= .returned (.tuple #[.int .u32 (aR 15 a b),.int .i64 0])/\w'=w:=by
 clear he
 rcases Bool.eq_false_or_eq_true (a==0) with hz|hz
 all_goals rcases Bool.eq_false_or_eq_true (b==0) with hy|hy
 all_goals first
  |(exfalso;simp at hy;contradiction)
  |skip
 all_goals go_enter Tryz.func63,Tryz.ntmps63
 all_goals go_wp2_with (first|(go_at_call 96;refine(bR _ _).mono ?_;rintro e w' ⟨rfl,rfl⟩)|(go_at_call 95;refine(bS a b ha0 ha1 hb0 hb1 _).mono ?_;rintro e w' ⟨rfl,rfl⟩))
 all_goals go_ret2
 all_goals refine⟨bn (Eq.trans ?_ (rv a b).symm) rfl,rfl⟩
 all_goals first
  |rfl
  |(simp;done)
  |(simp[aN, *];done)
  |(simp_all [aN];done)
  |(simp[Int.tdiv_eq_ediv_of_nonneg ha0];exact Int.emod_eq_of_lt (Int.ediv_nonneg ha0 hb0) (Int.lt_of_le_of_lt (Int.ediv_le_self b ha0) ha1))
  |omega
theorem uy(a b:Int)(ha0:0<=a)(ha1:a<4294967296)(hb0:0<=b)(hb1:b<4294967296)(w:World)(he:bg 16 b=0):
  Calls Tryz.prog 63 #[.int .i64 16,.int .u32 a,.int .u32 b] w λe w'=>e= .returned (.tuple #[.int .u32 (aR 16 a b),.int .i64 0])/\w'=w:=by
 clear he
 rcases Bool.eq_false_or_eq_true (a==0) with hz|hz
 all_goals rcases Bool.eq_false_or_eq_true (b==0) with hy|hy
 all_goals first
  |(exfalso;simp at hy;contradiction)
  |skip
 all_goals go_enter Tryz.func63,Tryz.ntmps63
 all_goals go_wp2_with (first|(go_at_call 96;refine(bR _ _).mono ?_;rintro e w' ⟨rfl,rfl⟩)|(go_at_call 95;refine(bS a b ha0 ha1 hb0 hb1 _).mono ?_;rintro e w' ⟨rfl,rfl⟩))
 all_goals go_ret2
 all_goals refine⟨bn (Eq.trans ?_ (ru a b).symm) rfl,rfl⟩
 all_goals first
  |rfl
  |(simp;done)
  |(simp[aN, *];done)
  |(simp_all [aN];done)
  |(simp[Int.tdiv_eq_ediv_of_nonneg ha0];exact Int.emod_eq_of_lt (Int.ediv_nonneg ha0 hb0) (Int.lt_of_le_of_lt (Int.ediv_le_self b ha0) ha1))
  |omega
theorem ux(a b:Int)(ha0:0<=a)(ha1:a<4294967296)(hb0:0<=b)(hb1:b<4294967296)(w:World)(he:bg 17 b=0):
  Calls Tryz.prog 63 #[.int .i64 17,.int .u32 a,.int .u32 b] w λe w'=>e= .returned (.tuple #[.int .u32 (aR 17 a b),.int .i64 0])/\w'=w:=by
 clear he
 rcases Bool.eq_false_or_eq_true (a==0) with hz|hz
 all_goals rcases Bool.eq_false_or_eq_true (b==0) with hy|hy
 all_goals first
  |(exfalso;simp at hy;contradiction)
  |skip
 all_goals go_enter Tryz.func63,Tryz.ntmps63
 all_goals go_wp2_with (first|(go_at_call 96;refine(bR _ _).mono ?_;rintro e w' ⟨rfl,rfl⟩)|(go_at_call 95;refine(bS a b ha0 ha1 hb0 hb1 _).mono ?_;rintro e w' ⟨rfl,rfl⟩))
 all_goals go_ret2
 all_goals refine⟨bn (Eq.trans ?_ (ro a b).symm) rfl,rfl⟩
 all_goals first
  |rfl
  |(simp;done)
  |(simp[aN, *];done)
  |(simp_all [aN];done)
  |(simp[Int.tdiv_eq_ediv_of_nonneg ha0];exact Int.emod_eq_of_lt (Int.ediv_nonneg ha0 hb0) (Int.lt_of_le_of_lt (Int.ediv_le_self b ha0) ha1))
  |omega
theorem uw(a b:Int)(ha0:0<=a)(ha1:a<4294967296)(hb0:0<=b)(hb1:b<4294967296)(w:World)(he:bg 18 b=0):
  Calls Tryz.prog 63 #[.int .i64 18,.int .u32 a,.int .u32 b] w λe w'=>e= .returned (.tuple #[.int .u32 (aR 18 a b),.int .i64 0])/\w'=w:=by
 clear he
 rcases Bool.eq_false_or_eq_true (a==0) with hz|hz
 all_goals rcases Bool.eq_false_or_eq_true (b==0) with hy|hy
 all_goals first
  |(exfalso;simp at hy;contradiction)
  |skip
 all_goals go_enter Tryz.func63,Tryz.ntmps63
 all_goals go_wp2_with (first|(go_at_call 96;refine(bR _ _).mono ?_;rintro e w' ⟨rfl,rfl⟩)|(go_at_call 95;refine(bS a b ha0 ha1 hb0 hb1 _).mono ?_;rintro e w' ⟨rfl,rfl⟩))
 all_goals go_ret2
 all_goals refine⟨bn (Eq.trans ?_ (rn a b).symm) rfl,rfl⟩
 all_goals first
  |rfl
  |(simp;done)
  |(simp[aN, *];done)
  |(simp_all [aN];done)
  |(simp[Int.tdiv_eq_ediv_of_nonneg ha0];exact Int.emod_eq_of_lt (Int.ediv_nonneg ha0 hb0) (Int.lt_of_le_of_lt (Int.ediv_le_self b ha0) ha1))
  |omega
theorem uv(a b:Int)(ha0:0<=a)(ha1:a<4294967296)(hb0:0<=b)(hb1:b<4294967296)(w:World)(he:bg 19 b=0):
  Calls Tryz.prog 63 #[.int .i64 19,.int .u32 a,.int .u32 b] w λe w'=>e= .returned (.tuple #[.int .u32 (aR 19 a b),.int .i64 0])/\w'=w:=by
 clear he
 rcases Bool.eq_false_or_eq_true (a==0) with hz|hz
 all_goals rcases Bool.eq_false_or_eq_true (b==0) with hy|hy
 all_goals first
  |(exfalso;simp at hy;contradiction)
  |skip
 all_goals go_enter Tryz.func63,Tryz.ntmps63
 all_goals go_wp2_with (first|(go_at_call 96;refine(bR _ _).mono ?_;rintro e w' ⟨rfl,rfl⟩)|(go_at_call 95;refine(bS a b ha0 ha1 hb0 hb1 _).mono ?_;rintro e w' ⟨rfl,rfl⟩))
 all_goals go_ret2
 all_goals refine⟨bn (Eq.trans ?_ (rm a b).symm) rfl,rfl⟩
 all_goals first
  |rfl
  |(simp;done)
  |(simp[aN, *];done)
  |(simp_all [aN];done)
  |(simp[Int.tdiv_eq_ediv_of_nonneg ha0];exact Int.emod_eq_of_lt (Int.ediv_nonneg ha0 hb0) (Int.lt_of_le_of_lt (Int.ediv_le_self b ha0) ha1))
  |omega
theorem uu(a b:Int)(ha0:0<=a)(ha1:a<4294967296)(hb0:0<=b)(hb1:b<4294967296)(w:World)(he:bg 20 b=0):
  Calls Tryz.prog 63 #[.int .i64 20,.int .u32 a,.int .u32 b] w λe w'=>e= .returned (.tuple #[.int .u32 (aR 20 a b),.int .i64 0])/\w'=w:=by
 clear he
 rcases Bool.eq_false_or_eq_true (a==0) with hz|hz
 all_goals rcases Bool.eq_false_or_eq_true (b==0) with hy|hy
 all_goals first
  |(exfalso;simp at hy;contradiction)
  |skip
 all_goals go_enter Tryz.func63,Tryz.ntmps63
 all_goals go_wp2_with (first|(go_at_call 96;refine(bR _ _).mono ?_;rintro e w' ⟨rfl,rfl⟩)|(go_at_call 95;refine(bS a b ha0 ha1 hb0 hb1 _).mono ?_;rintro e w' ⟨rfl,rfl⟩))
 all_goals go_ret2
 all_goals refine⟨bn (Eq.trans ?_ (rl a b).symm) rfl,rfl⟩
 all_goals first
  |rfl
  |(simp;done)
  |(simp[aN, *];done)
  |(simp_all [aN];done)
  |(simp[Int.tdiv_eq_ediv_of_nonneg ha0];exact Int.emod_eq_of_lt (Int.ediv_nonneg ha0 hb0) (Int.lt_of_le_of_lt (Int.ediv_le_self b ha0) ha1))
  |omega
theorem ut(a b:Int)(ha0:0<=a)(ha1:a<4294967296)(hb0:0<=b)(hb1:b<4294967296)(w:World)(he:bg 21 b=0):
  Calls Tryz.prog 63 #[.int .i64 21,.int .u32 a,.int .u32 b] w λe w'=>e= .returned (.tuple #[.int .u32 (aR 21 a b),.int .i64 0])/\w'=w:=by
 clear he
 rcases Bool.eq_false_or_eq_true (a==0) with hz|hz
 all_goals rcases Bool.eq_false_or_eq_true (b==0) with hy|hy
 all_goals first
  |(exfalso;simp at hy;contradiction)
  |skip
 all_goals go_enter Tryz.func63,Tryz.ntmps63
 all_goals go_wp2_with (first|(go_at_call 96;refine(bR _ _).mono ?_;rintro e w' ⟨rfl,rfl⟩)|(go_at_call 95;refine(bS a b ha0 ha1 hb0 hb1 _).mono ?_;rintro e w' ⟨rfl,rfl⟩))
 all_goals go_ret2
 all_goals refine⟨bn (Eq.trans ?_ (rk a b).symm) rfl,rfl⟩
 all_goals first
  |rfl
  |(simp;done)
  |(simp[aN, *];done)
  |(simp_all [aN];done)
  |(simp[Int.tdiv_eq_ediv_of_nonneg ha0];exact Int.emod_eq_of_lt (Int.ediv_nonneg ha0 hb0) (Int.lt_of_le_of_lt (Int.ediv_le_self b ha0) ha1))
  |omega
theorem ur(a b:Int)(ha0:0<=a)(ha1:a<4294967296)(hb0:0<=b)(hb1:b<4294967296)(w:World)(he:bg 22 b=0):
  Calls Tryz.prog 63 #[.int .i64 22,.int .u32 a,.int .u32 b] w λe w'=>e= .returned (.tuple #[.int .u32 (aR 22 a b),.int .i64 0])/\w'=w:=by
 clear he
 rcases Bool.eq_false_or_eq_true (a==0) with hz|hz
 all_goals rcases Bool.eq_false_or_eq_true (b==0) with hy|hy
 all_goals first
  |(exfalso;simp at hy;contradiction)
  |skip
 all_goals go_enter Tryz.func63,Tryz.ntmps63
 all_goals go_wp2_with (first|(go_at_call 96;refine(bR _ _).mono ?_;rintro e w' ⟨rfl,rfl⟩)|(go_at_call 95;refine(bS a b ha0 ha1 hb0 hb1 _).mono ?_;rintro e w' ⟨rfl,rfl⟩))
 all_goals go_ret2
 all_goals refine⟨bn (Eq.trans ?_ (rj a b).symm) rfl,rfl⟩
 all_goals first
  |rfl
  |(simp;done)
  |(simp[aN, *];done)
  |(simp_all [aN];done)
  |(simp[Int.tdiv_eq_ediv_of_nonneg ha0];exact Int.emod_eq_of_lt (Int.ediv_nonneg ha0 hb0) (Int.lt_of_le_of_lt (Int.ediv_le_self b ha0) ha1))
  |omega
theorem uq(a b:Int)(ha0:0<=a)(ha1:a<4294967296)(hb0:0<=b)(hb1:b<4294967296)(w:World)(he:bg 23 b=0):
  Calls Tryz.prog 63 #[.int .i64 23,.int .u32 a,.int .u32 b] w λe w'=>e= .returned (.tuple #[.int .u32 (aR 23 a b),.int .i64 0])/\w'=w:=by
 clear he
 rcases Bool.eq_false_or_eq_true (a==0) with hz|hz
 all_goals rcases Bool.eq_false_or_eq_true (b==0) with hy|hy
 all_goals first
  |(exfalso;simp at hy;contradiction)
  |skip
 all_goals go_enter Tryz.func63,Tryz.ntmps63
 all_goals go_wp2_with (first|(go_at_call 96;refine(bR _ _).mono ?_;rintro e w' ⟨rfl,rfl⟩)|(go_at_call 95;refine(bS a b ha0 ha1 hb0 hb1 _).mono ?_;rintro e w' ⟨rfl,rfl⟩))
 all_goals go_ret2
 all_goals refine⟨bn (Eq.trans ?_ (ri a b).symm) rfl,rfl⟩
 all_goals first
  |rfl
  |(simp;done)
  |(simp[aN, *];done)
  |(simp_all [aN];done)
  |(simp[Int.tdiv_eq_ediv_of_nonneg ha0];exact Int.emod_eq_of_lt (Int.ediv_nonneg ha0 hb0) (Int.lt_of_le_of_lt (Int.ediv_le_self b ha0) ha1))
  |omega
theorem uo(a b:Int)(ha0:0<=a)(ha1:a<4294967296)(hb0:0<=b)(hb1:b<4294967296)(w:World)(he:bg 24 b=0):
  Calls Tryz.prog 63 #[.int .i64 24,.int .u32 a,.int .u32 b] w λe w'=>e= .returned (.tuple #[.int .u32 (aR 24 a b),.int .i64 0])/\w'=w:=by
 clear he
 rcases Bool.eq_false_or_eq_true (a==0) with hz|hz
 all_goals rcases Bool.eq_false_or_eq_true (b==0) with hy|hy
 all_goals first
  |(exfalso;simp at hy;contradiction)
  |skip
 all_goals go_enter Tryz.func63,Tryz.ntmps63
 all_goals go_wp2_with (first|(go_at_call 96;refine(bR _ _).mono ?_;rintro e w' ⟨rfl,rfl⟩)|(go_at_call 95;refine(bS a b ha0 ha1 hb0 hb1 _).mono ?_;rintro e w' ⟨rfl,rfl⟩))
 all_goals go_ret2
 all_goals refine⟨bn (Eq.trans ?_ (rh a b).symm) rfl,rfl⟩
 all_goals first
  |rfl
  |(simp;done)
  |(simp[aN, *];done)
  |(simp_all [aN];done)
  |(simp[Int.tdiv_eq_ediv_of_nonneg ha0];exact Int.emod_eq_of_lt (Int.ediv_nonneg ha0 hb0) (Int.lt_of_le_of_lt (Int.ediv_le_self b ha0) ha1))
  |omega
theorem um(a b:Int)(ha0:0<=a)(ha1:a<4294967296)(hb0:0<=b)(hb1:b<4294967296)(w:World)(he:bg 25 b=0):
  Calls Tryz.prog 63 #[.int .i64 25,.int .u32 a,.int .u32 b] w λe w'=>e= .returned (.tuple #[.int .u32 (aR 25 a b),.int .i64 0])/\w'=w:=by
 clear he
 rcases Bool.eq_false_or_eq_true (a==0) with hz|hz
 all_goals rcases Bool.eq_false_or_eq_true (b==0) with hy|hy
 all_goals first
  |(exfalso;simp at hy;contradiction)
  |skip
 all_goals go_enter Tryz.func63,Tryz.ntmps63
 all_goals go_wp2_with (first|(go_at_call 96;refine(bR _ _).mono ?_;rintro e w' ⟨rfl,rfl⟩)|(go_at_call 95;refine(bS a b ha0 ha1 hb0 hb1 _).mono ?_;rintro e w' ⟨rfl,rfl⟩))
 all_goals go_ret2
 all_goals refine⟨bn (Eq.trans ?_ (rg a b).symm) rfl,rfl⟩
 all_goals first
  |rfl
  |(simp;done)
  |(simp[aN, *];done)
  |(simp_all [aN];done)
  |(simp[Int.tdiv_eq_ediv_of_nonneg ha0];exact Int.emod_eq_of_lt (Int.ediv_nonneg ha0 hb0) (Int.lt_of_le_of_lt (Int.ediv_le_self b ha0) ha1))
  |omega
theorem ul(a b:Int)(ha0:0<=a)(ha1:a<4294967296)(hb0:0<=b)(hb1:b<4294967296)(w:World)(he:bg 26 b=0):
  Calls Tryz.prog 63 #[.int .i64 26,.int .u32 a,.int .u32 b] w λe w'=>e= .returned (.tuple #[.int .u32 (aR 26 a b),.int .i64 0])/\w'=w:=by
 clear he
 rcases Bool.eq_false_or_eq_true (a==0) with hz|hz
 all_goals rcases Bool.eq_false_or_eq_true (b==0) with hy|hy
 all_goals first
  |(exfalso;simp at hy;contradiction)
  |skip
 all_goals go_enter Tryz.func63,Tryz.ntmps63
 all_goals go_wp2_with (first|(go_at_call 96;refine(bR _ _).mono ?_;rintro e w' ⟨rfl,rfl⟩)|(go_at_call 95;refine(bS a b ha0 ha1 hb0 hb1 _).mono ?_;rintro e w' ⟨rfl,rfl⟩))
 all_goals go_ret2
 all_goals refine⟨bn (Eq.trans ?_ (rf a b).symm) rfl,rfl⟩
 all_goals first
  |rfl
  |(simp;done)
  |(simp[aN, *];done)
  |(simp_all [aN];done)
  |(simp[Int.tdiv_eq_ediv_of_nonneg ha0];exact Int.emod_eq_of_lt (Int.ediv_nonneg ha0 hb0) (Int.lt_of_le_of_lt (Int.ediv_le_self b ha0) ha1))
  |omega
theorem si(a:Int)(w:World):
  Calls Tryz.prog 63 #[.int .i64 11,.int .u32 a,.int .u32 0] w λe w'=>e= .returned (.tuple #[.int .u32 0,.int .i64 17])/\w'=w:=by
 go_enter Tryz.func63,Tryz.ntmps63
 go_wp2
 go_ret2
 exact⟨rfl,rfl⟩
theorem sg(a:Int)(w:World):
  Calls Tryz.prog 63 #[.int .i64 12,.int .u32 a,.int .u32 0] w λe w'=>e= .returned (.tuple #[.int .u32 0,.int .i64 17])/\w'=w:=by
 go_enter Tryz.func63,Tryz.ntmps63
 go_wp2
 go_ret2
 exact⟨rfl,rfl⟩
theorem sf(op a b:Int)(ho:8<=op/\op<=26)(ha0:0<=a)(ha1:a<4294967296)(hb0:0<=b)(hb1:b<4294967296)(w:World):
  Calls Tryz.prog 63 #[.int .i64 op,.int .u32 a,.int .u32 b] w λe w'=>e= .returned (.tuple #[.int .u32 (if bg op b=0 then aR op a b else 0),.int .i64 (bg op b)])/\w'=w:=by
 by_cases he:bg op b=0
 ·rw[if_pos he,he]
  obtain⟨h1,h2⟩:=ho
  by_cases o8:op=8
  ·subst o8;exact wB a b ha0 ha1 hb0 hb1 w he
  by_cases o9:op=9
  ·subst o9;exact wA a b ha0 ha1 hb0 hb1 w he
  by_cases o10:op=10
  ·subst o10;exact uE a b ha0 ha1 hb0 hb1 w he
  by_cases o11:op=11
  ·subst o11;exact uD a b ha0 ha1 hb0 hb1 w he
  by_cases o12:op=12
  ·subst o12;exact uC a b ha0 ha1 hb0 hb1 w he
  by_cases o13:op=13
  ·subst o13;exact uB a b ha0 ha1 hb0 hb1 w he
  by_cases o14:op=14
  ·subst o14;exact uA a b ha0 ha1 hb0 hb1 w he
  by_cases o15:op=15
  ·subst o15;exact uz a b ha0 ha1 hb0 hb1 w he
  by_cases o16:op=16
  ·subst o16;exact uy a b ha0 ha1 hb0 hb1 w he
  by_cases o17:op=17
  ·subst o17;exact ux a b ha0 ha1 hb0 hb1 w he
  by_cases o18:op=18
  ·subst o18;exact uw a b ha0 ha1 hb0 hb1 w he
  by_cases o19:op=19
  ·subst o19;exact uv a b ha0 ha1 hb0 hb1 w he
  by_cases o20:op=20
  ·subst o20;exact uu a b ha0 ha1 hb0 hb1 w he
  by_cases o21:op=21
  ·subst o21;exact ut a b ha0 ha1 hb0 hb1 w he
  by_cases o22:op=22
  ·subst o22;exact ur a b ha0 ha1 hb0 hb1 w he
  by_cases o23:op=23
  ·subst o23;exact uq a b ha0 ha1 hb0 hb1 w he
  by_cases o24:op=24
  ·subst o24;exact uo a b ha0 ha1 hb0 hb1 w he
  by_cases o25:op=25
  ·subst o25;exact um a b ha0 ha1 hb0 hb1 w he
  by_cases o26:op=26
  ·subst o26;exact ul a b ha0 ha1 hb0 hb1 w he
  omega
 ·rw[if_neg he]
  have hb:b=0/\(op=11\/op=12):=by
   unfold bg at he
   rw[if_neg (by omega)] at he
   exact Classical.byContradiction λh=>he (if_neg h)
  obtain⟨rfl,rfl|rfl⟩:=hb
  ·exact si a w
  ·exact sg a w
end Go.Proofs.YtidhfimbnjaceaaGreat