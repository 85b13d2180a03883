/- A part of the proof of OptimizerShortens: D E0 Rb. No condition. -/
import Derived.Carry
import Derived.Lib.Hide
import Derived.Test.YtidhfimbnjaceaaGs14
import Derived.Test.YtidhfimbnjaceaaGs15
import Derived.Test.YtidhfimbnjaceaaGs03
set_option linter.unusedSimpArgs false
set_option linter.unusedVariables false
set_option linter.constructorNameAsVariable false
set_option maxRecDepth 100000
set_option maxHeartbeats 4000000
namespace Go.Proofs.Ytidhfimbnjaceaa
open Go.RowKit
def ab:Array MapEntry:= #[{key:= .int .i64 8,val:= .func (.func 82) #[] #[],born:=0},
 {key:= .int .i64 9,val:= .func (.func 83) #[] #[],born:=1},
 {key:= .int .i64 10,val:= .func (.func 84) #[] #[],born:=2},
 {key:= .int .i64 11,val:= .func (.func 85) #[] #[],born:=3},
 {key:= .int .i64 12,val:= .func (.func 86) #[] #[],born:=4},
 {key:= .int .i64 13,val:= .func (.func 87) #[] #[],born:=5},
 {key:= .int .i64 14,val:= .func (.func 88) #[] #[],born:=6},
 {key:= .int .i64 15,val:= .func (.func 89) #[] #[],born:=7},
 {key:= .int .i64 16,val:= .func (.func 90) #[] #[],born:=8},
 {key:= .int .i64 17,val:= .func (.func 91) #[] #[],born:=9},
 {key:= .int .i64 18,val:= .func (.func 92) #[] #[],born:=10},
 {key:= .int .i64 19,val:= .func (.func 93) #[] #[],born:=11},
 {key:= .int .i64 20,val:= .func (.func 94) #[] #[],born:=12},
 {key:= .int .i64 21,val:= .func (.func 95) #[] #[],born:=13},
 {key:= .int .i64 22,val:= .func (.func 97) #[] #[],born:=14},
 {key:= .int .i64 23,val:= .func (.func 98) #[] #[],born:=15},
 {key:= .int .i64 24,val:= .func (.func 99) #[] #[],born:=16},
 {key:= .int .i64 25,val:= .func (.func 100) #[] #[],born:=17},
 {key:= .int .i64 26,val:= .func (.func 101) #[] #[],born:=18}]
theorem aj(w:World):
  Calls Try.prog 75 #[] w λe w'=>e= .returned (.map (some w.heap.size))/\w'=w.alloc (.map ab 19):=by
 have hmm:=λ(t:TypeId) (w:World)=>run_makeMap (P:=Try.prog) t w
 have hup:=λ(w:World) es c k v h=>f5 (P:=Try.prog) (T:=132) Try.underlying132 Try.underlying3 w es c k v h
 have hup0:=λ(w:World) k v=>f5 (P:=Try.prog) (T:=132) Try.underlying132 Try.underlying3 w #[] 0 k v rfl
 go_enter Try.func75,Try.ntmps75
 go_wp2
 go_ret
 exact⟨rfl,rfl⟩
theorem bc(w:World):(zeroValue 130).run Try.prog w= .ok .nilFunc w:=by kernel_rfl
theorem bf:iH ab.toList=true:=by decide
theorem bN{k l:IntKind}{a b c d:Int}(h:a=b)(h2:c=d):Ending.returned (.tuple #[.int k a,.int l c])= .returned (.tuple #[.int k b,.int l d]):=by rw[h,h2]
theorem uV(a b:Int):aU 8 a b=(a+b)%4294967296:=by simp[aU]
theorem uU(a b:Int):aU 9 a b=(a-b)%4294967296:=by simp[aU]
theorem tf(a b:Int):aU 10 a b=(a*b)%4294967296:=by simp[aU]
theorem te(a b:Int):aU 11 a b=a / b:=by simp[aU]
theorem td(a b:Int):aU 12 a b=a%b:=by simp[aU]
theorem tc(a b:Int):aU 13 a b=bits .and .u32 a b:=by simp[aU]
theorem ta(a b:Int):aU 14 a b=bits .or .u32 a b:=by simp[aU]
theorem s9(a b:Int):aU 15 a b=bits .xor .u32 a b:=by simp[aU]
theorem s8(a b:Int):aU 16 a b=a*2^(b%32).toNat%4294967296:=by simp[aU]
theorem s7(a b:Int):aU 17 a b=a / 2^(b%32).toNat:=by simp[aU]
theorem s6(a b:Int):aU 18 a b=min a b:=by simp[aU]
theorem s5(a b:Int):aU 19 a b=max a b:=by simp[aU]
theorem s4(a b:Int):aU 20 a b=lK a b:=by simp[aU]
theorem s0(a b:Int):aU 21 a b=a9 (a==b):=by simp[aU]
theorem sZ(a b:Int):aU 22 a b=a9 (decide (a<b)):=by simp[aU]
theorem sY(a b:Int):aU 23 a b=a9 (a==0):=by simp[aU]
theorem sX(a b:Int):aU 24 a b=a9 (a != 0&&b != 0):=by simp[aU]
theorem sW(a b:Int):aU 25 a b=a9 (a != 0||b != 0):=by simp[aU]
theorem sU(a b:Int):aU 26 a b=a9 (a != 0):=by simp[aU]
theorem uX(a b:Int)(ha0:0<=a)(ha1:a<4294967296)(hb0:0<=b)(hb1:b<4294967296)(w:World):
  Calls Try.prog 61 #[.int .i64 8,.int .u32 a,.int .u32 b] w λe w'=>e= .returned (.tuple #[.int .u32 (aU 8 a b),.int .i64 0])/\Below w.heap.size w w':=by
 have hl:=av (P:=Try.prog) (T:=132) Try.underlying132 Try.underlying3 (w.alloc (.map ab 19)) w.heap.size ab 19 (heap_alloc_new w _) 8 bf .nilFunc (bc _)
 have hv:bU 8 ab.toList=some (.func (.func 82) #[] #[]):=by rfl
 rw[hv] at hl
 simp only[Option.getD_some,Option.isSome_some] at hl
 rcases Bool.eq_false_or_eq_true (b==0) with hz|hz
 all_goals go_enter Try.func61,Try.ntmps61
 all_goals go_wp2_with (first|(go_at_call 75;refine(aj _).mono ?_;rintro e w' ⟨rfl,rfl⟩)|(go_at_call 82;refine(Ja a b ha0 ha1 hb0 hb1 _).mono ?_;rintro e w' ⟨rfl,rfl⟩))
 all_goals go_ret2
 all_goals exact⟨bN (uV a b).symm rfl,(Below.refl _ _).alloc (Nat.le_refl _) _⟩
theorem uW(a b:Int)(ha0:0<=a)(ha1:a<4294967296)(hb0:0<=b)(hb1:b<4294967296)(w:World):
  Calls Try.prog 61 #[.int .i64 9,.int .u32 a,.int .u32 b] w λe w'=>e= .returned (.tuple #[.int .u32 (aU 9 a b),.int .i64 0])/\Below w.heap.size w w':=by
 have hl:=av (P:=Try.prog) (T:=132) Try.underlying132 Try.underlying3 (w.alloc (.map ab 19)) w.heap.size ab 19 (heap_alloc_new w _) 9 bf .nilFunc (bc _)
 have hv:bU 9 ab.toList=some (.func (.func 83) #[] #[]):=by rfl
 rw[hv] at hl
 simp only[Option.getD_some,Option.isSome_some] at hl
 rcases Bool.eq_false_or_eq_true (b==0) with hz|hz
 all_goals go_enter Try.func61,Try.ntmps61
 all_goals go_wp2_with (first|(go_at_call 75;refine(aj _).mono ?_;rintro e w' ⟨rfl,rfl⟩)|(go_at_call 83;refine(I9 a b ha0 ha1 hb0 hb1 _).mono ?_;rintro e w' ⟨rfl,rfl⟩))
 all_goals go_ret2
 all_goals exact⟨bN (uU a b).symm rfl,(Below.refl _ _).alloc (Nat.le_refl _) _⟩
theorem tE(a b:Int)(ha0:0<=a)(ha1:a<4294967296)(hb0:0<=b)(hb1:b<4294967296)(w:World):
  Calls Try.prog 61 #[.int .i64 10,.int .u32 a,.int .u32 b] w λe w'=>e= .returned (.tuple #[.int .u32 (aU 10 a b),.int .i64 0])/\Below w.heap.size w w':=by
 have hl:=av (P:=Try.prog) (T:=132) Try.underlying132 Try.underlying3 (w.alloc (.map ab 19)) w.heap.size ab 19 (heap_alloc_new w _) 10 bf .nilFunc (bc _)
 have hv:bU 10 ab.toList=some (.func (.func 84) #[] #[]):=by rfl
 rw[hv] at hl
 simp only[Option.getD_some,Option.isSome_some] at hl
 rcases Bool.eq_false_or_eq_true (b==0) with hz|hz
 all_goals go_enter Try.func61,Try.ntmps61
 all_goals go_wp2_with (first|(go_at_call 75;refine(aj _).mono ?_;rintro e w' ⟨rfl,rfl⟩)|(go_at_call 84;refine(I8 a b ha0 ha1 hb0 hb1 _).mono ?_;rintro e w' ⟨rfl,rfl⟩))
 all_goals go_ret2
 all_goals exact⟨bN (tf a b).symm rfl,(Below.refl _ _).alloc (Nat.le_refl _) _⟩
theorem tD(a b:Int)(ha0:0<=a)(ha1:a<4294967296)(hb0:0<=b)(hb1:b<4294967296)(hb:¬b=0)(w:World):
  Calls Try.prog 61 #[.int .i64 11,.int .u32 a,.int .u32 b] w λe w'=>e= .returned (.tuple #[.int .u32 (aU 11 a b),.int .i64 0])/\Below w.heap.size w w':=by
 have hl:=av (P:=Try.prog) (T:=132) Try.underlying132 Try.underlying3 (w.alloc (.map ab 19)) w.heap.size ab 19 (heap_alloc_new w _) 11 bf .nilFunc (bc _)
 have hv:bU 11 ab.toList=some (.func (.func 85) #[] #[]):=by rfl
 rw[hv] at hl
 simp only[Option.getD_some,Option.isSome_some] at hl
 have hb':(b==0)=false:=by simpa using hb
 go_enter Try.func61,Try.ntmps61
 go_wp2_with (first|(go_at_call 75;refine(aj _).mono ?_;rintro e w' ⟨rfl,rfl⟩)|(go_at_call 85;refine(I7 a b ha0 ha1 hb0 hb1 hb _).mono ?_;rintro e w' ⟨rfl,rfl⟩))
 all_goals go_ret2
 all_goals exact⟨bN (te a b).symm rfl,(Below.refl _ _).alloc (Nat.le_refl _) _⟩
theorem tC(a b:Int)(ha0:0<=a)(ha1:a<4294967296)(hb0:0<=b)(hb1:b<4294967296)(hb:¬b=0)(w:World):
  Calls Try.prog 61 #[.int .i64 12,.int .u32 a,.int .u32 b] w λe w'=>e= .returned (.tuple #[.int .u32 (aU 12 a b),.int .i64 0])/\Below w.heap.size w w':=by
 have hl:=av (P:=Try.prog) (T:=132) Try.underlying132 Try.underlying3 (w.alloc (.map ab 19)) w.heap.size ab 19 (heap_alloc_new w _) 12 bf .nilFunc (bc _)
 have hv:bU 12 ab.toList=some (.func (.func 86) #[] #[]):=by rfl
 rw[hv] at hl
 simp only[Option.getD_some,Option.isSome_some] at hl
 have hb':(b==0)=false:=by simpa using hb
 go_enter Try.func61,Try.ntmps61
 go_wp2_with (first|(go_at_call 75;refine(aj _).mono ?_;rintro e w' ⟨rfl,rfl⟩)|(go_at_call 86;refine(I6 a b ha0 ha1 hb0 hb1 hb _).mono ?_;rintro e w' ⟨rfl,rfl⟩))
 all_goals go_ret2
 all_goals exact⟨bN (td a b).symm rfl,(Below.refl _ _).alloc (Nat.le_refl _) _⟩
theorem tB(a b:Int)(ha0:0<=a)(ha1:a<4294967296)(hb0:0<=b)(hb1:b<4294967296)(w:World):
  Calls Try.prog 61 #[.int .i64 13,.int .u32 a,.int .u32 b] w λe w'=>e= .returned (.tuple #[.int .u32 (aU 13 a b),.int .i64 0])/\Below w.heap.size w w':=by
 have hl:=av (P:=Try.prog) (T:=132) Try.underlying132 Try.underlying3 (w.alloc (.map ab 19)) w.heap.size ab 19 (heap_alloc_new w _) 13 bf .nilFunc (bc _)
 have hv:bU 13 ab.toList=some (.func (.func 87) #[] #[]):=by rfl
 rw[hv] at hl
 simp only[Option.getD_some,Option.isSome_some] at hl
 rcases Bool.eq_false_or_eq_true (b==0) with hz|hz
 all_goals go_enter Try.func61,Try.ntmps61
 all_goals go_wp2_with (first|(go_at_call 75;refine(aj _).mono ?_;rintro e w' ⟨rfl,rfl⟩)|(go_at_call 87;refine(I5 a b ha0 ha1 hb0 hb1 _).mono ?_;rintro e w' ⟨rfl,rfl⟩))
 all_goals go_ret2
 all_goals exact⟨bN (tc a b).symm rfl,(Below.refl _ _).alloc (Nat.le_refl _) _⟩
theorem tA(a b:Int)(ha0:0<=a)(ha1:a<4294967296)(hb0:0<=b)(hb1:b<4294967296)(w:World):
  Calls Try.prog 61 #[.int .i64 14,.int .u32 a,.int .u32 b] w λe w'=>e= .returned (.tuple #[.int .u32 (aU 14 a b),.int .i64 0])/\Below w.heap.size w w':=by
 have hl:=av (P:=Try.prog) (T:=132) Try.underlying132 Try.underlying3 (w.alloc (.map ab 19)) w.heap.size ab 19 (heap_alloc_new w _) 14 bf .nilFunc (bc _)
 have hv:bU 14 ab.toList=some (.func (.func 88) #[] #[]):=by rfl
 rw[hv] at hl
 simp only[Option.getD_some,Option.isSome_some] at hl
 rcases Bool.eq_false_or_eq_true (b==0) with hz|hz
 all_goals go_enter Try.func61,Try.ntmps61
 all_goals go_wp2_with (first|(go_at_call 75;refine(aj _).mono ?_;rintro e w' ⟨rfl,rfl⟩)|(go_at_call 88;refine(I4 a b ha0 ha1 hb0 hb1 _).mono ?_;rintro e w' ⟨rfl,rfl⟩))
 all_goals go_ret2
 all_goals exact⟨bN (ta a b).symm rfl,(Below.refl _ _).alloc (Nat.le_refl _) _⟩
theorem tz(a b:Int)(ha0:0<=a)(ha1:a<4294967296)(hb0:0<=b)(hb1:b<4294967296)(w:World):
  Calls Try.prog 61 #[.int .i64 15,.int .u32 a,.int .u32 b] w λe w'=>e= .returned (.tuple #[.int .u32 (aU 15 a b),.int .i64 0])/\Below w.heap.size w w':=by
 have hl:=av (P:=Try.prog) (T:=132) Try.underlying132 Try.underlying3 (w.alloc (.map ab 19)) w.heap.size ab 19 (heap_alloc_new w _) 15 bf .nilFunc (bc _)
 have hv:bU 15 ab.toList=some (.func (.func 89) #[] #[]):=by rfl
 rw[hv] at hl
 simp only[Option.getD_some,Option.isSome_some] at hl
 rcases Bool.eq_false_or_eq_true (b==0) with hz|hz
 all_goals go_enter Try.func61,Try.ntmps61
 all_goals go_wp2_with (first|(go_at_call 75;refine(aj _).mono ?_;rintro e w' ⟨rfl,rfl⟩)|(go_at_call 89;refine(I3 a b ha0 ha1 hb0 hb1 _).mono ?_;rintro e w' ⟨rfl,rfl⟩))
 all_goals go_ret2
 all_goals exact⟨bN (s9 a b).symm rfl,(Below.refl _ _).alloc (Nat.le_refl _) _⟩
theorem tv(a b:Int)(ha0:0<=a)(ha1:a<4294967296)(hb0:0<=b)(hb1:b<4294967296)(w:World):
  Calls Try.prog 61 #[.int .i64 16,.int .u32 a,.int .u32 b] w λe w'=>e= .returned (.tuple #[.int .u32 (aU 16 a b),.int .i64 0])/\Below w.heap.size w w':=by
 have hl:=av (P:=Try.prog) (T:=132) Try.underlying132 Try.underlying3 (w.alloc (.map ab 19)) w.heap.size ab 19 (heap_alloc_new w _) 16 bf .nilFunc (bc _)
 have hv:bU 16 ab.toList=some (.func (.func 90) #[] #[]):=by rfl
 rw[hv] at hl
 simp only[Option.getD_some,Option.isSome_some] at hl
 rcases Bool.eq_false_or_eq_true (b==0) with hz|hz
 all_goals go_enter Try.func61,Try.ntmps61
 all_goals go_wp2_with (first|(go_at_call 75;refine(aj _).mono ?_;rintro e w' ⟨rfl,rfl⟩)|(go_at_call 90;refine(I2 a b ha0 ha1 hb0 hb1 _).mono ?_;rintro e w' ⟨rfl,rfl⟩))
 all_goals go_ret2
 all_goals exact⟨bN (s8 a b).symm rfl,(Below.refl _ _).alloc (Nat.le_refl _) _⟩
theorem tu(a b:Int)(ha0:0<=a)(ha1:a<4294967296)(hb0:0<=b)(hb1:b<4294967296)(w:World):
  Calls Try.prog 61 #[.int .i64 17,.int .u32 a,.int .u32 b] w λe w'=>e= .returned (.tuple #[.int .u32 (aU 17 a b),.int .i64 0])/\Below w.heap.size w w':=by
 have hl:=av (P:=Try.prog) (T:=132) Try.underlying132 Try.underlying3 (w.alloc (.map ab 19)) w.heap.size ab 19 (heap_alloc_new w _) 17 bf .nilFunc (bc _)
 have hv:bU 17 ab.toList=some (.func (.func 91) #[] #[]):=by rfl
 rw[hv] at hl
 simp only[Option.getD_some,Option.isSome_some] at hl
 rcases Bool.eq_false_or_eq_true (b==0) with hz|hz
 all_goals go_enter Try.func61,Try.ntmps61
 all_goals go_wp2_with (first|(go_at_call 75;refine(aj _).mono ?_;rintro e w' ⟨rfl,rfl⟩)|(go_at_call 91;refine(z8 a b ha0 ha1 hb0 hb1 _).mono ?_;rintro e w' ⟨rfl,rfl⟩))
 all_goals go_ret2
 all_goals exact⟨bN (s7 a b).symm rfl,(Below.refl _ _).alloc (Nat.le_refl _) _⟩
theorem tr(a b:Int)(ha0:0<=a)(ha1:a<4294967296)(hb0:0<=b)(hb1:b<4294967296)(w:World):
  Calls Try.prog 61 #[.int .i64 18,.int .u32 a,.int .u32 b] w λe w'=>e= .returned (.tuple #[.int .u32 (aU 18 a b),.int .i64 0])/\Below w.heap.size w w':=by
 have hl:=av (P:=Try.prog) (T:=132) Try.underlying132 Try.underlying3 (w.alloc (.map ab 19)) w.heap.size ab 19 (heap_alloc_new w _) 18 bf .nilFunc (bc _)
 have hv:bU 18 ab.toList=some (.func (.func 92) #[] #[]):=by rfl
 rw[hv] at hl
 simp only[Option.getD_some,Option.isSome_some] at hl
 rcases Bool.eq_false_or_eq_true (b==0) with hz|hz
 all_goals go_enter Try.func61,Try.ntmps61
 all_goals go_wp2_with (first|(go_at_call 75;refine(aj _).mono ?_;rintro e w' ⟨rfl,rfl⟩)|(go_at_call 92;refine(z7 a b ha0 ha1 hb0 hb1 _).mono ?_;rintro e w' ⟨rfl,rfl⟩))
 all_goals go_ret2
 all_goals exact⟨bN (s6 a b).symm rfl,(Below.refl _ _).alloc (Nat.le_refl _) _⟩
theorem tq(a b:Int)(ha0:0<=a)(ha1:a<4294967296)(hb0:0<=b)(hb1:b<4294967296)(w:World):
  Calls Try.prog 61 #[.int .i64 19,.int .u32 a,.int .u32 b] w λe w'=>e= .returned (.tuple #[.int .u32 (aU 19 a b),.int .i64 0])/\Below w.heap.size w w':=by
 have hl:=av (P:=Try.prog) (T:=132) Try.underlying132 Try.underlying3 (w.alloc (.map ab 19)) w.heap.size ab 19 (heap_alloc_new w _) 19 bf .nilFunc (bc _)
 have hv:bU 19 ab.toList=some (.func (.func 93) #[] #[]):=by rfl
 rw[hv] at hl
 simp only[Option.getD_some,Option.isSome_some] at hl
 rcases Bool.eq_false_or_eq_true (b==0) with hz|hz
 all_goals go_enter Try.func61,Try.ntmps61
 all_goals go_wp2_with (first|(go_at_call 75;refine(aj _).mono ?_;rintro e w' ⟨rfl,rfl⟩)|(go_at_call 93;refine(z6 a b ha0 ha1 hb0 hb1 _).mono ?_;rintro e w' ⟨rfl,rfl⟩))
 all_goals go_ret2
 all_goals exact⟨bN (s5 a b).symm rfl,(Below.refl _ _).alloc (Nat.le_refl _) _⟩
theorem tp(a b:Int)(ha0:0<=a)(ha1:a<4294967296)(hb0:0<=b)(hb1:b<4294967296)(w:World):
  Calls Try.prog 61 #[.int .i64 20,.int .u32 a,.int .u32 b] w λe w'=>e= .returned (.tuple #[.int .u32 (aU 20 a b),.int .i64 0])/\Below w.heap.size w w':=by
 have hl:=av (P:=Try.prog) (T:=132) Try.underlying132 Try.underlying3 (w.alloc (.map ab 19)) w.heap.size ab 19 (heap_alloc_new w _) 20 bf .nilFunc (bc _)
 have hv:bU 20 ab.toList=some (.func (.func 94) #[] #[]):=by rfl
 rw[hv] at hl
 simp only[Option.getD_some,Option.isSome_some] at hl
 rcases Bool.eq_false_or_eq_true (b==0) with hz|hz
 all_goals go_enter Try.func61,Try.ntmps61
 all_goals go_wp2_with (first|(go_at_call 75;refine(aj _).mono ?_;rintro e w' ⟨rfl,rfl⟩)|(go_at_call 94;refine(rG a b ha0 ha1 hb0 hb1 _).mono ?_;rintro e w' ⟨rfl,rfl⟩))
 all_goals go_ret2
 all_goals exact⟨bN (s4 a b).symm rfl,(Below.refl _ _).alloc (Nat.le_refl _) _⟩
theorem tn(a b:Int)(ha0:0<=a)(ha1:a<4294967296)(hb0:0<=b)(hb1:b<4294967296)(w:World):
  Calls Try.prog 61 #[.int .i64 21,.int .u32 a,.int .u32 b] w λe w'=>e= .returned (.tuple #[.int .u32 (aU 21 a b),.int .i64 0])/\Below w.heap.size w w':=by
 have hl:=av (P:=Try.prog) (T:=132) Try.underlying132 Try.underlying3 (w.alloc (.map ab 19)) w.heap.size ab 19 (heap_alloc_new w _) 21 bf .nilFunc (bc _)
 have hv:bU 21 ab.toList=some (.func (.func 95) #[] #[]):=by rfl
 rw[hv] at hl
 simp only[Option.getD_some,Option.isSome_some] at hl
 rcases Bool.eq_false_or_eq_true (b==0) with hz|hz
 all_goals go_enter Try.func61,Try.ntmps61
 all_goals go_wp2_with (first|(go_at_call 75;refine(aj _).mono ?_;rintro e w' ⟨rfl,rfl⟩)|(go_at_call 95;refine(z5 a b ha0 ha1 hb0 hb1 _).mono ?_;rintro e w' ⟨rfl,rfl⟩))
 all_goals go_ret2
 all_goals exact⟨bN (s0 a b).symm rfl,(Below.refl _ _).alloc (Nat.le_refl _) _⟩
theorem tm(a b:Int)(ha0:0<=a)(ha1:a<4294967296)(hb0:0<=b)(hb1:b<4294967296)(w:World):
  Calls Try.prog 61 #[.int .i64 22,.int .u32 a,.int .u32 b] w λe w'=>e= .returned (.tuple #[.int .u32 (aU 22 a b),.int .i64 0])/\Below w.heap.size w w':=by
 have hl:=av (P:=Try.prog) (T:=132) Try.underlying132 Try.underlying3 (w.alloc (.map ab 19)) w.heap.size ab 19 (heap_alloc_new w _) 22 bf .nilFunc (bc _)
 have hv:bU 22 ab.toList=some (.func (.func 97) #[] #[]):=by rfl
 rw[hv] at hl
 simp only[Option.getD_some,Option.isSome_some] at hl
 rcases Bool.eq_false_or_eq_true (b==0) with hz|hz
 all_goals go_enter Try.func61,Try.ntmps61
 all_goals go_wp2_with (first|(go_at_call 75;refine(aj _).mono ?_;rintro e w' ⟨rfl,rfl⟩)|(go_at_call 97;refine(zZ a b ha0 ha1 hb0 hb1 _).mono ?_;rintro e w' ⟨rfl,rfl⟩))
 all_goals go_ret2
 all_goals exact⟨bN (sZ a b).symm rfl,(Below.refl _ _).alloc (Nat.le_refl _) _⟩
theorem tk(a b:Int)(ha0:0<=a)(ha1:a<4294967296)(hb0:0<=b)(hb1:b<4294967296)(w:World):
  Calls Try.prog 61 #[.int .i64 23,.int .u32 a,.int .u32 b] w λe w'=>e= .returned (.tuple #[.int .u32 (aU 23 a b),.int .i64 0])/\Below w.heap.size w w':=by
 have hl:=av (P:=Try.prog) (T:=132) Try.underlying132 Try.underlying3 (w.alloc (.map ab 19)) w.heap.size ab 19 (heap_alloc_new w _) 23 bf .nilFunc (bc _)
 have hv:bU 23 ab.toList=some (.func (.func 98) #[] #[]):=by rfl
 rw[hv] at hl
 simp only[Option.getD_some,Option.isSome_some] at hl
 rcases Bool.eq_false_or_eq_true (b==0) with hz|hz
 all_goals go_enter Try.func61,Try.ntmps61
 all_goals go_wp2_with (first|(go_at_call 75;refine(aj _).mono ?_;rintro e w' ⟨rfl,rfl⟩)|(go_at_call 98;refine(zY a b ha0 ha1 hb0 hb1 _).mono ?_;rintro e w' ⟨rfl,rfl⟩))
 all_goals go_ret2
 all_goals exact⟨bN (sY a b).symm rfl,(Below.refl _ _).alloc (Nat.le_refl _) _⟩
theorem tj(a b:Int)(ha0:0<=a)(ha1:a<4294967296)(hb0:0<=b)(hb1:b<4294967296)(w:World):
  Calls Try.prog 61 #[.int .i64 24,.int .u32 a,.int .u32 b] w λe w'=>e= .returned (.tuple #[.int .u32 (aU 24 a b),.int .i64 0])/\Below w.heap.size w w':=by
 have hl:=av (P:=Try.prog) (T:=132) Try.underlying132 Try.underlying3 (w.alloc (.map ab 19)) w.heap.size ab 19 (heap_alloc_new w _) 24 bf .nilFunc (bc _)
 have hv:bU 24 ab.toList=some (.func (.func 99) #[] #[]):=by rfl
 rw[hv] at hl
 simp only[Option.getD_some,Option.isSome_some] at hl
 rcases Bool.eq_false_or_eq_true (b==0) with hz|hz
 all_goals go_enter Try.func61,Try.ntmps61
 all_goals go_wp2_with (first|(go_at_call 75;refine(aj _).mono ?_;rintro e w' ⟨rfl,rfl⟩)|(go_at_call 99;refine(zX a b ha0 ha1 hb0 hb1 _).mono ?_;rintro e w' ⟨rfl,rfl⟩))
 all_goals go_ret2
 all_goals exact⟨bN (sX a b).symm rfl,(Below.refl _ _).alloc (Nat.le_refl _) _⟩
theorem ti(a b:Int)(ha0:0<=a)(ha1:a<4294967296)(hb0:0<=b)(hb1:b<4294967296)(w:World):
  Calls Try.prog 61 #[.int .i64 25,.int .u32 a,.int .u32 b] w λe w'=>e= .returned (.tuple #[.int .u32 (aU 25 a b),.int .i64 0])/\Below w.heap.size w w':=by
 have hl:=av (P:=Try.prog) (T:=132) Try.underlying132 Try.underlying3 (w.alloc (.map ab 19)) w.heap.size ab 19 (heap_alloc_new w _) 25 bf .nilFunc (bc _)
 have hv:bU 25 ab.toList=some (.func (.func 100) #[] #[]):=by rfl
 rw[hv] at hl
 simp only[Option.getD_some,Option.isSome_some] at hl
 rcases Bool.eq_false_or_eq_true (b==0) with hz|hz
 all_goals go_enter Try.func61,Try.ntmps61
 all_goals go_wp2_with (first|(go_at_call 75;refine(aj _).mono ?_;rintro e w' ⟨rfl,rfl⟩)|(go_at_call 100;refine(zW a b ha0 ha1 hb0 hb1 _).mono ?_;rintro e w' ⟨rfl,rfl⟩))
 all_goals go_ret2
 all_goals exact⟨bN (sW a b).symm rfl,(Below.refl _ _).alloc (Nat.le_refl _) _⟩
theorem th(a b:Int)(ha0:0<=a)(ha1:a<4294967296)(hb0:0<=b)(hb1:b<4294967296)(w:World):
  Calls Try.prog 61 #[.int .i64 26,.int .u32 a,.int .u32 b] w λe w'=>e= .returned (.tuple #[.int .u32 (aU 26 a b),.int .i64 0])/\Below w.heap.size w w':=by
 have hl:=av (P:=Try.prog) (T:=132) Try.underlying132 Try.underlying3 (w.alloc (.map ab 19)) w.heap.size ab 19 (heap_alloc_new w _) 26 bf .nilFunc (bc _)
 have hv:bU 26 ab.toList=some (.func (.func 101) #[] #[]):=by rfl
 rw[hv] at hl
 simp only[Option.getD_some,Option.isSome_some] at hl
 rcases Bool.eq_false_or_eq_true (b==0) with hz|hz
 all_goals go_enter Try.func61,Try.ntmps61
 all_goals go_wp2_with (first|(go_at_call 75;refine(aj _).mono ?_;rintro e w' ⟨rfl,rfl⟩)|(go_at_call 101;refine(zV a b ha0 ha1 hb0 hb1 _).mono ?_;rintro e w' ⟨rfl,rfl⟩))
 all_goals go_ret2
 all_goals exact⟨bN (sU a b).symm rfl,(Below.refl _ _).alloc (Nat.le_refl _) _⟩
theorem oz(op a b:Int)(h:op<8\/26<op)(w:World):
  Calls Try.prog 61 #[.int .i64 op,.int .u32 a,.int .u32 b] w λe w'=>e= .returned (.tuple #[.int .u32 0,.int .i64 1])/\Below w.heap.size w w':=by
 have hl:=av (P:=Try.prog) (T:=132) Try.underlying132 Try.underlying3 (w.alloc (.map ab 19)) w.heap.size ab 19 (heap_alloc_new w _) op bf .nilFunc (bc _)
 have hv:bU op ab.toList=none:=by
  simp only[ab,bU,fx]
  repeat rw[if_neg (by omega)]
 rw[hv] at hl
 simp only[Option.getD_none,Option.isSome_none] at hl
 clear hv
 have HH:=Lib.hid h
 clear h
 go_enter Try.func61,Try.ntmps61
 go_wp2_with (go_at_call 75;refine(aj _).mono ?_;rintro e w' ⟨rfl,rfl⟩)
 all_goals go_ret2
 all_goals exact⟨rfl,(Below.refl _ _).alloc (Nat.le_refl _) _⟩
theorem qs(a:Int)(w:World):
  Calls Try.prog 61 #[.int .i64 11,.int .u32 a,.int .u32 0] w λe w'=>e= .returned (.tuple #[.int .u32 0,.int .i64 17])/\Below w.heap.size w w':=by
 have hl:=av (P:=Try.prog) (T:=132) Try.underlying132 Try.underlying3 (w.alloc (.map ab 19)) w.heap.size ab 19 (heap_alloc_new w _) 11 bf .nilFunc (bc _)
 have hv:bU 11 ab.toList=some (.func (.func 85) #[] #[]):=by rfl
 rw[hv] at hl
 simp only[Option.getD_some,Option.isSome_some] at hl
 go_enter Try.func61,Try.ntmps61
 go_wp2_with (go_at_call 75;refine(aj _).mono ?_;rintro e w' ⟨rfl,rfl⟩)
 all_goals go_ret2
 all_goals exact⟨rfl,(Below.refl _ _).alloc (Nat.le_refl _) _⟩
theorem qr(a:Int)(w:World):
  Calls Try.prog 61 #[.int .i64 12,.int .u32 a,.int .u32 0] w λe w'=>e= .returned (.tuple #[.int .u32 0,.int .i64 17])/\Below w.heap.size w w':=by
 have hl:=av (P:=Try.prog) (T:=132) Try.underlying132 Try.underlying3 (w.alloc (.map ab 19)) w.heap.size ab 19 (heap_alloc_new w _) 12 bf .nilFunc (bc _)
 have hv:bU 12 ab.toList=some (.func (.func 86) #[] #[]):=by rfl
 rw[hv] at hl
 simp only[Option.getD_some,Option.isSome_some] at hl
 go_enter Try.func61,Try.ntmps61
 go_wp2_with (go_at_call 75;refine(aj _).mono ?_;rintro e w' ⟨rfl,rfl⟩)
 all_goals go_ret2
 all_goals exact⟨rfl,(Below.refl _ _).alloc (Nat.le_refl _) _⟩
theorem tg(op a b:Int)(ha0:0<=a)(ha1:a<4294967296)(hb0:0<=b)(hb1:b<4294967296)(h:cR op b=0)(w:World):
  Calls Try.prog 61 #[.int .i64 op,.int .u32 a,.int .u32 b] w λe w'=>e= .returned (.tuple #[.int .u32 (aU op a b),.int .i64 0])/\Below w.heap.size w w':=by
 unfold cR at h
 split at h
 ·cases h
 rename_i h1
 split at h
 ·cases h
 rename_i h2
 have hc:op=8\/op=9\/op=10\/op=11\/op=12\/op=13\/op=14\/op=15\/op=16\/op=17\/op=18\/op=19\/op=20\/op=21\/op=22\/op=23\/op=24\/op=25\/op=26:=by omega
 rcases hc with rfl|rfl|rfl|rfl|rfl|rfl|rfl|rfl|rfl|rfl|rfl|rfl|rfl|rfl|rfl|rfl|rfl|rfl|rfl
 ·exact uX a b ha0 ha1 hb0 hb1 w
 ·exact uW a b ha0 ha1 hb0 hb1 w
 ·exact tE a b ha0 ha1 hb0 hb1 w
 ·exact tD a b ha0 ha1 hb0 hb1 (by omega) w
 ·exact tC a b ha0 ha1 hb0 hb1 (by omega) w
 ·exact tB a b ha0 ha1 hb0 hb1 w
 ·exact tA a b ha0 ha1 hb0 hb1 w
 ·exact tz a b ha0 ha1 hb0 hb1 w
 ·exact tv a b ha0 ha1 hb0 hb1 w
 ·exact tu a b ha0 ha1 hb0 hb1 w
 ·exact tr a b ha0 ha1 hb0 hb1 w
 ·exact tq a b ha0 ha1 hb0 hb1 w
 ·exact tp a b ha0 ha1 hb0 hb1 w
 ·exact tn a b ha0 ha1 hb0 hb1 w
 ·exact tm a b ha0 ha1 hb0 hb1 w
 ·exact tk a b ha0 ha1 hb0 hb1 w
 ·exact tj a b ha0 ha1 hb0 hb1 w
 ·exact ti a b ha0 ha1 hb0 hb1 w
 ·exact th a b ha0 ha1 hb0 hb1 w
theorem qq(op a b:Int)(ha0:0<=a)(ha1:a<4294967296)(hb0:0<=b)(hb1:b<4294967296)(h:cR op b≠0)(w:World):
  Calls Try.prog 61 #[.int .i64 op,.int .u32 a,.int .u32 b] w λe w'=>e= .returned (.tuple #[.int .u32 0,.int .i64 (cR op b)])/\Below w.heap.size w w':=by
 unfold cR at h ⊢
 by_cases h1:op<8\/26<op
 ·rw[if_pos h1]
  exact oz op a b h1 w
 ·rw[if_neg h1] at h ⊢
  by_cases h2:b=0/\(op=11\/op=12)
  ·rw[if_pos h2]
   obtain⟨rfl,rfl|rfl⟩:=h2
   ·exact qs a w
   ·exact qr a w
  ·rw[if_neg h2] at h;exact absurd rfl h
end Go.Proofs.Ytidhfimbnjaceaa